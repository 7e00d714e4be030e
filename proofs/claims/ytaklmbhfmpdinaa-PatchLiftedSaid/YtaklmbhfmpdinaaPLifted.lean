/- inlaylaw06.PatchLifted: it is true. Conditions: numbers within bounds. -/
import Derived.Test.YtaklmbhfmpdinaaKRefC
import Derived.Test.YtaklmbhfmpdinaaSanity6
import Derived.Test.YtaklmbhfmpdinaaPParts
namespace Go.Proofs.Ytaklmbhfmpdinaa
open Go Go.RowKit Go.Inl
set_option linter.unusedSimpArgs false
set_option linter.unusedVariables false
theorem g_neqbX {P : Program} {n : Nat} {σ : Nat → Value} {S : World → Prop} {t t' ty : TypeId} {x y : Operand} {a b : Bool} (hT : P.underlying t = some .bool) (hx : ev n σ x = .bool a) (hy : ev n σ y = .bool b) (h : a = b) : Gives P (ev n σ) S (.binOp .neq t x y t') ty (.bool false) := g_toV (g_neqb hT hx hy) (by subst h; simp)
/-- A patch that copies the first m of n bytes. -/
def cpP (b : Bool) (n m : Int) : PatL := ⟨b, n, m, [⟨1, 0, m, 0, []⟩]⟩
theorem cp_wf {b : Bool} {n m : Int} (h0 : 1 ≤ m) (h1 : m ≤ n) (h2 : n ≤ 65536) : (cpP b n m).wf := by
  refine ⟨⟨by show _ ≤ n; omega, by show n ≤ _; omega⟩, ⟨by show _ ≤ m; omega, by show m ≤ _; omega⟩, ?_, by simp [cpP]⟩
  intro x hx
  have hx' : x = ⟨1, 0, m, 0, []⟩ := by simpa [cpP] using hx
  subst hx'
  exact ⟨⟨by dsimp only; omega, by dsimp only; omega⟩, ⟨by dsimp only; omega, by dsimp only; omega⟩, ⟨by dsimp only; omega, by dsimp only; omega⟩, ⟨by dsimp only; omega, by dsimp only; omega⟩, by simp⟩
theorem cp_check {b : Bool} {n m : Int} (h0 : 1 ≤ m) (h1 : m ≤ n) (h2 : n ≤ 65536) : (checkP (cpP b n m)).2 = 0 := by
  refine checkP_right (by show 0 ≤ n ∧ n ≤ 65536; omega) ?_ ?_ (by show m ≤ 65536; omega) (by simp [cpP])
  · intro x hx
    have hx' : x = ⟨1, 0, m, 0, []⟩ := by simpa [cpP] using hx
    subst hx'
    refine ⟨by dsimp only; omega, ?_⟩
    simp [rightP, insideP, cpP]; omega
  · simp [cpP, symsOf, symsOp]; omega
theorem cp_syms {b : Bool} {n m : Int} (h0 : 1 ≤ m) : symsOf (cpP b n m).ops = (List.range m.toNat).map fun (j : Nat) => (⟨true, 0 + j, 0⟩ : Sym) := by
  have := wholeP_syms (n := m) (by omega)
  rw [wholeP_pos (by omega)] at this
  exact this
theorem cp_runs {b : Bool} {O : List Int} {m : Nat} (hb : Byts O) (h0 : 1 ≤ m) (h1 : m ≤ O.length) (h2 : O.length ≤ 65536) : runP O (symbolsP (cpP b O.length m)).1 = (O.take m, 0) := by
  have hk := cp_check (b := b) (n := (O.length : Int)) (m := (m : Int)) (by omega) (by omega) (by omega)
  rw [symbolsP_ok hk]
  show runP O (symsOf (cpP b (O.length : Int) (m : Int)).ops) = _
  rw [runP_right hk rfl, cp_syms (by omega), List.map_map]
  congr 1
  apply List.ext_getElem
  · simp; omega
  · intro i h3 h4
    rw [List.getElem_map, List.getElem_range, List.getElem_take]
    have hi : i < O.length := by rw [List.length_take] at h4; omega
    have hy : O[((0 : Int) + (i : Nat)).toNat]? = some O[i] := by rw [show ((0 : Int) + (i : Nat)).toNat = i by omega]; exact List.getElem?_eq_getElem hi
    show runB O ⟨true, 0 + (i : Nat), 0⟩ = O[i]
    rw [runB_old rfl hy, Int.zero_add, wrap8 (hb _ (List.getElem_mem hi))]
theorem words_of (W : List Int) (hW : Wrds W) : wordsN (bytesP W) ((bytesP W).length / 4) = W := by
  rw [bytesP_len, show 4 * W.length / 4 = W.length by omega, wordsN_bytes hW]
theorem code_of (W : List Int) (hW : Wrds W) : codeF (bytesP W) = formP (liftP W) := by unfold codeF; rw [words_of W hW]
theorem noCode_of {W : List Int} (h : W.length ≤ 16384) : noCode (bytesP W) = false := by
  unfold noCode; rw [bytesP_len, decide_eq_true (show 4 * W.length % 4 = 0 by omega), decide_eq_false (by omega)]; rfl
theorem noCode_one {W : List Int} : noCode (bytesP W ++ [1]) = true := by
  unfold noCode; rw [List.length_append, bytesP_len, decide_eq_false (show ¬ (4 * W.length + [(1 : Int)].length) % 4 = 0 by simp <;> omega)]; rfl
theorem cpl_whole {W : List Int} {n : Nat} (hW : Wrds W) (hl : W.length ≤ 64) (hn : 4 ≤ n) (hn2 : n ≤ 65536) : applyLP (bytesP W) (cpP true n n) = if (formP (liftP W)).length = n then (bytesP W, 0) else ([], 61) := by
  have hk := cp_check (b := true) (n := (n : Int)) (m := (n : Int)) (by omega) (by omega) (by omega)
  have hs : (symbolsP (cpP true n n)).2 = 0 := by rw [symbolsP_ok hk]
  unfold applyLP
  rw [if_pos hs, if_neg (by rw [noCode_of (by omega)]; decide), code_of W hW]
  by_cases h : (formP (liftP W)).length = n
  · have hr := cp_runs (b := true) (O := formP (liftP W)) (m := n) (formP_byts _) (by omega) (by omega) (by omega)
    rw [h, List.take_of_length_le (by omega)] at hr
    rw [if_pos (by show ((formP (liftP W)).length : Int) = (n : Int); omega), hr, if_pos rfl, if_pos h]
    dsimp only
    rw [readR_lift hW (by omega), if_pos rfl, lower_lift hW (by omega)]
  · rw [if_neg (by show ¬ ((formP (liftP W)).length : Int) = (n : Int); omega), if_neg h]
theorem cpl_odd {W : List Int} {n : Nat} (hn : 4 ≤ n) (hn2 : n ≤ 65536) : applyLP (bytesP W ++ [1]) (cpP true n n) = ([], 30) := by
  have hk := cp_check (b := true) (n := (n : Int)) (m := (n : Int)) (by omega) (by omega) (by omega)
  unfold applyLP
  rw [if_pos (by rw [symbolsP_ok hk]), if_pos noCode_one]
theorem cpl_short {W : List Int} {n : Nat} (hW : Wrds W) (hl : W.length ≤ 64) (hn : (formP (liftP W)).length = n + 1) (hn1 : 1 ≤ n) (hn2 : n + 1 ≤ 65536) : applyLP (bytesP W) (cpP true ((n : Int) + 1) n) = ([], 30) := by
  have hk := cp_check (b := true) (n := (n : Int) + 1) (m := (n : Int)) (by omega) (by omega) (by omega)
  have hs : (symbolsP (cpP true ((n : Int) + 1) n)).2 = 0 := by rw [symbolsP_ok hk]
  unfold applyLP
  have hr := cp_runs (b := true) (O := formP (liftP W)) (m := n) (formP_byts _) hn1 (by omega) (by omega)
  rw [hn] at hr
  have hr' : runP (formP (liftP W)) (symbolsP (cpP true ((n : Int) + 1) n)).1 = ((formP (liftP W)).take n, 0) := hr
  rw [if_pos hs, if_neg (by rw [noCode_of (by omega)]; decide), code_of W hW, if_pos (by show ((formP (liftP W)).length : Int) = (n : Int) + 1; omega), hr', if_pos rfl]
  dsimp only
  rw [if_neg (readR_short (liftP_ok hW (by omega)) (by omega))]
theorem lift_W (ad : Option Addr) (cap : Nat) (W : List Int) (X : LiftL) (w0 : World) (I0 : Imm) (hI : Sat I0 w0) (hl : RBytes I0 (.slice ad (bytesP W).length cap) (bytesP W)) (hW : Wrds W) (hn : W.length ≤ 64) (hX : liftP W = X) :
    Ctr Try.prog 12 [.slice ad (bytesP W).length cap] w0 (fun v w' => ∃ I' a0 c0 a1 c1 a2 c2, v = .tuple #[.agg #[.slice a0 X.words.length c0, .slice a1 X.marks.length c1, .slice a2 X.labels.length c2], .int .i64 0] ∧ Ext w0 I0 w' I' ∧ RLf I' a0 c0 a1 c1 a2 c2 X) :=
  lift_ok ad cap (bytesP W) X w0 I0 hI hl (bytesP_byts W) (noCode_of (by omega)) (by rw [words_of W hW]; exact hX)
theorem applyl_E (p : PatL) (ad bd : Option Addr) (m cap capb n : Nat) (old : List Int) (R : List Int) (e : Int) (w0 : World) (I0 : Imm) (hI : Sat I0 w0) (hops : ROps I0 (.slice ad m cap) p.ops) (hp : p.wf) (hl : p.lifted = true) (ho : RBytes I0 (.slice bd n capb) old) (hn : n = old.length) (hob : Byts old) (hon : n ≤ 4294967296) (hR : applyLP old p = (R, e)) :
    Ctr Try.prog 9 [.slice bd n capb, .agg #[.bool p.lifted, .int .i64 p.in_, .int .i64 p.out, .slice ad m cap]] w0 (fun v w' => ∃ I' a c, v = .tuple #[.slice a R.length c, .int .i64 e] ∧ Ext w0 I0 w' I' ∧ RBytes I' (.slice a R.length c) R) := by
  subst hn; exact applyl_c p ad bd m cap capb old R e w0 I0 hI hops hp hl ho hob hon hR
theorem whole_cp (z : Int) (N : Nat) (w0 : World) (I0 : Imm) (hI : Sat I0 w0) (hz : z = (N : Int)) (hn : 1 ≤ N) (h2 : N ≤ 65536) :
    Ctr Try.prog 14 [.int .i64 z] w0 (fun v w' => ∃ I' a m c, v = .agg #[.bool false, .int .i64 N, .int .i64 N, .slice a m c] ∧ Ext w0 I0 w' I' ∧ ROps I' (.slice a m c) (cpP true N N).ops) := by
  subst hz
  have := patchWhole_c (N : Int) w0 I0 hI (by omega)
  rw [wholeP_pos (by omega)] at this
  exact this

set_option maxRecDepth 20000 in
set_option maxHeartbeats 4000000 in
theorem plifted_c (ad bd : Option Addr) (cap capb : Nat) (l m : List Q4) (x0 x1 : Int) (w0 : World) (I0 : Imm) (hI : Sat I0 w0) (hl : RFl I0 4 q4C (.slice ad l.length cap) l) (hlq : ∀ q ∈ l, q.wf) (hm : RFl I0 4 q4C (.slice bd m.length capb) m) (hmq : ∀ q ∈ m, q.wf) :
    Ctr Try.prog 4 [.slice ad l.length cap, .slice bd m.length capb, .agg #[.int .u8 x0, .int .u8 x1]] w0 (fun v w' => ∃ I', v = .bool true ∧ Ext w0 I0 w' I') := by
  refine fn (n := 184) Try.func4 rfl rfl rfl ?_
  have hS := St.start hI
  refine wpIn_seq ?_
  refine reg ?_
  refine qe (d_box (cs := [.int .u8 _, .int .u8 _]) hS rfl) ?_
  clear hS
  rintro _ w_1 ⟨b5, rfl, hS⟩
  refine qq hS (g_assignv (v := .bool _) rfl) ?_
  refine ol_nil (thenN ?_)
  refine wpIn_seq ?_
  refine reg ?_
  refine qe (d_call Try.call5 rfl (sanity6_c _ _ hS.imm)) ?_
  rintro _ w_2 ⟨I_f, rfl, hE⟩
  replace hS := hS.callE hE
  replace hl := hl.mono hE.ext
  replace hm := hm.mono hE.ext
  refine qq hS (g_assignv (v := .bool _) rfl) ?_
  refine ol_nil (thenN ?_)
  refine wpIn_seq ?_
  refine reg ?_
  refine qq hS (g_move _) ?_
  refine qe (d_call Try.call11 rfl (code_c ad cap l 10 _ _ hS.imm hl hlq (by omega))) ?_
  rintro _ w_3 ⟨I_f, a28, c28, W, rfl, hE, h28, hWw, hWn⟩
  replace hS := hS.callE hE
  replace hl := hl.mono hE.ext
  replace hm := hm.mono hE.ext
  refine qq hS (g_move _) ?_
  refine qe (d_call Try.call11 rfl (code_c bd capb m 10 _ _ hS.imm hm hmq (by omega))) ?_
  rintro _ w_4 ⟨I_f, a30, c30, V, rfl, hE, h30, hVw, hVn⟩
  replace hS := hS.callE hE
  replace hl := hl.mono hE.ext
  replace hm := hm.mono hE.ext
  replace h28 := h28.mono hE.ext
  refine qq hS (g_assign _) ?_
  refine qq hS (g_assign _) ?_
  refine ol_nil (thenN ?_)
  refine wpIn_seq ?_
  obtain ⟨X, hX⟩ : ∃ X, liftP W = X := ⟨_, rfl⟩
  have hX1 : X.words.length = W.length := by rw [← hX]; exact liftW_len _ _ _
  have hX2 : X.marks.length = W.length := by rw [← hX]; exact liftM_len _ _
  have hX3 : X.labels.length ≤ W.length := by rw [← hX]; exact labelsP_len _
  have hXb : Wrds X.words ∧ Labs X.labels := by
    rw [← hX]
    exact ⟨liftP_wrds hWw (by omega), fun n hn => by have := liftP_labs (ws := W) (by omega) n hn; omega⟩
  have hXl := formP_len X
  have hWl := bytesP_len W
  obtain ⟨Y, hY⟩ : ∃ X, liftP V = X := ⟨_, rfl⟩
  have hY1 : Y.words.length = V.length := by rw [← hY]; exact liftW_len _ _ _
  have hY2 : Y.marks.length = V.length := by rw [← hY]; exact liftM_len _ _
  have hY3 : Y.labels.length ≤ V.length := by rw [← hY]; exact labelsP_len _
  have hYb : Wrds Y.words ∧ Labs Y.labels := by
    rw [← hY]
    exact ⟨liftP_wrds hVw (by omega), fun n hn => by have := liftP_labs (ws := V) (by omega) n hn; omega⟩
  have hYl := formP_len Y
  have hVl := bytesP_len V
  
  refine reg ?_
  refine qq hS (g_move _) ?_
  refine qe (d_call Try.call12 rfl (lift_W a28 c28 W X _ _ hS.imm h28 hWw (by omega) hX)) ?_
  rintro _ w_5 ⟨I_f, a0X, c0X, a1X, c1X, a2X, c2X, rfl, hE, h33⟩
  replace hS := hS.callE hE
  replace hl := hl.mono hE.ext
  replace hm := hm.mono hE.ext
  replace h28 := h28.mono hE.ext
  replace h30 := h30.mono hE.ext
  refine qq hS (g_move _) ?_
  refine qq hS (g_extract rfl rfl) ?_
  refine qq hS (g_extract (v := .int .i64 _) rfl rfl) ?_
  refine qe (d_alloc (cs := [.slice _ _ _, .slice _ _ _, .slice _ _ _]) hS Try.zeroValue54 rfl) ?_
  clear hS
  rintro _ w_6 ⟨b10, rfl, hS⟩
  refine qe (d_store 0 hS Try.sizeOf54 rfl rfl rfl (vs := [.slice _ _ _, .slice _ _ _, .slice _ _ _]) rfl rfl rfl (Nat.le_of_ble_eq_true rfl) (cs' := [_, _, _]) rfl) ?_
  clear hS
  rintro _ w_7 ⟨rfl, hS⟩
  refine qq hS (g_assignv (v := .int .i64 _) rfl) ?_
  refine ol_nil (thenN ?_)
  refine wpIn_seq ?_
  refine reg ?_
  refine qq hS (g_move _) ?_
  refine qe (d_call Try.call12 rfl (lift_W a30 c30 V Y _ _ hS.imm h30 hVw (by omega) hY)) ?_
  rintro _ w_8 ⟨I_f, a0Y, c0Y, a1Y, c1Y, a2Y, c2Y, rfl, hE, h38⟩
  replace hS := hS.callE hE
  replace hl := hl.mono hE.ext
  replace hm := hm.mono hE.ext
  replace h28 := h28.mono hE.ext
  replace h30 := h30.mono hE.ext
  replace h33 := h33.mono hE.ext
  refine qq hS (g_move _) ?_
  refine qq hS (g_extract rfl rfl) ?_
  refine qq hS (g_extract (v := .int .i64 _) rfl rfl) ?_
  refine qe (d_alloc (cs := [.slice _ _ _, .slice _ _ _, .slice _ _ _]) hS Try.zeroValue54 rfl) ?_
  clear hS
  rintro _ w_9 ⟨b12, rfl, hS⟩
  refine qe (d_store 0 hS Try.sizeOf54 rfl rfl rfl (vs := [.slice _ _ _, .slice _ _ _, .slice _ _ _]) rfl rfl rfl (Nat.le_of_ble_eq_true rfl) (cs' := [_, _, _]) rfl) ?_
  clear hS
  rintro _ w_10 ⟨rfl, hS⟩
  refine qq hS (g_assignv (v := .int .i64 _) rfl) ?_
  refine ol_nil (thenN ?_)
  refine wpIn_seq ?_
  refine wpIn_seq ?_
  refine reg ?_
  refine qq hS (g_movev (v := .int .i64 _) rfl) ?_
  refine qq hS (g_neqF rfl rfl (by omega)) ?_
  refine qq hS (g_movev (v := .bool _) rfl) ?_
  refine qqs rfl rfl hS (g_movev (v := .int .i64 _) rfl) ?_
  refine qqs rfl rfl hS (g_neqF rfl rfl (by omega)) ?_
  refine qq hS (g_or (b := false) rfl rfl (fun _ => rfl)) ?_
  refine qq hS (g_movev (v := .bool _) rfl) ?_
  refine qqs rfl rfl hS (g_fieldAddr (o' := 0) Try.underlying54 rfl Try.sizeOf50 rfl rfl rfl) ?_
  refine qqs rfl rfl hS (g_ldO1 1 Try.isAgg50 rfl rfl rfl) ?_
  refine qqs rfl rfl hS (g_lenI rfl Try.underlying50 h33.w rfl) ?_
  refine qqs rfl rfl hS (g_move _) ?_
  refine qqs rfl rfl hS (g_lenI rfl Try.underlying33 h28 rfl) ?_
  refine qqs rfl rfl hS (g_quo rfl rfl (by omega) (by omega) (by omega)) ?_
  refine qqs rfl rfl hS (g_neqF rfl rfl (by omega)) ?_
  refine qq hS (g_or (b := false) rfl rfl (fun _ => rfl)) ?_
  refine qq hS (g_movev (v := .bool _) rfl) ?_
  refine qqs rfl rfl hS (g_fieldAddr (o' := 0) Try.underlying54 rfl Try.sizeOf50 rfl rfl rfl) ?_
  refine qqs rfl rfl hS (g_ldO1 0 Try.isAgg50 rfl rfl rfl) ?_
  refine qqs rfl rfl hS (g_lenI rfl Try.underlying50 h38.w rfl) ?_
  refine qqs rfl rfl hS (g_move _) ?_
  refine qqs rfl rfl hS (g_lenI rfl Try.underlying33 h30 rfl) ?_
  refine qqs rfl rfl hS (g_quo rfl rfl (by omega) (by omega) (by omega)) ?_
  refine qqs rfl rfl hS (g_neqF rfl rfl (by omega)) ?_
  refine qq hS (g_or (b := false) rfl rfl (fun _ => rfl)) ?_
  refine qq hS (g_movev (v := .bool _) rfl) ?_
  refine qqs rfl rfl hS (g_fieldAddr (o' := 1) Try.underlying54 rfl Try.sizeOf51 rfl rfl rfl) ?_
  refine qqs rfl rfl hS (g_ldO1 1 Try.isAgg51 rfl rfl rfl) ?_
  refine qqs rfl rfl hS (g_lenI rfl Try.underlying51 h33.m rfl) ?_
  refine qqs rfl rfl hS (g_fieldAddr (o' := 0) Try.underlying54 rfl Try.sizeOf50 rfl rfl rfl) ?_
  refine qqs rfl rfl hS (g_ldO1 1 Try.isAgg50 rfl rfl rfl) ?_
  refine qqs rfl rfl hS (g_lenI rfl Try.underlying50 h33.w rfl) ?_
  refine qqs rfl rfl hS (g_neqF rfl rfl (by omega)) ?_
  refine qq hS (g_or (b := false) rfl rfl (fun _ => rfl)) ?_
  refine qq hS (g_movev (v := .bool _) rfl) ?_
  refine qqs rfl rfl hS (g_fieldAddr (o' := 1) Try.underlying54 rfl Try.sizeOf51 rfl rfl rfl) ?_
  refine qqs rfl rfl hS (g_ldO1 0 Try.isAgg51 rfl rfl rfl) ?_
  refine qqs rfl rfl hS (g_lenI rfl Try.underlying51 h38.m rfl) ?_
  refine qqs rfl rfl hS (g_fieldAddr (o' := 0) Try.underlying54 rfl Try.sizeOf50 rfl rfl rfl) ?_
  refine qqs rfl rfl hS (g_ldO1 0 Try.isAgg50 rfl rfl rfl) ?_
  refine qqs rfl rfl hS (g_lenI rfl Try.underlying50 h38.w rfl) ?_
  refine qqs rfl rfl hS (g_neqF rfl rfl (by omega)) ?_
  refine qq hS (g_or (b := false) rfl rfl (fun _ => rfl)) ?_
  refine qq hS (g_movev (v := .bool _) rfl) ?_
  refine qqs rfl rfl hS (g_fieldAddr (o' := 2) Try.underlying54 rfl Try.sizeOf52 rfl rfl rfl) ?_
  refine qqs rfl rfl hS (g_ldO1 1 Try.isAgg52 rfl rfl rfl) ?_
  refine qqs rfl rfl hS (g_lenI rfl Try.underlying52 h33.l rfl) ?_
  refine qqs rfl rfl hS (g_toV (g_gtr rfl rfl) (congrArg Value.bool (decide_eq_false (show ¬ (10 : Int) < (X.labels.length : Int) by omega)))) ?_
  refine qq hS (g_or (b := false) rfl rfl (fun _ => rfl)) ?_
  refine qq hS (g_movev (v := .bool _) rfl) ?_
  refine qqs rfl rfl hS (g_fieldAddr (o' := 2) Try.underlying54 rfl Try.sizeOf52 rfl rfl rfl) ?_
  refine qqs rfl rfl hS (g_ldO1 0 Try.isAgg52 rfl rfl rfl) ?_
  refine qqs rfl rfl hS (g_lenI rfl Try.underlying52 h38.l rfl) ?_
  refine qqs rfl rfl hS (g_toV (g_gtr rfl rfl) (congrArg Value.bool (decide_eq_false (show ¬ (10 : Int) < (Y.labels.length : Int) by omega)))) ?_
  refine qq hS (g_or (b := false) rfl rfl (fun _ => rfl)) ?_
  refine ol_nil (thenN ?_)
  refine cond_f (rfl) ?_
  refine wpIn_skip ?_
  refine thenN ?_
  refine wpIn_seq ?_
  refine draw (.cons 0 .held (.cons 3 .held (.cons 1 .eff (.cons 2 .pure (.cons 4 .eff (.cons 5 .pure (.cons 6 .pure (.cons 7 .pure .nil)))))))) mixed (by kernel_rfl) hS ?_
  intro w_11 hS
  refine sh rfl (g_ldO 1 (vs := [.slice _ _ _, .slice _ _ _, .slice _ _ _]) Try.sizeOf54 Try.isAgg54 rfl rfl rfl rfl) ?_
  refine sh rfl (g_ldO 0 (vs := [.slice _ _ _, .slice _ _ _, .slice _ _ _]) Try.sizeOf54 Try.isAgg54 rfl rfl rfl rfl) ?_
  have hS0 := hS
  refine se rfl (d_call Try.call13 rfl (lform_c X a0X a1X a2X c0X c1X c2X _ _ hS.imm h33 hXb.1 hXb.2 (by omega) (by omega) (by omega))) ?_
  rintro _ w_12 ⟨I_f, a96, c96, rfl, hE, h96⟩
  replace hS := hS.call hE
  replace hl := hl.mono hE.ext
  replace hm := hm.mono hE.ext
  replace h28 := h28.mono hE.ext
  replace h30 := h30.mono hE.ext
  replace h33 := h33.mono hE.ext
  replace h38 := h38.mono hE.ext
  refine ⟨_, _, hS0.le hE.ext (List.Sublist.refl _), hS, ?_⟩
  refine sp rfl (g_lenI rfl Try.underlying33 h96 rfl) ?_
  have hS0 := hS
  refine se rfl (d_call Try.call13 rfl (lform_c Y a0Y a1Y a2Y c0Y c1Y c2Y _ _ hS.imm h38 hYb.1 hYb.2 (by omega) (by omega) (by omega))) ?_
  rintro _ w_13 ⟨I_f, a99, c99, rfl, hE, h99⟩
  replace hS := hS.call hE
  replace hl := hl.mono hE.ext
  replace hm := hm.mono hE.ext
  replace h28 := h28.mono hE.ext
  replace h30 := h30.mono hE.ext
  replace h33 := h33.mono hE.ext
  replace h38 := h38.mono hE.ext
  replace h96 := h96.mono hE.ext
  refine ⟨_, _, hS0.le hE.ext (List.Sublist.refl _), hS, ?_⟩
  refine sp rfl (g_lenI rfl Try.underlying33 h99 rfl) ?_
  refine sp rfl (g_assignv (v := .int .i64 _) rfl) ?_
  refine sp rfl (g_assignv (v := .int .i64 _) rfl) ?_
  refine sn (thenN ?_)
  refine wpIn_seq ?_
  obtain ⟨N, hN⟩ : ∃ N, (formP X).length = N := ⟨_, rfl⟩
  obtain ⟨K, hK⟩ : ∃ K, N = K + 1 := ⟨N - 1, by omega⟩
  have hN4 : 4 ≤ N ∧ N ≤ 65536 := by omega
  have hpw := cp_wf (b := true) (n := (N : Int)) (m := (N : Int)) (by omega) (by omega) (by omega)
  have hqw := cp_wf (b := true) (n := (K : Int) + 1) (m := (K : Int)) (by omega) (by omega) (by omega)
  have hcX : applyLP (bytesP W) (cpP true N N) = (bytesP W, 0) := by rw [cpl_whole hWw (by omega) (by omega) (by omega), hX, if_pos hN]
  have hoddb : Byts (bytesP W ++ [1]) := fun y hy => by
    rcases List.mem_append.1 hy with h | h
    · exact bytesP_byts W y h
    · rw [List.mem_singleton] at h; subst h; decide
  refine reg ?_
  refine qq hS (g_movev (v := .int .i64 _) rfl) ?_
  refine qe (d_call Try.call14 rfl (whole_cp _ N _ _ hS.imm (by rw [hN]) (by omega) (by omega))) ?_
  rintro _ w_14 ⟨I_f, a102, m102, c102, rfl, hE, h102⟩
  replace hS := hS.callE hE
  replace hl := hl.mono hE.ext
  replace hm := hm.mono hE.ext
  replace h28 := h28.mono hE.ext
  replace h30 := h30.mono hE.ext
  replace h33 := h33.mono hE.ext
  replace h38 := h38.mono hE.ext
  replace h96 := h96.mono hE.ext
  replace h99 := h99.mono hE.ext
  refine qe (d_alloc (cs := [.bool _, .int .i64 _, .int .i64 _, .slice _ _ _]) hS Try.zeroValue24 rfl) ?_
  clear hS
  rintro _ w_15 ⟨b16, rfl, hS⟩
  refine qe (d_store 0 hS Try.sizeOf24 rfl rfl rfl (vs := [.bool _, .int .i64 _, .int .i64 _, .slice _ _ _]) rfl rfl rfl (Nat.le_of_ble_eq_true rfl) (cs' := [_, _, _, _]) rfl) ?_
  clear hS
  rintro _ w_16 ⟨rfl, hS⟩
  refine ol_nil (thenN ?_)
  refine wpIn_seq ?_
  refine reg ?_
  refine qq hS (g_fieldAddr (o' := 0) Try.underlying24 rfl Try.sizeOf4 rfl rfl rfl) ?_
  refine qe (d_store 0 hS Try.sizeOf4 rfl rfl rfl (vs := [.bool _]) rfl rfl rfl (Nat.le_of_ble_eq_true rfl) (cs' := [_, _, _, _]) rfl) ?_
  clear hS
  rintro _ w_17 ⟨rfl, hS⟩
  refine ol_nil (thenN ?_)
  refine wpIn_seq ?_
  refine reg ?_
  refine qq hS (g_move _) ?_
  refine qq hS (g_ldO 0 (vs := [.bool _, .int .i64 _, .int .i64 _, .slice _ _ _]) Try.sizeOf24 Try.isAgg24 rfl rfl rfl rfl) ?_
  refine qe (d_call Try.call9 rfl (applyl_E (cpP true N N) _ _ _ _ _ _ (bytesP W) (bytesP W) 0 _ _ hS.imm h102 hpw rfl h28 rfl (bytesP_byts _) (by rw [bytesP_len]; omega) hcX)) ?_
  rintro _ w_18 ⟨I_f, a107, c107, rfl, hE, h107⟩
  replace hS := hS.callE hE
  replace hl := hl.mono hE.ext
  replace hm := hm.mono hE.ext
  replace h28 := h28.mono hE.ext
  replace h30 := h30.mono hE.ext
  replace h33 := h33.mono hE.ext
  replace h38 := h38.mono hE.ext
  replace h96 := h96.mono hE.ext
  replace h99 := h99.mono hE.ext
  replace h102 := h102.mono hE.ext
  refine qq hS (g_move _) ?_
  refine qq hS (g_extract rfl rfl) ?_
  refine qq hS (g_extract (v := .int .i64 _) rfl rfl) ?_
  refine qq hS (g_assign _) ?_
  refine qq hS (g_assignv (v := .int .i64 _) rfl) ?_
  refine ol_nil (thenN ?_)
  refine wpIn_seq ?_
  have hkn : (formP Y).length = N ∨ (formP Y).length ≠ N := by omega
  refine hkn.elim (fun hkn => ?_) (fun hkn => ?_)
  ·
    have hcY : applyLP (bytesP V) (cpP true N N) = (bytesP V, 0) := by rw [cpl_whole hVw (by omega) (by omega) (by omega), hY, if_pos hkn]
    refine reg ?_
    refine qq hS (g_move _) ?_
    refine qq hS (g_ldO 0 (vs := [.bool _, .int .i64 _, .int .i64 _, .slice _ _ _]) Try.sizeOf24 Try.isAgg24 rfl rfl rfl rfl) ?_
    refine qe (d_call Try.call9 rfl (applyl_E (cpP true N N) _ _ _ _ _ _ (bytesP V) (bytesP V) 0 _ _ hS.imm h102 hpw rfl h30 rfl (bytesP_byts _) (by rw [bytesP_len]; omega) hcY)) ?_
    rintro _ w_19 ⟨I_f, a113, c113, rfl, hE, h113⟩
    replace hS := hS.callE hE
    replace hl := hl.mono hE.ext
    replace hm := hm.mono hE.ext
    replace h28 := h28.mono hE.ext
    replace h30 := h30.mono hE.ext
    replace h33 := h33.mono hE.ext
    replace h38 := h38.mono hE.ext
    replace h96 := h96.mono hE.ext
    replace h99 := h99.mono hE.ext
    replace h102 := h102.mono hE.ext
    replace h107 := h107.mono hE.ext
    refine qq hS (g_move _) ?_
    refine qq hS (g_extract rfl rfl) ?_
    refine qq hS (g_extract (v := .int .i64 _) rfl rfl) ?_
    refine qq hS (g_assign _) ?_
    refine qq hS (g_assignv (v := .int .i64 _) rfl) ?_
    refine ol_nil (thenN ?_)
    refine wpIn_seq ?_
    refine wpIn_seq ?_
    refine reg ?_
    refine qq hS (g_movev (v := .int .i64 _) rfl) ?_
    refine qq hS (g_neqF rfl rfl (by omega)) ?_
    refine qq hS (g_movev (v := .bool _) rfl) ?_
    refine qqs rfl rfl hS (g_move _) ?_
    refine qqs rfl rfl hS (g_move _) ?_
    refine qes rfl rfl (d_call Try.call15 rfl (sameB_E _ _ (bytesP W) (bytesP W) _ _ hS.imm h107 h28 rfl)) ?_
    rintro _ w_20 ⟨rfl, hE⟩
    replace hS := hS.callE hE
    refine qqs rfl rfl hS (g_not rfl) ?_
    refine qq hS (g_or (b := false) rfl rfl (fun _ => rfl)) ?_
    refine qq hS (g_movev (v := .bool _) rfl) ?_
    refine qqs rfl rfl hS (g_movev (v := .int .i64 _) rfl) ?_
    refine qqs rfl rfl hS (g_toV (g_eql rfl rfl) (congrArg Value.bool (decide_eq_true rfl))) ?_
    refine qqs rfl rfl hS (g_movev (v := .int .i64 _) rfl) ?_
    refine qqs rfl rfl hS (g_movev (v := .int .i64 _) rfl) ?_
    refine qqs rfl rfl hS (g_toV (g_eql rfl rfl) (congrArg Value.bool (decide_eq_true (by omega)))) ?_
    refine qqs rfl rfl hS (g_neqbX Try.underlying4 rfl rfl rfl) ?_
    refine qq hS (g_or (b := false) rfl rfl (fun _ => rfl)) ?_
    refine qq hS (g_movev (v := .bool _) rfl) ?_
    refine qqs rfl rfl hS (g_movev (v := .int .i64 _) rfl) ?_
    refine qqs rfl rfl hS (g_neqF rfl rfl rfl) ?_
    refine qqs rfl rfl hS (g_movev (v := .bool _) rfl) ?_
    refine qsf rfl rfl rfl ?_
    refine qsf rfl rfl rfl ?_
    refine qqs rfl rfl hS (g_and (b := false) rfl rfl (fun h => (by cases h))) ?_
    refine qq hS (g_or (b := false) rfl rfl (fun _ => rfl)) ?_
    refine qq hS (g_movev (v := .bool _) rfl) ?_
    refine qqs rfl rfl hS (g_movev (v := .int .i64 _) rfl) ?_
    refine qqs rfl rfl hS (g_toV (g_eql rfl rfl) (congrArg Value.bool (decide_eq_true rfl))) ?_
    refine qqs rfl rfl hS (g_movev (v := .bool _) rfl) ?_
    refine qqs rfl rfl hS (g_move _) ?_
    refine qqs rfl rfl hS (g_move _) ?_
    refine qes rfl rfl (d_call Try.call15 rfl (sameB_E _ _ (bytesP V) (bytesP V) _ _ hS.imm h113 h30 rfl)) ?_
    rintro _ w_21 ⟨rfl, hE⟩
    replace hS := hS.callE hE
    refine qqs rfl rfl hS (g_not rfl) ?_
    refine qqs rfl rfl hS (g_and (b := false) rfl rfl (fun _ => rfl)) ?_
    refine qq hS (g_or (b := false) rfl rfl (fun _ => rfl)) ?_
    refine ol_nil (thenN ?_)
    refine cond_f (rfl) ?_
    refine wpIn_skip ?_
    refine thenN ?_
    refine wpIn_seq ?_
    refine reg ?_
    refine qe (d_buildSlice0 hS Try.underlying33 Try.sizeOf5) ?_
    clear hS
    rintro _ w_22 ⟨hS, b150_, rfl⟩
    refine qq hS (g_move _) ?_
    refine qe (i_appendF 0 hS rfl Try.underlying33 info5 rfl rfl rfl rfl byteC_len (fun _ => rfl) h28 rfl (by omega) (by omega)) ?_
    clear hS
    rintro _ w_23 ⟨a152, p152, rfl, hS⟩
    refine qq hS (g_assign _) ?_
    refine ol_nil (thenN ?_)
    refine wpIn_seq ?_
    refine reg ?_
    refine qq hS (g_move _) ?_
    refine qe (d_lit (vs := [.int .u8 _]) (cs := [.int .u8 _]) hS Try.underlying33 Try.sizeOf5 Try.zeroValue5 rfl rfl rfl rfl (fun v hv => by simp only [List.mem_cons, List.not_mem_nil, or_false] at hv; subst hv; rfl) rfl) ?_
    clear hS
    rintro _ w_24 ⟨b154, rfl, hS⟩
    refine qe (i_appendO 1 0 hS rfl Try.underlying33 info5 rfl rfl rfl rfl rfl rfl rfl rfl (by omega) (by omega)) ?_
    clear hS
    rintro _ w_25 ⟨a155, p155, rfl, hS⟩
    refine qq hS (g_assign _) ?_
    refine ol_nil (thenN ?_)
    refine wpIn_seq ?_
    have hF := St.freezeRow (u := .slice a155 (0 + (bytesP W).length + 1) p155) (m := 0 + (bytesP W).length + 1) (xs := bytesP W ++ [1]) byteC_len (by rw [flat_append]; exact hS.ord [1, 0, 2, 3, 4, 5]) (by simp)
    clear hS
    obtain ⟨I_hodd, hS, hI_hodd, hodd⟩ := hF
    replace hl := hl.mono hI_hodd
    replace hm := hm.mono hI_hodd
    replace h28 := h28.mono hI_hodd
    replace h30 := h30.mono hI_hodd
    replace h33 := h33.mono hI_hodd
    replace h38 := h38.mono hI_hodd
    replace h96 := h96.mono hI_hodd
    replace h99 := h99.mono hI_hodd
    replace h102 := h102.mono hI_hodd
    replace h107 := h107.mono hI_hodd
    replace h113 := h113.mono hI_hodd
    refine reg ?_
    refine qq hS (g_move _) ?_
    refine qq hS (g_ldO 1 (vs := [.bool _, .int .i64 _, .int .i64 _, .slice _ _ _]) Try.sizeOf24 Try.isAgg24 rfl rfl rfl rfl) ?_
    refine qe (d_call Try.call9 rfl (applyl_E (cpP true N N) _ _ _ _ _ _ (bytesP W ++ [1]) [] 30 _ _ hS.imm h102 hpw rfl hodd (by rw [List.length_append]; simp) hoddb (by simp; omega) (cpl_odd (by omega) (by omega)))) ?_
    rintro _ w_26 ⟨I_f, a159, c159, rfl, hE, h159⟩
    replace hS := hS.callE hE
    replace hl := hl.mono hE.ext
    replace hm := hm.mono hE.ext
    replace h28 := h28.mono hE.ext
    replace h30 := h30.mono hE.ext
    replace h33 := h33.mono hE.ext
    replace h38 := h38.mono hE.ext
    replace h96 := h96.mono hE.ext
    replace h99 := h99.mono hE.ext
    replace h102 := h102.mono hE.ext
    replace h107 := h107.mono hE.ext
    replace h113 := h113.mono hE.ext
    replace hodd := hodd.mono hE.ext
    refine qq hS (g_move _) ?_
    refine qq hS (g_extract rfl rfl) ?_
    refine qq hS (g_extract (v := .int .i64 _) rfl rfl) ?_
    refine qq hS (g_assign _) ?_
    refine qq hS (g_assignv (v := .int .i64 _) rfl) ?_
    refine ol_nil (thenN ?_)
    refine wpIn_seq ?_
    refine reg ?_
    refine qq hS (g_move _) ?_
    refine qq hS (g_movev (v := .int .i64 ((K : Int) + 1)) (congrArg (Value.int .i64) (show ((formP X).length : Int) = (K : Int) + 1 by omega))) ?_
    refine qq hS (g_movev (v := .int .i64 _) rfl) ?_
    refine qq hS (g_toV (g_sub rfl rfl (by omega) (by omega)) (congrArg (Value.int .i64) (show ((formP X).length : Int) - 1 = (K : Int) by omega))) ?_
    refine qq hS (g_movev (v := .int .i64 _) rfl) ?_
    refine qq hS (g_toV (g_sub rfl rfl (by omega) (by omega)) (congrArg (Value.int .i64) (show ((formP X).length : Int) - 1 = (K : Int) by omega))) ?_
    refine qq hS (g_buildv (pl := [(0, 1), (1, 1), (2, 1), (3, 1), (4, 1)]) (cs := [.int .i64 _, .int .i64 _, .int .i64 _, .int .u8 _, .slice _ _ _]) Try.zeroValue35 Try.underlying35 (fun w => by simp [Try.sizeOf3, Try.sizeOf33, Try.sizeOf5]) (mp (v := .int .i64 _) rfl (mp (v := .int .i64 _) rfl mp0)) rfl) ?_
    refine qe (d_lit (vs := [.agg #[.int .i64 _, .int .i64 _, .int .i64 _, .int .u8 _, .slice _ _ _]]) (cs := [.int .i64 _, .int .i64 _, .int .i64 _, .int .u8 _, .slice _ _ _]) hS Try.underlying22 Try.sizeOf35 Try.zeroValue35 rfl rfl rfl rfl (fun v hv => by simp only [List.mem_cons, List.not_mem_nil, or_false] at hv; subst hv; rfl) rfl) ?_
    clear hS
    rintro _ w_27 ⟨b170, rfl, hS⟩
    have hF := hS.freeze1
    clear hS
    obtain ⟨I170, hS, hI170, hb170⟩ := hF
    replace hl := hl.mono hI170
    replace hm := hm.mono hI170
    replace h28 := h28.mono hI170
    replace h30 := h30.mono hI170
    replace h33 := h33.mono hI170
    replace h38 := h38.mono hI170
    replace h96 := h96.mono hI170
    replace h99 := h99.mono hI170
    replace h102 := h102.mono hI170
    replace h107 := h107.mono hI170
    replace h113 := h113.mono hI170
    replace hodd := hodd.mono hI170
    replace h159 := h159.mono hI170
    have h170 : ROps _ (.slice (some ⟨b170, 0, none⟩) 1 1) (cpP true ((K : Int) + 1) (K : Int)).ops := RSl.ofAt (css := [[.int .i64 1, .int .i64 0, .int .i64 (K : Int), .int .u8 0, .slice none 0 0]]) hb170 rfl (by simp) (All2.one ⟨none, 0, 0, rfl, RFl.nil⟩) rfl (by show 1 ≤ maxLen; decide)
    refine qq hS (g_buildv (pl := [(0, 1), (1, 1), (2, 1), (3, 1)]) (cs := [.bool _, .int .i64 _, .int .i64 _, .slice _ _ _]) Try.zeroValue24 Try.underlying24 (fun w => by simp [Try.sizeOf22, Try.sizeOf3, Try.sizeOf4]) (mp (v := .bool _) rfl (mp (v := .int .i64 _) rfl (mp (v := .int .i64 _) rfl (mp (v := .slice _ _ _) rfl mp0)))) rfl) ?_
    refine qe (d_call Try.call9 rfl (applyl_E (cpP true ((K : Int) + 1) (K : Int)) _ _ _ _ _ _ (bytesP W) [] 30 _ _ hS.imm h170 hqw rfl h28 rfl (bytesP_byts _) (by omega) (cpl_short hWw (by omega) (by rw [hX]; omega) (by omega) (by omega)))) ?_
    rintro _ w_28 ⟨I_f, a172, c172, rfl, hE, h172⟩
    replace hS := hS.callE hE
    replace hl := hl.mono hE.ext
    replace hm := hm.mono hE.ext
    replace h28 := h28.mono hE.ext
    replace h30 := h30.mono hE.ext
    replace h33 := h33.mono hE.ext
    replace h38 := h38.mono hE.ext
    replace h96 := h96.mono hE.ext
    replace h99 := h99.mono hE.ext
    replace h102 := h102.mono hE.ext
    replace h107 := h107.mono hE.ext
    replace h113 := h113.mono hE.ext
    replace hodd := hodd.mono hE.ext
    replace h159 := h159.mono hE.ext
    replace h170 := h170.mono hE.ext
    refine qq hS (g_move _) ?_
    refine qq hS (g_extract rfl rfl) ?_
    refine qq hS (g_extract (v := .int .i64 _) rfl rfl) ?_
    refine qq hS (g_assign _) ?_
    refine qq hS (g_assignv (v := .int .i64 _) rfl) ?_
    refine ol_nil (thenN ?_)
    refine wpIn_seq ?_
    refine reg ?_
    refine qq hS (g_movev (v := .int .i64 _) rfl) ?_
    refine qq hS (g_toV (g_eql rfl rfl) (congrArg Value.bool (decide_eq_true rfl))) ?_
    refine qq hS (g_movev (v := .bool _) rfl) ?_
    refine qqs rfl rfl hS (g_movev (v := .int .i64 _) rfl) ?_
    refine qqs rfl rfl hS (g_toV (g_eql rfl rfl) (congrArg Value.bool (decide_eq_true rfl))) ?_
    refine qq hS (g_and (b := true) rfl rfl (fun _ => rfl)) ?_
    refine qq hS (g_movev (v := .bool _) rfl) ?_
    refine qqs rfl rfl hS (g_movev (v := .bool _) rfl) ?_
    refine qq hS (g_and (b := true) rfl rfl (fun _ => rfl)) ?_
    refine qq hS (g_assignv (v := .bool _) rfl) ?_
    refine ol_nil (thenN ?_)
    refine wpIn_ret ?_
    refine ret1 Try.results4 (rv_tmp (v := .bool _) rfl) ?_
    exact ⟨_, rfl, hS.nil⟩
  ·
    have hcY : applyLP (bytesP V) (cpP true N N) = ([], 61) := by rw [cpl_whole hVw (by omega) (by omega) (by omega), hY, if_neg hkn]
    refine reg ?_
    refine qq hS (g_move _) ?_
    refine qq hS (g_ldO 0 (vs := [.bool _, .int .i64 _, .int .i64 _, .slice _ _ _]) Try.sizeOf24 Try.isAgg24 rfl rfl rfl rfl) ?_
    refine qe (d_call Try.call9 rfl (applyl_E (cpP true N N) _ _ _ _ _ _ (bytesP V) [] 61 _ _ hS.imm h102 hpw rfl h30 rfl (bytesP_byts _) (by rw [bytesP_len]; omega) hcY)) ?_
    rintro _ w_29 ⟨I_f, a113, c113, rfl, hE, h113⟩
    replace hS := hS.callE hE
    replace hl := hl.mono hE.ext
    replace hm := hm.mono hE.ext
    replace h28 := h28.mono hE.ext
    replace h30 := h30.mono hE.ext
    replace h33 := h33.mono hE.ext
    replace h38 := h38.mono hE.ext
    replace h96 := h96.mono hE.ext
    replace h99 := h99.mono hE.ext
    replace h102 := h102.mono hE.ext
    replace h107 := h107.mono hE.ext
    refine qq hS (g_move _) ?_
    refine qq hS (g_extract rfl rfl) ?_
    refine qq hS (g_extract (v := .int .i64 _) rfl rfl) ?_
    refine qq hS (g_assign _) ?_
    refine qq hS (g_assignv (v := .int .i64 _) rfl) ?_
    refine ol_nil (thenN ?_)
    refine wpIn_seq ?_
    refine wpIn_seq ?_
    refine reg ?_
    refine qq hS (g_movev (v := .int .i64 _) rfl) ?_
    refine qq hS (g_neqF rfl rfl (by omega)) ?_
    refine qq hS (g_movev (v := .bool _) rfl) ?_
    refine qqs rfl rfl hS (g_move _) ?_
    refine qqs rfl rfl hS (g_move _) ?_
    refine qes rfl rfl (d_call Try.call15 rfl (sameB_E _ _ (bytesP W) (bytesP W) _ _ hS.imm h107 h28 rfl)) ?_
    rintro _ w_30 ⟨rfl, hE⟩
    replace hS := hS.callE hE
    refine qqs rfl rfl hS (g_not rfl) ?_
    refine qq hS (g_or (b := false) rfl rfl (fun _ => rfl)) ?_
    refine qq hS (g_movev (v := .bool _) rfl) ?_
    refine qqs rfl rfl hS (g_movev (v := .int .i64 _) rfl) ?_
    refine qqs rfl rfl hS (g_toV (g_eql rfl rfl) (congrArg Value.bool (decide_eq_false (by decide)))) ?_
    refine qqs rfl rfl hS (g_movev (v := .int .i64 _) rfl) ?_
    refine qqs rfl rfl hS (g_movev (v := .int .i64 _) rfl) ?_
    refine qqs rfl rfl hS (g_toV (g_eql rfl rfl) (congrArg Value.bool (decide_eq_false (by omega)))) ?_
    refine qqs rfl rfl hS (g_neqbX Try.underlying4 rfl rfl rfl) ?_
    refine qq hS (g_or (b := false) rfl rfl (fun _ => rfl)) ?_
    refine qq hS (g_movev (v := .bool _) rfl) ?_
    refine qqs rfl rfl hS (g_movev (v := .int .i64 _) rfl) ?_
    refine qqs rfl rfl hS (g_neqT rfl rfl (by decide)) ?_
    refine qqs rfl rfl hS (g_movev (v := .bool _) rfl) ?_
    refine qqs rfl rfl hS (g_movev (v := .int .i64 _) rfl) ?_
    refine qqs rfl rfl hS (g_neqF rfl rfl rfl) ?_
    refine qqs rfl rfl hS (g_and (b := false) rfl rfl (fun _ => rfl)) ?_
    refine qq hS (g_or (b := false) rfl rfl (fun _ => rfl)) ?_
    refine qq hS (g_movev (v := .bool _) rfl) ?_
    refine qqs rfl rfl hS (g_movev (v := .int .i64 _) rfl) ?_
    refine qqs rfl rfl hS (g_toV (g_eql rfl rfl) (congrArg Value.bool (decide_eq_false (by decide)))) ?_
    refine qqs rfl rfl hS (g_movev (v := .bool _) rfl) ?_
    refine qsf rfl rfl rfl ?_
    refine qsf rfl rfl rfl ?_
    refine qsf rfl rfl rfl ?_
    refine qsf rfl rfl rfl ?_
    refine qqs rfl rfl hS (g_and (b := false) rfl rfl (fun h => (by cases h))) ?_
    refine qq hS (g_or (b := false) rfl rfl (fun _ => rfl)) ?_
    refine ol_nil (thenN ?_)
    refine cond_f (rfl) ?_
    refine wpIn_skip ?_
    refine thenN ?_
    refine wpIn_seq ?_
    refine reg ?_
    refine qe (d_buildSlice0 hS Try.underlying33 Try.sizeOf5) ?_
    clear hS
    rintro _ w_31 ⟨hS, b150_, rfl⟩
    refine qq hS (g_move _) ?_
    refine qe (i_appendF 0 hS rfl Try.underlying33 info5 rfl rfl rfl rfl byteC_len (fun _ => rfl) h28 rfl (by omega) (by omega)) ?_
    clear hS
    rintro _ w_32 ⟨a152, p152, rfl, hS⟩
    refine qq hS (g_assign _) ?_
    refine ol_nil (thenN ?_)
    refine wpIn_seq ?_
    refine reg ?_
    refine qq hS (g_move _) ?_
    refine qe (d_lit (vs := [.int .u8 _]) (cs := [.int .u8 _]) hS Try.underlying33 Try.sizeOf5 Try.zeroValue5 rfl rfl rfl rfl (fun v hv => by simp only [List.mem_cons, List.not_mem_nil, or_false] at hv; subst hv; rfl) rfl) ?_
    clear hS
    rintro _ w_33 ⟨b154, rfl, hS⟩
    refine qe (i_appendO 1 0 hS rfl Try.underlying33 info5 rfl rfl rfl rfl rfl rfl rfl rfl (by omega) (by omega)) ?_
    clear hS
    rintro _ w_34 ⟨a155, p155, rfl, hS⟩
    refine qq hS (g_assign _) ?_
    refine ol_nil (thenN ?_)
    refine wpIn_seq ?_
    have hF := St.freezeRow (u := .slice a155 (0 + (bytesP W).length + 1) p155) (m := 0 + (bytesP W).length + 1) (xs := bytesP W ++ [1]) byteC_len (by rw [flat_append]; exact hS.ord [1, 0, 2, 3, 4, 5]) (by simp)
    clear hS
    obtain ⟨I_hodd, hS, hI_hodd, hodd⟩ := hF
    replace hl := hl.mono hI_hodd
    replace hm := hm.mono hI_hodd
    replace h28 := h28.mono hI_hodd
    replace h30 := h30.mono hI_hodd
    replace h33 := h33.mono hI_hodd
    replace h38 := h38.mono hI_hodd
    replace h96 := h96.mono hI_hodd
    replace h99 := h99.mono hI_hodd
    replace h102 := h102.mono hI_hodd
    replace h107 := h107.mono hI_hodd
    replace h113 := h113.mono hI_hodd
    refine reg ?_
    refine qq hS (g_move _) ?_
    refine qq hS (g_ldO 1 (vs := [.bool _, .int .i64 _, .int .i64 _, .slice _ _ _]) Try.sizeOf24 Try.isAgg24 rfl rfl rfl rfl) ?_
    refine qe (d_call Try.call9 rfl (applyl_E (cpP true N N) _ _ _ _ _ _ (bytesP W ++ [1]) [] 30 _ _ hS.imm h102 hpw rfl hodd (by rw [List.length_append]; simp) hoddb (by simp; omega) (cpl_odd (by omega) (by omega)))) ?_
    rintro _ w_35 ⟨I_f, a159, c159, rfl, hE, h159⟩
    replace hS := hS.callE hE
    replace hl := hl.mono hE.ext
    replace hm := hm.mono hE.ext
    replace h28 := h28.mono hE.ext
    replace h30 := h30.mono hE.ext
    replace h33 := h33.mono hE.ext
    replace h38 := h38.mono hE.ext
    replace h96 := h96.mono hE.ext
    replace h99 := h99.mono hE.ext
    replace h102 := h102.mono hE.ext
    replace h107 := h107.mono hE.ext
    replace h113 := h113.mono hE.ext
    replace hodd := hodd.mono hE.ext
    refine qq hS (g_move _) ?_
    refine qq hS (g_extract rfl rfl) ?_
    refine qq hS (g_extract (v := .int .i64 _) rfl rfl) ?_
    refine qq hS (g_assign _) ?_
    refine qq hS (g_assignv (v := .int .i64 _) rfl) ?_
    refine ol_nil (thenN ?_)
    refine wpIn_seq ?_
    refine reg ?_
    refine qq hS (g_move _) ?_
    refine qq hS (g_movev (v := .int .i64 ((K : Int) + 1)) (congrArg (Value.int .i64) (show ((formP X).length : Int) = (K : Int) + 1 by omega))) ?_
    refine qq hS (g_movev (v := .int .i64 _) rfl) ?_
    refine qq hS (g_toV (g_sub rfl rfl (by omega) (by omega)) (congrArg (Value.int .i64) (show ((formP X).length : Int) - 1 = (K : Int) by omega))) ?_
    refine qq hS (g_movev (v := .int .i64 _) rfl) ?_
    refine qq hS (g_toV (g_sub rfl rfl (by omega) (by omega)) (congrArg (Value.int .i64) (show ((formP X).length : Int) - 1 = (K : Int) by omega))) ?_
    refine qq hS (g_buildv (pl := [(0, 1), (1, 1), (2, 1), (3, 1), (4, 1)]) (cs := [.int .i64 _, .int .i64 _, .int .i64 _, .int .u8 _, .slice _ _ _]) Try.zeroValue35 Try.underlying35 (fun w => by simp [Try.sizeOf3, Try.sizeOf33, Try.sizeOf5]) (mp (v := .int .i64 _) rfl (mp (v := .int .i64 _) rfl mp0)) rfl) ?_
    refine qe (d_lit (vs := [.agg #[.int .i64 _, .int .i64 _, .int .i64 _, .int .u8 _, .slice _ _ _]]) (cs := [.int .i64 _, .int .i64 _, .int .i64 _, .int .u8 _, .slice _ _ _]) hS Try.underlying22 Try.sizeOf35 Try.zeroValue35 rfl rfl rfl rfl (fun v hv => by simp only [List.mem_cons, List.not_mem_nil, or_false] at hv; subst hv; rfl) rfl) ?_
    clear hS
    rintro _ w_36 ⟨b170, rfl, hS⟩
    have hF := hS.freeze1
    clear hS
    obtain ⟨I170, hS, hI170, hb170⟩ := hF
    replace hl := hl.mono hI170
    replace hm := hm.mono hI170
    replace h28 := h28.mono hI170
    replace h30 := h30.mono hI170
    replace h33 := h33.mono hI170
    replace h38 := h38.mono hI170
    replace h96 := h96.mono hI170
    replace h99 := h99.mono hI170
    replace h102 := h102.mono hI170
    replace h107 := h107.mono hI170
    replace h113 := h113.mono hI170
    replace hodd := hodd.mono hI170
    replace h159 := h159.mono hI170
    have h170 : ROps _ (.slice (some ⟨b170, 0, none⟩) 1 1) (cpP true ((K : Int) + 1) (K : Int)).ops := RSl.ofAt (css := [[.int .i64 1, .int .i64 0, .int .i64 (K : Int), .int .u8 0, .slice none 0 0]]) hb170 rfl (by simp) (All2.one ⟨none, 0, 0, rfl, RFl.nil⟩) rfl (by show 1 ≤ maxLen; decide)
    refine qq hS (g_buildv (pl := [(0, 1), (1, 1), (2, 1), (3, 1)]) (cs := [.bool _, .int .i64 _, .int .i64 _, .slice _ _ _]) Try.zeroValue24 Try.underlying24 (fun w => by simp [Try.sizeOf22, Try.sizeOf3, Try.sizeOf4]) (mp (v := .bool _) rfl (mp (v := .int .i64 _) rfl (mp (v := .int .i64 _) rfl (mp (v := .slice _ _ _) rfl mp0)))) rfl) ?_
    refine qe (d_call Try.call9 rfl (applyl_E (cpP true ((K : Int) + 1) (K : Int)) _ _ _ _ _ _ (bytesP W) [] 30 _ _ hS.imm h170 hqw rfl h28 rfl (bytesP_byts _) (by omega) (cpl_short hWw (by omega) (by rw [hX]; omega) (by omega) (by omega)))) ?_
    rintro _ w_37 ⟨I_f, a172, c172, rfl, hE, h172⟩
    replace hS := hS.callE hE
    replace hl := hl.mono hE.ext
    replace hm := hm.mono hE.ext
    replace h28 := h28.mono hE.ext
    replace h30 := h30.mono hE.ext
    replace h33 := h33.mono hE.ext
    replace h38 := h38.mono hE.ext
    replace h96 := h96.mono hE.ext
    replace h99 := h99.mono hE.ext
    replace h102 := h102.mono hE.ext
    replace h107 := h107.mono hE.ext
    replace h113 := h113.mono hE.ext
    replace hodd := hodd.mono hE.ext
    replace h159 := h159.mono hE.ext
    replace h170 := h170.mono hE.ext
    refine qq hS (g_move _) ?_
    refine qq hS (g_extract rfl rfl) ?_
    refine qq hS (g_extract (v := .int .i64 _) rfl rfl) ?_
    refine qq hS (g_assign _) ?_
    refine qq hS (g_assignv (v := .int .i64 _) rfl) ?_
    refine ol_nil (thenN ?_)
    refine wpIn_seq ?_
    refine reg ?_
    refine qq hS (g_movev (v := .int .i64 _) rfl) ?_
    refine qq hS (g_toV (g_eql rfl rfl) (congrArg Value.bool (decide_eq_true rfl))) ?_
    refine qq hS (g_movev (v := .bool _) rfl) ?_
    refine qqs rfl rfl hS (g_movev (v := .int .i64 _) rfl) ?_
    refine qqs rfl rfl hS (g_toV (g_eql rfl rfl) (congrArg Value.bool (decide_eq_true rfl))) ?_
    refine qq hS (g_and (b := true) rfl rfl (fun _ => rfl)) ?_
    refine qq hS (g_movev (v := .bool _) rfl) ?_
    refine qqs rfl rfl hS (g_movev (v := .bool _) rfl) ?_
    refine qq hS (g_and (b := true) rfl rfl (fun _ => rfl)) ?_
    refine qq hS (g_assignv (v := .bool _) rfl) ?_
    refine ol_nil (thenN ?_)
    refine wpIn_ret ?_
    refine ret1 Try.results4 (rv_tmp (v := .bool _) rfl) ?_
    exact ⟨_, rfl, hS.nil⟩

end Go.Proofs.Ytaklmbhfmpdinaa

