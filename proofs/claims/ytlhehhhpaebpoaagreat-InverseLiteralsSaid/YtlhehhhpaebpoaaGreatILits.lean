/- inlaylaw10.InverseLiterals: its function answers true. Conditions: arguments are of their kinds. -/
import Derived.Test.YtlhehhhpaebpoaaGreatIBack
namespace Go.Proofs.YtlhehhhpaebpoaaGreat
open Go Go.RowKit Go.Inl
set_option linter.unusedSimpArgs false
set_option linter.unusedVariables false
section
variable {P : Program} {n : Nat} {σ : Nat → Value} {S : World → Prop} {t t' ty : TypeId} {x y : Operand} {k : IntKind} {a b : Int}
theorem g_leFK (hx : ev n σ x = .int k a) (hy : ev n σ y = .int k b) (h : ¬ a ≤ b) : Gives P (ev n σ) S (.binOp .leq t x y t') ty (.bool false) := by
  have := g_leq (P := P) (S := S) (t := t) (t' := t') (ty := ty) hx hy
  rw [decide_eq_false h] at this; exact this
theorem g_eqFK (hx : ev n σ x = .int k a) (hy : ev n σ y = .int k b) (h : ¬ a = b) : Gives P (ev n σ) S (.binOp .eql t x y t') ty (.bool false) := by
  have := g_eql (P := P) (S := S) (t := t) (t' := t') (ty := ty) hx hy
  rw [decide_eq_false h] at this; exact this
end
theorem symbolsR_K (p : PatL) (ad : Option Addr) (m cap : Nat) (A : List Sym) (e : Int) (w0 : World) (I0 : Imm) (hI : Sat I0 w0) (hops : ROps I0 (.slice ad m cap) p.ops) (hp : p.wf) (he : symbolsP p = (A, e)) :
    Ctr Tryz.prog 22 [.agg #[.bool p.lifted, .int .i64 p.in_, .int .i64 p.out, .slice ad m cap]] w0 (fun v w' => ∃ I' a c, v = .tuple #[.slice a A.length c, .int .i64 e] ∧ Ext w0 I0 w' I' ∧ RSyms I' (.slice a A.length c) A) :=
  symbolsR_e p ad m cap (A, e) w0 I0 hI hops hp he
def endR (l : List (Int × Int)) (k : Nat) : Int := if k = 0 then -1 else (l.getD (k - 1) (0, 0)).2
theorem endR_succ {l : List (Int × Int)} {k : Nat} {r : Int × Int} (h : l[k]? = some r) : endR l (k + 1) = r.2 := by
  unfold endR
  rw [if_neg (by omega), Nat.add_sub_cancel, List.getD_eq_getElem?_getD, h]; rfl
theorem endR_lt {l : List (Int × Int)} {n : Int} {k : Nat} {r : Int × Int} (h : RgOk l n) (hr : l[k]? = some r) : endR l k < r.1 := by
  cases k with
  | zero => have := (h.each r (List.mem_of_getElem? hr)).1; unfold endR; rw [if_pos rfl]; omega
  | succ k =>
    have hk := (List.getElem?_eq_some_iff.1 hr).1
    have hx : l[k]? = some l[k] := List.getElem?_eq_getElem (by omega)
    rw [endR_succ hx]
    exact h.sep k _ r hx hr
def goneU (l : List (Int × Int)) (i : Int) (k : Nat) : Bool := (l.take k).any fun r => decide (r.1 ≤ i) && decide (i < r.2)
theorem goneU_succ {l : List (Int × Int)} {i : Int} {k : Nat} {r : Int × Int} (h : l[k]? = some r) : goneU l i (k + 1) = (goneU l i k || (decide (r.1 ≤ i) && decide (i < r.2))) := by
  unfold goneU; rw [take_snoc h, List.any_append]; simp
theorem goneU_all {l : List (Int × Int)} {i : Int} : goneU l i l.length = inR l i := by
  unfold goneU inR
  rw [List.take_length]
  congr 1
  funext r
  unfold inS
  by_cases h : i < r.2
  · rw [decide_eq_true h, decide_eq_true (show i ≤ r.2 - 1 by omega)]
  · rw [decide_eq_false h, decide_eq_false (show ¬ i ≤ r.2 - 1 by omega)]
theorem kept_two (l : List Sym) (a : Int) : kept l a = none ∨ ∃ j : Nat, kept l a = some (j : Int) ∧ j < l.length ∧ hasAt l j a ∧ ∀ i', i' < j → ¬ hasAt l i' a := by
  cases h : kept l a with
  | none => exact .inl rfl
  | some j =>
    obtain ⟨i, h1, h2, h3, h4⟩ := (kept_spec l l.length a).2 j h
    exact .inr ⟨i, by rw [h1], h2, h3, h4⟩
theorem hasAt_iff {l : List Sym} {j : Nat} {s : Sym} {a : Int} (h : l[j]? = some s) : (s.old && decide (s.at_ = a)) = true ↔ hasAt l j a := by
  unfold hasAt; rw [sAt_of h]; simp

set_option maxHeartbeats 1000000 in
theorem right01_T (l : List (Int × Int)) (n : Int) (ad : Option Addr) (cap : Nat) (w0 : World) (I0 : Imm) (hI : Sat I0 w0) (hl : RRgs I0 (.slice ad l.length cap) l) (hok : RgOk l n) (hn : n ≤ 65536) :
    Ctr Tryz.prog 21 [.slice ad l.length cap, .int .i64 n] w0 (fun v w' => v = .bool true ∧ Ext w0 I0 w' I0) := by
  have hle := RSl.le hl
  simp only [maxLen] at hle
  refine fn (n := 47) Tryz.func21 rfl rfl rfl ?_
  have hS := St.start hI
  refine wpIn_seq ?_
  refine reg ?_
  refine qq hS (g_assignv (v := .bool _) rfl) ?_
  refine ol_nil (thenN ?_)
  refine wpIn_seq ?_
  refine reg ?_
  refine qq hS (g_assignv (v := .int .i64 _) rfl) ?_
  refine ol_nil (thenN ?_)
  refine wpIn_seq ?_
  refine wpIn_seq ?_
  refine reg ?_
  refine qq hS (g_assignv (v := .int .i64 _) rfl) ?_
  refine ol_nil (thenN ?_)
  refine wpIn_block ?_
  refine loop (fun (k : Nat) σ w => okS σ [(0, .slice ad l.length cap), (1, .int .i64 n), (5, .int .i64 (endR l k)), (6, .int .i64 k)] ∧ St [] w0 I0 I0 w [] ∧ k ≤ l.length) (fun k => l.length - k) (0) ?_ ?_
  ·
    exact ⟨⟨rfl, rfl, rfl, rfl, trivial⟩, hS.sel [], by omega⟩
  ·
    rintro k σ w_l ⟨hs, hS, hk0⟩
    rw [← upds_self hs]; clear hs
    refine wpIn_seq ?_
    refine wpIn_seq ?_
    refine reg ?_
    refine qq hS (g_movev (v := .int .i64 _) rfl) ?_
    refine qq hS (g_move _) ?_
    refine qq hS (g_lenI rfl Tryz.underlying42 hl rfl) ?_
    refine qq hS (g_lss rfl rfl) ?_
    refine ol_nil (thenN ?_)
    refine cond_s rfl ?_ ?_
    ·
      intro hc10
      try simp only [Bool.and_eq_true, Bool.or_eq_true, Bool.not_eq_true', Bool.and_eq_false_imp, Bool.or_eq_false_iff, Bool.not_eq_false', decide_eq_true_eq, decide_eq_false_iff_not] at hc10
      obtain ⟨r, hri⟩ : ∃ r, l[k]? = some r := ⟨_, List.getElem?_eq_getElem (by omega)⟩
      have hrA := hl.at hri
      have hr1 := hok.each r (List.mem_of_getElem? hri)
      have hr2 := endR_lt hok hri
      have hr3 := endR_succ hri
      refine wpIn_skip ?_
      refine thenN ?_
      refine wpIn_seq ?_
      refine wpIn_block ?_
      refine wpIn_seq ?_
      refine wpIn_seq ?_
      refine draw (.cons 0 .pure (.cons 1 .pure (.cons 2 .pure (.cons 3 .pure (.cons 4 .held (.cons 5 .pure (.cons 6 .pure (.cons 7 .pure (.cons 8 .pure (.cons 9 .pure (.cons 10 .pure (.cons 11 .pure (.cons 12 .held (.cons 13 .pure (.cons 14 .pure (.cons 15 .pure (.cons 16 .pure (.cons 17 .held (.cons 18 .pure (.cons 19 .pure (.cons 20 .pure (.cons 21 .pure (.cons 22 .pure (.cons 23 .pure (.cons 24 .pure (.cons 25 .held (.cons 26 .pure (.cons 27 .pure (.cons 28 .pure .nil))))))))))))))))))))))))))))) mixed (by kernel_rfl) hS ?_
      intro w_1 hS
      refine sp rfl (g_move _) ?_
      refine sp rfl (g_movev (v := .int .i64 _) rfl) ?_
      refine sp rfl (g_ixI Tryz.underlying42 Tryz.sizeOf58 hl rfl rfl (by omega) (by omega)) ?_
      refine sp rfl (g_fieldE (c' := 0) Tryz.underlying58 rfl Tryz.sizeOf3 rfl rfl rfl) ?_
      refine sh rfl (g_ldE1 Tryz.isAgg3 hrA rfl rfl) ?_
      refine sp rfl (g_movev (v := .int .i64 _) rfl) ?_
      refine sp rfl (g_leFK rfl rfl (by omega)) ?_
      refine sp rfl (g_movev (v := .bool _) rfl) ?_
      refine spt rfl rfl rfl (g_move _) ?_
      refine spt rfl rfl rfl (g_movev (v := .int .i64 _) rfl) ?_
      refine spt rfl rfl rfl (g_ixI Tryz.underlying42 Tryz.sizeOf58 hl rfl rfl (by omega) (by omega)) ?_
      refine spt rfl rfl rfl (g_fieldE (c' := 1) Tryz.underlying58 rfl Tryz.sizeOf3 rfl rfl rfl) ?_
      refine sht rfl rfl rfl (g_ldE1 Tryz.isAgg3 hrA rfl rfl) ?_
      refine spt rfl rfl rfl (g_move _) ?_
      refine spt rfl rfl rfl (g_movev (v := .int .i64 _) rfl) ?_
      refine spt rfl rfl rfl (g_ixI Tryz.underlying42 Tryz.sizeOf58 hl rfl rfl (by omega) (by omega)) ?_
      refine spt rfl rfl rfl (g_fieldE (c' := 0) Tryz.underlying58 rfl Tryz.sizeOf3 rfl rfl rfl) ?_
      refine sht rfl rfl rfl (g_ldE1 Tryz.isAgg3 hrA rfl rfl) ?_
      refine spt rfl rfl rfl (g_leFK rfl rfl (by omega)) ?_
      refine sp rfl (g_or rfl rfl (fun _ => rfl)) ?_
      refine sp rfl (g_movev (v := .bool _) rfl) ?_
      refine spt rfl rfl rfl (g_move _) ?_
      refine spt rfl rfl rfl (g_movev (v := .int .i64 _) rfl) ?_
      refine spt rfl rfl rfl (g_ixI Tryz.underlying42 Tryz.sizeOf58 hl rfl rfl (by omega) (by omega)) ?_
      refine spt rfl rfl rfl (g_fieldE (c' := 1) Tryz.underlying58 rfl Tryz.sizeOf3 rfl rfl rfl) ?_
      refine sht rfl rfl rfl (g_ldE1 Tryz.isAgg3 hrA rfl rfl) ?_
      refine spt rfl rfl rfl (g_movev (v := .int .i64 _) rfl) ?_
      refine spt rfl rfl rfl (g_gtF rfl rfl (by omega)) ?_
      refine sp rfl (g_or rfl rfl (fun _ => rfl)) ?_
      refine sn (thenN ?_)
      refine cond_f (rfl) ?_
      refine wpIn_skip ?_
      refine thenN ?_
      refine reg ?_
      refine qq hS (g_move _) ?_
      refine qq hS (g_movev (v := .int .i64 _) rfl) ?_
      refine qq hS (g_ixI Tryz.underlying42 Tryz.sizeOf58 hl rfl rfl (by omega) (by omega)) ?_
      refine qq hS (g_fieldE (c' := 1) Tryz.underlying58 rfl Tryz.sizeOf3 rfl rfl rfl) ?_
      refine qq hS (g_ldE1 Tryz.isAgg3 hrA rfl rfl) ?_
      refine qq hS (g_assignv (v := .int .i64 _) rfl) ?_
      refine ol_nil (blkN (thenN ?_))
      refine reg ?_
      refine qq hS (g_movev (v := .int .i64 _) rfl) ?_
      refine qq hS (g_add rfl rfl (by omega) (by omega)) ?_
      refine qq hS (g_assignv (v := .int .i64 _) rfl) ?_
      refine ol_nil (thenN ?_)
      exact ⟨k + 1, _, rfl, ⟨⟨rfl, rfl, congrArg (Value.int .i64) hr3.symm, rfl, trivial⟩, hS.sel [], by omega⟩, by omega⟩
    ·
      intro hc10
      try simp only [Bool.and_eq_true, Bool.or_eq_true, Bool.not_eq_true', Bool.and_eq_false_imp, Bool.or_eq_false_iff, Bool.not_eq_false', decide_eq_true_eq, decide_eq_false_iff_not] at hc10
      refine wpIn_exit ?_
      refine thenE (thenE (blkE ?_))
      refine thenN ?_
      refine wpIn_seq ?_
      refine reg ?_
      refine qq hS (g_assignv (v := .bool _) rfl) ?_
      refine ol_nil (thenN ?_)
      refine wpIn_ret ?_
      refine ret1 Tryz.results21 (rv_tmp (v := .bool _) rfl) ?_
      exact ⟨rfl, hS.nil⟩

set_option maxRecDepth 20000 in
set_option maxHeartbeats 4000000 in
theorem ilits_c (r : Int) (ad bd : Option Addr) (cap capb : Nat) (l : List Q4) (bs : List Int) (w0 : World) (I0 : Imm) (hI : Sat I0 w0) (hr : 0 ≤ r ∧ r ≤ 255) (h4 : RFl I0 4 q4C (.slice ad l.length cap) l) (hq : ∀ q ∈ l, q.wf) (hb : RBytes I0 (.slice bd bs.length capb) bs) (hbb : ∀ y ∈ bs, 0 ≤ y ∧ y ≤ 255) :
    Ctr Tryz.prog 6 [.agg #[.int .u8 r, .slice ad l.length cap], .slice bd bs.length capb] w0 (fun v w' => ∃ I', v = .bool true ∧ Ext w0 I0 w' I') := by
  have hr13 : 0 ≤ r % 13 ∧ r % 13 ≤ 65536 := by omega
  have hpw := madeP_wf (size := r % 13) hq hr13
  obtain ⟨hpk, hpo, hpl⟩ := madeP_ok (size := r % 13) hq hr13
  have hlf : (madeP l (r % 13)).lifted = false := rfl
  have hin0 : (madeP l (r % 13)).in_ = r % 13 := rfl
  obtain ⟨p, hp⟩ : ∃ p, madeP l (r % 13) = p := ⟨_, rfl⟩
  rw [hp] at hpw hpk hpo hpl hlf hin0
  obtain ⟨k1, k2, k3, k4, k5, k6, k7⟩ := checkP_ok hpk
  have hOl := inputP_len bs p.in_.toNat
  have hOb := inputP_bd (n := p.in_.toNat) hbb
  obtain ⟨O, hO⟩ : ∃ O, inputP bs p.in_.toNat = O := ⟨_, rfl⟩
  rw [hO] at hOl hOb
  have hin : p.in_ = O.length := by omega
  have hXA := applyP_right hpk hin
  have hOl4 : O.length ≤ 4096 := by omega
  obtain ⟨F, hF⟩ := inv_for (old := O) hpk hOl4 hOb
  have hVF := invertP_ok hpk hin hF
  have hXF := apply_inv hpk hin hOb hF
  have hRl : ((symsOf p.ops).map (runB O)).length = (symsOf p.ops).length := List.length_map _
  have hFo : F.out = p.in_ := by rw [hF.out]; omega
  obtain ⟨RL, hRL⟩ : ∃ RL, rngs O.length (fun j => (kept (symsOf p.ops) j).isNone) = RL := ⟨_, rfl⟩
  have hRll : RL.length ≤ 65536 := by
    rw [← hRL]
    have h1 := rngL_len (plc O.length (fun j => (kept (symsOf p.ops) j).isNone))
    have h2 : (plc O.length (fun j => (kept (symsOf p.ops) j).isNone)).length ≤ O.length := (by unfold plc; exact Nat.le_trans (List.length_filter_le _ _) (by simp))
    unfold rngs; omega
  have hRok : RgOk RL p.in_ := by rw [← hRL, hin]; exact rngs_ok _ _
  have hRin : ∀ i, i < O.length → inR RL (i : Int) = (kept (symsOf p.ops) (i : Int)).isNone := fun i hi => by rw [← hRL]; exact rngs_in _ _ i hi
  have hLo : lostP p = (RL, 0) := by
    unfold lostP
    rw [symbolsP_ok hpk, if_neg (by simp), ← hRL, show p.in_.toNat = O.length by omega]
  have hAy := symbolsP_ok hpk
  have hMy := symbolsP_ok hF.chk
  rw [hF.syms] at hMy
  have hMln := invS_len (symsOf p.ops) O
  have hMl : ((invS (symsOf p.ops) O).length : Int) = p.in_ := by omega
  have hAl : (((symsOf p.ops)).length : Int) ≤ 65536 := by omega

  refine fn (n := 196) Tryz.func6 rfl rfl rfl ?_
  have hS := St.start hI
  refine wpIn_seq ?_
  refine reg ?_
  refine qe (d_box (cs := [.int .u8 _, .slice _ _ _]) hS rfl) ?_
  clear hS
  rintro _ w_1 ⟨b2, rfl, hS⟩
  refine qq hS (g_assignv (v := .bool _) rfl) ?_
  refine ol_nil (thenN ?_)
  refine wpIn_seq ?_
  refine reg ?_
  refine qe (d_call Tryz.call8 rfl (sanity10_c _ _ hS.imm)) ?_
  rintro _ w_2 ⟨I_f, rfl, hE⟩
  replace hS := hS.callE hE
  replace h4 := h4.mono hE.ext
  replace hb := hb.mono hE.ext
  refine qq hS (g_assignv (v := .bool _) rfl) ?_
  refine ol_nil (thenN ?_)
  refine wpIn_seq ?_
  refine reg ?_
  refine qq hS (g_ldO 0 (vs := [.int .u8 _, .slice _ _ _]) Tryz.sizeOf24 Tryz.isAgg24 rfl rfl rfl rfl) ?_
  refine qq hS (g_move _) ?_
  refine qe (d_call Tryz.call9 rfl (two_c r ad bd cap capb l bs p O _ _ hS.imm hr h4 hq hb hbb hp hO)) ?_
  rintro _ w_3 ⟨I_f, a25, m25, c25, b25, d25, rfl, hE, h25, k25⟩
  replace hS := hS.callE hE
  replace h4 := h4.mono hE.ext
  replace hb := hb.mono hE.ext
  refine qq hS (g_move _) ?_
  refine qq hS (g_extract rfl rfl) ?_
  refine qq hS (g_extract rfl rfl) ?_
  refine qe (d_alloc (cs := [.bool _, .int .i64 _, .int .i64 _, .slice _ _ _]) hS Tryz.zeroValue31 rfl) ?_
  clear hS
  rintro _ w_4 ⟨b6, rfl, hS⟩
  refine qe (d_store 0 hS Tryz.sizeOf31 rfl rfl rfl (vs := [.bool _, .int .i64 _, .int .i64 _, .slice _ _ _]) rfl rfl rfl (Nat.le_of_ble_eq_true rfl) (cs' := [_, _, _, _]) rfl) ?_
  clear hS
  rintro _ w_5 ⟨rfl, hS⟩
  refine qq hS (g_assign _) ?_
  refine ol_nil (thenN ?_)
  refine wpIn_seq ?_
  refine reg ?_
  refine qq hS (g_move _) ?_
  refine qq hS (g_ldO 0 (vs := [.bool _, .int .i64 _, .int .i64 _, .slice _ _ _]) Tryz.sizeOf31 Tryz.isAgg31 rfl rfl rfl rfl) ?_
  refine qe (d_call Tryz.call13 rfl (invert_L p _ _ _ _ _ _ O F 0 _ _ hS.imm h25 hpw hlf k25 rfl hOb hVF)) ?_
  rintro _ w_6 ⟨I_f, a31, m31, c31, rfl, hE, h31⟩
  replace hS := hS.callE hE
  replace h4 := h4.mono hE.ext
  replace hb := hb.mono hE.ext
  replace h25 := h25.mono hE.ext
  replace k25 := k25.mono hE.ext
  refine qq hS (g_move _) ?_
  refine qq hS (g_extract rfl rfl) ?_
  refine qq hS (g_extract (v := .int .i64 _) rfl rfl) ?_
  refine qe (d_alloc (cs := [.bool _, .int .i64 _, .int .i64 _, .slice _ _ _]) hS Tryz.zeroValue31 rfl) ?_
  clear hS
  rintro _ w_7 ⟨b8, rfl, hS⟩
  refine qe (d_store 0 hS Tryz.sizeOf31 rfl rfl rfl (vs := [.bool _, .int .i64 _, .int .i64 _, .slice _ _ _]) rfl rfl rfl (Nat.le_of_ble_eq_true rfl) (cs' := [_, _, _, _]) rfl) ?_
  clear hS
  rintro _ w_8 ⟨rfl, hS⟩
  refine qq hS (g_assignv (v := .int .i64 _) rfl) ?_
  refine ol_nil (thenN ?_)
  refine wpIn_seq ?_
  refine reg ?_
  refine qq hS (g_ldO 1 (vs := [.bool _, .int .i64 _, .int .i64 _, .slice _ _ _]) Tryz.sizeOf31 Tryz.isAgg31 rfl rfl rfl rfl) ?_
  refine qe (d_call Tryz.call15 rfl (lost_c p _ _ _ RL 0 _ _ hS.imm h25 hpw hLo)) ?_
  rintro _ w_9 ⟨I_f, a36, c36, rfl, hE, h36⟩
  replace hS := hS.callE hE
  replace h4 := h4.mono hE.ext
  replace hb := hb.mono hE.ext
  replace h25 := h25.mono hE.ext
  replace k25 := k25.mono hE.ext
  replace h31 := h31.mono hE.ext
  refine qq hS (g_move _) ?_
  refine qq hS (g_extract rfl rfl) ?_
  refine qq hS (g_extract (v := .int .i64 _) rfl rfl) ?_
  refine qq hS (g_assign _) ?_
  refine qq hS (g_assignv (v := .int .i64 _) rfl) ?_
  refine ol_nil (thenN ?_)
  refine wpIn_seq ?_
  refine wpIn_seq ?_
  refine reg ?_
  refine qq hS (g_movev (v := .int .i64 _) rfl) ?_
  refine qq hS (g_neq rfl rfl) ?_
  refine qq hS (g_movev (v := .bool _) rfl) ?_
  refine qqs rfl rfl hS (g_movev (v := .int .i64 _) rfl) ?_
  refine qqs rfl rfl hS (g_neq rfl rfl) ?_
  refine qq hS (g_or rfl rfl (fun _ => rfl)) ?_
  refine qq hS (g_movev (v := .bool _) rfl) ?_
  refine qqs rfl rfl hS (g_ldO 0 (vs := [.bool _, .int .i64 _, .int .i64 _, .slice _ _ _]) Tryz.sizeOf31 Tryz.isAgg31 rfl rfl rfl rfl) ?_
  refine qes rfl rfl (d_call Tryz.call20 rfl (right_K F _ _ _ _ _ hS.imm h31 hF.wf hF.chk)) ?_
  rintro _ w_10 ⟨rfl, hE⟩
  replace hS := hS.callE hE
  refine qqs rfl rfl hS (g_not rfl) ?_
  refine qq hS (g_or rfl rfl (fun _ => rfl)) ?_
  refine qq hS (g_movev (v := .bool _) rfl) ?_
  refine qqs rfl rfl hS (g_move _) ?_
  refine qqs rfl rfl hS (g_fieldAddr (o' := 1) Tryz.underlying31 rfl Tryz.sizeOf3 rfl rfl rfl) ?_
  refine qqs rfl rfl hS (g_ldO1 1 Tryz.isAgg3 rfl rfl rfl) ?_
  refine qes rfl rfl (d_call Tryz.call21 rfl (right01_T RL p.in_ _ _ _ _ hS.imm h36 hRok (by omega))) ?_
  rintro _ w_11 ⟨rfl, hE⟩
  replace hS := hS.callE hE
  refine qqs rfl rfl hS (g_not rfl) ?_
  refine qq hS (g_or rfl rfl (fun _ => rfl)) ?_
  refine ol_nil (thenN ?_)
  refine cond_f (rfl) ?_
  refine wpIn_skip ?_
  refine thenN ?_
  refine wpIn_seq ?_
  refine reg ?_
  refine qq hS (g_ldO 1 (vs := [.bool _, .int .i64 _, .int .i64 _, .slice _ _ _]) Tryz.sizeOf31 Tryz.isAgg31 rfl rfl rfl rfl) ?_
  refine qe (d_call Tryz.call22 rfl (symbolsR_K p _ _ _ (symsOf p.ops) 0 _ _ hS.imm h25 hpw hAy)) ?_
  rintro _ w_12 ⟨I_f, a59, c59, rfl, hE, h59⟩
  replace hS := hS.callE hE
  replace h4 := h4.mono hE.ext
  replace hb := hb.mono hE.ext
  replace h25 := h25.mono hE.ext
  replace k25 := k25.mono hE.ext
  replace h31 := h31.mono hE.ext
  replace h36 := h36.mono hE.ext
  refine qq hS (g_move _) ?_
  refine qq hS (g_extract rfl rfl) ?_
  refine qq hS (g_extract (v := .int .i64 _) rfl rfl) ?_
  refine qq hS (g_assign _) ?_
  refine qq hS (g_assignv (v := .int .i64 _) rfl) ?_
  refine ol_nil (thenN ?_)
  refine wpIn_seq ?_
  refine reg ?_
  refine qq hS (g_ldO 0 (vs := [.bool _, .int .i64 _, .int .i64 _, .slice _ _ _]) Tryz.sizeOf31 Tryz.isAgg31 rfl rfl rfl rfl) ?_
  refine qe (d_call Tryz.call22 rfl (symbolsR_K F _ _ _ (invS (symsOf p.ops) O) 0 _ _ hS.imm h31 hF.wf hMy)) ?_
  rintro _ w_13 ⟨I_f, a64, c64, rfl, hE, h64⟩
  replace hS := hS.callE hE
  replace h4 := h4.mono hE.ext
  replace hb := hb.mono hE.ext
  replace h25 := h25.mono hE.ext
  replace k25 := k25.mono hE.ext
  replace h31 := h31.mono hE.ext
  replace h36 := h36.mono hE.ext
  replace h59 := h59.mono hE.ext
  refine qq hS (g_move _) ?_
  refine qq hS (g_extract rfl rfl) ?_
  refine qq hS (g_extract (v := .int .i64 _) rfl rfl) ?_
  refine qq hS (g_assign _) ?_
  refine qq hS (g_assignv (v := .int .i64 _) rfl) ?_
  refine ol_nil (thenN ?_)
  refine wpIn_seq ?_
  refine wpIn_seq ?_
  refine reg ?_
  refine qq hS (g_move _) ?_
  refine qq hS (g_lenI rfl Tryz.underlying54 h64 rfl) ?_
  refine qq hS (g_fieldAddr (o' := 1) Tryz.underlying31 rfl Tryz.sizeOf3 rfl rfl rfl) ?_
  refine qq hS (g_ldO1 1 Tryz.isAgg3 rfl rfl rfl) ?_
  refine qq hS (g_neqF rfl rfl hMl) ?_
  refine ol_nil (thenN ?_)
  refine cond_f (rfl) ?_
  refine wpIn_skip ?_
  refine thenN ?_
  refine wpIn_seq ?_
  refine wpIn_seq ?_
  refine reg ?_
  refine qq hS (g_assignv (v := .int .i64 _) rfl) ?_
  refine ol_nil (thenN ?_)
  refine wpIn_block ?_
  refine loop (fun (i : Nat) σ w => okS σ [(5, .bool true), (7, .slice b25 O.length d25), (10, .slice a36 RL.length c36), (12, .slice a59 (symsOf p.ops).length c59), (14, .slice a64 (invS (symsOf p.ops) O).length c64), (16, .int .i64 i)] ∧ St [] w0 I0 I_f w [] ∧ i ≤ O.length) (fun i => O.length - i) (0) ?_ ?_
  ·
    exact ⟨⟨rfl, rfl, rfl, rfl, rfl, rfl, trivial⟩, hS.sel [false, false, false], by omega⟩
  ·
    rintro i σ w_l ⟨hs, hS, hi0⟩
    rw [← upds_self hs]; clear hs
    refine wpIn_seq ?_
    refine wpIn_seq ?_
    refine reg ?_
    refine qq hS (g_movev (v := .int .i64 _) rfl) ?_
    refine qq hS (g_move _) ?_
    refine qq hS (g_lenI rfl Tryz.underlying54 h64 rfl) ?_
    refine qq hS (g_lss rfl rfl) ?_
    refine ol_nil (thenN ?_)
    refine cond_s rfl ?_ ?_
    ·
      intro hc75
      try simp only [Bool.and_eq_true, Bool.or_eq_true, Bool.not_eq_true', Bool.and_eq_false_imp, Bool.or_eq_false_iff, Bool.not_eq_false', decide_eq_true_eq, decide_eq_false_iff_not] at hc75
      have hiN : i < O.length := by omega
      obtain ⟨o, hoi⟩ : ∃ o, O[i]? = some o := ⟨_, List.getElem?_eq_getElem hiN⟩
      have hob := hOb o (List.mem_of_getElem? hoi)
      have hoA := k25.at hoi
      have hmA := h64.at (invS_at (l := (symsOf p.ops)) hiN)
      have hiv : invAt (symsOf p.ops) O i = match kept (symsOf p.ops) (i : Int) with
        | some j => ⟨true, j, Go.IntKind.u8.wrap (-(sAt (symsOf p.ops) j.toNat).b)⟩
        | none => ⟨false, 0, o⟩ := by unfold invAt; rw [List.getD_eq_getElem?_getD, hoi]; rfl
      have hspec := (kept_spec (symsOf p.ops) (symsOf p.ops).length (i : Int)).1
      refine wpIn_skip ?_
      refine thenN ?_
      refine wpIn_seq ?_
      refine wpIn_block ?_
      refine wpIn_seq ?_
      refine reg ?_
      refine qq hS (g_assignv (v := .bool _) rfl) ?_
      refine ol_nil (thenN ?_)
      refine wpIn_seq ?_
      refine wpIn_seq ?_
      refine reg ?_
      refine qq hS (g_assignv (v := .int .i64 _) rfl) ?_
      refine ol_nil (thenN ?_)
      refine wpIn_block ?_
      refine loop (fun (k : Nat) σ w => okS σ [(5, .bool true), (7, .slice b25 O.length d25), (10, .slice a36 RL.length c36), (12, .slice a59 (symsOf p.ops).length c59), (14, .slice a64 (invS (symsOf p.ops) O).length c64), (16, .int .i64 i), (17, .bool (goneU RL (i : Int) k)), (18, .int .i64 k)] ∧ St [] w0 I0 I_f w [] ∧ k ≤ RL.length) (fun k => RL.length - k) (0) ?_ ?_
      ·
        exact ⟨⟨rfl, rfl, rfl, rfl, rfl, rfl, rfl, rfl, trivial⟩, hS.sel [], by omega⟩
      ·
        rintro k σ w_l ⟨hs, hS, hk0⟩
        rw [← upds_self hs]; clear hs
        refine wpIn_seq ?_
        refine wpIn_seq ?_
        refine reg ?_
        refine qq hS (g_movev (v := .int .i64 _) rfl) ?_
        refine qq hS (g_move _) ?_
        refine qq hS (g_lenI rfl Tryz.underlying42 h36 rfl) ?_
        refine qq hS (g_lss rfl rfl) ?_
        refine ol_nil (thenN ?_)
        refine cond_s rfl ?_ ?_
        ·
          intro hc81
          try simp only [Bool.and_eq_true, Bool.or_eq_true, Bool.not_eq_true', Bool.and_eq_false_imp, Bool.or_eq_false_iff, Bool.not_eq_false', decide_eq_true_eq, decide_eq_false_iff_not] at hc81
          obtain ⟨rg, hri⟩ : ∃ r, RL[k]? = some r := ⟨_, List.getElem?_eq_getElem (by omega)⟩
          have hrA := h36.at hri
          have hgs := goneU_succ (i := (i : Int)) hri
          refine wpIn_skip ?_
          refine thenN ?_
          refine wpIn_seq ?_
          refine wpIn_block ?_
          refine reg ?_
          refine qq hS (g_movev (v := .bool _) rfl) ?_
          refine qq hS (g_movev (v := .bool _) rfl) ?_
          refine qu rfl rfl hS (fun hg => (g_move _)) ?_
          intro u86 hu86 hn86
          refine qu rfl rfl hS (fun hg => (g_movev (v := .int .i64 _) rfl)) ?_
          intro u87 hu87 hn87
          refine qu rfl rfl hS (fun hg => (g_ixI Tryz.underlying42 Tryz.sizeOf58 h36 (hu86 hg) (hu87 hg) (by omega) (by omega))) ?_
          intro u88 hu88 hn88
          refine qu rfl rfl hS (fun hg => (g_fieldE (c' := 0) Tryz.underlying58 rfl Tryz.sizeOf3 rfl (hu88 hg) rfl)) ?_
          intro u89 hu89 hn89
          refine qu rfl rfl hS (fun hg => (g_ldE1 Tryz.isAgg3 hrA (hu89 hg) rfl)) ?_
          intro u90 hu90 hn90
          refine qu rfl rfl hS (fun hg => (g_movev (v := .int .i64 _) rfl)) ?_
          intro u91 hu91 hn91
          refine qu rfl rfl hS (fun hg => (g_leq (hu90 hg) (hu91 hg))) ?_
          intro u92 hu92 hn92
          refine qu rfl rfl hS (fun hg => (g_movev (hu92 hg))) ?_
          intro u93 hu93 hn93
          refine qn rfl hu93 hn93 hS (fun hg => (g_movev (v := .int .i64 _) rfl)) ?_
          intro u94 hu94 hn94
          refine qn rfl hu93 hn93 hS (fun hg => (g_move _)) ?_
          intro u95 hu95 hn95
          refine qn rfl hu93 hn93 hS (fun hg => (g_movev (v := .int .i64 _) rfl)) ?_
          intro u96 hu96 hn96
          refine qn rfl hu93 hn93 hS (fun hg => (g_ixI Tryz.underlying42 Tryz.sizeOf58 h36 (hu95 hg) (hu96 hg) (by omega) (by omega))) ?_
          intro u97 hu97 hn97
          refine qn rfl hu93 hn93 hS (fun hg => (g_fieldE (c' := 1) Tryz.underlying58 rfl Tryz.sizeOf3 rfl (hu97 hg) rfl)) ?_
          intro u98 hu98 hn98
          refine qn rfl hu93 hn93 hS (fun hg => (g_ldE1 Tryz.isAgg3 hrA (hu98 hg) rfl)) ?_
          intro u99 hu99 hn99
          refine qn rfl hu93 hn93 hS (fun hg => (g_lss (hu94 hg) (hu99 hg))) ?_
          intro u100 hu100 hn100
          refine qu rfl rfl hS (fun hg => (g_and (hu93 hg) rfl (fun hq => hu100 ⟨hg, hq⟩))) ?_
          intro u101 hu101 hn101
          refine qq hS (g_or rfl rfl (fun hq => hu101 hq)) ?_
          refine qq hS (g_assignv (v := .bool _) rfl) ?_
          refine ol_nil (blkN (thenN ?_))
          refine reg ?_
          refine qq hS (g_movev (v := .int .i64 _) rfl) ?_
          refine qq hS (g_add rfl rfl (by omega) (by omega)) ?_
          refine qq hS (g_assignv (v := .int .i64 _) rfl) ?_
          refine ol_nil (thenN ?_)
          exact ⟨k + 1, _, rfl, ⟨⟨rfl, rfl, rfl, rfl, rfl, rfl, congrArg Value.bool hgs.symm, rfl, trivial⟩, hS.sel [], by omega⟩, by omega⟩
        ·
          intro hc81
          try simp only [Bool.and_eq_true, Bool.or_eq_true, Bool.not_eq_true', Bool.and_eq_false_imp, Bool.or_eq_false_iff, Bool.not_eq_false', decide_eq_true_eq, decide_eq_false_iff_not] at hc81
          obtain rfl : k = RL.length := by omega
          have hgn : goneU RL (i : Int) RL.length = (kept (symsOf p.ops) (i : Int)).isNone := by rw [goneU_all, hRin i hiN]
          refine wpIn_exit ?_
          refine thenE (thenE (blkE ?_))
          refine thenN ?_
          refine wpIn_seq ?_
          refine wpIn_seq ?_
          refine (kept_two (symsOf p.ops) (i : Int)).elim (fun hk => ?_) (fun hx => ?_)
          ·
            rw [hk] at hgn hiv
            replace hgn : goneU RL (i : Int) RL.length = true := hgn
            replace hiv : invAt (symsOf p.ops) O i = ⟨false, 0, o⟩ := hiv
            rw [hiv] at hmA
            replace hmA : atI I_f (elA (.slice a64 (invS (symsOf p.ops) O).length c64) i 3 0) [.bool false, .int .i64 0, .int .u8 o] := hmA
            have hno := hspec hk
            rw [hgn]
            refine draw (.cons 0 .pure (.cons 1 .pure (.cons 2 .pure (.cons 3 .pure (.cons 4 .pure (.cons 5 .held (.cons 6 .pure (.cons 7 .pure (.cons 8 .pure (.cons 9 .pure (.cons 10 .pure (.cons 11 .pure (.cons 12 .pure (.cons 13 .pure (.cons 14 .held (.cons 15 .pure (.cons 16 .pure (.cons 17 .pure (.cons 18 .held (.cons 19 .pure (.cons 20 .pure (.cons 21 .pure .nil)))))))))))))))))))))) mixed (by kernel_rfl) hS ?_
            intro w_14 hS
            refine sp rfl (g_movev (v := .bool _) rfl) ?_
            refine sp rfl (g_move _) ?_
            refine sp rfl (g_movev (v := .int .i64 _) rfl) ?_
            refine sp rfl (g_ixI Tryz.underlying54 Tryz.sizeOf60 h64 rfl rfl (by omega) (by omega)) ?_
            refine sp rfl (g_fieldE (c' := 0) Tryz.underlying60 rfl Tryz.sizeOf4 rfl rfl rfl) ?_
            refine sh rfl (g_ldE1 Tryz.isAgg4 hmA rfl rfl) ?_
            refine sp rfl (g_eqlb Tryz.underlying4 rfl rfl) ?_
            refine sp rfl (g_movev (v := .bool _) rfl) ?_
            refine spt rfl rfl rfl (g_movev (v := .bool _) rfl) ?_
            refine spt rfl rfl rfl (g_movev (v := .bool _) rfl) ?_
            refine spt rfl rfl rfl (g_move _) ?_
            refine spt rfl rfl rfl (g_movev (v := .int .i64 _) rfl) ?_
            refine spt rfl rfl rfl (g_ixI Tryz.underlying54 Tryz.sizeOf60 h64 rfl rfl (by omega) (by omega)) ?_
            refine spt rfl rfl rfl (g_fieldE (c' := 2) Tryz.underlying60 rfl Tryz.sizeOf5 rfl rfl rfl) ?_
            refine sht rfl rfl rfl (g_ldE1 Tryz.isAgg5 hmA rfl rfl) ?_
            refine spt rfl rfl rfl (g_move _) ?_
            refine spt rfl rfl rfl (g_movev (v := .int .i64 _) rfl) ?_
            refine spt rfl rfl rfl (g_ixI Tryz.underlying25 Tryz.sizeOf5 k25 rfl rfl (by omega) (by omega)) ?_
            refine sht rfl rfl rfl (g_ldE1 Tryz.isAgg5 hoA rfl rfl) ?_
            refine spt rfl rfl rfl (g_neqF rfl rfl rfl) ?_
            refine spt rfl rfl rfl (g_and rfl rfl (fun _ => rfl)) ?_
            refine sp rfl (g_or rfl rfl (fun _ => rfl)) ?_
            refine sn (thenN ?_)
            refine cond_f (rfl) ?_
            refine wpIn_skip ?_
            refine thenN ?_
            refine wpIn_seq ?_
            refine wpIn_seq ?_
            refine reg ?_
            refine qq hS (g_assignv (v := .int .i64 _) rfl) ?_
            refine ol_nil (thenN ?_)
            refine wpIn_block ?_
            refine loop (fun (j : Nat) σ w => okS σ [(5, .bool true), (7, .slice b25 O.length d25), (10, .slice a36 RL.length c36), (12, .slice a59 (symsOf p.ops).length c59), (14, .slice a64 (invS (symsOf p.ops) O).length c64), (16, .int .i64 i), (17, .bool true), (19, .int .i64 j)] ∧ St [] w0 I0 I_f w [] ∧ j ≤ (symsOf p.ops).length) (fun j => (symsOf p.ops).length - j) (0) ?_ ?_
            ·
              exact ⟨⟨rfl, rfl, rfl, rfl, rfl, rfl, rfl, rfl, trivial⟩, hS.sel [], by omega⟩
            ·
              rintro j σ w_l ⟨hs, hS, hj0⟩
              rw [← upds_self hs]; clear hs
              refine wpIn_seq ?_
              refine wpIn_seq ?_
              refine reg ?_
              refine qq hS (g_movev (v := .int .i64 _) rfl) ?_
              refine qq hS (g_move _) ?_
              refine qq hS (g_lenI rfl Tryz.underlying54 h59 rfl) ?_
              refine qq hS (g_lss rfl rfl) ?_
              refine ol_nil (thenN ?_)
              refine cond_s rfl ?_ ?_
              ·
                intro hc128
                try simp only [Bool.and_eq_true, Bool.or_eq_true, Bool.not_eq_true', Bool.and_eq_false_imp, Bool.or_eq_false_iff, Bool.not_eq_false', decide_eq_true_eq, decide_eq_false_iff_not] at hc128
                obtain ⟨s, hsi⟩ : ∃ s, (symsOf p.ops)[j]? = some s := ⟨_, List.getElem?_eq_getElem (by omega)⟩
                have hsA := h59.at hsi
                have hha := hasAt_iff (a := (i : Int)) hsi
                refine wpIn_skip ?_
                refine thenN ?_
                refine wpIn_seq ?_
                refine wpIn_block ?_
                refine wpIn_seq ?_
                refine reg ?_
                refine qq hS (g_move _) ?_
                refine qq hS (g_movev (v := .int .i64 _) rfl) ?_
                refine qq hS (g_ixI Tryz.underlying54 Tryz.sizeOf60 h59 rfl rfl (by omega) (by omega)) ?_
                refine qq hS (g_fieldE (c' := 0) Tryz.underlying60 rfl Tryz.sizeOf4 rfl rfl rfl) ?_
                refine qq hS (g_ldE1 Tryz.isAgg4 hsA rfl rfl) ?_
                refine qq hS (g_movev (v := .bool _) rfl) ?_
                refine qu rfl rfl hS (fun hg => (g_move _)) ?_
                intro u137 hu137 hn137
                refine qu rfl rfl hS (fun hg => (g_movev (v := .int .i64 _) rfl)) ?_
                intro u138 hu138 hn138
                refine qu rfl rfl hS (fun hg => (g_ixI Tryz.underlying54 Tryz.sizeOf60 h59 (hu137 hg) (hu138 hg) (by omega) (by omega))) ?_
                intro u139 hu139 hn139
                refine qu rfl rfl hS (fun hg => (g_fieldE (c' := 1) Tryz.underlying60 rfl Tryz.sizeOf3 rfl (hu139 hg) rfl)) ?_
                intro u140 hu140 hn140
                refine qu rfl rfl hS (fun hg => (g_ldE1 Tryz.isAgg3 hsA (hu140 hg) rfl)) ?_
                intro u141 hu141 hn141
                refine qu rfl rfl hS (fun hg => (g_movev (v := .int .i64 _) rfl)) ?_
                intro u142 hu142 hn142
                refine qu rfl rfl hS (fun hg => (g_eql (hu141 hg) (hu142 hg))) ?_
                intro u143 hu143 hn143
                refine qq hS (g_and rfl rfl (fun hq => hu143 hq)) ?_
                refine qq hS (g_assignv (v := .bool _) rfl) ?_
                refine ol_nil (thenN ?_)
                refine wpIn_seq ?_
                refine (fun x => x) ?_
                ·
                  have hfr : (s.old && decide (s.at_ = (i : Int))) = false := by
                    cases h : (s.old && decide (s.at_ = (i : Int))) with
                    | false => rfl
                    | true => exact absurd (hha.1 h) (hno j (by omega))
                  rw [hfr]
                  refine reg ?_
                  refine qq hS (g_movev (v := .bool _) rfl) ?_
                  refine qq hS (g_movev (v := .bool _) rfl) ?_
                  refine qsf rfl rfl rfl ?_
                  refine qsf rfl rfl rfl ?_
                  refine qsu rfl rfl ?_
                  refine qsu rfl rfl ?_
                  refine qsu rfl rfl ?_
                  refine qsu rfl rfl ?_
                  refine qsu rfl rfl ?_
                  refine qsu rfl rfl ?_
                  refine qsu rfl rfl ?_
                  refine qsf rfl rfl rfl ?_
                  refine qq hS (g_and (b := false) rfl rfl (fun h => by cases h)) ?_
                  refine qq hS (g_movev (v := .bool _) rfl) ?_
                  refine qqs rfl rfl hS (g_movev (v := .bool _) rfl) ?_
                  refine qqs rfl rfl hS (g_not rfl) ?_
                  refine qqs rfl rfl hS (g_movev (v := .bool _) rfl) ?_
                  refine qqs rfl rfl hS (g_movev (v := .bool _) rfl) ?_
                  refine qqs rfl rfl hS (g_not rfl) ?_
                  refine qqs rfl rfl hS (g_and rfl rfl (fun _ => rfl)) ?_
                  refine qqs rfl rfl hS (g_movev (v := .bool _) rfl) ?_
                  refine qsf rfl rfl rfl ?_
                  refine qsf rfl rfl rfl ?_
                  refine qsf rfl rfl rfl ?_
                  refine qsf rfl rfl rfl ?_
                  refine qsf rfl rfl rfl ?_
                  refine qsf rfl rfl rfl ?_
                  refine qsf rfl rfl rfl ?_
                  refine qqs rfl rfl hS (g_and (b := false) rfl rfl (fun h => by cases h)) ?_
                  refine qq hS (g_or rfl rfl (fun _ => rfl)) ?_
                  refine ol_nil (thenN ?_)
                  refine cond_f (rfl) ?_
                  refine wpIn_skip ?_
                  refine blkN (thenN ?_)
                  refine reg ?_
                  refine qq hS (g_movev (v := .int .i64 _) rfl) ?_
                  refine qq hS (g_add rfl rfl (by omega) (by omega)) ?_
                  refine qq hS (g_assignv (v := .int .i64 _) rfl) ?_
                  refine ol_nil (thenN ?_)
                  exact ⟨j + 1, _, rfl, ⟨⟨rfl, rfl, rfl, rfl, rfl, rfl, rfl, rfl, trivial⟩, hS.sel [], by omega⟩, by omega⟩
              ·
                intro hc128
                try simp only [Bool.and_eq_true, Bool.or_eq_true, Bool.not_eq_true', Bool.and_eq_false_imp, Bool.or_eq_false_iff, Bool.not_eq_false', decide_eq_true_eq, decide_eq_false_iff_not] at hc128
                refine wpIn_exit ?_
                refine thenE (thenE (blkE ?_))
                refine thenN ?_
                refine wpIn_seq ?_
                refine draw (.cons 0 .pure (.cons 1 .pure (.cons 2 .pure (.cons 3 .pure (.cons 4 .pure (.cons 5 .pure (.cons 6 .pure (.cons 7 .pure (.cons 8 .pure (.cons 9 .pure (.cons 10 .pure (.cons 11 .pure (.cons 12 .pure (.cons 13 .pure (.cons 14 .pure (.cons 15 .pure (.cons 16 .pure (.cons 17 .pure (.cons 18 .pure (.cons 19 .pure .nil)))))))))))))))))))) mixed (by kernel_rfl) hS ?_
                intro w_15 hS
                refine sp rfl (g_movev (v := .bool _) rfl) ?_
                refine sp rfl (g_not rfl) ?_
                refine sp rfl (g_movev (v := .bool _) rfl) ?_
                refine spf rfl rfl rfl rfl ?_
                refine spf rfl rfl rfl rfl ?_
                refine spf rfl rfl rfl rfl ?_
                refine spf rfl rfl rfl rfl ?_
                refine spf rfl rfl rfl rfl ?_
                refine spf rfl rfl rfl rfl ?_
                refine spf rfl rfl rfl rfl ?_
                refine spf rfl rfl rfl rfl ?_
                refine spf rfl rfl rfl rfl ?_
                refine spf rfl rfl rfl rfl ?_
                refine spf rfl rfl rfl rfl ?_
                refine spf rfl rfl rfl rfl ?_
                refine spf rfl rfl rfl rfl ?_
                refine spf rfl rfl rfl rfl ?_
                refine spf rfl rfl rfl rfl ?_
                refine spf rfl rfl rfl rfl ?_
                refine sp rfl (g_and (b := false) rfl rfl (fun h => by cases h)) ?_
                refine sn (thenN ?_)
                refine cond_f (rfl) ?_
                refine wpIn_skip ?_
                refine blkN (thenN ?_)
                refine reg ?_
                refine qq hS (g_movev (v := .int .i64 _) rfl) ?_
                refine qq hS (g_add rfl rfl (by omega) (by omega)) ?_
                refine qq hS (g_assignv (v := .int .i64 _) rfl) ?_
                refine ol_nil (thenN ?_)
                exact ⟨i + 1, _, rfl, ⟨⟨rfl, rfl, rfl, rfl, rfl, rfl, trivial⟩, hS.sel [], by omega⟩, by omega⟩
          ·
            obtain ⟨j0, hk, hj1, hj2, hj3⟩ := hx
            rw [hk] at hgn hiv
            replace hgn : goneU RL (i : Int) RL.length = false := hgn
            obtain ⟨sj, hsj⟩ : ∃ s, (symsOf p.ops)[j0]? = some s := ⟨_, List.getElem?_eq_getElem hj1⟩
            replace hiv : invAt (symsOf p.ops) O i = ⟨true, (j0 : Int), IntKind.u8.wrap (-sj.b)⟩ := by rw [hiv]; show (⟨true, (j0 : Int), IntKind.u8.wrap (-(sAt (symsOf p.ops) (j0 : Int).toNat).b)⟩ : Sym) = _; rw [Int.toNat_natCast, sAt_of hsj]
            rw [hiv] at hmA
            replace hmA : atI I_f (elA (.slice a64 (invS (symsOf p.ops) O).length c64) i 3 0) [.bool true, .int .i64 (j0 : Int), .int .u8 (IntKind.u8.wrap (-sj.b))] := hmA
            have hjA := h59.at hsj
            have hwz : IntKind.u8.wrap (IntKind.u8.wrap (-sj.b) + sj.b) = 0 := by simp only [IntKind.wrap_u8]; omega
            rw [hgn]
            refine draw (.cons 0 .pure (.cons 1 .pure (.cons 2 .pure (.cons 3 .pure (.cons 4 .pure (.cons 5 .held (.cons 6 .pure (.cons 7 .pure (.cons 8 .pure (.cons 9 .pure (.cons 10 .pure (.cons 11 .pure (.cons 12 .pure (.cons 13 .pure (.cons 14 .pure (.cons 15 .pure (.cons 16 .pure (.cons 17 .pure (.cons 18 .pure (.cons 19 .pure (.cons 20 .pure (.cons 21 .pure .nil)))))))))))))))))))))) mixed (by kernel_rfl) hS ?_
            intro w_16 hS
            refine sp rfl (g_movev (v := .bool _) rfl) ?_
            refine sp rfl (g_move _) ?_
            refine sp rfl (g_movev (v := .int .i64 _) rfl) ?_
            refine sp rfl (g_ixI Tryz.underlying54 Tryz.sizeOf60 h64 rfl rfl (by omega) (by omega)) ?_
            refine sp rfl (g_fieldE (c' := 0) Tryz.underlying60 rfl Tryz.sizeOf4 rfl rfl rfl) ?_
            refine sh rfl (g_ldE1 Tryz.isAgg4 hmA rfl rfl) ?_
            refine sp rfl (g_eqlb Tryz.underlying4 rfl rfl) ?_
            refine sp rfl (g_movev (v := .bool _) rfl) ?_
            refine spt rfl rfl rfl (g_movev (v := .bool _) rfl) ?_
            refine spt rfl rfl rfl (g_movev (v := .bool _) rfl) ?_
            refine spf rfl rfl rfl rfl ?_
            refine spf rfl rfl rfl rfl ?_
            refine spf rfl rfl rfl rfl ?_
            refine spf rfl rfl rfl rfl ?_
            refine spf rfl rfl rfl rfl ?_
            refine spf rfl rfl rfl rfl ?_
            refine spf rfl rfl rfl rfl ?_
            refine spf rfl rfl rfl rfl ?_
            refine spf rfl rfl rfl rfl ?_
            refine spf rfl rfl rfl rfl ?_
            refine spt rfl rfl rfl (g_and (b := false) rfl rfl (fun h => by cases h)) ?_
            refine sp rfl (g_or rfl rfl (fun _ => rfl)) ?_
            refine sn (thenN ?_)
            refine cond_f (rfl) ?_
            refine wpIn_skip ?_
            refine thenN ?_
            refine wpIn_seq ?_
            refine wpIn_seq ?_
            refine reg ?_
            refine qq hS (g_assignv (v := .int .i64 _) rfl) ?_
            refine ol_nil (thenN ?_)
            refine wpIn_block ?_
            refine loop (fun (j : Nat) σ w => okS σ [(5, .bool true), (7, .slice b25 O.length d25), (10, .slice a36 RL.length c36), (12, .slice a59 (symsOf p.ops).length c59), (14, .slice a64 (invS (symsOf p.ops) O).length c64), (16, .int .i64 i), (17, .bool false), (19, .int .i64 j)] ∧ St [] w0 I0 I_f w [] ∧ j ≤ (symsOf p.ops).length) (fun j => (symsOf p.ops).length - j) (0) ?_ ?_
            ·
              exact ⟨⟨rfl, rfl, rfl, rfl, rfl, rfl, rfl, rfl, trivial⟩, hS.sel [], by omega⟩
            ·
              rintro j σ w_l ⟨hs, hS, hj0⟩
              rw [← upds_self hs]; clear hs
              refine wpIn_seq ?_
              refine wpIn_seq ?_
              refine reg ?_
              refine qq hS (g_movev (v := .int .i64 _) rfl) ?_
              refine qq hS (g_move _) ?_
              refine qq hS (g_lenI rfl Tryz.underlying54 h59 rfl) ?_
              refine qq hS (g_lss rfl rfl) ?_
              refine ol_nil (thenN ?_)
              refine cond_s rfl ?_ ?_
              ·
                intro hc128
                try simp only [Bool.and_eq_true, Bool.or_eq_true, Bool.not_eq_true', Bool.and_eq_false_imp, Bool.or_eq_false_iff, Bool.not_eq_false', decide_eq_true_eq, decide_eq_false_iff_not] at hc128
                obtain ⟨s, hsi⟩ : ∃ s, (symsOf p.ops)[j]? = some s := ⟨_, List.getElem?_eq_getElem (by omega)⟩
                have hsA := h59.at hsi
                have hha := hasAt_iff (a := (i : Int)) hsi
                refine wpIn_skip ?_
                refine thenN ?_
                refine wpIn_seq ?_
                refine wpIn_block ?_
                refine wpIn_seq ?_
                refine reg ?_
                refine qq hS (g_move _) ?_
                refine qq hS (g_movev (v := .int .i64 _) rfl) ?_
                refine qq hS (g_ixI Tryz.underlying54 Tryz.sizeOf60 h59 rfl rfl (by omega) (by omega)) ?_
                refine qq hS (g_fieldE (c' := 0) Tryz.underlying60 rfl Tryz.sizeOf4 rfl rfl rfl) ?_
                refine qq hS (g_ldE1 Tryz.isAgg4 hsA rfl rfl) ?_
                refine qq hS (g_movev (v := .bool _) rfl) ?_
                refine qu rfl rfl hS (fun hg => (g_move _)) ?_
                intro u137 hu137 hn137
                refine qu rfl rfl hS (fun hg => (g_movev (v := .int .i64 _) rfl)) ?_
                intro u138 hu138 hn138
                refine qu rfl rfl hS (fun hg => (g_ixI Tryz.underlying54 Tryz.sizeOf60 h59 (hu137 hg) (hu138 hg) (by omega) (by omega))) ?_
                intro u139 hu139 hn139
                refine qu rfl rfl hS (fun hg => (g_fieldE (c' := 1) Tryz.underlying60 rfl Tryz.sizeOf3 rfl (hu139 hg) rfl)) ?_
                intro u140 hu140 hn140
                refine qu rfl rfl hS (fun hg => (g_ldE1 Tryz.isAgg3 hsA (hu140 hg) rfl)) ?_
                intro u141 hu141 hn141
                refine qu rfl rfl hS (fun hg => (g_movev (v := .int .i64 _) rfl)) ?_
                intro u142 hu142 hn142
                refine qu rfl rfl hS (fun hg => (g_eql (hu141 hg) (hu142 hg))) ?_
                intro u143 hu143 hn143
                refine qq hS (g_and rfl rfl (fun hq => hu143 hq)) ?_
                refine qq hS (g_assignv (v := .bool _) rfl) ?_
                refine ol_nil (thenN ?_)
                refine wpIn_seq ?_
                refine (Bool.eq_false_or_eq_true (s.old && decide (s.at_ = (i : Int)))).elim (fun hfr => ?_) (fun hfr => ?_)
                ·
                  have hjj : j0 ≤ j := by
                    rcases Nat.lt_or_ge j j0 with h | h
                    · exact absurd (hha.1 hfr) (hj3 j h)
                    · exact h
                  rw [hfr]
                  refine reg ?_
                  refine qq hS (g_movev (v := .bool _) rfl) ?_
                  refine qq hS (g_movev (v := .bool _) rfl) ?_
                  refine qqs rfl rfl hS (g_movev (v := .bool _) rfl) ?_
                  refine qqs rfl rfl hS (g_movev (v := .bool _) rfl) ?_
                  refine qqs rfl rfl hS (g_move _) ?_
                  refine qqs rfl rfl hS (g_movev (v := .int .i64 _) rfl) ?_
                  refine qqs rfl rfl hS (g_ixI Tryz.underlying54 Tryz.sizeOf60 h64 rfl rfl (by omega) (by omega)) ?_
                  refine qqs rfl rfl hS (g_fieldE (c' := 1) Tryz.underlying60 rfl Tryz.sizeOf3 rfl rfl rfl) ?_
                  refine qqs rfl rfl hS (g_ldE1 Tryz.isAgg3 hmA rfl rfl) ?_
                  refine qqs rfl rfl hS (g_movev (v := .int .i64 _) rfl) ?_
                  refine qqs rfl rfl hS (g_gtF rfl rfl (by omega)) ?_
                  refine qqs rfl rfl hS (g_or rfl rfl (fun _ => rfl)) ?_
                  refine qq hS (g_and rfl rfl (fun _ => rfl)) ?_
                  refine qq hS (g_movev (v := .bool _) rfl) ?_
                  refine qqs rfl rfl hS (g_movev (v := .bool _) rfl) ?_
                  refine qqs rfl rfl hS (g_not rfl) ?_
                  refine qqs rfl rfl hS (g_movev (v := .bool _) rfl) ?_
                  refine qsf rfl rfl rfl ?_
                  refine qsf rfl rfl rfl ?_
                  refine qqs rfl rfl hS (g_and (b := false) rfl rfl (fun h => by cases h)) ?_
                  refine qqs rfl rfl hS (g_movev (v := .bool _) rfl) ?_
                  refine qsf rfl rfl rfl ?_
                  refine qsf rfl rfl rfl ?_
                  refine qsf rfl rfl rfl ?_
                  refine qsf rfl rfl rfl ?_
                  refine qsf rfl rfl rfl ?_
                  refine qsf rfl rfl rfl ?_
                  refine qsf rfl rfl rfl ?_
                  refine qqs rfl rfl hS (g_and (b := false) rfl rfl (fun h => by cases h)) ?_
                  refine qq hS (g_or rfl rfl (fun _ => rfl)) ?_
                  refine ol_nil (thenN ?_)
                  refine cond_f (rfl) ?_
                  refine wpIn_skip ?_
                  refine blkN (thenN ?_)
                  refine reg ?_
                  refine qq hS (g_movev (v := .int .i64 _) rfl) ?_
                  refine qq hS (g_add rfl rfl (by omega) (by omega)) ?_
                  refine qq hS (g_assignv (v := .int .i64 _) rfl) ?_
                  refine ol_nil (thenN ?_)
                  exact ⟨j + 1, _, rfl, ⟨⟨rfl, rfl, rfl, rfl, rfl, rfl, rfl, rfl, trivial⟩, hS.sel [], by omega⟩, by omega⟩
                ·
                  have hjj : ¬ (j0 : Int) = (j : Int) := fun h => by
                    have e : j0 = j := by omega
                    subst e
                    rw [hha.2 hj2] at hfr; cases hfr
                  rw [hfr]
                  refine reg ?_
                  refine qq hS (g_movev (v := .bool _) rfl) ?_
                  refine qq hS (g_movev (v := .bool _) rfl) ?_
                  refine qsf rfl rfl rfl ?_
                  refine qsf rfl rfl rfl ?_
                  refine qsu rfl rfl ?_
                  refine qsu rfl rfl ?_
                  refine qsu rfl rfl ?_
                  refine qsu rfl rfl ?_
                  refine qsu rfl rfl ?_
                  refine qsu rfl rfl ?_
                  refine qsu rfl rfl ?_
                  refine qsf rfl rfl rfl ?_
                  refine qq hS (g_and (b := false) rfl rfl (fun h => by cases h)) ?_
                  refine qq hS (g_movev (v := .bool _) rfl) ?_
                  refine qqs rfl rfl hS (g_movev (v := .bool _) rfl) ?_
                  refine qqs rfl rfl hS (g_not rfl) ?_
                  refine qqs rfl rfl hS (g_movev (v := .bool _) rfl) ?_
                  refine qqs rfl rfl hS (g_movev (v := .bool _) rfl) ?_
                  refine qqs rfl rfl hS (g_not rfl) ?_
                  refine qqs rfl rfl hS (g_and rfl rfl (fun _ => rfl)) ?_
                  refine qqs rfl rfl hS (g_movev (v := .bool _) rfl) ?_
                  refine qqs rfl rfl hS (g_move _) ?_
                  refine qqs rfl rfl hS (g_movev (v := .int .i64 _) rfl) ?_
                  refine qqs rfl rfl hS (g_ixI Tryz.underlying54 Tryz.sizeOf60 h64 rfl rfl (by omega) (by omega)) ?_
                  refine qqs rfl rfl hS (g_fieldE (c' := 1) Tryz.underlying60 rfl Tryz.sizeOf3 rfl rfl rfl) ?_
                  refine qqs rfl rfl hS (g_ldE1 Tryz.isAgg3 hmA rfl rfl) ?_
                  refine qqs rfl rfl hS (g_movev (v := .int .i64 _) rfl) ?_
                  refine qqs rfl rfl hS (g_eqFK rfl rfl hjj) ?_
                  refine qqs rfl rfl hS (g_and rfl rfl (fun _ => rfl)) ?_
                  refine qq hS (g_or rfl rfl (fun _ => rfl)) ?_
                  refine ol_nil (thenN ?_)
                  refine cond_f (rfl) ?_
                  refine wpIn_skip ?_
                  refine blkN (thenN ?_)
                  refine reg ?_
                  refine qq hS (g_movev (v := .int .i64 _) rfl) ?_
                  refine qq hS (g_add rfl rfl (by omega) (by omega)) ?_
                  refine qq hS (g_assignv (v := .int .i64 _) rfl) ?_
                  refine ol_nil (thenN ?_)
                  exact ⟨j + 1, _, rfl, ⟨⟨rfl, rfl, rfl, rfl, rfl, rfl, rfl, rfl, trivial⟩, hS.sel [], by omega⟩, by omega⟩
              ·
                intro hc128
                try simp only [Bool.and_eq_true, Bool.or_eq_true, Bool.not_eq_true', Bool.and_eq_false_imp, Bool.or_eq_false_iff, Bool.not_eq_false', decide_eq_true_eq, decide_eq_false_iff_not] at hc128
                refine wpIn_exit ?_
                refine thenE (thenE (blkE ?_))
                refine thenN ?_
                refine wpIn_seq ?_
                refine draw (.cons 0 .pure (.cons 1 .pure (.cons 2 .pure (.cons 3 .pure (.cons 4 .pure (.cons 5 .pure (.cons 6 .pure (.cons 7 .held (.cons 8 .pure (.cons 9 .pure (.cons 10 .pure (.cons 11 .pure (.cons 12 .pure (.cons 13 .held (.cons 14 .pure (.cons 15 .pure (.cons 16 .held (.cons 17 .pure (.cons 18 .pure (.cons 19 .pure .nil)))))))))))))))))))) mixed (by kernel_rfl) hS ?_
                intro w_17 hS
                refine sp rfl (g_movev (v := .bool _) rfl) ?_
                refine sp rfl (g_not rfl) ?_
                refine sp rfl (g_movev (v := .bool _) rfl) ?_
                refine spt rfl rfl rfl (g_move _) ?_
                refine spt rfl rfl rfl (g_movev (v := .int .i64 _) rfl) ?_
                refine spt rfl rfl rfl (g_ixI Tryz.underlying54 Tryz.sizeOf60 h64 rfl rfl (by omega) (by omega)) ?_
                refine spt rfl rfl rfl (g_fieldE (c' := 2) Tryz.underlying60 rfl Tryz.sizeOf5 rfl rfl rfl) ?_
                refine sht rfl rfl rfl (g_ldE1 Tryz.isAgg5 hmA rfl rfl) ?_
                refine spt rfl rfl rfl (g_move _) ?_
                refine spt rfl rfl rfl (g_move _) ?_
                refine spt rfl rfl rfl (g_movev (v := .int .i64 _) rfl) ?_
                refine spt rfl rfl rfl (g_ixI Tryz.underlying54 Tryz.sizeOf60 h64 rfl rfl (by omega) (by omega)) ?_
                refine spt rfl rfl rfl (g_fieldE (c' := 1) Tryz.underlying60 rfl Tryz.sizeOf3 rfl rfl rfl) ?_
                refine sht rfl rfl rfl (g_ldE1 Tryz.isAgg3 hmA rfl rfl) ?_
                refine spt rfl rfl rfl (g_ixI Tryz.underlying54 Tryz.sizeOf60 h59 rfl rfl (by omega) (by omega)) ?_
                refine spt rfl rfl rfl (g_fieldE (c' := 2) Tryz.underlying60 rfl Tryz.sizeOf5 rfl rfl rfl) ?_
                refine sht rfl rfl rfl (g_ldE1 Tryz.isAgg5 hjA rfl rfl) ?_
                refine spt rfl rfl rfl (g_addw rfl rfl) ?_
                refine spt rfl rfl rfl (g_neqF rfl rfl hwz) ?_
                refine sp rfl (g_and rfl rfl (fun _ => rfl)) ?_
                refine sn (thenN ?_)
                refine cond_f (rfl) ?_
                refine wpIn_skip ?_
                refine blkN (thenN ?_)
                refine reg ?_
                refine qq hS (g_movev (v := .int .i64 _) rfl) ?_
                refine qq hS (g_add rfl rfl (by omega) (by omega)) ?_
                refine qq hS (g_assignv (v := .int .i64 _) rfl) ?_
                refine ol_nil (thenN ?_)
                exact ⟨i + 1, _, rfl, ⟨⟨rfl, rfl, rfl, rfl, rfl, rfl, trivial⟩, hS.sel [], by omega⟩, by omega⟩
    ·
      intro hc75
      try simp only [Bool.and_eq_true, Bool.or_eq_true, Bool.not_eq_true', Bool.and_eq_false_imp, Bool.or_eq_false_iff, Bool.not_eq_false', decide_eq_true_eq, decide_eq_false_iff_not] at hc75
      refine wpIn_exit ?_
      refine thenE (thenE (blkE ?_))
      refine thenN ?_
      refine wpIn_seq ?_
      refine reg ?_
      refine qq hS (g_movev (v := .bool _) rfl) ?_
      refine qq hS (g_assignv (v := .bool _) rfl) ?_
      refine ol_nil (thenN ?_)
      refine wpIn_ret ?_
      refine ret1 Tryz.results6 (rv_tmp (v := .bool _) rfl) ?_
      exact ⟨_, rfl, hS.nil⟩

end Go.Proofs.YtlhehhhpaebpoaaGreat

