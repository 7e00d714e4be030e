/- inlayref14.ops: operations read from any list and data. Conditions: none. -/
import Derived.Test.YtdgnojckkjfhfaaDoorRPack14
namespace Go.Proofs.YtdgnojckkjfhfaaDoor
open Go Go.RowKit Go.Inl
set_option linter.unusedSimpArgs false
set_option linter.unusedVariables false
/-- One operation, read. -/
def rdOp (l d : List Int) : Option (OpL × List Int × List Int) :=
  if l.headD 0 = 4 then
    if l.length < 4 then none
    else if (d.length : Int) < valC ((l.drop 1).take 3) then none
    else some (⟨4, 0, valC ((l.drop 1).take 3), 0, d.take (valC ((l.drop 1).take 3)).toNat⟩, (l.drop 1).drop 3, d.drop (valC ((l.drop 1).take 3)).toNat)
  else if l.headD 0 = 3 then
    if l.length < 5 then none
    else some (⟨3, 0, valC ((l.drop 1).take 3), ((l.drop 1).drop 3).headD 0, []⟩, ((l.drop 1).drop 3).drop 1, d)
  else if l.length < 7 then none
  else if l.headD 0 = 2 then
    if (d.length : Int) < valC (((l.drop 1).drop 3).take 3) then none
    else some (⟨2, valC ((l.drop 1).take 3), valC (((l.drop 1).drop 3).take 3), 0, d.take (valC (((l.drop 1).drop 3).take 3)).toNat⟩, ((l.drop 1).drop 3).drop 3, d.drop (valC (((l.drop 1).drop 3).take 3)).toNat)
  else some (⟨l.headD 0, valC ((l.drop 1).take 3), valC (((l.drop 1).drop 3).take 3), 0, []⟩, ((l.drop 1).drop 3).drop 3, d)
def opsF : Nat → List Int → List Int → Option (List OpL)
  | 0, _, _ => some []
  | n + 1, l, d => match rdOp l d with
    | none => none
    | some (x, l', d') => (opsF n l' d').map (x :: ·)
theorem opsF_step {N k : Nat} {L D l d l' d' : List Int} {xs : List OpL} {x : OpL} (hk : k < N) (h : opsF N L D = (opsF (N - k) l d).map (xs ++ ·)) (hr : rdOp l d = some (x, l', d')) : opsF N L D = (opsF (N - (k + 1)) l' d').map ((xs ++ [x]) ++ ·) := by
  rw [h, show N - k = (N - (k + 1)) + 1 by omega, opsF, hr]
  dsimp only
  rw [Option.map_map]
  congr 1
  funext y
  simp
theorem opsF_none {N k : Nat} {L D l d : List Int} {xs : List OpL} (hk : k < N) (h : opsF N L D = (opsF (N - k) l d).map (xs ++ ·)) (hr : rdOp l d = none) : opsF N L D = none := by
  rw [h, show N - k = (N - (k + 1)) + 1 by omega, opsF, hr]; rfl
theorem opsF_end {N : Nat} {L D l d : List Int} {xs : List OpL} (h : opsF N L D = (opsF (N - N) l d).map (xs ++ ·)) : opsF N L D = some xs := by
  rw [h, Nat.sub_self, opsF]; simp
theorem take_app3 {w : Nat} (n : Int) (r : List Int) : (numB w n ++ r).take w = numB w n ∧ (numB w n ++ r).drop w = r := by
  have h := numB_len w n
  exact ⟨by rw [List.take_append_of_le_length (by omega), List.take_of_length_le (by omega)], by rw [List.drop_append_of_le_length (by omega), List.drop_of_length_le (by omega), List.nil_append]⟩
theorem rdOp_right {x : OpL} (hg : OpG x) (hs : OpS x) (r d : List Int) : rdOp (opB x ++ r) (x.data ++ d) = some (x, r, d) := by
  obtain ⟨g1, g2⟩ := hg.kind
  obtain ⟨g3, g4⟩ := hg.from_
  obtain ⟨g5, g6⟩ := hg.len
  obtain ⟨g7, g8⟩ := hg.b
  have k1 : numB 1 x.kind = [x.kind] := by show [x.kind / 256 ^ 0 % 256] = _; rw [show x.kind / 256 ^ 0 % 256 = x.kind by omega]
  have b1 : numB 1 x.b = [x.b] := by show [x.b / 256 ^ 0 % 256] = _; rw [show x.b / 256 ^ 0 % 256 = x.b by omega]
  have vl : valC (numB 3 x.len) = x.len := valC_num3 ⟨by omega, by omega⟩
  have vf : valC (numB 3 x.from_) = x.from_ := valC_num3 ⟨by omega, by omega⟩
  have lf := numB_len 3 x.from_
  have ll := numB_len 3 x.len
  obtain ⟨f1, f2⟩ := take_app3 (w := 3) x.from_ (numB 3 x.len ++ r)
  obtain ⟨e1, e2⟩ := take_app3 (w := 3) x.len r
  have hx : x = ⟨x.kind, x.from_, x.len, x.b, x.data⟩ := rfl
  by_cases h12 : x.kind = 1 ∨ x.kind = 2
  · have hL : opB x ++ r = x.kind :: (numB 3 x.from_ ++ (numB 3 x.len ++ r)) := by rw [ol_1 h12, k1]; rfl
    have hd : (opB x ++ r).headD 0 = x.kind := by rw [hL]; rfl
    have h1 : (opB x ++ r).drop 1 = numB 3 x.from_ ++ (numB 3 x.len ++ r) := by rw [hL]; rfl
    have hlen : ¬ (opB x ++ r).length < 7 := by rw [hL]; simp only [List.length_cons, List.length_append]; omega
    have hb := hs.b (by omega)
    unfold rdOp
    rw [hd, if_neg (by omega), if_neg (by omega), if_neg hlen, h1, f1, f2, e1, e2, vl, vf]
    rcases h12 with h | h
    · rw [if_neg (by omega)]
      have hn := hs.none (by omega) (by omega)
      rw [hn, List.nil_append]
      congr 2
      rw [hx]; simp only [hb, hn]
    · have hdl := hs.some (.inl h)
      rw [if_pos h, if_neg (by rw [List.length_append]; omega)]
      have ht : x.len.toNat = x.data.length := by omega
      rw [ht, List.take_append_of_le_length (Nat.le_refl _), List.take_length, List.drop_append_of_le_length (Nat.le_refl _), List.drop_length, List.nil_append]
      congr 2
      conv => rhs; rw [hx]
      simp only [hb, h]
  · by_cases h3 : x.kind = 3
    · have hL : opB x ++ r = x.kind :: (numB 3 x.len ++ (x.b :: r)) := by rw [ol_3 h3, k1, b1]; rfl
      obtain ⟨e1, e2⟩ := take_app3 (w := 3) x.len (x.b :: r)
      have hd : (opB x ++ r).headD 0 = x.kind := by rw [hL]; rfl
      have h1 : (opB x ++ r).drop 1 = numB 3 x.len ++ (x.b :: r) := by rw [hL]; rfl
      have hlen : ¬ (opB x ++ r).length < 5 := by rw [hL]; simp only [List.length_cons, List.length_append]; omega
      have hn := hs.none (by omega) (by omega)
      have hf := hs.from_ (by omega)
      unfold rdOp
      rw [hd, if_neg (by omega), if_pos h3, if_neg hlen, h1, e1, e2, vl, hn, List.nil_append]
      congr 2
      conv => rhs; rw [hx]
      simp only [h3, hf, hn, List.headD_cons]
    · have h4 : x.kind = 4 := by omega
      have hL : opB x ++ r = x.kind :: (numB 3 x.len ++ r) := by rw [ol_4 h4, k1]; rfl
      have hd : (opB x ++ r).headD 0 = x.kind := by rw [hL]; rfl
      have h1 : (opB x ++ r).drop 1 = numB 3 x.len ++ r := by rw [hL]; rfl
      have hlen : ¬ (opB x ++ r).length < 4 := by rw [hL]; simp only [List.length_cons, List.length_append]; omega
      have hb := hs.b (by omega)
      have hf := hs.from_ (by omega)
      have hdl := hs.some (.inr h4)
      unfold rdOp
      rw [hd, if_pos h4, if_neg hlen, h1, e1, e2, vl, if_neg (by rw [List.length_append]; omega)]
      have ht : x.len.toNat = x.data.length := by omega
      rw [ht, List.take_append_of_le_length (Nat.le_refl _), List.take_length, List.drop_append_of_le_length (Nat.le_refl _), List.drop_length, List.nil_append]
      congr 2
      conv => rhs; rw [hx]
      simp only [hb, hf, h4]
theorem opsF_right : ∀ (l : List OpL), (∀ x ∈ l, OpG x) → (∀ x ∈ l, OpS x) → opsF l.length (lsP l) (dtP l) = some l
  | [], _, _ => rfl
  | x :: l, h, h2 => by
    show opsF (l.length + 1) (opB x ++ lsP l) (x.data ++ dtP l) = _
    rw [opsF, rdOp_right (h x (List.mem_cons_self ..)) (h2 x (List.mem_cons_self ..))]
    dsimp only
    rw [opsF_right l (fun y hy => h y (List.mem_cons_of_mem _ hy)) (fun y hy => h2 y (List.mem_cons_of_mem _ hy))]; rfl
def shortL (l : List Int) : Prop := l.length < 7 ∧ (l.length < 4 ∨ l.headD 0 ≠ 4) ∧ (l.length < 5 ∨ l.headD 0 ≠ 3)
theorem short_none {l d : List Int} (h : shortL l) : rdOp l d = none := by
  obtain ⟨h1, h2, h3⟩ := h
  unfold rdOp
  by_cases e4 : l.headD 0 = 4
  · rw [if_pos e4, if_pos (h2.resolve_right fun h => h e4)]
  · rw [if_neg e4]
    by_cases e3 : l.headD 0 = 3
    · rw [if_pos e3, if_pos (h3.resolve_right fun h => h e3)]
    · rw [if_neg e3, if_pos h1]
theorem valN {l : List Int} (hb : Byt l) (h : l.length ≤ 3) : ∃ n : Nat, valC l = n ∧ n < 16777216 := by
  have h1 := valC_bd l hb
  have h2 := pow256 h
  exact ⟨(valC l).toNat, by omega, by omega⟩
theorem valueN_c (ad : Option Addr) (cap : Nat) (l : List Int) (n : Nat) (hn : valC l = n) (hl3 : l.length ≤ 3) (hlb : Byt l) (w0 : World) (I0 : Imm) (hI : Sat I0 w0) (hl : RBytes I0 (.slice ad l.length cap) l) :
    Ctr Tryd.prog 32 [.slice ad l.length cap] w0 (fun v w' => v = .int .i64 n ∧ Ext w0 I0 w' I0) := by
  have h := valueR_c ad cap l hl3 hlb w0 I0 hI hl
  rw [hn] at h
  exact h
structure RoW where
  k : Nat
  xs : List OpL
  css : List (List Value)
  a : Option Addr
  c : Nat
  l : List Int
  la : Option Addr
  lc : Nat
  d : List Int
  da : Option Addr
  dc : Nat

set_option maxHeartbeats 4000000 in
theorem opsR_c (N : Nat) (hN : N ≤ 65535) (L D : List Int) (hLb : Byt L) (hDb : Byt D) (aL aD : Option Addr) (cL cD : Nat) (w0 : World) (I0 : Imm) (hI : Sat I0 w0) (hL : RBytes I0 (.slice aL L.length cL) L) (hD : RBytes I0 (.slice aD D.length cD) D) :
    Ctr Tryd.prog 34 [.slice aL L.length cL, .slice aD D.length cD, .int .i64 N] w0 (fun v w' => ∃ (I' : Imm) (a : Option Addr) (m c : Nat) (ok : Bool) (xs : List OpL), v = .tuple #[.slice a m c, .bool ok] ∧ Ext w0 I0 w' I' ∧ ROps I' (.slice a m c) xs ∧ (∀ y ∈ xs, y.wf) ∧ xs.length ≤ N ∧ ((ok = true ∧ opsF N L D = some xs) ∨ (ok = false ∧ opsF N L D = none))) := by
  refine fn (n := 105) Tryd.func34 rfl rfl rfl ?_
  have hS := St.start hI
  refine wpIn_seq ?_
  refine reg ?_
  refine qq hS (g_assign _) ?_
  refine qq hS (g_assignv (v := .bool _) rfl) ?_
  refine ol_nil (thenN ?_)
  refine wpIn_seq ?_
  refine reg ?_
  refine qe (d_buildSlice0 hS Tryd.underlying29 Tryd.sizeOf53) ?_
  clear hS
  rintro _ w_1 ⟨hS, b11_, rfl⟩
  refine qq hS (g_assign _) ?_
  refine ol_nil (thenN ?_)
  refine wpIn_seq ?_
  refine wpIn_seq ?_
  refine reg ?_
  refine qq hS (g_assignv (v := .int .i64 _) rfl) ?_
  refine ol_nil (thenN ?_)
  refine wpIn_block ?_
  refine loop (fun (x : RoW) σ w => okS σ [(0, .slice x.la x.l.length x.lc), (1, .slice x.da x.d.length x.dc), (2, .int .i64 N), (8, .slice x.a x.k x.c), (9, .int .i64 x.k)] ∧ ∃ I, St [] w0 I0 I w [.row (.slice x.a x.k x.c) 53 5 x.k x.css.flatten] ∧ x.k ≤ N ∧ x.xs.length = x.k ∧ RBytes I0 (.slice x.la x.l.length x.lc) x.l ∧ Byt x.l ∧ RBytes I0 (.slice x.da x.d.length x.dc) x.d ∧ Byt x.d ∧ All2 (ROp I) x.css x.xs ∧ (∀ cs ∈ x.css, cs.length = 5) ∧ (∀ y ∈ x.xs, y.wf) ∧ opsF N L D = (opsF (N - x.k) x.l x.d).map (x.xs ++ ·)) (fun x => N - x.k) (⟨0, [], [], some ⟨b11_, 0, none⟩, 0, L, aL, cL, D, aD, cD⟩) ?_ ?_
  ·
    refine ⟨⟨rfl, rfl, rfl, rfl, rfl, trivial⟩, _, hS.sel [true], Nat.zero_le _, rfl, hL, hLb, hD, hDb, All2.nil _, (fun cs h => by cases h), (fun cs h => by cases h), ?_⟩
    dsimp only; rw [Nat.sub_zero]; simp
  ·
    rintro ⟨k, xs, css, a, c, l, la, lc, d, da, dc⟩ σ w_l ⟨hs, I, hS, hk0, hxk, hl, hlb, hd, hdb, hall, hcl, hxw, hop⟩
    dsimp only at hs hS hk0 hxk hl hlb hd hdb hall hcl hxw hop ⊢
    rw [← upds_self hs]; clear hs
    refine wpIn_seq ?_
    refine wpIn_seq ?_
    refine reg ?_
    refine qq hS (g_movev (v := .int .i64 _) rfl) ?_
    refine qq hS (g_movev (v := .int .i64 _) rfl) ?_
    refine qq hS (g_lss rfl rfl) ?_
    refine ol_nil (thenN ?_)
    refine cond_s rfl ?_ ?_
    ·
      intro hc14
      try simp only [Bool.and_eq_true, Bool.or_eq_true, Bool.not_eq_true', Bool.and_eq_false_imp, Bool.or_eq_false_iff, Bool.not_eq_false', decide_eq_true_eq, decide_eq_false_iff_not] at hc14
      have hll := RSl.le hl
      have hdl := RSl.le hd
      simp only [maxLen] at hll hdl
      have hkN : k < N := by omega
      refine wpIn_skip ?_
      refine thenN ?_
      refine wpIn_seq ?_
      refine wpIn_block ?_
      obtain ⟨J, hJ⟩ : ∃ J, J = I := ⟨_, rfl⟩
      rw [← hJ] at hS hall
      refine meet (fun σ w => okS σ [(0, .slice la l.length lc), (1, .slice da d.length dc), (2, .int .i64 N), (8, .slice a k c), (9, .int .i64 k)] ∧ St [] w0 I0 J w [.row (.slice a k c) 53 5 k css.flatten] ∧ ¬ shortL l) ?_ ?_
      ·
        refine wpIn_seq ?_
        have hsp : 7 ≤ l.length ∨ (l.length < 7 ∧ 4 ≤ l.length ∧ l.headD 0 = 4) ∨ (l.length < 7 ∧ 5 ≤ l.length ∧ l.headD 0 = 3) ∨ l.length < 4 ∨ ((l.length = 4) ∧ l.headD 0 ≠ 4) ∨ (5 ≤ l.length ∧ l.length < 7) ∧ l.headD 0 ≠ 4 ∧ l.headD 0 ≠ 3 := by omega
        refine hsp.elim (fun hA => ?_) fun h => h.elim (fun hB => ?_) fun h => h.elim (fun hC => ?_) fun h => h.elim (fun hD_ => ?_) fun h => h.elim (fun hF => ?_) (fun hG => ?_)
        ·
          have hns : ¬ shortL l := fun h => by have := h.1; omega
          refine reg ?_
          refine qq hS (g_move _) ?_
          refine qq hS (g_lenI rfl Tryd.underlying25 (hl.mono hS.ext) rfl) ?_
          refine qq hS (g_castT (g_lss rfl rfl) (congrArg Value.bool (decide_eq_false (by omega)))) ?_
          refine qq hS (g_movev (v := .bool _) rfl) ?_
          refine qsf rfl rfl rfl ?_
          refine qsf rfl rfl rfl ?_
          refine qsf rfl rfl rfl ?_
          refine qsf rfl rfl rfl ?_
          refine qsu rfl rfl ?_
          refine qsu rfl rfl ?_
          refine qsu rfl rfl ?_
          refine qsu rfl rfl ?_
          refine qsf rfl rfl rfl ?_
          refine qq hS (g_and (b := false) rfl rfl (fun h => (by cases h))) ?_
          refine qq hS (g_movev (v := .bool _) rfl) ?_
          refine qsf rfl rfl rfl ?_
          refine qsf rfl rfl rfl ?_
          refine qsf rfl rfl rfl ?_
          refine qsf rfl rfl rfl ?_
          refine qsu rfl rfl ?_
          refine qsu rfl rfl ?_
          refine qsu rfl rfl ?_
          refine qsu rfl rfl ?_
          refine qsf rfl rfl rfl ?_
          refine qq hS (g_and (b := false) rfl rfl (fun h => (by cases h))) ?_
          refine ol_nil (thenN ?_)
          refine cond_f (rfl) ?_
          refine wpIn_skip ?_
          refine thenN ?_
          exact ⟨_, rfl, ⟨rfl, rfl, rfl, rfl, rfl, trivial⟩, hS.sel [true], hns⟩
        ·
          have h4 := hB.2.2
          obtain ⟨y, hyi⟩ : ∃ y, l[0]? = some y := ⟨_, List.getElem?_eq_getElem (by omega)⟩
          have hy0 : l.headD 0 = y := by rw [List.headD_eq_head?_getD, List.head?_eq_getElem?, hyi]; rfl
          have hyA := (hl.mono hS.ext).at (show l[(0 : Int).toNat]? = some y from hyi)
          have hyb := hlb y (List.mem_of_getElem? hyi)
          rw [hy0] at h4
          have hns : ¬ shortL l := fun h => (h.2.1.elim (fun e => by omega) fun e => e (hy0.trans h4))
          refine reg ?_
          refine qq hS (g_move _) ?_
          refine qq hS (g_lenI rfl Tryd.underlying25 (hl.mono hS.ext) rfl) ?_
          refine qq hS (g_castT (g_lss rfl rfl) (congrArg Value.bool (decide_eq_true (by omega)))) ?_
          refine qq hS (g_movev (v := .bool _) rfl) ?_
          refine qqs rfl rfl hS (g_move _) ?_
          refine qqs rfl rfl hS (g_lenI rfl Tryd.underlying25 (hl.mono hS.ext) rfl) ?_
          refine qqs rfl rfl hS (g_castT (g_lss rfl rfl) (congrArg Value.bool (decide_eq_false (by omega)))) ?_
          refine qqs rfl rfl hS (g_movev (v := .bool _) rfl) ?_
          refine qqs rfl rfl hS (g_move _) ?_
          refine qqs rfl rfl hS (g_ixI Tryd.underlying25 Tryd.sizeOf5 (hl.mono hS.ext) rfl rfl (by omega) (by omega)) ?_
          refine qqs rfl rfl hS (g_ldE1 Tryd.isAgg5 hyA rfl rfl) ?_
          refine qqs rfl rfl hS (g_castT (g_neq rfl rfl) (congrArg Value.bool (show (!decide _) = false by rw [decide_eq_true (by omega)]; rfl))) ?_
          refine qqs rfl rfl hS (g_or rfl rfl (fun _ => rfl)) ?_
          refine qq hS (g_and rfl rfl (fun _ => rfl)) ?_
          refine qq hS (g_movev (v := .bool _) rfl) ?_
          refine qsf rfl rfl rfl ?_
          refine qsf rfl rfl rfl ?_
          refine qsf rfl rfl rfl ?_
          refine qsf rfl rfl rfl ?_
          refine qsu rfl rfl ?_
          refine qsu rfl rfl ?_
          refine qsu rfl rfl ?_
          refine qsu rfl rfl ?_
          refine qsf rfl rfl rfl ?_
          refine qq hS (g_and (b := false) rfl rfl (fun h => (by cases h))) ?_
          refine ol_nil (thenN ?_)
          refine cond_f (rfl) ?_
          refine wpIn_skip ?_
          refine thenN ?_
          exact ⟨_, rfl, ⟨rfl, rfl, rfl, rfl, rfl, trivial⟩, hS.sel [true], hns⟩
        ·
          have h3 := hC.2.2
          obtain ⟨y, hyi⟩ : ∃ y, l[0]? = some y := ⟨_, List.getElem?_eq_getElem (by omega)⟩
          have hy0 : l.headD 0 = y := by rw [List.headD_eq_head?_getD, List.head?_eq_getElem?, hyi]; rfl
          have hyA := (hl.mono hS.ext).at (show l[(0 : Int).toNat]? = some y from hyi)
          have hyb := hlb y (List.mem_of_getElem? hyi)
          rw [hy0] at h3
          have hns : ¬ shortL l := fun h => (h.2.2.elim (fun e => by omega) fun e => e (hy0.trans h3))
          refine reg ?_
          refine qq hS (g_move _) ?_
          refine qq hS (g_lenI rfl Tryd.underlying25 (hl.mono hS.ext) rfl) ?_
          refine qq hS (g_castT (g_lss rfl rfl) (congrArg Value.bool (decide_eq_true (by omega)))) ?_
          refine qq hS (g_movev (v := .bool _) rfl) ?_
          refine qqs rfl rfl hS (g_move _) ?_
          refine qqs rfl rfl hS (g_lenI rfl Tryd.underlying25 (hl.mono hS.ext) rfl) ?_
          refine qqs rfl rfl hS (g_castT (g_lss rfl rfl) (congrArg Value.bool (decide_eq_false (by omega)))) ?_
          refine qqs rfl rfl hS (g_movev (v := .bool _) rfl) ?_
          refine qqs rfl rfl hS (g_move _) ?_
          refine qqs rfl rfl hS (g_ixI Tryd.underlying25 Tryd.sizeOf5 (hl.mono hS.ext) rfl rfl (by omega) (by omega)) ?_
          refine qqs rfl rfl hS (g_ldE1 Tryd.isAgg5 hyA rfl rfl) ?_
          refine qqs rfl rfl hS (g_castT (g_neq rfl rfl) (congrArg Value.bool (show (!decide _) = true by rw [decide_eq_false (by omega)]; rfl))) ?_
          refine qqs rfl rfl hS (g_or rfl rfl (fun _ => rfl)) ?_
          refine qq hS (g_and rfl rfl (fun _ => rfl)) ?_
          refine qq hS (g_movev (v := .bool _) rfl) ?_
          refine qqs rfl rfl hS (g_move _) ?_
          refine qqs rfl rfl hS (g_lenI rfl Tryd.underlying25 (hl.mono hS.ext) rfl) ?_
          refine qqs rfl rfl hS (g_castT (g_lss rfl rfl) (congrArg Value.bool (decide_eq_false (by omega)))) ?_
          refine qqs rfl rfl hS (g_movev (v := .bool _) rfl) ?_
          refine qqs rfl rfl hS (g_move _) ?_
          refine qqs rfl rfl hS (g_ixI Tryd.underlying25 Tryd.sizeOf5 (hl.mono hS.ext) rfl rfl (by omega) (by omega)) ?_
          refine qqs rfl rfl hS (g_ldE1 Tryd.isAgg5 hyA rfl rfl) ?_
          refine qqs rfl rfl hS (g_castT (g_neq rfl rfl) (congrArg Value.bool (show (!decide _) = false by rw [decide_eq_true (by omega)]; rfl))) ?_
          refine qqs rfl rfl hS (g_or rfl rfl (fun _ => rfl)) ?_
          refine qq hS (g_and rfl rfl (fun _ => rfl)) ?_
          refine ol_nil (thenN ?_)
          refine cond_f (rfl) ?_
          refine wpIn_skip ?_
          refine thenN ?_
          exact ⟨_, rfl, ⟨rfl, rfl, rfl, rfl, rfl, trivial⟩, hS.sel [true], hns⟩
        ·
          have hsh : shortL l := ⟨by omega, .inl (by omega), .inl (by omega)⟩
          have hsn := short_none (d := d) hsh
          refine reg ?_
          refine qq hS (g_move _) ?_
          refine qq hS (g_lenI rfl Tryd.underlying25 (hl.mono hS.ext) rfl) ?_
          refine qq hS (g_castT (g_lss rfl rfl) (congrArg Value.bool (decide_eq_true (by omega)))) ?_
          refine qq hS (g_movev (v := .bool _) rfl) ?_
          refine qqs rfl rfl hS (g_move _) ?_
          refine qqs rfl rfl hS (g_lenI rfl Tryd.underlying25 (hl.mono hS.ext) rfl) ?_
          refine qqs rfl rfl hS (g_castT (g_lss rfl rfl) (congrArg Value.bool (decide_eq_true (by omega)))) ?_
          refine qqs rfl rfl hS (g_movev (v := .bool _) rfl) ?_
          refine qsf rfl rfl rfl ?_
          refine qsf rfl rfl rfl ?_
          refine qsf rfl rfl rfl ?_
          refine qsf rfl rfl rfl ?_
          refine qqs rfl rfl hS (g_or (b := false) rfl rfl (fun h => (by cases h))) ?_
          refine qq hS (g_and rfl rfl (fun _ => rfl)) ?_
          refine qq hS (g_movev (v := .bool _) rfl) ?_
          refine qqs rfl rfl hS (g_move _) ?_
          refine qqs rfl rfl hS (g_lenI rfl Tryd.underlying25 (hl.mono hS.ext) rfl) ?_
          refine qqs rfl rfl hS (g_castT (g_lss rfl rfl) (congrArg Value.bool (decide_eq_true (by omega)))) ?_
          refine qqs rfl rfl hS (g_movev (v := .bool _) rfl) ?_
          refine qsf rfl rfl rfl ?_
          refine qsf rfl rfl rfl ?_
          refine qsf rfl rfl rfl ?_
          refine qsf rfl rfl rfl ?_
          refine qqs rfl rfl hS (g_or (b := false) rfl rfl (fun h => (by cases h))) ?_
          refine qq hS (g_and rfl rfl (fun _ => rfl)) ?_
          refine ol_nil (thenN ?_)
          refine cond_t (rfl) ?_
          refine wpIn_seq ?_
          refine reg ?_
          refine qq hS (g_assign _) ?_
          refine qq hS (g_assignv (v := .bool _) rfl) ?_
          refine ol_nil (thenN ?_)
          refine wpIn_ret ?_
          refine thenR (blkR (thenR (thenR (blkR (thenR ?_)))))
          refine ret2 Tryd.results34 (rv_tmp rfl) (rv_tmp (v := .bool _) rfl) ?_
          first
            | exact ⟨_, none, 0, 0, false, [], rfl, hS.nil, RSl.nilR, (fun y hy => by cases hy), Nat.zero_le _, .inr ⟨rfl, opsF_none hkN hop hsn⟩⟩
            | (obtain ⟨I6, hS3, hI3, ho3⟩ := St.freezeRowR (hS.sel [true]) hxk.symm hcl hall
               exact ⟨I6, a, k, c, true, xs, rfl, hS3, RSl.mono ho3 (Sub.refl _) fun _ _ h => h.mono hI3, hxw, by omega, .inl ⟨rfl, hfin⟩⟩)
        ·
          obtain ⟨y, hyi⟩ : ∃ y, l[0]? = some y := ⟨_, List.getElem?_eq_getElem (by omega)⟩
          have hy0 : l.headD 0 = y := by rw [List.headD_eq_head?_getD, List.head?_eq_getElem?, hyi]; rfl
          have hyA := (hl.mono hS.ext).at (show l[(0 : Int).toNat]? = some y from hyi)
          have hyb := hlb y (List.mem_of_getElem? hyi)
          have h4n := hF.2
          have hlt5 := hF.1
          rw [hy0] at h4n
          have hsh : shortL l := ⟨by omega, .inr (by rw [hy0]; exact h4n), .inl (by omega)⟩
          have hsn := short_none (d := d) hsh
          refine reg ?_
          refine qq hS (g_move _) ?_
          refine qq hS (g_lenI rfl Tryd.underlying25 (hl.mono hS.ext) rfl) ?_
          refine qq hS (g_castT (g_lss rfl rfl) (congrArg Value.bool (decide_eq_true (by omega)))) ?_
          refine qq hS (g_movev (v := .bool _) rfl) ?_
          refine qqs rfl rfl hS (g_move _) ?_
          refine qqs rfl rfl hS (g_lenI rfl Tryd.underlying25 (hl.mono hS.ext) rfl) ?_
          refine qqs rfl rfl hS (g_castT (g_lss rfl rfl) (congrArg Value.bool (decide_eq_false (by omega)))) ?_
          refine qqs rfl rfl hS (g_movev (v := .bool _) rfl) ?_
          refine qqs rfl rfl hS (g_move _) ?_
          refine qqs rfl rfl hS (g_ixI Tryd.underlying25 Tryd.sizeOf5 (hl.mono hS.ext) rfl rfl (by omega) (by omega)) ?_
          refine qqs rfl rfl hS (g_ldE1 Tryd.isAgg5 hyA rfl rfl) ?_
          refine qqs rfl rfl hS (g_castT (g_neq rfl rfl) (congrArg Value.bool (show (!decide _) = true by rw [decide_eq_false (by omega)]; rfl))) ?_
          refine qqs rfl rfl hS (g_or rfl rfl (fun _ => rfl)) ?_
          refine qq hS (g_and rfl rfl (fun _ => rfl)) ?_
          refine qq hS (g_movev (v := .bool _) rfl) ?_
          refine qqs rfl rfl hS (g_move _) ?_
          refine qqs rfl rfl hS (g_lenI rfl Tryd.underlying25 (hl.mono hS.ext) rfl) ?_
          refine qqs rfl rfl hS (g_castT (g_lss rfl rfl) (congrArg Value.bool (decide_eq_true (by omega)))) ?_
          refine qqs rfl rfl hS (g_movev (v := .bool _) rfl) ?_
          refine qsf rfl rfl rfl ?_
          refine qsf rfl rfl rfl ?_
          refine qsf rfl rfl rfl ?_
          refine qsf rfl rfl rfl ?_
          refine qqs rfl rfl hS (g_or (b := false) rfl rfl (fun h => (by cases h))) ?_
          refine qq hS (g_and rfl rfl (fun _ => rfl)) ?_
          refine ol_nil (thenN ?_)
          refine cond_t (rfl) ?_
          refine wpIn_seq ?_
          refine reg ?_
          refine qq hS (g_assign _) ?_
          refine qq hS (g_assignv (v := .bool _) rfl) ?_
          refine ol_nil (thenN ?_)
          refine wpIn_ret ?_
          refine thenR (blkR (thenR (thenR (blkR (thenR ?_)))))
          refine ret2 Tryd.results34 (rv_tmp rfl) (rv_tmp (v := .bool _) rfl) ?_
          first
            | exact ⟨_, none, 0, 0, false, [], rfl, hS.nil, RSl.nilR, (fun y hy => by cases hy), Nat.zero_le _, .inr ⟨rfl, opsF_none hkN hop hsn⟩⟩
            | (obtain ⟨I6, hS3, hI3, ho3⟩ := St.freezeRowR (hS.sel [true]) hxk.symm hcl hall
               exact ⟨I6, a, k, c, true, xs, rfl, hS3, RSl.mono ho3 (Sub.refl _) fun _ _ h => h.mono hI3, hxw, by omega, .inl ⟨rfl, hfin⟩⟩)
        ·
          obtain ⟨y, hyi⟩ : ∃ y, l[0]? = some y := ⟨_, List.getElem?_eq_getElem (by omega)⟩
          have hy0 : l.headD 0 = y := by rw [List.headD_eq_head?_getD, List.head?_eq_getElem?, hyi]; rfl
          have hyA := (hl.mono hS.ext).at (show l[(0 : Int).toNat]? = some y from hyi)
          have hyb := hlb y (List.mem_of_getElem? hyi)
          obtain ⟨g1, g2, g3⟩ := hG
          rw [hy0] at g2 g3
          have hsh : shortL l := ⟨by omega, .inr (by rw [hy0]; exact g2), .inr (by rw [hy0]; exact g3)⟩
          have hsn := short_none (d := d) hsh
          refine reg ?_
          refine qq hS (g_move _) ?_
          refine qq hS (g_lenI rfl Tryd.underlying25 (hl.mono hS.ext) rfl) ?_
          refine qq hS (g_castT (g_lss rfl rfl) (congrArg Value.bool (decide_eq_true (by omega)))) ?_
          refine qq hS (g_movev (v := .bool _) rfl) ?_
          refine qqs rfl rfl hS (g_move _) ?_
          refine qqs rfl rfl hS (g_lenI rfl Tryd.underlying25 (hl.mono hS.ext) rfl) ?_
          refine qqs rfl rfl hS (g_castT (g_lss rfl rfl) (congrArg Value.bool (decide_eq_false (by omega)))) ?_
          refine qqs rfl rfl hS (g_movev (v := .bool _) rfl) ?_
          refine qqs rfl rfl hS (g_move _) ?_
          refine qqs rfl rfl hS (g_ixI Tryd.underlying25 Tryd.sizeOf5 (hl.mono hS.ext) rfl rfl (by omega) (by omega)) ?_
          refine qqs rfl rfl hS (g_ldE1 Tryd.isAgg5 hyA rfl rfl) ?_
          refine qqs rfl rfl hS (g_castT (g_neq rfl rfl) (congrArg Value.bool (show (!decide _) = true by rw [decide_eq_false (by omega)]; rfl))) ?_
          refine qqs rfl rfl hS (g_or rfl rfl (fun _ => rfl)) ?_
          refine qq hS (g_and rfl rfl (fun _ => rfl)) ?_
          refine qq hS (g_movev (v := .bool _) rfl) ?_
          refine qqs rfl rfl hS (g_move _) ?_
          refine qqs rfl rfl hS (g_lenI rfl Tryd.underlying25 (hl.mono hS.ext) rfl) ?_
          refine qqs rfl rfl hS (g_castT (g_lss rfl rfl) (congrArg Value.bool (decide_eq_false (by omega)))) ?_
          refine qqs rfl rfl hS (g_movev (v := .bool _) rfl) ?_
          refine qqs rfl rfl hS (g_move _) ?_
          refine qqs rfl rfl hS (g_ixI Tryd.underlying25 Tryd.sizeOf5 (hl.mono hS.ext) rfl rfl (by omega) (by omega)) ?_
          refine qqs rfl rfl hS (g_ldE1 Tryd.isAgg5 hyA rfl rfl) ?_
          refine qqs rfl rfl hS (g_castT (g_neq rfl rfl) (congrArg Value.bool (show (!decide _) = true by rw [decide_eq_false (by omega)]; rfl))) ?_
          refine qqs rfl rfl hS (g_or rfl rfl (fun _ => rfl)) ?_
          refine qq hS (g_and rfl rfl (fun _ => rfl)) ?_
          refine ol_nil (thenN ?_)
          refine cond_t (rfl) ?_
          refine wpIn_seq ?_
          refine reg ?_
          refine qq hS (g_assign _) ?_
          refine qq hS (g_assignv (v := .bool _) rfl) ?_
          refine ol_nil (thenN ?_)
          refine wpIn_ret ?_
          refine thenR (blkR (thenR (thenR (blkR (thenR ?_)))))
          refine ret2 Tryd.results34 (rv_tmp rfl) (rv_tmp (v := .bool _) rfl) ?_
          first
            | exact ⟨_, none, 0, 0, false, [], rfl, hS.nil, RSl.nilR, (fun y hy => by cases hy), Nat.zero_le _, .inr ⟨rfl, opsF_none hkN hop hsn⟩⟩
            | (obtain ⟨I6, hS3, hI3, ho3⟩ := St.freezeRowR (hS.sel [true]) hxk.symm hcl hall
               exact ⟨I6, a, k, c, true, xs, rfl, hS3, RSl.mono ho3 (Sub.refl _) fun _ _ h => h.mono hI3, hxw, by omega, .inl ⟨rfl, hfin⟩⟩)
      ·
        rintro σ w ⟨hs, hS, hns⟩
        rw [← upds_self hs]
        refine wpIn_seq ?_
        have hsp : (7 ≤ l.length ∧ l.headD 0 ≠ 2 ∧ l.headD 0 ≠ 3 ∧ l.headD 0 ≠ 4) ∨ (7 ≤ l.length ∧ l.headD 0 = 2) ∨ (5 ≤ l.length ∧ l.headD 0 = 3) ∨ (4 ≤ l.length ∧ l.headD 0 = 4) := by unfold shortL at hns; omega
        refine hsp.elim (fun hA => ?_) fun h => h.elim (fun hB => ?_) fun h => h.elim (fun hC => ?_) (fun hD => ?_)
        ·
          have hl1 : (l.drop 1).length = l.length - 1 := List.length_drop
          have hl2 : ((l.drop 1).drop 3).length = l.length - 4 := by rw [List.length_drop]; omega
          obtain ⟨y, hyi⟩ : ∃ y, l[0]? = some y := ⟨_, List.getElem?_eq_getElem (by omega)⟩
          have hy0 : l.headD 0 = y := by rw [List.headD_eq_head?_getD, List.head?_eq_getElem?, hyi]; rfl
          have hyA := (hl.mono hS.ext).at (show l[(0 : Int).toNat]? = some y from hyi)
          have hyb := hlb y (List.mem_of_getElem? hyi)
          have hs48 : RBytes I0 _ _ := RSl.slL hl 1 (by omega)
          obtain ⟨a48, c48, hv48, _⟩ := hs48.len
          rw [hv48] at hs48
          rw [hy0] at hA
          have hs58 : RBytes I0 _ _ := RSl.slH hs48 3 (by omega)
          have hcp58 := (RSl.resl2 hs48 3 3 (Nat.le_refl _) (by omega)).2.1
          obtain ⟨a58, c58, hv58, _⟩ := hs58.len
          rw [hv58] at hs58
          obtain ⟨nf, hnf, hnfb⟩ := valN (byt_take (byt_drop hlb 1) 3) (by rw [List.length_take]; omega)
          have hs62 : RBytes I0 _ _ := RSl.slL hs48 3 (by omega)
          obtain ⟨a62, c62, hv62, _⟩ := hs62.len
          rw [hv62] at hs62
          have hs64 : RBytes I0 _ _ := RSl.slH hs62 3 (by omega)
          have hcp64 := (RSl.resl2 hs62 3 3 (Nat.le_refl _) (by omega)).2.1
          obtain ⟨a64, c64, hv64, _⟩ := hs64.len
          rw [hv64] at hs64
          obtain ⟨nl, hnl, hnlb⟩ := valN (byt_take (byt_drop (byt_drop hlb 1) 3) 3) (by rw [List.length_take]; omega)
          have hs68 : RBytes I0 _ _ := RSl.slL hs62 3 (by omega)
          obtain ⟨a68, c68, hv68, _⟩ := hs68.len
          rw [hv68] at hs68
          have hl3 : (((l.drop 1).drop 3).drop 3).length = l.length - 7 := by rw [List.length_drop, hl2]; omega
          have hrd : rdOp l d = some (⟨y, nf, nl, 0, []⟩, ((l.drop 1).drop 3).drop 3, d) := by
            unfold rdOp
            rw [hy0, if_neg hA.2.2.2, if_neg hA.2.2.1, if_neg (by omega), if_neg hA.2.1, hnf, hnl]
          refine reg ?_
          refine qq hS (g_move _) ?_
          refine qq hS (g_ixI Tryd.underlying25 Tryd.sizeOf5 (hl.mono hS.ext) rfl rfl (by omega) (by omega)) ?_
          refine qq hS (g_ldE1 Tryd.isAgg5 hyA rfl rfl) ?_
          refine qq hS (g_convi Tryd.underlying5 Tryd.underlying3 rfl (by omega) (by omega)) ?_
          refine qq hS (g_buildv (pl := [(0, 1), (1, 1), (2, 1), (3, 1), (4, 1)]) (cs := [.int .i64 _, .int .i64 _, .int .i64 _, .int .u8 _, .slice _ _ _]) Tryd.zeroValue53 Tryd.underlying53 (fun w => by simp [Tryd.sizeOf25, Tryd.sizeOf3, Tryd.sizeOf5]) (mp (v := .int .i64 _) rfl mp0) rfl) ?_
          refine qe (d_alloc (cs := [.int .i64 _, .int .i64 _, .int .i64 _, .int .u8 _, .slice _ _ _]) hS Tryd.zeroValue53 rfl) ?_
          clear hS
          rintro _ w_2 ⟨b10, rfl, hS⟩
          refine qe (d_store 0 hS Tryd.sizeOf53 rfl rfl rfl (vs := [.int .i64 _, .int .i64 _, .int .i64 _, .int .u8 _, .slice _ _ _]) rfl rfl rfl (Nat.le_of_ble_eq_true rfl) (cs' := [_, _, _, _, _]) rfl) ?_
          clear hS
          rintro _ w_3 ⟨rfl, hS⟩
          refine ol_nil (thenN ?_)
          refine wpIn_seq ?_
          refine reg ?_
          refine qq hS (g_move _) ?_
          refine qq hS (g_castT (g_sliceLN (l0 := 1) Tryd.underlying25 Tryd.sizeOf5 rfl rfl (by omega) (by omega) (by first | rfl | omega)) hv48) ?_
          refine qq hS (g_assign _) ?_
          refine ol_nil (thenN ?_)
          refine wpIn_seq ?_
          refine wpIn_seq ?_
          refine reg ?_
          refine qq hS (g_fieldAddr (o' := 0) Tryd.underlying53 rfl Tryd.sizeOf3 rfl rfl rfl) ?_
          refine qq hS (g_ldO1 0 Tryd.isAgg3 rfl rfl rfl) ?_
          refine qq hS (g_castT (g_neq rfl rfl) (congrArg Value.bool (show (!decide _) = true by rw [decide_eq_false (by omega)]; rfl))) ?_
          refine qq hS (g_movev (v := .bool _) rfl) ?_
          refine qqs rfl rfl hS (g_fieldAddr (o' := 0) Tryd.underlying53 rfl Tryd.sizeOf3 rfl rfl rfl) ?_
          refine qqs rfl rfl hS (g_ldO1 0 Tryd.isAgg3 rfl rfl rfl) ?_
          refine qqs rfl rfl hS (g_castT (g_neq rfl rfl) (congrArg Value.bool (show (!decide _) = true by rw [decide_eq_false (by omega)]; rfl))) ?_
          refine qq hS (g_and rfl rfl (fun _ => rfl)) ?_
          refine ol_nil (thenN ?_)
          refine cond_t (rfl) ?_
          refine wpIn_seq ?_
          refine reg ?_
          refine qq hS (g_move _) ?_
          refine qq hS (g_castT (g_sliceHN (h0 := 3) Tryd.underlying25 Tryd.sizeOf5 rfl rfl (by omega) (by omega) (by first | rfl | omega)) hv58) ?_
          refine qe (d_call Tryd.call32 rfl (valueN_c _ _ ((l.drop 1).take 3) nf hnf (by rw [List.length_take]; omega) (byt_take (byt_drop hlb 1) _) _ _ hS.imm (hs58.mono hS.ext))) ?_
          rintro _ w_4 ⟨rfl, hE⟩
          replace hS := hS.callE hE
          refine qq hS (g_fieldAddr (o' := 1) Tryd.underlying53 rfl Tryd.sizeOf3 rfl rfl rfl) ?_
          refine qe (d_store 0 hS Tryd.sizeOf3 rfl rfl rfl (vs := [.int .i64 _]) rfl rfl rfl (Nat.le_of_ble_eq_true rfl) (cs' := [_, _, _, _, _]) rfl) ?_
          clear hS
          rintro _ w_5 ⟨rfl, hS⟩
          refine ol_nil (thenN ?_)
          refine reg ?_
          refine qq hS (g_move _) ?_
          refine qq hS (g_castT (g_sliceLN (l0 := 3) Tryd.underlying25 Tryd.sizeOf5 rfl rfl (by omega) (by omega) (by first | rfl | omega)) hv62) ?_
          refine qq hS (g_assign _) ?_
          refine ol_nil (thenN ?_)
          refine wpIn_seq ?_
          refine reg ?_
          refine qq hS (g_move _) ?_
          refine qq hS (g_castT (g_sliceHN (h0 := 3) Tryd.underlying25 Tryd.sizeOf5 rfl rfl (by omega) (by omega) (by first | rfl | omega)) hv64) ?_
          refine qe (d_call Tryd.call32 rfl (valueN_c _ _ (((l.drop 1).drop 3).take 3) nl hnl (by rw [List.length_take]; omega) (byt_take (byt_drop (byt_drop hlb 1) 3) _) _ _ hS.imm (hs64.mono hS.ext))) ?_
          rintro _ w_6 ⟨rfl, hE⟩
          replace hS := hS.callE hE
          refine qq hS (g_fieldAddr (o' := 2) Tryd.underlying53 rfl Tryd.sizeOf3 rfl rfl rfl) ?_
          refine qe (d_store 0 hS Tryd.sizeOf3 rfl rfl rfl (vs := [.int .i64 _]) rfl rfl rfl (Nat.le_of_ble_eq_true rfl) (cs' := [_, _, _, _, _]) rfl) ?_
          clear hS
          rintro _ w_7 ⟨rfl, hS⟩
          refine ol_nil (thenN ?_)
          refine wpIn_seq ?_
          refine reg ?_
          refine qq hS (g_move _) ?_
          refine qq hS (g_castT (g_sliceLN (l0 := 3) Tryd.underlying25 Tryd.sizeOf5 rfl rfl (by omega) (by omega) (by first | rfl | omega)) hv68) ?_
          refine qq hS (g_assign _) ?_
          refine ol_nil (thenN ?_)
          refine wpIn_seq ?_
          refine wpIn_seq ?_
          refine reg ?_
          refine qq hS (g_fieldAddr (o' := 0) Tryd.underlying53 rfl Tryd.sizeOf3 rfl rfl rfl) ?_
          refine qq hS (g_ldO1 0 Tryd.isAgg3 rfl rfl rfl) ?_
          refine qq hS (g_castT (g_eql rfl rfl) (congrArg Value.bool (decide_eq_false (by omega)))) ?_
          refine ol_nil (thenN ?_)
          refine cond_f (rfl) ?_
          refine wpIn_skip ?_
          refine thenN ?_
          refine wpIn_seq ?_
          refine wpIn_seq ?_
          refine reg ?_
          refine qq hS (g_fieldAddr (o' := 0) Tryd.underlying53 rfl Tryd.sizeOf3 rfl rfl rfl) ?_
          refine qq hS (g_ldO1 0 Tryd.isAgg3 rfl rfl rfl) ?_
          refine qq hS (g_castT (g_eql rfl rfl) (congrArg Value.bool (decide_eq_false (by omega)))) ?_
          refine qq hS (g_movev (v := .bool _) rfl) ?_
          refine qqs rfl rfl hS (g_fieldAddr (o' := 0) Tryd.underlying53 rfl Tryd.sizeOf3 rfl rfl rfl) ?_
          refine qqs rfl rfl hS (g_ldO1 0 Tryd.isAgg3 rfl rfl rfl) ?_
          refine qqs rfl rfl hS (g_castT (g_eql rfl rfl) (congrArg Value.bool (decide_eq_false (by omega)))) ?_
          refine qq hS (g_or rfl rfl (fun _ => rfl)) ?_
          refine ol_nil (thenN ?_)
          refine cond_f (rfl) ?_
          refine wpIn_skip ?_
          refine thenN ?_
          refine reg ?_
          refine qq hS (g_move _) ?_
          refine qq hS (g_ldO 0 (vs := [.int .i64 _, .int .i64 _, .int .i64 _, .int .u8 _, .slice _ _ _]) Tryd.sizeOf53 Tryd.isAgg53 rfl rfl rfl rfl) ?_
          refine qe (d_lit (vs := [.agg #[.int .i64 _, .int .i64 _, .int .i64 _, .int .u8 _, .slice _ _ _]]) (cs := [.int .i64 _, .int .i64 _, .int .i64 _, .int .u8 _, .slice _ _ _]) hS Tryd.underlying29 Tryd.sizeOf53 Tryd.zeroValue53 rfl rfl rfl rfl (fun v hv => by simp only [List.mem_cons, List.not_mem_nil, or_false] at hv; subst hv; rfl) rfl) ?_
          clear hS
          rintro _ w_8 ⟨b102, rfl, hS⟩
          refine qe (i_appendO 2 0 hS rfl Tryd.underlying29 info53 rfl rfl rfl rfl rfl rfl rfl rfl (by omega) (by omega)) ?_
          clear hS
          rintro _ w_9 ⟨a103, p103, rfl, hS⟩
          refine qq hS (g_assign _) ?_
          refine ol_nil (blkN (thenN ?_))
          refine reg ?_
          refine qq hS (g_movev (v := .int .i64 _) rfl) ?_
          refine qq hS (g_add rfl rfl (by omega) (by omega)) ?_
          refine qq hS (g_assignv (v := .int .i64 _) rfl) ?_
          refine ol_nil (thenN ?_)
          refine ⟨⟨k + 1, xs ++ [⟨y, nf, nl, 0, []⟩], css ++ [[.int .i64 y, .int .i64 nf, .int .i64 nl, .int .u8 0, .slice none 0 0]], a103, p103, (((l.drop 1).drop 3).drop 3), a68, c68, d, da, dc⟩, _, rfl, ⟨⟨rfl, rfl, rfl, rfl, rfl, trivial⟩, J, ?_, by dsimp only; omega, by dsimp only; rw [List.length_append, hxk]; rfl, hs68, (byt_drop (byt_drop (byt_drop hlb 1) 3) 3), hd, hdb, ?_, ?_, ?_, opsF_step (by omega) hop hrd⟩, by dsimp only; omega⟩
          · dsimp only
            rw [List.flatten_append, List.flatten_singleton]
            exact hS.sel [false, false, true]
          · exact All2.snoc hall ⟨_, _, _, rfl, RFl.nil⟩
          · intro cs hcs
            rcases List.mem_append.1 hcs with h | h
            · exact hcl cs h
            · simp only [List.mem_singleton] at h; subst h; rfl
          · intro y hy
            rcases List.mem_append.1 hy with h | h
            · exact hxw y h
            · simp only [List.mem_singleton] at h; subst h
              exact ⟨⟨by dsimp only; omega, by dsimp only; omega⟩, ⟨by dsimp only; omega, by dsimp only; omega⟩, ⟨by dsimp only; omega, by dsimp only; omega⟩, ⟨by dsimp only; omega, by dsimp only; omega⟩, fun z hz => (by cases hz)⟩
        ·
          have hl1 : (l.drop 1).length = l.length - 1 := List.length_drop
          have hl2 : ((l.drop 1).drop 3).length = l.length - 4 := by rw [List.length_drop]; omega
          obtain ⟨y, hyi⟩ : ∃ y, l[0]? = some y := ⟨_, List.getElem?_eq_getElem (by omega)⟩
          have hy0 : l.headD 0 = y := by rw [List.headD_eq_head?_getD, List.head?_eq_getElem?, hyi]; rfl
          have hyA := (hl.mono hS.ext).at (show l[(0 : Int).toNat]? = some y from hyi)
          have hyb := hlb y (List.mem_of_getElem? hyi)
          have hs48 : RBytes I0 _ _ := RSl.slL hl 1 (by omega)
          obtain ⟨a48, c48, hv48, _⟩ := hs48.len
          rw [hv48] at hs48
          rw [hy0] at hB
          have hs58 : RBytes I0 _ _ := RSl.slH hs48 3 (by omega)
          have hcp58 := (RSl.resl2 hs48 3 3 (Nat.le_refl _) (by omega)).2.1
          obtain ⟨a58, c58, hv58, _⟩ := hs58.len
          rw [hv58] at hs58
          obtain ⟨nf, hnf, hnfb⟩ := valN (byt_take (byt_drop hlb 1) 3) (by rw [List.length_take]; omega)
          have hs62 : RBytes I0 _ _ := RSl.slL hs48 3 (by omega)
          obtain ⟨a62, c62, hv62, _⟩ := hs62.len
          rw [hv62] at hs62
          have hs64 : RBytes I0 _ _ := RSl.slH hs62 3 (by omega)
          have hcp64 := (RSl.resl2 hs62 3 3 (Nat.le_refl _) (by omega)).2.1
          obtain ⟨a64, c64, hv64, _⟩ := hs64.len
          rw [hv64] at hs64
          obtain ⟨nl, hnl, hnlb⟩ := valN (byt_take (byt_drop (byt_drop hlb 1) 3) 3) (by rw [List.length_take]; omega)
          have hs68 : RBytes I0 _ _ := RSl.slL hs62 3 (by omega)
          obtain ⟨a68, c68, hv68, _⟩ := hs68.len
          rw [hv68] at hs68
          have hsn : (d.length : Int) < nl → rdOp l d = none := fun h => by
            unfold rdOp
            rw [hy0, if_neg (by omega), if_neg (by omega), if_neg (by omega), if_pos hB.2, hnl, if_pos h]
          have hrd : ¬ (d.length : Int) < nl → rdOp l d = some (⟨2, nf, nl, 0, d.take nl⟩, ((l.drop 1).drop 3).drop 3, d.drop nl) := fun h => by
            unfold rdOp
            rw [hy0, if_neg (by omega), if_neg (by omega), if_neg (by omega), if_pos hB.2, hnf, hnl, if_neg h]; rfl
          rw [← hB.2] at hrd
          refine reg ?_
          refine qq hS (g_move _) ?_
          refine qq hS (g_ixI Tryd.underlying25 Tryd.sizeOf5 (hl.mono hS.ext) rfl rfl (by omega) (by omega)) ?_
          refine qq hS (g_ldE1 Tryd.isAgg5 hyA rfl rfl) ?_
          refine qq hS (g_convi Tryd.underlying5 Tryd.underlying3 rfl (by omega) (by omega)) ?_
          refine qq hS (g_buildv (pl := [(0, 1), (1, 1), (2, 1), (3, 1), (4, 1)]) (cs := [.int .i64 _, .int .i64 _, .int .i64 _, .int .u8 _, .slice _ _ _]) Tryd.zeroValue53 Tryd.underlying53 (fun w => by simp [Tryd.sizeOf25, Tryd.sizeOf3, Tryd.sizeOf5]) (mp (v := .int .i64 _) rfl mp0) rfl) ?_
          refine qe (d_alloc (cs := [.int .i64 _, .int .i64 _, .int .i64 _, .int .u8 _, .slice _ _ _]) hS Tryd.zeroValue53 rfl) ?_
          clear hS
          rintro _ w_10 ⟨b10, rfl, hS⟩
          refine qe (d_store 0 hS Tryd.sizeOf53 rfl rfl rfl (vs := [.int .i64 _, .int .i64 _, .int .i64 _, .int .u8 _, .slice _ _ _]) rfl rfl rfl (Nat.le_of_ble_eq_true rfl) (cs' := [_, _, _, _, _]) rfl) ?_
          clear hS
          rintro _ w_11 ⟨rfl, hS⟩
          refine ol_nil (thenN ?_)
          refine wpIn_seq ?_
          refine reg ?_
          refine qq hS (g_move _) ?_
          refine qq hS (g_castT (g_sliceLN (l0 := 1) Tryd.underlying25 Tryd.sizeOf5 rfl rfl (by omega) (by omega) (by first | rfl | omega)) hv48) ?_
          refine qq hS (g_assign _) ?_
          refine ol_nil (thenN ?_)
          refine wpIn_seq ?_
          refine wpIn_seq ?_
          refine reg ?_
          refine qq hS (g_fieldAddr (o' := 0) Tryd.underlying53 rfl Tryd.sizeOf3 rfl rfl rfl) ?_
          refine qq hS (g_ldO1 0 Tryd.isAgg3 rfl rfl rfl) ?_
          refine qq hS (g_castT (g_neq rfl rfl) (congrArg Value.bool (show (!decide _) = true by rw [decide_eq_false (by omega)]; rfl))) ?_
          refine qq hS (g_movev (v := .bool _) rfl) ?_
          refine qqs rfl rfl hS (g_fieldAddr (o' := 0) Tryd.underlying53 rfl Tryd.sizeOf3 rfl rfl rfl) ?_
          refine qqs rfl rfl hS (g_ldO1 0 Tryd.isAgg3 rfl rfl rfl) ?_
          refine qqs rfl rfl hS (g_castT (g_neq rfl rfl) (congrArg Value.bool (show (!decide _) = true by rw [decide_eq_false (by omega)]; rfl))) ?_
          refine qq hS (g_and rfl rfl (fun _ => rfl)) ?_
          refine ol_nil (thenN ?_)
          refine cond_t (rfl) ?_
          refine wpIn_seq ?_
          refine reg ?_
          refine qq hS (g_move _) ?_
          refine qq hS (g_castT (g_sliceHN (h0 := 3) Tryd.underlying25 Tryd.sizeOf5 rfl rfl (by omega) (by omega) (by first | rfl | omega)) hv58) ?_
          refine qe (d_call Tryd.call32 rfl (valueN_c _ _ ((l.drop 1).take 3) nf hnf (by rw [List.length_take]; omega) (byt_take (byt_drop hlb 1) _) _ _ hS.imm (hs58.mono hS.ext))) ?_
          rintro _ w_12 ⟨rfl, hE⟩
          replace hS := hS.callE hE
          refine qq hS (g_fieldAddr (o' := 1) Tryd.underlying53 rfl Tryd.sizeOf3 rfl rfl rfl) ?_
          refine qe (d_store 0 hS Tryd.sizeOf3 rfl rfl rfl (vs := [.int .i64 _]) rfl rfl rfl (Nat.le_of_ble_eq_true rfl) (cs' := [_, _, _, _, _]) rfl) ?_
          clear hS
          rintro _ w_13 ⟨rfl, hS⟩
          refine ol_nil (thenN ?_)
          refine reg ?_
          refine qq hS (g_move _) ?_
          refine qq hS (g_castT (g_sliceLN (l0 := 3) Tryd.underlying25 Tryd.sizeOf5 rfl rfl (by omega) (by omega) (by first | rfl | omega)) hv62) ?_
          refine qq hS (g_assign _) ?_
          refine ol_nil (thenN ?_)
          refine wpIn_seq ?_
          refine reg ?_
          refine qq hS (g_move _) ?_
          refine qq hS (g_castT (g_sliceHN (h0 := 3) Tryd.underlying25 Tryd.sizeOf5 rfl rfl (by omega) (by omega) (by first | rfl | omega)) hv64) ?_
          refine qe (d_call Tryd.call32 rfl (valueN_c _ _ (((l.drop 1).drop 3).take 3) nl hnl (by rw [List.length_take]; omega) (byt_take (byt_drop (byt_drop hlb 1) 3) _) _ _ hS.imm (hs64.mono hS.ext))) ?_
          rintro _ w_14 ⟨rfl, hE⟩
          replace hS := hS.callE hE
          refine qq hS (g_fieldAddr (o' := 2) Tryd.underlying53 rfl Tryd.sizeOf3 rfl rfl rfl) ?_
          refine qe (d_store 0 hS Tryd.sizeOf3 rfl rfl rfl (vs := [.int .i64 _]) rfl rfl rfl (Nat.le_of_ble_eq_true rfl) (cs' := [_, _, _, _, _]) rfl) ?_
          clear hS
          rintro _ w_15 ⟨rfl, hS⟩
          refine ol_nil (thenN ?_)
          refine wpIn_seq ?_
          refine reg ?_
          refine qq hS (g_move _) ?_
          refine qq hS (g_castT (g_sliceLN (l0 := 3) Tryd.underlying25 Tryd.sizeOf5 rfl rfl (by omega) (by omega) (by first | rfl | omega)) hv68) ?_
          refine qq hS (g_assign _) ?_
          refine ol_nil (thenN ?_)
          refine wpIn_seq ?_
          refine wpIn_seq ?_
          refine reg ?_
          refine qq hS (g_fieldAddr (o' := 0) Tryd.underlying53 rfl Tryd.sizeOf3 rfl rfl rfl) ?_
          refine qq hS (g_ldO1 0 Tryd.isAgg3 rfl rfl rfl) ?_
          refine qq hS (g_castT (g_eql rfl rfl) (congrArg Value.bool (decide_eq_false (by omega)))) ?_
          refine ol_nil (thenN ?_)
          refine cond_f (rfl) ?_
          refine wpIn_skip ?_
          refine thenN ?_
          refine wpIn_seq ?_
          refine wpIn_seq ?_
          refine reg ?_
          refine qq hS (g_fieldAddr (o' := 0) Tryd.underlying53 rfl Tryd.sizeOf3 rfl rfl rfl) ?_
          refine qq hS (g_ldO1 0 Tryd.isAgg3 rfl rfl rfl) ?_
          refine qq hS (g_castT (g_eql rfl rfl) (congrArg Value.bool (decide_eq_true (by omega)))) ?_
          refine qq hS (g_movev (v := .bool _) rfl) ?_
          refine qsf rfl rfl rfl ?_
          refine qsf rfl rfl rfl ?_
          refine qsf rfl rfl rfl ?_
          refine qq hS (g_or (b := false) rfl rfl (fun h => (by cases h))) ?_
          refine ol_nil (thenN ?_)
          refine cond_t (rfl) ?_
          refine wpIn_seq ?_
          refine wpIn_seq ?_
          refine reg ?_
          refine qq hS (g_move _) ?_
          refine qq hS (g_lenI rfl Tryd.underlying25 (hd.mono hS.ext) rfl) ?_
          refine qq hS (g_fieldAddr (o' := 2) Tryd.underlying53 rfl Tryd.sizeOf3 rfl rfl rfl) ?_
          refine qq hS (g_ldO1 0 Tryd.isAgg3 rfl rfl rfl) ?_
          refine qq hS (g_lss rfl rfl) ?_
          refine ol_nil (thenN ?_)
          refine cond_s rfl ?_ ?_
          ·
            intro hc90
            try simp only [Bool.and_eq_true, Bool.or_eq_true, Bool.not_eq_true', Bool.and_eq_false_imp, Bool.or_eq_false_iff, Bool.not_eq_false', decide_eq_true_eq, decide_eq_false_iff_not] at hc90
            replace hsn := hsn hc90
            refine wpIn_seq ?_
            refine reg ?_
            refine qq hS (g_assign _) ?_
            refine qq hS (g_assignv (v := .bool _) rfl) ?_
            refine ol_nil (thenN ?_)
            refine wpIn_ret ?_
            refine thenR (thenR (blkR (thenR (thenR (blkR (thenR ?_))))))
            refine ret2 Tryd.results34 (rv_tmp rfl) (rv_tmp (v := .bool _) rfl) ?_
            first
              | exact ⟨_, none, 0, 0, false, [], rfl, hS.nil, RSl.nilR, (fun y hy => by cases hy), Nat.zero_le _, .inr ⟨rfl, opsF_none hkN hop hsn⟩⟩
              | (obtain ⟨I6, hS3, hI3, ho3⟩ := St.freezeRowR (hS.sel [false, true]) hxk.symm hcl hall
                 exact ⟨I6, a, k, c, true, xs, rfl, hS3, RSl.mono ho3 (Sub.refl _) fun _ _ h => h.mono hI3, hxw, by omega, .inl ⟨rfl, hfin⟩⟩)
          ·
            intro hc90
            try simp only [Bool.and_eq_true, Bool.or_eq_true, Bool.not_eq_true', Bool.and_eq_false_imp, Bool.or_eq_false_iff, Bool.not_eq_false', decide_eq_true_eq, decide_eq_false_iff_not] at hc90
            replace hrd := hrd hc90
            have hs94 : RBytes I0 _ _ := RSl.slH hd nl (by omega)
            have hcp94 := (RSl.resl2 hd nl nl (Nat.le_refl _) (by omega)).2.1
            obtain ⟨a94, c94, hv94, _⟩ := hs94.len
            rw [hv94] at hs94
            have hs98 : RBytes I0 _ _ := RSl.slL hd nl (by omega)
            obtain ⟨a98, c98, hv98, _⟩ := hs98.len
            rw [hv98] at hs98
            refine wpIn_skip ?_
            refine thenN ?_
            refine draw (.cons 0 .pure (.cons 1 .pure (.cons 2 .held (.cons 3 .pure (.cons 4 .pure (.cons 5 .pure (.cons 6 .held (.cons 7 .pure (.cons 8 .pure (.cons 9 .bar (.cons 10 .pure .nil))))))))))) mixed (by kernel_rfl) hS ?_
            intro w_16 hS
            refine sp rfl (g_move _) ?_
            refine sp rfl (g_fieldAddr (o' := 2) Tryd.underlying53 rfl Tryd.sizeOf3 rfl rfl rfl) ?_
            refine sh rfl (g_ldO1 0 Tryd.isAgg3 rfl rfl rfl) ?_
            refine sp rfl (g_castT (g_sliceHN (h0 := nl) Tryd.underlying25 Tryd.sizeOf5 rfl rfl (by omega) (by omega) (by first | rfl | omega)) hv94) ?_
            refine sp rfl (g_move _) ?_
            refine sp rfl (g_fieldAddr (o' := 2) Tryd.underlying53 rfl Tryd.sizeOf3 rfl rfl rfl) ?_
            refine sh rfl (g_ldO1 0 Tryd.isAgg3 rfl rfl rfl) ?_
            refine sp rfl (g_castT (g_sliceLN (l0 := nl) Tryd.underlying25 Tryd.sizeOf5 rfl rfl (by omega) (by omega) (by first | rfl | omega)) hv98) ?_
            refine sp rfl (g_fieldAddr (o' := 4) Tryd.underlying53 rfl Tryd.sizeOf25 rfl rfl rfl) ?_
            refine sb rfl (d_store 0 hS Tryd.sizeOf25 rfl rfl rfl (vs := [.slice _ _ _]) rfl rfl rfl (Nat.le_of_ble_eq_true rfl) (cs' := [_, _, _, _, _]) rfl) ?_
            rintro _ w_17 ⟨rfl, hS⟩
            refine ⟨_, _, hS, ?_⟩
            refine sp rfl (g_assign _) ?_
            refine sn (thenN ?_)
            refine reg ?_
            refine qq hS (g_move _) ?_
            refine qq hS (g_ldO 0 (vs := [.int .i64 _, .int .i64 _, .int .i64 _, .int .u8 _, .slice _ _ _]) Tryd.sizeOf53 Tryd.isAgg53 rfl rfl rfl rfl) ?_
            refine qe (d_lit (vs := [.agg #[.int .i64 _, .int .i64 _, .int .i64 _, .int .u8 _, .slice _ _ _]]) (cs := [.int .i64 _, .int .i64 _, .int .i64 _, .int .u8 _, .slice _ _ _]) hS Tryd.underlying29 Tryd.sizeOf53 Tryd.zeroValue53 rfl rfl rfl rfl (fun v hv => by simp only [List.mem_cons, List.not_mem_nil, or_false] at hv; subst hv; rfl) rfl) ?_
            clear hS
            rintro _ w_18 ⟨b102, rfl, hS⟩
            refine qe (i_appendO 2 0 hS rfl Tryd.underlying29 info53 rfl rfl rfl rfl rfl rfl rfl rfl (by omega) (by omega)) ?_
            clear hS
            rintro _ w_19 ⟨a103, p103, rfl, hS⟩
            refine qq hS (g_assign _) ?_
            refine ol_nil (blkN (thenN ?_))
            refine reg ?_
            refine qq hS (g_movev (v := .int .i64 _) rfl) ?_
            refine qq hS (g_add rfl rfl (by omega) (by omega)) ?_
            refine qq hS (g_assignv (v := .int .i64 _) rfl) ?_
            refine ol_nil (thenN ?_)
            refine ⟨⟨k + 1, xs ++ [⟨y, nf, nl, 0, d.take nl⟩], css ++ [[.int .i64 y, .int .i64 nf, .int .i64 nl, .int .u8 0, .slice a94 (d.take nl).length c94]], a103, p103, (((l.drop 1).drop 3).drop 3), a68, c68, (d.drop nl), a98, c98⟩, _, rfl, ⟨⟨rfl, rfl, rfl, rfl, rfl, trivial⟩, J, ?_, by dsimp only; omega, by dsimp only; rw [List.length_append, hxk]; rfl, hs68, (byt_drop (byt_drop (byt_drop hlb 1) 3) 3), hs98, (byt_drop hdb nl), ?_, ?_, ?_, opsF_step (by omega) hop hrd⟩, by dsimp only; omega⟩
            · dsimp only
              rw [List.flatten_append, List.flatten_singleton]
              exact hS.sel [false, false, true]
            · exact All2.snoc hall ⟨_, _, _, rfl, (hs94.mono hS.ext)⟩
            · intro cs hcs
              rcases List.mem_append.1 hcs with h | h
              · exact hcl cs h
              · simp only [List.mem_singleton] at h; subst h; rfl
            · intro y hy
              rcases List.mem_append.1 hy with h | h
              · exact hxw y h
              · simp only [List.mem_singleton] at h; subst h
                exact ⟨⟨by dsimp only; omega, by dsimp only; omega⟩, ⟨by dsimp only; omega, by dsimp only; omega⟩, ⟨by dsimp only; omega, by dsimp only; omega⟩, ⟨by dsimp only; omega, by dsimp only; omega⟩, fun z hz => hdb z (List.mem_of_mem_take hz)⟩
        ·
          have hl1 : (l.drop 1).length = l.length - 1 := List.length_drop
          have hl2 : ((l.drop 1).drop 3).length = l.length - 4 := by rw [List.length_drop]; omega
          obtain ⟨y, hyi⟩ : ∃ y, l[0]? = some y := ⟨_, List.getElem?_eq_getElem (by omega)⟩
          have hy0 : l.headD 0 = y := by rw [List.headD_eq_head?_getD, List.head?_eq_getElem?, hyi]; rfl
          have hyA := (hl.mono hS.ext).at (show l[(0 : Int).toNat]? = some y from hyi)
          have hyb := hlb y (List.mem_of_getElem? hyi)
          have hs48 : RBytes I0 _ _ := RSl.slL hl 1 (by omega)
          obtain ⟨a48, c48, hv48, _⟩ := hs48.len
          rw [hv48] at hs48
          rw [hy0] at hC
          have hs64 : RBytes I0 _ _ := RSl.slH hs48 3 (by omega)
          have hcp64 := (RSl.resl2 hs48 3 3 (Nat.le_refl _) (by omega)).2.1
          obtain ⟨a64, c64, hv64, _⟩ := hs64.len
          rw [hv64] at hs64
          obtain ⟨nl, hnl, hnlb⟩ := valN (byt_take (byt_drop hlb 1) 3) (by rw [List.length_take]; omega)
          have hs68 : RBytes I0 _ _ := RSl.slL hs48 3 (by omega)
          obtain ⟨a68, c68, hv68, _⟩ := hs68.len
          rw [hv68] at hs68
          obtain ⟨z, hzi⟩ : ∃ z, ((l.drop 1).drop 3)[0]? = some z := ⟨_, List.getElem?_eq_getElem (by omega)⟩
          have hz0 : ((l.drop 1).drop 3).headD 0 = z := by rw [List.headD_eq_head?_getD, List.head?_eq_getElem?, hzi]; rfl
          have hzA := (hs68.mono hS.ext).at (show ((l.drop 1).drop 3)[(0 : Int).toNat]? = some z from hzi)
          have hzb := hlb z (List.mem_of_mem_drop (List.mem_of_mem_drop (List.mem_of_getElem? hzi)))
          have hs77 : RBytes I0 _ _ := RSl.slL hs68 1 (by omega)
          obtain ⟨a77, c77, hv77, _⟩ := hs77.len
          rw [hv77] at hs77
          have hrd : rdOp l d = some (⟨3, 0, nl, z, []⟩, ((l.drop 1).drop 3).drop 1, d) := by
            unfold rdOp
            rw [hy0, if_neg (by omega), if_pos hC.2, if_neg (by omega), hnl, hz0]
          rw [← hC.2] at hrd
          refine reg ?_
          refine qq hS (g_move _) ?_
          refine qq hS (g_ixI Tryd.underlying25 Tryd.sizeOf5 (hl.mono hS.ext) rfl rfl (by omega) (by omega)) ?_
          refine qq hS (g_ldE1 Tryd.isAgg5 hyA rfl rfl) ?_
          refine qq hS (g_convi Tryd.underlying5 Tryd.underlying3 rfl (by omega) (by omega)) ?_
          refine qq hS (g_buildv (pl := [(0, 1), (1, 1), (2, 1), (3, 1), (4, 1)]) (cs := [.int .i64 _, .int .i64 _, .int .i64 _, .int .u8 _, .slice _ _ _]) Tryd.zeroValue53 Tryd.underlying53 (fun w => by simp [Tryd.sizeOf25, Tryd.sizeOf3, Tryd.sizeOf5]) (mp (v := .int .i64 _) rfl mp0) rfl) ?_
          refine qe (d_alloc (cs := [.int .i64 _, .int .i64 _, .int .i64 _, .int .u8 _, .slice _ _ _]) hS Tryd.zeroValue53 rfl) ?_
          clear hS
          rintro _ w_20 ⟨b10, rfl, hS⟩
          refine qe (d_store 0 hS Tryd.sizeOf53 rfl rfl rfl (vs := [.int .i64 _, .int .i64 _, .int .i64 _, .int .u8 _, .slice _ _ _]) rfl rfl rfl (Nat.le_of_ble_eq_true rfl) (cs' := [_, _, _, _, _]) rfl) ?_
          clear hS
          rintro _ w_21 ⟨rfl, hS⟩
          refine ol_nil (thenN ?_)
          refine wpIn_seq ?_
          refine reg ?_
          refine qq hS (g_move _) ?_
          refine qq hS (g_castT (g_sliceLN (l0 := 1) Tryd.underlying25 Tryd.sizeOf5 rfl rfl (by omega) (by omega) (by first | rfl | omega)) hv48) ?_
          refine qq hS (g_assign _) ?_
          refine ol_nil (thenN ?_)
          refine wpIn_seq ?_
          refine wpIn_seq ?_
          refine reg ?_
          refine qq hS (g_fieldAddr (o' := 0) Tryd.underlying53 rfl Tryd.sizeOf3 rfl rfl rfl) ?_
          refine qq hS (g_ldO1 0 Tryd.isAgg3 rfl rfl rfl) ?_
          refine qq hS (g_castT (g_neq rfl rfl) (congrArg Value.bool (show (!decide _) = false by rw [decide_eq_true (by omega)]; rfl))) ?_
          refine qq hS (g_movev (v := .bool _) rfl) ?_
          refine qsf rfl rfl rfl ?_
          refine qsf rfl rfl rfl ?_
          refine qsf rfl rfl rfl ?_
          refine qq hS (g_and (b := false) rfl rfl (fun h => (by cases h))) ?_
          refine ol_nil (thenN ?_)
          refine cond_f (rfl) ?_
          refine wpIn_skip ?_
          refine thenN ?_
          refine wpIn_seq ?_
          refine reg ?_
          refine qq hS (g_move _) ?_
          refine qq hS (g_castT (g_sliceHN (h0 := 3) Tryd.underlying25 Tryd.sizeOf5 rfl rfl (by omega) (by omega) (by first | rfl | omega)) hv64) ?_
          refine qe (d_call Tryd.call32 rfl (valueN_c _ _ ((l.drop 1).take 3) nl hnl (by rw [List.length_take]; omega) (byt_take (byt_drop hlb 1) _) _ _ hS.imm (hs64.mono hS.ext))) ?_
          rintro _ w_22 ⟨rfl, hE⟩
          replace hS := hS.callE hE
          refine qq hS (g_fieldAddr (o' := 2) Tryd.underlying53 rfl Tryd.sizeOf3 rfl rfl rfl) ?_
          refine qe (d_store 0 hS Tryd.sizeOf3 rfl rfl rfl (vs := [.int .i64 _]) rfl rfl rfl (Nat.le_of_ble_eq_true rfl) (cs' := [_, _, _, _, _]) rfl) ?_
          clear hS
          rintro _ w_23 ⟨rfl, hS⟩
          refine ol_nil (thenN ?_)
          refine wpIn_seq ?_
          refine reg ?_
          refine qq hS (g_move _) ?_
          refine qq hS (g_castT (g_sliceLN (l0 := 3) Tryd.underlying25 Tryd.sizeOf5 rfl rfl (by omega) (by omega) (by first | rfl | omega)) hv68) ?_
          refine qq hS (g_assign _) ?_
          refine ol_nil (thenN ?_)
          refine wpIn_seq ?_
          refine wpIn_seq ?_
          refine reg ?_
          refine qq hS (g_fieldAddr (o' := 0) Tryd.underlying53 rfl Tryd.sizeOf3 rfl rfl rfl) ?_
          refine qq hS (g_ldO1 0 Tryd.isAgg3 rfl rfl rfl) ?_
          refine qq hS (g_castT (g_eql rfl rfl) (congrArg Value.bool (decide_eq_true (by omega)))) ?_
          refine ol_nil (thenN ?_)
          refine cond_t (rfl) ?_
          refine wpIn_seq ?_
          refine reg ?_
          refine qq hS (g_move _) ?_
          refine qq hS (g_ixI Tryd.underlying25 Tryd.sizeOf5 (hs68.mono hS.ext) rfl rfl (by omega) (by omega)) ?_
          refine qq hS (g_ldE1 Tryd.isAgg5 hzA rfl rfl) ?_
          refine qq hS (g_fieldAddr (o' := 3) Tryd.underlying53 rfl Tryd.sizeOf5 rfl rfl rfl) ?_
          refine qe (d_store 0 hS Tryd.sizeOf5 rfl rfl rfl (vs := [.int .u8 _]) rfl rfl rfl (Nat.le_of_ble_eq_true rfl) (cs' := [_, _, _, _, _]) rfl) ?_
          clear hS
          rintro _ w_24 ⟨rfl, hS⟩
          refine ol_nil (thenN ?_)
          refine reg ?_
          refine qq hS (g_move _) ?_
          refine qq hS (g_castT (g_sliceLN (l0 := 1) Tryd.underlying25 Tryd.sizeOf5 rfl rfl (by omega) (by omega) (by first | rfl | omega)) hv77) ?_
          refine qq hS (g_assign _) ?_
          refine ol_nil (thenN ?_)
          refine wpIn_seq ?_
          refine wpIn_seq ?_
          refine reg ?_
          refine qq hS (g_fieldAddr (o' := 0) Tryd.underlying53 rfl Tryd.sizeOf3 rfl rfl rfl) ?_
          refine qq hS (g_ldO1 0 Tryd.isAgg3 rfl rfl rfl) ?_
          refine qq hS (g_castT (g_eql rfl rfl) (congrArg Value.bool (decide_eq_false (by omega)))) ?_
          refine qq hS (g_movev (v := .bool _) rfl) ?_
          refine qqs rfl rfl hS (g_fieldAddr (o' := 0) Tryd.underlying53 rfl Tryd.sizeOf3 rfl rfl rfl) ?_
          refine qqs rfl rfl hS (g_ldO1 0 Tryd.isAgg3 rfl rfl rfl) ?_
          refine qqs rfl rfl hS (g_castT (g_eql rfl rfl) (congrArg Value.bool (decide_eq_false (by omega)))) ?_
          refine qq hS (g_or rfl rfl (fun _ => rfl)) ?_
          refine ol_nil (thenN ?_)
          refine cond_f (rfl) ?_
          refine wpIn_skip ?_
          refine thenN ?_
          refine reg ?_
          refine qq hS (g_move _) ?_
          refine qq hS (g_ldO 0 (vs := [.int .i64 _, .int .i64 _, .int .i64 _, .int .u8 _, .slice _ _ _]) Tryd.sizeOf53 Tryd.isAgg53 rfl rfl rfl rfl) ?_
          refine qe (d_lit (vs := [.agg #[.int .i64 _, .int .i64 _, .int .i64 _, .int .u8 _, .slice _ _ _]]) (cs := [.int .i64 _, .int .i64 _, .int .i64 _, .int .u8 _, .slice _ _ _]) hS Tryd.underlying29 Tryd.sizeOf53 Tryd.zeroValue53 rfl rfl rfl rfl (fun v hv => by simp only [List.mem_cons, List.not_mem_nil, or_false] at hv; subst hv; rfl) rfl) ?_
          clear hS
          rintro _ w_25 ⟨b102, rfl, hS⟩
          refine qe (i_appendO 2 0 hS rfl Tryd.underlying29 info53 rfl rfl rfl rfl rfl rfl rfl rfl (by omega) (by omega)) ?_
          clear hS
          rintro _ w_26 ⟨a103, p103, rfl, hS⟩
          refine qq hS (g_assign _) ?_
          refine ol_nil (blkN (thenN ?_))
          refine reg ?_
          refine qq hS (g_movev (v := .int .i64 _) rfl) ?_
          refine qq hS (g_add rfl rfl (by omega) (by omega)) ?_
          refine qq hS (g_assignv (v := .int .i64 _) rfl) ?_
          refine ol_nil (thenN ?_)
          refine ⟨⟨k + 1, xs ++ [⟨y, 0, nl, z, []⟩], css ++ [[.int .i64 y, .int .i64 0, .int .i64 nl, .int .u8 z, .slice none 0 0]], a103, p103, (((l.drop 1).drop 3).drop 1), a77, c77, d, da, dc⟩, _, rfl, ⟨⟨rfl, rfl, rfl, rfl, rfl, trivial⟩, J, ?_, by dsimp only; omega, by dsimp only; rw [List.length_append, hxk]; rfl, hs77, (byt_drop (byt_drop (byt_drop hlb 1) 3) 1), hd, hdb, ?_, ?_, ?_, opsF_step (by omega) hop hrd⟩, by dsimp only; omega⟩
          · dsimp only
            rw [List.flatten_append, List.flatten_singleton]
            exact hS.sel [false, false, true]
          · exact All2.snoc hall ⟨_, _, _, rfl, RFl.nil⟩
          · intro cs hcs
            rcases List.mem_append.1 hcs with h | h
            · exact hcl cs h
            · simp only [List.mem_singleton] at h; subst h; rfl
          · intro y hy
            rcases List.mem_append.1 hy with h | h
            · exact hxw y h
            · simp only [List.mem_singleton] at h; subst h
              exact ⟨⟨by dsimp only; omega, by dsimp only; omega⟩, ⟨by dsimp only; omega, by dsimp only; omega⟩, ⟨by dsimp only; omega, by dsimp only; omega⟩, ⟨by dsimp only; omega, by dsimp only; omega⟩, fun z hz => (by cases hz)⟩
        ·
          have hl1 : (l.drop 1).length = l.length - 1 := List.length_drop
          have hl2 : ((l.drop 1).drop 3).length = l.length - 4 := by rw [List.length_drop]; omega
          obtain ⟨y, hyi⟩ : ∃ y, l[0]? = some y := ⟨_, List.getElem?_eq_getElem (by omega)⟩
          have hy0 : l.headD 0 = y := by rw [List.headD_eq_head?_getD, List.head?_eq_getElem?, hyi]; rfl
          have hyA := (hl.mono hS.ext).at (show l[(0 : Int).toNat]? = some y from hyi)
          have hyb := hlb y (List.mem_of_getElem? hyi)
          have hs48 : RBytes I0 _ _ := RSl.slL hl 1 (by omega)
          obtain ⟨a48, c48, hv48, _⟩ := hs48.len
          rw [hv48] at hs48
          rw [hy0] at hD
          have hs64 : RBytes I0 _ _ := RSl.slH hs48 3 (by omega)
          have hcp64 := (RSl.resl2 hs48 3 3 (Nat.le_refl _) (by omega)).2.1
          obtain ⟨a64, c64, hv64, _⟩ := hs64.len
          rw [hv64] at hs64
          obtain ⟨nl, hnl, hnlb⟩ := valN (byt_take (byt_drop hlb 1) 3) (by rw [List.length_take]; omega)
          have hs68 : RBytes I0 _ _ := RSl.slL hs48 3 (by omega)
          obtain ⟨a68, c68, hv68, _⟩ := hs68.len
          rw [hv68] at hs68
          have hsn : (d.length : Int) < nl → rdOp l d = none := fun h => by
            unfold rdOp
            rw [hy0, if_pos hD.2, if_neg (by omega), hnl, if_pos h]
          have hrd : ¬ (d.length : Int) < nl → rdOp l d = some (⟨4, 0, nl, 0, d.take nl⟩, (l.drop 1).drop 3, d.drop nl) := fun h => by
            unfold rdOp
            rw [hy0, if_pos hD.2, if_neg (by omega), hnl, if_neg h]; rfl
          rw [← hD.2] at hrd
          refine reg ?_
          refine qq hS (g_move _) ?_
          refine qq hS (g_ixI Tryd.underlying25 Tryd.sizeOf5 (hl.mono hS.ext) rfl rfl (by omega) (by omega)) ?_
          refine qq hS (g_ldE1 Tryd.isAgg5 hyA rfl rfl) ?_
          refine qq hS (g_convi Tryd.underlying5 Tryd.underlying3 rfl (by omega) (by omega)) ?_
          refine qq hS (g_buildv (pl := [(0, 1), (1, 1), (2, 1), (3, 1), (4, 1)]) (cs := [.int .i64 _, .int .i64 _, .int .i64 _, .int .u8 _, .slice _ _ _]) Tryd.zeroValue53 Tryd.underlying53 (fun w => by simp [Tryd.sizeOf25, Tryd.sizeOf3, Tryd.sizeOf5]) (mp (v := .int .i64 _) rfl mp0) rfl) ?_
          refine qe (d_alloc (cs := [.int .i64 _, .int .i64 _, .int .i64 _, .int .u8 _, .slice _ _ _]) hS Tryd.zeroValue53 rfl) ?_
          clear hS
          rintro _ w_27 ⟨b10, rfl, hS⟩
          refine qe (d_store 0 hS Tryd.sizeOf53 rfl rfl rfl (vs := [.int .i64 _, .int .i64 _, .int .i64 _, .int .u8 _, .slice _ _ _]) rfl rfl rfl (Nat.le_of_ble_eq_true rfl) (cs' := [_, _, _, _, _]) rfl) ?_
          clear hS
          rintro _ w_28 ⟨rfl, hS⟩
          refine ol_nil (thenN ?_)
          refine wpIn_seq ?_
          refine reg ?_
          refine qq hS (g_move _) ?_
          refine qq hS (g_castT (g_sliceLN (l0 := 1) Tryd.underlying25 Tryd.sizeOf5 rfl rfl (by omega) (by omega) (by first | rfl | omega)) hv48) ?_
          refine qq hS (g_assign _) ?_
          refine ol_nil (thenN ?_)
          refine wpIn_seq ?_
          refine wpIn_seq ?_
          refine reg ?_
          refine qq hS (g_fieldAddr (o' := 0) Tryd.underlying53 rfl Tryd.sizeOf3 rfl rfl rfl) ?_
          refine qq hS (g_ldO1 0 Tryd.isAgg3 rfl rfl rfl) ?_
          refine qq hS (g_castT (g_neq rfl rfl) (congrArg Value.bool (show (!decide _) = true by rw [decide_eq_false (by omega)]; rfl))) ?_
          refine qq hS (g_movev (v := .bool _) rfl) ?_
          refine qqs rfl rfl hS (g_fieldAddr (o' := 0) Tryd.underlying53 rfl Tryd.sizeOf3 rfl rfl rfl) ?_
          refine qqs rfl rfl hS (g_ldO1 0 Tryd.isAgg3 rfl rfl rfl) ?_
          refine qqs rfl rfl hS (g_castT (g_neq rfl rfl) (congrArg Value.bool (show (!decide _) = false by rw [decide_eq_true (by omega)]; rfl))) ?_
          refine qq hS (g_and rfl rfl (fun _ => rfl)) ?_
          refine ol_nil (thenN ?_)
          refine cond_f (rfl) ?_
          refine wpIn_skip ?_
          refine thenN ?_
          refine wpIn_seq ?_
          refine reg ?_
          refine qq hS (g_move _) ?_
          refine qq hS (g_castT (g_sliceHN (h0 := 3) Tryd.underlying25 Tryd.sizeOf5 rfl rfl (by omega) (by omega) (by first | rfl | omega)) hv64) ?_
          refine qe (d_call Tryd.call32 rfl (valueN_c _ _ ((l.drop 1).take 3) nl hnl (by rw [List.length_take]; omega) (byt_take (byt_drop hlb 1) _) _ _ hS.imm (hs64.mono hS.ext))) ?_
          rintro _ w_29 ⟨rfl, hE⟩
          replace hS := hS.callE hE
          refine qq hS (g_fieldAddr (o' := 2) Tryd.underlying53 rfl Tryd.sizeOf3 rfl rfl rfl) ?_
          refine qe (d_store 0 hS Tryd.sizeOf3 rfl rfl rfl (vs := [.int .i64 _]) rfl rfl rfl (Nat.le_of_ble_eq_true rfl) (cs' := [_, _, _, _, _]) rfl) ?_
          clear hS
          rintro _ w_30 ⟨rfl, hS⟩
          refine ol_nil (thenN ?_)
          refine wpIn_seq ?_
          refine reg ?_
          refine qq hS (g_move _) ?_
          refine qq hS (g_castT (g_sliceLN (l0 := 3) Tryd.underlying25 Tryd.sizeOf5 rfl rfl (by omega) (by omega) (by first | rfl | omega)) hv68) ?_
          refine qq hS (g_assign _) ?_
          refine ol_nil (thenN ?_)
          refine wpIn_seq ?_
          refine wpIn_seq ?_
          refine reg ?_
          refine qq hS (g_fieldAddr (o' := 0) Tryd.underlying53 rfl Tryd.sizeOf3 rfl rfl rfl) ?_
          refine qq hS (g_ldO1 0 Tryd.isAgg3 rfl rfl rfl) ?_
          refine qq hS (g_castT (g_eql rfl rfl) (congrArg Value.bool (decide_eq_false (by omega)))) ?_
          refine ol_nil (thenN ?_)
          refine cond_f (rfl) ?_
          refine wpIn_skip ?_
          refine thenN ?_
          refine wpIn_seq ?_
          refine wpIn_seq ?_
          refine reg ?_
          refine qq hS (g_fieldAddr (o' := 0) Tryd.underlying53 rfl Tryd.sizeOf3 rfl rfl rfl) ?_
          refine qq hS (g_ldO1 0 Tryd.isAgg3 rfl rfl rfl) ?_
          refine qq hS (g_castT (g_eql rfl rfl) (congrArg Value.bool (decide_eq_false (by omega)))) ?_
          refine qq hS (g_movev (v := .bool _) rfl) ?_
          refine qqs rfl rfl hS (g_fieldAddr (o' := 0) Tryd.underlying53 rfl Tryd.sizeOf3 rfl rfl rfl) ?_
          refine qqs rfl rfl hS (g_ldO1 0 Tryd.isAgg3 rfl rfl rfl) ?_
          refine qqs rfl rfl hS (g_castT (g_eql rfl rfl) (congrArg Value.bool (decide_eq_true (by omega)))) ?_
          refine qq hS (g_or rfl rfl (fun _ => rfl)) ?_
          refine ol_nil (thenN ?_)
          refine cond_t (rfl) ?_
          refine wpIn_seq ?_
          refine wpIn_seq ?_
          refine reg ?_
          refine qq hS (g_move _) ?_
          refine qq hS (g_lenI rfl Tryd.underlying25 (hd.mono hS.ext) rfl) ?_
          refine qq hS (g_fieldAddr (o' := 2) Tryd.underlying53 rfl Tryd.sizeOf3 rfl rfl rfl) ?_
          refine qq hS (g_ldO1 0 Tryd.isAgg3 rfl rfl rfl) ?_
          refine qq hS (g_lss rfl rfl) ?_
          refine ol_nil (thenN ?_)
          refine cond_s rfl ?_ ?_
          ·
            intro hc90
            try simp only [Bool.and_eq_true, Bool.or_eq_true, Bool.not_eq_true', Bool.and_eq_false_imp, Bool.or_eq_false_iff, Bool.not_eq_false', decide_eq_true_eq, decide_eq_false_iff_not] at hc90
            replace hsn := hsn hc90
            refine wpIn_seq ?_
            refine reg ?_
            refine qq hS (g_assign _) ?_
            refine qq hS (g_assignv (v := .bool _) rfl) ?_
            refine ol_nil (thenN ?_)
            refine wpIn_ret ?_
            refine thenR (thenR (blkR (thenR (thenR (blkR (thenR ?_))))))
            refine ret2 Tryd.results34 (rv_tmp rfl) (rv_tmp (v := .bool _) rfl) ?_
            first
              | exact ⟨_, none, 0, 0, false, [], rfl, hS.nil, RSl.nilR, (fun y hy => by cases hy), Nat.zero_le _, .inr ⟨rfl, opsF_none hkN hop hsn⟩⟩
              | (obtain ⟨I6, hS3, hI3, ho3⟩ := St.freezeRowR (hS.sel [false, true]) hxk.symm hcl hall
                 exact ⟨I6, a, k, c, true, xs, rfl, hS3, RSl.mono ho3 (Sub.refl _) fun _ _ h => h.mono hI3, hxw, by omega, .inl ⟨rfl, hfin⟩⟩)
          ·
            intro hc90
            try simp only [Bool.and_eq_true, Bool.or_eq_true, Bool.not_eq_true', Bool.and_eq_false_imp, Bool.or_eq_false_iff, Bool.not_eq_false', decide_eq_true_eq, decide_eq_false_iff_not] at hc90
            replace hrd := hrd hc90
            have hs94 : RBytes I0 _ _ := RSl.slH hd nl (by omega)
            have hcp94 := (RSl.resl2 hd nl nl (Nat.le_refl _) (by omega)).2.1
            obtain ⟨a94, c94, hv94, _⟩ := hs94.len
            rw [hv94] at hs94
            have hs98 : RBytes I0 _ _ := RSl.slL hd nl (by omega)
            obtain ⟨a98, c98, hv98, _⟩ := hs98.len
            rw [hv98] at hs98
            refine wpIn_skip ?_
            refine thenN ?_
            refine draw (.cons 0 .pure (.cons 1 .pure (.cons 2 .held (.cons 3 .pure (.cons 4 .pure (.cons 5 .pure (.cons 6 .held (.cons 7 .pure (.cons 8 .pure (.cons 9 .bar (.cons 10 .pure .nil))))))))))) mixed (by kernel_rfl) hS ?_
            intro w_31 hS
            refine sp rfl (g_move _) ?_
            refine sp rfl (g_fieldAddr (o' := 2) Tryd.underlying53 rfl Tryd.sizeOf3 rfl rfl rfl) ?_
            refine sh rfl (g_ldO1 0 Tryd.isAgg3 rfl rfl rfl) ?_
            refine sp rfl (g_castT (g_sliceHN (h0 := nl) Tryd.underlying25 Tryd.sizeOf5 rfl rfl (by omega) (by omega) (by first | rfl | omega)) hv94) ?_
            refine sp rfl (g_move _) ?_
            refine sp rfl (g_fieldAddr (o' := 2) Tryd.underlying53 rfl Tryd.sizeOf3 rfl rfl rfl) ?_
            refine sh rfl (g_ldO1 0 Tryd.isAgg3 rfl rfl rfl) ?_
            refine sp rfl (g_castT (g_sliceLN (l0 := nl) Tryd.underlying25 Tryd.sizeOf5 rfl rfl (by omega) (by omega) (by first | rfl | omega)) hv98) ?_
            refine sp rfl (g_fieldAddr (o' := 4) Tryd.underlying53 rfl Tryd.sizeOf25 rfl rfl rfl) ?_
            refine sb rfl (d_store 0 hS Tryd.sizeOf25 rfl rfl rfl (vs := [.slice _ _ _]) rfl rfl rfl (Nat.le_of_ble_eq_true rfl) (cs' := [_, _, _, _, _]) rfl) ?_
            rintro _ w_32 ⟨rfl, hS⟩
            refine ⟨_, _, hS, ?_⟩
            refine sp rfl (g_assign _) ?_
            refine sn (thenN ?_)
            refine reg ?_
            refine qq hS (g_move _) ?_
            refine qq hS (g_ldO 0 (vs := [.int .i64 _, .int .i64 _, .int .i64 _, .int .u8 _, .slice _ _ _]) Tryd.sizeOf53 Tryd.isAgg53 rfl rfl rfl rfl) ?_
            refine qe (d_lit (vs := [.agg #[.int .i64 _, .int .i64 _, .int .i64 _, .int .u8 _, .slice _ _ _]]) (cs := [.int .i64 _, .int .i64 _, .int .i64 _, .int .u8 _, .slice _ _ _]) hS Tryd.underlying29 Tryd.sizeOf53 Tryd.zeroValue53 rfl rfl rfl rfl (fun v hv => by simp only [List.mem_cons, List.not_mem_nil, or_false] at hv; subst hv; rfl) rfl) ?_
            clear hS
            rintro _ w_33 ⟨b102, rfl, hS⟩
            refine qe (i_appendO 2 0 hS rfl Tryd.underlying29 info53 rfl rfl rfl rfl rfl rfl rfl rfl (by omega) (by omega)) ?_
            clear hS
            rintro _ w_34 ⟨a103, p103, rfl, hS⟩
            refine qq hS (g_assign _) ?_
            refine ol_nil (blkN (thenN ?_))
            refine reg ?_
            refine qq hS (g_movev (v := .int .i64 _) rfl) ?_
            refine qq hS (g_add rfl rfl (by omega) (by omega)) ?_
            refine qq hS (g_assignv (v := .int .i64 _) rfl) ?_
            refine ol_nil (thenN ?_)
            refine ⟨⟨k + 1, xs ++ [⟨y, 0, nl, 0, d.take nl⟩], css ++ [[.int .i64 y, .int .i64 0, .int .i64 nl, .int .u8 0, .slice a94 (d.take nl).length c94]], a103, p103, ((l.drop 1).drop 3), a68, c68, (d.drop nl), a98, c98⟩, _, rfl, ⟨⟨rfl, rfl, rfl, rfl, rfl, trivial⟩, J, ?_, by dsimp only; omega, by dsimp only; rw [List.length_append, hxk]; rfl, hs68, (byt_drop (byt_drop hlb 1) 3), hs98, (byt_drop hdb nl), ?_, ?_, ?_, opsF_step (by omega) hop hrd⟩, by dsimp only; omega⟩
            · dsimp only
              rw [List.flatten_append, List.flatten_singleton]
              exact hS.sel [false, false, true]
            · exact All2.snoc hall ⟨_, _, _, rfl, (hs94.mono hS.ext)⟩
            · intro cs hcs
              rcases List.mem_append.1 hcs with h | h
              · exact hcl cs h
              · simp only [List.mem_singleton] at h; subst h; rfl
            · intro y hy
              rcases List.mem_append.1 hy with h | h
              · exact hxw y h
              · simp only [List.mem_singleton] at h; subst h
                exact ⟨⟨by dsimp only; omega, by dsimp only; omega⟩, ⟨by dsimp only; omega, by dsimp only; omega⟩, ⟨by dsimp only; omega, by dsimp only; omega⟩, ⟨by dsimp only; omega, by dsimp only; omega⟩, fun z hz => hdb z (List.mem_of_mem_take hz)⟩
    ·
      intro hc14
      try simp only [Bool.and_eq_true, Bool.or_eq_true, Bool.not_eq_true', Bool.and_eq_false_imp, Bool.or_eq_false_iff, Bool.not_eq_false', decide_eq_true_eq, decide_eq_false_iff_not] at hc14
      obtain rfl : k = N := by omega
      have hfin := opsF_end hop
      refine wpIn_exit ?_
      refine thenE (thenE (blkE ?_))
      refine thenN ?_
      refine wpIn_seq ?_
      refine reg ?_
      refine qq hS (g_move _) ?_
      refine qq hS (g_assign _) ?_
      refine qq hS (g_assignv (v := .bool _) rfl) ?_
      refine ol_nil (thenN ?_)
      refine wpIn_ret ?_
      refine ret2 Tryd.results34 (rv_tmp rfl) (rv_tmp (v := .bool _) rfl) ?_
      first
        | exact ⟨_, none, 0, 0, false, [], rfl, hS.nil, RSl.nilR, (fun y hy => by cases hy), Nat.zero_le _, .inr ⟨rfl, opsF_none hkN hop hsn⟩⟩
        | (obtain ⟨I6, hS3, hI3, ho3⟩ := St.freezeRowR (hS.sel [true]) hxk.symm hcl hall
           exact ⟨I6, a, k, c, true, xs, rfl, hS3, RSl.mono ho3 (Sub.refl _) fun _ _ h => h.mono hI3, hxw, by omega, .inl ⟨rfl, hfin⟩⟩)

end Go.Proofs.YtdgnojckkjfhfaaDoor

