/- split.Join and inlayref12.Join: what they compute. Conditions: numbers within bounds, at most 64 patches. -/
import Derived.Test.YtodopmclnklgdaaGreatKComp
import Derived.Test.YtodopmclnklgdaaGreatKCore2
import Derived.Test.YtodopmclnklgdaaGreatKSpec
namespace Go.Proofs.YtodopmclnklgdaaGreat
open Go Go.RowKit Go.Inl
set_option linter.unusedSimpArgs false
set_option linter.unusedVariables false
theorem flat_wf {l : List PatL} (h : ∀ p ∈ l, p.wf) (hc : ∀ p ∈ l, (checkP p).2 = 0) : ∀ s ∈ l.flatMap (fun p => symsOf p.ops), s.wf := by
  intro s hs
  obtain ⟨p, hp, h1⟩ := List.mem_flatMap.1 hs
  refine symsOf_wf (h p hp) s ?_
  rw [symbolsP_ok (hc p hp)]; exact h1
theorem flatten_le {n : Nat} {l : List (List Sym)} (h : ∀ x ∈ l, x.length ≤ n) : l.flatten.length ≤ n * l.length := by
  induction l with
  | nil => simp
  | cons x l ih =>
    have h1 := h x (by simp)
    have h2 := ih fun y hy => h y (by simp [hy])
    simp only [List.flatten_cons, List.length_append, List.length_cons, Nat.mul_add, Nat.mul_one]
    omega
/-- A slice of slices of symbols. -/
def RSymC (I : Imm) (cs : List Value) (l : List Sym) : Prop := ∃ a c, cs = [.slice a l.length c] ∧ RSyms I (.slice a l.length c) l
theorem RSymC.mono {I J : Imm} {cs : List Value} {l : List Sym} (h : RSymC I cs l) (hs : Inl.Sub I J) : RSymC J cs l := by
  obtain ⟨a, c, h1, h2⟩ := h
  exact ⟨a, c, h1, h2.mono hs⟩
def RSymL (I : Imm) (v : Value) (l : List (List Sym)) : Prop := RSl I 1 (RSymC I) v l
theorem RSymL.mono {I J : Imm} {v : Value} {l : List (List Sym)} (h : RSymL I v l) (hs : Inl.Sub I J) : RSymL J v l := RSl.mono h hs fun _ _ h => h.mono hs
structure LsS where
  k : Nat
  css : List (List Value)
  a : Option Addr
  c : Nat
theorem symsP_ok {p : PatL} (h : (symbolsP p).2 = 0) : (checkP p).2 = 0 ∧ symbolsP p = (symsOf p.ops, 0) := symbolsP_ok' h
theorem join_bad {l : List PatL} {p : PatL} (hp : p ∈ l) (h : (symbolsP p).2 ≠ 0) : joinP l = (PatL.zero, (symbolsP p).2) := by
  have h60 := symbolsP_60 p
  have e : (symbolsP p).2 = 60 := by omega
  have hc : (checkP p).2 ≠ 0 := fun hc => h (by rw [symbolsP_ok hc])
  unfold joinP
  rw [if_neg (List.ne_nil_of_mem hp), if_pos (List.any_eq_true.2 ⟨p, hp, by simpa using hc⟩), e]
theorem join_good {l : List PatL} (hn : l ≠ []) (h : ∀ p ∈ l, (checkP p).2 = 0) : joinP l = if l.any (fun p => p.lifted != (firstP l).lifted) then (PatL.zero, 62)
  else if decide (65536 < sumO l) || l.any (fun p => decide (p.in_ ≠ (firstP l).in_)) then (PatL.zero, 61)
  else if (cheapP (l.flatMap fun p => symsOf p.ops) (firstP l).in_).2 ≠ 0 then (PatL.zero, (cheapP (l.flatMap fun p => symsOf p.ops) (firstP l).in_).2) else ({ (cheapP (l.flatMap fun p => symsOf p.ops) (firstP l).in_).1 with lifted := (firstP l).lifted }, 0) := by
  unfold joinP
  rw [if_neg hn, if_neg]
  intro hb
  obtain ⟨p, hp, h1⟩ := List.any_eq_true.1 hb
  simp [h p hp] at h1

set_option maxHeartbeats 1000000 in
theorem indexPat_c (vl : Value) (l : List PatL) (g : FuncId) (caps : List Value) (q : PatL → Bool) (w0 : World) (I0 : Imm) (hI : Sat I0 w0) (hl : RPats I0 vl l) (hcg : ∀ args w, (callFunc g args).run Tryz.prog w = .ok (.enter g args) w)
    (hq : ∀ p a m c w, Sat I0 w → Ctr Tryz.prog g (.agg #[.bool p.lifted, .int .i64 p.in_, .int .i64 p.out, .slice a m c] :: caps) w (fun v w' => v = .bool (q p) ∧ Ext w I0 w' I0)) :
    Ctr Tryz.prog 120 [vl, .func (.func g) #[] caps.toArray] w0 (fun v w' => ∃ r : Int, v = .int .i64 r ∧ (0 ≤ r ↔ l.any q = true) ∧ Ext w0 I0 w' I0) := by
  have hle := RSl.le hl
  simp only [maxLen] at hle
  refine fn (n := 19) Tryz.func120 rfl rfl rfl ?_
  have hS := St.start hI
  refine wpIn_seq ?_
  refine reg ?_
  refine qq hS (g_assignv (v := .int .i64 _) rfl) ?_
  refine ol_nil (thenN ?_)
  refine wpIn_seq ?_
  refine wpIn_seq ?_
  refine reg ?_
  refine qq hS (g_move _) ?_
  refine qq hS (g_lenI rfl Tryz.underlying42 hl rfl) ?_
  refine qq hS (g_movev (v := .int .i64 _) rfl) ?_
  refine ol_nil (thenN ?_)
  refine wpIn_block ?_
  refine loop (fun (k : Nat) σ w => okS σ [(0, vl), (1, .func (.func g) #[] caps.toArray), (7, .int .i64 l.length), (8, .int .i64 k)] ∧ St [] w0 I0 I0 w [] ∧ k ≤ l.length ∧ ∀ y ∈ l.take k, q y = false) (fun k => l.length - k) (0) ?_ ?_
  ·
    exact ⟨⟨rfl, rfl, rfl, rfl, trivial⟩, hS.sel [], by simp, by simp⟩
  ·
    rintro k σ w_l ⟨hs, hS, hk0, hall⟩
    rw [← upds_self hs]; clear hs
    refine wpIn_seq ?_
    refine reg ?_
    refine qq hS (g_lss rfl rfl) ?_
    refine ol_nil (thenN ?_)
    refine wpIn_seq ?_
    refine cond_s rfl ?_ ?_
    ·
      intro hc9
      try simp only [Bool.and_eq_true, Bool.or_eq_true, Bool.not_eq_true', Bool.and_eq_false_imp, Bool.or_eq_false_iff, Bool.not_eq_false', decide_eq_true_eq, decide_eq_false_iff_not] at hc9
      obtain ⟨p, hpi⟩ : ∃ p, l[k]? = some p := ⟨_, List.getElem?_eq_getElem (by omega)⟩
      obtain ⟨cs, hcl, hpA, hpc⟩ := RSl.at hl hpi
      obtain ⟨adp, mq, cq, rfl, hpo⟩ := hpc
      refine wpIn_skip ?_
      refine thenN ?_
      refine wpIn_seq ?_
      refine wpIn_block ?_
      refine wpIn_seq ?_
      refine reg ?_
      refine qq hS (g_movev (v := .int .i64 _) rfl) ?_
      refine qq hS (g_assignv (v := .int .i64 _) rfl) ?_
      refine ol_nil (thenN ?_)
      refine wpIn_seq ?_
      refine reg ?_
      refine qq hS (g_move _) ?_
      refine qq hS (g_move _) ?_
      refine qq hS (g_movev (v := .int .i64 _) rfl) ?_
      refine qq hS (g_ixI Tryz.underlying42 Tryz.sizeOf29 hl rfl rfl (by omega) (by omega)) ?_
      refine qq hS (g_ldE (us := [.bool _, .int .i64 _, .int .i64 _, .slice _ _ _]) Tryz.sizeOf29 Tryz.isAgg29 hpA rfl rfl rfl) ?_
      refine qe (d_callv hcg rfl rfl (hq p _ _ _ _ hS.imm)) ?_
      rintro _ w_1 ⟨rfl, hE⟩
      replace hS := hS.callE hE
      refine ol_nil (thenN ?_)
      refine cond_s rfl ?_ ?_
      ·
        intro hc16
        have hany : l.any q = true := List.any_eq_true.2 ⟨p, List.mem_of_getElem? hpi, hc16⟩
        refine wpIn_seq ?_
        refine reg ?_
        refine qq hS (g_movev (v := .int .i64 _) rfl) ?_
        refine qq hS (g_assignv (v := .int .i64 _) rfl) ?_
        refine ol_nil (thenN ?_)
        refine wpIn_ret ?_
        refine blkR (thenR (thenR (blkR (thenR ?_))))
        refine ret1 Tryz.results120 (rv_tmp (v := .int .i64 _) rfl) ?_
        first | exact ⟨_, rfl, by rw [hany]; simp, hS.nil⟩ | exact ⟨_, rfl, by rw [hany]; simp; omega, hS.nil⟩
      ·
        intro hc16
        refine wpIn_skip ?_
        refine blkN (thenN ?_)
        refine reg ?_
        refine qq hS (g_add rfl rfl (by omega) (by omega)) ?_
        refine qq hS (g_movev (v := .int .i64 _) rfl) ?_
        refine ol_nil (thenN ?_)
        exact ⟨k + 1, _, rfl, ⟨⟨rfl, rfl, rfl, rfl, trivial⟩, hS.sel [], by omega, any_take hpi hall hc16⟩, by omega⟩
    ·
      intro hc9
      try simp only [Bool.and_eq_true, Bool.or_eq_true, Bool.not_eq_true', Bool.and_eq_false_imp, Bool.or_eq_false_iff, Bool.not_eq_false', decide_eq_true_eq, decide_eq_false_iff_not] at hc9
      have hk : k = l.length := by omega
      subst hk
      rw [List.take_length] at hall
      have hany : l.any q = false := by simpa using hall
      refine wpIn_exit ?_
      refine thenE (thenE (blkE ?_))
      refine thenN ?_
      refine wpIn_seq ?_
      refine reg ?_
      refine qq hS (g_assignv (v := .int .i64 _) rfl) ?_
      refine ol_nil (thenN ?_)
      refine wpIn_ret ?_
      refine ret1 Tryz.results120 (rv_tmp (v := .int .i64 _) rfl) ?_
      first | exact ⟨_, rfl, by rw [hany]; simp, hS.nil⟩ | exact ⟨_, rfl, by rw [hany]; simp; omega, hS.nil⟩

theorem containsPat_c (vl : Value) (l : List PatL) (g : FuncId) (caps : List Value) (q : PatL → Bool) (w0 : World) (I0 : Imm) (hI : Sat I0 w0) (hl : RPats I0 vl l) (hcg : ∀ args w, (callFunc g args).run Tryz.prog w = .ok (.enter g args) w)
    (hq : ∀ p a m c w, Sat I0 w → Ctr Tryz.prog g (.agg #[.bool p.lifted, .int .i64 p.in_, .int .i64 p.out, .slice a m c] :: caps) w (fun v w' => v = .bool (q p) ∧ Ext w I0 w' I0)) :
    Ctr Tryz.prog 81 [vl, .func (.func g) #[] caps.toArray] w0 (fun v w' => v = .bool (l.any q) ∧ Ext w0 I0 w' I0) := by
  refine fn (n := 9) Tryz.func81 rfl rfl rfl ?_
  have hS := St.start hI
  refine wpIn_seq ?_
  refine reg ?_
  refine qq hS (g_assignv (v := .bool _) rfl) ?_
  refine ol_nil (thenN ?_)
  refine wpIn_seq ?_
  refine reg ?_
  refine qq hS (g_move _) ?_
  refine qq hS (g_move _) ?_
  refine qe (d_call Tryz.call120 rfl (indexPat_c vl l g caps q _ I0 hS.imm hl hcg hq)) ?_
  rintro _ w_1 ⟨r, rfl, hr, hE⟩
  replace hS := hS.callE hE
  refine qq hS (g_geq rfl rfl) ?_
  refine qq hS (g_assignv (v := .bool _) rfl) ?_
  refine ol_nil (thenN ?_)
  refine wpIn_ret ?_
  refine ret1 Tryz.results81 (rv_tmp (v := .bool _) rfl) ?_
  refine ⟨?_, hS.nil⟩
  congr 1
  rw [Bool.eq_iff_iff, decide_eq_true_iff]; exact hr

theorem grow_c (m : Int) (w0 : World) (I0 : Imm) (hI : Sat I0 w0) (hm : 0 ≤ m ∧ m ≤ 1073741824) :
    Ctr Tryz.prog 121 [.slice none 0 0, .int .i64 m] w0 (fun v w' => ∃ a c, v = .slice a 0 c ∧ St [] w0 I0 I0 w' [.row (.slice a 0 c) 81 3 0 []]) := by
  refine fn (n := 27) Tryz.func121 rfl rfl rfl ?_
  have hS := St.start hI
  refine wpIn_seq ?_
  refine reg ?_
  refine qq hS (g_assign _) ?_
  refine ol_nil (thenN ?_)
  refine wpIn_seq ?_
  refine wpIn_seq ?_
  refine reg ?_
  refine qq hS (g_movev (v := .int .i64 _) rfl) ?_
  refine qq hS (g_lss rfl rfl) ?_
  refine ol_nil (thenN ?_)
  refine cond_f (bF (by omega)) ?_
  refine wpIn_skip ?_
  refine thenN ?_
  refine wpIn_seq ?_
  refine wpIn_seq ?_
  refine reg ?_
  refine qq hS (g_movev (v := .int .i64 _) rfl) ?_
  refine qq hS (g_move _) ?_
  refine qq hS (g_capS rfl Tryz.underlying83 rfl) ?_
  refine qq hS (g_move _) ?_
  refine qq hS (g_lenS rfl Tryz.underlying83 rfl) ?_
  refine qq hS (g_sub rfl rfl (by omega) (by omega)) ?_
  refine qq hS (g_sub rfl rfl (by omega) (by omega)) ?_
  refine qq hS (g_assignv (v := .int .i64 _) rfl) ?_
  refine ol_nil (thenN ?_)
  refine wpIn_seq ?_
  refine reg ?_
  refine qq hS (g_movev (v := .int .i64 _) rfl) ?_
  refine qq hS (g_gtr rfl rfl) ?_
  refine ol_nil (thenN ?_)
  refine cond_s rfl ?_ ?_
  ·
    intro hc16
    try simp only [Bool.and_eq_true, Bool.or_eq_true, Bool.not_eq_true', Bool.and_eq_false_imp, Bool.or_eq_false_iff, Bool.not_eq_false', decide_eq_true_eq, decide_eq_false_iff_not] at hc16
    refine reg ?_
    refine qq hS (g_move _) ?_
    refine qq hS (g_move _) ?_
    refine qq hS (g_capS rfl Tryz.underlying83 rfl) ?_
    refine qq hS (g_sliceHN (h0 := 0) Tryz.underlying83 Tryz.sizeOf81 rfl rfl (by decide) (by decide) (by decide)) ?_
    refine qq hS (g_movev (v := .int .i64 _) rfl) ?_
    refine qe (d_appendZ hS rfl Tryz.underlying83 Tryz.underlying3 info81 rfl rfl rfl rfl (by omega) (by omega) (by omega)) ?_
    clear hS
    rintro _ w_1 ⟨b22, c22, rfl, h22, hS⟩
    refine qq hS (g_move _) ?_
    refine qq hS (g_lenS rfl Tryz.underlying83 rfl) ?_
    refine qq hS (g_sliceHN (h0 := 0) Tryz.underlying83 Tryz.sizeOf81 rfl rfl (by omega) (by omega) (by omega)) ?_
    refine qq hS (g_assign _) ?_
    refine ol_nil (thenN ?_)
    refine wpIn_seq ?_
    refine reg ?_
    refine qq hS (g_move _) ?_
    refine qq hS (g_assign _) ?_
    refine ol_nil (thenN ?_)
    refine wpIn_ret ?_
    refine ret1 Tryz.results121 (rv_tmp rfl) ?_
    have hc22 : c22 ≠ 0 := by omega
    have e : (if c22 = 0 then some (⟨b22, 0, none⟩ : Addr) else Option.map (fun (x : Addr) => x.add (0 * 3)) (some ⟨b22, 0, none⟩)) = some ⟨b22, 0, none⟩ := by simp [hc22, Addr.add]
    refine ⟨some ⟨b22, 0, none⟩, c22, ?_, hS⟩
    show Value.slice (if c22 = 0 then some (⟨b22, 0, none⟩ : Addr) else Option.map (fun (x : Addr) => x.add (0 * 3)) (some ⟨b22, 0, none⟩)) 0 (c22 - 0) = _
    rw [e]; rfl
  ·
    intro hc16
    try simp only [Bool.and_eq_true, Bool.or_eq_true, Bool.not_eq_true', Bool.and_eq_false_imp, Bool.or_eq_false_iff, Bool.not_eq_false', decide_eq_true_eq, decide_eq_false_iff_not] at hc16
    refine wpIn_skip ?_
    refine thenN ?_
    refine wpIn_seq ?_
    refine reg ?_
    refine qq hS (g_move _) ?_
    refine qq hS (g_assign _) ?_
    refine ol_nil (thenN ?_)
    refine wpIn_ret ?_
    refine ret1 Tryz.results121 (rv_tmp rfl) ?_
    exact ⟨_, _, rfl, hS.nilRow _ _⟩

set_option maxHeartbeats 1000000 in
theorem concat_c (ad : Option Addr) (cap : Nat) (l : List (List Sym)) (w0 : World) (I0 : Imm) (hI : Sat I0 w0) (hl : RSymL I0 (.slice ad l.length cap) l) (hb : l.length ≤ 64) (hs : ∀ x ∈ l, x.length ≤ 65536) :
    Ctr Tryz.prog 84 [.slice ad l.length cap] w0 (fun v w' => ∃ I' a c, v = .slice a l.flatten.length c ∧ Ext w0 I0 w' I' ∧ RSyms I' (.slice a l.flatten.length c) l.flatten) := by
  have hsum : ∀ k, (l.take k).flatten.length ≤ 65536 * 64 := fun k => by
    have := flatten_le (l := l.take k) (fun x hx => hs x (List.mem_of_mem_take hx))
    have h2 : (l.take k).length ≤ l.length := by rw [List.length_take]; omega
    omega
  refine fn (n := 36) Tryz.func84 rfl rfl rfl ?_
  have hS := St.start hI
  refine wpIn_seq ?_
  refine reg ?_
  refine qq hS (g_assign _) ?_
  refine ol_nil (thenN ?_)
  refine wpIn_seq ?_
  refine reg ?_
  refine qq hS (g_assignv (v := .int .i64 _) rfl) ?_
  refine ol_nil (thenN ?_)
  refine wpIn_seq ?_
  refine wpIn_seq ?_
  refine reg ?_
  refine qq hS (g_move _) ?_
  refine qq hS (g_lenI rfl Tryz.underlying139 hl rfl) ?_
  refine qq hS (g_movev (v := .int .i64 _) rfl) ?_
  refine ol_nil (thenN ?_)
  refine wpIn_block ?_
  refine loop (fun (k : Nat) σ w => okS σ [(0, .slice ad l.length cap), (3, .int .i64 (l.take k).flatten.length), (9, .slice ad l.length cap), (10, .int .i64 l.length), (11, .int .i64 k)] ∧ St [] w0 I0 I0 w [] ∧ k ≤ l.length) (fun k => l.length - k) (0) ?_ ?_
  ·
    exact ⟨⟨rfl, rfl, rfl, rfl, rfl, trivial⟩, hS.sel [], by simp⟩
  ·
    rintro k σ w_l ⟨hs, hS, hk0⟩
    rw [← upds_self hs]; clear hs
    refine wpIn_seq ?_
    refine reg ?_
    refine qq hS (g_lss rfl rfl) ?_
    refine ol_nil (thenN ?_)
    refine wpIn_seq ?_
    refine cond_s rfl ?_ ?_
    ·
      intro hc12
      try simp only [Bool.and_eq_true, Bool.or_eq_true, Bool.not_eq_true', Bool.and_eq_false_imp, Bool.or_eq_false_iff, Bool.not_eq_false', decide_eq_true_eq, decide_eq_false_iff_not] at hc12
      obtain ⟨x, hxi⟩ : ∃ x, l[k]? = some x := ⟨_, List.getElem?_eq_getElem (by omega)⟩
      obtain ⟨cs, hcl, hxA, hxc⟩ := RSl.at hl hxi
      obtain ⟨adx, cx, rfl, hxl⟩ := hxc
      have hxs := hs x (List.mem_of_getElem? hxi)
      have hsk := hsum k
      refine wpIn_skip ?_
      refine thenN ?_
      refine wpIn_seq ?_
      refine wpIn_block ?_
      refine wpIn_seq ?_
      refine reg ?_
      refine qq hS (g_ixI Tryz.underlying139 Tryz.sizeOf83 hl rfl rfl (by omega) (by omega)) ?_
      refine qq hS (g_ldE1 Tryz.isAgg83 hxA rfl rfl) ?_
      refine qq hS (g_assign _) ?_
      refine ol_nil (thenN ?_)
      refine wpIn_seq ?_
      refine reg ?_
      refine qq hS (g_movev (v := .int .i64 _) rfl) ?_
      refine qq hS (g_move _) ?_
      refine qq hS (g_lenI rfl Tryz.underlying83 hxl rfl) ?_
      refine qq hS (g_add rfl rfl (by omega) (by omega)) ?_
      refine qq hS (g_assignv (v := .int .i64 _) rfl) ?_
      refine ol_nil (thenN ?_)
      refine wpIn_seq ?_
      refine reg ?_
      refine qq hS (g_movev (v := .int .i64 _) rfl) ?_
      refine qq hS (g_lss rfl rfl) ?_
      refine ol_nil (thenN ?_)
      refine cond_f (bF (by omega)) ?_
      refine wpIn_skip ?_
      refine blkN (thenN ?_)
      refine reg ?_
      refine qq hS (g_add rfl rfl (by omega) (by omega)) ?_
      refine qq hS (g_movev (v := .int .i64 _) rfl) ?_
      refine ol_nil (thenN ?_)
      have e : (((l.take k).flatten.length : Nat) : Int) + x.length = (l.take (k + 1)).flatten.length := by rw [take_snoc hxi, List.flatten_append, List.length_append, List.flatten_singleton]; omega
      rw [e]
      exact ⟨k + 1, _, rfl, ⟨⟨rfl, rfl, rfl, rfl, rfl, trivial⟩, hS.sel [], by omega⟩, by omega⟩
    ·
      intro hc12
      try simp only [Bool.and_eq_true, Bool.or_eq_true, Bool.not_eq_true', Bool.and_eq_false_imp, Bool.or_eq_false_iff, Bool.not_eq_false', decide_eq_true_eq, decide_eq_false_iff_not] at hc12
      have hk : k = l.length := by omega
      subst hk
      have hsk := hsum l.length
      refine wpIn_exit ?_
      refine thenE (thenE (blkE ?_))
      refine thenN ?_
      refine wpIn_seq ?_
      refine reg ?_
      refine qq hS (g_movev (v := .int .i64 _) rfl) ?_
      refine qe (d_call Tryz.call121 rfl (grow_c _ _ _ hS.imm (by omega))) ?_
      rintro _ w_1 ⟨a24, c24, rfl, hE⟩
      replace hS := hS.call hE
      refine qq hS (g_assign _) ?_
      refine ol_nil (thenN ?_)
      refine wpIn_seq ?_
      refine wpIn_seq ?_
      refine reg ?_
      refine qq hS (g_move _) ?_
      refine qq hS (g_lenI rfl Tryz.underlying139 hl rfl) ?_
      refine qq hS (g_movev (v := .int .i64 _) rfl) ?_
      refine ol_nil (thenN ?_)
      refine wpIn_block ?_
      refine loop (fun (x : Nat × Option Addr × Nat) σ w => okS σ [(0, .slice ad l.length cap), (6, .slice x.2.1 (l.take x.1).flatten.length x.2.2), (25, .slice ad l.length cap), (26, .int .i64 l.length), (27, .int .i64 x.1)] ∧ St [] w0 I0 I0 w [.row (.slice x.2.1 (l.take x.1).flatten.length x.2.2) 81 3 (l.take x.1).flatten.length (flat symC (l.take x.1).flatten)] ∧ x.1 ≤ l.length) (fun x => l.length - x.1) ((0, a24, c24)) ?_ ?_
      ·
        exact ⟨⟨rfl, rfl, rfl, rfl, rfl, trivial⟩, hS.sel [true], by simp⟩
      ·
        rintro ⟨k, a, c⟩ σ w_l ⟨hs, hS, hk0⟩
        dsimp only at hs hS hk0 ⊢
        rw [← upds_self hs]; clear hs
        refine wpIn_seq ?_
        refine reg ?_
        refine qq hS (g_lss rfl rfl) ?_
        refine ol_nil (thenN ?_)
        refine wpIn_seq ?_
        refine cond_s rfl ?_ ?_
        ·
          intro hc28
          try simp only [Bool.and_eq_true, Bool.or_eq_true, Bool.not_eq_true', Bool.and_eq_false_imp, Bool.or_eq_false_iff, Bool.not_eq_false', decide_eq_true_eq, decide_eq_false_iff_not] at hc28
          obtain ⟨x, hxi⟩ : ∃ x, l[k]? = some x := ⟨_, List.getElem?_eq_getElem (by omega)⟩
          obtain ⟨cs, hcl, hxA, hxc⟩ := RSl.at hl hxi
          obtain ⟨adx, cx, rfl, hxl⟩ := hxc
          have hxs := hs x (List.mem_of_getElem? hxi)
          have hsk := hsum k
          refine wpIn_skip ?_
          refine thenN ?_
          refine wpIn_seq ?_
          refine wpIn_block ?_
          refine wpIn_seq ?_
          refine reg ?_
          refine qq hS (g_ixI Tryz.underlying139 Tryz.sizeOf83 hl rfl rfl (by omega) (by omega)) ?_
          refine qq hS (g_ldE1 Tryz.isAgg83 hxA rfl rfl) ?_
          refine qq hS (g_assign _) ?_
          refine ol_nil (thenN ?_)
          refine reg ?_
          refine qq hS (g_move _) ?_
          refine qq hS (g_move _) ?_
          refine qe (i_appendF 0 hS rfl Tryz.underlying83 info81 rfl rfl rfl rfl symC_len (fun _ => rfl) hxl rfl (by omega) (by omega)) ?_
          clear hS
          rintro _ w_2 ⟨a33, p33, rfl, hS⟩
          refine qq hS (g_assign _) ?_
          refine ol_nil (blkN (thenN ?_))
          refine reg ?_
          refine qq hS (g_add rfl rfl (by omega) (by omega)) ?_
          refine qq hS (g_movev (v := .int .i64 _) rfl) ?_
          refine ol_nil (thenN ?_)
          have e : (l.take k).flatten ++ x = (l.take (k + 1)).flatten := by rw [take_snoc hxi, List.flatten_append, List.flatten_singleton]
          refine ⟨(k + 1, a33, p33), _, rfl, ⟨⟨rfl, ?_, rfl, rfl, rfl, trivial⟩, ?_, by dsimp only; omega⟩, by dsimp only; omega⟩
          · dsimp only; rw [← e, List.length_append]; rfl
          · dsimp only; rw [← e, List.length_append, flat_append]; exact hS.sel [true]
        ·
          intro hc28
          try simp only [Bool.and_eq_true, Bool.or_eq_true, Bool.not_eq_true', Bool.and_eq_false_imp, Bool.or_eq_false_iff, Bool.not_eq_false', decide_eq_true_eq, decide_eq_false_iff_not] at hc28
          have hk : k = l.length := by omega
          subst hk
          rw [List.take_length] at hS
          refine wpIn_exit ?_
          refine thenE (thenE (blkE ?_))
          refine thenN ?_
          refine wpIn_seq ?_
          refine reg ?_
          refine qq hS (g_move _) ?_
          refine qq hS (g_assign _) ?_
          refine ol_nil (thenN ?_)
          refine wpIn_ret ?_
          refine ret1 Tryz.results84 (rv_tmp rfl) ?_
          obtain ⟨I1, hE1, hI1, hd1⟩ := row_freeze1 symC_len (xs := l.flatten) (hS.sel [true]) rfl
          exact ⟨I1, a, c, by show Value.slice a (l.take l.length).flatten.length c = _; rw [List.take_length], hE1, hd1⟩

theorem concat_e (ad : Option Addr) (cap m : Nat) (l : List (List Sym)) (w0 : World) (I0 : Imm) (hI : Sat I0 w0) (hl : RSymL I0 (.slice ad m cap) l) (hm : m = l.length) (hb : m ≤ 64) (hs : ∀ x ∈ l, x.length ≤ 65536) (F : List Sym) (hF : l.flatten = F) :
    Ctr Tryz.prog 84 [.slice ad m cap] w0 (fun v w' => ∃ I' a c, v = .slice a F.length c ∧ Ext w0 I0 w' I' ∧ RSyms I' (.slice a F.length c) F) := by
  subst hm hF; exact concat_c ad cap l w0 I0 hI hl hb hs

theorem join1_c (f p : PatL) (b : Nat) (adf ad : Option Addr) (mf cf m cap : Nat) (w0 : World) (I0 : Imm) (hI : Sat I0 w0) (hb : atI I0 ⟨b, 0, none⟩ [.bool f.lifted, .int .i64 f.in_, .int .i64 f.out, .slice adf mf cf]) :
    Ctr Tryz.prog 82 [.agg #[.bool p.lifted, .int .i64 p.in_, .int .i64 p.out, .slice ad m cap], .pointer (some ⟨b, 0, none⟩)] w0 (fun v w' => v = .bool (p.lifted != f.lifted) ∧ Ext w0 I0 w' I0) := by
  refine fn (n := 9) Tryz.func82 rfl rfl rfl ?_
  have hS := St.start hI
  refine wpIn_seq ?_
  refine reg ?_
  refine qe (d_box (cs := [.bool _, .int .i64 _, .int .i64 _, .slice _ _ _]) hS rfl) ?_
  clear hS
  rintro _ w_1 ⟨b2, rfl, hS⟩
  refine qq hS (g_assignv (v := .bool _) rfl) ?_
  refine ol_nil (thenN ?_)
  refine wpIn_seq ?_
  refine reg ?_
  refine qq hS (g_fieldAddr (o' := 0) Tryz.underlying29 rfl Tryz.sizeOf4 rfl rfl rfl) ?_
  refine qq hS (g_ldO1 0 Tryz.isAgg4 rfl rfl rfl) ?_
  refine qq hS (g_fieldAddr (o' := 0) Tryz.underlying29 rfl Tryz.sizeOf4 rfl rfl rfl) ?_
  refine qq hS (g_ldB1 (c := 0) Tryz.isAgg4 hb rfl rfl) ?_
  refine qq hS (g_neqb Tryz.underlying4 rfl rfl) ?_
  refine qq hS (g_assignv (v := .bool _) rfl) ?_
  refine ol_nil (thenN ?_)
  refine wpIn_ret ?_
  refine ret1 Tryz.results82 (rv_tmp (v := .bool _) rfl) ?_
  exact ⟨rfl, hS.nil⟩

theorem join2_c (f p : PatL) (b : Nat) (adf ad : Option Addr) (mf cf m cap : Nat) (w0 : World) (I0 : Imm) (hI : Sat I0 w0) (hb : atI I0 ⟨b, 0, none⟩ [.bool f.lifted, .int .i64 f.in_, .int .i64 f.out, .slice adf mf cf]) :
    Ctr Tryz.prog 83 [.agg #[.bool p.lifted, .int .i64 p.in_, .int .i64 p.out, .slice ad m cap], .pointer (some ⟨b, 0, none⟩)] w0 (fun v w' => v = .bool (decide (p.in_ ≠ f.in_)) ∧ Ext w0 I0 w' I0) := by
  refine fn (n := 9) Tryz.func83 rfl rfl rfl ?_
  have hS := St.start hI
  refine wpIn_seq ?_
  refine reg ?_
  refine qe (d_box (cs := [.bool _, .int .i64 _, .int .i64 _, .slice _ _ _]) hS rfl) ?_
  clear hS
  rintro _ w_1 ⟨b2, rfl, hS⟩
  refine qq hS (g_assignv (v := .bool _) rfl) ?_
  refine ol_nil (thenN ?_)
  refine wpIn_seq ?_
  refine reg ?_
  refine qq hS (g_fieldAddr (o' := 1) Tryz.underlying29 rfl Tryz.sizeOf3 rfl rfl rfl) ?_
  refine qq hS (g_ldO1 0 Tryz.isAgg3 rfl rfl rfl) ?_
  refine qq hS (g_fieldAddr (o' := 1) Tryz.underlying29 rfl Tryz.sizeOf3 rfl rfl rfl) ?_
  refine qq hS (g_ldB1 (c := 1) Tryz.isAgg3 hb rfl rfl) ?_
  refine qq hS (g_neq rfl rfl) ?_
  refine qq hS (g_assignv (v := .bool _) rfl) ?_
  refine ol_nil (thenN ?_)
  refine wpIn_ret ?_
  refine ret1 Tryz.results83 (rv_tmp (v := .bool _) rfl) ?_
  exact ⟨by congr 1; rw [Bool.eq_iff_iff]; simp, hS.nil⟩

set_option maxHeartbeats 2000000 in
theorem join_c (ad : Option Addr) (cap : Nat) (l : List PatL) (w0 : World) (I0 : Imm) (hI : Sat I0 w0) (hl : RPats I0 (.slice ad l.length cap) l) (hw : ∀ p ∈ l, p.wf) (hn : l.length ≤ 64) :
    Ctr Tryz.prog 39 [.slice ad l.length cap] w0 (fun v w' => ∃ I' a m c, v = .tuple #[.agg #[.bool (joinP l).1.lifted, .int .i64 (joinP l).1.in_, .int .i64 (joinP l).1.out, .slice a m c], .int .i64 (joinP l).2] ∧ Ext w0 I0 w' I' ∧ ROps I' (.slice a m c) (joinP l).1.ops) := by
  refine fn (n := 83) Tryz.func39 rfl rfl rfl ?_
  have hS := St.start hI
  refine wpIn_seq ?_
  refine reg ?_
  refine qe (d_alloc (cs := [.bool _, .int .i64 _, .int .i64 _, .slice _ _ _]) hS Tryz.zeroValue29 rfl) ?_
  clear hS
  rintro _ w_1 ⟨b2, rfl, hS⟩
  refine qq hS (g_assignv (v := .int .i64 _) rfl) ?_
  refine ol_nil (thenN ?_)
  refine wpIn_seq ?_
  refine wpIn_seq ?_
  refine reg ?_
  refine qq hS (g_move _) ?_
  refine qq hS (g_lenI rfl Tryz.underlying42 hl rfl) ?_
  refine qq hS (g_eql rfl rfl) ?_
  refine ol_nil (thenN ?_)
  refine cond_s rfl ?_ ?_
  ·
    intro hc17
    try simp only [Bool.and_eq_true, Bool.or_eq_true, Bool.not_eq_true', Bool.and_eq_false_imp, Bool.or_eq_false_iff, Bool.not_eq_false', decide_eq_true_eq, decide_eq_false_iff_not] at hc17
    have e : joinP l = (PatL.zero, 1) := by unfold joinP; rw [if_pos (List.length_eq_zero_iff.1 (by omega))]
    refine wpIn_seq ?_
    refine reg ?_
    refine qq hS (g_buildv (pl := [(0, 1), (1, 1), (2, 1), (3, 1)]) (cs := [.bool _, .int .i64 _, .int .i64 _, .slice _ _ _]) Tryz.zeroValue29 Tryz.underlying29 (fun w => by simp [Tryz.sizeOf27, Tryz.sizeOf3, Tryz.sizeOf4]) mp0 rfl) ?_
    refine qe (d_store 0 hS Tryz.sizeOf29 rfl rfl rfl (vs := [.bool _, .int .i64 _, .int .i64 _, .slice _ _ _]) rfl rfl rfl (Nat.le_of_ble_eq_true rfl) (cs' := [_, _, _, _]) rfl) ?_
    clear hS
    rintro _ w_2 ⟨rfl, hS⟩
    refine qq hS (g_assignv (v := .int .i64 _) rfl) ?_
    refine ol_nil (thenN ?_)
    refine wpIn_ret ?_
    refine thenR ?_
    rw [e]
    refine ret2 Tryz.results39 (rv_cel 0 hS Tryz.sizeOf29 Tryz.isAgg29 rfl rfl rfl) (rv_tmp (v := .int .i64 _) rfl) ?_
    first | exact ⟨_, none, 0, 0, rfl, hS.nil, RSl.nilR⟩ | exact ⟨_, a72, m72, c72, rfl, hS.nil, h72⟩
  ·
    intro hc17
    try simp only [Bool.and_eq_true, Bool.or_eq_true, Bool.not_eq_true', Bool.and_eq_false_imp, Bool.or_eq_false_iff, Bool.not_eq_false', decide_eq_true_eq, decide_eq_false_iff_not] at hc17
    have hne : l ≠ [] := by intro h; subst h; simp at hc17
    refine wpIn_skip ?_
    refine thenN ?_
    refine wpIn_seq ?_
    refine reg ?_
    refine qq hS (g_assign _) ?_
    refine ol_nil (thenN ?_)
    refine wpIn_seq ?_
    refine wpIn_seq ?_
    refine reg ?_
    refine qq hS (g_move _) ?_
    refine qq hS (g_lenI rfl Tryz.underlying42 hl rfl) ?_
    refine qq hS (g_movev (v := .int .i64 _) rfl) ?_
    refine ol_nil (thenN ?_)
    refine wpIn_block ?_
    refine loop (fun (x : LsS) σ w => okS σ [(0, .slice ad l.length cap), (2, .pointer (some ⟨b2, 0, none⟩)), (3, .int .i64 0), (4, .slice x.a x.k x.c), (19, .slice ad l.length cap), (20, .int .i64 l.length), (21, .int .i64 x.k)] ∧ ∃ I, St [] w0 I0 I w [.row (.slice x.a x.k x.c) 83 1 x.k x.css.flatten, .cel b2 29 [.bool false, .int .i64 0, .int .i64 0, .slice none 0 0]] ∧ x.k ≤ l.length ∧ All2 (RSymC I) x.css ((l.take x.k).map fun p => symsOf p.ops) ∧ (∀ cs ∈ x.css, cs.length = 1) ∧ ∀ p ∈ l.take x.k, (checkP p).2 = 0) (fun x => l.length - x.k) (⟨0, [], none, 0⟩) ?_ ?_
    ·
      exact ⟨⟨rfl, rfl, rfl, rfl, rfl, rfl, rfl, trivial⟩, _, (hS.sel [true]).nilRow _ _, by simp, by simpa using All2.nil _, by simp, by simp⟩
    ·
      rintro ⟨k, css, x4a, x4c⟩ σ w_l ⟨hs, I, hS, hk0, hall, hcl1, hchk⟩
      dsimp only at hs hS hk0 hall hcl1 hchk ⊢
      rw [← upds_self hs]; clear hs
      refine wpIn_seq ?_
      refine reg ?_
      refine qq hS (g_lss rfl rfl) ?_
      refine ol_nil (thenN ?_)
      refine wpIn_seq ?_
      refine cond_s rfl ?_ ?_
      ·
        intro hc22
        try simp only [Bool.and_eq_true, Bool.or_eq_true, Bool.not_eq_true', Bool.and_eq_false_imp, Bool.or_eq_false_iff, Bool.not_eq_false', decide_eq_true_eq, decide_eq_false_iff_not] at hc22
        obtain ⟨p, hpi⟩ : ∃ p, l[k]? = some p := ⟨_, List.getElem?_eq_getElem (by omega)⟩
        obtain ⟨cs, hcl, hpA, hpc⟩ := RSl.at (hl.mono hS.ext) hpi
        obtain ⟨adp, mq, cq, rfl, hpo⟩ := hpc
        have hpw := hw p (List.mem_of_getElem? hpi)
        obtain ⟨A, hA⟩ : ∃ A, symbolsP p = A := ⟨_, rfl⟩
        refine wpIn_skip ?_
        refine thenN ?_
        refine wpIn_seq ?_
        refine wpIn_block ?_
        refine wpIn_seq ?_
        refine reg ?_
        refine qq hS (g_ixI Tryz.underlying42 Tryz.sizeOf29 (hl.mono hS.ext) rfl rfl (by omega) (by omega)) ?_
        refine qq hS (g_ldE (us := [.bool _, .int .i64 _, .int .i64 _, .slice _ _ _]) Tryz.sizeOf29 Tryz.isAgg29 hpA rfl rfl rfl) ?_
        refine qe (d_alloc (cs := [.bool _, .int .i64 _, .int .i64 _, .slice _ _ _]) hS Tryz.zeroValue29 rfl) ?_
        clear hS
        rintro _ w_3 ⟨b6, rfl, hS⟩
        refine qe (d_store 0 hS Tryz.sizeOf29 rfl rfl rfl (vs := [.bool _, .int .i64 _, .int .i64 _, .slice _ _ _]) rfl rfl rfl (Nat.le_of_ble_eq_true rfl) (cs' := [_, _, _, _]) rfl) ?_
        clear hS
        rintro _ w_4 ⟨rfl, hS⟩
        refine ol_nil (thenN ?_)
        refine wpIn_seq ?_
        refine reg ?_
        refine qq hS (g_ldO 0 (vs := [.bool _, .int .i64 _, .int .i64 _, .slice _ _ _]) Tryz.sizeOf29 Tryz.isAgg29 rfl rfl rfl rfl) ?_
        refine qe (d_call Tryz.call49 rfl (symbols_e p adp mq cq A _ _ hS.imm hpo hpw hA)) ?_
        rintro _ w_5 ⟨I_f, a27, c27, rfl, hE, h27⟩
        replace hS := hS.callE hE
        refine qq hS (g_move _) ?_
        refine qq hS (g_extract rfl rfl) ?_
        refine qq hS (g_extract (v := .int .i64 _) rfl rfl) ?_
        refine qq hS (g_assign _) ?_
        refine qq hS (g_assignv (v := .int .i64 _) rfl) ?_
        refine ol_nil (thenN ?_)
        refine wpIn_seq ?_
        refine wpIn_seq ?_
        refine reg ?_
        refine qq hS (g_movev (v := .int .i64 _) rfl) ?_
        refine qq hS (g_neq rfl rfl) ?_
        refine ol_nil (thenN ?_)
        refine cond_s rfl ?_ ?_
        ·
          intro hc31
          try simp only [Bool.and_eq_true, Bool.or_eq_true, Bool.not_eq_true', Bool.and_eq_false_imp, Bool.or_eq_false_iff, Bool.not_eq_false', decide_eq_true_eq, decide_eq_false_iff_not] at hc31
          have e : joinP l = (PatL.zero, A.2) := by rw [← hA]; exact join_bad (List.mem_of_getElem? hpi) (by rw [hA]; exact hc31)
          refine wpIn_seq ?_
          refine reg ?_
          refine qq hS (g_buildv (pl := [(0, 1), (1, 1), (2, 1), (3, 1)]) (cs := [.bool _, .int .i64 _, .int .i64 _, .slice _ _ _]) Tryz.zeroValue29 Tryz.underlying29 (fun w => by simp [Tryz.sizeOf27, Tryz.sizeOf3, Tryz.sizeOf4]) mp0 rfl) ?_
          refine qq hS (g_movev (v := .int .i64 _) rfl) ?_
          refine qe (d_store 2 hS Tryz.sizeOf29 rfl rfl rfl (vs := [.bool _, .int .i64 _, .int .i64 _, .slice _ _ _]) rfl rfl rfl (Nat.le_of_ble_eq_true rfl) (cs' := [_, _, _, _]) rfl) ?_
          clear hS
          rintro _ w_6 ⟨rfl, hS⟩
          refine qq hS (g_assignv (v := .int .i64 _) rfl) ?_
          refine ol_nil (thenN ?_)
          refine wpIn_ret ?_
          refine thenR (blkR (thenR (thenR (blkR (thenR ?_)))))
          rw [e]
          refine ret2 Tryz.results39 (rv_cel 2 hS Tryz.sizeOf29 Tryz.isAgg29 rfl rfl rfl) (rv_tmp (v := .int .i64 _) rfl) ?_
          first | exact ⟨_, none, 0, 0, rfl, hS.nil, RSl.nilR⟩ | exact ⟨_, a72, m72, c72, rfl, hS.nil, h72⟩
        ·
          intro hc31
          try simp only [Bool.and_eq_true, Bool.or_eq_true, Bool.not_eq_true', Bool.and_eq_false_imp, Bool.or_eq_false_iff, Bool.not_eq_false', decide_eq_true_eq, decide_eq_false_iff_not] at hc31
          obtain ⟨hpk, hps⟩ := symsP_ok (p := p) (by rw [hA]; exact hc31)
          rw [hA] at hps
          subst hps
          refine wpIn_skip ?_
          refine thenN ?_
          refine reg ?_
          refine qq hS (g_move _) ?_
          refine qq hS (g_move _) ?_
          refine qe (d_lit (vs := [.slice _ _ _]) (cs := [.slice _ _ _]) hS Tryz.underlying139 Tryz.sizeOf83 Tryz.zeroValue83 rfl rfl rfl rfl (fun v hv => by simp only [List.mem_cons, List.not_mem_nil, or_false] at hv; subst hv; rfl) rfl) ?_
          clear hS
          rintro _ w_7 ⟨b_7, rfl, hS⟩
          refine qe (i_appendO 2 0 hS rfl Tryz.underlying139 info83 rfl rfl rfl rfl rfl rfl rfl rfl (by omega) (by omega)) ?_
          clear hS
          rintro _ w_8 ⟨a37, p37, rfl, hS⟩
          refine qq hS (g_assign _) ?_
          refine ol_nil (blkN (thenN ?_))
          refine reg ?_
          refine qq hS (g_add rfl rfl (by omega) (by omega)) ?_
          refine qq hS (g_movev (v := .int .i64 _) rfl) ?_
          refine ol_nil (thenN ?_)
          refine ⟨⟨k + 1, css ++ [[.slice a27 (symsOf p.ops).length c27]], a37, p37⟩, _, rfl, ⟨⟨rfl, rfl, rfl, rfl, rfl, rfl, rfl, trivial⟩, I_f, ?_, by dsimp only; omega, ?_, ?_, ?_⟩, by dsimp only; omega⟩
          · dsimp only
            rw [List.flatten_append, List.flatten_singleton]
            exact hS.sel [false, false, true, true]
          · dsimp only
            rw [take_snoc hpi, List.map_append]
            exact All2.snoc (hall.mono fun _ _ h => h.mono hE.ext) ⟨_, _, rfl, h27⟩
          · intro cs hcs
            rcases List.mem_append.1 hcs with h | h
            · exact hcl1 cs h
            · simp only [List.mem_singleton] at h; subst h; rfl
          · intro y hy
            rw [take_snoc hpi] at hy
            rcases List.mem_append.1 hy with h | h
            · exact hchk y h
            · simp only [List.mem_singleton] at h; subst h; exact hpk
      ·
        intro hc22
        try simp only [Bool.and_eq_true, Bool.or_eq_true, Bool.not_eq_true', Bool.and_eq_false_imp, Bool.or_eq_false_iff, Bool.not_eq_false', decide_eq_true_eq, decide_eq_false_iff_not] at hc22
        have hk : k = l.length := by omega
        subst hk
        rw [List.take_length] at hall hchk
        refine wpIn_exit ?_
        refine thenE (thenE (blkE ?_))
        refine thenN ?_
        refine wpIn_seq ?_
        obtain ⟨I3, hS3, hI3, h4⟩ := St.freezeRowR (xs := l.map fun p => symsOf p.ops) hS (by simp) hcl1 hall
        clear hS
        replace hS := hS3
        clear hS3
        replace h4 : RSymL I3 _ _ := RSl.mono h4 (Inl.Sub.refl _) fun _ _ h => h.mono hI3
        refine reg ?_
        refine qq hS (g_assignv (v := .int .i64 _) rfl) ?_
        refine ol_nil (thenN ?_)
        refine wpIn_seq ?_
        refine wpIn_seq ?_
        refine reg ?_
        refine qq hS (g_move _) ?_
        refine qq hS (g_lenI rfl Tryz.underlying42 (hl.mono hS.ext) rfl) ?_
        refine qq hS (g_movev (v := .int .i64 _) rfl) ?_
        refine ol_nil (thenN ?_)
        refine wpIn_block ?_
        refine loop (fun (k : Nat) σ w => okS σ [(0, .slice ad l.length cap), (2, .pointer (some ⟨b2, 0, none⟩)), (3, .int .i64 0), (4, .slice x4a l.length x4c), (9, .int .i64 (sumO (l.take k))), (39, .slice ad l.length cap), (40, .int .i64 l.length), (41, .int .i64 k)] ∧ St [] w0 I0 I3 w [.cel b2 29 [.bool false, .int .i64 0, .int .i64 0, .slice none 0 0]] ∧ k ≤ l.length) (fun k => l.length - k) (0) ?_ ?_
        ·
          exact ⟨⟨rfl, rfl, rfl, rfl, rfl, rfl, rfl, rfl, trivial⟩, hS.sel [true], by simp⟩
        ·
          rintro k σ w_l ⟨hs, hS, hk0⟩
          rw [← upds_self hs]; clear hs
          have hsk := sumO_take hchk k
          have hlk : (l.take k).length ≤ 64 := by rw [List.length_take]; omega
          refine wpIn_seq ?_
          refine reg ?_
          refine qq hS (g_lss rfl rfl) ?_
          refine ol_nil (thenN ?_)
          refine wpIn_seq ?_
          refine cond_s rfl ?_ ?_
          ·
            intro hc42
            try simp only [Bool.and_eq_true, Bool.or_eq_true, Bool.not_eq_true', Bool.and_eq_false_imp, Bool.or_eq_false_iff, Bool.not_eq_false', decide_eq_true_eq, decide_eq_false_iff_not] at hc42
            obtain ⟨p, hpi⟩ : ∃ p, l[k]? = some p := ⟨_, List.getElem?_eq_getElem (by omega)⟩
            obtain ⟨cs, hcl, hpA, hpc⟩ := RSl.at (hl.mono hS.ext) hpi
            obtain ⟨adp, mq, cq, rfl, hpo⟩ := hpc
            have hpw := hw p (List.mem_of_getElem? hpi)
            refine wpIn_skip ?_
            refine thenN ?_
            refine wpIn_seq ?_
            refine wpIn_block ?_
            refine wpIn_seq ?_
            refine reg ?_
            refine qq hS (g_ixI Tryz.underlying42 Tryz.sizeOf29 (hl.mono hS.ext) rfl rfl (by omega) (by omega)) ?_
            refine qq hS (g_ldE (us := [.bool _, .int .i64 _, .int .i64 _, .slice _ _ _]) Tryz.sizeOf29 Tryz.isAgg29 hpA rfl rfl rfl) ?_
            refine qe (d_alloc (cs := [.bool _, .int .i64 _, .int .i64 _, .slice _ _ _]) hS Tryz.zeroValue29 rfl) ?_
            clear hS
            rintro _ w_9 ⟨b11, rfl, hS⟩
            refine qe (d_store 0 hS Tryz.sizeOf29 rfl rfl rfl (vs := [.bool _, .int .i64 _, .int .i64 _, .slice _ _ _]) rfl rfl rfl (Nat.le_of_ble_eq_true rfl) (cs' := [_, _, _, _]) rfl) ?_
            clear hS
            rintro _ w_10 ⟨rfl, hS⟩
            refine ol_nil (thenN ?_)
            refine reg ?_
            refine qq hS (g_movev (v := .int .i64 _) rfl) ?_
            have hpk := checkP_ok (hchk p (List.mem_of_getElem? hpi))
            refine qq hS (g_fieldAddr (o' := 2) Tryz.underlying29 rfl Tryz.sizeOf3 rfl rfl rfl) ?_
            refine qq hS (g_ldO1 0 Tryz.isAgg3 rfl rfl rfl) ?_
            refine qq hS (g_add rfl rfl (by omega) (by omega)) ?_
            refine qq hS (g_assignv (v := .int .i64 _) rfl) ?_
            refine ol_nil (blkN (thenN ?_))
            refine reg ?_
            refine qq hS (g_add rfl rfl (by omega) (by omega)) ?_
            refine qq hS (g_movev (v := .int .i64 _) rfl) ?_
            refine ol_nil (thenN ?_)
            rw [← sumO_snoc hpi]
            exact ⟨k + 1, _, rfl, ⟨⟨rfl, rfl, rfl, rfl, rfl, rfl, rfl, rfl, trivial⟩, hS.sel [false, true], by omega⟩, by omega⟩
          ·
            intro hc42
            try simp only [Bool.and_eq_true, Bool.or_eq_true, Bool.not_eq_true', Bool.and_eq_false_imp, Bool.or_eq_false_iff, Bool.not_eq_false', decide_eq_true_eq, decide_eq_false_iff_not] at hc42
            have hk : k = l.length := by omega
            subst hk
            refine wpIn_exit ?_
            refine thenE (thenE (blkE ?_))
            refine thenN ?_
            refine wpIn_seq ?_
            rw [List.take_length] at *
            obtain ⟨f, hpi⟩ : ∃ p, l[0]? = some p := ⟨_, List.getElem?_eq_getElem (by have := List.length_pos_iff.2 hne; omega)⟩
            obtain ⟨cs, hcl, hpA, hpc⟩ := RSl.at (hl.mono hS.ext) hpi
            obtain ⟨adf, mf, cf, rfl, hfo⟩ := hpc
            have hff : firstP l = f := by unfold firstP; rw [List.headD_eq_head?_getD, List.head?_eq_getElem?, hpi]; rfl
            have hfw := hw f (List.mem_of_getElem? hpi)
            have hlen4 : ∀ x ∈ l.map (fun p => symsOf p.ops), x.length ≤ 65536 := fun x hx => by
              obtain ⟨p, hp, rfl⟩ := List.mem_map.1 hx
              have := checkP_ok (hchk p hp)
              omega
            have hdef := join_good hne hchk
            rw [hff] at hdef
            have hFw := flat_wf hw hchk
            have hFe : (l.map fun p => symsOf p.ops).flatten = l.flatMap fun p => symsOf p.ops := by rw [List.flatMap]
            rw [← hFe] at hdef hFw
            obtain ⟨F, hF⟩ : ∃ F, (l.map fun p => symsOf p.ops).flatten = F := ⟨_, rfl⟩
            rw [hF] at hdef hFw
            obtain ⟨C, hC⟩ : ∃ C, cheapP F f.in_ = C := ⟨_, rfl⟩
            rw [hC] at hdef
            refine reg ?_
            refine qq hS (g_move _) ?_
            refine qq hS (g_ixI Tryz.underlying42 Tryz.sizeOf29 (hl.mono hS.ext) rfl rfl (by decide) (by omega)) ?_
            refine qq hS (g_ldE (us := [.bool _, .int .i64 _, .int .i64 _, .slice _ _ _]) Tryz.sizeOf29 Tryz.isAgg29 hpA rfl rfl rfl) ?_
            refine qe (d_alloc (cs := [.bool _, .int .i64 _, .int .i64 _, .slice _ _ _]) hS Tryz.zeroValue29 rfl) ?_
            clear hS
            rintro _ w_11 ⟨b12, rfl, hS⟩
            refine qe (d_store 0 hS Tryz.sizeOf29 rfl rfl rfl (vs := [.bool _, .int .i64 _, .int .i64 _, .slice _ _ _]) rfl rfl rfl (Nat.le_of_ble_eq_true rfl) (cs' := [_, _, _, _]) rfl) ?_
            clear hS
            rintro _ w_12 ⟨rfl, hS⟩
            refine ol_nil (thenN ?_)
            refine wpIn_seq ?_
            refine wpIn_block ?_
            refine wpIn_seq ?_
            obtain ⟨I4, hS4, hI4, hb12⟩ := hS.freeze1
            clear hS
            replace hS := hS4
            clear hS4
            replace h4 := RSymL.mono h4 hI4
            replace hfo := hfo.mono hI4
            refine reg ?_
            refine qq hS (g_move _) ?_
            refine qq hS (g_makeFuncL ml0 (ml rfl ml0)) ?_
            refine qe (d_call Tryz.call81 rfl (containsPat_c _ l 82 [.pointer (some ⟨b12, 0, none⟩)] (fun p => p.lifted != f.lifted) _ _ hS.imm (hl.mono hS.ext) Tryz.call82 (fun p a m c w hs => join1_c f p b12 adf a mf cf m c w _ hs hb12))) ?_
            rintro _ w_13 ⟨rfl, hE⟩
            replace hS := hS.callE hE
            refine qq hS (g_assignv (v := .bool _) rfl) ?_
            refine ol_nil (thenN ?_)
            refine cond_s rfl ?_ ?_
            ·
              intro hc53
              have e : joinP l = (PatL.zero, 62) := by rw [hdef, if_pos hc53]
              refine wpIn_seq ?_
              refine reg ?_
              refine qq hS (g_buildv (pl := [(0, 1), (1, 1), (2, 1), (3, 1)]) (cs := [.bool _, .int .i64 _, .int .i64 _, .slice _ _ _]) Tryz.zeroValue29 Tryz.underlying29 (fun w => by simp [Tryz.sizeOf27, Tryz.sizeOf3, Tryz.sizeOf4]) mp0 rfl) ?_
              refine qe (d_store 0 hS Tryz.sizeOf29 rfl rfl rfl (vs := [.bool _, .int .i64 _, .int .i64 _, .slice _ _ _]) rfl rfl rfl (Nat.le_of_ble_eq_true rfl) (cs' := [_, _, _, _]) rfl) ?_
              clear hS
              rintro _ w_14 ⟨rfl, hS⟩
              refine qq hS (g_assignv (v := .int .i64 _) rfl) ?_
              refine ol_nil (thenN ?_)
              refine wpIn_ret ?_
              refine blkR (thenR ?_)
              rw [e]
              refine ret2 Tryz.results39 (rv_cel 0 hS Tryz.sizeOf29 Tryz.isAgg29 rfl rfl rfl) (rv_tmp (v := .int .i64 _) rfl) ?_
              first | exact ⟨_, none, 0, 0, rfl, hS.nil, RSl.nilR⟩ | exact ⟨_, a72, m72, c72, rfl, hS.nil, h72⟩
            ·
              intro hc53
              rw [if_neg (by rw [hc53]; decide)] at hdef
              refine wpIn_seq ?_
              refine reg ?_
              refine qq hS (g_movev (v := .int .i64 _) rfl) ?_
              refine qq hS (g_gtr rfl rfl) ?_
              refine qq hS (g_movev (v := .bool _) rfl) ?_
              refine qu rfl rfl hS (fun hg => (g_move _)) ?_
              intro u62 hu62 hn62
              refine qu rfl rfl hS (fun hg => (g_makeFuncL ml0 (ml rfl ml0))) ?_
              intro u63 hu63 hn63
              refine cvu rfl rfl hS (fun hg => (d_call Tryz.call81 (ml (hu62 hg) (ml (hu63 hg) ml0)) (containsPat_c _ l 83 [.pointer (some ⟨b12, 0, none⟩)] (fun p => decide (p.in_ ≠ f.in_)) _ _ hS.imm (hl.mono hS.ext) Tryz.call83 (fun p a m c w hs => join2_c f p b12 adf a mf cf m c w _ hs hb12)))) ?_
              intro w_16 u64 hS hu64 hn64
              refine qq hS (g_or rfl rfl (fun hq => hu64 hq)) ?_
              refine qq hS (g_assignv (v := .bool _) rfl) ?_
              refine ol_nil (thenN ?_)
              refine cond_s rfl ?_ ?_
              ·
                intro hc58
                clear hu62 hn62 hu63 hn63 hu64 hn64
                have e : joinP l = (PatL.zero, 61) := by rw [hdef, if_pos hc58]
                refine wpIn_seq ?_
                refine reg ?_
                refine qq hS (g_buildv (pl := [(0, 1), (1, 1), (2, 1), (3, 1)]) (cs := [.bool _, .int .i64 _, .int .i64 _, .slice _ _ _]) Tryz.zeroValue29 Tryz.underlying29 (fun w => by simp [Tryz.sizeOf27, Tryz.sizeOf3, Tryz.sizeOf4]) mp0 rfl) ?_
                refine qe (d_store 0 hS Tryz.sizeOf29 rfl rfl rfl (vs := [.bool _, .int .i64 _, .int .i64 _, .slice _ _ _]) rfl rfl rfl (Nat.le_of_ble_eq_true rfl) (cs' := [_, _, _, _]) rfl) ?_
                clear hS
                rintro _ w_17 ⟨rfl, hS⟩
                refine qq hS (g_assignv (v := .int .i64 _) rfl) ?_
                refine ol_nil (thenN ?_)
                refine wpIn_ret ?_
                refine blkR (thenR ?_)
                rw [e]
                refine ret2 Tryz.results39 (rv_cel 0 hS Tryz.sizeOf29 Tryz.isAgg29 rfl rfl rfl) (rv_tmp (v := .int .i64 _) rfl) ?_
                first | exact ⟨_, none, 0, 0, rfl, hS.nil, RSl.nilR⟩ | exact ⟨_, a72, m72, c72, rfl, hS.nil, h72⟩
              ·
                intro hc58
                clear hu62 hn62 hu63 hn63 hu64 hn64
                rw [if_neg (by rw [hc58]; decide)] at hdef
                refine wpIn_skip ?_
                refine blkN (thenN ?_)
                refine wpIn_seq ?_
                refine draw (.cons 0 .pure (.cons 2 .pure (.cons 3 .held (.fork 1 (.fork 4 (.cons 5 .pure (.cons 6 .pure (.cons 7 .pure (.cons 8 .eff (.cons 9 .bar (.cons 10 .pure .nil)))))) 8 (.cons 4 .eff (.cons 5 .pure (.cons 6 .pure (.cons 7 .pure (.cons 9 .bar (.cons 10 .pure .nil))))))) 8 (.cons 1 .eff (.cons 4 .eff (.cons 5 .pure (.cons 6 .pure (.cons 7 .pure (.cons 9 .bar (.cons 10 .pure .nil))))))))))) mixed (by kernel_rfl) hS ?_
                intro w_18 hS
                refine sp rfl (g_move _) ?_
                refine sp rfl (g_fieldAddr (o' := 1) Tryz.underlying29 rfl Tryz.sizeOf3 rfl rfl rfl) ?_
                refine sh rfl (g_ldB1 (c := 1) Tryz.isAgg3 hb12 rfl rfl) ?_
                refine sk ?_ ?_
                ·
                  have hS0 := hS
                  refine se rfl (d_call Tryz.call84 rfl (concat_e x4a x4c l.length (l.map fun (p : PatL) => symsOf p.ops) _ _ hS.imm h4 (by simp) hn hlen4 F hF)) ?_
                  rintro _ w_19 ⟨I_f, a69, c69, rfl, hE, h69⟩
                  replace hS := hS.call hE
                  replace h4 := h4.mono hE.ext
                  replace hfo := hfo.mono hE.ext
                  replace hb12 := hb12.mono hE.ext
                  refine ⟨_, _, hS0.le hE.ext (List.Sublist.refl _), hS, ?_⟩
                  refine sk ?_ ?_
                  ·
                    have hS0 := hS
                    refine se rfl (d_call Tryz.call47 rfl (cheapest_e a69 _ c69 F f.in_ C.1 C.2 _ _ hS.imm h69 rfl hFw hC)) ?_
                    rintro _ w_20 ⟨I_f, a72, m72, c72, rfl, hE, h72⟩
                    replace hS := hS.call hE
                    replace h4 := h4.mono hE.ext
                    replace hfo := hfo.mono hE.ext
                    replace hb12 := hb12.mono hE.ext
                    replace h69 := h69.mono hE.ext
                    refine ⟨_, _, hS0.le hE.ext (List.Sublist.refl _), hS, ?_⟩
                    refine sp rfl (g_move _) ?_
                    refine sp rfl (g_extract rfl rfl) ?_
                    refine sp rfl (g_extract (v := .int .i64 _) rfl rfl) ?_
                    have hS0 := hS
                    refine se rfl (d_alloc (cs := [.bool _, .int .i64 _, .int .i64 _, .slice _ _ _]) hS Tryz.zeroValue29 rfl) ?_
                    rintro _ w_21 ⟨b13, rfl, hS⟩
                    refine ⟨_, _, hS0.le (Sub.refl _) (List.sublist_cons_self _ _), hS, ?_⟩
                    refine sb rfl (d_store 0 hS Tryz.sizeOf29 rfl rfl rfl (vs := [.bool _, .int .i64 _, .int .i64 _, .slice _ _ _]) rfl rfl rfl (Nat.le_of_ble_eq_true rfl) (cs' := [_, _, _, _]) rfl) ?_
                    rintro _ w_22 ⟨rfl, hS⟩
                    refine ⟨_, _, hS, ?_⟩
                    refine sp rfl (g_assignv (v := .int .i64 _) rfl) ?_
                    refine sn (thenN ?_)
                    refine wpIn_seq ?_
                    refine wpIn_seq ?_
                    refine reg ?_
                    refine qq hS (g_movev (v := .int .i64 _) rfl) ?_
                    refine qq hS (g_neq rfl rfl) ?_
                    refine ol_nil (thenN ?_)
                    refine cond_s rfl ?_ ?_
                    ·
                      intro hc76
                      try simp only [Bool.and_eq_true, Bool.or_eq_true, Bool.not_eq_true', Bool.and_eq_false_imp, Bool.or_eq_false_iff, Bool.not_eq_false', decide_eq_true_eq, decide_eq_false_iff_not] at hc76
                      have e : joinP l = (PatL.zero, C.2) := by rw [hdef, if_pos hc76]
                      refine wpIn_seq ?_
                      refine reg ?_
                      refine qq hS (g_buildv (pl := [(0, 1), (1, 1), (2, 1), (3, 1)]) (cs := [.bool _, .int .i64 _, .int .i64 _, .slice _ _ _]) Tryz.zeroValue29 Tryz.underlying29 (fun w => by simp [Tryz.sizeOf27, Tryz.sizeOf3, Tryz.sizeOf4]) mp0 rfl) ?_
                      refine qq hS (g_movev (v := .int .i64 _) rfl) ?_
                      refine qe (d_store 1 hS Tryz.sizeOf29 rfl rfl rfl (vs := [.bool _, .int .i64 _, .int .i64 _, .slice _ _ _]) rfl rfl rfl (Nat.le_of_ble_eq_true rfl) (cs' := [_, _, _, _]) rfl) ?_
                      clear hS
                      rintro _ w_23 ⟨rfl, hS⟩
                      refine qq hS (g_assignv (v := .int .i64 _) rfl) ?_
                      refine ol_nil (thenN ?_)
                      refine wpIn_ret ?_
                      refine thenR ?_
                      rw [e]
                      refine ret2 Tryz.results39 (rv_cel 1 hS Tryz.sizeOf29 Tryz.isAgg29 rfl rfl rfl) (rv_tmp (v := .int .i64 _) rfl) ?_
                      first | exact ⟨_, none, 0, 0, rfl, hS.nil, RSl.nilR⟩ | exact ⟨_, a72, m72, c72, rfl, hS.nil, h72⟩
                    ·
                      intro hc76
                      try simp only [Bool.and_eq_true, Bool.or_eq_true, Bool.not_eq_true', Bool.and_eq_false_imp, Bool.or_eq_false_iff, Bool.not_eq_false', decide_eq_true_eq, decide_eq_false_iff_not] at hc76
                      have e : joinP l = ({ C.1 with lifted := f.lifted }, 0) := by rw [hdef, if_neg (by rw [hc76]; decide)]
                      refine wpIn_skip ?_
                      refine thenN ?_
                      refine wpIn_seq ?_
                      refine reg ?_
                      refine qq hS (g_fieldAddr (o' := 0) Tryz.underlying29 rfl Tryz.sizeOf4 rfl rfl rfl) ?_
                      refine qq hS (g_ldB1 (c := 0) Tryz.isAgg4 hb12 rfl rfl) ?_
                      refine qq hS (g_fieldAddr (o' := 0) Tryz.underlying29 rfl Tryz.sizeOf4 rfl rfl rfl) ?_
                      refine qe (d_store 0 hS Tryz.sizeOf4 rfl rfl rfl (vs := [.bool _]) rfl rfl rfl (Nat.le_of_ble_eq_true rfl) (cs' := [_, _, _, _]) rfl) ?_
                      clear hS
                      rintro _ w_24 ⟨rfl, hS⟩
                      refine ol_nil (thenN ?_)
                      refine wpIn_seq ?_
                      refine reg ?_
                      refine qq hS (g_ldO 0 (vs := [.bool _, .int .i64 _, .int .i64 _, .slice _ _ _]) Tryz.sizeOf29 Tryz.isAgg29 rfl rfl rfl rfl) ?_
                      refine qe (d_store 1 hS Tryz.sizeOf29 rfl rfl rfl (vs := [.bool _, .int .i64 _, .int .i64 _, .slice _ _ _]) rfl rfl rfl (Nat.le_of_ble_eq_true rfl) (cs' := [_, _, _, _]) rfl) ?_
                      clear hS
                      rintro _ w_25 ⟨rfl, hS⟩
                      refine qq hS (g_assignv (v := .int .i64 _) rfl) ?_
                      refine ol_nil (thenN ?_)
                      refine wpIn_ret ?_
                      rw [e]
                      refine ret2 Tryz.results39 (rv_cel 1 hS Tryz.sizeOf29 Tryz.isAgg29 rfl rfl rfl) (rv_tmp (v := .int .i64 _) rfl) ?_
                      first | exact ⟨_, none, 0, 0, rfl, hS.nil, RSl.nilR⟩ | exact ⟨_, a72, m72, c72, rfl, hS.nil, h72⟩
                  ·
                    have hS0 := hS
                    refine se rfl (d_alloc (cs := [.bool _, .int .i64 _, .int .i64 _, .slice _ _ _]) hS Tryz.zeroValue29 rfl) ?_
                    rintro _ w_26 ⟨b13, rfl, hS⟩
                    refine ⟨_, _, hS0.le (Sub.refl _) (List.sublist_cons_self _ _), hS, ?_⟩
                    have hS0 := hS
                    refine se rfl (d_call Tryz.call47 rfl (cheapest_e a69 _ c69 F f.in_ C.1 C.2 _ _ hS.imm h69 rfl hFw hC)) ?_
                    rintro _ w_27 ⟨I_f, a72, m72, c72, rfl, hE, h72⟩
                    replace hS := hS.call hE
                    replace h4 := h4.mono hE.ext
                    replace hfo := hfo.mono hE.ext
                    replace hb12 := hb12.mono hE.ext
                    replace h69 := h69.mono hE.ext
                    refine ⟨_, _, hS0.le hE.ext (List.Sublist.refl _), hS, ?_⟩
                    refine sp rfl (g_move _) ?_
                    refine sp rfl (g_extract rfl rfl) ?_
                    refine sp rfl (g_extract (v := .int .i64 _) rfl rfl) ?_
                    refine sb rfl (d_store 0 hS Tryz.sizeOf29 rfl rfl rfl (vs := [.bool _, .int .i64 _, .int .i64 _, .slice _ _ _]) rfl rfl rfl (Nat.le_of_ble_eq_true rfl) (cs' := [_, _, _, _]) rfl) ?_
                    rintro _ w_28 ⟨rfl, hS⟩
                    refine ⟨_, _, hS, ?_⟩
                    refine sp rfl (g_assignv (v := .int .i64 _) rfl) ?_
                    refine sn (thenN ?_)
                    refine wpIn_seq ?_
                    refine wpIn_seq ?_
                    refine reg ?_
                    refine qq hS (g_movev (v := .int .i64 _) rfl) ?_
                    refine qq hS (g_neq rfl rfl) ?_
                    refine ol_nil (thenN ?_)
                    refine cond_s rfl ?_ ?_
                    ·
                      intro hc76
                      try simp only [Bool.and_eq_true, Bool.or_eq_true, Bool.not_eq_true', Bool.and_eq_false_imp, Bool.or_eq_false_iff, Bool.not_eq_false', decide_eq_true_eq, decide_eq_false_iff_not] at hc76
                      have e : joinP l = (PatL.zero, C.2) := by rw [hdef, if_pos hc76]
                      refine wpIn_seq ?_
                      refine reg ?_
                      refine qq hS (g_buildv (pl := [(0, 1), (1, 1), (2, 1), (3, 1)]) (cs := [.bool _, .int .i64 _, .int .i64 _, .slice _ _ _]) Tryz.zeroValue29 Tryz.underlying29 (fun w => by simp [Tryz.sizeOf27, Tryz.sizeOf3, Tryz.sizeOf4]) mp0 rfl) ?_
                      refine qq hS (g_movev (v := .int .i64 _) rfl) ?_
                      refine qe (d_store 1 hS Tryz.sizeOf29 rfl rfl rfl (vs := [.bool _, .int .i64 _, .int .i64 _, .slice _ _ _]) rfl rfl rfl (Nat.le_of_ble_eq_true rfl) (cs' := [_, _, _, _]) rfl) ?_
                      clear hS
                      rintro _ w_29 ⟨rfl, hS⟩
                      refine qq hS (g_assignv (v := .int .i64 _) rfl) ?_
                      refine ol_nil (thenN ?_)
                      refine wpIn_ret ?_
                      refine thenR ?_
                      rw [e]
                      refine ret2 Tryz.results39 (rv_cel 1 hS Tryz.sizeOf29 Tryz.isAgg29 rfl rfl rfl) (rv_tmp (v := .int .i64 _) rfl) ?_
                      first | exact ⟨_, none, 0, 0, rfl, hS.nil, RSl.nilR⟩ | exact ⟨_, a72, m72, c72, rfl, hS.nil, h72⟩
                    ·
                      intro hc76
                      try simp only [Bool.and_eq_true, Bool.or_eq_true, Bool.not_eq_true', Bool.and_eq_false_imp, Bool.or_eq_false_iff, Bool.not_eq_false', decide_eq_true_eq, decide_eq_false_iff_not] at hc76
                      have e : joinP l = ({ C.1 with lifted := f.lifted }, 0) := by rw [hdef, if_neg (by rw [hc76]; decide)]
                      refine wpIn_skip ?_
                      refine thenN ?_
                      refine wpIn_seq ?_
                      refine reg ?_
                      refine qq hS (g_fieldAddr (o' := 0) Tryz.underlying29 rfl Tryz.sizeOf4 rfl rfl rfl) ?_
                      refine qq hS (g_ldB1 (c := 0) Tryz.isAgg4 hb12 rfl rfl) ?_
                      refine qq hS (g_fieldAddr (o' := 0) Tryz.underlying29 rfl Tryz.sizeOf4 rfl rfl rfl) ?_
                      refine qe (d_store 0 hS Tryz.sizeOf4 rfl rfl rfl (vs := [.bool _]) rfl rfl rfl (Nat.le_of_ble_eq_true rfl) (cs' := [_, _, _, _]) rfl) ?_
                      clear hS
                      rintro _ w_30 ⟨rfl, hS⟩
                      refine ol_nil (thenN ?_)
                      refine wpIn_seq ?_
                      refine reg ?_
                      refine qq hS (g_ldO 0 (vs := [.bool _, .int .i64 _, .int .i64 _, .slice _ _ _]) Tryz.sizeOf29 Tryz.isAgg29 rfl rfl rfl rfl) ?_
                      refine qe (d_store 1 hS Tryz.sizeOf29 rfl rfl rfl (vs := [.bool _, .int .i64 _, .int .i64 _, .slice _ _ _]) rfl rfl rfl (Nat.le_of_ble_eq_true rfl) (cs' := [_, _, _, _]) rfl) ?_
                      clear hS
                      rintro _ w_31 ⟨rfl, hS⟩
                      refine qq hS (g_assignv (v := .int .i64 _) rfl) ?_
                      refine ol_nil (thenN ?_)
                      refine wpIn_ret ?_
                      rw [e]
                      refine ret2 Tryz.results39 (rv_cel 1 hS Tryz.sizeOf29 Tryz.isAgg29 rfl rfl rfl) (rv_tmp (v := .int .i64 _) rfl) ?_
                      first | exact ⟨_, none, 0, 0, rfl, hS.nil, RSl.nilR⟩ | exact ⟨_, a72, m72, c72, rfl, hS.nil, h72⟩
                ·
                  have hS0 := hS
                  refine se rfl (d_alloc (cs := [.bool _, .int .i64 _, .int .i64 _, .slice _ _ _]) hS Tryz.zeroValue29 rfl) ?_
                  rintro _ w_32 ⟨b13, rfl, hS⟩
                  refine ⟨_, _, hS0.le (Sub.refl _) (List.sublist_cons_self _ _), hS, ?_⟩
                  have hS0 := hS
                  refine se rfl (d_call Tryz.call84 rfl (concat_e x4a x4c l.length (l.map fun (p : PatL) => symsOf p.ops) _ _ hS.imm h4 (by simp) hn hlen4 F hF)) ?_
                  rintro _ w_33 ⟨I_f, a69, c69, rfl, hE, h69⟩
                  replace hS := hS.call hE
                  replace h4 := h4.mono hE.ext
                  replace hfo := hfo.mono hE.ext
                  replace hb12 := hb12.mono hE.ext
                  refine ⟨_, _, hS0.le hE.ext (List.Sublist.refl _), hS, ?_⟩
                  have hS0 := hS
                  refine se rfl (d_call Tryz.call47 rfl (cheapest_e a69 _ c69 F f.in_ C.1 C.2 _ _ hS.imm h69 rfl hFw hC)) ?_
                  rintro _ w_34 ⟨I_f, a72, m72, c72, rfl, hE, h72⟩
                  replace hS := hS.call hE
                  replace h4 := h4.mono hE.ext
                  replace hfo := hfo.mono hE.ext
                  replace hb12 := hb12.mono hE.ext
                  replace h69 := h69.mono hE.ext
                  refine ⟨_, _, hS0.le hE.ext (List.Sublist.refl _), hS, ?_⟩
                  refine sp rfl (g_move _) ?_
                  refine sp rfl (g_extract rfl rfl) ?_
                  refine sp rfl (g_extract (v := .int .i64 _) rfl rfl) ?_
                  refine sb rfl (d_store 0 hS Tryz.sizeOf29 rfl rfl rfl (vs := [.bool _, .int .i64 _, .int .i64 _, .slice _ _ _]) rfl rfl rfl (Nat.le_of_ble_eq_true rfl) (cs' := [_, _, _, _]) rfl) ?_
                  rintro _ w_35 ⟨rfl, hS⟩
                  refine ⟨_, _, hS, ?_⟩
                  refine sp rfl (g_assignv (v := .int .i64 _) rfl) ?_
                  refine sn (thenN ?_)
                  refine wpIn_seq ?_
                  refine wpIn_seq ?_
                  refine reg ?_
                  refine qq hS (g_movev (v := .int .i64 _) rfl) ?_
                  refine qq hS (g_neq rfl rfl) ?_
                  refine ol_nil (thenN ?_)
                  refine cond_s rfl ?_ ?_
                  ·
                    intro hc76
                    try simp only [Bool.and_eq_true, Bool.or_eq_true, Bool.not_eq_true', Bool.and_eq_false_imp, Bool.or_eq_false_iff, Bool.not_eq_false', decide_eq_true_eq, decide_eq_false_iff_not] at hc76
                    have e : joinP l = (PatL.zero, C.2) := by rw [hdef, if_pos hc76]
                    refine wpIn_seq ?_
                    refine reg ?_
                    refine qq hS (g_buildv (pl := [(0, 1), (1, 1), (2, 1), (3, 1)]) (cs := [.bool _, .int .i64 _, .int .i64 _, .slice _ _ _]) Tryz.zeroValue29 Tryz.underlying29 (fun w => by simp [Tryz.sizeOf27, Tryz.sizeOf3, Tryz.sizeOf4]) mp0 rfl) ?_
                    refine qq hS (g_movev (v := .int .i64 _) rfl) ?_
                    refine qe (d_store 1 hS Tryz.sizeOf29 rfl rfl rfl (vs := [.bool _, .int .i64 _, .int .i64 _, .slice _ _ _]) rfl rfl rfl (Nat.le_of_ble_eq_true rfl) (cs' := [_, _, _, _]) rfl) ?_
                    clear hS
                    rintro _ w_36 ⟨rfl, hS⟩
                    refine qq hS (g_assignv (v := .int .i64 _) rfl) ?_
                    refine ol_nil (thenN ?_)
                    refine wpIn_ret ?_
                    refine thenR ?_
                    rw [e]
                    refine ret2 Tryz.results39 (rv_cel 1 hS Tryz.sizeOf29 Tryz.isAgg29 rfl rfl rfl) (rv_tmp (v := .int .i64 _) rfl) ?_
                    first | exact ⟨_, none, 0, 0, rfl, hS.nil, RSl.nilR⟩ | exact ⟨_, a72, m72, c72, rfl, hS.nil, h72⟩
                  ·
                    intro hc76
                    try simp only [Bool.and_eq_true, Bool.or_eq_true, Bool.not_eq_true', Bool.and_eq_false_imp, Bool.or_eq_false_iff, Bool.not_eq_false', decide_eq_true_eq, decide_eq_false_iff_not] at hc76
                    have e : joinP l = ({ C.1 with lifted := f.lifted }, 0) := by rw [hdef, if_neg (by rw [hc76]; decide)]
                    refine wpIn_skip ?_
                    refine thenN ?_
                    refine wpIn_seq ?_
                    refine reg ?_
                    refine qq hS (g_fieldAddr (o' := 0) Tryz.underlying29 rfl Tryz.sizeOf4 rfl rfl rfl) ?_
                    refine qq hS (g_ldB1 (c := 0) Tryz.isAgg4 hb12 rfl rfl) ?_
                    refine qq hS (g_fieldAddr (o' := 0) Tryz.underlying29 rfl Tryz.sizeOf4 rfl rfl rfl) ?_
                    refine qe (d_store 0 hS Tryz.sizeOf4 rfl rfl rfl (vs := [.bool _]) rfl rfl rfl (Nat.le_of_ble_eq_true rfl) (cs' := [_, _, _, _]) rfl) ?_
                    clear hS
                    rintro _ w_37 ⟨rfl, hS⟩
                    refine ol_nil (thenN ?_)
                    refine wpIn_seq ?_
                    refine reg ?_
                    refine qq hS (g_ldO 0 (vs := [.bool _, .int .i64 _, .int .i64 _, .slice _ _ _]) Tryz.sizeOf29 Tryz.isAgg29 rfl rfl rfl rfl) ?_
                    refine qe (d_store 1 hS Tryz.sizeOf29 rfl rfl rfl (vs := [.bool _, .int .i64 _, .int .i64 _, .slice _ _ _]) rfl rfl rfl (Nat.le_of_ble_eq_true rfl) (cs' := [_, _, _, _]) rfl) ?_
                    clear hS
                    rintro _ w_38 ⟨rfl, hS⟩
                    refine qq hS (g_assignv (v := .int .i64 _) rfl) ?_
                    refine ol_nil (thenN ?_)
                    refine wpIn_ret ?_
                    rw [e]
                    refine ret2 Tryz.results39 (rv_cel 1 hS Tryz.sizeOf29 Tryz.isAgg29 rfl rfl rfl) (rv_tmp (v := .int .i64 _) rfl) ?_
                    first | exact ⟨_, none, 0, 0, rfl, hS.nil, RSl.nilR⟩ | exact ⟨_, a72, m72, c72, rfl, hS.nil, h72⟩

end Go.Proofs.YtodopmclnklgdaaGreat

