/- inlayref08.Op and Cut, patch.Cost: what they compute. Conditions: numbers within bounds. inlaylaw08.NormalCuts: its function answers true; what Cut makes is right and has the same symbols. Conditions: arguments are bytes. -/
import Derived.Test.YtaklmbhfmpdinaaKLaw
namespace Go.Proofs.Ytaklmbhfmpdinaa
open Go Go.RowKit Go.Inl
set_option linter.unusedSimpArgs false
set_option linter.unusedVariables false
structure CutS where
  k : Nat
  done : List OpL
  css : List (List Value)
  a : Option Addr
  c : Nat
/-- patch.Cost. -/
def sumP : List OpL → Int
  | [] => 0
  | x :: l => costP x + sumP l
theorem sumP_eq {n : Int} : ∀ (l : List OpL), OpsOk n l → sumP l = sumC l
  | [], _ => rfl
  | x :: l, h => by
    unfold sumP sumC
    rw [sumP_eq l fun y hy => h y (by simp [hy]), opc_costP (h x (by simp)).2]
/-- inlayref08.Cut. -/
def cutN (x : OpL) (w : List Int) (i : Nat) : Int := if i < w.length then w.getD i 0 % 64 % x.len else 0
def cutK1 (x : OpL) (w : List Int) (i : Nat) : Int := if 128 ≤ w.getD i 0 ∧ x.kind = 1 then 2 else x.kind
def cutK (x : OpL) (w : List Int) (i : Nat) : Int := if i < w.length then (if 128 ≤ w.getD i 0 ∧ cutK1 x w i = 3 then 4 else cutK1 x w i) else x.kind
def cutA (x : OpL) (w : List Int) (i : Nat) : List OpL := if 0 < cutN x w i then [opS (cutK x w i) ((symsOp x).take (cutN x w i).toNat)] else []
def cutB (x : OpL) (w : List Int) (i : Nat) : OpL := opS x.kind ((symsOp x).drop (cutN x w i).toNat)
def cutL : List OpL → List Int → Nat → List OpL
  | [], _, _ => []
  | x :: r, w, i => (cutA x w i ++ [cutB x w i]) ++ cutL r w (i + 1)
def cutP (p : PatL) (w : List Int) : PatL := ⟨p.lifted, p.in_, p.out, cutL p.ops w 0⟩
theorem cutL_append : ∀ (a b : List OpL) (w : List Int) (i : Nat), cutL (a ++ b) w i = cutL a w i ++ cutL b w (i + a.length)
  | [], b, w, i => by simp [cutL]
  | x :: a, b, w, i => by
    rw [List.cons_append, cutL, cutL, cutL_append a b w (i + 1), List.append_assoc, List.length_cons, show i + 1 + a.length = i + (a.length + 1) by omega, List.append_assoc, List.append_assoc]
theorem cutL_snoc {l : List OpL} {k : Nat} {x : OpL} {w : List Int} (h : l[k]? = some x) : cutL (l.take (k + 1)) w 0 = (cutL (l.take k) w 0 ++ cutA x w k) ++ [cutB x w k] := by
  have hk := (List.getElem?_eq_some_iff.1 h).1
  rw [take_snoc h, cutL_append, List.length_take, Nat.min_eq_left (by omega), Nat.zero_add, List.append_assoc]
  simp [cutL]
theorem cutN_bd {x : OpL} {w : List Int} {i : Nat} (hx : 1 ≤ x.len) : 0 ≤ cutN x w i ∧ cutN x w i < x.len := by
  unfold cutN
  split
  · exact ⟨Int.emod_nonneg _ (by omega), Int.emod_lt_of_pos _ (by omega)⟩
  · omega
theorem cutK_bd {x : OpL} {w : List Int} {i : Nat} (hx : 1 ≤ x.kind ∧ x.kind ≤ 4) : 1 ≤ cutK x w i ∧ cutK x w i ≤ 4 := by
  unfold cutK cutK1
  repeat' split
  all_goals omega
theorem seg_at {l : List OpL} {k : Nat} {x : OpL} (h : l[k]? = some x) (n m : Nat) (hm : m ≤ x.len.toNat) (hn : n ≤ m) : ((symsOf l).take ((symsOf (l.take k)).length + m)).drop ((symsOf (l.take k)).length + n) = ((symsOp x).take m).drop n := by
  have h1 : symsOf l = symsOf (l.take k) ++ (symsOp x ++ symsOf (l.drop (k + 1))) := by
    conv => lhs; rw [← List.take_append_drop k l]
    rw [symsOf_append, drop_cons h, symsOf_cons]
  have hl := symsOp_length x
  rw [h1, List.take_length_add_append, List.drop_length_add_append, List.take_append_of_le_length (by omega)]

theorem m_copying_cost (v : Value) (w : World) : (method (Try.prog.types.size + Made.depth) 105 v "inlay/patch.cost").run Try.prog w = .ok (100, v) w := by kernel_rfl
theorem m_differing_cost (v : Value) (w : World) : (method (Try.prog.types.size + Made.depth) 106 v "inlay/patch.cost").run Try.prog w = .ok (104, v) w := by kernel_rfl
theorem m_running_cost (v : Value) (w : World) : (method (Try.prog.types.size + Made.depth) 107 v "inlay/patch.cost").run Try.prog w = .ok (107, v) w := by kernel_rfl
theorem m_literal_cost (v : Value) (w : World) : (method (Try.prog.types.size + Made.depth) 108 v "inlay/patch.cost").run Try.prog w = .ok (110, v) w := by kernel_rfl
theorem m_unknownOne_cost (v : Value) (w : World) : (method (Try.prog.types.size + Made.depth) 110 v "inlay/patch.cost").run Try.prog w = .ok (113, v) w := by kernel_rfl
theorem does_cost {n : Nat} {σ : Nat → Value} {ty : TypeId} {aT : Array TypeId} {r : Operand} {w : World} {I : Imm} (x : OpL) (ad : Option Addr) (m cap : Nat) (hI : Sat I w) (hd : RBytes I (.slice ad m cap) x.data) (hx : x.wf) (hr : ev n σ r = ofV x (opV x ad m cap)) :
    Does Try.prog (ev n σ) (.call { callee := .invoke r "inlay/patch.cost", args := #[], argTypes := aT }) ty w (fun v w' => v = .int .i64 (costP x) ∧ Ext w I w' I) := by
  unfold ofV at hr
  unfold costP
  by_cases h1 : x.kind = 1
  · rw [if_pos h1] at hr ⊢
    exact d_invoke (l := []) hr (m_copying_cost _) Try.call100 rfl (copying_cost x ad m cap w I hI hd hx)
  rw [if_neg h1] at hr ⊢
  by_cases h2 : x.kind = 2
  · rw [if_pos h2] at hr ⊢
    exact d_invoke (l := []) hr (m_differing_cost _) Try.call104 rfl (differing_cost x ad m cap w I hI hd hx)
  rw [if_neg h2] at hr ⊢
  by_cases h3 : x.kind = 3
  · rw [if_pos h3] at hr ⊢
    exact d_invoke (l := []) hr (m_running_cost _) Try.call107 rfl (running_cost x ad m cap w I hI hd hx)
  rw [if_neg h3] at hr ⊢
  by_cases h4 : x.kind = 4
  · rw [if_pos h4] at hr ⊢
    exact d_invoke (l := []) hr (m_literal_cost _) Try.call110 rfl (literal_cost x ad m cap w I hI hd hx)
  rw [if_neg h4] at hr ⊢
  exact d_invoke (l := []) hr (m_unknownOne_cost _) Try.call113 rfl (unknown_cost w I hI)

theorem patchCost_c (p : PatL) (ad : Option Addr) (m cap : Nat) (w0 : World) (I0 : Imm) (hI : Sat I0 w0) (hops : ROps I0 (.slice ad m cap) p.ops) (hp : p.wf) (hb : ∀ x ∈ p.ops, 0 ≤ x.len ∧ x.len ≤ 65536) :
    Ctr Try.prog 19 [.agg #[.bool p.lifted, .int .i64 p.in_, .int .i64 p.out, .slice ad m cap]] w0 (fun v w' => v = .int .i64 (sumP p.ops) ∧ Ext w0 I0 w' I0) := by
  have hlm := hp.len
  refine fn (n := 20) Try.func19 rfl rfl rfl ?_
  have hS := St.start hI
  refine wpIn_seq ?_
  refine reg ?_
  refine qe (d_box (cs := [.bool _, .int .i64 _, .int .i64 _, .slice _ _ _]) hS rfl) ?_
  clear hS
  rintro _ w_1 ⟨b1, rfl, hS⟩
  refine qq hS (g_assignv (v := .int .i64 _) rfl) ?_
  refine ol_nil (thenN ?_)
  refine wpIn_seq ?_
  refine reg ?_
  refine qq hS (g_assignv (v := .int .i64 _) rfl) ?_
  refine ol_nil (thenN ?_)
  refine wpIn_seq ?_
  refine wpIn_seq ?_
  refine reg ?_
  refine qq hS (g_fieldAddr (o' := 3) Try.underlying24 rfl Try.sizeOf22 rfl rfl rfl) ?_
  refine qq hS (g_ldO1 0 Try.isAgg22 rfl rfl rfl) ?_
  refine qq hS (g_lenI rfl Try.underlying22 hops rfl) ?_
  refine qq hS (g_movev (v := .int .i64 _) rfl) ?_
  refine ol_nil (thenN ?_)
  refine wpIn_block ?_
  refine loop (fun (x : Nat × Int) σ w => okS σ [(3, .int .i64 x.2), (7, .slice ad m cap), (8, .int .i64 p.ops.length), (9, .int .i64 x.1)] ∧ St [] w0 I0 I0 w [] ∧ x.1 ≤ p.ops.length ∧ 0 ≤ x.2 ∧ x.2 ≤ 70000 * (x.1 : Int) ∧ x.2 + sumP (p.ops.drop x.1) = sumP p.ops) (fun x => p.ops.length - x.1) ((0, 0)) ?_ ?_
  ·
    exact ⟨⟨rfl, rfl, rfl, rfl, trivial⟩, hS.sel [false], by simp, by decide, by decide, by simp⟩
  ·
    rintro ⟨k, s⟩ σ w_l ⟨hs, hS, hk0, hl0, hl1, hgo⟩
    dsimp only at hs hS hk0 hl0 hl1 hgo ⊢
    rw [← upds_self hs]; clear hs
    refine wpIn_seq ?_
    refine reg ?_
    refine qq hS (g_lss rfl rfl) ?_
    refine ol_nil (thenN ?_)
    refine wpIn_seq ?_
    refine cond_s rfl ?_ ?_
    ·
      intro hc10
      try simp only [Bool.and_eq_true, Bool.or_eq_true, Bool.not_eq_true', Bool.and_eq_false_imp, Bool.or_eq_false_iff, Bool.not_eq_false', decide_eq_true_eq, decide_eq_false_iff_not] at hc10
      obtain ⟨x, hx⟩ : ∃ x, p.ops[k]? = some x := ⟨_, List.getElem?_eq_getElem (by omega)⟩
      have hxm := List.mem_of_getElem? hx
      obtain ⟨cs, hcl, hoA, hro⟩ := RSl.at hops hx
      obtain ⟨adx, mx, capx, rfl, hd⟩ := hro
      have hxl := hb x hxm
      have hxc : 0 ≤ costP x ∧ costP x ≤ 70000 := by unfold costP; repeat' split
                                                     all_goals omega
      rw [drop_cons hx, sumP] at hgo
      refine wpIn_skip ?_
      refine thenN ?_
      refine wpIn_seq ?_
      refine wpIn_block ?_
      refine wpIn_seq ?_
      refine reg ?_
      refine qq hS (g_ixI Try.underlying22 Try.sizeOf35 hops rfl rfl (by omega) (by omega)) ?_
      refine qq hS (g_ldE (us := [.int .i64 _, .int .i64 _, .int .i64 _, .int .u8 _, .slice _ _ _]) Try.sizeOf35 Try.isAgg35 hoA rfl rfl rfl) ?_
      refine qe (d_alloc (cs := [.int .i64 _, .int .i64 _, .int .i64 _, .int .u8 _, .slice _ _ _]) hS Try.zeroValue35 rfl) ?_
      clear hS
      rintro _ w_2 ⟨b5, rfl, hS⟩
      refine qe (d_store 0 hS Try.sizeOf35 rfl rfl rfl (vs := [.int .i64 _, .int .i64 _, .int .i64 _, .int .u8 _, .slice _ _ _]) rfl rfl rfl (Nat.le_of_ble_eq_true rfl) (cs' := [_, _, _, _, _]) rfl) ?_
      clear hS
      rintro _ w_3 ⟨rfl, hS⟩
      refine ol_nil (thenN ?_)
      refine reg ?_
      refine qq hS (g_movev (v := .int .i64 _) rfl) ?_
      refine qq hS (g_ldO 0 (vs := [.int .i64 _, .int .i64 _, .int .i64 _, .int .u8 _, .slice _ _ _]) Try.sizeOf35 Try.isAgg35 rfl rfl rfl rfl) ?_
      refine qe (d_call Try.call22 rfl (of_c x adx mx capx _ I0 hS.imm hd (hp.ops x hxm))) ?_
      rintro _ w_4 ⟨rfl, hE⟩
      replace hS := hS.callE hE
      refine qe (does_cost x adx mx capx hS.imm hd (hp.ops x hxm) rfl) ?_
      rintro _ w_5 ⟨rfl, hE⟩
      replace hS := hS.callE hE
      refine qq hS (g_add rfl rfl (by omega) (by omega)) ?_
      refine qq hS (g_assignv (v := .int .i64 _) rfl) ?_
      refine ol_nil (blkN (thenN ?_))
      refine reg ?_
      refine qq hS (g_add rfl rfl (by omega) (by omega)) ?_
      refine qq hS (g_movev (v := .int .i64 _) rfl) ?_
      exact ⟨(k + 1, s + costP x), _, rfl, ⟨⟨rfl, rfl, rfl, rfl, trivial⟩, hS.sel [false], by dsimp only; omega, by dsimp only; omega, by dsimp only; omega, by dsimp only; omega⟩, by dsimp only; omega⟩
    ·
      intro hc10
      try simp only [Bool.and_eq_true, Bool.or_eq_true, Bool.not_eq_true', Bool.and_eq_false_imp, Bool.or_eq_false_iff, Bool.not_eq_false', decide_eq_true_eq, decide_eq_false_iff_not] at hc10
      have hk : k = p.ops.length := by omega
      subst hk
      rw [List.drop_length, sumP, Int.add_zero] at hgo
      refine wpIn_exit ?_
      refine thenE (thenE (blkE ?_))
      refine thenN ?_
      refine wpIn_seq ?_
      refine reg ?_
      refine qq hS (g_movev (v := .int .i64 _) rfl) ?_
      refine qq hS (g_assignv (v := .int .i64 _) rfl) ?_
      refine ol_nil (thenN ?_)
      refine wpIn_ret ?_
      refine ret1 Try.results19 (rv_tmp (v := .int .i64 _) rfl) ?_
      rw [← hgo]; exact ⟨rfl, hS.nil⟩

end Go.Proofs.Ytaklmbhfmpdinaa


namespace Go.Proofs.Ytaklmbhfmpdinaa
open Go Go.RowKit Go.Inl
set_option linter.unusedSimpArgs false
set_option linter.unusedVariables false
theorem fits_drop {k : Int} : ∀ (m : Nat) (l : List Sym) (n : Nat), n ≤ fitsN k l → n - m ≤ fitsN k (l.drop m)
  | 0, l, n, h => by simpa using h
  | m + 1, [], n, h => by simp [fitsN] at h ⊢; omega
  | m + 1, s :: l, n, h => by
    cases n with
    | zero => omega
    | succ n =>
      have := fits_drop m l n (fitsN_tail h)
      rw [List.drop_succ_cons]; omega
theorem fits_weak12 {l : List Sym} {n : Nat} (h : n ≤ fitsN 1 l) : n ≤ fitsN 2 l := by
  cases l with
  | nil => simp [fitsN] at h; omega
  | cons s l =>
    rw [fits_iff] at h ⊢
    intro j hj
    obtain ⟨t, h1, h2⟩ := h j hj
    refine ⟨t, h1, ?_⟩
    simp [relK] at h2 ⊢
    exact ⟨h2.1, h2.2.1, h2.2.2.1⟩
theorem fits_weak34 {l : List Sym} {n : Nat} (h : n ≤ fitsN 3 l) : n ≤ fitsN 4 l := by
  cases l with
  | nil => simp [fitsN] at h; omega
  | cons s l =>
    rw [fits_iff] at h ⊢
    intro j hj
    obtain ⟨t, h1, h2⟩ := h j hj
    refine ⟨t, h1, ?_⟩
    simp [relK] at h2 ⊢
    exact h2.2.1
theorem cut_one {x : OpL} {n : Int} (w : List Int) (i : Nat) (h1 : 1 ≤ x.len) (h2 : rightP x n = true) : OpsOk n (cutA x w i ++ [cutB x w i]) ∧ symsOf (cutA x w i ++ [cutB x w i]) = symsOp x := by
  obtain ⟨ok, hlen, hfit⟩ := op_ok h1 h2
  have hk := right_kind h2
  have hf : x.len.toNat ≤ fitsN x.kind (symsOp x) := by have := hfit []; rwa [List.append_nil] at this
  have hsl := symsOp_length x
  have hn := cutN_bd (w := w) (i := i) h1
  have hkc := cutK_bd (w := w) (i := i) hk
  have hfc : x.len.toNat ≤ fitsN (cutK x w i) (symsOp x) := by
    unfold cutK cutK1
    split
    · by_cases a : 128 ≤ w.getD i 0 ∧ x.kind = 1
      · rw [if_pos a, if_neg (by omega)]
        rw [a.2] at hf; exact fits_weak12 hf
      · rw [if_neg a]
        split
        · rename_i b; rw [b.2] at hf; exact fits_weak34 hf
        · exact hf
    · exact hf
  have hfd := fits_drop (cutN x w i).toNat _ _ hf
  have hdl : ((symsOp x).drop (cutN x w i).toNat).length = x.len.toNat - (cutN x w i).toNat := by rw [List.length_drop, hsl]
  obtain ⟨b1, b2, b3⟩ := opS_right (n := n) hk.1 hk.2 (m := x.len.toNat - (cutN x w i).toNat) (by omega) hfd (ok.drop _)
  rw [List.take_of_length_le (by omega)] at b1 b2 b3
  have hB : 1 ≤ (cutB x w i).len ∧ rightP (cutB x w i) n = true := ⟨by show 1 ≤ (opS x.kind _).len; omega, b2⟩
  by_cases hz : 0 < cutN x w i
  · obtain ⟨a1, a2, a3⟩ := opS_right (n := n) hkc.1 hkc.2 (m := (cutN x w i).toNat) (by omega) (by omega) ok
    have hA : cutA x w i = [opS (cutK x w i) ((symsOp x).take (cutN x w i).toNat)] := by unfold cutA; rw [if_pos hz]
    rw [hA]
    refine ⟨fun y hy => ?_, ?_⟩
    · simp only [List.cons_append, List.nil_append, List.mem_cons, List.not_mem_nil, or_false] at hy
      rcases hy with rfl | rfl
      · exact ⟨by omega, a2⟩
      · exact hB
    · rw [symsOf_append, symsOf_one, symsOf_one, a3]
      show _ ++ symsOp (opS x.kind _) = _
      rw [b3, List.take_append_drop]
  · have hA : cutA x w i = [] := by unfold cutA; rw [if_neg hz]
    rw [hA]
    refine ⟨fun y hy => ?_, ?_⟩
    · simp only [List.nil_append, List.mem_cons, List.not_mem_nil, or_false] at hy
      subst hy; exact hB
    · rw [List.nil_append, symsOf_one]
      show symsOp (opS x.kind _) = _
      rw [b3, show (cutN x w i).toNat = 0 by omega, List.drop_zero]
theorem cutL_spec {n : Int} : ∀ (ops : List OpL) (w : List Int) (i : Nat), OpsOk n ops → OpsOk n (cutL ops w i) ∧ symsOf (cutL ops w i) = symsOf ops ∧ (cutL ops w i).length ≤ 2 * ops.length
  | [], w, i, _ => ⟨fun x hx => by simp [cutL] at hx, rfl, by simp [cutL]⟩
  | x :: l, w, i, h => by
    obtain ⟨h1, h2, h3⟩ := cutL_spec l w (i + 1) fun y hy => h y (by simp [hy])
    obtain ⟨h4, h5⟩ := cut_one w i (h x (by simp)).1 (h x (by simp)).2
    have hA : (cutA x w i).length ≤ 1 := by unfold cutA; split <;> simp
    rw [cutL]
    refine ⟨fun y hy => (List.mem_append.1 hy).elim (h4 y) (h1 y), ?_, ?_⟩
    · rw [symsOf_append, h5, h2, symsOf_cons]
    · rw [List.length_append, List.length_append, List.length_singleton, List.length_cons]; omega
theorem cutP_ok {p : PatL} (w : List Int) (h : (checkP p).2 = 0) (hl : p.ops.length ≤ 2048) : (checkP (cutP p w)).2 = 0 ∧ symsOf (cutP p w).ops = symsOf p.ops := by
  obtain ⟨h1, h2, h3, h4, h5, h6, h7⟩ := checkP_ok h
  obtain ⟨k1, k2, k3⟩ := cutL_spec p.ops w 0 h1
  refine ⟨checkP_right (p := cutP p w) ⟨h3, h4⟩ k1 ?_ h6 ?_, k2⟩
  · show ((symsOf (cutL p.ops w 0)).length : Int) = p.out
    rw [k2, h2]
  · show (cutL p.ops w 0).length ≤ 4096
    omega
theorem opS_wf' {k : Int} {l : List Sym} (hw : ∀ s ∈ l, s.wf) (hk : Mid k) (hl : l.length ≤ 65536) : (opS k l).wf := by
  have hh : (l.headD ⟨false, 0, 0⟩).wf := by
    cases l with
    | nil => exact ⟨by decide, by decide, by decide, by decide⟩
    | cons s l => exact hw s (by simp)
  obtain ⟨a1, a2, a3, a4⟩ := hh
  refine ⟨hk, ?_, ⟨by show _ ≤ (l.length : Int); omega, by show (l.length : Int) ≤ _; omega⟩, ?_, ?_⟩
  · show Mid (if k = 1 ∨ k = 2 then _ else _)
    split
    · exact ⟨a1, a2⟩
    · exact ⟨by decide, by decide⟩
  · show 0 ≤ (if k = 3 then _ else _) ∧ (if k = 3 then _ else _) ≤ 255
    split
    · exact ⟨a3, a4⟩
    · exact ⟨by decide, by decide⟩
  · intro y hy
    change y ∈ (if k = 2 ∨ k = 4 then _ else _) at hy
    split at hy
    · obtain ⟨s, hs, rfl⟩ := List.mem_map.1 hy
      exact ⟨(hw s hs).2.2.1, (hw s hs).2.2.2⟩
    · simp at hy
theorem symsOf_wf1 {p : PatL} (hp : p.wf) (h : (checkP p).2 = 0) : ∀ s ∈ symsOf p.ops, s.wf := by
  have := symsOf_wf hp
  rwa [symbolsP_ok h] at this
theorem cutP_wf {p : PatL} (w : List Int) (hp : p.wf) (h : (checkP p).2 = 0) : (cutP p w).wf := by
  obtain ⟨h1, h2, h3, h4, h5, h6, h7⟩ := checkP_ok h
  have hw := symsOf_wf1 hp h
  obtain ⟨k1, k2, k3⟩ := cutL_spec p.ops w 0 h1
  refine ⟨hp.in_, hp.out, ?_, by show ((cutL p.ops w 0).length : Int) ≤ _; omega⟩
  have key : ∀ (l : List OpL) (i : Nat), (∀ x ∈ l, x ∈ p.ops) → ∀ y ∈ cutL l w i, y.wf := by
    intro l
    induction l with
    | nil => intro i _ y hy; simp [cutL] at hy
    | cons x l ih =>
      intro i hl y hy
      have hx := hl x (by simp)
      have hxs : ∀ s ∈ symsOp x, s.wf := fun s hs => hw s (List.mem_flatMap.2 ⟨x, hx, hs⟩)
      have hb := ops_len_bd _ h1 x hx
      have hsl := symsOp_length x
      have hk := right_kind (h1 x hx).2
      have hkc := cutK_bd (w := w) (i := i) hk
      rw [cutL] at hy
      rcases List.mem_append.1 hy with hy | hy
      · rcases List.mem_append.1 hy with hy | hy
        · unfold cutA at hy
          split at hy
          · simp only [List.mem_singleton] at hy; subst hy
            exact opS_wf' (fun s hs => hxs s (List.mem_of_mem_take hs)) ⟨by omega, by omega⟩ (by rw [List.length_take]; omega)
          · simp at hy
        · simp only [List.mem_singleton] at hy; subst hy
          exact opS_wf' (fun s hs => hxs s (List.mem_of_mem_drop hs)) ⟨by omega, by omega⟩ (by rw [List.length_drop]; omega)
      · exact ih (i + 1) (fun z hz => hl z (by simp [hz])) y hy
  exact key p.ops 0 fun x hx => hx
theorem opRaw_right {q : Q4} {size : Int} (hq : q.wf) (hs : 0 ≤ size) : 1 ≤ (opRaw q size).len ∧ rightP (opRaw q size) size = true := by
  have hl := lenRaw_bd hq hs
  obtain ⟨⟨a0, a1⟩, ⟨b0, b1⟩, ⟨c0, c1⟩, ⟨d0, d1⟩⟩ := hq
  refine ⟨hl.1, ?_⟩
  unfold rightP insideP
  show (if kindRaw q size = 1 then (decide (0 ≤ fromRaw q size) && decide (fromRaw q size ≤ size - lenRaw q size)) && decide (bRaw q size = 0) && decide (((if kindRaw q size = 2 ∨ kindRaw q size = 4 then (List.range (lenRaw q size).toNat).map (datRaw q) else []).length : Int) = 0)
    else if kindRaw q size = 2 then (decide (0 ≤ fromRaw q size) && decide (fromRaw q size ≤ size - lenRaw q size)) && decide (bRaw q size = 0) && decide (((if kindRaw q size = 2 ∨ kindRaw q size = 4 then (List.range (lenRaw q size).toNat).map (datRaw q) else []).length : Int) = lenRaw q size)
    else if kindRaw q size = 3 then decide (fromRaw q size = 0) && decide (((if kindRaw q size = 2 ∨ kindRaw q size = 4 then (List.range (lenRaw q size).toNat).map (datRaw q) else []).length : Int) = 0)
    else if kindRaw q size = 4 then decide (fromRaw q size = 0) && decide (bRaw q size = 0) && decide (((if kindRaw q size = 2 ∨ kindRaw q size = 4 then (List.range (lenRaw q size).toNat).map (datRaw q) else []).length : Int) = lenRaw q size)
    else false) = true
  have hin : 1 + q.a % 4 ≤ 2 ∧ size ≠ 0 → 0 ≤ fromRaw q size ∧ fromRaw q size ≤ size - lenRaw q size := by
    intro h
    unfold fromRaw lenRaw
    rw [if_pos h, if_pos h]
    have e1 := Int.emod_nonneg q.b h.2
    have e2 := Int.emod_lt_of_pos q.b (show 0 < size by omega)
    generalize q.b % size = f at *
    have e3 := Int.emod_nonneg q.c (show size - f ≠ 0 by omega)
    have e4 := Int.emod_lt_of_pos q.c (show 0 < size - f by omega)
    omega
  have hout : ¬ (1 + q.a % 4 ≤ 2 ∧ size ≠ 0) → fromRaw q size = 0 := fun h => by unfold fromRaw; rw [if_neg h]
  have hkr : kindRaw q size = if 1 + q.a % 4 ≤ 2 ∧ size = 0 then 4 else 1 + q.a % 4 := rfl
  have hb : kindRaw q size ≠ 3 → bRaw q size = 0 := fun h => by unfold bRaw; rw [if_neg h]
  have hcase : kindRaw q size = 1 ∧ (1 + q.a % 4 ≤ 2 ∧ size ≠ 0) ∨ kindRaw q size = 2 ∧ (1 + q.a % 4 ≤ 2 ∧ size ≠ 0) ∨ kindRaw q size = 3 ∧ ¬ (1 + q.a % 4 ≤ 2 ∧ size ≠ 0) ∨ kindRaw q size = 4 ∧ ¬ (1 + q.a % 4 ≤ 2 ∧ size ≠ 0) := by
    rw [hkr]; split <;> omega
  rcases hcase with ⟨h, hc⟩ | ⟨h, hc⟩ | ⟨h, hc⟩ | ⟨h, hc⟩
  · have h1 := hin hc; have h2 := hb (by omega)
    simp [h, h1, h2]
  · have h1 := hin hc; have h2 := hb (by omega)
    simp [h, h1, h2]; omega
  · have h1 := hout hc
    simp [h, h1]
  · have h1 := hout hc; have h2 := hb (by omega)
    simp [h, h1, h2]; omega
theorem madeP_ok {l : List Q4} {size : Int} (hq : ∀ q ∈ l, q.wf) (hs : 0 ≤ size ∧ size ≤ 65536) : (checkP (madeP l size)).2 = 0 ∧ (madeP l size).out ≤ 30 ∧ (madeP l size).ops.length ≤ 6 := by
  have ho := madeP_out hq hs.1
  have hr : OpsOk size (opsRaw l size) := fun x hx => by
    obtain ⟨q, hq', rfl⟩ := opsRaw_mem hx
    exact opRaw_right (hq q hq') hs.1
  have hl : (opsRaw l size).length ≤ 6 := by unfold opsRaw; rw [List.length_map, List.length_take]; omega
  refine ⟨checkP_right (p := madeP l size) hs hr ?_ (by omega) (by show (opsRaw l size).length ≤ _; omega), ho.2, hl⟩
  exact symsOf_sum _ fun x hx => by have := (hr x hx).1; omega
theorem sameOps_refl {a : List OpL} {k : Nat} : sameOps a a k = true := by
  unfold sameOps
  rw [List.all_eq_true]
  intro p hp
  obtain ⟨i, hi⟩ := List.mem_iff_getElem?.1 (List.mem_of_mem_drop hp)
  rw [List.getElem?_zip_eq_some] at hi
  have := hi.1.symm.trans hi.2
  exact sameOpS_iff.2 (Option.some.inj this)
theorem samePR_refl (a : PatL) : samePR a a = true := by
  unfold samePR; simp [sameOps_refl]

theorem patchCost_ok (p : PatL) (ad : Option Addr) (m cap : Nat) (w0 : World) (I0 : Imm) (hI : Sat I0 w0) (hops : ROps I0 (.slice ad m cap) p.ops) (hp : p.wf) (hok : (checkP p).2 = 0) :
    Ctr Try.prog 19 [.agg #[.bool p.lifted, .int .i64 p.in_, .int .i64 p.out, .slice ad m cap]] w0 (fun v w' => v = .int .i64 (sumC p.ops) ∧ Ext w0 I0 w' I0) := by
  obtain ⟨h1, h2, h3, h4, h5, h6, h7⟩ := checkP_ok hok
  have hb := ops_len_bd _ h1
  have h := patchCost_c p ad m cap w0 I0 hI hops hp fun x hx => by have := hb x hx; omega
  rw [sumP_eq _ h1] at h
  exact h

end Go.Proofs.Ytaklmbhfmpdinaa

