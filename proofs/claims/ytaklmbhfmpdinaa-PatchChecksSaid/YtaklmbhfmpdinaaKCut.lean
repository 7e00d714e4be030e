/- inlayref08.Op and Cut, patch.Cost: what they compute. Conditions: numbers within bounds. inlaylaw08.NormalCuts: its function answers true; what Cut makes is right and has the same symbols. Conditions: arguments are bytes. -/
import Derived.Test.YtaklmbhfmpdinaaKLaw
namespace Go.Proofs.Ytaklmbhfmpdinaa
open Go Go.RowKit Go.Inl
set_option linter.unusedSimpArgs false
set_option linter.unusedVariables false
/-- patch.Cost. -/
def sumP : List OpL → Int
  | [] => 0
  | x :: l => costP x + sumP l
theorem sumP_eq {n : Int} : ∀ (l : List OpL), OpsOk n l → sumP l = sumC l
  | [], _ => rfl
  | x :: l, h => by
    unfold sumP sumC
    rw [sumP_eq l fun y hy => h y (by simp [hy]), opc_costP (h x (by simp)).2]
theorem m_copying_cost (v : Value) (w : World) : (method (Try.prog.types.size + Made.depth) 105 v "inlay/patch.cost").run Try.prog w = .ok (100, v) w := by kernel_rfl
theorem m_differing_cost (v : Value) (w : World) : (method (Try.prog.types.size + Made.depth) 106 v "inlay/patch.cost").run Try.prog w = .ok (104, v) w := by kernel_rfl
theorem m_running_cost (v : Value) (w : World) : (method (Try.prog.types.size + Made.depth) 107 v "inlay/patch.cost").run Try.prog w = .ok (107, v) w := by kernel_rfl
theorem m_literal_cost (v : Value) (w : World) : (method (Try.prog.types.size + Made.depth) 108 v "inlay/patch.cost").run Try.prog w = .ok (110, v) w := by kernel_rfl
theorem m_unknownOne_cost (v : Value) (w : World) : (method (Try.prog.types.size + Made.depth) 110 v "inlay/patch.cost").run Try.prog w = .ok (113, v) w := by kernel_rfl
theorem does_cost {n : Nat} {σ : Nat → Value} {ty : TypeId} {aT : Array TypeId} {r : Operand} {w : World} {I : Imm} (x : OpL) (ad : Option Addr) (m cap : Nat) (hI : Sat I w) (hd : RBytes I (.slice ad m cap) x.data) (hx : x.wf) (hr : ev n σ r = ofV x (opV x ad m cap)) :
    Does Try.prog (ev n σ) (.call { callee := .invoke r "inlay/patch.cost", args := #[], argTypes := aT }) ty w (fun v w' => v = .int .i64 (costP x) ∧ Ext w I w' I) := by
  unfold ofV at hr
  unfold costP
  by_cases h1 : x.kind = 1
  · rw [if_pos h1] at hr ⊢
    exact d_invoke (l := []) hr (m_copying_cost _) Try.call100 rfl (copying_cost x ad m cap w I hI hd hx)
  rw [if_neg h1] at hr ⊢
  by_cases h2 : x.kind = 2
  · rw [if_pos h2] at hr ⊢
    exact d_invoke (l := []) hr (m_differing_cost _) Try.call104 rfl (differing_cost x ad m cap w I hI hd hx)
  rw [if_neg h2] at hr ⊢
  by_cases h3 : x.kind = 3
  · rw [if_pos h3] at hr ⊢
    exact d_invoke (l := []) hr (m_running_cost _) Try.call107 rfl (running_cost x ad m cap w I hI hd hx)
  rw [if_neg h3] at hr ⊢
  by_cases h4 : x.kind = 4
  · rw [if_pos h4] at hr ⊢
    exact d_invoke (l := []) hr (m_literal_cost _) Try.call110 rfl (literal_cost x ad m cap w I hI hd hx)
  rw [if_neg h4] at hr ⊢
  exact d_invoke (l := []) hr (m_unknownOne_cost _) Try.call113 rfl (unknown_cost w I hI)

theorem patchCost_c (p : PatL) (ad : Option Addr) (m cap : Nat) (w0 : World) (I0 : Imm) (hI : Sat I0 w0) (hops : ROps I0 (.slice ad m cap) p.ops) (hp : p.wf) (hb : ∀ x ∈ p.ops, 0 ≤ x.len ∧ x.len ≤ 65536) :
    Ctr Try.prog 19 [.agg #[.bool p.lifted, .int .i64 p.in_, .int .i64 p.out, .slice ad m cap]] w0 (fun v w' => v = .int .i64 (sumP p.ops) ∧ Ext w0 I0 w' I0) := by
  have hlm := hp.len
  refine fn (n := 20) Try.func19 rfl rfl rfl ?_
  have hS := St.start hI
  refine wpIn_seq ?_
  refine reg ?_
  refine qe (d_box (cs := [.bool _, .int .i64 _, .int .i64 _, .slice _ _ _]) hS rfl) ?_
  clear hS
  rintro _ w_1 ⟨b1, rfl, hS⟩
  refine qq hS (g_assignv (v := .int .i64 _) rfl) ?_
  refine ol_nil (thenN ?_)
  refine wpIn_seq ?_
  refine reg ?_
  refine qq hS (g_assignv (v := .int .i64 _) rfl) ?_
  refine ol_nil (thenN ?_)
  refine wpIn_seq ?_
  refine wpIn_seq ?_
  refine reg ?_
  refine qq hS (g_fieldAddr (o' := 3) Try.underlying24 rfl Try.sizeOf22 rfl rfl rfl) ?_
  refine qq hS (g_ldO1 0 Try.isAgg22 rfl rfl rfl) ?_
  refine qq hS (g_lenI rfl Try.underlying22 hops rfl) ?_
  refine qq hS (g_movev (v := .int .i64 _) rfl) ?_
  refine ol_nil (thenN ?_)
  refine wpIn_block ?_
  refine loop (fun (x : Nat × Int) σ w => okS σ [(3, .int .i64 x.2), (7, .slice ad m cap), (8, .int .i64 p.ops.length), (9, .int .i64 x.1)] ∧ St [] w0 I0 I0 w [] ∧ x.1 ≤ p.ops.length ∧ 0 ≤ x.2 ∧ x.2 ≤ 70000 * (x.1 : Int) ∧ x.2 + sumP (p.ops.drop x.1) = sumP p.ops) (fun x => p.ops.length - x.1) ((0, 0)) ?_ ?_
  ·
    exact ⟨⟨rfl, rfl, rfl, rfl, trivial⟩, hS.sel [false], by simp, by decide, by decide, by simp⟩
  ·
    rintro ⟨k, s⟩ σ w_l ⟨hs, hS, hk0, hl0, hl1, hgo⟩
    dsimp only at hs hS hk0 hl0 hl1 hgo ⊢
    rw [← upds_self hs]; clear hs
    refine wpIn_seq ?_
    refine reg ?_
    refine qq hS (g_lss rfl rfl) ?_
    refine ol_nil (thenN ?_)
    refine wpIn_seq ?_
    refine cond_s rfl ?_ ?_
    ·
      intro hc10
      try simp only [Bool.and_eq_true, Bool.or_eq_true, Bool.not_eq_true', Bool.and_eq_false_imp, Bool.or_eq_false_iff, Bool.not_eq_false', decide_eq_true_eq, decide_eq_false_iff_not] at hc10
      obtain ⟨x, hx⟩ : ∃ x, p.ops[k]? = some x := ⟨_, List.getElem?_eq_getElem (by omega)⟩
      have hxm := List.mem_of_getElem? hx
      obtain ⟨cs, hcl, hoA, hro⟩ := RSl.at hops hx
      obtain ⟨adx, mx, capx, rfl, hd⟩ := hro
      have hxl := hb x hxm
      have hxc : 0 ≤ costP x ∧ costP x ≤ 70000 := by unfold costP; repeat' split
                                                     all_goals omega
      rw [drop_cons hx, sumP] at hgo
      refine wpIn_skip ?_
      refine thenN ?_
      refine wpIn_seq ?_
      refine wpIn_block ?_
      refine wpIn_seq ?_
      refine reg ?_
      refine qq hS (g_ixI Try.underlying22 Try.sizeOf35 hops rfl rfl (by omega) (by omega)) ?_
      refine qq hS (g_ldE (us := [.int .i64 _, .int .i64 _, .int .i64 _, .int .u8 _, .slice _ _ _]) Try.sizeOf35 Try.isAgg35 hoA rfl rfl rfl) ?_
      refine qe (d_alloc (cs := [.int .i64 _, .int .i64 _, .int .i64 _, .int .u8 _, .slice _ _ _]) hS Try.zeroValue35 rfl) ?_
      clear hS
      rintro _ w_2 ⟨b5, rfl, hS⟩
      refine qe (d_store 0 hS Try.sizeOf35 rfl rfl rfl (vs := [.int .i64 _, .int .i64 _, .int .i64 _, .int .u8 _, .slice _ _ _]) rfl rfl rfl (Nat.le_of_ble_eq_true rfl) (cs' := [_, _, _, _, _]) rfl) ?_
      clear hS
      rintro _ w_3 ⟨rfl, hS⟩
      refine ol_nil (thenN ?_)
      refine reg ?_
      refine qq hS (g_movev (v := .int .i64 _) rfl) ?_
      refine qq hS (g_ldO 0 (vs := [.int .i64 _, .int .i64 _, .int .i64 _, .int .u8 _, .slice _ _ _]) Try.sizeOf35 Try.isAgg35 rfl rfl rfl rfl) ?_
      refine qe (d_call Try.call22 rfl (of_c x adx mx capx _ I0 hS.imm hd (hp.ops x hxm))) ?_
      rintro _ w_4 ⟨rfl, hE⟩
      replace hS := hS.callE hE
      refine qe (does_cost x adx mx capx hS.imm hd (hp.ops x hxm) rfl) ?_
      rintro _ w_5 ⟨rfl, hE⟩
      replace hS := hS.callE hE
      refine qq hS (g_add rfl rfl (by omega) (by omega)) ?_
      refine qq hS (g_assignv (v := .int .i64 _) rfl) ?_
      refine ol_nil (blkN (thenN ?_))
      refine reg ?_
      refine qq hS (g_add rfl rfl (by omega) (by omega)) ?_
      refine qq hS (g_movev (v := .int .i64 _) rfl) ?_
      exact ⟨(k + 1, s + costP x), _, rfl, ⟨⟨rfl, rfl, rfl, rfl, trivial⟩, hS.sel [false], by dsimp only; omega, by dsimp only; omega, by dsimp only; omega, by dsimp only; omega⟩, by dsimp only; omega⟩
    ·
      intro hc10
      try simp only [Bool.and_eq_true, Bool.or_eq_true, Bool.not_eq_true', Bool.and_eq_false_imp, Bool.or_eq_false_iff, Bool.not_eq_false', decide_eq_true_eq, decide_eq_false_iff_not] at hc10
      have hk : k = p.ops.length := by omega
      subst hk
      rw [List.drop_length, sumP, Int.add_zero] at hgo
      refine wpIn_exit ?_
      refine thenE (thenE (blkE ?_))
      refine thenN ?_
      refine wpIn_seq ?_
      refine reg ?_
      refine qq hS (g_movev (v := .int .i64 _) rfl) ?_
      refine qq hS (g_assignv (v := .int .i64 _) rfl) ?_
      refine ol_nil (thenN ?_)
      refine wpIn_ret ?_
      refine ret1 Try.results19 (rv_tmp (v := .int .i64 _) rfl) ?_
      rw [← hgo]; exact ⟨rfl, hS.nil⟩

end Go.Proofs.Ytaklmbhfmpdinaa


namespace Go.Proofs.Ytaklmbhfmpdinaa
open Go Go.RowKit Go.Inl
set_option linter.unusedSimpArgs false
set_option linter.unusedVariables false
theorem opRaw_right {q : Q4} {size : Int} (hq : q.wf) (hs : 0 ≤ size) : 1 ≤ (opRaw q size).len ∧ rightP (opRaw q size) size = true := by
  have hl := lenRaw_bd hq hs
  obtain ⟨⟨a0, a1⟩, ⟨b0, b1⟩, ⟨c0, c1⟩, ⟨d0, d1⟩⟩ := hq
  refine ⟨hl.1, ?_⟩
  unfold rightP insideP
  show (if kindRaw q size = 1 then (decide (0 ≤ fromRaw q size) && decide (fromRaw q size ≤ size - lenRaw q size)) && decide (bRaw q size = 0) && decide (((if kindRaw q size = 2 ∨ kindRaw q size = 4 then (List.range (lenRaw q size).toNat).map (datRaw q) else []).length : Int) = 0)
    else if kindRaw q size = 2 then (decide (0 ≤ fromRaw q size) && decide (fromRaw q size ≤ size - lenRaw q size)) && decide (bRaw q size = 0) && decide (((if kindRaw q size = 2 ∨ kindRaw q size = 4 then (List.range (lenRaw q size).toNat).map (datRaw q) else []).length : Int) = lenRaw q size)
    else if kindRaw q size = 3 then decide (fromRaw q size = 0) && decide (((if kindRaw q size = 2 ∨ kindRaw q size = 4 then (List.range (lenRaw q size).toNat).map (datRaw q) else []).length : Int) = 0)
    else if kindRaw q size = 4 then decide (fromRaw q size = 0) && decide (bRaw q size = 0) && decide (((if kindRaw q size = 2 ∨ kindRaw q size = 4 then (List.range (lenRaw q size).toNat).map (datRaw q) else []).length : Int) = lenRaw q size)
    else false) = true
  have hin : 1 + q.a % 4 ≤ 2 ∧ size ≠ 0 → 0 ≤ fromRaw q size ∧ fromRaw q size ≤ size - lenRaw q size := by
    intro h
    unfold fromRaw lenRaw
    rw [if_pos h, if_pos h]
    have e1 := Int.emod_nonneg q.b h.2
    have e2 := Int.emod_lt_of_pos q.b (show 0 < size by omega)
    generalize q.b % size = f at *
    have e3 := Int.emod_nonneg q.c (show size - f ≠ 0 by omega)
    have e4 := Int.emod_lt_of_pos q.c (show 0 < size - f by omega)
    omega
  have hout : ¬ (1 + q.a % 4 ≤ 2 ∧ size ≠ 0) → fromRaw q size = 0 := fun h => by unfold fromRaw; rw [if_neg h]
  have hkr : kindRaw q size = if 1 + q.a % 4 ≤ 2 ∧ size = 0 then 4 else 1 + q.a % 4 := rfl
  have hb : kindRaw q size ≠ 3 → bRaw q size = 0 := fun h => by unfold bRaw; rw [if_neg h]
  have hcase : kindRaw q size = 1 ∧ (1 + q.a % 4 ≤ 2 ∧ size ≠ 0) ∨ kindRaw q size = 2 ∧ (1 + q.a % 4 ≤ 2 ∧ size ≠ 0) ∨ kindRaw q size = 3 ∧ ¬ (1 + q.a % 4 ≤ 2 ∧ size ≠ 0) ∨ kindRaw q size = 4 ∧ ¬ (1 + q.a % 4 ≤ 2 ∧ size ≠ 0) := by
    rw [hkr]; split <;> omega
  rcases hcase with ⟨h, hc⟩ | ⟨h, hc⟩ | ⟨h, hc⟩ | ⟨h, hc⟩
  · have h1 := hin hc; have h2 := hb (by omega)
    simp [h, h1, h2]
  · have h1 := hin hc; have h2 := hb (by omega)
    simp [h, h1, h2]; omega
  · have h1 := hout hc
    simp [h, h1]
  · have h1 := hout hc; have h2 := hb (by omega)
    simp [h, h1, h2]; omega
theorem madeP_ok {l : List Q4} {size : Int} (hq : ∀ q ∈ l, q.wf) (hs : 0 ≤ size ∧ size ≤ 65536) : (checkP (madeP l size)).2 = 0 ∧ (madeP l size).out ≤ 30 ∧ (madeP l size).ops.length ≤ 6 := by
  have ho := madeP_out hq hs.1
  have hr : OpsOk size (opsRaw l size) := fun x hx => by
    obtain ⟨q, hq', rfl⟩ := opsRaw_mem hx
    exact opRaw_right (hq q hq') hs.1
  have hl : (opsRaw l size).length ≤ 6 := by unfold opsRaw; rw [List.length_map, List.length_take]; omega
  refine ⟨checkP_right (p := madeP l size) hs hr ?_ (by omega) (by show (opsRaw l size).length ≤ _; omega), ho.2, hl⟩
  exact symsOf_sum _ fun x hx => by have := (hr x hx).1; omega
theorem patchCost_ok (p : PatL) (ad : Option Addr) (m cap : Nat) (w0 : World) (I0 : Imm) (hI : Sat I0 w0) (hops : ROps I0 (.slice ad m cap) p.ops) (hp : p.wf) (hok : (checkP p).2 = 0) :
    Ctr Try.prog 19 [.agg #[.bool p.lifted, .int .i64 p.in_, .int .i64 p.out, .slice ad m cap]] w0 (fun v w' => v = .int .i64 (sumC p.ops) ∧ Ext w0 I0 w' I0) := by
  obtain ⟨h1, h2, h3, h4, h5, h6, h7⟩ := checkP_ok hok
  have hb := ops_len_bd _ h1
  have h := patchCost_c p ad m cap w0 I0 hI hops hp fun x hx => by have := hb x hx; omega
  rw [sumP_eq _ h1] at h
  exact h

end Go.Proofs.Ytaklmbhfmpdinaa

