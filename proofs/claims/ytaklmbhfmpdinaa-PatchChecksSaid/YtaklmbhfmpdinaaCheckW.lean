/- patch.Check of any patch: what it computes. Conditions: none. -/
import Derived.Test.YtaklmbhfmpdinaaKSmall
import Derived.Test.YtaklmbhfmpdinaaKRef6
namespace Go.Proofs.Ytaklmbhfmpdinaa
open Go Go.RowKit Go.Inl
set_option linter.unusedSimpArgs false
set_option linter.unusedVariables false
/-- The length is known to be small. -/
structure Wk (x : OpL) : Prop where
  l1 : 1 ≤ x.len
  l2 : x.len ≤ 65536
theorem wk_of {x : OpL} {left : Int} (h : (decide (x.len < 1) || decide (left < x.len)) = false) (h1 : left ≤ 65536) : Wk x := by
  rw [Bool.or_eq_false_iff, decide_eq_false_iff_not, decide_eq_false_iff_not] at h
  exact ⟨by omega, by omega⟩
theorem rightR_and (x : OpL) (n : Int) : rightR x n = (inS x.len 1 65536 && rightP x n) := by
  unfold rightR rightP insideP inS
  rfl
theorem check_go (n out : Int) : ∀ (l : List OpL) (left i : Int), 0 ≤ left → left ≤ 65536 → checkGo n l left i = checkRGo n out l (out - left) i
  | [], left, i, h0, h1 => by
    unfold checkGo checkRGo
    by_cases h : 0 < left
    · rw [if_pos h, if_neg (by omega)]
    · rw [if_neg h, if_pos (by omega)]
  | x :: l, left, i, h0, h1 => by
    have hc : (decide (x.len < 1) || decide (left < x.len) || !rightP x n) = (!rightR x n || decide (out < out - left + x.len)) := by
      rw [rightR_and]
      unfold inS
      rw [Bool.eq_iff_iff]
      simp only [Bool.or_eq_true, decide_eq_true_eq, Bool.not_eq_true', Bool.and_eq_false_iff, decide_eq_false_iff_not]
      constructor
      · rintro ((h | h) | h)
        · exact .inl (.inl (.inl (by omega)))
        · exact .inr (by omega)
        · exact .inl (.inr h)
      · rintro (((h | h) | h) | h)
        · exact .inl (.inl (by omega))
        · exact .inl (.inr (by omega))
        · exact .inr h
        · exact .inl (.inr (by omega))
    unfold checkGo checkRGo
    rw [hc]
    by_cases hb : (!rightR x n || decide (out < out - left + x.len)) = true
    · rw [if_pos hb, if_pos hb]
    · rw [if_neg hb, if_neg hb]
      rw [← hc] at hb
      simp only [Bool.or_eq_true, decide_eq_true_eq, not_or] at hb
      rw [check_go n out l (left - x.len) (i + 1) (by omega) (by omega), show out - (left - x.len) = out - left + x.len by omega]
theorem checkR_all (p : PatL) : checkR p = checkP p := by
  have hb : badP p = (!inS p.in_ 0 65536 || !inS p.out 0 65536 || decide (4096 < (p.ops.length : Int))) := by
    unfold badP inS
    rw [Bool.eq_iff_iff]
    simp only [Bool.or_eq_true, decide_eq_true_eq, Bool.not_eq_true', Bool.and_eq_false_iff, decide_eq_false_iff_not]
    constructor
    · rintro ((h | h) | h)
      · split at h
        · exact .inl (.inr (.inl (by omega)))
        · exact .inl (.inl (.inl (by omega)))
      · split at h
        · exact .inl (.inr (.inr (by omega)))
        · exact .inl (.inl (.inr (by omega)))
      · exact .inr h
    · rintro (((h | h) | (h | h)) | h)
      · exact .inl (.inl (by split <;> omega))
      · exact .inl (.inr (by split <;> omega))
      · exact .inl (.inl (by split <;> omega))
      · exact .inl (.inr (by split <;> omega))
      · exact .inr h
  unfold checkR checkP
  rw [← hb]
  by_cases h : badP p = true
  · rw [if_pos h, if_pos h]
  · rw [if_neg h, if_neg h]
    rw [hb] at h
    simp only [inS, Bool.or_eq_true, Bool.not_eq_true', Bool.and_eq_false_iff, decide_eq_true_eq, decide_eq_false_iff_not, not_or] at h
    rw [check_go p.in_ p.out p.ops p.out 0 (by omega) (by omega), Int.sub_self]
theorem g_toW {P : Program} {ρ : Operand → Value} {S : World → Prop} {op : Op} {ty : TypeId} {v v' : Value} (h : Gives P ρ S op ty v) (e : v = v') : Gives P ρ S op ty v' := by subst e; exact h
theorem symsOf_mem_le {l : List OpL} {x : OpL} (h : x ∈ l) : x.len.toNat ≤ (symsOf l).length := by
  induction l with
  | nil => cases h
  | cons y l ih =>
    have e : (symsOf (y :: l)).length = y.len.toNat + (symsOf l).length := by simp [symsOf, symsOp]
    rcases List.mem_cons.1 h with rfl | h
    · omega
    · have := ih h; omega

theorem inside_cw (x : OpL) (ad : Option Addr) (m cap : Nat) (n : Int) (w0 : World) (I0 : Imm) (hI : Sat I0 w0) (hd : RBytes I0 (.slice ad m cap) x.data) (hx : Wk x) (hn : Mid n) :
    Ctr Try.prog 103 [opV x ad m cap, .int .i64 n] w0 (fun v w' => v = .bool (insideP x n) ∧ Ext w0 I0 w' I0) := by
  obtain ⟨l1, l2⟩ := hx
  obtain ⟨n1, n2⟩ := hn
  refine fn (n := 17) Try.func103 rfl rfl rfl ?_
  have hS := St.start hI
  refine wpIn_seq ?_
  refine reg ?_
  refine qe (d_box (cs := [.int .i64 _, .int .i64 _, .int .i64 _, .int .u8 _, .slice _ _ _]) hS rfl) ?_
  clear hS
  rintro _ w_1 ⟨b_1, rfl, hS⟩
  refine qq hS (g_assignv (v := .bool _) rfl) ?_
  refine ol_nil (thenN ?_)
  refine wpIn_seq ?_
  refine reg ?_
  refine qq hS (g_fieldAddr (o' := 1) Try.underlying35 rfl Try.sizeOf3 rfl rfl rfl) ?_
  refine qq hS (g_ldO1 0 Try.isAgg3 rfl rfl rfl) ?_
  refine qq hS (g_geq rfl rfl) ?_
  refine qq hS (g_movev (v := .bool _) rfl) ?_
  refine qu rfl rfl hS (fun hg => (g_fieldAddr (o' := 1) Try.underlying35 rfl Try.sizeOf3 rfl rfl rfl)) ?_
  intro u9 hu9 hn9
  refine qu rfl rfl hS (fun hg => (g_ldO1 0 Try.isAgg3 rfl (hu9 hg) rfl)) ?_
  intro u10 hu10 hn10
  refine qu rfl rfl hS (fun hg => (g_movev (v := .int .i64 _) rfl)) ?_
  intro u11 hu11 hn11
  refine qu rfl rfl hS (fun hg => (g_fieldAddr (o' := 2) Try.underlying35 rfl Try.sizeOf3 rfl rfl rfl)) ?_
  intro u12 hu12 hn12
  refine qu rfl rfl hS (fun hg => (g_ldO1 0 Try.isAgg3 rfl (hu12 hg) rfl)) ?_
  intro u13 hu13 hn13
  refine qu rfl rfl hS (fun hg => (g_sub (hu11 hg) (hu13 hg) (by omega) (by omega))) ?_
  intro u14 hu14 hn14
  refine qu rfl rfl hS (fun hg => (g_leq (hu10 hg) (hu14 hg))) ?_
  intro u15 hu15 hn15
  refine qq hS (g_and rfl rfl (fun hq => hu15 hq)) ?_
  refine qq hS (g_assignv (v := .bool _) rfl) ?_
  refine ol_nil (thenN ?_)
  refine wpIn_ret ?_
  refine ret1 Try.results103 (rv_tmp (v := .bool _) rfl) ?_
  exact ⟨rfl, hS.nil⟩

theorem copying_rightw (x : OpL) (ad : Option Addr) (m cap : Nat) (n : Int) (w0 : World) (I0 : Imm) (hI : Sat I0 w0) (hd : RBytes I0 (.slice ad m cap) x.data) (hx : Wk x) (hn : Mid n) :
    Ctr Try.prog 101 [opV x ad m cap, .int .i64 n] w0 (fun v w' => v = .bool (insideP x n && decide (x.b = 0) && decide ((x.data.length : Int) = 0)) ∧ Ext w0 I0 w' I0) := by
  refine fn (n := 19) Try.func101 rfl rfl rfl ?_
  have hS := St.start hI
  refine wpIn_seq ?_
  refine reg ?_
  refine qe (d_box (cs := [.int .i64 _, .int .i64 _, .int .i64 _, .int .u8 _, .slice _ _ _]) hS rfl) ?_
  clear hS
  rintro _ w_1 ⟨b_1, rfl, hS⟩
  refine qq hS (g_assignv (v := .bool _) rfl) ?_
  refine ol_nil (thenN ?_)
  refine wpIn_seq ?_
  refine reg ?_
  refine qq hS (g_ldO 0 (vs := [.int .i64 _, .int .i64 _, .int .i64 _, .int .u8 _, .slice _ _ _]) Try.sizeOf105 Try.isAgg105 rfl rfl rfl rfl) ?_
  refine qq hS (g_movev (v := .int .i64 _) rfl) ?_
  refine qe (d_call Try.call103 rfl (inside_cw x ad m cap n _ I0 hS.imm hd hx hn)) ?_
  rintro _ w_2 ⟨rfl, hE⟩
  replace hS := hS.callE hE
  refine qq hS (g_movev (v := .bool _) rfl) ?_
  refine qu rfl rfl hS (fun hg => (g_fieldAddr (o' := 3) Try.underlying105 rfl Try.sizeOf5 rfl rfl rfl)) ?_
  intro u9 hu9 hn9
  refine qu rfl rfl hS (fun hg => (g_ldO1 0 Try.isAgg5 rfl (hu9 hg) rfl)) ?_
  intro u10 hu10 hn10
  refine qu rfl rfl hS (fun hg => (g_eql (hu10 hg) rfl)) ?_
  intro u11 hu11 hn11
  refine qq hS (g_and rfl rfl (fun hq => hu11 hq)) ?_
  refine qq hS (g_movev (v := .bool _) rfl) ?_
  refine qu rfl rfl hS (fun hg => (g_fieldAddr (o' := 4) Try.underlying105 rfl Try.sizeOf33 rfl rfl rfl)) ?_
  intro u14 hu14 hn14
  refine qu rfl rfl hS (fun hg => (g_ldO1 0 Try.isAgg33 rfl (hu14 hg) rfl)) ?_
  intro u15 hu15 hn15
  refine qu rfl rfl hS (fun hg => (g_lenI rfl Try.underlying33 hd (hu15 hg))) ?_
  intro u16 hu16 hn16
  refine qu rfl rfl hS (fun hg => (g_eql (hu16 hg) rfl)) ?_
  intro u17 hu17 hn17
  refine qq hS (g_and rfl rfl (fun hq => hu17 hq)) ?_
  refine qq hS (g_assignv (v := .bool _) rfl) ?_
  refine ol_nil (thenN ?_)
  refine wpIn_ret ?_
  refine ret1 Try.results101 (rv_tmp (v := .bool _) rfl) ?_
  exact ⟨rfl, hS.nil⟩

theorem differing_rightw (x : OpL) (ad : Option Addr) (m cap : Nat) (n : Int) (w0 : World) (I0 : Imm) (hI : Sat I0 w0) (hd : RBytes I0 (.slice ad m cap) x.data) (hx : Wk x) (hn : Mid n) :
    Ctr Try.prog 105 [opV x ad m cap, .int .i64 n] w0 (fun v w' => v = .bool (insideP x n && decide (x.b = 0) && decide ((x.data.length : Int) = x.len)) ∧ Ext w0 I0 w' I0) := by
  refine fn (n := 21) Try.func105 rfl rfl rfl ?_
  have hS := St.start hI
  refine wpIn_seq ?_
  refine reg ?_
  refine qe (d_box (cs := [.int .i64 _, .int .i64 _, .int .i64 _, .int .u8 _, .slice _ _ _]) hS rfl) ?_
  clear hS
  rintro _ w_1 ⟨b_1, rfl, hS⟩
  refine qq hS (g_assignv (v := .bool _) rfl) ?_
  refine ol_nil (thenN ?_)
  refine wpIn_seq ?_
  refine reg ?_
  refine qq hS (g_ldO 0 (vs := [.int .i64 _, .int .i64 _, .int .i64 _, .int .u8 _, .slice _ _ _]) Try.sizeOf106 Try.isAgg106 rfl rfl rfl rfl) ?_
  refine qq hS (g_movev (v := .int .i64 _) rfl) ?_
  refine qe (d_call Try.call103 rfl (inside_cw x ad m cap n _ I0 hS.imm hd hx hn)) ?_
  rintro _ w_2 ⟨rfl, hE⟩
  replace hS := hS.callE hE
  refine qq hS (g_movev (v := .bool _) rfl) ?_
  refine qu rfl rfl hS (fun hg => (g_fieldAddr (o' := 3) Try.underlying106 rfl Try.sizeOf5 rfl rfl rfl)) ?_
  intro u9 hu9 hn9
  refine qu rfl rfl hS (fun hg => (g_ldO1 0 Try.isAgg5 rfl (hu9 hg) rfl)) ?_
  intro u10 hu10 hn10
  refine qu rfl rfl hS (fun hg => (g_eql (hu10 hg) rfl)) ?_
  intro u11 hu11 hn11
  refine qq hS (g_and rfl rfl (fun hq => hu11 hq)) ?_
  refine qq hS (g_movev (v := .bool _) rfl) ?_
  refine qu rfl rfl hS (fun hg => (g_fieldAddr (o' := 4) Try.underlying106 rfl Try.sizeOf33 rfl rfl rfl)) ?_
  intro u14 hu14 hn14
  refine qu rfl rfl hS (fun hg => (g_ldO1 0 Try.isAgg33 rfl (hu14 hg) rfl)) ?_
  intro u15 hu15 hn15
  refine qu rfl rfl hS (fun hg => (g_lenI rfl Try.underlying33 hd (hu15 hg))) ?_
  intro u16 hu16 hn16
  refine qu rfl rfl hS (fun hg => (g_fieldAddr (o' := 2) Try.underlying106 rfl Try.sizeOf3 rfl rfl rfl)) ?_
  intro u17 hu17 hn17
  refine qu rfl rfl hS (fun hg => (g_ldO1 0 Try.isAgg3 rfl (hu17 hg) rfl)) ?_
  intro u18 hu18 hn18
  refine qu rfl rfl hS (fun hg => (g_eql (hu16 hg) (hu18 hg))) ?_
  intro u19 hu19 hn19
  refine qq hS (g_and rfl rfl (fun hq => hu19 hq)) ?_
  refine qq hS (g_assignv (v := .bool _) rfl) ?_
  refine ol_nil (thenN ?_)
  refine wpIn_ret ?_
  refine ret1 Try.results105 (rv_tmp (v := .bool _) rfl) ?_
  exact ⟨rfl, hS.nil⟩

theorem running_rightw (x : OpL) (ad : Option Addr) (m cap : Nat) (n : Int) (w0 : World) (I0 : Imm) (hI : Sat I0 w0) (hd : RBytes I0 (.slice ad m cap) x.data) (hx : Wk x) (hn : Mid n) :
    Ctr Try.prog 108 [opV x ad m cap, .int .i64 n] w0 (fun v w' => v = .bool (decide (x.from_ = 0) && decide ((x.data.length : Int) = 0)) ∧ Ext w0 I0 w' I0) := by
  refine fn (n := 14) Try.func108 rfl rfl rfl ?_
  have hS := St.start hI
  refine wpIn_seq ?_
  refine reg ?_
  refine qe (d_box (cs := [.int .i64 _, .int .i64 _, .int .i64 _, .int .u8 _, .slice _ _ _]) hS rfl) ?_
  clear hS
  rintro _ w_1 ⟨b_1, rfl, hS⟩
  refine qq hS (g_assignv (v := .bool _) rfl) ?_
  refine ol_nil (thenN ?_)
  refine wpIn_seq ?_
  refine reg ?_
  refine qq hS (g_fieldAddr (o' := 1) Try.underlying107 rfl Try.sizeOf3 rfl rfl rfl) ?_
  refine qq hS (g_ldO1 0 Try.isAgg3 rfl rfl rfl) ?_
  refine qq hS (g_eql rfl rfl) ?_
  refine qq hS (g_movev (v := .bool _) rfl) ?_
  refine qu rfl rfl hS (fun hg => (g_fieldAddr (o' := 4) Try.underlying107 rfl Try.sizeOf33 rfl rfl rfl)) ?_
  intro u9 hu9 hn9
  refine qu rfl rfl hS (fun hg => (g_ldO1 0 Try.isAgg33 rfl (hu9 hg) rfl)) ?_
  intro u10 hu10 hn10
  refine qu rfl rfl hS (fun hg => (g_lenI rfl Try.underlying33 hd (hu10 hg))) ?_
  intro u11 hu11 hn11
  refine qu rfl rfl hS (fun hg => (g_eql (hu11 hg) rfl)) ?_
  intro u12 hu12 hn12
  refine qq hS (g_and rfl rfl (fun hq => hu12 hq)) ?_
  refine qq hS (g_assignv (v := .bool _) rfl) ?_
  refine ol_nil (thenN ?_)
  refine wpIn_ret ?_
  refine ret1 Try.results108 (rv_tmp (v := .bool _) rfl) ?_
  exact ⟨rfl, hS.nil⟩

theorem literal_rightw (x : OpL) (ad : Option Addr) (m cap : Nat) (n : Int) (w0 : World) (I0 : Imm) (hI : Sat I0 w0) (hd : RBytes I0 (.slice ad m cap) x.data) (hx : Wk x) (hn : Mid n) :
    Ctr Try.prog 111 [opV x ad m cap, .int .i64 n] w0 (fun v w' => v = .bool (decide (x.from_ = 0) && decide (x.b = 0) && decide ((x.data.length : Int) = x.len)) ∧ Ext w0 I0 w' I0) := by
  refine fn (n := 21) Try.func111 rfl rfl rfl ?_
  have hS := St.start hI
  refine wpIn_seq ?_
  refine reg ?_
  refine qe (d_box (cs := [.int .i64 _, .int .i64 _, .int .i64 _, .int .u8 _, .slice _ _ _]) hS rfl) ?_
  clear hS
  rintro _ w_1 ⟨b_1, rfl, hS⟩
  refine qq hS (g_assignv (v := .bool _) rfl) ?_
  refine ol_nil (thenN ?_)
  refine wpIn_seq ?_
  refine reg ?_
  refine qq hS (g_fieldAddr (o' := 1) Try.underlying108 rfl Try.sizeOf3 rfl rfl rfl) ?_
  refine qq hS (g_ldO1 0 Try.isAgg3 rfl rfl rfl) ?_
  refine qq hS (g_eql rfl rfl) ?_
  refine qq hS (g_movev (v := .bool _) rfl) ?_
  refine qu rfl rfl hS (fun hg => (g_fieldAddr (o' := 3) Try.underlying108 rfl Try.sizeOf5 rfl rfl rfl)) ?_
  intro u9 hu9 hn9
  refine qu rfl rfl hS (fun hg => (g_ldO1 0 Try.isAgg5 rfl (hu9 hg) rfl)) ?_
  intro u10 hu10 hn10
  refine qu rfl rfl hS (fun hg => (g_eql (hu10 hg) rfl)) ?_
  intro u11 hu11 hn11
  refine qq hS (g_and rfl rfl (fun hq => hu11 hq)) ?_
  refine qq hS (g_movev (v := .bool _) rfl) ?_
  refine qu rfl rfl hS (fun hg => (g_fieldAddr (o' := 4) Try.underlying108 rfl Try.sizeOf33 rfl rfl rfl)) ?_
  intro u14 hu14 hn14
  refine qu rfl rfl hS (fun hg => (g_ldO1 0 Try.isAgg33 rfl (hu14 hg) rfl)) ?_
  intro u15 hu15 hn15
  refine qu rfl rfl hS (fun hg => (g_lenI rfl Try.underlying33 hd (hu15 hg))) ?_
  intro u16 hu16 hn16
  refine qu rfl rfl hS (fun hg => (g_fieldAddr (o' := 2) Try.underlying108 rfl Try.sizeOf3 rfl rfl rfl)) ?_
  intro u17 hu17 hn17
  refine qu rfl rfl hS (fun hg => (g_ldO1 0 Try.isAgg3 rfl (hu17 hg) rfl)) ?_
  intro u18 hu18 hn18
  refine qu rfl rfl hS (fun hg => (g_eql (hu16 hg) (hu18 hg))) ?_
  intro u19 hu19 hn19
  refine qq hS (g_and rfl rfl (fun hq => hu19 hq)) ?_
  refine qq hS (g_assignv (v := .bool _) rfl) ?_
  refine ol_nil (thenN ?_)
  refine wpIn_ret ?_
  refine ret1 Try.results111 (rv_tmp (v := .bool _) rfl) ?_
  exact ⟨rfl, hS.nil⟩

theorem of_cw (x : OpL) (ad : Option Addr) (m cap : Nat) (w0 : World) (I0 : Imm) (hI : Sat I0 w0) (hd : RBytes I0 (.slice ad m cap) x.data) (hx : Wk x) :
    Ctr Try.prog 22 [opV x ad m cap] w0 (fun v w' => v = ofV x (opV x ad m cap) ∧ Ext w0 I0 w' I0) := by
  refine fn (n := 23) Try.func22 rfl rfl rfl ?_
  have hS := St.start hI
  refine wpIn_seq ?_
  refine reg ?_
  refine qe (d_box (cs := [.int .i64 _, .int .i64 _, .int .i64 _, .int .u8 _, .slice _ _ _]) hS rfl) ?_
  clear hS
  rintro _ w_1 ⟨b_1, rfl, hS⟩
  refine qq hS (g_assign _) ?_
  refine ol_nil (thenN ?_)
  refine wpIn_seq ?_
  refine wpIn_seq ?_
  refine reg ?_
  refine qq hS (g_fieldAddr (o' := 0) Try.underlying35 rfl Try.sizeOf3 rfl rfl rfl) ?_
  refine qq hS (g_ldO1 0 Try.isAgg3 rfl rfl rfl) ?_
  refine ol_nil (thenN ?_)
  refine wpIn_block ?_
  refine wpIn_seq ?_
  refine reg ?_
  refine qq hS (g_eql rfl rfl) ?_
  refine qq hS (g_assignv (v := .bool _) rfl) ?_
  refine ol_nil (thenN ?_)
  refine cond_s rfl ?_ ?_
  ·
    intro hc5
    simp only [decide_eq_true_eq, decide_eq_false_iff_not] at hc5
    refine wpIn_seq ?_
    refine reg ?_
    refine qq hS (g_ldO 0 (vs := [.int .i64 _, .int .i64 _, .int .i64 _, .int .u8 _, .slice _ _ _]) Try.sizeOf35 Try.isAgg35 rfl rfl rfl rfl) ?_
    refine qq hS (g_makeIface Try.underlying105 rfl) ?_
    refine qq hS (g_assign _) ?_
    refine ol_nil (thenN ?_)
    refine wpIn_ret ?_
    refine blkR (thenR ?_)
    refine ret1 Try.results22 (rv_tmp rfl) ?_
    refine ⟨?_, hS.nil⟩; unfold ofV; first | (rw [if_pos hc5]; rfl) | (rw [if_neg hc5, if_pos hc9]; rfl) | (rw [if_neg hc5, if_neg hc9, if_pos hc13]; rfl) | (rw [if_neg hc5, if_neg hc9, if_neg hc13, if_pos hc17]; rfl) | (rw [if_neg hc5, if_neg hc9, if_neg hc13, if_neg hc17]; rfl)
  ·
    intro hc5
    simp only [decide_eq_true_eq, decide_eq_false_iff_not] at hc5
    refine wpIn_seq ?_
    refine reg ?_
    refine qq hS (g_eql rfl rfl) ?_
    refine qq hS (g_assignv (v := .bool _) rfl) ?_
    refine ol_nil (thenN ?_)
    refine cond_s rfl ?_ ?_
    ·
      intro hc9
      simp only [decide_eq_true_eq, decide_eq_false_iff_not] at hc9
      refine wpIn_seq ?_
      refine reg ?_
      refine qq hS (g_ldO 0 (vs := [.int .i64 _, .int .i64 _, .int .i64 _, .int .u8 _, .slice _ _ _]) Try.sizeOf35 Try.isAgg35 rfl rfl rfl rfl) ?_
      refine qq hS (g_makeIface Try.underlying106 rfl) ?_
      refine qq hS (g_assign _) ?_
      refine ol_nil (thenN ?_)
      refine wpIn_ret ?_
      refine blkR (thenR ?_)
      refine ret1 Try.results22 (rv_tmp rfl) ?_
      refine ⟨?_, hS.nil⟩; unfold ofV; first | (rw [if_pos hc5]; rfl) | (rw [if_neg hc5, if_pos hc9]; rfl) | (rw [if_neg hc5, if_neg hc9, if_pos hc13]; rfl) | (rw [if_neg hc5, if_neg hc9, if_neg hc13, if_pos hc17]; rfl) | (rw [if_neg hc5, if_neg hc9, if_neg hc13, if_neg hc17]; rfl)
    ·
      intro hc9
      simp only [decide_eq_true_eq, decide_eq_false_iff_not] at hc9
      refine wpIn_seq ?_
      refine reg ?_
      refine qq hS (g_eql rfl rfl) ?_
      refine qq hS (g_assignv (v := .bool _) rfl) ?_
      refine ol_nil (thenN ?_)
      refine cond_s rfl ?_ ?_
      ·
        intro hc13
        simp only [decide_eq_true_eq, decide_eq_false_iff_not] at hc13
        refine wpIn_seq ?_
        refine reg ?_
        refine qq hS (g_ldO 0 (vs := [.int .i64 _, .int .i64 _, .int .i64 _, .int .u8 _, .slice _ _ _]) Try.sizeOf35 Try.isAgg35 rfl rfl rfl rfl) ?_
        refine qq hS (g_makeIface Try.underlying107 rfl) ?_
        refine qq hS (g_assign _) ?_
        refine ol_nil (thenN ?_)
        refine wpIn_ret ?_
        refine blkR (thenR ?_)
        refine ret1 Try.results22 (rv_tmp rfl) ?_
        refine ⟨?_, hS.nil⟩; unfold ofV; first | (rw [if_pos hc5]; rfl) | (rw [if_neg hc5, if_pos hc9]; rfl) | (rw [if_neg hc5, if_neg hc9, if_pos hc13]; rfl) | (rw [if_neg hc5, if_neg hc9, if_neg hc13, if_pos hc17]; rfl) | (rw [if_neg hc5, if_neg hc9, if_neg hc13, if_neg hc17]; rfl)
      ·
        intro hc13
        simp only [decide_eq_true_eq, decide_eq_false_iff_not] at hc13
        refine wpIn_seq ?_
        refine reg ?_
        refine qq hS (g_eql rfl rfl) ?_
        refine qq hS (g_assignv (v := .bool _) rfl) ?_
        refine ol_nil (thenN ?_)
        refine cond_s rfl ?_ ?_
        ·
          intro hc17
          simp only [decide_eq_true_eq, decide_eq_false_iff_not] at hc17
          refine wpIn_seq ?_
          refine reg ?_
          refine qq hS (g_ldO 0 (vs := [.int .i64 _, .int .i64 _, .int .i64 _, .int .u8 _, .slice _ _ _]) Try.sizeOf35 Try.isAgg35 rfl rfl rfl rfl) ?_
          refine qq hS (g_makeIface Try.underlying108 rfl) ?_
          refine qq hS (g_assign _) ?_
          refine ol_nil (thenN ?_)
          refine wpIn_ret ?_
          refine blkR (thenR ?_)
          refine ret1 Try.results22 (rv_tmp rfl) ?_
          refine ⟨?_, hS.nil⟩; unfold ofV; first | (rw [if_pos hc5]; rfl) | (rw [if_neg hc5, if_pos hc9]; rfl) | (rw [if_neg hc5, if_neg hc9, if_pos hc13]; rfl) | (rw [if_neg hc5, if_neg hc9, if_neg hc13, if_pos hc17]; rfl) | (rw [if_neg hc5, if_neg hc9, if_neg hc13, if_neg hc17]; rfl)
        ·
          intro hc17
          simp only [decide_eq_true_eq, decide_eq_false_iff_not] at hc17
          refine wpIn_skip ?_
          refine blkN (thenN ?_)
          refine wpIn_seq ?_
          refine reg ?_
          refine qq hS (g_buildv (pl := []) (cs := []) Try.zeroValue110 Try.underlying110 (fun w => by simp []) mp0 rfl) ?_
          refine qq hS (g_makeIface Try.underlying110 rfl) ?_
          refine qq hS (g_assign _) ?_
          refine ol_nil (thenN ?_)
          refine wpIn_ret ?_
          refine ret1 Try.results22 (rv_tmp rfl) ?_
          refine ⟨?_, hS.nil⟩; unfold ofV; first | (rw [if_pos hc5]; rfl) | (rw [if_neg hc5, if_pos hc9]; rfl) | (rw [if_neg hc5, if_neg hc9, if_pos hc13]; rfl) | (rw [if_neg hc5, if_neg hc9, if_neg hc13, if_pos hc17]; rfl) | (rw [if_neg hc5, if_neg hc9, if_neg hc13, if_neg hc17]; rfl)

theorem does_rightw {n : Nat} {σ : Nat → Value} {ty : TypeId} {aT : Array TypeId} {r y : Operand} {w : World} {I : Imm} (x : OpL) (ad : Option Addr) (m cap : Nat) (size : Int) (hI : Sat I w) (hd : RBytes I (.slice ad m cap) x.data) (hx : Wk x) (hn : Mid size) (hr : ev n σ r = ofV x (opV x ad m cap)) (hy : ev n σ y = .int .i64 size) :
    Does Try.prog (ev n σ) (.call { callee := .invoke r "inlay/patch.right", args := [y].toArray, argTypes := aT }) ty w (fun v w' => v = .bool (rightP x size) ∧ Ext w I w' I) := by
  unfold ofV at hr
  unfold rightP
  have ha : List.map (ev n σ) [y] = [.int .i64 size] := ml hy ml0
  by_cases h1 : x.kind = 1
  · rw [if_pos h1] at hr ⊢
    exact d_invoke hr (m_copying_right _) Try.call101 ha (copying_rightw x ad m cap size w I hI hd hx hn)
  rw [if_neg h1] at hr ⊢
  by_cases h2 : x.kind = 2
  · rw [if_pos h2] at hr ⊢
    exact d_invoke hr (m_differing_right _) Try.call105 ha (differing_rightw x ad m cap size w I hI hd hx hn)
  rw [if_neg h2] at hr ⊢
  by_cases h3 : x.kind = 3
  · rw [if_pos h3] at hr ⊢
    exact d_invoke hr (m_running_right _) Try.call108 ha (running_rightw x ad m cap size w I hI hd hx hn)
  rw [if_neg h3] at hr ⊢
  by_cases h4 : x.kind = 4
  · rw [if_pos h4] at hr ⊢
    exact d_invoke hr (m_literal_right _) Try.call111 ha (literal_rightw x ad m cap size w I hI hd hx hn)
  rw [if_neg h4] at hr ⊢
  exact d_invoke hr (m_unknownOne_right _) Try.call114 ha (unknown_right size w I hI)


set_option maxHeartbeats 1000000 in
theorem check_w (p : PatL) (ad : Option Addr) (m cap : Nat) (w0 : World) (I0 : Imm) (hI : Sat I0 w0) (hops : ROps I0 (.slice ad m cap) p.ops) :
    Ctr Try.prog 7 [.agg #[.bool p.lifted, .int .i64 p.in_, .int .i64 p.out, .slice ad m cap]] w0 (fun v w' => v = .tuple #[.int .i64 (checkP p).1, .int .i64 (checkP p).2] ∧ Ext w0 I0 w' I0) := by
  have hol := RSl.le hops
  simp only [maxLen] at hol
  refine fn (n := 68) Try.func7 rfl rfl rfl ?_
  have hS := St.start hI
  refine wpIn_seq ?_
  refine reg ?_
  refine qe (d_box (cs := [.bool _, .int .i64 _, .int .i64 _, .slice _ _ _]) hS rfl) ?_
  clear hS
  rintro _ w_1 ⟨b1, rfl, hS⟩
  refine qq hS (g_assignv (v := .int .i64 _) rfl) ?_
  refine qq hS (g_assignv (v := .int .i64 _) rfl) ?_
  refine ol_nil (thenN ?_)
  refine wpIn_seq ?_
  refine wpIn_seq ?_
  refine reg ?_
  refine qq hS (g_fieldAddr (o' := 1) Try.underlying24 rfl Try.sizeOf3 rfl rfl rfl) ?_
  refine qq hS (g_ldO1 0 Try.isAgg3 rfl rfl rfl) ?_
  refine qq hS (g_fieldAddr (o' := 2) Try.underlying24 rfl Try.sizeOf3 rfl rfl rfl) ?_
  refine qq hS (g_ldO1 0 Try.isAgg3 rfl rfl rfl) ?_
  refine qq hS (g_min rfl rfl) ?_
  refine qq hS (g_lss rfl rfl) ?_
  refine qq hS (g_movev (v := .bool _) rfl) ?_
  refine qu rfl rfl hS (fun hg => (g_fieldAddr (o' := 1) Try.underlying24 rfl Try.sizeOf3 rfl rfl rfl)) ?_
  intro u14 hu14 hn14
  refine qu rfl rfl hS (fun hg => (g_ldO1 0 Try.isAgg3 rfl (hu14 hg) rfl)) ?_
  intro u15 hu15 hn15
  refine qu rfl rfl hS (fun hg => (g_fieldAddr (o' := 2) Try.underlying24 rfl Try.sizeOf3 rfl rfl rfl)) ?_
  intro u16 hu16 hn16
  refine qu rfl rfl hS (fun hg => (g_ldO1 0 Try.isAgg3 rfl (hu16 hg) rfl)) ?_
  intro u17 hu17 hn17
  refine qu rfl rfl hS (fun hg => (g_max (hu15 hg) (hu17 hg))) ?_
  intro u18 hu18 hn18
  refine qu rfl rfl hS (fun hg => (g_gtr (hu18 hg) rfl)) ?_
  intro u19 hu19 hn19
  refine qq hS (g_or rfl rfl (fun hq => hu19 hq)) ?_
  refine qq hS (g_movev (v := .bool _) rfl) ?_
  refine qu rfl rfl hS (fun hg => (g_fieldAddr (o' := 3) Try.underlying24 rfl Try.sizeOf22 rfl rfl rfl)) ?_
  intro u22 hu22 hn22
  refine qu rfl rfl hS (fun hg => (g_ldO1 0 Try.isAgg22 rfl (hu22 hg) rfl)) ?_
  intro u23 hu23 hn23
  refine qu rfl rfl hS (fun hg => (g_lenI rfl Try.underlying22 hops (hu23 hg))) ?_
  intro u24 hu24 hn24
  refine qu rfl rfl hS (fun hg => (g_gtr (hu24 hg) rfl)) ?_
  intro u25 hu25 hn25
  refine qq hS (g_or rfl rfl (fun hq => hu25 hq)) ?_
  refine ol_nil (thenN ?_)
  refine cond_s rfl ?_ ?_
  ·
    intro hc26
    clear hu14 hn14 hu15 hn15 hu16 hn16 hu17 hn17 hu18 hn18 hu19 hn19 hu22 hn22 hu23 hn23 hu24 hn24 hu25 hn25
    have e : checkP p = (-1, 60) := by unfold checkP; rw [if_pos]; exact hc26
    refine wpIn_seq ?_
    refine reg ?_
    refine qq hS (g_assignv (v := .int .i64 _) rfl) ?_
    refine qq hS (g_assignv (v := .int .i64 _) rfl) ?_
    refine ol_nil (thenN ?_)
    refine wpIn_ret ?_
    refine thenR ?_
    refine ret2 Try.results7 (rv_tmp (v := .int .i64 _) rfl) (rv_tmp (v := .int .i64 _) rfl) ?_
    rw [e]; exact ⟨rfl, hS.nil⟩
  ·
    intro hc26
    clear hu14 hn14 hu15 hn15 hu16 hn16 hu17 hn17 hu18 hn18 hu19 hn19 hu22 hn22 hu23 hn23 hu24 hn24 hu25 hn25
    have hbad : badP p = false := hc26
    have e0 : checkP p = checkGo p.in_ p.ops p.out 0 := by unfold checkP; rw [if_neg (by rw [hbad]; decide)]
    have hb := hbad
    simp only [badP, Bool.or_eq_false_iff, decide_eq_false_iff_not] at hb
    obtain ⟨⟨hb1, hb2⟩, hb3⟩ := hb
    have hb4 : 0 ≤ p.in_ ∧ 0 ≤ p.out ∧ p.in_ ≤ 65536 ∧ p.out ≤ 65536 := by split at hb1 <;> split at hb2 <;> omega
    obtain ⟨hb5, hb6, hb7, hb8⟩ := hb4
    refine wpIn_skip ?_
    refine thenN ?_
    refine wpIn_seq ?_
    refine reg ?_
    refine qq hS (g_fieldAddr (o' := 2) Try.underlying24 rfl Try.sizeOf3 rfl rfl rfl) ?_
    refine qq hS (g_ldO1 0 Try.isAgg3 rfl rfl rfl) ?_
    refine qq hS (g_assignv (v := .int .i64 _) rfl) ?_
    refine ol_nil (thenN ?_)
    refine wpIn_seq ?_
    refine wpIn_seq ?_
    refine reg ?_
    refine qq hS (g_fieldAddr (o' := 3) Try.underlying24 rfl Try.sizeOf22 rfl rfl rfl) ?_
    refine qq hS (g_ldO1 0 Try.isAgg22 rfl rfl rfl) ?_
    refine qq hS (g_lenI rfl Try.underlying22 hops rfl) ?_
    refine qq hS (g_movev (v := .int .i64 _) rfl) ?_
    refine ol_nil (thenN ?_)
    refine wpIn_block ?_
    refine loop (fun (x : Nat × Int) σ w => okS σ [(1, .pointer (some ⟨b1, 0, none⟩)), (4, .int .i64 x.2), (30, .slice ad m cap), (31, .int .i64 p.ops.length), (32, .int .i64 x.1)] ∧ St [] w0 I0 I0 w [.cel b1 24 [.bool p.lifted, .int .i64 p.in_, .int .i64 p.out, .slice ad m cap]] ∧ x.1 ≤ p.ops.length ∧ 0 ≤ x.2 ∧ x.2 ≤ 65536 ∧ checkGo p.in_ (p.ops.drop x.1) x.2 x.1 = checkGo p.in_ p.ops p.out 0) (fun x => p.ops.length - x.1) ((0, p.out)) ?_ ?_
    ·
      exact ⟨⟨rfl, rfl, rfl, rfl, rfl, trivial⟩, hS.sel [true], by simp, hb6, hb8, rfl⟩
    ·
      rintro ⟨k, left⟩ σ w_l ⟨hs, hS, hk0, hl0, hl1, hgo⟩
      dsimp only at hs hS hk0 hl0 hl1 hgo ⊢
      rw [← upds_self hs]; clear hs
      refine wpIn_seq ?_
      refine reg ?_
      refine qq hS (g_lss rfl rfl) ?_
      refine ol_nil (thenN ?_)
      refine wpIn_seq ?_
      refine cond_s rfl ?_ ?_
      ·
        intro hc33
        try simp only [Bool.and_eq_true, Bool.or_eq_true, Bool.not_eq_true', Bool.and_eq_false_imp, Bool.or_eq_false_iff, Bool.not_eq_false', decide_eq_true_eq, decide_eq_false_iff_not] at hc33
        obtain ⟨x, hx⟩ : ∃ x, p.ops[k]? = some x := ⟨_, List.getElem?_eq_getElem (by omega)⟩
        obtain ⟨cs, hcl, hoA, hro⟩ := RSl.at hops hx
        obtain ⟨adx, mx, capx, rfl, hd⟩ := hro
        rw [drop_cons hx] at hgo
        refine wpIn_skip ?_
        refine thenN ?_
        refine wpIn_seq ?_
        refine wpIn_block ?_
        refine wpIn_seq ?_
        refine reg ?_
        refine qq hS (g_movev (v := .int .i64 _) rfl) ?_
        refine qq hS (g_ixI Try.underlying22 Try.sizeOf35 hops rfl rfl (by omega) (by omega)) ?_
        refine qq hS (g_ldE (us := [.int .i64 _, .int .i64 _, .int .i64 _, .int .u8 _, .slice _ _ _]) Try.sizeOf35 Try.isAgg35 hoA rfl rfl rfl) ?_
        refine qe (d_alloc (cs := [.int .i64 _, .int .i64 _, .int .i64 _, .int .u8 _, .slice _ _ _]) hS Try.zeroValue35 rfl) ?_
        clear hS
        rintro _ w_2 ⟨b_2, rfl, hS⟩
        refine qq hS (g_assignv (v := .int .i64 _) rfl) ?_
        refine qe (d_store 0 hS Try.sizeOf35 rfl rfl rfl (vs := [.int .i64 _, .int .i64 _, .int .i64 _, .int .u8 _, .slice _ _ _]) rfl rfl rfl (Nat.le_of_ble_eq_true rfl) (cs' := [_, _, _, _, _]) rfl) ?_
        clear hS
        rintro _ w_3 ⟨rfl, hS⟩
        refine ol_nil (thenN ?_)
        refine wpIn_seq ?_
        refine wpIn_seq ?_
        refine draw (.cons 0 .pure (.cons 1 .held (.cons 2 .pure (.cons 3 .pure (.cons 4 .pure (.cons 5 .held (.cons 6 .pure (.cons 7 .pure (.cons 8 .pure (.cons 9 .pure (.cons 10 .held (.cons 12 .pure (.cons 13 .held (.cons 11 .eff (.cons 14 .eff (.cons 15 .pure (.cons 16 .pure .nil))))))))))))))))) mixed (by kernel_rfl) hS ?_
        intro w_4 hS
        refine sp rfl (g_fieldAddr (o' := 2) Try.underlying35 rfl Try.sizeOf3 rfl rfl rfl) ?_
        refine sh rfl (g_ldO1 0 Try.isAgg3 rfl rfl rfl) ?_
        refine sp rfl (g_lss rfl rfl) ?_
        refine sp rfl (g_movev (v := .bool _) rfl) ?_
        refine spu rfl rfl rfl (fun hg => (g_fieldAddr (o' := 2) Try.underlying35 rfl Try.sizeOf3 rfl rfl rfl)) ?_
        intro u41 hu41 hn41
        refine shu rfl rfl rfl (fun hg => (g_ldO1 0 Try.isAgg3 rfl (hu41 hg) rfl)) ?_
        intro u42 hu42 hn42
        refine spu rfl rfl rfl (fun hg => (g_movev (v := .int .i64 _) rfl)) ?_
        intro u43 hu43 hn43
        refine spu rfl rfl rfl (fun hg => (g_gtr (hu42 hg) (hu43 hg))) ?_
        intro u44 hu44 hn44
        refine sp rfl (g_or rfl rfl (fun hq => hu44 hq)) ?_
        refine sp rfl (g_movev (v := .bool _) rfl) ?_
        refine shu rfl rfl rfl (fun hg => (g_ldO 0 (vs := [.int .i64 _, .int .i64 _, .int .i64 _, .int .u8 _, .slice _ _ _]) Try.sizeOf35 Try.isAgg35 rfl rfl rfl rfl)) ?_
        intro u47 hu47 hn47
        refine spu rfl rfl rfl (fun hg => (g_fieldAddr (o' := 1) Try.underlying24 rfl Try.sizeOf3 rfl rfl rfl)) ?_
        intro u49 hu49 hn49
        refine shu rfl rfl rfl (fun hg => (g_ldO1 1 Try.isAgg3 rfl (hu49 hg) rfl)) ?_
        intro u50 hu50 hn50
        refine scu rfl rfl rfl hS (fun hg => (d_call Try.call22 (ml (hu47 hg) ml0) (of_cw x adx mx capx _ I0 hS.imm hd (wk_of hg hl1)))) ?_
        intro w_6 u48 hS hu48 hn48
        refine scu rfl rfl rfl hS (fun hg => (does_rightw x adx mx capx p.in_ hS.imm hd (wk_of hg hl1) ⟨by omega, by omega⟩ (hu48 hg) (hu50 hg))) ?_
        intro w_8 u51 hS hu51 hn51
        refine spu rfl rfl rfl (fun hg => (g_not (hu51 hg))) ?_
        intro u52 hu52 hn52
        refine sp rfl (g_or rfl rfl (fun hq => hu52 hq)) ?_
        refine sn (thenN ?_)
        refine cond_s rfl ?_ ?_
        ·
          intro hc53
          clear hu41 hn41 hu42 hn42 hu43 hn43 hu44 hn44 hu47 hn47 hu49 hn49 hu50 hn50 hu48 hn48 hu51 hn51 hu52 hn52
          have e : checkP p = (↑k, 60) := by rw [e0, ← hgo, checkGo_bad hc53]
          refine wpIn_seq ?_
          refine reg ?_
          refine qq hS (g_movev (v := .int .i64 _) rfl) ?_
          refine qq hS (g_assignv (v := .int .i64 _) rfl) ?_
          refine qq hS (g_assignv (v := .int .i64 _) rfl) ?_
          refine ol_nil (thenN ?_)
          refine wpIn_ret ?_
          refine thenR (blkR (thenR (thenR (blkR (thenR ?_)))))
          refine ret2 Try.results7 (rv_tmp (v := .int .i64 _) rfl) (rv_tmp (v := .int .i64 _) rfl) ?_
          rw [e]; exact ⟨rfl, hS.nil⟩
        ·
          intro hc53
          clear hu41 hn41 hu42 hn42 hu43 hn43 hu44 hn44 hu47 hn47 hu49 hn49 hu50 hn50 hu48 hn48 hu51 hn51 hu52 hn52
          rw [checkGo_good hc53] at hgo
          simp only [Bool.or_eq_false_iff, decide_eq_false_iff_not] at hc53
          obtain ⟨⟨hc1, hc2⟩, hc3⟩ := hc53
          refine wpIn_skip ?_
          refine thenN ?_
          refine reg ?_
          refine qq hS (g_movev (v := .int .i64 _) rfl) ?_
          refine qq hS (g_fieldAddr (o' := 2) Try.underlying35 rfl Try.sizeOf3 rfl rfl rfl) ?_
          refine qq hS (g_ldO1 0 Try.isAgg3 rfl rfl rfl) ?_
          refine qq hS (g_sub rfl rfl (by omega) (by omega)) ?_
          refine qq hS (g_assignv (v := .int .i64 _) rfl) ?_
          refine ol_nil (blkN (thenN ?_))
          refine reg ?_
          refine qq hS (g_add rfl rfl (by omega) (by omega)) ?_
          refine qq hS (g_movev (v := .int .i64 _) rfl) ?_
          exact ⟨(k + 1, left - x.len), _, rfl, ⟨⟨rfl, rfl, rfl, rfl, rfl, trivial⟩, hS.sel [false, true], by dsimp only; omega, by dsimp only; omega, by dsimp only; omega, hgo⟩, by dsimp only; omega⟩
      ·
        intro hc33
        try simp only [Bool.and_eq_true, Bool.or_eq_true, Bool.not_eq_true', Bool.and_eq_false_imp, Bool.or_eq_false_iff, Bool.not_eq_false', decide_eq_true_eq, decide_eq_false_iff_not] at hc33
        have hk : k = p.ops.length := by omega
        subst hk
        rw [List.drop_length] at hgo
        refine wpIn_exit ?_
        refine thenE (thenE (blkE ?_))
        refine thenN ?_
        refine wpIn_seq ?_
        refine wpIn_seq ?_
        refine reg ?_
        refine qq hS (g_movev (v := .int .i64 _) rfl) ?_
        refine qq hS (g_gtr rfl rfl) ?_
        refine ol_nil (thenN ?_)
        refine cond_s rfl ?_ ?_
        ·
          intro hc61
          try simp only [Bool.and_eq_true, Bool.or_eq_true, Bool.not_eq_true', Bool.and_eq_false_imp, Bool.or_eq_false_iff, Bool.not_eq_false', decide_eq_true_eq, decide_eq_false_iff_not] at hc61
          have e : checkP p = (↑p.ops.length, 60) := by rw [e0, ← hgo, checkGo, if_pos hc61]
          refine wpIn_seq ?_
          refine reg ?_
          refine qq hS (g_fieldAddr (o' := 3) Try.underlying24 rfl Try.sizeOf22 rfl rfl rfl) ?_
          refine qq hS (g_ldO1 0 Try.isAgg22 rfl rfl rfl) ?_
          refine qq hS (g_lenI rfl Try.underlying22 hops rfl) ?_
          refine qq hS (g_assignv (v := .int .i64 _) rfl) ?_
          refine qq hS (g_assignv (v := .int .i64 _) rfl) ?_
          refine ol_nil (thenN ?_)
          refine wpIn_ret ?_
          refine thenR ?_
          refine ret2 Try.results7 (rv_tmp (v := .int .i64 _) rfl) (rv_tmp (v := .int .i64 _) rfl) ?_
          rw [e]; exact ⟨rfl, hS.nil⟩
        ·
          intro hc61
          try simp only [Bool.and_eq_true, Bool.or_eq_true, Bool.not_eq_true', Bool.and_eq_false_imp, Bool.or_eq_false_iff, Bool.not_eq_false', decide_eq_true_eq, decide_eq_false_iff_not] at hc61
          have e : checkP p = (↑p.ops.length, 0) := by rw [e0, ← hgo, checkGo, if_neg hc61]
          refine wpIn_skip ?_
          refine thenN ?_
          refine wpIn_seq ?_
          refine reg ?_
          refine qq hS (g_fieldAddr (o' := 3) Try.underlying24 rfl Try.sizeOf22 rfl rfl rfl) ?_
          refine qq hS (g_ldO1 0 Try.isAgg22 rfl rfl rfl) ?_
          refine qq hS (g_lenI rfl Try.underlying22 hops rfl) ?_
          refine qq hS (g_assignv (v := .int .i64 _) rfl) ?_
          refine qq hS (g_assignv (v := .int .i64 _) rfl) ?_
          refine ol_nil (thenN ?_)
          refine wpIn_ret ?_
          refine ret2 Try.results7 (rv_tmp (v := .int .i64 _) rfl) (rv_tmp (v := .int .i64 _) rfl) ?_
          rw [e]; exact ⟨rfl, hS.nil⟩

theorem rightOp_w (x : OpL) (ad : Option Addr) (m cap : Nat) (n : Int) (w0 : World) (I0 : Imm) (hI : Sat I0 w0) (hd : RBytes I0 (.slice ad m cap) x.data) (hn : Mid n) :
    Ctr Try.prog 24 [opV x ad m cap, .int .i64 n] w0 (fun v w' => v = .bool (rightR x n) ∧ Ext w0 I0 w' I0) := by
  obtain ⟨n1, n2⟩ := hn
  refine fn (n := 78) Try.func24 rfl rfl rfl ?_
  have hS := St.start hI
  refine wpIn_seq ?_
  refine reg ?_
  refine qe (d_box (cs := [.int .i64 _, .int .i64 _, .int .i64 _, .int .u8 _, .slice _ _ _]) hS rfl) ?_
  clear hS
  rintro _ w_1 ⟨b_1, rfl, hS⟩
  refine qq hS (g_assignv (v := .bool _) rfl) ?_
  refine ol_nil (thenN ?_)
  refine wpIn_seq ?_
  refine wpIn_seq ?_
  refine reg ?_
  refine qq hS (g_fieldAddr (o' := 2) Try.underlying35 rfl Try.sizeOf3 rfl rfl rfl) ?_
  refine qq hS (g_ldO1 0 Try.isAgg3 rfl rfl rfl) ?_
  refine qe (d_call Try.call23 rfl (in_c _ _ _ _ I0 hS.imm)) ?_
  rintro _ w_2 ⟨rfl, hE⟩
  replace hS := hS.callE hE
  refine qq hS (g_not rfl) ?_
  refine ol_nil (thenN ?_)
  refine cond_s rfl ?_ ?_
  ·
    intro hc9
    simp only [Bool.not_eq_true', Bool.not_eq_false'] at hc9
    have e := rightR_f (n := n) hc9
    refine wpIn_seq ?_
    refine reg ?_
    refine qq hS (g_assignv (v := .bool _) rfl) ?_
    refine ol_nil (thenN ?_)
    refine wpIn_ret ?_
    refine thenR ?_
    refine ret1 Try.results24 (rv_tmp (v := .bool _) rfl) ?_
    rw [e]; exact ⟨rfl, hS.nil⟩
  ·
    intro hc9
    simp only [Bool.not_eq_true', Bool.not_eq_false'] at hc9
    have hl9 : 1 ≤ x.len ∧ x.len ≤ 65536 := by
      have h := hc9
      unfold inS at h
      simpa using h
    refine wpIn_skip ?_
    refine thenN ?_
    refine wpIn_seq ?_
    refine reg ?_
    refine qq hS (g_fieldAddr (o' := 1) Try.underlying35 rfl Try.sizeOf3 rfl rfl rfl) ?_
    refine qq hS (g_ldO1 0 Try.isAgg3 rfl rfl rfl) ?_
    refine qq hS (g_movev (v := .int .i64 _) rfl) ?_
    refine qq hS (g_fieldAddr (o' := 2) Try.underlying35 rfl Try.sizeOf3 rfl rfl rfl) ?_
    refine qq hS (g_ldO1 0 Try.isAgg3 rfl rfl rfl) ?_
    refine qq hS (g_sub rfl rfl (by omega) (by omega)) ?_
    refine qe (d_call Try.call23 rfl (in_c _ _ _ _ I0 hS.imm)) ?_
    rintro _ w_3 ⟨rfl, hE⟩
    replace hS := hS.callE hE
    refine qq hS (g_assignv (v := .bool _) rfl) ?_
    refine ol_nil (thenN ?_)
    refine wpIn_seq ?_
    refine wpIn_seq ?_
    refine reg ?_
    refine qq hS (g_fieldAddr (o' := 0) Try.underlying35 rfl Try.sizeOf3 rfl rfl rfl) ?_
    refine qq hS (g_ldO1 0 Try.isAgg3 rfl rfl rfl) ?_
    refine ol_nil (thenN ?_)
    refine wpIn_block ?_
    refine wpIn_seq ?_
    refine reg ?_
    refine qq hS (g_eql rfl rfl) ?_
    refine qq hS (g_assignv (v := .bool _) rfl) ?_
    refine ol_nil (thenN ?_)
    refine cond_s rfl ?_ ?_
    ·
      intro hc19
      simp only [decide_eq_true_eq, decide_eq_false_iff_not] at hc19
      have e := rightR_1 (n := n) hc9 hc19
      refine wpIn_seq ?_
      refine reg ?_
      refine qq hS (g_movev (v := .bool _) rfl) ?_
      refine qq hS (g_movev (v := .bool _) rfl) ?_
      refine qu rfl rfl hS (fun hg => (g_fieldAddr (o' := 3) Try.underlying35 rfl Try.sizeOf5 rfl rfl rfl)) ?_
      intro u23 hu23 hn23
      refine qu rfl rfl hS (fun hg => (g_ldO1 0 Try.isAgg5 rfl (hu23 hg) rfl)) ?_
      intro u24 hu24 hn24
      refine qu rfl rfl hS (fun hg => (g_eql (hu24 hg) rfl)) ?_
      intro u25 hu25 hn25
      refine qq hS (g_and rfl rfl (fun hq => hu25 hq)) ?_
      refine qq hS (g_movev (v := .bool _) rfl) ?_
      refine qu rfl rfl hS (fun hg => (g_fieldAddr (o' := 4) Try.underlying35 rfl Try.sizeOf33 rfl rfl rfl)) ?_
      intro u28 hu28 hn28
      refine qu rfl rfl hS (fun hg => (g_ldO1 0 Try.isAgg33 rfl (hu28 hg) rfl)) ?_
      intro u29 hu29 hn29
      refine qu rfl rfl hS (fun hg => (g_lenI rfl Try.underlying33 hd (hu29 hg))) ?_
      intro u30 hu30 hn30
      refine qu rfl rfl hS (fun hg => (g_eql (hu30 hg) rfl)) ?_
      intro u31 hu31 hn31
      refine qq hS (g_and rfl rfl (fun hq => hu31 hq)) ?_
      refine qq hS (g_assignv (v := .bool _) rfl) ?_
      refine ol_nil (thenN ?_)
      refine wpIn_ret ?_
      refine blkR (thenR ?_)
      refine ret1 Try.results24 (rv_tmp (v := .bool _) rfl) ?_
      rw [e]; exact ⟨rfl, hS.nil⟩
    ·
      intro hc19
      simp only [decide_eq_true_eq, decide_eq_false_iff_not] at hc19
      refine wpIn_seq ?_
      refine reg ?_
      refine qq hS (g_eql rfl rfl) ?_
      refine qq hS (g_assignv (v := .bool _) rfl) ?_
      refine ol_nil (thenN ?_)
      refine cond_s rfl ?_ ?_
      ·
        intro hc33
        simp only [decide_eq_true_eq, decide_eq_false_iff_not] at hc33
        have e := rightR_2 (n := n) hc9 hc33
        refine wpIn_seq ?_
        refine reg ?_
        refine qq hS (g_movev (v := .bool _) rfl) ?_
        refine qq hS (g_movev (v := .bool _) rfl) ?_
        refine qu rfl rfl hS (fun hg => (g_fieldAddr (o' := 3) Try.underlying35 rfl Try.sizeOf5 rfl rfl rfl)) ?_
        intro u37 hu37 hn37
        refine qu rfl rfl hS (fun hg => (g_ldO1 0 Try.isAgg5 rfl (hu37 hg) rfl)) ?_
        intro u38 hu38 hn38
        refine qu rfl rfl hS (fun hg => (g_eql (hu38 hg) rfl)) ?_
        intro u39 hu39 hn39
        refine qq hS (g_and rfl rfl (fun hq => hu39 hq)) ?_
        refine qq hS (g_movev (v := .bool _) rfl) ?_
        refine qu rfl rfl hS (fun hg => (g_fieldAddr (o' := 4) Try.underlying35 rfl Try.sizeOf33 rfl rfl rfl)) ?_
        intro u42 hu42 hn42
        refine qu rfl rfl hS (fun hg => (g_ldO1 0 Try.isAgg33 rfl (hu42 hg) rfl)) ?_
        intro u43 hu43 hn43
        refine qu rfl rfl hS (fun hg => (g_lenI rfl Try.underlying33 hd (hu43 hg))) ?_
        intro u44 hu44 hn44
        refine qu rfl rfl hS (fun hg => (g_fieldAddr (o' := 2) Try.underlying35 rfl Try.sizeOf3 rfl rfl rfl)) ?_
        intro u45 hu45 hn45
        refine qu rfl rfl hS (fun hg => (g_ldO1 0 Try.isAgg3 rfl (hu45 hg) rfl)) ?_
        intro u46 hu46 hn46
        refine qu rfl rfl hS (fun hg => (g_eql (hu44 hg) (hu46 hg))) ?_
        intro u47 hu47 hn47
        refine qq hS (g_and rfl rfl (fun hq => hu47 hq)) ?_
        refine qq hS (g_assignv (v := .bool _) rfl) ?_
        refine ol_nil (thenN ?_)
        refine wpIn_ret ?_
        refine blkR (thenR ?_)
        refine ret1 Try.results24 (rv_tmp (v := .bool _) rfl) ?_
        rw [e]; exact ⟨rfl, hS.nil⟩
      ·
        intro hc33
        simp only [decide_eq_true_eq, decide_eq_false_iff_not] at hc33
        refine wpIn_seq ?_
        refine reg ?_
        refine qq hS (g_eql rfl rfl) ?_
        refine qq hS (g_assignv (v := .bool _) rfl) ?_
        refine ol_nil (thenN ?_)
        refine cond_s rfl ?_ ?_
        ·
          intro hc49
          simp only [decide_eq_true_eq, decide_eq_false_iff_not] at hc49
          have e := rightR_3 (n := n) hc9 hc49
          refine wpIn_seq ?_
          refine reg ?_
          refine qq hS (g_fieldAddr (o' := 1) Try.underlying35 rfl Try.sizeOf3 rfl rfl rfl) ?_
          refine qq hS (g_ldO1 0 Try.isAgg3 rfl rfl rfl) ?_
          refine qq hS (g_eql rfl rfl) ?_
          refine qq hS (g_movev (v := .bool _) rfl) ?_
          refine qu rfl rfl hS (fun hg => (g_fieldAddr (o' := 4) Try.underlying35 rfl Try.sizeOf33 rfl rfl rfl)) ?_
          intro u55 hu55 hn55
          refine qu rfl rfl hS (fun hg => (g_ldO1 0 Try.isAgg33 rfl (hu55 hg) rfl)) ?_
          intro u56 hu56 hn56
          refine qu rfl rfl hS (fun hg => (g_lenI rfl Try.underlying33 hd (hu56 hg))) ?_
          intro u57 hu57 hn57
          refine qu rfl rfl hS (fun hg => (g_eql (hu57 hg) rfl)) ?_
          intro u58 hu58 hn58
          refine qq hS (g_and rfl rfl (fun hq => hu58 hq)) ?_
          refine qq hS (g_assignv (v := .bool _) rfl) ?_
          refine ol_nil (thenN ?_)
          refine wpIn_ret ?_
          refine blkR (thenR ?_)
          refine ret1 Try.results24 (rv_tmp (v := .bool _) rfl) ?_
          rw [e]; exact ⟨rfl, hS.nil⟩
        ·
          intro hc49
          simp only [decide_eq_true_eq, decide_eq_false_iff_not] at hc49
          refine wpIn_seq ?_
          refine reg ?_
          refine qq hS (g_eql rfl rfl) ?_
          refine qq hS (g_assignv (v := .bool _) rfl) ?_
          refine ol_nil (thenN ?_)
          refine cond_s rfl ?_ ?_
          ·
            intro hc60
            simp only [decide_eq_true_eq, decide_eq_false_iff_not] at hc60
            have e := rightR_4 (n := n) hc9 hc60
            refine wpIn_seq ?_
            refine reg ?_
            refine qq hS (g_fieldAddr (o' := 1) Try.underlying35 rfl Try.sizeOf3 rfl rfl rfl) ?_
            refine qq hS (g_ldO1 0 Try.isAgg3 rfl rfl rfl) ?_
            refine qq hS (g_eql rfl rfl) ?_
            refine qq hS (g_movev (v := .bool _) rfl) ?_
            refine qu rfl rfl hS (fun hg => (g_fieldAddr (o' := 3) Try.underlying35 rfl Try.sizeOf5 rfl rfl rfl)) ?_
            intro u66 hu66 hn66
            refine qu rfl rfl hS (fun hg => (g_ldO1 0 Try.isAgg5 rfl (hu66 hg) rfl)) ?_
            intro u67 hu67 hn67
            refine qu rfl rfl hS (fun hg => (g_eql (hu67 hg) rfl)) ?_
            intro u68 hu68 hn68
            refine qq hS (g_and rfl rfl (fun hq => hu68 hq)) ?_
            refine qq hS (g_movev (v := .bool _) rfl) ?_
            refine qu rfl rfl hS (fun hg => (g_fieldAddr (o' := 4) Try.underlying35 rfl Try.sizeOf33 rfl rfl rfl)) ?_
            intro u71 hu71 hn71
            refine qu rfl rfl hS (fun hg => (g_ldO1 0 Try.isAgg33 rfl (hu71 hg) rfl)) ?_
            intro u72 hu72 hn72
            refine qu rfl rfl hS (fun hg => (g_lenI rfl Try.underlying33 hd (hu72 hg))) ?_
            intro u73 hu73 hn73
            refine qu rfl rfl hS (fun hg => (g_fieldAddr (o' := 2) Try.underlying35 rfl Try.sizeOf3 rfl rfl rfl)) ?_
            intro u74 hu74 hn74
            refine qu rfl rfl hS (fun hg => (g_ldO1 0 Try.isAgg3 rfl (hu74 hg) rfl)) ?_
            intro u75 hu75 hn75
            refine qu rfl rfl hS (fun hg => (g_eql (hu73 hg) (hu75 hg))) ?_
            intro u76 hu76 hn76
            refine qq hS (g_and rfl rfl (fun hq => hu76 hq)) ?_
            refine qq hS (g_assignv (v := .bool _) rfl) ?_
            refine ol_nil (thenN ?_)
            refine wpIn_ret ?_
            refine blkR (thenR ?_)
            refine ret1 Try.results24 (rv_tmp (v := .bool _) rfl) ?_
            rw [e]; exact ⟨rfl, hS.nil⟩
          ·
            intro hc60
            simp only [decide_eq_true_eq, decide_eq_false_iff_not] at hc60
            have e := rightR_o (n := n) hc19 hc33 hc49 hc60
            refine wpIn_skip ?_
            refine blkN (thenN ?_)
            refine wpIn_seq ?_
            refine reg ?_
            refine qq hS (g_assignv (v := .bool _) rfl) ?_
            refine ol_nil (thenN ?_)
            refine wpIn_ret ?_
            refine ret1 Try.results24 (rv_tmp (v := .bool _) rfl) ?_
            rw [e]; exact ⟨rfl, hS.nil⟩

set_option maxHeartbeats 1000000 in
theorem checkR_w (p : PatL) (ad : Option Addr) (m cap : Nat) (w0 : World) (I0 : Imm) (hI : Sat I0 w0) (hops : ROps I0 (.slice ad m cap) p.ops) :
    Ctr Try.prog 8 [.agg #[.bool p.lifted, .int .i64 p.in_, .int .i64 p.out, .slice ad m cap]] w0 (fun v w' => v = .tuple #[.int .i64 (checkR p).1, .int .i64 (checkR p).2] ∧ Ext w0 I0 w' I0) := by
  have hol := RSl.le hops
  simp only [maxLen] at hol
  refine fn (n := 70) Try.func8 rfl rfl rfl ?_
  have hS := St.start hI
  refine wpIn_seq ?_
  refine reg ?_
  refine qe (d_box (cs := [.bool _, .int .i64 _, .int .i64 _, .slice _ _ _]) hS rfl) ?_
  clear hS
  rintro _ w_1 ⟨b1, rfl, hS⟩
  refine qq hS (g_assignv (v := .int .i64 _) rfl) ?_
  refine qq hS (g_assignv (v := .int .i64 _) rfl) ?_
  refine ol_nil (thenN ?_)
  refine wpIn_seq ?_
  refine wpIn_seq ?_
  refine reg ?_
  refine qq hS (g_fieldAddr (o' := 1) Try.underlying24 rfl Try.sizeOf3 rfl rfl rfl) ?_
  refine qq hS (g_ldO1 0 Try.isAgg3 rfl rfl rfl) ?_
  refine qe (d_call Try.call23 rfl (in_c _ _ _ _ I0 hS.imm)) ?_
  rintro _ w_2 ⟨rfl, hE⟩
  replace hS := hS.callE hE
  refine qq hS (g_not rfl) ?_
  refine qq hS (g_movev (v := .bool _) rfl) ?_
  refine qu rfl rfl hS (fun hg => (g_fieldAddr (o' := 2) Try.underlying24 rfl Try.sizeOf3 rfl rfl rfl)) ?_
  intro u11 hu11 hn11
  refine qu rfl rfl hS (fun hg => (g_ldO1 0 Try.isAgg3 rfl (hu11 hg) rfl)) ?_
  intro u12 hu12 hn12
  refine cvu rfl rfl hS (fun hg => (d_call Try.call23 (ml (hu12 hg) (ml rfl (ml rfl ml0))) (in_c _ _ _ _ I0 hS.imm))) ?_
  intro w_4 u13 hS hu13 hn13
  refine qu rfl rfl hS (fun hg => (g_not (hu13 hg))) ?_
  intro u14 hu14 hn14
  refine qq hS (g_or rfl rfl (fun hq => hu14 hq)) ?_
  refine qq hS (g_movev (v := .bool _) rfl) ?_
  refine qu rfl rfl hS (fun hg => (g_fieldAddr (o' := 3) Try.underlying24 rfl Try.sizeOf22 rfl rfl rfl)) ?_
  intro u17 hu17 hn17
  refine qu rfl rfl hS (fun hg => (g_ldO1 0 Try.isAgg22 rfl (hu17 hg) rfl)) ?_
  intro u18 hu18 hn18
  refine qu rfl rfl hS (fun hg => (g_lenI rfl Try.underlying22 hops (hu18 hg))) ?_
  intro u19 hu19 hn19
  refine qu rfl rfl hS (fun hg => (g_gtr (hu19 hg) rfl)) ?_
  intro u20 hu20 hn20
  refine qq hS (g_or rfl rfl (fun hq => hu20 hq)) ?_
  refine ol_nil (thenN ?_)
  refine cond_s rfl ?_ ?_
  ·
    intro hc21
    clear hu11 hn11 hu12 hn12 hu13 hn13 hu14 hn14 hu17 hn17 hu18 hn18 hu19 hn19 hu20 hn20
    have e : checkR p = (-1, 60) := by unfold checkR; rw [if_pos]; exact hc21
    refine wpIn_seq ?_
    refine reg ?_
    refine qq hS (g_assignv (v := .int .i64 _) rfl) ?_
    refine qq hS (g_assignv (v := .int .i64 _) rfl) ?_
    refine ol_nil (thenN ?_)
    refine wpIn_ret ?_
    refine thenR ?_
    refine ret2 Try.results8 (rv_tmp (v := .int .i64 _) rfl) (rv_tmp (v := .int .i64 _) rfl) ?_
    rw [e]; exact ⟨rfl, hS.nil⟩
  ·
    intro hc21
    clear hu11 hn11 hu12 hn12 hu13 hn13 hu14 hn14 hu17 hn17 hu18 hn18 hu19 hn19 hu20 hn20
    have e0 : checkR p = checkRGo p.in_ p.out p.ops 0 0 := by unfold checkR; rw [if_neg]; rw [Bool.not_eq_true]; exact hc21
    have hb := hc21
    simp only [Bool.or_eq_false_iff, Bool.not_eq_false', inS, Bool.and_eq_true, decide_eq_true_eq, decide_eq_false_iff_not] at hb
    obtain ⟨⟨⟨hb1, hb2⟩, hb3, hb4⟩, hb5⟩ := hb
    refine wpIn_skip ?_
    refine thenN ?_
    refine wpIn_seq ?_
    refine reg ?_
    refine qq hS (g_assignv (v := .int .i64 _) rfl) ?_
    refine ol_nil (thenN ?_)
    refine wpIn_seq ?_
    refine wpIn_seq ?_
    refine reg ?_
    refine qq hS (g_assignv (v := .int .i64 _) rfl) ?_
    refine ol_nil (thenN ?_)
    refine wpIn_block ?_
    refine loop (fun (x : Nat × Int) σ w => okS σ [(1, .pointer (some ⟨b1, 0, none⟩)), (4, .int .i64 x.2), (5, .int .i64 x.1)] ∧ St [] w0 I0 I0 w [.cel b1 24 [.bool p.lifted, .int .i64 p.in_, .int .i64 p.out, .slice ad m cap]] ∧ x.1 ≤ p.ops.length ∧ 0 ≤ x.2 ∧ x.2 ≤ 65536 ∧ checkRGo p.in_ p.out (p.ops.drop x.1) x.2 x.1 = checkRGo p.in_ p.out p.ops 0 0) (fun x => p.ops.length - x.1) ((0, 0)) ?_ ?_
    ·
      exact ⟨⟨rfl, rfl, rfl, trivial⟩, hS.sel [true], by simp, by decide, by decide, rfl⟩
    ·
      rintro ⟨k, s⟩ σ w_l ⟨hs, hS, hk0, hl0, hl1, hgo⟩
      dsimp only at hs hS hk0 hl0 hl1 hgo ⊢
      rw [← upds_self hs]; clear hs
      have hml := RSl.le hops
      simp only [maxLen] at hml
      refine wpIn_seq ?_
      refine wpIn_seq ?_
      refine reg ?_
      refine qq hS (g_movev (v := .int .i64 _) rfl) ?_
      refine qq hS (g_fieldAddr (o' := 3) Try.underlying24 rfl Try.sizeOf22 rfl rfl rfl) ?_
      refine qq hS (g_ldO1 0 Try.isAgg22 rfl rfl rfl) ?_
      refine qq hS (g_lenI rfl Try.underlying22 hops rfl) ?_
      refine qq hS (g_lss rfl rfl) ?_
      refine ol_nil (thenN ?_)
      refine cond_s rfl ?_ ?_
      ·
        intro hc26
        try simp only [Bool.and_eq_true, Bool.or_eq_true, Bool.not_eq_true', Bool.and_eq_false_imp, Bool.or_eq_false_iff, Bool.not_eq_false', decide_eq_true_eq, decide_eq_false_iff_not] at hc26
        obtain ⟨x, hx⟩ : ∃ x, p.ops[k]? = some x := ⟨_, List.getElem?_eq_getElem (by omega)⟩
        have hxm := List.mem_of_getElem? hx
        obtain ⟨cs, hcl, hoA, hro⟩ := RSl.at hops hx
        obtain ⟨adx, mx, capx, rfl, hd⟩ := hro
        rw [drop_cons hx] at hgo
        refine wpIn_skip ?_
        refine thenN ?_
        refine wpIn_seq ?_
        refine wpIn_block ?_
        refine wpIn_seq ?_
        refine wpIn_seq ?_
        refine draw (.cons 0 .pure (.cons 1 .held (.cons 2 .pure (.cons 3 .pure (.cons 4 .held (.cons 5 .pure (.cons 6 .held (.cons 7 .eff (.cons 8 .pure (.cons 9 .pure (.cons 10 .pure (.cons 11 .pure (.cons 12 .held (.cons 13 .pure (.cons 14 .pure (.cons 15 .pure (.cons 16 .held (.cons 17 .pure (.cons 18 .pure (.cons 19 .held (.cons 20 .pure (.cons 21 .pure .nil)))))))))))))))))))))) mixed (by kernel_rfl) hS ?_
        intro w_5 hS
        refine sp rfl (g_fieldAddr (o' := 3) Try.underlying24 rfl Try.sizeOf22 rfl rfl rfl) ?_
        refine sh rfl (g_ldO1 0 Try.isAgg22 rfl rfl rfl) ?_
        refine sp rfl (g_movev (v := .int .i64 _) rfl) ?_
        refine sp rfl (g_ixI Try.underlying22 Try.sizeOf35 hops rfl rfl (by omega) (by omega)) ?_
        refine sh rfl (g_ldE (us := [.int .i64 _, .int .i64 _, .int .i64 _, .int .u8 _, .slice _ _ _]) Try.sizeOf35 Try.isAgg35 hoA rfl rfl rfl) ?_
        refine sp rfl (g_fieldAddr (o' := 1) Try.underlying24 rfl Try.sizeOf3 rfl rfl rfl) ?_
        refine sh rfl (g_ldO1 0 Try.isAgg3 rfl rfl rfl) ?_
        have hS0 := hS
        refine se rfl (d_call Try.call24 rfl (rightOp_w x adx mx capx p.in_ _ I0 hS.imm hd ⟨by omega, by omega⟩)) ?_
        rintro _ w_6 ⟨rfl, hE⟩
        replace hS := hS.call hE
        refine ⟨_, _, hS0.le hE.ext (List.Sublist.refl _), hS, ?_⟩
        refine sp rfl (g_not rfl) ?_
        refine sp rfl (g_movev (v := .bool _) rfl) ?_
        refine spu rfl rfl rfl (fun hg => (g_movev (v := .int .i64 _) rfl)) ?_
        intro u39 hu39 hn39
        refine spu rfl rfl rfl (fun hg => (g_fieldAddr (o' := 3) Try.underlying24 rfl Try.sizeOf22 rfl rfl rfl)) ?_
        intro u40 hu40 hn40
        refine shu rfl rfl rfl (fun hg => (g_ldO1 0 Try.isAgg22 rfl (hu40 hg) rfl)) ?_
        intro u41 hu41 hn41
        refine spu rfl rfl rfl (fun hg => (g_movev (v := .int .i64 _) rfl)) ?_
        intro u42 hu42 hn42
        refine spu rfl rfl rfl (fun hg => (g_ixI Try.underlying22 Try.sizeOf35 hops (hu41 hg) (hu42 hg) (by omega) (by omega))) ?_
        intro u43 hu43 hn43
        refine spu rfl rfl rfl (fun hg => (g_fieldE (c' := 2) Try.underlying35 rfl Try.sizeOf3 rfl (hu43 hg) rfl)) ?_
        intro u44 hu44 hn44
        refine shu rfl rfl rfl (fun hg => (g_ldE1 Try.isAgg3 hoA (hu44 hg) rfl)) ?_
        intro u45 hu45 hn45
        refine spu rfl rfl rfl (fun hg => (g_add (hu39 hg) (hu45 hg) (by have h9 := rightR_len (x := x) (n := p.in_) (by simpa using hg); omega) (by have h9 := rightR_len (x := x) (n := p.in_) (by simpa using hg); omega))) ?_
        intro u46 hu46 hn46
        refine spu rfl rfl rfl (fun hg => (g_fieldAddr (o' := 2) Try.underlying24 rfl Try.sizeOf3 rfl rfl rfl)) ?_
        intro u47 hu47 hn47
        refine shu rfl rfl rfl (fun hg => (g_ldO1 0 Try.isAgg3 rfl (hu47 hg) rfl)) ?_
        intro u48 hu48 hn48
        refine spu rfl rfl rfl (fun hg => (g_gtr (hu46 hg) (hu48 hg))) ?_
        intro u49 hu49 hn49
        refine sp rfl (g_or rfl rfl (fun hq => hu49 hq)) ?_
        refine sn (thenN ?_)
        refine cond_s rfl ?_ ?_
        ·
          intro hc50
          clear hu39 hn39 hu40 hn40 hu41 hn41 hu42 hn42 hu43 hn43 hu44 hn44 hu45 hn45 hu46 hn46 hu47 hn47 hu48 hn48 hu49 hn49
          have e : checkR p = (↑k, 60) := by rw [e0, ← hgo, checkRGo_bad hc50]
          refine wpIn_seq ?_
          refine reg ?_
          refine qq hS (g_movev (v := .int .i64 _) rfl) ?_
          refine qq hS (g_assignv (v := .int .i64 _) rfl) ?_
          refine qq hS (g_assignv (v := .int .i64 _) rfl) ?_
          refine ol_nil (thenN ?_)
          refine wpIn_ret ?_
          refine thenR (blkR (thenR (thenR (blkR (thenR ?_)))))
          refine ret2 Try.results8 (rv_tmp (v := .int .i64 _) rfl) (rv_tmp (v := .int .i64 _) rfl) ?_
          rw [e]; exact ⟨rfl, hS.nil⟩
        ·
          intro hc50
          clear hu39 hn39 hu40 hn40 hu41 hn41 hu42 hn42 hu43 hn43 hu44 hn44 hu45 hn45 hu46 hn46 hu47 hn47 hu48 hn48 hu49 hn49
          rw [checkRGo_good hc50] at hgo
          simp only [Bool.or_eq_false_iff, decide_eq_false_iff_not, Bool.not_eq_false'] at hc50
          have hxl := rightR_len hc50.1
          have hxo := hc50.2
          refine wpIn_skip ?_
          refine thenN ?_
          refine reg ?_
          refine qq hS (g_movev (v := .int .i64 _) rfl) ?_
          refine qq hS (g_fieldAddr (o' := 3) Try.underlying24 rfl Try.sizeOf22 rfl rfl rfl) ?_
          refine qq hS (g_ldO1 0 Try.isAgg22 rfl rfl rfl) ?_
          refine qq hS (g_movev (v := .int .i64 _) rfl) ?_
          refine qq hS (g_ixI Try.underlying22 Try.sizeOf35 hops rfl rfl (by omega) (by omega)) ?_
          refine qq hS (g_fieldE (c' := 2) Try.underlying35 rfl Try.sizeOf3 rfl rfl rfl) ?_
          refine qq hS (g_ldE1 Try.isAgg3 hoA rfl rfl) ?_
          refine qq hS (g_add rfl rfl (by omega) (by omega)) ?_
          refine qq hS (g_assignv (v := .int .i64 _) rfl) ?_
          refine ol_nil (blkN (thenN ?_))
          refine reg ?_
          refine qq hS (g_movev (v := .int .i64 _) rfl) ?_
          refine qq hS (g_add rfl rfl (by omega) (by omega)) ?_
          refine qq hS (g_assignv (v := .int .i64 _) rfl) ?_
          exact ⟨(k + 1, s + x.len), _, rfl, ⟨⟨rfl, rfl, rfl, trivial⟩, hS.sel [true], by dsimp only; omega, by dsimp only; omega, by dsimp only; omega, hgo⟩, by dsimp only; omega⟩
      ·
        intro hc26
        try simp only [Bool.and_eq_true, Bool.or_eq_true, Bool.not_eq_true', Bool.and_eq_false_imp, Bool.or_eq_false_iff, Bool.not_eq_false', decide_eq_true_eq, decide_eq_false_iff_not] at hc26
        have hk : k = p.ops.length := by omega
        subst hk
        rw [List.drop_length] at hgo
        refine wpIn_exit ?_
        refine thenE (thenE (blkE ?_))
        refine thenN ?_
        refine wpIn_seq ?_
        refine wpIn_seq ?_
        refine reg ?_
        refine qq hS (g_movev (v := .int .i64 _) rfl) ?_
        refine qq hS (g_fieldAddr (o' := 2) Try.underlying24 rfl Try.sizeOf3 rfl rfl rfl) ?_
        refine qq hS (g_ldO1 0 Try.isAgg3 rfl rfl rfl) ?_
        refine qq hS (g_neq rfl rfl) ?_
        refine ol_nil (thenN ?_)
        refine cond_s rfl ?_ ?_
        ·
          intro hc63
          simp only [Bool.not_eq_true', Bool.not_eq_false', decide_eq_true_eq, decide_eq_false_iff_not] at hc63
          have e : checkR p = (↑p.ops.length, 60) := by rw [e0, ← hgo, checkRGo, if_neg hc63]
          refine wpIn_seq ?_
          refine reg ?_
          refine qq hS (g_fieldAddr (o' := 3) Try.underlying24 rfl Try.sizeOf22 rfl rfl rfl) ?_
          refine qq hS (g_ldO1 0 Try.isAgg22 rfl rfl rfl) ?_
          refine qq hS (g_lenI rfl Try.underlying22 hops rfl) ?_
          refine qq hS (g_assignv (v := .int .i64 _) rfl) ?_
          refine qq hS (g_assignv (v := .int .i64 _) rfl) ?_
          refine ol_nil (thenN ?_)
          refine wpIn_ret ?_
          refine thenR ?_
          refine ret2 Try.results8 (rv_tmp (v := .int .i64 _) rfl) (rv_tmp (v := .int .i64 _) rfl) ?_
          rw [e]; exact ⟨rfl, hS.nil⟩
        ·
          intro hc63
          simp only [Bool.not_eq_true', Bool.not_eq_false', decide_eq_true_eq, decide_eq_false_iff_not] at hc63
          have e : checkR p = (↑p.ops.length, 0) := by rw [e0, ← hgo, checkRGo, if_pos hc63]
          refine wpIn_skip ?_
          refine thenN ?_
          refine wpIn_seq ?_
          refine reg ?_
          refine qq hS (g_fieldAddr (o' := 3) Try.underlying24 rfl Try.sizeOf22 rfl rfl rfl) ?_
          refine qq hS (g_ldO1 0 Try.isAgg22 rfl rfl rfl) ?_
          refine qq hS (g_lenI rfl Try.underlying22 hops rfl) ?_
          refine qq hS (g_assignv (v := .int .i64 _) rfl) ?_
          refine qq hS (g_assignv (v := .int .i64 _) rfl) ?_
          refine ol_nil (thenN ?_)
          refine wpIn_ret ?_
          refine ret2 Try.results8 (rv_tmp (v := .int .i64 _) rfl) (rv_tmp (v := .int .i64 _) rfl) ?_
          rw [e]; exact ⟨rfl, hS.nil⟩

/-- A patch that is right has small numbers. -/
theorem wf_of_ok {p : PatL} (h : (checkP p).2 = 0) (hb : ∀ x ∈ p.ops, (0 ≤ x.b ∧ x.b ≤ 255) ∧ ∀ y ∈ x.data, 0 ≤ y ∧ y ≤ 255) : p.wf := by
  obtain ⟨k1, k2, k3, k4, k5, k6, k7⟩ := checkP_ok h
  refine ⟨⟨by omega, by omega⟩, ⟨by omega, by omega⟩, fun x hx => ?_, by omega⟩
  obtain ⟨l1, l2⟩ := k1 x hx
  have hsum := symsOf_mem_le hx
  have hr : (1 ≤ x.kind ∧ x.kind ≤ 4) ∧ 0 ≤ x.from_ ∧ x.from_ ≤ 65536 := by
    unfold rightP insideP at l2
    split at l2
    · simp only [Bool.and_eq_true, decide_eq_true_eq] at l2; omega
    · split at l2
      · simp only [Bool.and_eq_true, decide_eq_true_eq] at l2; omega
      · split at l2
        · simp only [Bool.and_eq_true, decide_eq_true_eq] at l2; omega
        · split at l2
          · simp only [Bool.and_eq_true, decide_eq_true_eq] at l2; omega
          · cases l2
  exact ⟨⟨by omega, by omega⟩, ⟨by omega, by omega⟩, ⟨by omega, by omega⟩, (hb x hx).1, (hb x hx).2⟩

theorem symbols_bad (p : PatL) (ad : Option Addr) (m cap : Nat) (w0 : World) (I0 : Imm) (hI : Sat I0 w0) (hops : ROps I0 (.slice ad m cap) p.ops) (h : (checkP p).2 ≠ 0) :
    Ctr Try.prog 10 [.agg #[.bool p.lifted, .int .i64 p.in_, .int .i64 p.out, .slice ad m cap]] w0 (fun v w' => v = .tuple #[.slice none 0 0, .int .i64 (checkP p).2] ∧ Ext w0 I0 w' I0) := by
  refine fn (n := 45) Try.func10 rfl rfl rfl ?_
  have hS := St.start hI
  refine wpIn_seq ?_
  refine reg ?_
  refine qe (d_box (cs := [.bool _, .int .i64 _, .int .i64 _, .slice _ _ _]) hS rfl) ?_
  clear hS
  rintro _ w_1 ⟨b1, rfl, hS⟩
  refine qq hS (g_assign _) ?_
  refine qq hS (g_assignv (v := .int .i64 _) rfl) ?_
  refine ol_nil (thenN ?_)
  refine wpIn_seq ?_
  refine wpIn_seq ?_
  refine reg ?_
  refine qq hS (g_ldO 0 (vs := [.bool _, .int .i64 _, .int .i64 _, .slice _ _ _]) Try.sizeOf24 Try.isAgg24 rfl rfl rfl rfl) ?_
  refine qe (d_call Try.call7 rfl (check_w p ad m cap _ I0 hS.imm hops)) ?_
  rintro _ w_2 ⟨rfl, hE⟩
  replace hS := hS.callE hE
  refine qq hS (g_move _) ?_
  refine qq hS (g_extract (v := .int .i64 _) rfl rfl) ?_
  refine qq hS (g_extract (v := .int .i64 _) rfl rfl) ?_
  refine qq hS (g_assignv (v := .int .i64 _) rfl) ?_
  refine qq hS (g_assignv (v := .int .i64 _) rfl) ?_
  refine ol_nil (thenN ?_)
  refine wpIn_seq ?_
  refine reg ?_
  refine qq hS (g_movev (v := .int .i64 _) rfl) ?_
  refine qq hS (g_toW (g_neq rfl rfl) (congrArg Value.bool (show (!decide ((checkP p).2 = 0)) = true by simp [h]))) ?_
  refine ol_nil (thenN ?_)
  refine cond_t (rfl) ?_
  refine wpIn_seq ?_
  refine reg ?_
  refine qq hS (g_movev (v := .int .i64 _) rfl) ?_
  refine qq hS (g_assign _) ?_
  refine qq hS (g_assignv (v := .int .i64 _) rfl) ?_
  refine ol_nil (thenN ?_)
  refine wpIn_ret ?_
  refine thenR ?_
  refine ret2 Try.results10 (rv_tmp rfl) (rv_tmp (v := .int .i64 _) rfl) ?_
  exact ⟨rfl, hS.nil⟩

theorem apply_bad (p : PatL) (ad bd : Option Addr) (m cap n capb : Nat) (w0 : World) (I0 : Imm) (hI : Sat I0 w0) (hops : ROps I0 (.slice ad m cap) p.ops) (h : (checkP p).2 ≠ 0) :
    Ctr Try.prog 9 [.slice bd n capb, .agg #[.bool p.lifted, .int .i64 p.in_, .int .i64 p.out, .slice ad m cap]] w0 (fun v w' => v = .tuple #[.slice none 0 0, .int .i64 (checkP p).2] ∧ Ext w0 I0 w' I0) := by
  refine fn (n := 62) Try.func9 rfl rfl rfl ?_
  have hS := St.start hI
  refine wpIn_seq ?_
  refine reg ?_
  refine qe (d_box (cs := [.bool _, .int .i64 _, .int .i64 _, .slice _ _ _]) hS rfl) ?_
  clear hS
  rintro _ w_1 ⟨b3, rfl, hS⟩
  refine qq hS (g_assign _) ?_
  refine qq hS (g_assignv (v := .int .i64 _) rfl) ?_
  refine ol_nil (thenN ?_)
  refine wpIn_seq ?_
  refine reg ?_
  refine qq hS (g_ldO 0 (vs := [.bool _, .int .i64 _, .int .i64 _, .slice _ _ _]) Try.sizeOf24 Try.isAgg24 rfl rfl rfl rfl) ?_
  refine qe (d_call Try.call10 rfl (symbols_bad p ad m cap _ I0 hS.imm hops h)) ?_
  rintro _ w_2 ⟨rfl, hE⟩
  replace hS := hS.callE hE
  refine qq hS (g_move _) ?_
  refine qq hS (g_extract rfl rfl) ?_
  refine qq hS (g_extract (v := .int .i64 _) rfl rfl) ?_
  refine qq hS (g_assign _) ?_
  refine qq hS (g_assignv (v := .int .i64 _) rfl) ?_
  refine ol_nil (thenN ?_)
  refine wpIn_seq ?_
  refine wpIn_seq ?_
  refine reg ?_
  refine qq hS (g_movev (v := .int .i64 _) rfl) ?_
  refine qq hS (g_toW (g_neq rfl rfl) (congrArg Value.bool (show (!decide ((checkP p).2 = 0)) = true by simp [h]))) ?_
  refine ol_nil (thenN ?_)
  refine cond_t (rfl) ?_
  refine wpIn_seq ?_
  refine reg ?_
  refine qq hS (g_movev (v := .int .i64 _) rfl) ?_
  refine qq hS (g_assign _) ?_
  refine qq hS (g_assignv (v := .int .i64 _) rfl) ?_
  refine ol_nil (thenN ?_)
  refine wpIn_ret ?_
  refine thenR ?_
  refine ret2 Try.results9 (rv_tmp rfl) (rv_tmp (v := .int .i64 _) rfl) ?_
  exact ⟨rfl, hS.nil⟩

end Go.Proofs.Ytaklmbhfmpdinaa

