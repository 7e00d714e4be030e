/- inlaylaw08.NormalRefuses: its function answers true. Conditions: arguments are bytes and 32-bit numbers. -/
import Derived.Test.YtaoodcchleaoeaaSanity
namespace Go.Proofs.Ytaoodcchleaoeaa
open Go Go.RowKit Go.Inl
set_option linter.unusedSimpArgs false
set_option linter.unusedVariables false
theorem rawSyms_c (ad : Option Addr) (cap : Nat) (l : List Q2) (size : Int) (w0 : World) (I0 : Imm) (hI : Sat I0 w0) (hl : RFl I0 2 q2C (.slice ad l.length cap) l) (hq : ∀ q ∈ l, q.wf) (hs0 : 0 ≤ size) (hs1 : size ≤ 65536) :
    Ctr Try.prog 12 [.slice ad l.length cap, .int .i64 size] w0 (fun v w' => ∃ I' a m c, v = .slice a m c ∧ Ext w0 I0 w' I' ∧ RSyms I' (.slice a m c) (symsRaw l size) ∧ m = (symsRaw l size).length) :=
  (rawSyms_o ad cap l size w0 I0 hI hl hq hs0 hs1).mono fun v w' ⟨a, c, hv, hS⟩ => by
    obtain ⟨I1, hE, _, hr⟩ := row_freeze1 symC_len hS rfl
    exact ⟨I1, a, _, c, hv, hE, hr, rfl⟩
theorem symsRaw_len (l : List Q2) (size : Int) : (symsRaw l size).length ≤ 20 := by
  unfold symsRaw
  rw [rawGo_length, List.length_take]; omega
theorem fit_wf {s : Sym} {size : Int} (h : s.fit size) (hs : size ≤ 65536) : s.wf := by
  obtain ⟨h1, h2, h3, h4⟩ := h
  cases ho : s.old
  · have := h2 ho; exact ⟨by omega, by omega, by omega, by omega⟩
  · have := h1 ho; exact ⟨by omega, by omega, by omega, by omega⟩
theorem symsRaw_fit {l : List Q2} {size : Int} (hq : ∀ q ∈ l, q.wf) : ∀ s ∈ symsRaw l size, s.fit size :=
  rawGo_fit _ fun q hq' => hq q (List.mem_of_mem_take hq')
theorem symsRaw_wf {l : List Q2} {size : Int} (hq : ∀ q ∈ l, q.wf) (hs : size ≤ 65536) : ∀ s ∈ symsRaw l size, s.wf := fun s h => fit_wf (symsRaw_fit hq s h) hs
theorem u16_bd (a : Int) : 0 ≤ IntKind.u16.wrap a ∧ IntKind.u16.wrap a ≤ 65535 := by
  rw [IntKind.wrap_u16]; omega
theorem cheapP_strange {l : List Sym} {s : Sym} {n : Int} (h : strange n s = true) : cheapP (l ++ [s]) n = (PatL.zero, 60) := by
  unfold cheapP
  rw [if_pos]
  simp [h]
theorem cheapP_nil (n : Int) : cheapP [] n = if 0 ≤ n ∧ n ≤ 65536 then (⟨false, n, 0, []⟩, 0) else (PatL.zero, 60) := by
  unfold cheapP
  by_cases h : 0 ≤ n ∧ n ≤ 65536
  · rw [if_pos h, if_neg (by simp; omega)]; rfl
  · rw [if_neg h, if_pos (by simp; omega)]
theorem checkGo_60 {n : Int} : ∀ (l : List OpL) (left i : Int), (checkGo n l left i).2 = 60 ∨ (checkGo n l left i).2 = 0
  | [], left, i => by unfold checkGo; split <;> simp
  | x :: l, left, i => by
    unfold checkGo
    split
    · exact .inl rfl
    · exact checkGo_60 l _ _
theorem checkP_60 (p : PatL) : (checkP p).2 = 60 ∨ (checkP p).2 = 0 := by
  unfold checkP
  split
  · exact .inl rfl
  · exact checkGo_60 _ _ _
theorem symsOf_sum : ∀ (l : List OpL), (∀ x ∈ l, 0 ≤ x.len) → ((symsOf l).length : Int) = sumL l
  | [], _ => rfl
  | x :: l, h => by
    have := h x (by simp)
    rw [symsOf_cons, List.length_append, symsOp_length, sumL, ← symsOf_sum l fun y hy => h y (by simp [hy])]; omega
theorem opsRaw_mem {l : List Q4} {size : Int} {x : OpL} (h : x ∈ opsRaw l size) : ∃ q ∈ l, x = opRaw q size := by
  obtain ⟨q, hq, rfl⟩ := List.mem_map.1 h
  exact ⟨q, List.mem_of_mem_take hq, rfl⟩
theorem sumL_bd : ∀ (l : List OpL), (∀ x ∈ l, 0 ≤ x.len ∧ x.len ≤ 5) → 0 ≤ sumL l ∧ sumL l ≤ 5 * (l.length : Int)
  | [], _ => by simp [sumL]
  | x :: l, h => by
    have h1 := h x (by simp)
    have h2 := sumL_bd l fun y hy => h y (by simp [hy])
    rw [sumL, List.length_cons]; omega
theorem opsRaw_len {l : List Q4} {size : Int} (hq : ∀ q ∈ l, q.wf) (hs : 0 ≤ size) : ∀ x ∈ opsRaw l size, 0 ≤ x.len ∧ x.len ≤ 5 := fun x hx => by
  obtain ⟨q, hq', rfl⟩ := opsRaw_mem hx
  have := lenRaw_bd (hq q hq') hs
  exact ⟨by show 0 ≤ lenRaw q size; omega, by show lenRaw q size ≤ 5; omega⟩
theorem madeP_out {l : List Q4} {size : Int} (hq : ∀ q ∈ l, q.wf) (hs : 0 ≤ size) : 0 ≤ (madeP l size).out ∧ (madeP l size).out ≤ 30 := by
  have h := sumL_bd (opsRaw l size) (opsRaw_len hq hs)
  have h6 : (opsRaw l size).length ≤ 6 := by unfold opsRaw; rw [List.length_map, List.length_take]; omega
  exact ⟨h.1, by show sumL _ ≤ 30; omega⟩
theorem madeP_wf' {l : List Q4} {size : Int} (hq : ∀ q ∈ l, q.wf) (hs : 0 ≤ size ∧ size ≤ 65536) (a : Bool) (o : Int) (ho : Mid o) : (⟨a, size, o, opsRaw l size⟩ : PatL).wf := by
  have h6 : (opsRaw l size).length ≤ 6 := by unfold opsRaw; rw [List.length_map, List.length_take]; omega
  refine ⟨⟨by dsimp only; omega, by dsimp only; omega⟩, ho, fun x hx => ?_, by dsimp only; omega⟩
  obtain ⟨q, hq', rfl⟩ := opsRaw_mem hx
  exact opRaw_wf (hq q hq') hs
theorem madeP_wf {l : List Q4} {size : Int} (hq : ∀ q ∈ l, q.wf) (hs : 0 ≤ size ∧ size ≤ 65536) : (madeP l size).wf := by
  have := madeP_out hq hs.1
  exact madeP_wf' hq hs false _ ⟨by show _ ≤ (madeP l size).out; omega, by show (madeP l size).out ≤ _; omega⟩
theorem symbolsP_long {l : List Q4} {size o : Int} (hq : ∀ q ∈ l, q.wf) (hs : 0 ≤ size) (a : Bool) (h : sumL (opsRaw l size) < o) : symbolsP ⟨a, size, o, opsRaw l size⟩ = ([], 60) := by
  have h0 : (checkP ⟨a, size, o, opsRaw l size⟩).2 = 60 := by
    rcases checkP_60 ⟨a, size, o, opsRaw l size⟩ with h1 | h1
    · exact h1
    · have h2 := (checkP_ok h1).2.1
      rw [symsOf_sum _ fun x hx => (opsRaw_len hq hs x hx).1] at h2
      dsimp only at h2
      omega
  unfold symbolsP
  rw [h0]; rfl

set_option maxRecDepth 20000 in
set_option maxHeartbeats 4000000 in
theorem refuses_c (r : Int) (ad bd : Option Addr) (cap4 cap2 : Nat) (l4 : List Q4) (l2 : List Q2) (c0 c1 c2 : Int) (w0 : World) (I0 : Imm) (hI : Sat I0 w0) (hr0 : 0 ≤ r) (hr1 : r ≤ 255) (h4 : RFl I0 4 q4C (.slice ad l4.length cap4) l4) (hq4 : ∀ q ∈ l4, q.wf) (h2 : RFl I0 2 q2C (.slice bd l2.length cap2) l2) (hq2 : ∀ q ∈ l2, q.wf)
    (h10 : -2147483648 ≤ c1) (h11 : c1 ≤ 2147483647) :
    Ctr Try.prog 7 [.agg #[.int .u8 r, .slice ad l4.length cap4], .slice bd l2.length cap2, .agg #[.int .i32 c0, .int .i32 c1, .int .i32 c2]] w0 (fun v w' => ∃ I', v = .bool true ∧ Ext w0 I0 w' I') := by
  have hsl := symsRaw_len l2 9
  have hsf := symsRaw_wf (size := 9) hq2 (by decide)
  have hsw : ∀ s : Sym, s.wf → ∀ t ∈ symsRaw l2 9 ++ [s], t.wf := fun s hs t ht => by
    rcases List.mem_append.1 ht with ht | ht
    · exact hsf t ht
    · simp only [List.mem_singleton] at ht; subst ht; exact hs
  have hub := u16_bd c0
  have huc := u16_bd c2
  have hu9 : (⟨true, 9 + IntKind.u16.wrap c0, 0⟩ : Sym).wf := ⟨by dsimp only; omega, by dsimp only; omega, by dsimp only; omega, by dsimp only; omega⟩
  have hu10 : (⟨true, -1 - IntKind.u16.wrap c0, 0⟩ : Sym).wf := ⟨by dsimp only; omega, by dsimp only; omega, by dsimp only; omega, by dsimp only; omega⟩
  have hu11 : (⟨false, 1 + IntKind.u16.wrap c0, 0⟩ : Sym).wf := ⟨by dsimp only; omega, by dsimp only; omega, by dsimp only; omega, by dsimp only; omega⟩
  have hs9 : strange 9 ⟨true, 9 + IntKind.u16.wrap c0, 0⟩ = true := by simp [strange]; omega
  have hs10 : strange 9 ⟨true, -1 - IntKind.u16.wrap c0, 0⟩ = true := by simp [strange]; omega
  have hs11 : strange 9 ⟨false, 1 + IntKind.u16.wrap c0, 0⟩ = true := by simp [strange]; omega
  have hmo := madeP_out (size := r % 13) hq4 (by omega)
  have hpw := madeP_wf (size := r % 13) hq4 (by omega)
  have hmo' : 0 ≤ sumL (opsRaw l4 (r % 13)) ∧ sumL (opsRaw l4 (r % 13)) ≤ 30 := hmo
  have hqw := madeP_wf' (size := r % 13) hq4 (by omega) false (sumL (opsRaw l4 (r % 13)) + (1 + IntKind.u16.wrap c2)) ⟨by omega, by omega⟩
  have hsq := symbolsP_long (size := r % 13) (o := sumL (opsRaw l4 (r % 13)) + (1 + IntKind.u16.wrap c2)) hq4 (by omega) false (by omega)
  have hcond : (decide ((cheapP [] c1).2 = 0) != (decide (0 ≤ c1) && decide (c1 ≤ 65536))) = false := by
    rw [cheapP_nil]
    by_cases h : 0 ≤ c1 ∧ c1 ≤ 65536
    · rw [if_pos h]; simp [h.1, h.2]
    · rw [if_neg h]
      simp only [bne_eq_false_iff_eq]
      have : (decide (0 ≤ c1) && decide (c1 ≤ 65536)) = false := by
        rw [Bool.eq_false_iff]; intro h'; simp only [Bool.and_eq_true, decide_eq_true_eq] at h'; exact h h'
      rw [this]; rfl
  refine fn (n := 144) Try.func7 rfl rfl rfl ?_
  have hS := St.start hI
  refine wp_seq ?_
  refine reg ?_
  refine qe (d_box (cs := [.int .u8 _, .slice _ _ _]) hS rfl) ?_
  clear hS
  rintro _ w_1 ⟨b3, rfl, hS⟩
  refine qe (d_box (cs := [.int .i32 _, .int .i32 _, .int .i32 _]) hS rfl) ?_
  clear hS
  rintro _ w_2 ⟨b5, rfl, hS⟩
  refine qq hS (g_assignv (v := .bool _) rfl) ?_
  refine ol_nil (thenN ?_)
  refine wp_seq ?_
  refine reg ?_
  refine qe (d_call Try.call10 rfl (sanity_c _ _ hS.imm)) ?_
  rintro _ w_3 ⟨I_f, rfl, hE⟩
  replace hS := hS.callE hE
  replace h4 := h4.mono hE.ext
  replace h2 := h2.mono hE.ext
  refine qq hS (g_assignv (v := .bool _) rfl) ?_
  refine ol_nil (thenN ?_)
  refine wp_seq ?_
  refine reg ?_
  refine qq hS (g_move _) ?_
  refine qe (d_call Try.call12 rfl (rawSyms_c bd cap2 l2 9 _ _ hS.imm h2 hq2 (by decide) (by decide))) ?_
  rintro _ w_4 ⟨I_f, a26, m26, c26, rfl, hE, h26, hm26⟩
  replace hS := hS.callE hE
  replace h4 := h4.mono hE.ext
  replace h2 := h2.mono hE.ext
  subst hm26
  refine qq hS (g_assign _) ?_
  refine ol_nil (thenN ?_)
  refine wp_seq ?_
  refine drawS [true, true] (.cons 1 .pure (.cons 3 .pure (.cons 4 .held (.cons 5 .pure (.cons 6 .pure (.cons 7 .pure (.cons 0 .eff (.cons 2 .eff (.cons 8 .eff (.cons 9 .eff (.cons 10 .eff (.cons 11 .pure .nil)))))))))))) mixed (by kernel_rfl) hS ?_
  intro w_5 hS
  refine sp rfl (g_move _) ?_
  refine sp rfl (g_indexArr (o' := 0) Try.underlying56 Try.sizeOf21 rfl rfl (by decide) (by decide) rfl) ?_
  refine sh rfl (g_ldO1 0 Try.isAgg21 rfl rfl rfl) ?_
  refine sp rfl (g_conv Try.underlying21 Try.underlying48 rfl) ?_
  refine sp rfl (g_convi Try.underlying48 Try.underlying3 rfl (by first | omega | (have := u16_bd c0; omega) | (have := u16_bd c2; omega)) (by first | omega | (have := u16_bd c0; omega) | (have := u16_bd c2; omega))) ?_
  refine sp rfl (g_add rfl rfl (by first | (have := u16_bd c0; omega) | (have := u16_bd c2; omega)) (by first | (have := u16_bd c0; omega) | (have := u16_bd c2; omega))) ?_
  have hS0 := hS
  refine se rfl (d_buildSlice0 hS Try.underlying33 Try.sizeOf50) ?_
  rintro _ w_6 ⟨hS, b27_, rfl⟩
  refine ⟨_, _, fun _ h => h, hS.sel [false, true, true], ?_⟩
  have hS0 := hS
  refine se rfl (i_appendF 0 hS rfl Try.underlying33 info50 rfl rfl rfl rfl symC_len (fun _ => rfl) h26 rfl (by omega) (by omega)) ?_
  rintro _ w_7 ⟨a29, p29, rfl, hS⟩
  refine ⟨_, _, fun _ h => h, hS.sel [false, true, true], ?_⟩
  have hS0 := hS
  refine se rfl (d_call Try.call23 rfl (old_c _ _ _ _ hS.imm)) ?_
  rintro _ w_8 ⟨rfl, hE⟩
  replace hS := hS.call hE
  refine ⟨_, _, (hS0.sel [false, true, true]).le hE.ext (List.Sublist.refl _), hS.sel [false, true, true], ?_⟩
  have hS0 := hS
  refine se rfl (d_lit (vs := [.agg #[.bool _, .int .i64 _, .int .u8 _]]) (cs := [.bool _, .int .i64 _, .int .u8 _]) hS Try.underlying33 Try.sizeOf50 Try.zeroValue50 rfl rfl rfl rfl (fun v hv => by simp only [List.mem_cons, List.not_mem_nil, or_false] at hv; subst hv; rfl) rfl) ?_
  rintro _ w_9 ⟨b_9, rfl, hS⟩
  refine ⟨_, _, (hS0.sel [false, true, true]).le (Sub.refl _) (List.sublist_cons_self _ _), hS.sel [true, false, true, true], ?_⟩
  have hS0 := hS
  refine se rfl (i_appendO 1 0 hS rfl Try.underlying33 info50 rfl rfl rfl rfl rfl rfl rfl rfl (by omega) (by omega)) ?_
  rintro _ w_10 ⟨a37, p37, rfl, hS⟩
  refine ⟨_, _, fun _ h => h, hS.sel [true, false, true, true], ?_⟩
  refine sp rfl (g_assign _) ?_
  refine sn (thenN ?_)
  refine wp_seq ?_
  have hfl : flat symC (symsRaw l2 9 ++ [(⟨true, 9 + IntKind.u16.wrap c0, 0⟩ : Sym)]) = ([] ++ flat symC (symsRaw l2 9)) ++ symC ⟨true, 9 + IntKind.u16.wrap c0, 0⟩ := by rw [flat_append, flat_one]; rfl
  have hF := St.freezeRow (E := 50) (u := .slice a37 (0 + (symsRaw l2 9).length + 1) p37) (xs := symsRaw l2 9 ++ [(⟨true, 9 + IntKind.u16.wrap c0, 0⟩ : Sym)]) (m := 0 + (symsRaw l2 9).length + 1) symC_len (by rw [hfl]; exact hS.sel [false, true, true, true]) (by simp)
  clear hS
  obtain ⟨I9, hS, hIz, h9⟩ := hF
  replace h4 := h4.mono hIz
  replace h2 := h2.mono hIz
  replace h26 := h26.mono hIz
  refine drawS [true, true] (.cons 1 .pure (.cons 3 .pure (.cons 4 .held (.cons 5 .pure (.cons 6 .pure (.cons 7 .pure (.cons 0 .eff (.cons 2 .eff (.cons 8 .eff (.cons 9 .eff (.cons 10 .eff (.cons 11 .pure .nil)))))))))))) mixed (by kernel_rfl) hS ?_
  intro w_11 hS
  refine sp rfl (g_move _) ?_
  refine sp rfl (g_indexArr (o' := 0) Try.underlying56 Try.sizeOf21 rfl rfl (by decide) (by decide) rfl) ?_
  refine sh rfl (g_ldO1 0 Try.isAgg21 rfl rfl rfl) ?_
  refine sp rfl (g_conv Try.underlying21 Try.underlying48 rfl) ?_
  refine sp rfl (g_convi Try.underlying48 Try.underlying3 rfl (by first | omega | (have := u16_bd c0; omega) | (have := u16_bd c2; omega)) (by first | omega | (have := u16_bd c0; omega) | (have := u16_bd c2; omega))) ?_
  refine sp rfl (g_sub rfl rfl (by first | (have := u16_bd c0; omega) | (have := u16_bd c2; omega)) (by first | (have := u16_bd c0; omega) | (have := u16_bd c2; omega))) ?_
  have hS0 := hS
  refine se rfl (d_buildSlice0 hS Try.underlying33 Try.sizeOf50) ?_
  rintro _ w_12 ⟨hS, b38_, rfl⟩
  refine ⟨_, _, fun _ h => h, hS.sel [false, true, true], ?_⟩
  have hS0 := hS
  refine se rfl (i_appendF 0 hS rfl Try.underlying33 info50 rfl rfl rfl rfl symC_len (fun _ => rfl) h26 rfl (by omega) (by omega)) ?_
  rintro _ w_13 ⟨a40, p40, rfl, hS⟩
  refine ⟨_, _, fun _ h => h, hS.sel [false, true, true], ?_⟩
  have hS0 := hS
  refine se rfl (d_call Try.call23 rfl (old_c _ _ _ _ hS.imm)) ?_
  rintro _ w_14 ⟨rfl, hE⟩
  replace hS := hS.call hE
  refine ⟨_, _, (hS0.sel [false, true, true]).le hE.ext (List.Sublist.refl _), hS.sel [false, true, true], ?_⟩
  have hS0 := hS
  refine se rfl (d_lit (vs := [.agg #[.bool _, .int .i64 _, .int .u8 _]]) (cs := [.bool _, .int .i64 _, .int .u8 _]) hS Try.underlying33 Try.sizeOf50 Try.zeroValue50 rfl rfl rfl rfl (fun v hv => by simp only [List.mem_cons, List.not_mem_nil, or_false] at hv; subst hv; rfl) rfl) ?_
  rintro _ w_15 ⟨b_15, rfl, hS⟩
  refine ⟨_, _, (hS0.sel [false, true, true]).le (Sub.refl _) (List.sublist_cons_self _ _), hS.sel [true, false, true, true], ?_⟩
  have hS0 := hS
  refine se rfl (i_appendO 1 0 hS rfl Try.underlying33 info50 rfl rfl rfl rfl rfl rfl rfl rfl (by omega) (by omega)) ?_
  rintro _ w_16 ⟨a48, p48, rfl, hS⟩
  refine ⟨_, _, fun _ h => h, hS.sel [true, false, true, true], ?_⟩
  refine sp rfl (g_assign _) ?_
  refine sn (thenN ?_)
  have hfl : flat symC (symsRaw l2 9 ++ [(⟨true, -1 - IntKind.u16.wrap c0, 0⟩ : Sym)]) = ([] ++ flat symC (symsRaw l2 9)) ++ symC ⟨true, -1 - IntKind.u16.wrap c0, 0⟩ := by rw [flat_append, flat_one]; rfl
  have hF := St.freezeRow (E := 50) (u := .slice a48 (0 + (symsRaw l2 9).length + 1) p48) (xs := symsRaw l2 9 ++ [(⟨true, -1 - IntKind.u16.wrap c0, 0⟩ : Sym)]) (m := 0 + (symsRaw l2 9).length + 1) symC_len (by rw [hfl]; exact hS.sel [false, true, true, true]) (by simp)
  clear hS
  obtain ⟨I10, hS, hIz, h10⟩ := hF
  replace h4 := h4.mono hIz
  replace h2 := h2.mono hIz
  replace h26 := h26.mono hIz
  replace h9 := h9.mono hIz
  refine meet (fun σ w => ∃ a59 p59, okS σ [(3, .pointer (some ⟨b3, 0, none⟩)), (5, .pointer (some ⟨b5, 0, none⟩)), (7, .bool true), (9, .slice a37 (0 + (symsRaw l2 9).length + 1) p37), (10, .slice a48 (0 + (symsRaw l2 9).length + 1) p48), (11, .slice a59 (0 + (symsRaw l2 9).length + 1) p59)] ∧ St [] w0 I0 I10 w [.row (.slice a59 (0 + (symsRaw l2 9).length + 1) p59) 50 3 (0 + (symsRaw l2 9).length + 1) (([] ++ flat symC (symsRaw l2 9)) ++ symC ⟨false, 1 + IntKind.u16.wrap c0, 0⟩), .cel b5 56 [.int .i32 c0, .int .i32 c1, .int .i32 c2], .cel b3 24 [.int .u8 r, .slice ad l4.length cap4]]) ?_ ?_
  ·
    refine drawS [true, true] (.cons 1 .pure (.cons 3 .pure (.cons 4 .held (.cons 5 .pure (.cons 6 .pure (.cons 7 .pure (.cons 8 .pure (.fork 0 (.fork 2 (.cons 9 .eff (.cons 10 .eff (.cons 11 .pure .nil))) 9 (.cons 2 .eff (.cons 10 .eff (.cons 11 .pure .nil)))) 9 (.cons 0 .eff (.cons 2 .eff (.cons 10 .eff (.cons 11 .pure .nil)))))))))))) mixed (by kernel_rfl) hS ?_
    intro w_17 hS
    refine sp rfl (g_move _) ?_
    refine sp rfl (g_indexArr (o' := 0) Try.underlying56 Try.sizeOf21 rfl rfl (by decide) (by decide) rfl) ?_
    refine sh rfl (g_ldO1 0 Try.isAgg21 rfl rfl rfl) ?_
    refine sp rfl (g_conv Try.underlying21 Try.underlying48 rfl) ?_
    refine sp rfl (g_convi Try.underlying48 Try.underlying3 rfl (by first | omega | (have := u16_bd c0; omega) | (have := u16_bd c2; omega)) (by first | omega | (have := u16_bd c0; omega) | (have := u16_bd c2; omega))) ?_
    refine sp rfl (g_add rfl rfl (by first | (have := u16_bd c0; omega) | (have := u16_bd c2; omega)) (by first | (have := u16_bd c0; omega) | (have := u16_bd c2; omega))) ?_
    refine sp rfl (g_buildv (pl := [(0, 1), (1, 1), (2, 1)]) (cs := [.bool _, .int .i64 _, .int .u8 _]) Try.zeroValue50 Try.underlying50 (fun w => by simp [Try.sizeOf3, Try.sizeOf4, Try.sizeOf5]) (mp (v := .int .i64 _) rfl mp0) rfl) ?_
    refine sk ?_ ?_
    ·
      have hS0 := hS
      refine se rfl (d_buildSlice0 hS Try.underlying33 Try.sizeOf50) ?_
      rintro _ w_18 ⟨hS, b49_, rfl⟩
      refine ⟨_, _, fun _ h => h, hS.sel [false, true, true], ?_⟩
      refine sk ?_ ?_
      ·
        have hS0 := hS
        refine se rfl (i_appendF 0 hS rfl Try.underlying33 info50 rfl rfl rfl rfl symC_len (fun _ => rfl) h26 rfl (by omega) (by omega)) ?_
        rintro _ w_19 ⟨a51, p51, rfl, hS⟩
        refine ⟨_, _, fun _ h => h, hS.sel [false, true, true], ?_⟩
        have hS0 := hS
        refine se rfl (d_lit (vs := [.agg #[.bool _, .int .i64 _, .int .u8 _]]) (cs := [.bool _, .int .i64 _, .int .u8 _]) hS Try.underlying33 Try.sizeOf50 Try.zeroValue50 rfl rfl rfl rfl (fun v hv => by simp only [List.mem_cons, List.not_mem_nil, or_false] at hv; subst hv; rfl) rfl) ?_
        rintro _ w_20 ⟨b_20, rfl, hS⟩
        refine ⟨_, _, (hS0.sel [false, true, true]).le (Sub.refl _) (List.sublist_cons_self _ _), hS.sel [true, false, true, true], ?_⟩
        have hS0 := hS
        refine se rfl (i_appendO 1 0 hS rfl Try.underlying33 info50 rfl rfl rfl rfl rfl rfl rfl rfl (by omega) (by omega)) ?_
        rintro _ w_21 ⟨a59, p59, rfl, hS⟩
        refine ⟨_, _, fun _ h => h, hS.sel [true, false, true, true], ?_⟩
        refine sp rfl (g_assign _) ?_
        refine sn (thenN ?_)
        exact ⟨_, rfl, _, _, ⟨rfl, rfl, rfl, rfl, rfl, rfl, trivial⟩, hS.sel [false, true, true, true]⟩
      ·
        have hS0 := hS
        refine se rfl (d_lit (vs := [.agg #[.bool _, .int .i64 _, .int .u8 _]]) (cs := [.bool _, .int .i64 _, .int .u8 _]) hS Try.underlying33 Try.sizeOf50 Try.zeroValue50 rfl rfl rfl rfl (fun v hv => by simp only [List.mem_cons, List.not_mem_nil, or_false] at hv; subst hv; rfl) rfl) ?_
        rintro _ w_22 ⟨b_22, rfl, hS⟩
        refine ⟨_, _, (hS0.sel [false, true, true]).le (Sub.refl _) (List.sublist_cons_self _ _), hS.sel [true, false, true, true], ?_⟩
        have hS0 := hS
        refine se rfl (i_appendF 1 hS rfl Try.underlying33 info50 rfl rfl rfl rfl symC_len (fun _ => rfl) h26 rfl (by omega) (by omega)) ?_
        rintro _ w_23 ⟨a51, p51, rfl, hS⟩
        refine ⟨_, _, fun _ h => h, hS.sel [true, false, true, true], ?_⟩
        have hS0 := hS
        refine se rfl (i_appendO 1 0 hS rfl Try.underlying33 info50 rfl rfl rfl rfl rfl rfl rfl rfl (by omega) (by omega)) ?_
        rintro _ w_24 ⟨a59, p59, rfl, hS⟩
        refine ⟨_, _, fun _ h => h, hS.sel [true, false, true, true], ?_⟩
        refine sp rfl (g_assign _) ?_
        refine sn (thenN ?_)
        exact ⟨_, rfl, _, _, ⟨rfl, rfl, rfl, rfl, rfl, rfl, trivial⟩, hS.sel [false, true, true, true]⟩
    ·
      have hS0 := hS
      refine se rfl (d_lit (vs := [.agg #[.bool _, .int .i64 _, .int .u8 _]]) (cs := [.bool _, .int .i64 _, .int .u8 _]) hS Try.underlying33 Try.sizeOf50 Try.zeroValue50 rfl rfl rfl rfl (fun v hv => by simp only [List.mem_cons, List.not_mem_nil, or_false] at hv; subst hv; rfl) rfl) ?_
      rintro _ w_25 ⟨b_25, rfl, hS⟩
      refine ⟨_, _, (hS0.sel [true, true]).le (Sub.refl _) (List.sublist_cons_self _ _), hS.sel [true, true, true], ?_⟩
      have hS0 := hS
      refine se rfl (d_buildSlice0 hS Try.underlying33 Try.sizeOf50) ?_
      rintro _ w_26 ⟨hS, b49_, rfl⟩
      refine ⟨_, _, fun _ h => h, hS.sel [false, true, true, true], ?_⟩
      have hS0 := hS
      refine se rfl (i_appendF 0 hS rfl Try.underlying33 info50 rfl rfl rfl rfl symC_len (fun _ => rfl) h26 rfl (by omega) (by omega)) ?_
      rintro _ w_27 ⟨a51, p51, rfl, hS⟩
      refine ⟨_, _, fun _ h => h, hS.sel [false, true, true, true], ?_⟩
      have hS0 := hS
      refine se rfl (i_appendO 0 1 hS rfl Try.underlying33 info50 rfl rfl rfl rfl rfl rfl rfl rfl (by omega) (by omega)) ?_
      rintro _ w_28 ⟨a59, p59, rfl, hS⟩
      refine ⟨_, _, fun _ h => h, hS.sel [false, true, true, true], ?_⟩
      refine sp rfl (g_assign _) ?_
      refine sn (thenN ?_)
      exact ⟨_, rfl, _, _, ⟨rfl, rfl, rfl, rfl, rfl, rfl, trivial⟩, hS.sel [true, false, true, true]⟩
  ·
    rintro σ w ⟨a59, p59, hs, hS⟩
    rw [← upds_self hs]
    refine wp_seq ?_
    have hfl : flat symC (symsRaw l2 9 ++ [(⟨false, 1 + IntKind.u16.wrap c0, 0⟩ : Sym)]) = ([] ++ flat symC (symsRaw l2 9)) ++ symC ⟨false, 1 + IntKind.u16.wrap c0, 0⟩ := by rw [flat_append, flat_one]; rfl
    have hF := St.freezeRow (E := 50) (u := .slice a59 (0 + (symsRaw l2 9).length + 1) p59) (xs := symsRaw l2 9 ++ [(⟨false, 1 + IntKind.u16.wrap c0, 0⟩ : Sym)]) (m := 0 + (symsRaw l2 9).length + 1) symC_len (by rw [hfl]; exact hS.sel [true, true, true]) (by simp)
    clear hS
    obtain ⟨I11, hS, hIz, h11⟩ := hF
    replace h4 := h4.mono hIz
    replace h2 := h2.mono hIz
    replace h26 := h26.mono hIz
    replace h9 := h9.mono hIz
    replace h10 := h10.mono hIz
    refine reg ?_
    refine qq hS (g_move _) ?_
    refine qe (d_call Try.call15 rfl (cheapest_e a37 _ p37 _ 9 PatL.zero 60 _ _ hS.imm h9 (by simp) (hsw _ hu9) (cheapP_strange hs9))) ?_
    rintro _ w_29 ⟨I_f, a62, m62, c62, rfl, hE, hz62⟩
    replace hS := hS.callE hE
    replace h4 := h4.mono hE.ext
    replace h2 := h2.mono hE.ext
    replace h26 := h26.mono hE.ext
    replace h9 := h9.mono hE.ext
    replace h10 := h10.mono hE.ext
    replace h11 := h11.mono hE.ext
    refine qq hS (g_move _) ?_
    refine qq hS (g_extract rfl rfl) ?_
    refine qq hS (g_extract (v := .int .i64 _) rfl rfl) ?_
    refine qe (d_alloc (cs := [.bool _, .int .i64 _, .int .i64 _, .slice _ _ _]) hS Try.zeroValue31 rfl) ?_
    clear hS
    rintro _ w_30 ⟨b12, rfl, hS⟩
    refine qe (d_store 0 hS Try.sizeOf31 rfl rfl rfl (vs := [.bool _, .int .i64 _, .int .i64 _, .slice _ _ _]) rfl rfl rfl (Nat.le_of_ble_eq_true rfl) (cs' := [_, _, _, _]) rfl) ?_
    clear hS
    rintro _ w_31 ⟨rfl, hS⟩
    refine qq hS (g_assignv (v := .int .i64 _) rfl) ?_
    refine ol_nil (thenN ?_)
    refine wp_seq ?_
    refine reg ?_
    refine qq hS (g_move _) ?_
    refine qe (d_call Try.call15 rfl (cheapest_e a48 _ p48 _ 9 PatL.zero 60 _ _ hS.imm h10 (by simp) (hsw _ hu10) (cheapP_strange hs10))) ?_
    rintro _ w_32 ⟨I_f, a67, m67, c67, rfl, hE, hz67⟩
    replace hS := hS.callE hE
    replace h4 := h4.mono hE.ext
    replace h2 := h2.mono hE.ext
    replace h26 := h26.mono hE.ext
    replace h9 := h9.mono hE.ext
    replace h10 := h10.mono hE.ext
    replace h11 := h11.mono hE.ext
    refine qq hS (g_move _) ?_
    refine qq hS (g_extract rfl rfl) ?_
    refine qq hS (g_extract (v := .int .i64 _) rfl rfl) ?_
    refine qe (d_alloc (cs := [.bool _, .int .i64 _, .int .i64 _, .slice _ _ _]) hS Try.zeroValue31 rfl) ?_
    clear hS
    rintro _ w_33 ⟨b14, rfl, hS⟩
    refine qe (d_store 0 hS Try.sizeOf31 rfl rfl rfl (vs := [.bool _, .int .i64 _, .int .i64 _, .slice _ _ _]) rfl rfl rfl (Nat.le_of_ble_eq_true rfl) (cs' := [_, _, _, _]) rfl) ?_
    clear hS
    rintro _ w_34 ⟨rfl, hS⟩
    refine qq hS (g_assignv (v := .int .i64 _) rfl) ?_
    refine ol_nil (thenN ?_)
    refine wp_seq ?_
    refine reg ?_
    refine qq hS (g_move _) ?_
    refine qe (d_call Try.call15 rfl (cheapest_e a59 _ p59 _ 9 PatL.zero 60 _ _ hS.imm h11 (by simp) (hsw _ hu11) (cheapP_strange hs11))) ?_
    rintro _ w_35 ⟨I_f, a72, m72, c72, rfl, hE, hz72⟩
    replace hS := hS.callE hE
    replace h4 := h4.mono hE.ext
    replace h2 := h2.mono hE.ext
    replace h26 := h26.mono hE.ext
    replace h9 := h9.mono hE.ext
    replace h10 := h10.mono hE.ext
    replace h11 := h11.mono hE.ext
    refine qq hS (g_move _) ?_
    refine qq hS (g_extract rfl rfl) ?_
    refine qq hS (g_extract (v := .int .i64 _) rfl rfl) ?_
    refine qe (d_alloc (cs := [.bool _, .int .i64 _, .int .i64 _, .slice _ _ _]) hS Try.zeroValue31 rfl) ?_
    clear hS
    rintro _ w_36 ⟨b16, rfl, hS⟩
    refine qe (d_store 0 hS Try.sizeOf31 rfl rfl rfl (vs := [.bool _, .int .i64 _, .int .i64 _, .slice _ _ _]) rfl rfl rfl (Nat.le_of_ble_eq_true rfl) (cs' := [_, _, _, _]) rfl) ?_
    clear hS
    rintro _ w_37 ⟨rfl, hS⟩
    refine qq hS (g_assignv (v := .int .i64 _) rfl) ?_
    refine ol_nil (thenN ?_)
    refine wp_seq ?_
    refine reg ?_
    refine qq hS (g_indexArr (o' := 1) Try.underlying56 Try.sizeOf21 rfl rfl (by decide) (by decide) rfl) ?_
    refine qq hS (g_ldO1 3 Try.isAgg21 rfl rfl rfl) ?_
    refine qq hS (g_convi Try.underlying21 Try.underlying3 rfl (by omega) (by omega)) ?_
    refine qe (d_call Try.call15 rfl (cheapest_e none 0 0 [] c1 (cheapP [] c1).1 (cheapP [] c1).2 _ _ hS.imm RFl.nil rfl (fun s hs => by simp at hs) rfl)) ?_
    rintro _ w_38 ⟨I_f, a79, m79, c79, rfl, hE, hz79⟩
    replace hS := hS.callE hE
    replace h4 := h4.mono hE.ext
    replace h2 := h2.mono hE.ext
    replace h26 := h26.mono hE.ext
    replace h9 := h9.mono hE.ext
    replace h10 := h10.mono hE.ext
    replace h11 := h11.mono hE.ext
    refine qq hS (g_move _) ?_
    refine qq hS (g_extract rfl rfl) ?_
    refine qq hS (g_extract (v := .int .i64 _) rfl rfl) ?_
    refine qe (d_alloc (cs := [.bool _, .int .i64 _, .int .i64 _, .slice _ _ _]) hS Try.zeroValue31 rfl) ?_
    clear hS
    rintro _ w_39 ⟨b18, rfl, hS⟩
    refine qe (d_store 0 hS Try.sizeOf31 rfl rfl rfl (vs := [.bool _, .int .i64 _, .int .i64 _, .slice _ _ _]) rfl rfl rfl (Nat.le_of_ble_eq_true rfl) (cs' := [_, _, _, _]) rfl) ?_
    clear hS
    rintro _ w_40 ⟨rfl, hS⟩
    refine qq hS (g_assignv (v := .int .i64 _) rfl) ?_
    refine ol_nil (thenN ?_)
    refine wp_seq ?_
    refine wp_seq ?_
    refine reg ?_
    refine qq hS (g_movev (v := .int .i64 _) rfl) ?_
    refine qq hS (g_neq rfl rfl) ?_
    refine qq hS (g_movev (v := .bool _) rfl) ?_
    refine qqs rfl rfl hS (g_movev (v := .int .i64 _) rfl) ?_
    refine qqs rfl rfl hS (g_neq rfl rfl) ?_
    refine qq hS (g_or rfl rfl (fun _ => rfl)) ?_
    refine qq hS (g_movev (v := .bool _) rfl) ?_
    refine qqs rfl rfl hS (g_movev (v := .int .i64 _) rfl) ?_
    refine qqs rfl rfl hS (g_neq rfl rfl) ?_
    refine qq hS (g_or rfl rfl (fun _ => rfl)) ?_
    refine qq hS (g_movev (v := .bool _) rfl) ?_
    refine qqs rfl rfl hS (g_movev (v := .int .i64 _) rfl) ?_
    refine qqs rfl rfl hS (g_eql rfl rfl) ?_
    refine qqs rfl rfl hS (g_indexArr (o' := 1) Try.underlying56 Try.sizeOf21 rfl rfl (by decide) (by decide) rfl) ?_
    refine qqs rfl rfl hS (g_ldO1 4 Try.isAgg21 rfl rfl rfl) ?_
    refine qqs rfl rfl hS (g_geq rfl rfl) ?_
    refine qqs rfl rfl hS (g_movev (v := .bool _) rfl) ?_
    refine qu rfl rfl hS (fun hg => (g_indexArr (o' := 1) Try.underlying56 Try.sizeOf21 rfl rfl (by decide) (by decide) rfl)) ?_
    intro u99 hu99 hn99
    refine qu rfl rfl hS (fun hg => (g_ldO1 4 Try.isAgg21 rfl (hu99 hg) rfl)) ?_
    intro u100 hu100 hn100
    refine qu rfl rfl hS (fun hg => (g_leq (hu100 hg) rfl)) ?_
    intro u101 hu101 hn101
    refine qqs rfl rfl hS (g_and rfl rfl (fun hq => hu101 hq)) ?_
    refine qqs rfl rfl hS (g_neqb Try.underlying4 rfl rfl) ?_
    refine qq hS (g_or rfl rfl (fun _ => rfl)) ?_
    refine ol_nil (thenN ?_)
    refine cond_f (congrArg Value.bool hcond) ?_
    refine wp_skip ?_
    refine thenN ?_
    refine wp_seq ?_
    refine reg ?_
    refine qq hS (g_ldO 5 (vs := [.int .u8 _, .slice _ _ _]) Try.sizeOf24 Try.isAgg24 rfl rfl rfl rfl) ?_
    refine qe (d_call Try.call11 rfl (made_c r ad cap4 l4 _ _ hS.imm h4 hq4 hr0 hr1)) ?_
    rintro _ w_41 ⟨I_f, a106, m106, c106, rfl, hE, h106⟩
    replace hS := hS.callE hE
    replace h4 := h4.mono hE.ext
    replace h2 := h2.mono hE.ext
    replace h26 := h26.mono hE.ext
    replace h9 := h9.mono hE.ext
    replace h10 := h10.mono hE.ext
    replace h11 := h11.mono hE.ext
    refine qe (d_alloc (cs := [.bool _, .int .i64 _, .int .i64 _, .slice _ _ _]) hS Try.zeroValue31 rfl) ?_
    clear hS
    rintro _ w_42 ⟨b20, rfl, hS⟩
    refine qe (d_store 0 hS Try.sizeOf31 rfl rfl rfl (vs := [.bool _, .int .i64 _, .int .i64 _, .slice _ _ _]) rfl rfl rfl (Nat.le_of_ble_eq_true rfl) (cs' := [_, _, _, _]) rfl) ?_
    clear hS
    rintro _ w_43 ⟨rfl, hS⟩
    refine ol_nil (thenN ?_)
    refine wp_seq ?_
    refine reg ?_
    refine qq hS (g_ldO 0 (vs := [.bool _, .int .i64 _, .int .i64 _, .slice _ _ _]) Try.sizeOf31 Try.isAgg31 rfl rfl rfl rfl) ?_
    refine qe (d_alloc (cs := [.bool _, .int .i64 _, .int .i64 _, .slice _ _ _]) hS Try.zeroValue31 rfl) ?_
    clear hS
    rintro _ w_44 ⟨b21, rfl, hS⟩
    refine qe (d_store 0 hS Try.sizeOf31 rfl rfl rfl (vs := [.bool _, .int .i64 _, .int .i64 _, .slice _ _ _]) rfl rfl rfl (Nat.le_of_ble_eq_true rfl) (cs' := [_, _, _, _]) rfl) ?_
    clear hS
    rintro _ w_45 ⟨rfl, hS⟩
    refine ol_nil (thenN ?_)
    refine wp_seq ?_
    refine reg ?_
    refine qq hS (g_fieldAddr (o' := 2) Try.underlying31 rfl Try.sizeOf3 rfl rfl rfl) ?_
    refine qq hS (g_ldO1 0 Try.isAgg3 rfl rfl rfl) ?_
    refine qq hS (g_indexArr (o' := 2) Try.underlying56 Try.sizeOf21 rfl rfl (by decide) (by decide) rfl) ?_
    refine qq hS (g_ldO1 6 Try.isAgg21 rfl rfl rfl) ?_
    refine qq hS (g_conv Try.underlying21 Try.underlying48 rfl) ?_
    refine qq hS (g_convi Try.underlying48 Try.underlying3 rfl (by first | omega | (have := u16_bd c0; omega) | (have := u16_bd c2; omega)) (by first | omega | (have := u16_bd c0; omega) | (have := u16_bd c2; omega))) ?_
    refine qq hS (g_add rfl rfl (by first | (have := u16_bd c0; omega) | (have := u16_bd c2; omega)) (by first | (have := u16_bd c0; omega) | (have := u16_bd c2; omega))) ?_
    refine qq hS (g_add rfl rfl (by have := u16_bd c2; have hmo2 : 0 ≤ sumL (opsRaw l4 (r % 13)) ∧ sumL (opsRaw l4 (r % 13)) ≤ 30 := hmo; show _ ≤ _; simp only [madeP]; omega) (by have := u16_bd c2; have hmo2 : 0 ≤ sumL (opsRaw l4 (r % 13)) ∧ sumL (opsRaw l4 (r % 13)) ≤ 30 := hmo; show _ ≤ _; simp only [madeP]; omega)) ?_
    refine qq hS (g_fieldAddr (o' := 2) Try.underlying31 rfl Try.sizeOf3 rfl rfl rfl) ?_
    refine qe (d_store 0 hS Try.sizeOf3 rfl rfl rfl (vs := [.int .i64 _]) rfl rfl rfl (Nat.le_of_ble_eq_true rfl) (cs' := [_, _, _, _]) rfl) ?_
    clear hS
    rintro _ w_46 ⟨rfl, hS⟩
    refine ol_nil (thenN ?_)
    refine wp_seq ?_
    refine reg ?_
    refine qq hS (g_ldO 0 (vs := [.bool _, .int .i64 _, .int .i64 _, .slice _ _ _]) Try.sizeOf31 Try.isAgg31 rfl rfl rfl rfl) ?_
    refine qe (d_call Try.call13 rfl (form_e (⟨false, r % 13, sumL (opsRaw l4 (r % 13)) + (1 + IntKind.u16.wrap c2), opsRaw l4 (r % 13)⟩ : PatL) a106 m106 c106 PatL.zero 60 _ _ hS.imm h106 hqw (by unfold formP; rw [hsq]; rfl))) ?_
    rintro _ w_47 ⟨I_f, a119, m119, c119, rfl, hE, h119⟩
    replace hS := hS.callE hE
    replace h4 := h4.mono hE.ext
    replace h2 := h2.mono hE.ext
    replace h26 := h26.mono hE.ext
    replace h9 := h9.mono hE.ext
    replace h10 := h10.mono hE.ext
    replace h11 := h11.mono hE.ext
    replace h106 := h106.mono hE.ext
    refine qq hS (g_move _) ?_
    refine qq hS (g_extract rfl rfl) ?_
    refine qq hS (g_extract (v := .int .i64 _) rfl rfl) ?_
    refine qe (d_alloc (cs := [.bool _, .int .i64 _, .int .i64 _, .slice _ _ _]) hS Try.zeroValue31 rfl) ?_
    clear hS
    rintro _ w_48 ⟨b22, rfl, hS⟩
    refine qe (d_store 0 hS Try.sizeOf31 rfl rfl rfl (vs := [.bool _, .int .i64 _, .int .i64 _, .slice _ _ _]) rfl rfl rfl (Nat.le_of_ble_eq_true rfl) (cs' := [_, _, _, _]) rfl) ?_
    clear hS
    rintro _ w_49 ⟨rfl, hS⟩
    refine qq hS (g_assignv (v := .int .i64 _) rfl) ?_
    refine ol_nil (thenN ?_)
    refine wp_seq ?_
    refine reg ?_
    refine qq hS (g_movev (v := .int .i64 _) rfl) ?_
    refine qq hS (g_eql rfl rfl) ?_
    refine qq hS (g_movev (v := .bool _) rfl) ?_
    refine qqs rfl rfl hS (g_ldO 0 (vs := [.bool _, .int .i64 _, .int .i64 _, .slice _ _ _]) Try.sizeOf31 Try.isAgg31 rfl rfl rfl rfl) ?_
    refine qqs rfl rfl hS (g_buildv (pl := [(0, 1), (1, 1), (2, 1), (3, 1)]) (cs := [.bool _, .int .i64 _, .int .i64 _, .slice _ _ _]) Try.zeroValue31 Try.underlying31 (fun w => by simp [Try.sizeOf29, Try.sizeOf3, Try.sizeOf4]) mp0 rfl) ?_
    refine qes rfl rfl (d_call Try.call17 rfl (sameR_e PatL.zero PatL.zero a119 none m119 c119 0 0 true _ _ hS.imm h119 zero_wf RSl.nilR zero_wf (by kernel_rfl))) ?_
    rintro _ w_50 ⟨rfl, hE⟩
    replace hS := hS.callE hE
    refine qq hS (g_and rfl rfl (fun _ => rfl)) ?_
    refine qq hS (g_movev (v := .bool _) rfl) ?_
    refine qqs rfl rfl hS (g_ldO 2 (vs := [.bool _, .int .i64 _, .int .i64 _, .slice _ _ _]) Try.sizeOf31 Try.isAgg31 rfl rfl rfl rfl) ?_
    refine qqs rfl rfl hS (g_ldO 1 (vs := [.bool _, .int .i64 _, .int .i64 _, .slice _ _ _]) Try.sizeOf31 Try.isAgg31 rfl rfl rfl rfl) ?_
    refine qes rfl rfl (d_call Try.call18 rfl (same_e (madeP l4 (r % 13)) (⟨false, r % 13, sumL (opsRaw l4 (r % 13)) + (1 + IntKind.u16.wrap c2), opsRaw l4 (r % 13)⟩ : PatL) a106 a106 m106 c106 m106 c106 false _ _ hS.imm h106 hpw h106 hqw (by unfold sameP; rw [hsq]; simp))) ?_
    rintro _ w_51 ⟨I_f, rfl, hE⟩
    replace hS := hS.callE hE
    replace h4 := h4.mono hE.ext
    replace h2 := h2.mono hE.ext
    replace h26 := h26.mono hE.ext
    replace h9 := h9.mono hE.ext
    replace h10 := h10.mono hE.ext
    replace h11 := h11.mono hE.ext
    replace h106 := h106.mono hE.ext
    replace h119 := h119.mono hE.ext
    refine qqs rfl rfl hS (g_not rfl) ?_
    refine qq hS (g_and rfl rfl (fun _ => rfl)) ?_
    refine qq hS (g_movev (v := .bool _) rfl) ?_
    refine qqs rfl rfl hS (g_ldO 1 (vs := [.bool _, .int .i64 _, .int .i64 _, .slice _ _ _]) Try.sizeOf31 Try.isAgg31 rfl rfl rfl rfl) ?_
    refine qqs rfl rfl hS (g_ldO 1 (vs := [.bool _, .int .i64 _, .int .i64 _, .slice _ _ _]) Try.sizeOf31 Try.isAgg31 rfl rfl rfl rfl) ?_
    refine qes rfl rfl (d_call Try.call18 rfl (same_e (⟨false, r % 13, sumL (opsRaw l4 (r % 13)) + (1 + IntKind.u16.wrap c2), opsRaw l4 (r % 13)⟩ : PatL) (⟨false, r % 13, sumL (opsRaw l4 (r % 13)) + (1 + IntKind.u16.wrap c2), opsRaw l4 (r % 13)⟩ : PatL) a106 a106 m106 c106 m106 c106 false _ _ hS.imm h106 hqw h106 hqw (by unfold sameP; rw [hsq]; simp))) ?_
    rintro _ w_52 ⟨I_f, rfl, hE⟩
    replace hS := hS.callE hE
    replace h4 := h4.mono hE.ext
    replace h2 := h2.mono hE.ext
    replace h26 := h26.mono hE.ext
    replace h9 := h9.mono hE.ext
    replace h10 := h10.mono hE.ext
    replace h11 := h11.mono hE.ext
    replace h106 := h106.mono hE.ext
    replace h119 := h119.mono hE.ext
    refine qqs rfl rfl hS (g_not rfl) ?_
    refine qq hS (g_and rfl rfl (fun _ => rfl)) ?_
    refine qq hS (g_movev (v := .bool _) rfl) ?_
    refine qqs rfl rfl hS (g_movev (v := .bool _) rfl) ?_
    refine qq hS (g_and rfl rfl (fun _ => rfl)) ?_
    refine qq hS (g_assignv (v := .bool _) rfl) ?_
    refine ol_nil (thenN ?_)
    refine wp_ret ?_
    refine ret1 Try.results7 (rv_tmp (v := .bool _) rfl) ?_
    exact ⟨_, rfl, hS.nil⟩

end Go.Proofs.Ytaoodcchleaoeaa
