/- inlaylaw12.SplitLifted: its function answers true. Conditions: arguments are of their kinds. -/
import Derived.Test.YthningkgpanaoaaBase12
namespace Go.Proofs.Ythningkgpanaoaa
open Go Go.RowKit Go.Inl
set_option linter.unusedSimpArgs false
set_option linter.unusedVariables false
theorem joinP_ok {l : List PatL} {b : Bool} {n : Int} (hn : l ≠ []) (hc : ∀ p ∈ l, (checkP p).2 = 0) (hl : ∀ p ∈ l, p.lifted = b) (hi : ∀ p ∈ l, p.in_ = n) (hs : sumO l ≤ 4096) : joinP l = (formOf b n (flatS l), 0) := by
  obtain ⟨f, r, rfl⟩ := List.exists_cons_of_ne_nil hn
  have hf : firstP (f :: r) = f := rfl
  rw [join_good hn hc, hf]
  have h1 := hl f (by simp)
  have h2 := hi f (by simp)
  rw [if_neg (by rw [all_eq fun p hp => by rw [hl p hp, h1]; simp]; decide), if_neg (by rw [all_eq fun p hp => by rw [hi p hp, h2]; simp]; simp; omega)]
  have h3 := checkP_ok (hc f (by simp))
  have h4 := flat_len hc
  have h5 : cheapP (flatS (f :: r)) n = (formOf false n (flatS (f :: r)), 0) := cheapP_ok (by omega) (by show ((flatS (f :: r)).length) ≤ 4096; unfold flatS; omega) (flat_ok hc hi)
  change cheapP ((f :: r).flatMap fun p => symsOf p.ops) n = _ at h5
  rw [h2, h5, h1]
  rfl
theorem joinP_kind {l : List PatL} (hn : l ≠ []) (hc : ∀ p ∈ l, (checkP p).2 = 0) {q : PatL} (hq : q ∈ l) (hl : q.lifted ≠ (firstP l).lifted) : joinP l = (PatL.zero, 62) := by
  rw [join_good hn hc, if_pos (List.any_eq_true.2 ⟨q, hq, by simpa using hl⟩)]
theorem two_mem {α : Type} {q : α → Prop} {a b : α} (h1 : q a) (h2 : q b) : ∀ x ∈ [a, b], q x := by
  intro x hx
  simp only [List.mem_cons, List.not_mem_nil, or_false] at hx
  rcases hx with rfl | rfl
  · exact h1
  · exact h2

set_option maxRecDepth 20000 in
set_option maxHeartbeats 4000000 in
theorem slifted_c (r s n : Int) (ad bd : Option Addr) (cap capb : Nat) (l lb : List Q4) (w0 : World) (I0 : Imm) (hI : Sat I0 w0) (hr : 0 ≤ r ∧ r ≤ 255) (h4 : RFl I0 4 q4C (.slice ad l.length cap) l) (hq : ∀ q ∈ l, q.wf) (h5 : RFl I0 4 q4C (.slice bd lb.length capb) lb) (hqb : ∀ q ∈ lb, q.wf) (hn : 0 ≤ n ∧ n ≤ 255) :
    Ctr Try.prog 10 [.agg #[.int .u8 r, .slice ad l.length cap, .int .u8 s, .slice bd lb.length capb], .int .u8 n] w0 (fun v w' => ∃ I', v = .bool true ∧ Ext w0 I0 w' I') := by
  have hr13 : 0 ≤ r % 13 ∧ r % 13 ≤ 65536 := by omega
  have hpw := madeP_wf (size := r % 13) hq hr13
  obtain ⟨hpk, hpo, hpl⟩ := madeP_ok (size := r % 13) hq hr13
  have hpf : (madeP l (r % 13)).lifted = false := rfl
  have hpi : (madeP l (r % 13)).in_ = r % 13 := rfl
  obtain ⟨p, hp⟩ : ∃ p, madeP l (r % 13) = p := ⟨_, rfl⟩
  rw [hp] at hpw hpk hpo hpl hpf hpi
  have hs : 0 ≤ p.in_ ∧ p.in_ ≤ 65536 := by omega
  have hqw := madeP_wf (size := p.in_) hqb hs
  obtain ⟨hqk, hqo, hql⟩ := madeP_ok (size := p.in_) hqb hs
  have hqi : (madeP lb p.in_).in_ = p.in_ := rfl
  have hqf : (madeP lb p.in_).lifted = false := rfl
  obtain ⟨q, hqe⟩ : ∃ q, madeP lb p.in_ = q := ⟨_, rfl⟩
  rw [hqe] at hqw hqk hqo hql hqi hqf
  have hPk : (checkP ⟨true, p.in_, p.out, p.ops⟩).2 = 0 := hpk
  have hQk : (checkP ⟨true, q.in_, q.out, q.ops⟩).2 = 0 := hqk
  have hPw : PatL.wf ⟨true, p.in_, p.out, p.ops⟩ := ⟨hpw.in_, hpw.out, hpw.ops, hpw.len⟩
  have hQw : PatL.wf ⟨true, q.in_, q.out, q.ops⟩ := ⟨hqw.in_, hqw.out, hqw.ops, hqw.len⟩
  obtain ⟨F, hF⟩ : ∃ F, flatS [p, q] = F := ⟨_, rfl⟩
  have hj1 : joinP [p, q] = (formOf false p.in_ F, 0) := by rw [← hF]; exact joinP_ok (by simp) (two_mem hpk hqk) (two_mem hpf hqf) (two_mem rfl hqi) (by simp [sumO]; omega)
  have hj2 : joinP [⟨true, p.in_, p.out, p.ops⟩, q] = (PatL.zero, 62) := joinP_kind (by simp) (two_mem hPk hqk) (q := q) (by simp) (by rw [hqf]; simp [firstP])
  have hj3 : joinP [⟨true, p.in_, p.out, p.ops⟩, ⟨true, q.in_, q.out, q.ops⟩] = (formOf true p.in_ F, 0) := by
    have h : joinP [⟨true, p.in_, p.out, p.ops⟩, ⟨true, q.in_, q.out, q.ops⟩] = (formOf true p.in_ (flatS [⟨true, p.in_, p.out, p.ops⟩, ⟨true, q.in_, q.out, q.ops⟩]), 0) := joinP_ok (by simp) (two_mem hPk hQk) (two_mem rfl rfl) (two_mem rfl hqi) (by simp [sumO]; omega)
    rw [h, ← hF]; rfl
  have hFw : (formOf true p.in_ F).wf := by
    have h := joinP_wf (two_mem hPw hQw)
    rw [hj3] at h; exact h
  have hpl : plainP ⟨true, p.in_, p.out, p.ops⟩ = 62 := plain_lif hPk rfl
  refine fn (n := 90) Try.func10 rfl rfl rfl ?_
  have hS := St.start hI
  refine wpIn_seq ?_
  refine reg ?_
  refine qe (d_box (cs := [.int .u8 _, .slice _ _ _, .int .u8 _, .slice _ _ _]) hS rfl) ?_
  clear hS
  rintro _ w_1 ⟨b2, rfl, hS⟩
  refine qq hS (g_assignv (v := .bool _) rfl) ?_
  refine ol_nil (thenN ?_)
  refine wpIn_seq ?_
  refine reg ?_
  refine qe (d_call Try.call34 rfl (sanity12_c _ _ hS.imm)) ?_
  rintro _ w_2 ⟨I_f, rfl, hE⟩
  replace hS := hS.callE hE
  replace h4 := h4.mono hE.ext
  replace h5 := h5.mono hE.ext
  refine qq hS (g_assignv (v := .bool _) rfl) ?_
  refine ol_nil (thenN ?_)
  refine wpIn_seq ?_
  refine reg ?_
  refine qq hS (g_indexArr (o' := 0) Try.underlying48 Try.sizeOf47 rfl rfl (by decide) (by decide) rfl) ?_
  refine qq hS (g_ldO 0 (vs := [.int .u8 _, .slice _ _ _]) Try.sizeOf47 Try.isAgg47 rfl rfl rfl rfl) ?_
  refine qe (d_call Try.call24 rfl (made_t r ad cap l p _ _ hS.imm h4 hq hr hp)) ?_
  rintro _ w_3 ⟨I_f, a21, m21, c21, rfl, hE, h21⟩
  replace hS := hS.callE hE
  replace h4 := h4.mono hE.ext
  replace h5 := h5.mono hE.ext
  refine qe (d_alloc (cs := [.bool _, .int .i64 _, .int .i64 _, .slice _ _ _]) hS Try.zeroValue31 rfl) ?_
  clear hS
  rintro _ w_4 ⟨b6, rfl, hS⟩
  refine qe (d_store 0 hS Try.sizeOf31 rfl rfl rfl (vs := [.bool _, .int .i64 _, .int .i64 _, .slice _ _ _]) rfl rfl rfl (Nat.le_of_ble_eq_true rfl) (cs' := [_, _, _, _]) rfl) ?_
  clear hS
  rintro _ w_5 ⟨rfl, hS⟩
  refine ol_nil (thenN ?_)
  refine wpIn_seq ?_
  refine reg ?_
  refine qq hS (g_indexArr (o' := 2) Try.underlying48 Try.sizeOf47 rfl rfl (by decide) (by decide) rfl) ?_
  refine qq hS (g_ldO 1 (vs := [.int .u8 _, .slice _ _ _]) Try.sizeOf47 Try.isAgg47 rfl rfl rfl rfl) ?_
  refine qq hS (g_fieldAddr (o' := 1) Try.underlying31 rfl Try.sizeOf3 rfl rfl rfl) ?_
  refine qq hS (g_ldO1 0 Try.isAgg3 rfl rfl rfl) ?_
  refine qe (d_call Try.call25 rfl (sized_E s bd capb lb p.in_ q _ _ hS.imm h5 hqb hs hqe)) ?_
  rintro _ w_6 ⟨I_f, a26, m26, c26, rfl, hE, h26⟩
  replace hS := hS.callE hE
  replace h4 := h4.mono hE.ext
  replace h5 := h5.mono hE.ext
  replace h21 := h21.mono hE.ext
  refine qe (d_alloc (cs := [.bool _, .int .i64 _, .int .i64 _, .slice _ _ _]) hS Try.zeroValue31 rfl) ?_
  clear hS
  rintro _ w_7 ⟨b7, rfl, hS⟩
  refine qe (d_store 0 hS Try.sizeOf31 rfl rfl rfl (vs := [.bool _, .int .i64 _, .int .i64 _, .slice _ _ _]) rfl rfl rfl (Nat.le_of_ble_eq_true rfl) (cs' := [_, _, _, _]) rfl) ?_
  clear hS
  rintro _ w_8 ⟨rfl, hS⟩
  refine ol_nil (thenN ?_)
  refine wpIn_seq ?_
  refine reg ?_
  refine qq hS (g_ldO 1 (vs := [.bool _, .int .i64 _, .int .i64 _, .slice _ _ _]) Try.sizeOf31 Try.isAgg31 rfl rfl rfl rfl) ?_
  refine qq hS (g_ldO 0 (vs := [.bool _, .int .i64 _, .int .i64 _, .slice _ _ _]) Try.sizeOf31 Try.isAgg31 rfl rfl rfl rfl) ?_
  refine qe (d_lit (vs := [.agg #[.bool _, .int .i64 _, .int .i64 _, .slice _ _ _], .agg #[.bool _, .int .i64 _, .int .i64 _, .slice _ _ _]]) (cs := [.bool _, .int .i64 _, .int .i64 _, .slice _ _ _, .bool _, .int .i64 _, .int .i64 _, .slice _ _ _]) hS Try.underlying27 Try.sizeOf31 Try.zeroValue31 rfl rfl rfl rfl (fun v hv => by simp only [List.mem_cons, List.not_mem_nil, or_false] at hv; rcases hv with rfl | rfl <;> rfl) rfl) ?_
  clear hS
  rintro _ w_9 ⟨b30, rfl, hS⟩
  have hF := hS.freeze1
  clear hS
  obtain ⟨I30, hS, hI30, hb30⟩ := hF
  replace h4 := h4.mono hI30
  replace h5 := h5.mono hI30
  replace h21 := h21.mono hI30
  replace h26 := h26.mono hI30
  have h30 : RPats _ (.slice (some ⟨b30, 0, none⟩) 2 2) [p, q] := RSl.ofAt (css := [[.bool p.lifted, .int .i64 p.in_, .int .i64 p.out, .slice a21 m21 c21], [.bool q.lifted, .int .i64 q.in_, .int .i64 q.out, .slice a26 m26 c26]]) hb30 rfl (by simp) (All2.two ⟨_, _, _, rfl, h21⟩ ⟨_, _, _, rfl, h26⟩) rfl (by show 2 ≤ maxLen; decide)
  refine qe (d_call Try.call41 rfl (join_L [p, q] false p.in_ F.length (optL F) 0 _ _ _ _ _ hS.imm h30 rfl (two_mem hpw hqw) (by simp) hj1)) ?_
  rintro _ w_10 ⟨I_f, a31, m31, c31, rfl, hE, h31⟩
  replace hS := hS.callE hE
  replace h4 := h4.mono hE.ext
  replace h5 := h5.mono hE.ext
  replace h21 := h21.mono hE.ext
  replace h26 := h26.mono hE.ext
  replace h30 := h30.mono hE.ext
  refine qq hS (g_move _) ?_
  refine qq hS (g_extract rfl rfl) ?_
  refine qq hS (g_extract (v := .int .i64 _) rfl rfl) ?_
  refine qe (d_alloc (cs := [.bool _, .int .i64 _, .int .i64 _, .slice _ _ _]) hS Try.zeroValue31 rfl) ?_
  clear hS
  rintro _ w_11 ⟨b8, rfl, hS⟩
  refine qe (d_store 0 hS Try.sizeOf31 rfl rfl rfl (vs := [.bool _, .int .i64 _, .int .i64 _, .slice _ _ _]) rfl rfl rfl (Nat.le_of_ble_eq_true rfl) (cs' := [_, _, _, _]) rfl) ?_
  clear hS
  rintro _ w_12 ⟨rfl, hS⟩
  refine qq hS (g_assignv (v := .int .i64 _) rfl) ?_
  refine ol_nil (thenN ?_)
  refine wpIn_seq ?_
  refine reg ?_
  refine qq hS (g_fieldAddr (o' := 0) Try.underlying31 rfl Try.sizeOf4 rfl rfl rfl) ?_
  refine qe (d_store 2 hS Try.sizeOf4 rfl rfl rfl (vs := [.bool _]) rfl rfl rfl (Nat.le_of_ble_eq_true rfl) (cs' := [_, _, _, _]) rfl) ?_
  clear hS
  rintro _ w_13 ⟨rfl, hS⟩
  refine ol_nil (thenN ?_)
  refine wpIn_seq ?_
  refine reg ?_
  refine qq hS (g_ldO 2 (vs := [.bool _, .int .i64 _, .int .i64 _, .slice _ _ _]) Try.sizeOf31 Try.isAgg31 rfl rfl rfl rfl) ?_
  refine qq hS (g_ldO 1 (vs := [.bool _, .int .i64 _, .int .i64 _, .slice _ _ _]) Try.sizeOf31 Try.isAgg31 rfl rfl rfl rfl) ?_
  refine qe (d_lit (vs := [.agg #[.bool _, .int .i64 _, .int .i64 _, .slice _ _ _], .agg #[.bool _, .int .i64 _, .int .i64 _, .slice _ _ _]]) (cs := [.bool _, .int .i64 _, .int .i64 _, .slice _ _ _, .bool _, .int .i64 _, .int .i64 _, .slice _ _ _]) hS Try.underlying27 Try.sizeOf31 Try.zeroValue31 rfl rfl rfl rfl (fun v hv => by simp only [List.mem_cons, List.not_mem_nil, or_false] at hv; rcases hv with rfl | rfl <;> rfl) rfl) ?_
  clear hS
  rintro _ w_14 ⟨b38, rfl, hS⟩
  have hF := hS.freeze1
  clear hS
  obtain ⟨I38, hS, hI38, hb38⟩ := hF
  replace h4 := h4.mono hI38
  replace h5 := h5.mono hI38
  replace h21 := h21.mono hI38
  replace h26 := h26.mono hI38
  replace h30 := h30.mono hI38
  replace h31 := h31.mono hI38
  have h38 : RPats _ (.slice (some ⟨b38, 0, none⟩) 2 2) [⟨true, p.in_, p.out, p.ops⟩, q] := RSl.ofAt (css := [[.bool true, .int .i64 p.in_, .int .i64 p.out, .slice a21 m21 c21], [.bool q.lifted, .int .i64 q.in_, .int .i64 q.out, .slice a26 m26 c26]]) hb38 rfl (by simp) (All2.two ⟨_, _, _, rfl, h21⟩ ⟨_, _, _, rfl, h26⟩) rfl (by show 2 ≤ maxLen; decide)
  refine qe (d_call Try.call41 rfl (join_L [⟨true, p.in_, p.out, p.ops⟩, q] false 0 0 [] 62 _ _ _ _ _ hS.imm h38 rfl (two_mem hPw hqw) (by simp) hj2)) ?_
  rintro _ w_15 ⟨I_f, a39, m39, c39, rfl, hE, h39⟩
  replace hS := hS.callE hE
  replace h4 := h4.mono hE.ext
  replace h5 := h5.mono hE.ext
  replace h21 := h21.mono hE.ext
  replace h26 := h26.mono hE.ext
  replace h30 := h30.mono hE.ext
  replace h31 := h31.mono hE.ext
  replace h38 := h38.mono hE.ext
  refine qq hS (g_move _) ?_
  refine qq hS (g_extract rfl rfl) ?_
  refine qq hS (g_extract (v := .int .i64 _) rfl rfl) ?_
  refine qe (d_alloc (cs := [.bool _, .int .i64 _, .int .i64 _, .slice _ _ _]) hS Try.zeroValue31 rfl) ?_
  clear hS
  rintro _ w_16 ⟨b10, rfl, hS⟩
  refine qe (d_store 0 hS Try.sizeOf31 rfl rfl rfl (vs := [.bool _, .int .i64 _, .int .i64 _, .slice _ _ _]) rfl rfl rfl (Nat.le_of_ble_eq_true rfl) (cs' := [_, _, _, _]) rfl) ?_
  clear hS
  rintro _ w_17 ⟨rfl, hS⟩
  refine qq hS (g_assignv (v := .int .i64 _) rfl) ?_
  refine ol_nil (thenN ?_)
  refine wpIn_seq ?_
  refine reg ?_
  refine qq hS (g_fieldAddr (o' := 0) Try.underlying31 rfl Try.sizeOf4 rfl rfl rfl) ?_
  refine qe (d_store 2 hS Try.sizeOf4 rfl rfl rfl (vs := [.bool _]) rfl rfl rfl (Nat.le_of_ble_eq_true rfl) (cs' := [_, _, _, _]) rfl) ?_
  clear hS
  rintro _ w_18 ⟨rfl, hS⟩
  refine ol_nil (thenN ?_)
  refine wpIn_seq ?_
  refine reg ?_
  refine qq hS (g_ldO 3 (vs := [.bool _, .int .i64 _, .int .i64 _, .slice _ _ _]) Try.sizeOf31 Try.isAgg31 rfl rfl rfl rfl) ?_
  refine qq hS (g_ldO 2 (vs := [.bool _, .int .i64 _, .int .i64 _, .slice _ _ _]) Try.sizeOf31 Try.isAgg31 rfl rfl rfl rfl) ?_
  refine qe (d_lit (vs := [.agg #[.bool _, .int .i64 _, .int .i64 _, .slice _ _ _], .agg #[.bool _, .int .i64 _, .int .i64 _, .slice _ _ _]]) (cs := [.bool _, .int .i64 _, .int .i64 _, .slice _ _ _, .bool _, .int .i64 _, .int .i64 _, .slice _ _ _]) hS Try.underlying27 Try.sizeOf31 Try.zeroValue31 rfl rfl rfl rfl (fun v hv => by simp only [List.mem_cons, List.not_mem_nil, or_false] at hv; rcases hv with rfl | rfl <;> rfl) rfl) ?_
  clear hS
  rintro _ w_19 ⟨b46, rfl, hS⟩
  have hF := hS.freeze1
  clear hS
  obtain ⟨I46, hS, hI46, hb46⟩ := hF
  replace h4 := h4.mono hI46
  replace h5 := h5.mono hI46
  replace h21 := h21.mono hI46
  replace h26 := h26.mono hI46
  replace h30 := h30.mono hI46
  replace h31 := h31.mono hI46
  replace h38 := h38.mono hI46
  replace h39 := h39.mono hI46
  have h46 : RPats _ (.slice (some ⟨b46, 0, none⟩) 2 2) [⟨true, p.in_, p.out, p.ops⟩, ⟨true, q.in_, q.out, q.ops⟩] := RSl.ofAt (css := [[.bool true, .int .i64 p.in_, .int .i64 p.out, .slice a21 m21 c21], [.bool true, .int .i64 q.in_, .int .i64 q.out, .slice a26 m26 c26]]) hb46 rfl (by simp) (All2.two ⟨_, _, _, rfl, h21⟩ ⟨_, _, _, rfl, h26⟩) rfl (by show 2 ≤ maxLen; decide)
  refine qe (d_call Try.call41 rfl (join_L [⟨true, p.in_, p.out, p.ops⟩, ⟨true, q.in_, q.out, q.ops⟩] true p.in_ F.length (optL F) 0 _ _ _ _ _ hS.imm h46 rfl (two_mem hPw hQw) (by simp) hj3)) ?_
  rintro _ w_20 ⟨I_f, a47, m47, c47, rfl, hE, h47⟩
  replace hS := hS.callE hE
  replace h4 := h4.mono hE.ext
  replace h5 := h5.mono hE.ext
  replace h21 := h21.mono hE.ext
  replace h26 := h26.mono hE.ext
  replace h30 := h30.mono hE.ext
  replace h31 := h31.mono hE.ext
  replace h38 := h38.mono hE.ext
  replace h39 := h39.mono hE.ext
  replace h46 := h46.mono hE.ext
  refine qq hS (g_move _) ?_
  refine qq hS (g_extract rfl rfl) ?_
  refine qq hS (g_extract (v := .int .i64 _) rfl rfl) ?_
  refine qe (d_alloc (cs := [.bool _, .int .i64 _, .int .i64 _, .slice _ _ _]) hS Try.zeroValue31 rfl) ?_
  clear hS
  rintro _ w_21 ⟨b12, rfl, hS⟩
  refine qe (d_store 0 hS Try.sizeOf31 rfl rfl rfl (vs := [.bool _, .int .i64 _, .int .i64 _, .slice _ _ _]) rfl rfl rfl (Nat.le_of_ble_eq_true rfl) (cs' := [_, _, _, _]) rfl) ?_
  clear hS
  rintro _ w_22 ⟨rfl, hS⟩
  refine qq hS (g_assignv (v := .int .i64 _) rfl) ?_
  refine ol_nil (thenN ?_)
  refine wpIn_seq ?_
  refine reg ?_
  refine qq hS (g_ldO 4 (vs := [.bool _, .int .i64 _, .int .i64 _, .slice _ _ _]) Try.sizeOf31 Try.isAgg31 rfl rfl rfl rfl) ?_
  refine qq hS (g_movev (v := .int .u8 _) rfl) ?_
  refine qq hS (g_convi Try.underlying5 Try.underlying3 rfl (by omega) (by omega)) ?_
  refine qq hS (g_add rfl rfl (by omega) (by omega)) ?_
  refine qe (d_call Try.call39 rfl (sectors_L ⟨true, p.in_, p.out, p.ops⟩ _ [] 62 0 _ _ _ _ _ hS.imm h21 hPw (by show p.out ≤ 4096; omega) (by unfold Mid; omega) (by unfold sectorsP; rw [hpl]; rfl) rfl)) ?_
  rintro _ w_23 ⟨I_f, a55, c55, rfl, hE, h55⟩
  replace hS := hS.callE hE
  replace h4 := h4.mono hE.ext
  replace h5 := h5.mono hE.ext
  replace h21 := h21.mono hE.ext
  replace h26 := h26.mono hE.ext
  replace h30 := h30.mono hE.ext
  replace h31 := h31.mono hE.ext
  replace h38 := h38.mono hE.ext
  replace h39 := h39.mono hE.ext
  replace h46 := h46.mono hE.ext
  replace h47 := h47.mono hE.ext
  refine qq hS (g_move _) ?_
  refine qq hS (g_extract rfl rfl) ?_
  refine qq hS (g_extract (v := .int .i64 _) rfl rfl) ?_
  refine qq hS (g_assign _) ?_
  refine qq hS (g_assignv (v := .int .i64 _) rfl) ?_
  refine ol_nil (thenN ?_)
  refine wpIn_seq ?_
  refine reg ?_
  refine qq hS (g_ldO 4 (vs := [.bool _, .int .i64 _, .int .i64 _, .slice _ _ _]) Try.sizeOf31 Try.isAgg31 rfl rfl rfl rfl) ?_
  refine qe (d_call Try.call37 rfl (split_L ⟨true, p.in_, p.out, p.ops⟩ [] [] 62 0 _ none _ _ 0 0 _ _ hS.imm h21 hPw (by show p.out ≤ 4096; omega) RFl.nil rfl secsOk_nil (by unfold splitP; rw [hpl]; rfl) rfl)) ?_
  rintro _ w_24 ⟨I_f, a60, c60, rfl, hE, h60⟩
  replace hS := hS.callE hE
  replace h4 := h4.mono hE.ext
  replace h5 := h5.mono hE.ext
  replace h21 := h21.mono hE.ext
  replace h26 := h26.mono hE.ext
  replace h30 := h30.mono hE.ext
  replace h31 := h31.mono hE.ext
  replace h38 := h38.mono hE.ext
  replace h39 := h39.mono hE.ext
  replace h46 := h46.mono hE.ext
  replace h47 := h47.mono hE.ext
  replace h55 := h55.mono hE.ext
  refine qq hS (g_move _) ?_
  refine qq hS (g_extract rfl rfl) ?_
  refine qq hS (g_extract (v := .int .i64 _) rfl rfl) ?_
  refine qq hS (g_assign _) ?_
  refine qq hS (g_assignv (v := .int .i64 _) rfl) ?_
  refine ol_nil (thenN ?_)
  refine wpIn_seq ?_
  refine reg ?_
  refine qq hS (g_fieldAddr (o' := 0) Try.underlying31 rfl Try.sizeOf4 rfl rfl rfl) ?_
  refine qe (d_store 2 hS Try.sizeOf4 rfl rfl rfl (vs := [.bool _]) rfl rfl rfl (Nat.le_of_ble_eq_true rfl) (cs' := [_, _, _, _]) rfl) ?_
  clear hS
  rintro _ w_25 ⟨rfl, hS⟩
  refine ol_nil (thenN ?_)
  refine wpIn_seq ?_
  refine reg ?_
  refine qq hS (g_movev (v := .int .i64 _) rfl) ?_
  refine qq hS (g_eql rfl rfl) ?_
  refine qq hS (g_movev (v := .bool _) rfl) ?_
  refine qqs rfl rfl hS (g_movev (v := .int .i64 _) rfl) ?_
  refine qqs rfl rfl hS (g_eql rfl rfl) ?_
  refine qq hS (g_and rfl rfl (fun _ => rfl)) ?_
  refine qq hS (g_movev (v := .bool _) rfl) ?_
  refine qqs rfl rfl hS (g_movev (v := .int .i64 _) rfl) ?_
  refine qqs rfl rfl hS (g_eql rfl rfl) ?_
  refine qq hS (g_and rfl rfl (fun _ => rfl)) ?_
  refine qq hS (g_movev (v := .bool _) rfl) ?_
  refine qqs rfl rfl hS (g_ldO 0 (vs := [.bool _, .int .i64 _, .int .i64 _, .slice _ _ _]) Try.sizeOf31 Try.isAgg31 rfl rfl rfl rfl) ?_
  refine qqs rfl rfl hS (g_ldO 2 (vs := [.bool _, .int .i64 _, .int .i64 _, .slice _ _ _]) Try.sizeOf31 Try.isAgg31 rfl rfl rfl rfl) ?_
  refine qes rfl rfl (d_call Try.call16 rfl (same_T (formOf true p.in_ F) _ _ _ _ _ _ _ _ hS.imm h47 h31 hFw)) ?_
  rintro _ w_26 ⟨rfl, hE⟩
  replace hS := hS.callE hE
  refine qq hS (g_and rfl rfl (fun _ => rfl)) ?_
  refine qq hS (g_movev (v := .bool _) rfl) ?_
  refine qqs rfl rfl hS (g_movev (v := .int .i64 _) rfl) ?_
  refine qqs rfl rfl hS (g_eql rfl rfl) ?_
  refine qq hS (g_and rfl rfl (fun _ => rfl)) ?_
  refine qq hS (g_movev (v := .bool _) rfl) ?_
  refine qqs rfl rfl hS (g_movev (v := .int .i64 _) rfl) ?_
  refine qqs rfl rfl hS (g_eql rfl rfl) ?_
  refine qq hS (g_and rfl rfl (fun _ => rfl)) ?_
  refine qq hS (g_movev (v := .bool _) rfl) ?_
  refine qqs rfl rfl hS (g_movev (v := .bool _) rfl) ?_
  refine qq hS (g_and rfl rfl (fun _ => rfl)) ?_
  refine qq hS (g_assignv (v := .bool _) rfl) ?_
  refine ol_nil (thenN ?_)
  refine wpIn_ret ?_
  refine ret1 Try.results10 (rv_tmp (v := .bool _) rfl) ?_
  exact ⟨_, rfl, hS.nil⟩

end Go.Proofs.Ythningkgpanaoaa

