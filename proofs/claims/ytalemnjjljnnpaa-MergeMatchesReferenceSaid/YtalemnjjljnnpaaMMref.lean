/- inlaylaw11.MergeMatchesReference: its function answers true. Conditions: arguments are of their kinds. -/
import Derived.Test.YtalemnjjljnnpaaMClashes
namespace Go.Proofs.Ytalemnjjljnnpaa
open Go Go.RowKit Go.Inl
set_option linter.unusedSimpArgs false
set_option linter.unusedVariables false
theorem four_mem {α : Type} {q : α → Prop} {a b c d : α} (h1 : q a) (h2 : q b) (h3 : q c) (h4 : q d) : ∀ x ∈ [a, b, c, d], q x := by
  intro x hx
  simp only [List.mem_cons, List.not_mem_nil, or_false] at hx
  rcases hx with rfl | rfl | rfl | rfl
  · exact h1
  · exact h2
  · exact h3
  · exact h4
def oneOut : PatL := ⟨false, 0, 1, []⟩
def lifO (b : Bool) (p : PatL) : PatL := ⟨b, p.in_, p.out, p.ops⟩
theorem lifO_wf {b : Bool} {p : PatL} (h : p.wf) : (lifO b p).wf := ⟨h.in_, h.out, h.ops, h.len⟩
theorem mergeP_wfA {p q : PatL} (hp : p.wf) (hq : q.wf) : (mergeP p q).1.wf := by
  unfold mergeP
  split
  · exact zero_wf
  · rename_i hk
    have hck := checkM_all (Decidable.not_not.1 hk)
    have hcp := hck.1 p (by simp)
    have hcq := hck.1 q (by simp)
    have h1 := symsP_len hcp
    have h2 := symsP_len hcq
    have h3 := hck.2.2 p (by simp)
    have h4 := hck.2.2 q (by simp)
    have h5 : q.in_ = p.in_ := h4.2
    split
    · exact zero_wf
    · dsimp only
      split
      · exact zero_wf
      · have h := cheapP_wf (n := p.in_) (mergeS_wf (by omega) (symsP_wf hp hcp) (symsP_wf hq hcq))
        exact ⟨h.in_, h.out, h.ops, h.len⟩
theorem commuteP_wf {p q : PatL} (hp : p.wf) (hq : q.wf) : (commuteP p q).q.wf ∧ (commuteP p q).p.wf := by
  unfold commuteP
  split
  · exact ⟨zero_wf, zero_wf⟩
  · split
    · exact ⟨zero_wf, zero_wf⟩
    · split
      · exact ⟨zero_wf, zero_wf⟩
      · exact ⟨form_wf hq, form_wf hp⟩
theorem exchanged_M (p : PatL) (ad : Option Addr) (m cap : Nat) (q : PatL) (bd : Option Addr) (n capb : Nat) (A : ExcL) (w0 : World) (I0 : Imm) (hI : Sat I0 w0) (hp : p.wf) (hpo : ROps I0 (.slice ad m cap) p.ops) (hq : q.wf) (hqo : ROps I0 (.slice bd n capb) q.ops) (he : commuteP p q = A) :
    Ctr Try.prog 22 [.agg #[.bool p.lifted, .int .i64 p.in_, .int .i64 p.out, .slice ad m cap], .agg #[.bool q.lifted, .int .i64 q.in_, .int .i64 q.out, .slice bd n capb]] w0 (fun v w' => ∃ I' a m c b n d, v = .agg #[.bool A.q.lifted, .int .i64 A.q.in_, .int .i64 A.q.out, .slice a m c, .bool A.p.lifted, .int .i64 A.p.in_, .int .i64 A.p.out, .slice b n d, .int .i64 A.e] ∧ Ext w0 I0 w' I' ∧ ROps I' (.slice a m c) A.q.ops ∧ ROps I' (.slice b n d) A.p.ops) := exchanged_E p ad m cap q bd n capb A w0 I0 hI hp hpo hq hqo he

set_option maxRecDepth 20000 in
set_option maxHeartbeats 4000000 in
theorem mmref_c (r s u t : Int) (ad bd cd : Option Addr) (cap capb capc : Nat) (l lb lc : List Q4) (w0 : World) (I0 : Imm) (hI : Sat I0 w0) (hr : 0 ≤ r ∧ r ≤ 255) (hu : 0 ≤ u ∧ u ≤ 255) (ht : 0 ≤ t ∧ t ≤ 255) (h4 : RFl I0 4 q4C (.slice ad l.length cap) l) (hq : ∀ q ∈ l, q.wf) (h5 : RFl I0 4 q4C (.slice bd lb.length capb) lb) (hqb : ∀ q ∈ lb, q.wf) (h6 : RFl I0 4 q4C (.slice cd lc.length capc) lc) (hqc : ∀ q ∈ lc, q.wf) :
    Ctr Try.prog 3 [.agg #[.int .u8 r, .slice ad l.length cap, .int .u8 s, .slice bd lb.length capb], .agg #[.int .u8 u, .slice cd lc.length capc], .int .u8 t] w0 (fun v w' => ∃ I', v = .bool true ∧ Ext w0 I0 w' I') := by
  have hu13 : 0 ≤ u % 13 ∧ u % 13 ≤ 65536 := by omega
  have how := madeP_wf (size := u % 13) hqc hu13
  obtain ⟨o, ho⟩ : ∃ p, madeP lc (u % 13) = p := ⟨_, rfl⟩
  rw [ho] at how
  refine fn (n := 205) Try.func3 rfl rfl rfl ?_
  have hS := St.start hI
  refine wpIn_seq ?_
  refine reg ?_
  refine qe (d_box (cs := [.int .u8 _, .slice _ _ _, .int .u8 _, .slice _ _ _]) hS rfl) ?_
  clear hS
  rintro _ w_1 ⟨b3, rfl, hS⟩
  refine qe (d_box (cs := [.int .u8 _, .slice _ _ _]) hS rfl) ?_
  clear hS
  rintro _ w_2 ⟨b4, rfl, hS⟩
  refine qq hS (g_assignv (v := .bool _) rfl) ?_
  refine ol_nil (thenN ?_)
  refine wpIn_seq ?_
  refine reg ?_
  refine qe (d_call Try.call7 rfl (sanity11_c _ _ hS.imm)) ?_
  rintro _ w_3 ⟨I_f, rfl, hE⟩
  replace hS := hS.callE hE
  replace h4 := h4.mono hE.ext
  replace h5 := h5.mono hE.ext
  replace h6 := h6.mono hE.ext
  refine qq hS (g_assignv (v := .bool _) rfl) ?_
  refine ol_nil (thenN ?_)
  refine wpIn_seq ?_
  refine reg ?_
  refine qq hS (g_indexArr (o' := 0) Try.underlying25 Try.sizeOf24 rfl rfl (by decide) (by decide) rfl) ?_
  refine qq hS (g_ldO 1 (vs := [.int .u8 _, .slice _ _ _]) Try.sizeOf24 Try.isAgg24 rfl rfl rfl rfl) ?_
  refine qe (d_call Try.call8 rfl (made11_c r ad cap l _ _ hS.imm hr h4 hq)) ?_
  rintro _ w_4 ⟨I_f, p, a33, m33, c33, rfl, hE, h33, hgp⟩
  replace hS := hS.callE hE
  replace h4 := h4.mono hE.ext
  replace h5 := h5.mono hE.ext
  replace h6 := h6.mono hE.ext
  refine qe (d_alloc (cs := [.bool _, .int .i64 _, .int .i64 _, .slice _ _ _]) hS Try.zeroValue31 rfl) ?_
  clear hS
  rintro _ w_5 ⟨b8, rfl, hS⟩
  refine qe (d_store 0 hS Try.sizeOf31 rfl rfl rfl (vs := [.bool _, .int .i64 _, .int .i64 _, .slice _ _ _]) rfl rfl rfl (Nat.le_of_ble_eq_true rfl) (cs' := [_, _, _, _]) rfl) ?_
  clear hS
  rintro _ w_6 ⟨rfl, hS⟩
  refine ol_nil (thenN ?_)
  refine wpIn_seq ?_
  refine reg ?_
  refine qq hS (g_indexArr (o' := 2) Try.underlying25 Try.sizeOf24 rfl rfl (by decide) (by decide) rfl) ?_
  refine qq hS (g_ldO 2 (vs := [.int .u8 _, .slice _ _ _]) Try.sizeOf24 Try.isAgg24 rfl rfl rfl rfl) ?_
  refine qq hS (g_fieldAddr (o' := 1) Try.underlying31 rfl Try.sizeOf3 rfl rfl rfl) ?_
  refine qq hS (g_ldO1 0 Try.isAgg3 rfl rfl rfl) ?_
  refine qe (d_call Try.call9 rfl (sized11_c s p.in_ bd capb lb _ _ hS.imm h5 hqb (by have := hgp.in_; omega))) ?_
  rintro _ w_7 ⟨I_f, q, a38, m38, c38, rfl, hE, h38, hgq⟩
  replace hS := hS.callE hE
  replace h4 := h4.mono hE.ext
  replace h5 := h5.mono hE.ext
  replace h6 := h6.mono hE.ext
  replace h33 := h33.mono hE.ext
  refine qe (d_alloc (cs := [.bool _, .int .i64 _, .int .i64 _, .slice _ _ _]) hS Try.zeroValue31 rfl) ?_
  clear hS
  rintro _ w_8 ⟨b9, rfl, hS⟩
  refine qe (d_store 0 hS Try.sizeOf31 rfl rfl rfl (vs := [.bool _, .int .i64 _, .int .i64 _, .slice _ _ _]) rfl rfl rfl (Nat.le_of_ble_eq_true rfl) (cs' := [_, _, _, _]) rfl) ?_
  clear hS
  rintro _ w_9 ⟨rfl, hS⟩
  refine ol_nil (thenN ?_)
  refine wpIn_seq ?_
  refine reg ?_
  refine qq hS (g_ldO 2 (vs := [.int .u8 _, .slice _ _ _]) Try.sizeOf27 Try.isAgg27 rfl rfl rfl rfl) ?_
  refine qe (d_call Try.call10 rfl (made_t u cd capc lc o _ _ hS.imm h6 hqc hu ho)) ?_
  rintro _ w_10 ⟨I_f, a40, m40, c40, rfl, hE, h40⟩
  replace hS := hS.callE hE
  replace h4 := h4.mono hE.ext
  replace h5 := h5.mono hE.ext
  replace h6 := h6.mono hE.ext
  replace h33 := h33.mono hE.ext
  replace h38 := h38.mono hE.ext
  refine qe (d_alloc (cs := [.bool _, .int .i64 _, .int .i64 _, .slice _ _ _]) hS Try.zeroValue31 rfl) ?_
  clear hS
  rintro _ w_11 ⟨b10, rfl, hS⟩
  refine qe (d_store 0 hS Try.sizeOf31 rfl rfl rfl (vs := [.bool _, .int .i64 _, .int .i64 _, .slice _ _ _]) rfl rfl rfl (Nat.le_of_ble_eq_true rfl) (cs' := [_, _, _, _]) rfl) ?_
  clear hS
  rintro _ w_12 ⟨rfl, hS⟩
  refine ol_nil (thenN ?_)
  refine wpIn_seq ?_
  refine reg ?_
  refine qq hS (g_movev (v := .int .u8 _) rfl) ?_
  refine qq hS (g_rem rfl rfl (by omega) (by omega)) ?_
  refine qq hS (g_eql rfl rfl) ?_
  refine qq hS (g_fieldAddr (o' := 0) Try.underlying31 rfl Try.sizeOf4 rfl rfl rfl) ?_
  refine qe (d_store 0 hS Try.sizeOf4 rfl rfl rfl (vs := [.bool _]) rfl rfl rfl (Nat.le_of_ble_eq_true rfl) (cs' := [_, _, _, _]) rfl) ?_
  clear hS
  rintro _ w_13 ⟨rfl, hS⟩
  refine ol_nil (thenN ?_)
  refine wpIn_seq ?_
  refine reg ?_
  refine qq hS (g_ldO 2 (vs := [.bool _, .int .i64 _, .int .i64 _, .slice _ _ _]) Try.sizeOf31 Try.isAgg31 rfl rfl rfl rfl) ?_
  refine qq hS (g_ldO 1 (vs := [.bool _, .int .i64 _, .int .i64 _, .slice _ _ _]) Try.sizeOf31 Try.isAgg31 rfl rfl rfl rfl) ?_
  refine qq hS (g_ldO 0 (vs := [.bool _, .int .i64 _, .int .i64 _, .slice _ _ _]) Try.sizeOf31 Try.isAgg31 rfl rfl rfl rfl) ?_
  refine qq hS (g_buildv (pl := [(0, 1), (1, 1), (2, 1), (3, 1)]) (cs := [.bool _, .int .i64 _, .int .i64 _, .slice _ _ _]) Try.zeroValue31 Try.underlying31 (fun w => by simp [Try.sizeOf29, Try.sizeOf3, Try.sizeOf4]) (mp (v := .int .i64 _) rfl mp0) rfl) ?_
  refine qe (d_lit (vs := [.agg #[.bool _, .int .i64 _, .int .i64 _, .slice _ _ _], .agg #[.bool _, .int .i64 _, .int .i64 _, .slice _ _ _], .agg #[.bool _, .int .i64 _, .int .i64 _, .slice _ _ _], .agg #[.bool _, .int .i64 _, .int .i64 _, .slice _ _ _]]) (cs := [.bool _, .int .i64 _, .int .i64 _, .slice _ _ _, .bool _, .int .i64 _, .int .i64 _, .slice _ _ _, .bool _, .int .i64 _, .int .i64 _, .slice _ _ _, .bool _, .int .i64 _, .int .i64 _, .slice _ _ _]) hS Try.underlying35 Try.sizeOf31 Try.zeroValue31 rfl rfl rfl rfl (fun v hv => by simp only [List.mem_cons, List.not_mem_nil, or_false] at hv; rcases hv with rfl | rfl | rfl | rfl <;> rfl) rfl) ?_
  clear hS
  rintro _ w_14 ⟨b49, rfl, hS⟩
  have hF := hS.freeze1
  clear hS
  obtain ⟨I49, hS, hI49, hb49⟩ := hF
  replace h4 := h4.mono hI49
  replace h5 := h5.mono hI49
  replace h6 := h6.mono hI49
  replace h33 := h33.mono hI49
  replace h38 := h38.mono hI49
  replace h40 := h40.mono hI49
  have h49 : RPats _ (.slice (some ⟨b49, 0, none⟩) 4 4) [p, q, lifO (decide (t % 4 = 0)) o, oneOut] := RSl.ofAt (css := [[.bool p.lifted, .int .i64 p.in_, .int .i64 p.out, .slice a33 m33 c33], [.bool q.lifted, .int .i64 q.in_, .int .i64 q.out, .slice a38 m38 c38], [.bool (decide (t % 4 = 0)), .int .i64 o.in_, .int .i64 o.out, .slice a40 m40 c40], [.bool false, .int .i64 0, .int .i64 1, .slice none 0 0]]) hb49 rfl (by simp) (All2.cons ⟨_, _, _, rfl, h33⟩ (All2.cons ⟨_, _, _, rfl, h38⟩ (All2.cons ⟨_, _, _, rfl, h40⟩ (All2.cons ⟨none, 0, 0, rfl, RSl.nilR⟩ (All2.nil _))))) rfl (by show 4 ≤ maxLen; decide)
  refine qq hS (g_assign _) ?_
  refine ol_nil (thenN ?_)
  refine wpIn_seq ?_
  refine wpIn_seq ?_
  have hXw : ∀ x ∈ [p, q, lifO (decide (t % 4 = 0)) o, oneOut], x.wf := four_mem hgp.wf hgq.wf (lifO_wf how) (okPat_s (by kernel_rfl))
  obtain ⟨X, hX⟩ : ∃ X, [p, q, lifO (decide (t % 4 = 0)) o, oneOut] = X := ⟨_, rfl⟩
  have hXl : X.length = 4 := by rw [← hX]; rfl
  rw [hX] at h49 hXw
  clear hX
  refine reg ?_
  refine qq hS (g_assignv (v := .int .i64 _) rfl) ?_
  refine ol_nil (thenN ?_)
  refine wpIn_block ?_
  refine loop (fun (i : Nat) σ w => okS σ [(7, .bool true), (11, .slice (some ⟨b49, 0, none⟩) 4 4), (12, .int .i64 i)] ∧ ∃ I, St [] w0 I0 I w [] ∧ i ≤ 4 ∧ RPats I (.slice (some ⟨b49, 0, none⟩) 4 4) X) (fun i => 4 - i) (0) ?_ ?_
  ·
    exact ⟨⟨rfl, rfl, rfl, trivial⟩, _, hS.sel [false, false, false, false, false], by omega, h49⟩
  ·
    rintro i σ w_l ⟨hs, I, hS, hi0, h49⟩
    rw [← upds_self hs]; clear hs
    refine wpIn_seq ?_
    refine wpIn_seq ?_
    refine reg ?_
    refine qq hS (g_movev (v := .int .i64 _) rfl) ?_
    refine qq hS (g_move _) ?_
    refine qq hS (g_lenI rfl Try.underlying35 h49 rfl) ?_
    refine qq hS (g_lss rfl rfl) ?_
    refine ol_nil (thenN ?_)
    refine cond_s rfl ?_ ?_
    ·
      intro hc53
      try simp only [Bool.and_eq_true, Bool.or_eq_true, Bool.not_eq_true', Bool.and_eq_false_imp, Bool.or_eq_false_iff, Bool.not_eq_false', decide_eq_true_eq, decide_eq_false_iff_not] at hc53
      have hi4 : i < X.length := by omega
      obtain ⟨x, hlx⟩ : ∃ x, X[i]? = some x := ⟨_, List.getElem?_eq_getElem (by omega)⟩
      obtain ⟨csx, hcx, hAx, hrx⟩ := RSl.at h49 hlx
      obtain ⟨adx, mx, cx, rfl, hox⟩ := hrx
      have hwx := hXw x (List.mem_of_getElem? hlx)
      obtain ⟨A1, hA1⟩ : ∃ A, touchedP x = A := ⟨_, rfl⟩
      obtain ⟨A2, hA2⟩ : ∃ A, readP x = A := ⟨_, rfl⟩
      refine wpIn_skip ?_
      refine thenN ?_
      refine wpIn_seq ?_
      refine wpIn_block ?_
      refine wpIn_seq ?_
      refine reg ?_
      refine qq hS (g_move _) ?_
      refine qq hS (g_movev (v := .int .i64 _) rfl) ?_
      refine qq hS (g_ixI Try.underlying35 Try.sizeOf31 h49 rfl rfl (by omega) (by omega)) ?_
      refine qq hS (g_ldE (us := [.bool _, .int .i64 _, .int .i64 _, .slice _ _ _]) Try.sizeOf31 Try.isAgg31 hAx rfl rfl rfl) ?_
      refine qe (d_call Try.call11 rfl (touched_E x adx mx cx A1 _ _ hS.imm hwx hox hA1)) ?_
      rintro _ w_15 ⟨I_f, a61, c61, rfl, hE, h61⟩
      replace hS := hS.callE hE
      replace h49 := h49.mono hE.ext
      replace hox := hox.mono hE.ext
      replace hAx := hAx.mono hE.ext
      refine qq hS (g_move _) ?_
      refine qq hS (g_extract rfl rfl) ?_
      refine qq hS (g_extract (v := .int .i64 _) rfl rfl) ?_
      refine qq hS (g_assign _) ?_
      refine qq hS (g_assignv (v := .int .i64 _) rfl) ?_
      refine ol_nil (thenN ?_)
      refine wpIn_seq ?_
      refine reg ?_
      refine qq hS (g_move _) ?_
      refine qq hS (g_movev (v := .int .i64 _) rfl) ?_
      refine qq hS (g_ixI Try.underlying35 Try.sizeOf31 h49 rfl rfl (by omega) (by omega)) ?_
      refine qq hS (g_ldE (us := [.bool _, .int .i64 _, .int .i64 _, .slice _ _ _]) Try.sizeOf31 Try.isAgg31 hAx rfl rfl rfl) ?_
      refine qe (d_call Try.call12 rfl (refTouched_E x adx mx cx A1 _ _ hS.imm hwx hox hA1)) ?_
      rintro _ w_16 ⟨I_f, a69, c69, rfl, hE, h69⟩
      replace hS := hS.callE hE
      replace h49 := h49.mono hE.ext
      replace hox := hox.mono hE.ext
      replace hAx := hAx.mono hE.ext
      replace h61 := h61.mono hE.ext
      refine qq hS (g_move _) ?_
      refine qq hS (g_extract rfl rfl) ?_
      refine qq hS (g_extract (v := .int .i64 _) rfl rfl) ?_
      refine qq hS (g_assign _) ?_
      refine qq hS (g_assignv (v := .int .i64 _) rfl) ?_
      refine ol_nil (thenN ?_)
      refine wpIn_seq ?_
      refine reg ?_
      refine qq hS (g_move _) ?_
      refine qq hS (g_movev (v := .int .i64 _) rfl) ?_
      refine qq hS (g_ixI Try.underlying35 Try.sizeOf31 h49 rfl rfl (by omega) (by omega)) ?_
      refine qq hS (g_ldE (us := [.bool _, .int .i64 _, .int .i64 _, .slice _ _ _]) Try.sizeOf31 Try.isAgg31 hAx rfl rfl rfl) ?_
      refine qe (d_call Try.call13 rfl (read_E x adx mx cx A2 _ _ hS.imm hwx hox hA2)) ?_
      rintro _ w_17 ⟨I_f, a77, c77, rfl, hE, h77⟩
      replace hS := hS.callE hE
      replace h49 := h49.mono hE.ext
      replace hox := hox.mono hE.ext
      replace hAx := hAx.mono hE.ext
      replace h61 := h61.mono hE.ext
      replace h69 := h69.mono hE.ext
      refine qq hS (g_move _) ?_
      refine qq hS (g_extract rfl rfl) ?_
      refine qq hS (g_extract (v := .int .i64 _) rfl rfl) ?_
      refine qq hS (g_assign _) ?_
      refine qq hS (g_assignv (v := .int .i64 _) rfl) ?_
      refine ol_nil (thenN ?_)
      refine wpIn_seq ?_
      refine reg ?_
      refine qq hS (g_move _) ?_
      refine qq hS (g_movev (v := .int .i64 _) rfl) ?_
      refine qq hS (g_ixI Try.underlying35 Try.sizeOf31 h49 rfl rfl (by omega) (by omega)) ?_
      refine qq hS (g_ldE (us := [.bool _, .int .i64 _, .int .i64 _, .slice _ _ _]) Try.sizeOf31 Try.isAgg31 hAx rfl rfl rfl) ?_
      refine qe (d_call Try.call14 rfl (refRead_E x adx mx cx A2 _ _ hS.imm hwx hox hA2)) ?_
      rintro _ w_18 ⟨I_f, a85, c85, rfl, hE, h85⟩
      replace hS := hS.callE hE
      replace h49 := h49.mono hE.ext
      replace hox := hox.mono hE.ext
      replace hAx := hAx.mono hE.ext
      replace h61 := h61.mono hE.ext
      replace h69 := h69.mono hE.ext
      replace h77 := h77.mono hE.ext
      refine qq hS (g_move _) ?_
      refine qq hS (g_extract rfl rfl) ?_
      refine qq hS (g_extract (v := .int .i64 _) rfl rfl) ?_
      refine qq hS (g_assign _) ?_
      refine qq hS (g_assignv (v := .int .i64 _) rfl) ?_
      refine ol_nil (thenN ?_)
      refine wpIn_seq ?_
      refine wpIn_seq ?_
      refine reg ?_
      refine qq hS (g_move _) ?_
      refine qq hS (g_move _) ?_
      refine qe (d_call Try.call15 rfl (sameRg_T A1.1 _ _ _ _ _ _ _ _ hS.imm h61 h69 rfl rfl)) ?_
      rintro _ w_19 ⟨rfl, hE⟩
      replace hS := hS.callE hE
      refine qq hS (g_not rfl) ?_
      refine qq hS (g_movev (v := .bool _) rfl) ?_
      refine qqs rfl rfl hS (g_movev (v := .int .i64 _) rfl) ?_
      refine qqs rfl rfl hS (g_movev (v := .int .i64 _) rfl) ?_
      refine qqs rfl rfl hS (g_neqF rfl rfl rfl) ?_
      refine qq hS (g_or rfl rfl (fun _ => rfl)) ?_
      refine qq hS (g_movev (v := .bool _) rfl) ?_
      refine qqs rfl rfl hS (g_move _) ?_
      refine qqs rfl rfl hS (g_move _) ?_
      refine qes rfl rfl (d_call Try.call15 rfl (sameRg_T A2.1 _ _ _ _ _ _ _ _ hS.imm h77 h85 rfl rfl)) ?_
      rintro _ w_20 ⟨rfl, hE⟩
      replace hS := hS.callE hE
      refine qqs rfl rfl hS (g_not rfl) ?_
      refine qq hS (g_or rfl rfl (fun _ => rfl)) ?_
      refine qq hS (g_movev (v := .bool _) rfl) ?_
      refine qqs rfl rfl hS (g_movev (v := .int .i64 _) rfl) ?_
      refine qqs rfl rfl hS (g_movev (v := .int .i64 _) rfl) ?_
      refine qqs rfl rfl hS (g_neqF rfl rfl rfl) ?_
      refine qq hS (g_or rfl rfl (fun _ => rfl)) ?_
      refine ol_nil (thenN ?_)
      refine cond_f (rfl) ?_
      refine wpIn_skip ?_
      refine thenN ?_
      refine wpIn_seq ?_
      refine reg ?_
      refine qq hS (g_assignv (v := .int .i64 _) rfl) ?_
      refine ol_nil (thenN ?_)
      refine wpIn_block ?_
      refine loop (fun (k : Nat) σ w => okS σ [(7, .bool true), (11, .slice (some ⟨b49, 0, none⟩) 4 4), (12, .int .i64 i), (21, .int .i64 k)] ∧ ∃ I, St [] w0 I0 I w [] ∧ k ≤ 4 ∧ RPats I (.slice (some ⟨b49, 0, none⟩) 4 4) X) (fun k => 4 - k) (0) ?_ ?_
      ·
        exact ⟨⟨rfl, rfl, rfl, rfl, trivial⟩, _, hS.sel [], by omega, h49⟩
      ·
        rintro k σ w_l ⟨hs, I, hS, hk0, h49⟩
        rw [← upds_self hs]; clear hs
        refine wpIn_seq ?_
        refine wpIn_seq ?_
        refine reg ?_
        refine qq hS (g_movev (v := .int .i64 _) rfl) ?_
        refine qq hS (g_move _) ?_
        refine qq hS (g_lenI rfl Try.underlying35 h49 rfl) ?_
        refine qq hS (g_lss rfl rfl) ?_
        refine ol_nil (thenN ?_)
        refine cond_s rfl ?_ ?_
        ·
          intro hc111
          try simp only [Bool.and_eq_true, Bool.or_eq_true, Bool.not_eq_true', Bool.and_eq_false_imp, Bool.or_eq_false_iff, Bool.not_eq_false', decide_eq_true_eq, decide_eq_false_iff_not] at hc111
          have hk4 : k < X.length := by omega
          obtain ⟨csx, hcx, hAx, hrx⟩ := RSl.at h49 hlx
          obtain ⟨adx, mx, cx, rfl, hox⟩ := hrx
          obtain ⟨y, hly⟩ : ∃ x, X[k]? = some x := ⟨_, List.getElem?_eq_getElem (by omega)⟩
          obtain ⟨csy, hcy, hAy, hry⟩ := RSl.at h49 hly
          obtain ⟨ady, my, cy, rfl, hoy⟩ := hry
          have hwy := hXw y (List.mem_of_getElem? hly)
          obtain ⟨B1, hB1⟩ : ∃ A, clashP x y = A := ⟨_, rfl⟩
          obtain ⟨B2, hB2⟩ : ∃ A, mergeP x y = A := ⟨_, rfl⟩
          obtain ⟨B3, hB3⟩ : ∃ A, commuteP x y = A := ⟨_, rfl⟩
          have hB2w : B2.1.wf := by rw [← hB2]; exact mergeP_wfA hwx hwy
          have hB3w := commuteP_wf hwx hwy
          rw [hB3] at hB3w
          refine wpIn_skip ?_
          refine thenN ?_
          refine wpIn_seq ?_
          refine wpIn_block ?_
          refine wpIn_seq ?_
          refine draw (.cons 0 .pure (.cons 1 .pure (.cons 2 .pure (.cons 3 .held (.cons 4 .pure (.cons 5 .pure (.cons 6 .pure (.cons 7 .held (.cons 8 .eff (.cons 9 .pure (.cons 10 .pure (.cons 11 .pure (.cons 12 .pure (.cons 13 .pure .nil)))))))))))))) mixed (by kernel_rfl) hS ?_
          intro w_21 hS
          refine sp rfl (g_move _) ?_
          refine sp rfl (g_movev (v := .int .i64 _) rfl) ?_
          refine sp rfl (g_ixI Try.underlying35 Try.sizeOf31 h49 rfl rfl (by omega) (by omega)) ?_
          refine sh rfl (g_ldE (us := [.bool _, .int .i64 _, .int .i64 _, .slice _ _ _]) Try.sizeOf31 Try.isAgg31 hAx rfl rfl rfl) ?_
          refine sp rfl (g_move _) ?_
          refine sp rfl (g_movev (v := .int .i64 _) rfl) ?_
          refine sp rfl (g_ixI Try.underlying35 Try.sizeOf31 h49 rfl rfl (by omega) (by omega)) ?_
          refine sh rfl (g_ldE (us := [.bool _, .int .i64 _, .int .i64 _, .slice _ _ _]) Try.sizeOf31 Try.isAgg31 hAy rfl rfl rfl) ?_
          have hS0 := hS
          refine se rfl (d_call Try.call16 rfl (clashesP_E x adx mx cx y ady my cy B1 _ _ hS.imm hwx hox hwy hoy hB1)) ?_
          rintro _ w_22 ⟨I_f, a123, c123, rfl, hE, h123⟩
          replace hS := hS.call hE
          replace h49 := h49.mono hE.ext
          replace hox := hox.mono hE.ext
          replace hAx := hAx.mono hE.ext
          replace hoy := hoy.mono hE.ext
          replace hAy := hAy.mono hE.ext
          refine ⟨_, _, hS0.le hE.ext (List.Sublist.refl _), hS, ?_⟩
          refine sp rfl (g_move _) ?_
          refine sp rfl (g_extract rfl rfl) ?_
          refine sp rfl (g_extract (v := .int .i64 _) rfl rfl) ?_
          refine sp rfl (g_assign _) ?_
          refine sp rfl (g_assignv (v := .int .i64 _) rfl) ?_
          refine sn (thenN ?_)
          refine wpIn_seq ?_
          refine draw (.cons 0 .pure (.cons 1 .pure (.cons 2 .pure (.cons 3 .held (.cons 4 .pure (.cons 5 .pure (.cons 6 .pure (.cons 7 .held (.cons 8 .eff (.cons 9 .pure (.cons 10 .pure (.cons 11 .pure (.cons 12 .pure (.cons 13 .pure .nil)))))))))))))) mixed (by kernel_rfl) hS ?_
          intro w_23 hS
          refine sp rfl (g_move _) ?_
          refine sp rfl (g_movev (v := .int .i64 _) rfl) ?_
          refine sp rfl (g_ixI Try.underlying35 Try.sizeOf31 h49 rfl rfl (by omega) (by omega)) ?_
          refine sh rfl (g_ldE (us := [.bool _, .int .i64 _, .int .i64 _, .slice _ _ _]) Try.sizeOf31 Try.isAgg31 hAx rfl rfl rfl) ?_
          refine sp rfl (g_move _) ?_
          refine sp rfl (g_movev (v := .int .i64 _) rfl) ?_
          refine sp rfl (g_ixI Try.underlying35 Try.sizeOf31 h49 rfl rfl (by omega) (by omega)) ?_
          refine sh rfl (g_ldE (us := [.bool _, .int .i64 _, .int .i64 _, .slice _ _ _]) Try.sizeOf31 Try.isAgg31 hAy rfl rfl rfl) ?_
          have hS0 := hS
          refine se rfl (d_call Try.call17 rfl (refClashes_E x adx mx cx y ady my cy B1 _ _ hS.imm hwx hox hwy hoy hB1)) ?_
          rintro _ w_24 ⟨I_f, a135, c135, rfl, hE, h135⟩
          replace hS := hS.call hE
          replace h49 := h49.mono hE.ext
          replace hox := hox.mono hE.ext
          replace hAx := hAx.mono hE.ext
          replace hoy := hoy.mono hE.ext
          replace hAy := hAy.mono hE.ext
          replace h123 := h123.mono hE.ext
          refine ⟨_, _, hS0.le hE.ext (List.Sublist.refl _), hS, ?_⟩
          refine sp rfl (g_move _) ?_
          refine sp rfl (g_extract rfl rfl) ?_
          refine sp rfl (g_extract (v := .int .i64 _) rfl rfl) ?_
          refine sp rfl (g_assign _) ?_
          refine sp rfl (g_assignv (v := .int .i64 _) rfl) ?_
          refine sn (thenN ?_)
          refine wpIn_seq ?_
          refine draw (.cons 0 .pure (.cons 1 .pure (.cons 2 .pure (.cons 3 .held (.cons 4 .pure (.cons 5 .pure (.cons 6 .pure (.cons 7 .held (.fork 8 (.cons 9 .pure (.cons 10 .pure (.cons 11 .pure (.cons 12 .eff (.cons 13 .bar (.cons 14 .pure .nil)))))) 12 (.cons 8 .eff (.cons 9 .pure (.cons 10 .pure (.cons 11 .pure (.cons 13 .bar (.cons 14 .pure .nil))))))))))))))) mixed (by kernel_rfl) hS ?_
          intro w_25 hS
          refine sp rfl (g_move _) ?_
          refine sp rfl (g_movev (v := .int .i64 _) rfl) ?_
          refine sp rfl (g_ixI Try.underlying35 Try.sizeOf31 h49 rfl rfl (by omega) (by omega)) ?_
          refine sh rfl (g_ldE (us := [.bool _, .int .i64 _, .int .i64 _, .slice _ _ _]) Try.sizeOf31 Try.isAgg31 hAx rfl rfl rfl) ?_
          refine sp rfl (g_move _) ?_
          refine sp rfl (g_movev (v := .int .i64 _) rfl) ?_
          refine sp rfl (g_ixI Try.underlying35 Try.sizeOf31 h49 rfl rfl (by omega) (by omega)) ?_
          refine sh rfl (g_ldE (us := [.bool _, .int .i64 _, .int .i64 _, .slice _ _ _]) Try.sizeOf31 Try.isAgg31 hAy rfl rfl rfl) ?_
          refine sk ?_ ?_
          ·
            have hS0 := hS
            refine se rfl (d_call Try.call18 rfl (merge_E x adx mx cx y ady my cy B2 _ _ hS.imm hwx hox hwy hoy hB2)) ?_
            rintro _ w_26 ⟨I_f, a147, m147, c147, rfl, hE, h147⟩
            replace hS := hS.call hE
            replace h49 := h49.mono hE.ext
            replace hox := hox.mono hE.ext
            replace hAx := hAx.mono hE.ext
            replace hoy := hoy.mono hE.ext
            replace hAy := hAy.mono hE.ext
            replace h123 := h123.mono hE.ext
            replace h135 := h135.mono hE.ext
            refine ⟨_, _, hS0.le hE.ext (List.Sublist.refl _), hS, ?_⟩
            refine sp rfl (g_move _) ?_
            refine sp rfl (g_extract rfl rfl) ?_
            refine sp rfl (g_extract (v := .int .i64 _) rfl rfl) ?_
            have hS0 := hS
            refine se rfl (d_alloc (cs := [.bool _, .int .i64 _, .int .i64 _, .slice _ _ _]) hS Try.zeroValue31 rfl) ?_
            rintro _ w_27 ⟨b26, rfl, hS⟩
            refine ⟨_, _, hS0.le (Sub.refl _) (List.sublist_cons_self _ _), hS, ?_⟩
            refine sb rfl (d_store 0 hS Try.sizeOf31 rfl rfl rfl (vs := [.bool _, .int .i64 _, .int .i64 _, .slice _ _ _]) rfl rfl rfl (Nat.le_of_ble_eq_true rfl) (cs' := [_, _, _, _]) rfl) ?_
            rintro _ w_28 ⟨rfl, hS⟩
            refine ⟨_, _, hS, ?_⟩
            refine sp rfl (g_assignv (v := .int .i64 _) rfl) ?_
            refine sn (thenN ?_)
            refine wpIn_seq ?_
            refine draw (.cons 0 .pure (.cons 1 .pure (.cons 2 .pure (.cons 3 .held (.cons 4 .pure (.cons 5 .pure (.cons 6 .pure (.cons 7 .held (.fork 8 (.cons 9 .pure (.cons 10 .pure (.cons 11 .pure (.cons 12 .eff (.cons 13 .bar (.cons 14 .pure .nil)))))) 12 (.cons 8 .eff (.cons 9 .pure (.cons 10 .pure (.cons 11 .pure (.cons 13 .bar (.cons 14 .pure .nil))))))))))))))) mixed (by kernel_rfl) hS ?_
            intro w_29 hS
            refine sp rfl (g_move _) ?_
            refine sp rfl (g_movev (v := .int .i64 _) rfl) ?_
            refine sp rfl (g_ixI Try.underlying35 Try.sizeOf31 h49 rfl rfl (by omega) (by omega)) ?_
            refine sh rfl (g_ldE (us := [.bool _, .int .i64 _, .int .i64 _, .slice _ _ _]) Try.sizeOf31 Try.isAgg31 hAx rfl rfl rfl) ?_
            refine sp rfl (g_move _) ?_
            refine sp rfl (g_movev (v := .int .i64 _) rfl) ?_
            refine sp rfl (g_ixI Try.underlying35 Try.sizeOf31 h49 rfl rfl (by omega) (by omega)) ?_
            refine sh rfl (g_ldE (us := [.bool _, .int .i64 _, .int .i64 _, .slice _ _ _]) Try.sizeOf31 Try.isAgg31 hAy rfl rfl rfl) ?_
            refine sk ?_ ?_
            ·
              have hS0 := hS
              refine se rfl (d_call Try.call19 rfl (refMerge_E x adx mx cx y ady my cy B2 _ _ hS.imm hwx hox hwy hoy hB2)) ?_
              rintro _ w_30 ⟨I_f, a159, m159, c159, rfl, hE, h159⟩
              replace hS := hS.call hE
              replace h49 := h49.mono hE.ext
              replace hox := hox.mono hE.ext
              replace hAx := hAx.mono hE.ext
              replace hoy := hoy.mono hE.ext
              replace hAy := hAy.mono hE.ext
              replace h123 := h123.mono hE.ext
              replace h135 := h135.mono hE.ext
              replace h147 := h147.mono hE.ext
              refine ⟨_, _, hS0.le hE.ext (List.Sublist.refl _), hS, ?_⟩
              refine sp rfl (g_move _) ?_
              refine sp rfl (g_extract rfl rfl) ?_
              refine sp rfl (g_extract (v := .int .i64 _) rfl rfl) ?_
              have hS0 := hS
              refine se rfl (d_alloc (cs := [.bool _, .int .i64 _, .int .i64 _, .slice _ _ _]) hS Try.zeroValue31 rfl) ?_
              rintro _ w_31 ⟨b28, rfl, hS⟩
              refine ⟨_, _, hS0.le (Sub.refl _) (List.sublist_cons_self _ _), hS, ?_⟩
              refine sb rfl (d_store 0 hS Try.sizeOf31 rfl rfl rfl (vs := [.bool _, .int .i64 _, .int .i64 _, .slice _ _ _]) rfl rfl rfl (Nat.le_of_ble_eq_true rfl) (cs' := [_, _, _, _]) rfl) ?_
              rintro _ w_32 ⟨rfl, hS⟩
              refine ⟨_, _, hS, ?_⟩
              refine sp rfl (g_assignv (v := .int .i64 _) rfl) ?_
              refine sn (thenN ?_)
              refine wpIn_seq ?_
              refine draw (.cons 0 .pure (.cons 1 .pure (.cons 2 .eff (.cons 3 .pure (.cons 4 .pure (.cons 5 .pure (.cons 6 .pure (.cons 7 .pure (.cons 8 .pure (.cons 9 .pure (.cons 10 .held (.cons 11 .held (.cons 12 .eff (.cons 13 .pure (.cons 14 .pure (.cons 15 .pure (.cons 16 .pure (.cons 17 .pure (.cons 18 .pure (.cons 19 .pure (.cons 20 .pure (.cons 21 .pure (.cons 22 .pure (.cons 23 .pure (.cons 24 .held (.cons 25 .pure (.cons 26 .pure (.cons 27 .pure (.cons 28 .held (.cons 30 .pure (.cons 31 .pure (.cons 32 .pure (.cons 33 .held (.cons 34 .pure (.cons 35 .pure (.cons 36 .pure (.cons 37 .held (.cons 29 .eff (.cons 38 .eff (.cons 39 .eff (.cons 40 .pure (.cons 41 .pure .nil)))))))))))))))))))))))))))))))))))))))))) mixed (by kernel_rfl) hS ?_
              intro w_33 hS
              refine sp rfl (g_move _) ?_
              refine sp rfl (g_move _) ?_
              have hS0 := hS
              refine se rfl (d_call Try.call15 rfl (sameRg_T B1.1 _ _ _ _ _ _ _ _ hS.imm h123 h135 rfl rfl)) ?_
              rintro _ w_34 ⟨rfl, hE⟩
              replace hS := hS.call hE
              refine ⟨_, _, hS0.le hE.ext (List.Sublist.refl _), hS, ?_⟩
              refine sp rfl (g_not rfl) ?_
              refine sp rfl (g_movev (v := .bool _) rfl) ?_
              refine spt rfl rfl rfl (g_movev (v := .int .i64 _) rfl) ?_
              refine spt rfl rfl rfl (g_movev (v := .int .i64 _) rfl) ?_
              refine spt rfl rfl rfl (g_neqF rfl rfl rfl) ?_
              refine sp rfl (g_or rfl rfl (fun _ => rfl)) ?_
              refine sp rfl (g_movev (v := .bool _) rfl) ?_
              refine sht rfl rfl rfl (g_ldO 1 (vs := [.bool _, .int .i64 _, .int .i64 _, .slice _ _ _]) Try.sizeOf31 Try.isAgg31 rfl rfl rfl rfl) ?_
              refine sht rfl rfl rfl (g_ldO 0 (vs := [.bool _, .int .i64 _, .int .i64 _, .slice _ _ _]) Try.sizeOf31 Try.isAgg31 rfl rfl rfl rfl) ?_
              have hS0 := hS
              refine Inl.set rfl rfl rfl (d_call Try.call20 rfl (same_T B2.1 _ _ _ _ _ _ _ _ hS.imm h147 h159 hB2w)) ?_
              rintro _ w_35 ⟨rfl, hE⟩
              replace hS := hS.call hE
              refine ⟨_, _, hS0.le hE.ext (List.Sublist.refl _), hS, ?_⟩
              refine spt rfl rfl rfl (g_not rfl) ?_
              refine sp rfl (g_or rfl rfl (fun _ => rfl)) ?_
              refine sp rfl (g_movev (v := .bool _) rfl) ?_
              refine spt rfl rfl rfl (g_movev (v := .int .i64 _) rfl) ?_
              refine spt rfl rfl rfl (g_movev (v := .int .i64 _) rfl) ?_
              refine spt rfl rfl rfl (g_neqF rfl rfl rfl) ?_
              refine sp rfl (g_or rfl rfl (fun _ => rfl)) ?_
              refine sp rfl (g_movev (v := .bool _) rfl) ?_
              refine spt rfl rfl rfl (g_move _) ?_
              refine spt rfl rfl rfl (g_movev (v := .int .i64 _) rfl) ?_
              refine spt rfl rfl rfl (g_ixI Try.underlying35 Try.sizeOf31 h49 rfl rfl (by omega) (by omega)) ?_
              refine sht rfl rfl rfl (g_ldE (us := [.bool _, .int .i64 _, .int .i64 _, .slice _ _ _]) Try.sizeOf31 Try.isAgg31 hAx rfl rfl rfl) ?_
              refine spt rfl rfl rfl (g_move _) ?_
              refine spt rfl rfl rfl (g_movev (v := .int .i64 _) rfl) ?_
              refine spt rfl rfl rfl (g_ixI Try.underlying35 Try.sizeOf31 h49 rfl rfl (by omega) (by omega)) ?_
              refine sht rfl rfl rfl (g_ldE (us := [.bool _, .int .i64 _, .int .i64 _, .slice _ _ _]) Try.sizeOf31 Try.isAgg31 hAy rfl rfl rfl) ?_
              refine spt rfl rfl rfl (g_move _) ?_
              refine spt rfl rfl rfl (g_movev (v := .int .i64 _) rfl) ?_
              refine spt rfl rfl rfl (g_ixI Try.underlying35 Try.sizeOf31 h49 rfl rfl (by omega) (by omega)) ?_
              refine sht rfl rfl rfl (g_ldE (us := [.bool _, .int .i64 _, .int .i64 _, .slice _ _ _]) Try.sizeOf31 Try.isAgg31 hAx rfl rfl rfl) ?_
              refine spt rfl rfl rfl (g_move _) ?_
              refine spt rfl rfl rfl (g_movev (v := .int .i64 _) rfl) ?_
              refine spt rfl rfl rfl (g_ixI Try.underlying35 Try.sizeOf31 h49 rfl rfl (by omega) (by omega)) ?_
              refine sht rfl rfl rfl (g_ldE (us := [.bool _, .int .i64 _, .int .i64 _, .slice _ _ _]) Try.sizeOf31 Try.isAgg31 hAy rfl rfl rfl) ?_
              have hS0 := hS
              refine Inl.set rfl rfl rfl (d_call Try.call22 rfl (exchanged_M x adx mx cx y ady my cy B3 _ _ hS.imm hwx hox hwy hoy hB3)) ?_
              rintro _ w_36 ⟨I_f, a191, m191, c191, d191, n191, e191, rfl, hE, h191, k191⟩
              replace hS := hS.call hE
              replace h49 := h49.mono hE.ext
              replace hox := hox.mono hE.ext
              replace hAx := hAx.mono hE.ext
              replace hoy := hoy.mono hE.ext
              replace hAy := hAy.mono hE.ext
              replace h123 := h123.mono hE.ext
              replace h135 := h135.mono hE.ext
              replace h147 := h147.mono hE.ext
              replace h159 := h159.mono hE.ext
              refine ⟨_, _, hS0.le hE.ext (List.Sublist.refl _), hS, ?_⟩
              have hS0 := hS
              refine Inl.set rfl rfl rfl (d_call Try.call23 rfl (refCommute_E x adx mx cx y ady my cy B3 _ _ hS.imm hwx hox hwy hoy hB3)) ?_
              rintro _ w_37 ⟨I_f, a200, m200, c200, d200, n200, e200, rfl, hE, h200, k200⟩
              replace hS := hS.call hE
              replace h49 := h49.mono hE.ext
              replace hox := hox.mono hE.ext
              replace hAx := hAx.mono hE.ext
              replace hoy := hoy.mono hE.ext
              replace hAy := hAy.mono hE.ext
              replace h123 := h123.mono hE.ext
              replace h135 := h135.mono hE.ext
              replace h147 := h147.mono hE.ext
              replace h159 := h159.mono hE.ext
              replace h191 := h191.mono hE.ext
              replace k191 := k191.mono hE.ext
              refine ⟨_, _, hS0.le hE.ext (List.Sublist.refl _), hS, ?_⟩
              have hS0 := hS
              refine Inl.set rfl rfl rfl (d_call Try.call21 rfl (same11_T B3.q B3.p B3.e _ _ _ _ _ _ _ _ _ _ _ _ _ _ hS.imm hB3w.1 hB3w.2 h191 k191 h200 k200)) ?_
              rintro _ w_38 ⟨rfl, hE⟩
              replace hS := hS.call hE
              refine ⟨_, _, hS0.le hE.ext (List.Sublist.refl _), hS, ?_⟩
              refine spt rfl rfl rfl (g_not rfl) ?_
              refine sp rfl (g_or rfl rfl (fun _ => rfl)) ?_
              refine sn (thenN ?_)
              refine cond_f (rfl) ?_
              refine wpIn_skip ?_
              refine blkN (thenN ?_)
              refine reg ?_
              refine qq hS (g_movev (v := .int .i64 _) rfl) ?_
              refine qq hS (g_add rfl rfl (by omega) (by omega)) ?_
              refine qq hS (g_assignv (v := .int .i64 _) rfl) ?_
              refine ol_nil (thenN ?_)
              exact ⟨k + 1, _, rfl, ⟨⟨rfl, rfl, rfl, rfl, trivial⟩, _, hS.sel [false, false], by omega, h49⟩, by omega⟩
            ·
              have hS0 := hS
              refine se rfl (d_alloc (cs := [.bool _, .int .i64 _, .int .i64 _, .slice _ _ _]) hS Try.zeroValue31 rfl) ?_
              rintro _ w_39 ⟨b28, rfl, hS⟩
              refine ⟨_, _, hS0.le (Sub.refl _) (List.sublist_cons_self _ _), hS, ?_⟩
              have hS0 := hS
              refine se rfl (d_call Try.call19 rfl (refMerge_E x adx mx cx y ady my cy B2 _ _ hS.imm hwx hox hwy hoy hB2)) ?_
              rintro _ w_40 ⟨I_f, a159, m159, c159, rfl, hE, h159⟩
              replace hS := hS.call hE
              replace h49 := h49.mono hE.ext
              replace hox := hox.mono hE.ext
              replace hAx := hAx.mono hE.ext
              replace hoy := hoy.mono hE.ext
              replace hAy := hAy.mono hE.ext
              replace h123 := h123.mono hE.ext
              replace h135 := h135.mono hE.ext
              replace h147 := h147.mono hE.ext
              refine ⟨_, _, hS0.le hE.ext (List.Sublist.refl _), hS, ?_⟩
              refine sp rfl (g_move _) ?_
              refine sp rfl (g_extract rfl rfl) ?_
              refine sp rfl (g_extract (v := .int .i64 _) rfl rfl) ?_
              refine sb rfl (d_store 0 hS Try.sizeOf31 rfl rfl rfl (vs := [.bool _, .int .i64 _, .int .i64 _, .slice _ _ _]) rfl rfl rfl (Nat.le_of_ble_eq_true rfl) (cs' := [_, _, _, _]) rfl) ?_
              rintro _ w_41 ⟨rfl, hS⟩
              refine ⟨_, _, hS, ?_⟩
              refine sp rfl (g_assignv (v := .int .i64 _) rfl) ?_
              refine sn (thenN ?_)
              refine wpIn_seq ?_
              refine draw (.cons 0 .pure (.cons 1 .pure (.cons 2 .eff (.cons 3 .pure (.cons 4 .pure (.cons 5 .pure (.cons 6 .pure (.cons 7 .pure (.cons 8 .pure (.cons 9 .pure (.cons 10 .held (.cons 11 .held (.cons 12 .eff (.cons 13 .pure (.cons 14 .pure (.cons 15 .pure (.cons 16 .pure (.cons 17 .pure (.cons 18 .pure (.cons 19 .pure (.cons 20 .pure (.cons 21 .pure (.cons 22 .pure (.cons 23 .pure (.cons 24 .held (.cons 25 .pure (.cons 26 .pure (.cons 27 .pure (.cons 28 .held (.cons 30 .pure (.cons 31 .pure (.cons 32 .pure (.cons 33 .held (.cons 34 .pure (.cons 35 .pure (.cons 36 .pure (.cons 37 .held (.cons 29 .eff (.cons 38 .eff (.cons 39 .eff (.cons 40 .pure (.cons 41 .pure .nil)))))))))))))))))))))))))))))))))))))))))) mixed (by kernel_rfl) hS ?_
              intro w_42 hS
              refine sp rfl (g_move _) ?_
              refine sp rfl (g_move _) ?_
              have hS0 := hS
              refine se rfl (d_call Try.call15 rfl (sameRg_T B1.1 _ _ _ _ _ _ _ _ hS.imm h123 h135 rfl rfl)) ?_
              rintro _ w_43 ⟨rfl, hE⟩
              replace hS := hS.call hE
              refine ⟨_, _, hS0.le hE.ext (List.Sublist.refl _), hS, ?_⟩
              refine sp rfl (g_not rfl) ?_
              refine sp rfl (g_movev (v := .bool _) rfl) ?_
              refine spt rfl rfl rfl (g_movev (v := .int .i64 _) rfl) ?_
              refine spt rfl rfl rfl (g_movev (v := .int .i64 _) rfl) ?_
              refine spt rfl rfl rfl (g_neqF rfl rfl rfl) ?_
              refine sp rfl (g_or rfl rfl (fun _ => rfl)) ?_
              refine sp rfl (g_movev (v := .bool _) rfl) ?_
              refine sht rfl rfl rfl (g_ldO 1 (vs := [.bool _, .int .i64 _, .int .i64 _, .slice _ _ _]) Try.sizeOf31 Try.isAgg31 rfl rfl rfl rfl) ?_
              refine sht rfl rfl rfl (g_ldO 0 (vs := [.bool _, .int .i64 _, .int .i64 _, .slice _ _ _]) Try.sizeOf31 Try.isAgg31 rfl rfl rfl rfl) ?_
              have hS0 := hS
              refine Inl.set rfl rfl rfl (d_call Try.call20 rfl (same_T B2.1 _ _ _ _ _ _ _ _ hS.imm h147 h159 hB2w)) ?_
              rintro _ w_44 ⟨rfl, hE⟩
              replace hS := hS.call hE
              refine ⟨_, _, hS0.le hE.ext (List.Sublist.refl _), hS, ?_⟩
              refine spt rfl rfl rfl (g_not rfl) ?_
              refine sp rfl (g_or rfl rfl (fun _ => rfl)) ?_
              refine sp rfl (g_movev (v := .bool _) rfl) ?_
              refine spt rfl rfl rfl (g_movev (v := .int .i64 _) rfl) ?_
              refine spt rfl rfl rfl (g_movev (v := .int .i64 _) rfl) ?_
              refine spt rfl rfl rfl (g_neqF rfl rfl rfl) ?_
              refine sp rfl (g_or rfl rfl (fun _ => rfl)) ?_
              refine sp rfl (g_movev (v := .bool _) rfl) ?_
              refine spt rfl rfl rfl (g_move _) ?_
              refine spt rfl rfl rfl (g_movev (v := .int .i64 _) rfl) ?_
              refine spt rfl rfl rfl (g_ixI Try.underlying35 Try.sizeOf31 h49 rfl rfl (by omega) (by omega)) ?_
              refine sht rfl rfl rfl (g_ldE (us := [.bool _, .int .i64 _, .int .i64 _, .slice _ _ _]) Try.sizeOf31 Try.isAgg31 hAx rfl rfl rfl) ?_
              refine spt rfl rfl rfl (g_move _) ?_
              refine spt rfl rfl rfl (g_movev (v := .int .i64 _) rfl) ?_
              refine spt rfl rfl rfl (g_ixI Try.underlying35 Try.sizeOf31 h49 rfl rfl (by omega) (by omega)) ?_
              refine sht rfl rfl rfl (g_ldE (us := [.bool _, .int .i64 _, .int .i64 _, .slice _ _ _]) Try.sizeOf31 Try.isAgg31 hAy rfl rfl rfl) ?_
              refine spt rfl rfl rfl (g_move _) ?_
              refine spt rfl rfl rfl (g_movev (v := .int .i64 _) rfl) ?_
              refine spt rfl rfl rfl (g_ixI Try.underlying35 Try.sizeOf31 h49 rfl rfl (by omega) (by omega)) ?_
              refine sht rfl rfl rfl (g_ldE (us := [.bool _, .int .i64 _, .int .i64 _, .slice _ _ _]) Try.sizeOf31 Try.isAgg31 hAx rfl rfl rfl) ?_
              refine spt rfl rfl rfl (g_move _) ?_
              refine spt rfl rfl rfl (g_movev (v := .int .i64 _) rfl) ?_
              refine spt rfl rfl rfl (g_ixI Try.underlying35 Try.sizeOf31 h49 rfl rfl (by omega) (by omega)) ?_
              refine sht rfl rfl rfl (g_ldE (us := [.bool _, .int .i64 _, .int .i64 _, .slice _ _ _]) Try.sizeOf31 Try.isAgg31 hAy rfl rfl rfl) ?_
              have hS0 := hS
              refine Inl.set rfl rfl rfl (d_call Try.call22 rfl (exchanged_M x adx mx cx y ady my cy B3 _ _ hS.imm hwx hox hwy hoy hB3)) ?_
              rintro _ w_45 ⟨I_f, a191, m191, c191, d191, n191, e191, rfl, hE, h191, k191⟩
              replace hS := hS.call hE
              replace h49 := h49.mono hE.ext
              replace hox := hox.mono hE.ext
              replace hAx := hAx.mono hE.ext
              replace hoy := hoy.mono hE.ext
              replace hAy := hAy.mono hE.ext
              replace h123 := h123.mono hE.ext
              replace h135 := h135.mono hE.ext
              replace h147 := h147.mono hE.ext
              replace h159 := h159.mono hE.ext
              refine ⟨_, _, hS0.le hE.ext (List.Sublist.refl _), hS, ?_⟩
              have hS0 := hS
              refine Inl.set rfl rfl rfl (d_call Try.call23 rfl (refCommute_E x adx mx cx y ady my cy B3 _ _ hS.imm hwx hox hwy hoy hB3)) ?_
              rintro _ w_46 ⟨I_f, a200, m200, c200, d200, n200, e200, rfl, hE, h200, k200⟩
              replace hS := hS.call hE
              replace h49 := h49.mono hE.ext
              replace hox := hox.mono hE.ext
              replace hAx := hAx.mono hE.ext
              replace hoy := hoy.mono hE.ext
              replace hAy := hAy.mono hE.ext
              replace h123 := h123.mono hE.ext
              replace h135 := h135.mono hE.ext
              replace h147 := h147.mono hE.ext
              replace h159 := h159.mono hE.ext
              replace h191 := h191.mono hE.ext
              replace k191 := k191.mono hE.ext
              refine ⟨_, _, hS0.le hE.ext (List.Sublist.refl _), hS, ?_⟩
              have hS0 := hS
              refine Inl.set rfl rfl rfl (d_call Try.call21 rfl (same11_T B3.q B3.p B3.e _ _ _ _ _ _ _ _ _ _ _ _ _ _ hS.imm hB3w.1 hB3w.2 h191 k191 h200 k200)) ?_
              rintro _ w_47 ⟨rfl, hE⟩
              replace hS := hS.call hE
              refine ⟨_, _, hS0.le hE.ext (List.Sublist.refl _), hS, ?_⟩
              refine spt rfl rfl rfl (g_not rfl) ?_
              refine sp rfl (g_or rfl rfl (fun _ => rfl)) ?_
              refine sn (thenN ?_)
              refine cond_f (rfl) ?_
              refine wpIn_skip ?_
              refine blkN (thenN ?_)
              refine reg ?_
              refine qq hS (g_movev (v := .int .i64 _) rfl) ?_
              refine qq hS (g_add rfl rfl (by omega) (by omega)) ?_
              refine qq hS (g_assignv (v := .int .i64 _) rfl) ?_
              refine ol_nil (thenN ?_)
              exact ⟨k + 1, _, rfl, ⟨⟨rfl, rfl, rfl, rfl, trivial⟩, _, hS.sel [false, false], by omega, h49⟩, by omega⟩
          ·
            have hS0 := hS
            refine se rfl (d_alloc (cs := [.bool _, .int .i64 _, .int .i64 _, .slice _ _ _]) hS Try.zeroValue31 rfl) ?_
            rintro _ w_48 ⟨b26, rfl, hS⟩
            refine ⟨_, _, hS0.le (Sub.refl _) (List.sublist_cons_self _ _), hS, ?_⟩
            have hS0 := hS
            refine se rfl (d_call Try.call18 rfl (merge_E x adx mx cx y ady my cy B2 _ _ hS.imm hwx hox hwy hoy hB2)) ?_
            rintro _ w_49 ⟨I_f, a147, m147, c147, rfl, hE, h147⟩
            replace hS := hS.call hE
            replace h49 := h49.mono hE.ext
            replace hox := hox.mono hE.ext
            replace hAx := hAx.mono hE.ext
            replace hoy := hoy.mono hE.ext
            replace hAy := hAy.mono hE.ext
            replace h123 := h123.mono hE.ext
            replace h135 := h135.mono hE.ext
            refine ⟨_, _, hS0.le hE.ext (List.Sublist.refl _), hS, ?_⟩
            refine sp rfl (g_move _) ?_
            refine sp rfl (g_extract rfl rfl) ?_
            refine sp rfl (g_extract (v := .int .i64 _) rfl rfl) ?_
            refine sb rfl (d_store 0 hS Try.sizeOf31 rfl rfl rfl (vs := [.bool _, .int .i64 _, .int .i64 _, .slice _ _ _]) rfl rfl rfl (Nat.le_of_ble_eq_true rfl) (cs' := [_, _, _, _]) rfl) ?_
            rintro _ w_50 ⟨rfl, hS⟩
            refine ⟨_, _, hS, ?_⟩
            refine sp rfl (g_assignv (v := .int .i64 _) rfl) ?_
            refine sn (thenN ?_)
            refine wpIn_seq ?_
            refine draw (.cons 0 .pure (.cons 1 .pure (.cons 2 .pure (.cons 3 .held (.cons 4 .pure (.cons 5 .pure (.cons 6 .pure (.cons 7 .held (.fork 8 (.cons 9 .pure (.cons 10 .pure (.cons 11 .pure (.cons 12 .eff (.cons 13 .bar (.cons 14 .pure .nil)))))) 12 (.cons 8 .eff (.cons 9 .pure (.cons 10 .pure (.cons 11 .pure (.cons 13 .bar (.cons 14 .pure .nil))))))))))))))) mixed (by kernel_rfl) hS ?_
            intro w_51 hS
            refine sp rfl (g_move _) ?_
            refine sp rfl (g_movev (v := .int .i64 _) rfl) ?_
            refine sp rfl (g_ixI Try.underlying35 Try.sizeOf31 h49 rfl rfl (by omega) (by omega)) ?_
            refine sh rfl (g_ldE (us := [.bool _, .int .i64 _, .int .i64 _, .slice _ _ _]) Try.sizeOf31 Try.isAgg31 hAx rfl rfl rfl) ?_
            refine sp rfl (g_move _) ?_
            refine sp rfl (g_movev (v := .int .i64 _) rfl) ?_
            refine sp rfl (g_ixI Try.underlying35 Try.sizeOf31 h49 rfl rfl (by omega) (by omega)) ?_
            refine sh rfl (g_ldE (us := [.bool _, .int .i64 _, .int .i64 _, .slice _ _ _]) Try.sizeOf31 Try.isAgg31 hAy rfl rfl rfl) ?_
            refine sk ?_ ?_
            ·
              have hS0 := hS
              refine se rfl (d_call Try.call19 rfl (refMerge_E x adx mx cx y ady my cy B2 _ _ hS.imm hwx hox hwy hoy hB2)) ?_
              rintro _ w_52 ⟨I_f, a159, m159, c159, rfl, hE, h159⟩
              replace hS := hS.call hE
              replace h49 := h49.mono hE.ext
              replace hox := hox.mono hE.ext
              replace hAx := hAx.mono hE.ext
              replace hoy := hoy.mono hE.ext
              replace hAy := hAy.mono hE.ext
              replace h123 := h123.mono hE.ext
              replace h135 := h135.mono hE.ext
              replace h147 := h147.mono hE.ext
              refine ⟨_, _, hS0.le hE.ext (List.Sublist.refl _), hS, ?_⟩
              refine sp rfl (g_move _) ?_
              refine sp rfl (g_extract rfl rfl) ?_
              refine sp rfl (g_extract (v := .int .i64 _) rfl rfl) ?_
              have hS0 := hS
              refine se rfl (d_alloc (cs := [.bool _, .int .i64 _, .int .i64 _, .slice _ _ _]) hS Try.zeroValue31 rfl) ?_
              rintro _ w_53 ⟨b28, rfl, hS⟩
              refine ⟨_, _, hS0.le (Sub.refl _) (List.sublist_cons_self _ _), hS, ?_⟩
              refine sb rfl (d_store 0 hS Try.sizeOf31 rfl rfl rfl (vs := [.bool _, .int .i64 _, .int .i64 _, .slice _ _ _]) rfl rfl rfl (Nat.le_of_ble_eq_true rfl) (cs' := [_, _, _, _]) rfl) ?_
              rintro _ w_54 ⟨rfl, hS⟩
              refine ⟨_, _, hS, ?_⟩
              refine sp rfl (g_assignv (v := .int .i64 _) rfl) ?_
              refine sn (thenN ?_)
              refine wpIn_seq ?_
              refine draw (.cons 0 .pure (.cons 1 .pure (.cons 2 .eff (.cons 3 .pure (.cons 4 .pure (.cons 5 .pure (.cons 6 .pure (.cons 7 .pure (.cons 8 .pure (.cons 9 .pure (.cons 10 .held (.cons 11 .held (.cons 12 .eff (.cons 13 .pure (.cons 14 .pure (.cons 15 .pure (.cons 16 .pure (.cons 17 .pure (.cons 18 .pure (.cons 19 .pure (.cons 20 .pure (.cons 21 .pure (.cons 22 .pure (.cons 23 .pure (.cons 24 .held (.cons 25 .pure (.cons 26 .pure (.cons 27 .pure (.cons 28 .held (.cons 30 .pure (.cons 31 .pure (.cons 32 .pure (.cons 33 .held (.cons 34 .pure (.cons 35 .pure (.cons 36 .pure (.cons 37 .held (.cons 29 .eff (.cons 38 .eff (.cons 39 .eff (.cons 40 .pure (.cons 41 .pure .nil)))))))))))))))))))))))))))))))))))))))))) mixed (by kernel_rfl) hS ?_
              intro w_55 hS
              refine sp rfl (g_move _) ?_
              refine sp rfl (g_move _) ?_
              have hS0 := hS
              refine se rfl (d_call Try.call15 rfl (sameRg_T B1.1 _ _ _ _ _ _ _ _ hS.imm h123 h135 rfl rfl)) ?_
              rintro _ w_56 ⟨rfl, hE⟩
              replace hS := hS.call hE
              refine ⟨_, _, hS0.le hE.ext (List.Sublist.refl _), hS, ?_⟩
              refine sp rfl (g_not rfl) ?_
              refine sp rfl (g_movev (v := .bool _) rfl) ?_
              refine spt rfl rfl rfl (g_movev (v := .int .i64 _) rfl) ?_
              refine spt rfl rfl rfl (g_movev (v := .int .i64 _) rfl) ?_
              refine spt rfl rfl rfl (g_neqF rfl rfl rfl) ?_
              refine sp rfl (g_or rfl rfl (fun _ => rfl)) ?_
              refine sp rfl (g_movev (v := .bool _) rfl) ?_
              refine sht rfl rfl rfl (g_ldO 1 (vs := [.bool _, .int .i64 _, .int .i64 _, .slice _ _ _]) Try.sizeOf31 Try.isAgg31 rfl rfl rfl rfl) ?_
              refine sht rfl rfl rfl (g_ldO 0 (vs := [.bool _, .int .i64 _, .int .i64 _, .slice _ _ _]) Try.sizeOf31 Try.isAgg31 rfl rfl rfl rfl) ?_
              have hS0 := hS
              refine Inl.set rfl rfl rfl (d_call Try.call20 rfl (same_T B2.1 _ _ _ _ _ _ _ _ hS.imm h147 h159 hB2w)) ?_
              rintro _ w_57 ⟨rfl, hE⟩
              replace hS := hS.call hE
              refine ⟨_, _, hS0.le hE.ext (List.Sublist.refl _), hS, ?_⟩
              refine spt rfl rfl rfl (g_not rfl) ?_
              refine sp rfl (g_or rfl rfl (fun _ => rfl)) ?_
              refine sp rfl (g_movev (v := .bool _) rfl) ?_
              refine spt rfl rfl rfl (g_movev (v := .int .i64 _) rfl) ?_
              refine spt rfl rfl rfl (g_movev (v := .int .i64 _) rfl) ?_
              refine spt rfl rfl rfl (g_neqF rfl rfl rfl) ?_
              refine sp rfl (g_or rfl rfl (fun _ => rfl)) ?_
              refine sp rfl (g_movev (v := .bool _) rfl) ?_
              refine spt rfl rfl rfl (g_move _) ?_
              refine spt rfl rfl rfl (g_movev (v := .int .i64 _) rfl) ?_
              refine spt rfl rfl rfl (g_ixI Try.underlying35 Try.sizeOf31 h49 rfl rfl (by omega) (by omega)) ?_
              refine sht rfl rfl rfl (g_ldE (us := [.bool _, .int .i64 _, .int .i64 _, .slice _ _ _]) Try.sizeOf31 Try.isAgg31 hAx rfl rfl rfl) ?_
              refine spt rfl rfl rfl (g_move _) ?_
              refine spt rfl rfl rfl (g_movev (v := .int .i64 _) rfl) ?_
              refine spt rfl rfl rfl (g_ixI Try.underlying35 Try.sizeOf31 h49 rfl rfl (by omega) (by omega)) ?_
              refine sht rfl rfl rfl (g_ldE (us := [.bool _, .int .i64 _, .int .i64 _, .slice _ _ _]) Try.sizeOf31 Try.isAgg31 hAy rfl rfl rfl) ?_
              refine spt rfl rfl rfl (g_move _) ?_
              refine spt rfl rfl rfl (g_movev (v := .int .i64 _) rfl) ?_
              refine spt rfl rfl rfl (g_ixI Try.underlying35 Try.sizeOf31 h49 rfl rfl (by omega) (by omega)) ?_
              refine sht rfl rfl rfl (g_ldE (us := [.bool _, .int .i64 _, .int .i64 _, .slice _ _ _]) Try.sizeOf31 Try.isAgg31 hAx rfl rfl rfl) ?_
              refine spt rfl rfl rfl (g_move _) ?_
              refine spt rfl rfl rfl (g_movev (v := .int .i64 _) rfl) ?_
              refine spt rfl rfl rfl (g_ixI Try.underlying35 Try.sizeOf31 h49 rfl rfl (by omega) (by omega)) ?_
              refine sht rfl rfl rfl (g_ldE (us := [.bool _, .int .i64 _, .int .i64 _, .slice _ _ _]) Try.sizeOf31 Try.isAgg31 hAy rfl rfl rfl) ?_
              have hS0 := hS
              refine Inl.set rfl rfl rfl (d_call Try.call22 rfl (exchanged_M x adx mx cx y ady my cy B3 _ _ hS.imm hwx hox hwy hoy hB3)) ?_
              rintro _ w_58 ⟨I_f, a191, m191, c191, d191, n191, e191, rfl, hE, h191, k191⟩
              replace hS := hS.call hE
              replace h49 := h49.mono hE.ext
              replace hox := hox.mono hE.ext
              replace hAx := hAx.mono hE.ext
              replace hoy := hoy.mono hE.ext
              replace hAy := hAy.mono hE.ext
              replace h123 := h123.mono hE.ext
              replace h135 := h135.mono hE.ext
              replace h147 := h147.mono hE.ext
              replace h159 := h159.mono hE.ext
              refine ⟨_, _, hS0.le hE.ext (List.Sublist.refl _), hS, ?_⟩
              have hS0 := hS
              refine Inl.set rfl rfl rfl (d_call Try.call23 rfl (refCommute_E x adx mx cx y ady my cy B3 _ _ hS.imm hwx hox hwy hoy hB3)) ?_
              rintro _ w_59 ⟨I_f, a200, m200, c200, d200, n200, e200, rfl, hE, h200, k200⟩
              replace hS := hS.call hE
              replace h49 := h49.mono hE.ext
              replace hox := hox.mono hE.ext
              replace hAx := hAx.mono hE.ext
              replace hoy := hoy.mono hE.ext
              replace hAy := hAy.mono hE.ext
              replace h123 := h123.mono hE.ext
              replace h135 := h135.mono hE.ext
              replace h147 := h147.mono hE.ext
              replace h159 := h159.mono hE.ext
              replace h191 := h191.mono hE.ext
              replace k191 := k191.mono hE.ext
              refine ⟨_, _, hS0.le hE.ext (List.Sublist.refl _), hS, ?_⟩
              have hS0 := hS
              refine Inl.set rfl rfl rfl (d_call Try.call21 rfl (same11_T B3.q B3.p B3.e _ _ _ _ _ _ _ _ _ _ _ _ _ _ hS.imm hB3w.1 hB3w.2 h191 k191 h200 k200)) ?_
              rintro _ w_60 ⟨rfl, hE⟩
              replace hS := hS.call hE
              refine ⟨_, _, hS0.le hE.ext (List.Sublist.refl _), hS, ?_⟩
              refine spt rfl rfl rfl (g_not rfl) ?_
              refine sp rfl (g_or rfl rfl (fun _ => rfl)) ?_
              refine sn (thenN ?_)
              refine cond_f (rfl) ?_
              refine wpIn_skip ?_
              refine blkN (thenN ?_)
              refine reg ?_
              refine qq hS (g_movev (v := .int .i64 _) rfl) ?_
              refine qq hS (g_add rfl rfl (by omega) (by omega)) ?_
              refine qq hS (g_assignv (v := .int .i64 _) rfl) ?_
              refine ol_nil (thenN ?_)
              exact ⟨k + 1, _, rfl, ⟨⟨rfl, rfl, rfl, rfl, trivial⟩, _, hS.sel [false, false], by omega, h49⟩, by omega⟩
            ·
              have hS0 := hS
              refine se rfl (d_alloc (cs := [.bool _, .int .i64 _, .int .i64 _, .slice _ _ _]) hS Try.zeroValue31 rfl) ?_
              rintro _ w_61 ⟨b28, rfl, hS⟩
              refine ⟨_, _, hS0.le (Sub.refl _) (List.sublist_cons_self _ _), hS, ?_⟩
              have hS0 := hS
              refine se rfl (d_call Try.call19 rfl (refMerge_E x adx mx cx y ady my cy B2 _ _ hS.imm hwx hox hwy hoy hB2)) ?_
              rintro _ w_62 ⟨I_f, a159, m159, c159, rfl, hE, h159⟩
              replace hS := hS.call hE
              replace h49 := h49.mono hE.ext
              replace hox := hox.mono hE.ext
              replace hAx := hAx.mono hE.ext
              replace hoy := hoy.mono hE.ext
              replace hAy := hAy.mono hE.ext
              replace h123 := h123.mono hE.ext
              replace h135 := h135.mono hE.ext
              replace h147 := h147.mono hE.ext
              refine ⟨_, _, hS0.le hE.ext (List.Sublist.refl _), hS, ?_⟩
              refine sp rfl (g_move _) ?_
              refine sp rfl (g_extract rfl rfl) ?_
              refine sp rfl (g_extract (v := .int .i64 _) rfl rfl) ?_
              refine sb rfl (d_store 0 hS Try.sizeOf31 rfl rfl rfl (vs := [.bool _, .int .i64 _, .int .i64 _, .slice _ _ _]) rfl rfl rfl (Nat.le_of_ble_eq_true rfl) (cs' := [_, _, _, _]) rfl) ?_
              rintro _ w_63 ⟨rfl, hS⟩
              refine ⟨_, _, hS, ?_⟩
              refine sp rfl (g_assignv (v := .int .i64 _) rfl) ?_
              refine sn (thenN ?_)
              refine wpIn_seq ?_
              refine draw (.cons 0 .pure (.cons 1 .pure (.cons 2 .eff (.cons 3 .pure (.cons 4 .pure (.cons 5 .pure (.cons 6 .pure (.cons 7 .pure (.cons 8 .pure (.cons 9 .pure (.cons 10 .held (.cons 11 .held (.cons 12 .eff (.cons 13 .pure (.cons 14 .pure (.cons 15 .pure (.cons 16 .pure (.cons 17 .pure (.cons 18 .pure (.cons 19 .pure (.cons 20 .pure (.cons 21 .pure (.cons 22 .pure (.cons 23 .pure (.cons 24 .held (.cons 25 .pure (.cons 26 .pure (.cons 27 .pure (.cons 28 .held (.cons 30 .pure (.cons 31 .pure (.cons 32 .pure (.cons 33 .held (.cons 34 .pure (.cons 35 .pure (.cons 36 .pure (.cons 37 .held (.cons 29 .eff (.cons 38 .eff (.cons 39 .eff (.cons 40 .pure (.cons 41 .pure .nil)))))))))))))))))))))))))))))))))))))))))) mixed (by kernel_rfl) hS ?_
              intro w_64 hS
              refine sp rfl (g_move _) ?_
              refine sp rfl (g_move _) ?_
              have hS0 := hS
              refine se rfl (d_call Try.call15 rfl (sameRg_T B1.1 _ _ _ _ _ _ _ _ hS.imm h123 h135 rfl rfl)) ?_
              rintro _ w_65 ⟨rfl, hE⟩
              replace hS := hS.call hE
              refine ⟨_, _, hS0.le hE.ext (List.Sublist.refl _), hS, ?_⟩
              refine sp rfl (g_not rfl) ?_
              refine sp rfl (g_movev (v := .bool _) rfl) ?_
              refine spt rfl rfl rfl (g_movev (v := .int .i64 _) rfl) ?_
              refine spt rfl rfl rfl (g_movev (v := .int .i64 _) rfl) ?_
              refine spt rfl rfl rfl (g_neqF rfl rfl rfl) ?_
              refine sp rfl (g_or rfl rfl (fun _ => rfl)) ?_
              refine sp rfl (g_movev (v := .bool _) rfl) ?_
              refine sht rfl rfl rfl (g_ldO 1 (vs := [.bool _, .int .i64 _, .int .i64 _, .slice _ _ _]) Try.sizeOf31 Try.isAgg31 rfl rfl rfl rfl) ?_
              refine sht rfl rfl rfl (g_ldO 0 (vs := [.bool _, .int .i64 _, .int .i64 _, .slice _ _ _]) Try.sizeOf31 Try.isAgg31 rfl rfl rfl rfl) ?_
              have hS0 := hS
              refine Inl.set rfl rfl rfl (d_call Try.call20 rfl (same_T B2.1 _ _ _ _ _ _ _ _ hS.imm h147 h159 hB2w)) ?_
              rintro _ w_66 ⟨rfl, hE⟩
              replace hS := hS.call hE
              refine ⟨_, _, hS0.le hE.ext (List.Sublist.refl _), hS, ?_⟩
              refine spt rfl rfl rfl (g_not rfl) ?_
              refine sp rfl (g_or rfl rfl (fun _ => rfl)) ?_
              refine sp rfl (g_movev (v := .bool _) rfl) ?_
              refine spt rfl rfl rfl (g_movev (v := .int .i64 _) rfl) ?_
              refine spt rfl rfl rfl (g_movev (v := .int .i64 _) rfl) ?_
              refine spt rfl rfl rfl (g_neqF rfl rfl rfl) ?_
              refine sp rfl (g_or rfl rfl (fun _ => rfl)) ?_
              refine sp rfl (g_movev (v := .bool _) rfl) ?_
              refine spt rfl rfl rfl (g_move _) ?_
              refine spt rfl rfl rfl (g_movev (v := .int .i64 _) rfl) ?_
              refine spt rfl rfl rfl (g_ixI Try.underlying35 Try.sizeOf31 h49 rfl rfl (by omega) (by omega)) ?_
              refine sht rfl rfl rfl (g_ldE (us := [.bool _, .int .i64 _, .int .i64 _, .slice _ _ _]) Try.sizeOf31 Try.isAgg31 hAx rfl rfl rfl) ?_
              refine spt rfl rfl rfl (g_move _) ?_
              refine spt rfl rfl rfl (g_movev (v := .int .i64 _) rfl) ?_
              refine spt rfl rfl rfl (g_ixI Try.underlying35 Try.sizeOf31 h49 rfl rfl (by omega) (by omega)) ?_
              refine sht rfl rfl rfl (g_ldE (us := [.bool _, .int .i64 _, .int .i64 _, .slice _ _ _]) Try.sizeOf31 Try.isAgg31 hAy rfl rfl rfl) ?_
              refine spt rfl rfl rfl (g_move _) ?_
              refine spt rfl rfl rfl (g_movev (v := .int .i64 _) rfl) ?_
              refine spt rfl rfl rfl (g_ixI Try.underlying35 Try.sizeOf31 h49 rfl rfl (by omega) (by omega)) ?_
              refine sht rfl rfl rfl (g_ldE (us := [.bool _, .int .i64 _, .int .i64 _, .slice _ _ _]) Try.sizeOf31 Try.isAgg31 hAx rfl rfl rfl) ?_
              refine spt rfl rfl rfl (g_move _) ?_
              refine spt rfl rfl rfl (g_movev (v := .int .i64 _) rfl) ?_
              refine spt rfl rfl rfl (g_ixI Try.underlying35 Try.sizeOf31 h49 rfl rfl (by omega) (by omega)) ?_
              refine sht rfl rfl rfl (g_ldE (us := [.bool _, .int .i64 _, .int .i64 _, .slice _ _ _]) Try.sizeOf31 Try.isAgg31 hAy rfl rfl rfl) ?_
              have hS0 := hS
              refine Inl.set rfl rfl rfl (d_call Try.call22 rfl (exchanged_M x adx mx cx y ady my cy B3 _ _ hS.imm hwx hox hwy hoy hB3)) ?_
              rintro _ w_67 ⟨I_f, a191, m191, c191, d191, n191, e191, rfl, hE, h191, k191⟩
              replace hS := hS.call hE
              replace h49 := h49.mono hE.ext
              replace hox := hox.mono hE.ext
              replace hAx := hAx.mono hE.ext
              replace hoy := hoy.mono hE.ext
              replace hAy := hAy.mono hE.ext
              replace h123 := h123.mono hE.ext
              replace h135 := h135.mono hE.ext
              replace h147 := h147.mono hE.ext
              replace h159 := h159.mono hE.ext
              refine ⟨_, _, hS0.le hE.ext (List.Sublist.refl _), hS, ?_⟩
              have hS0 := hS
              refine Inl.set rfl rfl rfl (d_call Try.call23 rfl (refCommute_E x adx mx cx y ady my cy B3 _ _ hS.imm hwx hox hwy hoy hB3)) ?_
              rintro _ w_68 ⟨I_f, a200, m200, c200, d200, n200, e200, rfl, hE, h200, k200⟩
              replace hS := hS.call hE
              replace h49 := h49.mono hE.ext
              replace hox := hox.mono hE.ext
              replace hAx := hAx.mono hE.ext
              replace hoy := hoy.mono hE.ext
              replace hAy := hAy.mono hE.ext
              replace h123 := h123.mono hE.ext
              replace h135 := h135.mono hE.ext
              replace h147 := h147.mono hE.ext
              replace h159 := h159.mono hE.ext
              replace h191 := h191.mono hE.ext
              replace k191 := k191.mono hE.ext
              refine ⟨_, _, hS0.le hE.ext (List.Sublist.refl _), hS, ?_⟩
              have hS0 := hS
              refine Inl.set rfl rfl rfl (d_call Try.call21 rfl (same11_T B3.q B3.p B3.e _ _ _ _ _ _ _ _ _ _ _ _ _ _ hS.imm hB3w.1 hB3w.2 h191 k191 h200 k200)) ?_
              rintro _ w_69 ⟨rfl, hE⟩
              replace hS := hS.call hE
              refine ⟨_, _, hS0.le hE.ext (List.Sublist.refl _), hS, ?_⟩
              refine spt rfl rfl rfl (g_not rfl) ?_
              refine sp rfl (g_or rfl rfl (fun _ => rfl)) ?_
              refine sn (thenN ?_)
              refine cond_f (rfl) ?_
              refine wpIn_skip ?_
              refine blkN (thenN ?_)
              refine reg ?_
              refine qq hS (g_movev (v := .int .i64 _) rfl) ?_
              refine qq hS (g_add rfl rfl (by omega) (by omega)) ?_
              refine qq hS (g_assignv (v := .int .i64 _) rfl) ?_
              refine ol_nil (thenN ?_)
              exact ⟨k + 1, _, rfl, ⟨⟨rfl, rfl, rfl, rfl, trivial⟩, _, hS.sel [false, false], by omega, h49⟩, by omega⟩
        ·
          intro hc111
          try simp only [Bool.and_eq_true, Bool.or_eq_true, Bool.not_eq_true', Bool.and_eq_false_imp, Bool.or_eq_false_iff, Bool.not_eq_false', decide_eq_true_eq, decide_eq_false_iff_not] at hc111
          refine wpIn_exit ?_
          refine thenE (thenE (blkE ?_))
          refine blkN (thenN ?_)
          refine reg ?_
          refine qq hS (g_movev (v := .int .i64 _) rfl) ?_
          refine qq hS (g_add rfl rfl (by omega) (by omega)) ?_
          refine qq hS (g_assignv (v := .int .i64 _) rfl) ?_
          refine ol_nil (thenN ?_)
          exact ⟨i + 1, _, rfl, ⟨⟨rfl, rfl, rfl, trivial⟩, _, hS.sel [], by omega, h49⟩, by omega⟩
    ·
      intro hc53
      try simp only [Bool.and_eq_true, Bool.or_eq_true, Bool.not_eq_true', Bool.and_eq_false_imp, Bool.or_eq_false_iff, Bool.not_eq_false', decide_eq_true_eq, decide_eq_false_iff_not] at hc53
      refine wpIn_exit ?_
      refine thenE (thenE (blkE ?_))
      refine thenN ?_
      refine wpIn_seq ?_
      refine reg ?_
      refine qq hS (g_movev (v := .bool _) rfl) ?_
      refine qq hS (g_assignv (v := .bool _) rfl) ?_
      refine ol_nil (thenN ?_)
      refine wpIn_ret ?_
      refine ret1 Try.results3 (rv_tmp (v := .bool _) rfl) ?_
      exact ⟨_, rfl, hS.nil⟩

end Go.Proofs.Ytalemnjjljnnpaa

