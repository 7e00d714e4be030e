/- inlaylaw10.InverseBack and InverseTwice: their functions answer true. Conditions: arguments are of their kinds. -/
import Derived.Test.YtlhehhhpaebpoaaGreatSanity10
import Derived.Test.YtlhehhhpaebpoaaGreatRefApply
namespace Go.Proofs.YtlhehhhpaebpoaaGreat
open Go Go.RowKit Go.Inl
set_option linter.unusedSimpArgs false
set_option linter.unusedVariables false
theorem invertP_ok {p F : PatL} {O : List Int} (hk : (checkP p).2 = 0) (hin : p.in_ = O.length) (hF : InvFor p F O) : invertP O p = (F, 0) := by
  unfold invertP
  rw [symbolsP_ok hk, applyP_right hk hin, if_neg (by simp), if_neg (by simp)]
  exact hF.cheap
theorem apply_inv {p F : PatL} {O : List Int} (hk : (checkP p).2 = 0) (hin : p.in_ = O.length) (hb : ∀ y ∈ O, 0 ≤ y ∧ y ≤ 255) (hF : InvFor p F O) : applyP ((symsOf p.ops).map (runB O)) F = (O, 0) := by
  obtain ⟨k1, k2, k3, k4, k5, k6, k7⟩ := checkP_ok hk
  rw [applyP_right hF.chk (by rw [hF.in_, List.length_map]; omega), hF.syms]
  have ok := (ops_ok _ k1).1
  rw [hin] at ok
  rw [inv_run ok hb]

set_option maxHeartbeats 1000000 in
theorem two_c (r : Int) (ad bd : Option Addr) (cap capb : Nat) (l : List Q4) (bs : List Int) (p : PatL) (O : List Int) (w0 : World) (I0 : Imm) (hI : Sat I0 w0) (hr : 0 ≤ r ∧ r ≤ 255) (h4 : RFl I0 4 q4C (.slice ad l.length cap) l) (hq : ∀ q ∈ l, q.wf) (hb : RBytes I0 (.slice bd bs.length capb) bs) (hbb : ∀ y ∈ bs, 0 ≤ y ∧ y ≤ 255) (hp : madeP l (r % 13) = p) (hO : inputP bs p.in_.toNat = O) :
    Ctr Tryz.prog 9 [.agg #[.int .u8 r, .slice ad l.length cap], .slice bd bs.length capb] w0 (fun v w' => ∃ I' a m c b d, v = .tuple #[.agg #[.bool p.lifted, .int .i64 p.in_, .int .i64 p.out, .slice a m c], .slice b O.length d] ∧ Ext w0 I0 w' I' ∧ ROps I' (.slice a m c) p.ops ∧ RBytes I' (.slice b O.length d) O) := by
  have hr13 : 0 ≤ r % 13 ∧ r % 13 ≤ 65536 := by omega
  obtain ⟨hpk, hpo, hpl⟩ := madeP_ok (size := r % 13) hq hr13
  rw [hp] at hpk hpo hpl
  obtain ⟨k1, k2, k3, k4, k5, k6, k7⟩ := checkP_ok hpk
  refine fn (n := 14) Tryz.func9 rfl rfl rfl ?_
  have hS := St.start hI
  refine wpIn_seq ?_
  refine reg ?_
  refine qe (d_box (cs := [.int .u8 _, .slice _ _ _]) hS rfl) ?_
  clear hS
  rintro _ w_1 ⟨b2, rfl, hS⟩
  refine qe (d_alloc (cs := [.bool _, .int .i64 _, .int .i64 _, .slice _ _ _]) hS Tryz.zeroValue31 rfl) ?_
  clear hS
  rintro _ w_2 ⟨b4, rfl, hS⟩
  refine qq hS (g_assign _) ?_
  refine ol_nil (thenN ?_)
  refine wpIn_seq ?_
  refine reg ?_
  refine qq hS (g_ldO 1 (vs := [.int .u8 _, .slice _ _ _]) Tryz.sizeOf24 Tryz.isAgg24 rfl rfl rfl rfl) ?_
  refine qe (d_call Tryz.call24 rfl (made6_E r ad cap l p _ _ hS.imm h4 hq hr hp)) ?_
  rintro _ w_3 ⟨I_f, a8, m8, c8, rfl, hE, h8⟩
  replace hS := hS.callE hE
  replace h4 := h4.mono hE.ext
  replace hb := hb.mono hE.ext
  refine qe (d_alloc (cs := [.bool _, .int .i64 _, .int .i64 _, .slice _ _ _]) hS Tryz.zeroValue31 rfl) ?_
  clear hS
  rintro _ w_4 ⟨b6, rfl, hS⟩
  refine qe (d_store 0 hS Tryz.sizeOf31 rfl rfl rfl (vs := [.bool _, .int .i64 _, .int .i64 _, .slice _ _ _]) rfl rfl rfl (Nat.le_of_ble_eq_true rfl) (cs' := [_, _, _, _]) rfl) ?_
  clear hS
  rintro _ w_5 ⟨rfl, hS⟩
  refine ol_nil (thenN ?_)
  refine wpIn_seq ?_
  refine drawS [true, false, true] (.cons 0 .held (.cons 1 .pure (.cons 2 .pure (.cons 3 .held (.cons 4 .eff (.cons 5 .eff (.cons 6 .pure .nil))))))) mixed (by kernel_rfl) hS ?_
  intro w_6 hS
  refine sh rfl (g_ldO 0 (vs := [.bool _, .int .i64 _, .int .i64 _, .slice _ _ _]) Tryz.sizeOf31 Tryz.isAgg31 rfl rfl rfl rfl) ?_
  refine sp rfl (g_move _) ?_
  refine sp rfl (g_fieldAddr (o' := 1) Tryz.underlying31 rfl Tryz.sizeOf3 rfl rfl rfl) ?_
  refine sh rfl (g_ldO1 0 Tryz.isAgg3 rfl rfl rfl) ?_
  have hS0 := hS
  refine se rfl (d_call Tryz.call25 rfl (input_E _ _ bs p.in_ O _ _ hS.imm hb hbb ⟨k3, k4⟩ hO)) ?_
  rintro _ w_7 ⟨I_f, a13, c13, rfl, hE, h13⟩
  replace hS := hS.call hE
  replace h4 := h4.mono hE.ext
  replace hb := hb.mono hE.ext
  replace h8 := h8.mono hE.ext
  refine ⟨_, _, (hS0.sel [true, false, true]).le hE.ext (List.Sublist.refl _), hS.sel [true, false, true], ?_⟩
  have hS0 := hS
  refine se rfl (d_store 1 hS Tryz.sizeOf31 rfl rfl rfl (vs := [.bool _, .int .i64 _, .int .i64 _, .slice _ _ _]) rfl rfl rfl (Nat.le_of_ble_eq_true rfl) (cs' := [_, _, _, _]) rfl) ?_
  rintro _ w_8 ⟨rfl, hS⟩
  refine ⟨_, _, fun _ h => h, hS.sel [true, false, true], ?_⟩
  refine sp rfl (g_assign _) ?_
  refine sn (thenN ?_)
  refine wpIn_ret ?_
  refine ret2 Tryz.results9 (rv_cel 1 hS Tryz.sizeOf31 Tryz.isAgg31 rfl rfl rfl) (rv_tmp rfl) ?_
  exact ⟨_, a8, m8, c8, a13, c13, rfl, hS.nil, h8, h13⟩

set_option maxRecDepth 20000 in
set_option maxHeartbeats 4000000 in
theorem iback_c (r : Int) (ad bd : Option Addr) (cap capb : Nat) (l : List Q4) (bs : List Int) (w0 : World) (I0 : Imm) (hI : Sat I0 w0) (hr : 0 ≤ r ∧ r ≤ 255) (h4 : RFl I0 4 q4C (.slice ad l.length cap) l) (hq : ∀ q ∈ l, q.wf) (hb : RBytes I0 (.slice bd bs.length capb) bs) (hbb : ∀ y ∈ bs, 0 ≤ y ∧ y ≤ 255) :
    Ctr Tryz.prog 4 [.agg #[.int .u8 r, .slice ad l.length cap], .slice bd bs.length capb] w0 (fun v w' => ∃ I', v = .bool true ∧ Ext w0 I0 w' I') := by
  have hr13 : 0 ≤ r % 13 ∧ r % 13 ≤ 65536 := by omega
  have hpw := madeP_wf (size := r % 13) hq hr13
  obtain ⟨hpk, hpo, hpl⟩ := madeP_ok (size := r % 13) hq hr13
  have hlf : (madeP l (r % 13)).lifted = false := rfl
  have hin0 : (madeP l (r % 13)).in_ = r % 13 := rfl
  obtain ⟨p, hp⟩ : ∃ p, madeP l (r % 13) = p := ⟨_, rfl⟩
  rw [hp] at hpw hpk hpo hpl hlf hin0
  obtain ⟨k1, k2, k3, k4, k5, k6, k7⟩ := checkP_ok hpk
  have hOl := inputP_len bs p.in_.toNat
  have hOb := inputP_bd (n := p.in_.toNat) hbb
  obtain ⟨O, hO⟩ : ∃ O, inputP bs p.in_.toNat = O := ⟨_, rfl⟩
  rw [hO] at hOl hOb
  have hin : p.in_ = O.length := by omega
  have hXA := applyP_right hpk hin
  have hOl4 : O.length ≤ 4096 := by omega
  obtain ⟨F, hF⟩ := inv_for (old := O) hpk hOl4 hOb
  have hVF := invertP_ok hpk hin hF
  have hXF := apply_inv hpk hin hOb hF
  have hRl : ((symsOf p.ops).map (runB O)).length = (symsOf p.ops).length := List.length_map _
  have hFo : F.out = p.in_ := by rw [hF.out]; omega

  refine fn (n := 80) Tryz.func4 rfl rfl rfl ?_
  have hS := St.start hI
  refine wpIn_seq ?_
  refine reg ?_
  refine qe (d_box (cs := [.int .u8 _, .slice _ _ _]) hS rfl) ?_
  clear hS
  rintro _ w_1 ⟨b2, rfl, hS⟩
  refine qq hS (g_assignv (v := .bool _) rfl) ?_
  refine ol_nil (thenN ?_)
  refine wpIn_seq ?_
  refine reg ?_
  refine qe (d_call Tryz.call8 rfl (sanity10_c _ _ hS.imm)) ?_
  rintro _ w_2 ⟨I_f, rfl, hE⟩
  replace hS := hS.callE hE
  replace h4 := h4.mono hE.ext
  replace hb := hb.mono hE.ext
  refine qq hS (g_assignv (v := .bool _) rfl) ?_
  refine ol_nil (thenN ?_)
  refine wpIn_seq ?_
  refine reg ?_
  refine qq hS (g_ldO 0 (vs := [.int .u8 _, .slice _ _ _]) Tryz.sizeOf24 Tryz.isAgg24 rfl rfl rfl rfl) ?_
  refine qq hS (g_move _) ?_
  refine qe (d_call Tryz.call9 rfl (two_c r ad bd cap capb l bs p O _ _ hS.imm hr h4 hq hb hbb hp hO)) ?_
  rintro _ w_3 ⟨I_f, a18, m18, c18, b18, d18, rfl, hE, h18, k18⟩
  replace hS := hS.callE hE
  replace h4 := h4.mono hE.ext
  replace hb := hb.mono hE.ext
  refine qq hS (g_move _) ?_
  refine qq hS (g_extract rfl rfl) ?_
  refine qq hS (g_extract rfl rfl) ?_
  refine qe (d_alloc (cs := [.bool _, .int .i64 _, .int .i64 _, .slice _ _ _]) hS Tryz.zeroValue31 rfl) ?_
  clear hS
  rintro _ w_4 ⟨b6, rfl, hS⟩
  refine qe (d_store 0 hS Tryz.sizeOf31 rfl rfl rfl (vs := [.bool _, .int .i64 _, .int .i64 _, .slice _ _ _]) rfl rfl rfl (Nat.le_of_ble_eq_true rfl) (cs' := [_, _, _, _]) rfl) ?_
  clear hS
  rintro _ w_5 ⟨rfl, hS⟩
  refine qq hS (g_assign _) ?_
  refine ol_nil (thenN ?_)
  refine wpIn_seq ?_
  refine reg ?_
  refine qq hS (g_move _) ?_
  refine qq hS (g_ldO 0 (vs := [.bool _, .int .i64 _, .int .i64 _, .slice _ _ _]) Tryz.sizeOf31 Tryz.isAgg31 rfl rfl rfl rfl) ?_
  refine qe (d_call Tryz.call19 rfl (apply_L p _ _ _ _ _ _ O ((symsOf p.ops).map (runB O)) 0 _ _ hS.imm h18 hpw hlf k18 rfl hXA)) ?_
  rintro _ w_6 ⟨I_f, a24, c24, rfl, hE, h24⟩
  replace hS := hS.callE hE
  replace h4 := h4.mono hE.ext
  replace hb := hb.mono hE.ext
  replace h18 := h18.mono hE.ext
  replace k18 := k18.mono hE.ext
  refine qq hS (g_move _) ?_
  refine qq hS (g_extract rfl rfl) ?_
  refine qq hS (g_extract (v := .int .i64 _) rfl rfl) ?_
  refine qq hS (g_assign _) ?_
  refine qq hS (g_assignv (v := .int .i64 _) rfl) ?_
  refine ol_nil (thenN ?_)
  refine wpIn_seq ?_
  refine reg ?_
  refine qq hS (g_move _) ?_
  refine qq hS (g_ldO 0 (vs := [.bool _, .int .i64 _, .int .i64 _, .slice _ _ _]) Tryz.sizeOf31 Tryz.isAgg31 rfl rfl rfl rfl) ?_
  refine qe (d_call Tryz.call13 rfl (invert_L p _ _ _ _ _ _ O F 0 _ _ hS.imm h18 hpw hlf k18 rfl hOb hVF)) ?_
  rintro _ w_7 ⟨I_f, a30, m30, c30, rfl, hE, h30⟩
  replace hS := hS.callE hE
  replace h4 := h4.mono hE.ext
  replace hb := hb.mono hE.ext
  replace h18 := h18.mono hE.ext
  replace k18 := k18.mono hE.ext
  replace h24 := h24.mono hE.ext
  refine qq hS (g_move _) ?_
  refine qq hS (g_extract rfl rfl) ?_
  refine qq hS (g_extract (v := .int .i64 _) rfl rfl) ?_
  refine qe (d_alloc (cs := [.bool _, .int .i64 _, .int .i64 _, .slice _ _ _]) hS Tryz.zeroValue31 rfl) ?_
  clear hS
  rintro _ w_8 ⟨b10, rfl, hS⟩
  refine qe (d_store 0 hS Tryz.sizeOf31 rfl rfl rfl (vs := [.bool _, .int .i64 _, .int .i64 _, .slice _ _ _]) rfl rfl rfl (Nat.le_of_ble_eq_true rfl) (cs' := [_, _, _, _]) rfl) ?_
  clear hS
  rintro _ w_9 ⟨rfl, hS⟩
  refine qq hS (g_assignv (v := .int .i64 _) rfl) ?_
  refine ol_nil (thenN ?_)
  refine wpIn_seq ?_
  refine wpIn_seq ?_
  refine reg ?_
  refine qq hS (g_movev (v := .int .i64 _) rfl) ?_
  refine qq hS (g_neq rfl rfl) ?_
  refine qq hS (g_movev (v := .bool _) rfl) ?_
  refine qqs rfl rfl hS (g_movev (v := .int .i64 _) rfl) ?_
  refine qqs rfl rfl hS (g_neq rfl rfl) ?_
  refine qq hS (g_or rfl rfl (fun _ => rfl)) ?_
  refine qq hS (g_movev (v := .bool _) rfl) ?_
  refine qqs rfl rfl hS (g_ldO 0 (vs := [.bool _, .int .i64 _, .int .i64 _, .slice _ _ _]) Tryz.sizeOf31 Tryz.isAgg31 rfl rfl rfl rfl) ?_
  refine qes rfl rfl (d_call Tryz.call20 rfl (right_K F _ _ _ _ _ hS.imm h30 hF.wf hF.chk)) ?_
  rintro _ w_10 ⟨rfl, hE⟩
  replace hS := hS.callE hE
  refine qqs rfl rfl hS (g_not rfl) ?_
  refine qq hS (g_or rfl rfl (fun _ => rfl)) ?_
  refine qq hS (g_movev (v := .bool _) rfl) ?_
  refine qqs rfl rfl hS (g_fieldAddr (o' := 1) Tryz.underlying31 rfl Tryz.sizeOf3 rfl rfl rfl) ?_
  refine qqs rfl rfl hS (g_ldO1 0 Tryz.isAgg3 rfl rfl rfl) ?_
  refine qqs rfl rfl hS (g_fieldAddr (o' := 2) Tryz.underlying31 rfl Tryz.sizeOf3 rfl rfl rfl) ?_
  refine qqs rfl rfl hS (g_ldO1 1 Tryz.isAgg3 rfl rfl rfl) ?_
  refine qqs rfl rfl hS (g_neqF rfl rfl hF.in_) ?_
  refine qq hS (g_or rfl rfl (fun _ => rfl)) ?_
  refine qq hS (g_movev (v := .bool _) rfl) ?_
  refine qqs rfl rfl hS (g_fieldAddr (o' := 2) Tryz.underlying31 rfl Tryz.sizeOf3 rfl rfl rfl) ?_
  refine qqs rfl rfl hS (g_ldO1 0 Tryz.isAgg3 rfl rfl rfl) ?_
  refine qqs rfl rfl hS (g_fieldAddr (o' := 1) Tryz.underlying31 rfl Tryz.sizeOf3 rfl rfl rfl) ?_
  refine qqs rfl rfl hS (g_ldO1 1 Tryz.isAgg3 rfl rfl rfl) ?_
  refine qqs rfl rfl hS (g_neqF rfl rfl hFo) ?_
  refine qq hS (g_or rfl rfl (fun _ => rfl)) ?_
  refine qq hS (g_movev (v := .bool _) rfl) ?_
  refine qqs rfl rfl hS (g_fieldAddr (o' := 0) Tryz.underlying31 rfl Tryz.sizeOf4 rfl rfl rfl) ?_
  refine qqs rfl rfl hS (g_ldO1 0 Tryz.isAgg4 rfl rfl rfl) ?_
  refine qq hS (g_or rfl rfl (fun _ => rfl)) ?_
  refine ol_nil (thenN ?_)
  refine cond_f (congrArg Value.bool hF.lif) ?_
  refine wpIn_skip ?_
  refine thenN ?_
  refine wpIn_seq ?_
  refine reg ?_
  refine qq hS (g_move _) ?_
  refine qq hS (g_ldO 0 (vs := [.bool _, .int .i64 _, .int .i64 _, .slice _ _ _]) Tryz.sizeOf31 Tryz.isAgg31 rfl rfl rfl rfl) ?_
  refine qe (d_call Tryz.call19 rfl (apply_L F _ _ _ _ _ _ ((symsOf p.ops).map (runB O)) O 0 _ _ hS.imm h30 hF.wf hF.lif h24 rfl hXF)) ?_
  rintro _ w_11 ⟨I_f, a65, c65, rfl, hE, h65⟩
  replace hS := hS.callE hE
  replace h4 := h4.mono hE.ext
  replace hb := hb.mono hE.ext
  replace h18 := h18.mono hE.ext
  replace k18 := k18.mono hE.ext
  replace h24 := h24.mono hE.ext
  replace h30 := h30.mono hE.ext
  refine qq hS (g_move _) ?_
  refine qq hS (g_extract rfl rfl) ?_
  refine qq hS (g_extract (v := .int .i64 _) rfl rfl) ?_
  refine qq hS (g_assign _) ?_
  refine qq hS (g_assignv (v := .int .i64 _) rfl) ?_
  refine ol_nil (thenN ?_)
  refine wpIn_seq ?_
  refine reg ?_
  refine qq hS (g_movev (v := .bool _) rfl) ?_
  refine qq hS (g_movev (v := .bool _) rfl) ?_
  refine qqs rfl rfl hS (g_movev (v := .int .i64 _) rfl) ?_
  refine qqs rfl rfl hS (g_eql rfl rfl) ?_
  refine qq hS (g_and rfl rfl (fun _ => rfl)) ?_
  refine qq hS (g_movev (v := .bool _) rfl) ?_
  refine qqs rfl rfl hS (g_move _) ?_
  refine qqs rfl rfl hS (g_strI Tryz.underlying25 Tryz.underlying5 Tryz.underlying9 h65 rfl) ?_
  refine qqs rfl rfl hS (g_move _) ?_
  refine qqs rfl rfl hS (g_strI Tryz.underlying25 Tryz.underlying5 Tryz.underlying9 k18 rfl) ?_
  refine qqs rfl rfl hS (g_strT rfl rfl) ?_
  refine qq hS (g_and rfl rfl (fun _ => rfl)) ?_
  refine qq hS (g_assignv (v := .bool _) rfl) ?_
  refine ol_nil (thenN ?_)
  refine wpIn_ret ?_
  refine ret1 Tryz.results4 (rv_tmp (v := .bool _) rfl) ?_
  exact ⟨_, rfl, hS.nil⟩

set_option maxRecDepth 20000 in
set_option maxHeartbeats 4000000 in
theorem itwice_c (r : Int) (ad bd : Option Addr) (cap capb : Nat) (l : List Q4) (bs : List Int) (w0 : World) (I0 : Imm) (hI : Sat I0 w0) (hr : 0 ≤ r ∧ r ≤ 255) (h4 : RFl I0 4 q4C (.slice ad l.length cap) l) (hq : ∀ q ∈ l, q.wf) (hb : RBytes I0 (.slice bd bs.length capb) bs) (hbb : ∀ y ∈ bs, 0 ≤ y ∧ y ≤ 255) :
    Ctr Tryz.prog 7 [.agg #[.int .u8 r, .slice ad l.length cap], .slice bd bs.length capb] w0 (fun v w' => ∃ I', v = .bool true ∧ Ext w0 I0 w' I') := by
  have hr13 : 0 ≤ r % 13 ∧ r % 13 ≤ 65536 := by omega
  have hpw := madeP_wf (size := r % 13) hq hr13
  obtain ⟨hpk, hpo, hpl⟩ := madeP_ok (size := r % 13) hq hr13
  have hlf : (madeP l (r % 13)).lifted = false := rfl
  have hin0 : (madeP l (r % 13)).in_ = r % 13 := rfl
  obtain ⟨p, hp⟩ : ∃ p, madeP l (r % 13) = p := ⟨_, rfl⟩
  rw [hp] at hpw hpk hpo hpl hlf hin0
  obtain ⟨k1, k2, k3, k4, k5, k6, k7⟩ := checkP_ok hpk
  have hOl := inputP_len bs p.in_.toNat
  have hOb := inputP_bd (n := p.in_.toNat) hbb
  obtain ⟨O, hO⟩ : ∃ O, inputP bs p.in_.toNat = O := ⟨_, rfl⟩
  rw [hO] at hOl hOb
  have hin : p.in_ = O.length := by omega
  have hXA := applyP_right hpk hin
  have hOl4 : O.length ≤ 4096 := by omega
  obtain ⟨F, hF⟩ := inv_for (old := O) hpk hOl4 hOb
  have hVF := invertP_ok hpk hin hF
  have hXF := apply_inv hpk hin hOb hF
  have hRl : ((symsOf p.ops).map (runB O)).length = (symsOf p.ops).length := List.length_map _
  have hFo : F.out = p.in_ := by rw [hF.out]; omega
  have hRb : ∀ y ∈ ((symsOf p.ops).map (runB O)), 0 ≤ y ∧ y ≤ 255 := fun y hy => by
    obtain ⟨s, hs, rfl⟩ := List.mem_map.1 hy
    have hsw := symsOf_wf hpw
    rw [symbolsP_ok hpk] at hsw
    exact runB_bd (hsw s hs)
  have hinF : F.in_ = ((symsOf p.ops).map (runB O)).length := by rw [hF.in_]; omega
  obtain ⟨G, hG⟩ := inv_for (p := F) (old := ((symsOf p.ops).map (runB O))) hF.chk (by omega) hRb
  have hVG := invertP_ok hF.chk hinF hG
  have hXG := apply_inv hF.chk hinF hRb hG
  rw [show (symsOf F.ops).map (runB ((symsOf p.ops).map (runB O))) = O from (by have := apply_inv hpk hin hOb hF; rw [applyP_right hF.chk hinF] at this; exact (Prod.mk.inj this).1)] at hXG
  have hGi : G.in_ = p.in_ := by rw [hG.in_]; exact hFo
  have hGo : G.out = p.out := by rw [hG.out]; omega

  refine fn (n := 86) Tryz.func7 rfl rfl rfl ?_
  have hS := St.start hI
  refine wpIn_seq ?_
  refine reg ?_
  refine qe (d_box (cs := [.int .u8 _, .slice _ _ _]) hS rfl) ?_
  clear hS
  rintro _ w_1 ⟨b2, rfl, hS⟩
  refine qq hS (g_assignv (v := .bool _) rfl) ?_
  refine ol_nil (thenN ?_)
  refine wpIn_seq ?_
  refine reg ?_
  refine qe (d_call Tryz.call8 rfl (sanity10_c _ _ hS.imm)) ?_
  rintro _ w_2 ⟨I_f, rfl, hE⟩
  replace hS := hS.callE hE
  replace h4 := h4.mono hE.ext
  replace hb := hb.mono hE.ext
  refine qq hS (g_assignv (v := .bool _) rfl) ?_
  refine ol_nil (thenN ?_)
  refine wpIn_seq ?_
  refine reg ?_
  refine qq hS (g_ldO 0 (vs := [.int .u8 _, .slice _ _ _]) Tryz.sizeOf24 Tryz.isAgg24 rfl rfl rfl rfl) ?_
  refine qq hS (g_move _) ?_
  refine qe (d_call Tryz.call9 rfl (two_c r ad bd cap capb l bs p O _ _ hS.imm hr h4 hq hb hbb hp hO)) ?_
  rintro _ w_3 ⟨I_f, a20, m20, c20, b20, d20, rfl, hE, h20, k20⟩
  replace hS := hS.callE hE
  replace h4 := h4.mono hE.ext
  replace hb := hb.mono hE.ext
  refine qq hS (g_move _) ?_
  refine qq hS (g_extract rfl rfl) ?_
  refine qq hS (g_extract rfl rfl) ?_
  refine qe (d_alloc (cs := [.bool _, .int .i64 _, .int .i64 _, .slice _ _ _]) hS Tryz.zeroValue31 rfl) ?_
  clear hS
  rintro _ w_4 ⟨b6, rfl, hS⟩
  refine qe (d_store 0 hS Tryz.sizeOf31 rfl rfl rfl (vs := [.bool _, .int .i64 _, .int .i64 _, .slice _ _ _]) rfl rfl rfl (Nat.le_of_ble_eq_true rfl) (cs' := [_, _, _, _]) rfl) ?_
  clear hS
  rintro _ w_5 ⟨rfl, hS⟩
  refine qq hS (g_assign _) ?_
  refine ol_nil (thenN ?_)
  refine wpIn_seq ?_
  refine reg ?_
  refine qq hS (g_move _) ?_
  refine qq hS (g_ldO 0 (vs := [.bool _, .int .i64 _, .int .i64 _, .slice _ _ _]) Tryz.sizeOf31 Tryz.isAgg31 rfl rfl rfl rfl) ?_
  refine qe (d_call Tryz.call23 rfl (refApply_L p _ _ _ _ _ _ O ((symsOf p.ops).map (runB O)) 0 _ _ hS.imm h20 hpw hlf hpk k20 rfl hXA)) ?_
  rintro _ w_6 ⟨I_f, a26, c26, rfl, hE, h26⟩
  replace hS := hS.callE hE
  replace h4 := h4.mono hE.ext
  replace hb := hb.mono hE.ext
  replace h20 := h20.mono hE.ext
  replace k20 := k20.mono hE.ext
  refine qq hS (g_move _) ?_
  refine qq hS (g_extract rfl rfl) ?_
  refine qq hS (g_extract (v := .int .i64 _) rfl rfl) ?_
  refine qq hS (g_assign _) ?_
  refine qq hS (g_assignv (v := .int .i64 _) rfl) ?_
  refine ol_nil (thenN ?_)
  refine wpIn_seq ?_
  refine reg ?_
  refine qq hS (g_move _) ?_
  refine qq hS (g_ldO 0 (vs := [.bool _, .int .i64 _, .int .i64 _, .slice _ _ _]) Tryz.sizeOf31 Tryz.isAgg31 rfl rfl rfl rfl) ?_
  refine qe (d_call Tryz.call13 rfl (invert_L p _ _ _ _ _ _ O F 0 _ _ hS.imm h20 hpw hlf k20 rfl hOb hVF)) ?_
  rintro _ w_7 ⟨I_f, a32, m32, c32, rfl, hE, h32⟩
  replace hS := hS.callE hE
  replace h4 := h4.mono hE.ext
  replace hb := hb.mono hE.ext
  replace h20 := h20.mono hE.ext
  replace k20 := k20.mono hE.ext
  replace h26 := h26.mono hE.ext
  refine qq hS (g_move _) ?_
  refine qq hS (g_extract rfl rfl) ?_
  refine qq hS (g_extract (v := .int .i64 _) rfl rfl) ?_
  refine qe (d_alloc (cs := [.bool _, .int .i64 _, .int .i64 _, .slice _ _ _]) hS Tryz.zeroValue31 rfl) ?_
  clear hS
  rintro _ w_8 ⟨b10, rfl, hS⟩
  refine qe (d_store 0 hS Tryz.sizeOf31 rfl rfl rfl (vs := [.bool _, .int .i64 _, .int .i64 _, .slice _ _ _]) rfl rfl rfl (Nat.le_of_ble_eq_true rfl) (cs' := [_, _, _, _]) rfl) ?_
  clear hS
  rintro _ w_9 ⟨rfl, hS⟩
  refine qq hS (g_assignv (v := .int .i64 _) rfl) ?_
  refine ol_nil (thenN ?_)
  refine wpIn_seq ?_
  refine wpIn_seq ?_
  refine reg ?_
  refine qq hS (g_movev (v := .int .i64 _) rfl) ?_
  refine qq hS (g_neq rfl rfl) ?_
  refine qq hS (g_movev (v := .bool _) rfl) ?_
  refine qqs rfl rfl hS (g_movev (v := .int .i64 _) rfl) ?_
  refine qqs rfl rfl hS (g_neq rfl rfl) ?_
  refine qq hS (g_or rfl rfl (fun _ => rfl)) ?_
  refine ol_nil (thenN ?_)
  refine cond_f (rfl) ?_
  refine wpIn_skip ?_
  refine thenN ?_
  refine wpIn_seq ?_
  refine reg ?_
  refine qq hS (g_move _) ?_
  refine qq hS (g_ldO 0 (vs := [.bool _, .int .i64 _, .int .i64 _, .slice _ _ _]) Tryz.sizeOf31 Tryz.isAgg31 rfl rfl rfl rfl) ?_
  refine qe (d_call Tryz.call13 rfl (invert_L F _ _ _ _ _ _ ((symsOf p.ops).map (runB O)) G 0 _ _ hS.imm h32 hF.wf hF.lif h26 rfl hRb hVG)) ?_
  rintro _ w_10 ⟨I_f, a44, m44, c44, rfl, hE, h44⟩
  replace hS := hS.callE hE
  replace h4 := h4.mono hE.ext
  replace hb := hb.mono hE.ext
  replace h20 := h20.mono hE.ext
  replace k20 := k20.mono hE.ext
  replace h26 := h26.mono hE.ext
  replace h32 := h32.mono hE.ext
  refine qq hS (g_move _) ?_
  refine qq hS (g_extract rfl rfl) ?_
  refine qq hS (g_extract (v := .int .i64 _) rfl rfl) ?_
  refine qe (d_alloc (cs := [.bool _, .int .i64 _, .int .i64 _, .slice _ _ _]) hS Tryz.zeroValue31 rfl) ?_
  clear hS
  rintro _ w_11 ⟨b12, rfl, hS⟩
  refine qe (d_store 0 hS Tryz.sizeOf31 rfl rfl rfl (vs := [.bool _, .int .i64 _, .int .i64 _, .slice _ _ _]) rfl rfl rfl (Nat.le_of_ble_eq_true rfl) (cs' := [_, _, _, _]) rfl) ?_
  clear hS
  rintro _ w_12 ⟨rfl, hS⟩
  refine qq hS (g_assignv (v := .int .i64 _) rfl) ?_
  refine ol_nil (thenN ?_)
  refine wpIn_seq ?_
  refine wpIn_seq ?_
  refine reg ?_
  refine qq hS (g_movev (v := .int .i64 _) rfl) ?_
  refine qq hS (g_neq rfl rfl) ?_
  refine qq hS (g_movev (v := .bool _) rfl) ?_
  refine qqs rfl rfl hS (g_ldO 0 (vs := [.bool _, .int .i64 _, .int .i64 _, .slice _ _ _]) Tryz.sizeOf31 Tryz.isAgg31 rfl rfl rfl rfl) ?_
  refine qes rfl rfl (d_call Tryz.call20 rfl (right_K G _ _ _ _ _ hS.imm h44 hG.wf hG.chk)) ?_
  rintro _ w_13 ⟨rfl, hE⟩
  replace hS := hS.callE hE
  refine qqs rfl rfl hS (g_not rfl) ?_
  refine qq hS (g_or rfl rfl (fun _ => rfl)) ?_
  refine qq hS (g_movev (v := .bool _) rfl) ?_
  refine qqs rfl rfl hS (g_fieldAddr (o' := 1) Tryz.underlying31 rfl Tryz.sizeOf3 rfl rfl rfl) ?_
  refine qqs rfl rfl hS (g_ldO1 0 Tryz.isAgg3 rfl rfl rfl) ?_
  refine qqs rfl rfl hS (g_fieldAddr (o' := 1) Tryz.underlying31 rfl Tryz.sizeOf3 rfl rfl rfl) ?_
  refine qqs rfl rfl hS (g_ldO1 2 Tryz.isAgg3 rfl rfl rfl) ?_
  refine qqs rfl rfl hS (g_neqF rfl rfl hGi) ?_
  refine qq hS (g_or rfl rfl (fun _ => rfl)) ?_
  refine qq hS (g_movev (v := .bool _) rfl) ?_
  refine qqs rfl rfl hS (g_fieldAddr (o' := 2) Tryz.underlying31 rfl Tryz.sizeOf3 rfl rfl rfl) ?_
  refine qqs rfl rfl hS (g_ldO1 0 Tryz.isAgg3 rfl rfl rfl) ?_
  refine qqs rfl rfl hS (g_fieldAddr (o' := 2) Tryz.underlying31 rfl Tryz.sizeOf3 rfl rfl rfl) ?_
  refine qqs rfl rfl hS (g_ldO1 2 Tryz.isAgg3 rfl rfl rfl) ?_
  refine qqs rfl rfl hS (g_neqF rfl rfl hGo) ?_
  refine qq hS (g_or rfl rfl (fun _ => rfl)) ?_
  refine ol_nil (thenN ?_)
  refine cond_f (rfl) ?_
  refine wpIn_skip ?_
  refine thenN ?_
  refine wpIn_seq ?_
  refine reg ?_
  refine qq hS (g_move _) ?_
  refine qq hS (g_ldO 0 (vs := [.bool _, .int .i64 _, .int .i64 _, .slice _ _ _]) Tryz.sizeOf31 Tryz.isAgg31 rfl rfl rfl rfl) ?_
  refine qe (d_call Tryz.call19 rfl (apply_L G _ _ _ _ _ _ O ((symsOf p.ops).map (runB O)) 0 _ _ hS.imm h44 hG.wf hG.lif k20 rfl hXG)) ?_
  rintro _ w_14 ⟨I_f, a71, c71, rfl, hE, h71⟩
  replace hS := hS.callE hE
  replace h4 := h4.mono hE.ext
  replace hb := hb.mono hE.ext
  replace h20 := h20.mono hE.ext
  replace k20 := k20.mono hE.ext
  replace h26 := h26.mono hE.ext
  replace h32 := h32.mono hE.ext
  replace h44 := h44.mono hE.ext
  refine qq hS (g_move _) ?_
  refine qq hS (g_extract rfl rfl) ?_
  refine qq hS (g_extract (v := .int .i64 _) rfl rfl) ?_
  refine qq hS (g_assign _) ?_
  refine qq hS (g_assignv (v := .int .i64 _) rfl) ?_
  refine ol_nil (thenN ?_)
  refine wpIn_seq ?_
  refine reg ?_
  refine qq hS (g_movev (v := .bool _) rfl) ?_
  refine qq hS (g_movev (v := .bool _) rfl) ?_
  refine qqs rfl rfl hS (g_movev (v := .int .i64 _) rfl) ?_
  refine qqs rfl rfl hS (g_eql rfl rfl) ?_
  refine qq hS (g_and rfl rfl (fun _ => rfl)) ?_
  refine qq hS (g_movev (v := .bool _) rfl) ?_
  refine qqs rfl rfl hS (g_move _) ?_
  refine qqs rfl rfl hS (g_strI Tryz.underlying25 Tryz.underlying5 Tryz.underlying9 h71 rfl) ?_
  refine qqs rfl rfl hS (g_move _) ?_
  refine qqs rfl rfl hS (g_strI Tryz.underlying25 Tryz.underlying5 Tryz.underlying9 h26 rfl) ?_
  refine qqs rfl rfl hS (g_strT rfl rfl) ?_
  refine qq hS (g_and rfl rfl (fun _ => rfl)) ?_
  refine qq hS (g_assignv (v := .bool _) rfl) ?_
  refine ol_nil (thenN ?_)
  refine wpIn_ret ?_
  refine ret1 Tryz.results7 (rv_tmp (v := .bool _) rfl) ?_
  exact ⟨_, rfl, hS.nil⟩

end Go.Proofs.YtlhehhhpaebpoaaGreat

