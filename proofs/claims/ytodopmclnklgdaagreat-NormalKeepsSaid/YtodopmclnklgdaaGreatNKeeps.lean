/- inlaylaw08.NormalKeeps: its function answers true. Conditions: arguments are of their kinds. -/
import Derived.Test.YtodopmclnklgdaaGreatCommon6
import Derived.Test.YtodopmclnklgdaaGreatLaw1
namespace Go.Proofs.YtodopmclnklgdaaGreat
open Go Go.RowKit Go.Inl
set_option linter.unusedSimpArgs false
set_option linter.unusedVariables false

set_option maxRecDepth 20000 in
set_option maxHeartbeats 4000000 in
theorem nkeeps_c (r : Int) (ad bd : Option Addr) (cap capb : Nat) (l : List Q4) (bs : List Int) (w0 : World) (I0 : Imm) (hI : Sat I0 w0) (hr : 0 ≤ r ∧ r ≤ 255) (h4 : RFl I0 4 q4C (.slice ad l.length cap) l) (hq : ∀ q ∈ l, q.wf) (hb : RBytes I0 (.slice bd bs.length capb) bs) (hbb : ∀ y ∈ bs, 0 ≤ y ∧ y ≤ 255) :
    Ctr Tryz.prog 3 [.agg #[.int .u8 r, .slice ad l.length cap], .slice bd bs.length capb] w0 (fun v w' => ∃ I', v = .bool true ∧ Ext w0 I0 w' I') := by
  have hr13 : 0 ≤ r % 13 ∧ r % 13 ≤ 65536 := by omega
  have hpw := madeP_wf (size := r % 13) hq hr13
  obtain ⟨hpk, hpo, hpl⟩ := madeP_ok (size := r % 13) hq hr13
  have hlf : (madeP l (r % 13)).lifted = false := rfl
  have hin0 : (madeP l (r % 13)).in_ = r % 13 := rfl
  obtain ⟨p, hp⟩ : ∃ p, madeP l (r % 13) = p := ⟨_, rfl⟩
  rw [hp] at hpw hpk hpo hpl hlf hin0
  obtain ⟨k1, k2, k3, k4, k5, k6, k7⟩ := checkP_ok hpk
  have hOl := inputP_len bs p.in_.toNat
  have hOb := inputP_bd (n := p.in_.toNat) hbb
  obtain ⟨O, hO⟩ : ∃ O, inputP bs p.in_.toNat = O := ⟨_, rfl⟩
  rw [hO] at hOl hOb
  have hin : p.in_ = O.length := by omega
  have hXA := applyP_right hpk hin
  obtain ⟨F, hF⟩ := form_for hpw hpk (by omega)
  have hXF := applyP_right hF.chk (hF.in_.trans hin)
  rw [hF.syms] at hXF
  have hRl : ((symsOf p.ops).map (runB O)).length = (symsOf p.ops).length := List.length_map _
  refine fn (n := 88) Tryz.func3 rfl rfl rfl ?_
  have hS := St.start hI
  refine wpIn_seq ?_
  refine reg ?_
  refine qe (d_box (cs := [.int .u8 _, .slice _ _ _]) hS rfl) ?_
  clear hS
  rintro _ w_1 ⟨b2, rfl, hS⟩
  refine qq hS (g_assignv (v := .bool _) rfl) ?_
  refine ol_nil (thenN ?_)
  refine wpIn_seq ?_
  refine reg ?_
  refine qe (d_call Tryz.call12 rfl (sanity_c _ _ hS.imm)) ?_
  rintro _ w_2 ⟨I_f, rfl, hE⟩
  replace hS := hS.callE hE
  replace h4 := h4.mono hE.ext
  replace hb := hb.mono hE.ext
  refine qq hS (g_assignv (v := .bool _) rfl) ?_
  refine ol_nil (thenN ?_)
  refine wpIn_seq ?_
  refine reg ?_
  refine qq hS (g_ldO 0 (vs := [.int .u8 _, .slice _ _ _]) Tryz.sizeOf24 Tryz.isAgg24 rfl rfl rfl rfl) ?_
  refine qe (d_call Tryz.call13 rfl (made6_E r ad cap l p _ _ hS.imm h4 hq hr hp)) ?_
  rintro _ w_3 ⟨I_f, a16, m16, c16, rfl, hE, h16⟩
  replace hS := hS.callE hE
  replace h4 := h4.mono hE.ext
  replace hb := hb.mono hE.ext
  refine qe (d_alloc (cs := [.bool _, .int .i64 _, .int .i64 _, .slice _ _ _]) hS Tryz.zeroValue29 rfl) ?_
  clear hS
  rintro _ w_4 ⟨b6, rfl, hS⟩
  refine qe (d_store 0 hS Tryz.sizeOf29 rfl rfl rfl (vs := [.bool _, .int .i64 _, .int .i64 _, .slice _ _ _]) rfl rfl rfl (Nat.le_of_ble_eq_true rfl) (cs' := [_, _, _, _]) rfl) ?_
  clear hS
  rintro _ w_5 ⟨rfl, hS⟩
  refine ol_nil (thenN ?_)
  refine wpIn_seq ?_
  refine reg ?_
  refine qq hS (g_ldO 0 (vs := [.bool _, .int .i64 _, .int .i64 _, .slice _ _ _]) Tryz.sizeOf29 Tryz.isAgg29 rfl rfl rfl rfl) ?_
  refine qe (d_call Tryz.call14 rfl (form_e p _ _ _ F 0 _ _ hS.imm h16 hpw hF.form)) ?_
  rintro _ w_6 ⟨I_f, a19, m19, c19, rfl, hE, h19⟩
  replace hS := hS.callE hE
  replace h4 := h4.mono hE.ext
  replace hb := hb.mono hE.ext
  replace h16 := h16.mono hE.ext
  refine qq hS (g_move _) ?_
  refine qq hS (g_extract rfl rfl) ?_
  refine qq hS (g_extract (v := .int .i64 _) rfl rfl) ?_
  refine qe (d_alloc (cs := [.bool _, .int .i64 _, .int .i64 _, .slice _ _ _]) hS Tryz.zeroValue29 rfl) ?_
  clear hS
  rintro _ w_7 ⟨b7, rfl, hS⟩
  refine qe (d_store 0 hS Tryz.sizeOf29 rfl rfl rfl (vs := [.bool _, .int .i64 _, .int .i64 _, .slice _ _ _]) rfl rfl rfl (Nat.le_of_ble_eq_true rfl) (cs' := [_, _, _, _]) rfl) ?_
  clear hS
  rintro _ w_8 ⟨rfl, hS⟩
  refine qq hS (g_assignv (v := .int .i64 _) rfl) ?_
  refine ol_nil (thenN ?_)
  refine wpIn_seq ?_
  refine wpIn_seq ?_
  refine draw (.cons 0 .pure (.cons 1 .pure (.cons 2 .pure (.cons 3 .held (.cons 4 .eff (.cons 5 .pure (.cons 6 .pure (.cons 7 .pure (.cons 8 .held (.cons 9 .held (.cons 10 .eff (.cons 11 .pure (.cons 12 .pure (.cons 13 .pure (.cons 14 .held (.cons 16 .held (.cons 15 .eff (.cons 17 .eff (.cons 18 .pure (.cons 19 .pure (.cons 20 .pure (.cons 21 .pure (.cons 22 .held (.cons 23 .pure (.cons 24 .held (.cons 25 .pure (.cons 26 .pure (.cons 27 .pure (.cons 28 .pure (.cons 29 .held (.cons 30 .pure (.cons 31 .held (.cons 32 .pure (.cons 33 .pure .nil)))))))))))))))))))))))))))))))))) mixed (by kernel_rfl) hS ?_
  intro w_9 hS
  refine sp rfl (g_movev (v := .int .i64 _) rfl) ?_
  refine sp rfl (g_neq rfl rfl) ?_
  refine sp rfl (g_movev (v := .bool _) rfl) ?_
  refine sht rfl rfl rfl (g_ldO 0 (vs := [.bool _, .int .i64 _, .int .i64 _, .slice _ _ _]) Tryz.sizeOf29 Tryz.isAgg29 rfl rfl rfl rfl) ?_
  have hS0 := hS
  refine Inl.set rfl rfl rfl (d_call Tryz.call15 rfl (right_K F _ _ _ _ _ hS.imm h19 hF.wf hF.chk)) ?_
  rintro _ w_10 ⟨rfl, hE⟩
  replace hS := hS.call hE
  refine ⟨_, _, hS0.le hE.ext (List.Sublist.refl _), hS, ?_⟩
  refine spt rfl rfl rfl (g_not rfl) ?_
  refine sp rfl (g_or rfl rfl (fun _ => rfl)) ?_
  refine sp rfl (g_movev (v := .bool _) rfl) ?_
  refine sht rfl rfl rfl (g_ldO 1 (vs := [.bool _, .int .i64 _, .int .i64 _, .slice _ _ _]) Tryz.sizeOf29 Tryz.isAgg29 rfl rfl rfl rfl) ?_
  refine sht rfl rfl rfl (g_ldO 0 (vs := [.bool _, .int .i64 _, .int .i64 _, .slice _ _ _]) Tryz.sizeOf29 Tryz.isAgg29 rfl rfl rfl rfl) ?_
  have hS0 := hS
  refine Inl.set rfl rfl rfl (d_call Tryz.call16 rfl (same_e p F _ _ _ _ _ _ true _ _ hS.imm h16 hpw h19 hF.wf hF.same)) ?_
  rintro _ w_11 ⟨I_f, rfl, hE⟩
  replace hS := hS.call hE
  replace h4 := h4.mono hE.ext
  replace hb := hb.mono hE.ext
  replace h16 := h16.mono hE.ext
  replace h19 := h19.mono hE.ext
  refine ⟨_, _, hS0.le hE.ext (List.Sublist.refl _), hS, ?_⟩
  refine spt rfl rfl rfl (g_not rfl) ?_
  refine sp rfl (g_or rfl rfl (fun _ => rfl)) ?_
  refine sp rfl (g_movev (v := .bool _) rfl) ?_
  refine sht rfl rfl rfl (g_ldO 0 (vs := [.bool _, .int .i64 _, .int .i64 _, .slice _ _ _]) Tryz.sizeOf29 Tryz.isAgg29 rfl rfl rfl rfl) ?_
  refine sht rfl rfl rfl (g_ldO 1 (vs := [.bool _, .int .i64 _, .int .i64 _, .slice _ _ _]) Tryz.sizeOf29 Tryz.isAgg29 rfl rfl rfl rfl) ?_
  have hS0 := hS
  refine Inl.set rfl rfl rfl (d_call Tryz.call17 rfl (costN_E F _ _ _ _ _ _ hS.imm h19 hF.wf hF.chk rfl)) ?_
  rintro _ w_12 ⟨rfl, hE⟩
  replace hS := hS.call hE
  refine ⟨_, _, hS0.le hE.ext (List.Sublist.refl _), hS, ?_⟩
  have hS0 := hS
  refine Inl.set rfl rfl rfl (d_call Tryz.call17 rfl (costN_E p _ _ _ _ _ _ hS.imm h16 hpw hpk rfl)) ?_
  rintro _ w_13 ⟨rfl, hE⟩
  replace hS := hS.call hE
  refine ⟨_, _, hS0.le hE.ext (List.Sublist.refl _), hS, ?_⟩
  refine spt rfl rfl rfl (g_gtF rfl rfl hF.cost) ?_
  refine sp rfl (g_or rfl rfl (fun _ => rfl)) ?_
  refine sp rfl (g_movev (v := .bool _) rfl) ?_
  refine spt rfl rfl rfl (g_fieldAddr (o' := 1) Tryz.underlying29 rfl Tryz.sizeOf3 rfl rfl rfl) ?_
  refine sht rfl rfl rfl (g_ldO1 0 Tryz.isAgg3 rfl rfl rfl) ?_
  refine spt rfl rfl rfl (g_fieldAddr (o' := 1) Tryz.underlying29 rfl Tryz.sizeOf3 rfl rfl rfl) ?_
  refine sht rfl rfl rfl (g_ldO1 1 Tryz.isAgg3 rfl rfl rfl) ?_
  refine spt rfl rfl rfl (g_neqF rfl rfl hF.in_) ?_
  refine sp rfl (g_or rfl rfl (fun _ => rfl)) ?_
  refine sp rfl (g_movev (v := .bool _) rfl) ?_
  refine spt rfl rfl rfl (g_fieldAddr (o' := 2) Tryz.underlying29 rfl Tryz.sizeOf3 rfl rfl rfl) ?_
  refine sht rfl rfl rfl (g_ldO1 0 Tryz.isAgg3 rfl rfl rfl) ?_
  refine spt rfl rfl rfl (g_fieldAddr (o' := 2) Tryz.underlying29 rfl Tryz.sizeOf3 rfl rfl rfl) ?_
  refine sht rfl rfl rfl (g_ldO1 1 Tryz.isAgg3 rfl rfl rfl) ?_
  refine spt rfl rfl rfl (g_neqF rfl rfl hF.out) ?_
  refine sp rfl (g_or rfl rfl (fun _ => rfl)) ?_
  refine sn (thenN ?_)
  refine cond_f (rfl) ?_
  refine wpIn_skip ?_
  refine thenN ?_
  refine wpIn_seq ?_
  refine reg ?_
  refine qq hS (g_move _) ?_
  refine qq hS (g_fieldAddr (o' := 1) Tryz.underlying29 rfl Tryz.sizeOf3 rfl rfl rfl) ?_
  refine qq hS (g_ldO1 1 Tryz.isAgg3 rfl rfl rfl) ?_
  refine qe (d_call Tryz.call18 rfl (input_E _ _ bs p.in_ O _ _ hS.imm hb hbb ⟨k3, k4⟩ hO)) ?_
  rintro _ w_14 ⟨I_f, a59, c59, rfl, hE, h59⟩
  replace hS := hS.callE hE
  replace h4 := h4.mono hE.ext
  replace hb := hb.mono hE.ext
  replace h16 := h16.mono hE.ext
  replace h19 := h19.mono hE.ext
  refine qq hS (g_assign _) ?_
  refine ol_nil (thenN ?_)
  refine wpIn_seq ?_
  refine reg ?_
  refine qq hS (g_move _) ?_
  refine qq hS (g_ldO 1 (vs := [.bool _, .int .i64 _, .int .i64 _, .slice _ _ _]) Tryz.sizeOf29 Tryz.isAgg29 rfl rfl rfl rfl) ?_
  refine qe (d_call Tryz.call19 rfl (apply_L p _ _ _ _ _ _ O ((symsOf p.ops).map (runB O)) 0 _ _ hS.imm h16 hpw hlf h59 rfl hXA)) ?_
  rintro _ w_15 ⟨I_f, a63, c63, rfl, hE, h63⟩
  replace hS := hS.callE hE
  replace h4 := h4.mono hE.ext
  replace hb := hb.mono hE.ext
  replace h16 := h16.mono hE.ext
  replace h19 := h19.mono hE.ext
  replace h59 := h59.mono hE.ext
  refine qq hS (g_move _) ?_
  refine qq hS (g_extract rfl rfl) ?_
  refine qq hS (g_extract (v := .int .i64 _) rfl rfl) ?_
  refine qq hS (g_assign _) ?_
  refine qq hS (g_assignv (v := .int .i64 _) rfl) ?_
  refine ol_nil (thenN ?_)
  refine wpIn_seq ?_
  refine reg ?_
  refine qq hS (g_move _) ?_
  refine qq hS (g_ldO 0 (vs := [.bool _, .int .i64 _, .int .i64 _, .slice _ _ _]) Tryz.sizeOf29 Tryz.isAgg29 rfl rfl rfl rfl) ?_
  refine qe (d_call Tryz.call19 rfl (apply_L F _ _ _ _ _ _ O ((symsOf p.ops).map (runB O)) 0 _ _ hS.imm h19 hF.wf (hF.lif.trans hlf) h59 rfl hXF)) ?_
  rintro _ w_16 ⟨I_f, a69, c69, rfl, hE, h69⟩
  replace hS := hS.callE hE
  replace h4 := h4.mono hE.ext
  replace hb := hb.mono hE.ext
  replace h16 := h16.mono hE.ext
  replace h19 := h19.mono hE.ext
  replace h59 := h59.mono hE.ext
  replace h63 := h63.mono hE.ext
  refine qq hS (g_move _) ?_
  refine qq hS (g_extract rfl rfl) ?_
  refine qq hS (g_extract (v := .int .i64 _) rfl rfl) ?_
  refine qq hS (g_assign _) ?_
  refine qq hS (g_assignv (v := .int .i64 _) rfl) ?_
  refine ol_nil (thenN ?_)
  refine wpIn_seq ?_
  refine reg ?_
  refine qq hS (g_movev (v := .int .i64 _) rfl) ?_
  refine qq hS (g_eql rfl rfl) ?_
  refine qq hS (g_movev (v := .bool _) rfl) ?_
  refine qqs rfl rfl hS (g_movev (v := .int .i64 _) rfl) ?_
  refine qqs rfl rfl hS (g_eql rfl rfl) ?_
  refine qq hS (g_and rfl rfl (fun _ => rfl)) ?_
  refine qq hS (g_movev (v := .bool _) rfl) ?_
  refine qqs rfl rfl hS (g_move _) ?_
  refine qqs rfl rfl hS (g_strI Tryz.underlying25 Tryz.underlying5 Tryz.underlying9 h63 rfl) ?_
  refine qqs rfl rfl hS (g_move _) ?_
  refine qqs rfl rfl hS (g_strI Tryz.underlying25 Tryz.underlying5 Tryz.underlying9 h69 rfl) ?_
  refine qqs rfl rfl hS (g_strT rfl rfl) ?_
  refine qq hS (g_and rfl rfl (fun _ => rfl)) ?_
  refine qq hS (g_movev (v := .bool _) rfl) ?_
  refine qqs rfl rfl hS (g_movev (v := .bool _) rfl) ?_
  refine qq hS (g_and rfl rfl (fun _ => rfl)) ?_
  refine qq hS (g_assignv (v := .bool _) rfl) ?_
  refine ol_nil (thenN ?_)
  refine wpIn_ret ?_
  refine ret1 Tryz.results3 (rv_tmp (v := .bool _) rfl) ?_
  exact ⟨_, rfl, hS.nil⟩

end Go.Proofs.YtodopmclnklgdaaGreat

