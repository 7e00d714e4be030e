/- inlaylaw14.PackRoundTrips: its function answers true. Conditions: arguments are of their kinds. -/
import Derived.Test.YtaklmbhfmpdinaaGreatDoorMk14
import Derived.Test.YtaklmbhfmpdinaaGreatDoorApplyL
import Derived.Test.YtaklmbhfmpdinaaGreatDoorPSymbols
namespace Go.Proofs.YtaklmbhfmpdinaaGreatDoor
open Go Go.RowKit Go.Inl
set_option linter.unusedSimpArgs false
set_option linter.unusedVariables false
def applyK (old : List Int) (p : PatL) : List Int × Int := if p.lifted = true then applyLP old p else applyP old p
theorem apply_K (p : PatL) (ad bd : Option Addr) (m cap capb : Nat) (old R : List Int) (e : Int) (w0 : World) (I0 : Imm) (hI : Sat I0 w0) (hops : ROps I0 (.slice ad m cap) p.ops) (hp : p.wf) (ho : RBytes I0 (.slice bd old.length capb) old) (hob : Byts old) (hon : old.length ≤ 4294967296) (hR : applyK old p = (R, e)) :
    Ctr Tryz.prog 10 [.slice bd old.length capb, .agg #[.bool p.lifted, .int .i64 p.in_, .int .i64 p.out, .slice ad m cap]] w0 (fun v w' => ∃ I' a c, v = .tuple #[.slice a R.length c, .int .i64 e] ∧ Ext w0 I0 w' I' ∧ RBytes I' (.slice a R.length c) R) := by
  unfold applyK at hR
  cases h : p.lifted
  · rw [h, if_neg (by decide)] at hR
    have := apply_c p ad bd m cap capb old w0 I0 hI hops hp h ho
    rw [hR, h] at this
    exact this
  · rw [h, if_pos rfl] at hR
    have := applyl_c p ad bd m cap capb old R e w0 I0 hI hops hp h ho hob hon hR
    rw [h] at this
    exact this
theorem applyK_e {p : PatL} {O R : List Int} {e : Int} (hk : (checkP p).2 = 0) (hin : p.in_ = O.length) (hR : applyK O p = (R, e)) : (decide (e = 0) || p.lifted) = true := by
  unfold applyK at hR
  cases h : p.lifted
  · rw [h, if_neg (by decide), applyP_right hk hin] at hR
    rw [← (Prod.mk.inj hR).2]; rfl
  · rw [Bool.or_true]

set_option maxRecDepth 20000 in
set_option maxHeartbeats 4000000 in
theorem pround_c (r : Int) (ad : Option Addr) (cap : Nat) (l : List Q4) (bd : Option Addr) (capb : Nat) (bs : List Int) (lf : Bool) (w0 : World) (I0 : Imm) (hI : Sat I0 w0) (hr : 0 ≤ r ∧ r ≤ 255) (h4 : RFl I0 4 q4C (.slice ad l.length cap) l) (hq : ∀ q ∈ l, q.wf) (hb : RBytes I0 (.slice bd bs.length capb) bs) (hbb : ∀ y ∈ bs, 0 ≤ y ∧ y ≤ 255) :
    Ctr Tryz.prog 6 [.agg #[.int .u8 r, .slice ad l.length cap], .slice bd bs.length capb, .bool lf] w0 (fun v w' => ∃ I', v = .bool true ∧ Ext w0 I0 w' I') := by
  obtain ⟨p, B, hM⟩ := mk14_of hq hr lf
  have hB1 := hM.len
  have hB2 := hM.ge
  have hlf : p.lifted = lf := by rw [← hM.eq]
  have hU : UnpY B p := by have := unp_right hM.wf hM.chk; rwa [hM.pk] at this
  obtain ⟨k1, k2, k3, k4, k5, k6, k7⟩ := checkP_ok hM.chk
  have hOl := inputP_len bs p.in_.toNat
  have hOb := inputP_bd (n := p.in_.toNat) hbb
  obtain ⟨O, hO⟩ : ∃ O, inputP bs p.in_.toNat = O := ⟨_, rfl⟩
  rw [hO] at hOl hOb
  have hin : p.in_ = O.length := by omega
  obtain ⟨R, e, hR⟩ : ∃ R e, applyK O p = (R, e) := ⟨_, _, rfl⟩
  have hel := applyK_e hM.chk hin hR
  rw [hlf] at hel

  refine fn (n := 78) Tryz.func6 rfl rfl rfl ?_
  have hS := St.start hI
  refine wpIn_seq ?_
  refine reg ?_
  refine qe (d_box (cs := [.int .u8 _, .slice _ _ _]) hS rfl) ?_
  clear hS
  rintro _ w_1 ⟨b3, rfl, hS⟩
  refine qq hS (g_assignv (v := .bool _) rfl) ?_
  refine ol_nil (thenN ?_)
  refine wpIn_seq ?_
  refine reg ?_
  refine qe (d_call Tryz.call25 rfl (sanity14_c _ _ hS.imm)) ?_
  rintro _ w_2 ⟨I_f, rfl, hE⟩
  replace hS := hS.callE hE
  replace h4 := h4.mono hE.ext
  replace hb := hb.mono hE.ext
  refine qq hS (g_assignv (v := .bool _) rfl) ?_
  refine ol_nil (thenN ?_)
  refine wpIn_seq ?_
  refine reg ?_
  refine qq hS (g_ldO 0 (vs := [.int .u8 _, .slice _ _ _]) Tryz.sizeOf56 Tryz.isAgg56 rfl rfl rfl rfl) ?_
  refine qq hS (g_movev (v := .bool _) rfl) ?_
  refine qe (d_call Tryz.call26 rfl (made14_c r lf p ad cap l _ _ hS.imm h4 hq hr hM.eq)) ?_
  rintro _ w_3 ⟨I_f, a21, m21, c21, rfl, hE, h21⟩
  replace hS := hS.callE hE
  replace h4 := h4.mono hE.ext
  replace hb := hb.mono hE.ext
  refine qe (d_alloc (cs := [.bool _, .int .i64 _, .int .i64 _, .slice _ _ _]) hS Tryz.zeroValue26 rfl) ?_
  clear hS
  rintro _ w_4 ⟨b8, rfl, hS⟩
  refine qe (d_store 0 hS Tryz.sizeOf26 rfl rfl rfl (vs := [.bool _, .int .i64 _, .int .i64 _, .slice _ _ _]) rfl rfl rfl (Nat.le_of_ble_eq_true rfl) (cs' := [_, _, _, _]) rfl) ?_
  clear hS
  rintro _ w_5 ⟨rfl, hS⟩
  refine ol_nil (thenN ?_)
  refine wpIn_seq ?_
  refine reg ?_
  refine qq hS (g_ldO 0 (vs := [.bool _, .int .i64 _, .int .i64 _, .slice _ _ _]) Tryz.sizeOf26 Tryz.isAgg26 rfl rfl rfl rfl) ?_
  refine qe (d_call Tryz.call18 rfl (packB_c p B _ _ _ _ _ hS.imm h21 hM.wf hM.chk hM.pk)) ?_
  rintro _ w_6 ⟨I_f, a24, c24, rfl, hE, h24⟩
  replace hS := hS.callE hE
  replace h4 := h4.mono hE.ext
  replace hb := hb.mono hE.ext
  replace h21 := h21.mono hE.ext
  refine qq hS (g_move _) ?_
  refine qq hS (g_extract rfl rfl) ?_
  refine qq hS (g_extract (v := .int .i64 _) rfl rfl) ?_
  refine qq hS (g_assign _) ?_
  refine qq hS (g_assignv (v := .int .i64 _) rfl) ?_
  refine ol_nil (thenN ?_)
  refine wpIn_seq ?_
  refine reg ?_
  refine qq hS (g_move _) ?_
  refine qe (d_call Tryz.call19 rfl (hU.c _ _ _ _ hS.imm h24)) ?_
  rintro _ w_7 ⟨I_f, a29, m29, c29, rfl, hE, h29⟩
  replace hS := hS.callE hE
  replace h4 := h4.mono hE.ext
  replace hb := hb.mono hE.ext
  replace h21 := h21.mono hE.ext
  replace h24 := h24.mono hE.ext
  refine qq hS (g_move _) ?_
  refine qq hS (g_extract rfl rfl) ?_
  refine qq hS (g_extract (v := .int .i64 _) rfl rfl) ?_
  refine qe (d_alloc (cs := [.bool _, .int .i64 _, .int .i64 _, .slice _ _ _]) hS Tryz.zeroValue26 rfl) ?_
  clear hS
  rintro _ w_8 ⟨b11, rfl, hS⟩
  refine qe (d_store 0 hS Tryz.sizeOf26 rfl rfl rfl (vs := [.bool _, .int .i64 _, .int .i64 _, .slice _ _ _]) rfl rfl rfl (Nat.le_of_ble_eq_true rfl) (cs' := [_, _, _, _]) rfl) ?_
  clear hS
  rintro _ w_9 ⟨rfl, hS⟩
  refine qq hS (g_assignv (v := .int .i64 _) rfl) ?_
  refine ol_nil (thenN ?_)
  refine wpIn_seq ?_
  refine wpIn_seq ?_
  refine reg ?_
  refine qq hS (g_movev (v := .int .i64 _) rfl) ?_
  refine qq hS (g_neqF rfl rfl rfl) ?_
  refine qq hS (g_movev (v := .bool _) rfl) ?_
  refine qqs rfl rfl hS (g_movev (v := .int .i64 _) rfl) ?_
  refine qqs rfl rfl hS (g_neqF rfl rfl rfl) ?_
  refine qq hS (g_or rfl rfl (fun _ => rfl)) ?_
  refine qq hS (g_movev (v := .bool _) rfl) ?_
  refine qqs rfl rfl hS (g_ldO 1 (vs := [.bool _, .int .i64 _, .int .i64 _, .slice _ _ _]) Tryz.sizeOf26 Tryz.isAgg26 rfl rfl rfl rfl) ?_
  refine qqs rfl rfl hS (g_ldO 0 (vs := [.bool _, .int .i64 _, .int .i64 _, .slice _ _ _]) Tryz.sizeOf26 Tryz.isAgg26 rfl rfl rfl rfl) ?_
  refine qes rfl rfl (d_call Tryz.call24 rfl (sameR_e p p _ _ _ _ _ _ true _ _ hS.imm h21 hM.wf h29 hM.wf (samePR_refl p))) ?_
  rintro _ w_10 ⟨rfl, hE⟩
  replace hS := hS.callE hE
  refine qqs rfl rfl hS (g_not rfl) ?_
  refine qq hS (g_or rfl rfl (fun _ => rfl)) ?_
  refine ol_nil (thenN ?_)
  refine cond_f (rfl) ?_
  refine wpIn_skip ?_
  refine thenN ?_
  refine wpIn_seq ?_
  refine reg ?_
  refine qq hS (g_move _) ?_
  refine qq hS (g_fieldAddr (o' := 1) Tryz.underlying26 rfl Tryz.sizeOf3 rfl rfl rfl) ?_
  refine qq hS (g_ldO1 1 Tryz.isAgg3 rfl rfl rfl) ?_
  refine qe (d_call Tryz.call22 rfl (input_E _ _ bs p.in_ O _ _ hS.imm hb hbb ⟨k3, k4⟩ hO)) ?_
  rintro _ w_11 ⟨I_f, a47, c47, rfl, hE, h47⟩
  replace hS := hS.callE hE
  replace h4 := h4.mono hE.ext
  replace hb := hb.mono hE.ext
  replace h21 := h21.mono hE.ext
  replace h24 := h24.mono hE.ext
  replace h29 := h29.mono hE.ext
  refine qq hS (g_assign _) ?_
  refine ol_nil (thenN ?_)
  refine wpIn_seq ?_
  refine reg ?_
  refine qq hS (g_move _) ?_
  refine qq hS (g_ldO 1 (vs := [.bool _, .int .i64 _, .int .i64 _, .slice _ _ _]) Tryz.sizeOf26 Tryz.isAgg26 rfl rfl rfl rfl) ?_
  refine qe (d_call Tryz.call10 rfl (apply_K p _ _ _ _ _ O R e _ _ hS.imm h21 hM.wf h47 hOb (by omega) hR)) ?_
  rintro _ w_12 ⟨I_f, a51, c51, rfl, hE, h51⟩
  replace hS := hS.callE hE
  replace h4 := h4.mono hE.ext
  replace hb := hb.mono hE.ext
  replace h21 := h21.mono hE.ext
  replace h24 := h24.mono hE.ext
  replace h29 := h29.mono hE.ext
  replace h47 := h47.mono hE.ext
  refine qq hS (g_move _) ?_
  refine qq hS (g_extract rfl rfl) ?_
  refine qq hS (g_extract (v := .int .i64 _) rfl rfl) ?_
  refine qq hS (g_assign _) ?_
  refine qq hS (g_assignv (v := .int .i64 _) rfl) ?_
  refine ol_nil (thenN ?_)
  refine wpIn_seq ?_
  refine reg ?_
  refine qq hS (g_move _) ?_
  refine qq hS (g_ldO 0 (vs := [.bool _, .int .i64 _, .int .i64 _, .slice _ _ _]) Tryz.sizeOf26 Tryz.isAgg26 rfl rfl rfl rfl) ?_
  refine qe (d_call Tryz.call10 rfl (apply_K p _ _ _ _ _ O R e _ _ hS.imm h29 hM.wf h47 hOb (by omega) hR)) ?_
  rintro _ w_13 ⟨I_f, a57, c57, rfl, hE, h57⟩
  replace hS := hS.callE hE
  replace h4 := h4.mono hE.ext
  replace hb := hb.mono hE.ext
  replace h21 := h21.mono hE.ext
  replace h24 := h24.mono hE.ext
  replace h29 := h29.mono hE.ext
  replace h47 := h47.mono hE.ext
  replace h51 := h51.mono hE.ext
  refine qq hS (g_move _) ?_
  refine qq hS (g_extract rfl rfl) ?_
  refine qq hS (g_extract (v := .int .i64 _) rfl rfl) ?_
  refine qq hS (g_assign _) ?_
  refine qq hS (g_assignv (v := .int .i64 _) rfl) ?_
  refine ol_nil (thenN ?_)
  refine wpIn_seq ?_
  refine reg ?_
  refine qq hS (g_movev (v := .int .i64 _) rfl) ?_
  refine qq hS (g_movev (v := .int .i64 _) rfl) ?_
  refine qq hS (g_castT (g_eql rfl rfl) (congrArg Value.bool (decide_eq_true rfl))) ?_
  refine qq hS (g_movev (v := .bool _) rfl) ?_
  refine qqs rfl rfl hS (g_move _) ?_
  refine qqs rfl rfl hS (g_move _) ?_
  refine qes rfl rfl (d_call Tryz.call12 rfl (same14_E _ _ R R _ _ hS.imm h51 h57 rfl)) ?_
  rintro _ w_14 ⟨rfl, hE⟩
  replace hS := hS.callE hE
  refine qq hS (g_and rfl rfl (fun _ => rfl)) ?_
  refine qq hS (g_movev (v := .bool _) rfl) ?_
  refine qqs rfl rfl hS (g_movev (v := .int .i64 _) rfl) ?_
  refine qqs rfl rfl hS (g_eql rfl rfl) ?_
  refine qqs rfl rfl hS (g_movev (v := .bool _) rfl) ?_
  refine qu rfl rfl hS (fun hg => (g_movev (v := .bool _) rfl)) ?_
  intro u72 hu72 hn72
  refine qqs rfl rfl hS (g_castT (g_or rfl rfl (fun hg => hu72 hg)) (congrArg Value.bool hel)) ?_
  refine qq hS (g_and rfl rfl (fun _ => rfl)) ?_
  refine qq hS (g_movev (v := .bool _) rfl) ?_
  refine qqs rfl rfl hS (g_movev (v := .bool _) rfl) ?_
  refine qq hS (g_and rfl rfl (fun _ => rfl)) ?_
  refine qq hS (g_assignv (v := .bool _) rfl) ?_
  refine ol_nil (thenN ?_)
  refine wpIn_ret ?_
  refine ret1 Tryz.results6 (rv_tmp (v := .bool _) rfl) ?_
  exact ⟨_, rfl, hS.nil⟩

end Go.Proofs.YtaklmbhfmpdinaaGreatDoor

