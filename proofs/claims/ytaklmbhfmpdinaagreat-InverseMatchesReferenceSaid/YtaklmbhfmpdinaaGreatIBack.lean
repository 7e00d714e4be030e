/- inlaylaw10.InverseBack and InverseTwice: their functions answer true. Conditions: arguments are of their kinds. -/
import Derived.Test.YtaklmbhfmpdinaaGreatSanity10
import Derived.Test.YtaklmbhfmpdinaaGreatRefApply
set_option linter.unusedSimpArgs false
set_option linter.unusedVariables false
namespace Go.Proofs.YtaklmbhfmpdinaaGreat
open Tryz
open Go Go.RowKit Go.Inl
set_option maxHeartbeats 1000000 in
theorem two_c (r : Int) (ad bd : Option Addr) (cap capb : Nat) (l : List Q4) (bs : List Int) (p : PatL) (O : List Int) (w0 : World) (I0 : Imm) (hI : Sat I0 w0) (hr : 0 ≤ r ∧ r ≤ 255) (h4 : RFl I0 4 q4C (.slice ad l.length cap) l) (hq : ∀ q ∈ l, q.wf) (hb : RBytes I0 (.slice bd bs.length capb) bs) (hbb : ∀ y ∈ bs, 0 ≤ y ∧ y ≤ 255) (hp : madeP l (r % 13) = p) (hO : inputP bs p.in_.toNat = O) :
 Ctr prog 6 [.agg #[.int .u8 r, .slice ad l.length cap], .slice bd bs.length capb] w0 (fun v w' => ∃ I' a m c b d, v = .tuple #[.agg #[.bool p.lifted, .int .i64 p.in_, .int .i64 p.out, .slice a m c], .slice b O.length d] ∧ Ext w0 I0 w' I' ∧ ROps I' (.slice a m c) p.ops ∧ RBytes I' (.slice b O.length d) O) := by
 have hr13 : 0 ≤ r % 13 ∧ r % 13 ≤ 65536 := by omega
 obtain ⟨hpk, hpo, hpl⟩ := madeP_ok (size := r % 13) hq hr13
 rw [hp] at hpk hpo hpl
 obtain ⟨k1, k2, k3, k4, k5, k6, k7⟩ := qV hpk
 refine fn (n := 14) func6 rfl rfl rfl ?_
 have hS := St.start hI
 refine QwR ?_
 refine qe (d_box (cs := [.int .u8 _, .slice _ _ _]) hS rfl) ?_
 clear hS
 rintro _ w_1 ⟨b2, rfl, hS⟩
 refine qe (qk (cs := [.bool _, .int .i64 _, .int .i64 _, .slice _ _ _]) hS zeroValue31 rfl) ?_
 clear hS
 rintro _ w_2 ⟨b4, rfl, hS⟩
 refine qq hS (qf _) (QoR ?_)
 refine qq hS (g_ldO 1 (vs := [.int .u8 _, .slice _ _ _]) sizeOf24 isAgg24 rfl rfl rfl rfl) ?_
 refine qe (qi call18 rfl (made6_E r ad cap l p _ _ hS.imm h4 hq hr hp)) ?_
 rintro _ w_3 ⟨I_f, a8, m8, c8, rfl, hE, h8⟩
 replace hS := hS.callE hE
 replace h4 := h4.mono hE.ext
 replace hb := hb.mono hE.ext
 refine qe (qk (cs := [.bool _, .int .i64 _, .int .i64 _, .slice _ _ _]) hS zeroValue31 rfl) ?_
 clear hS
 rintro _ w_4 ⟨b6, rfl, hS⟩
 refine qe (qg 0 hS sizeOf31 rfl rfl rfl (vs := [.bool _, .int .i64 _, .int .i64 _, .slice _ _ _]) rfl rfl rfl (Nat.le_of_ble_eq_true rfl) (cs' := [_, _, _, _]) rfl) ?_
 clear hS
 rintro _ w_5 ⟨rfl, hS⟩
 refine QoN (wpIn_seq ?_)
 refine drawS [true, false, true] (.cons 0 .held (.cons 1 .pure (.cons 2 .pure (.cons 3 .held (.cons 4 .eff (.cons 5 .eff (.cons 6 .pure .nil))))))) mixed (by kernel_rfl) hS ?_
 intro w_6 hS
 refine sh rfl (g_ldO 0 (vs := [.bool _, .int .i64 _, .int .i64 _, .slice _ _ _]) sizeOf31 isAgg31 rfl rfl rfl rfl) ?_
 refine sp rfl (qb _) ?_
 refine sp rfl (qa (o' := 1) underlying31 rfl sizeOf3 rfl rfl rfl) ?_
 refine sh rfl (qc 0 isAgg3 rfl rfl rfl) ?_
 have hS0 := hS
 refine se rfl (qi call19 rfl (input_E _ _ bs p.in_ O _ _ hS.imm hb hbb ⟨k3, k4⟩ hO)) ?_
 rintro _ w_7 ⟨I_f, a13, c13, rfl, hE, h13⟩
 replace hS := hS.call hE
 replace h4 := h4.mono hE.ext
 replace hb := hb.mono hE.ext
 replace h8 := h8.mono hE.ext
 refine ⟨_, _, (hS0.sel [true, false, true]).le hE.ext (List.Sublist.refl _), hS.sel [true, false, true], ?_⟩
 have hS0 := hS
 refine se rfl (qg 1 hS sizeOf31 rfl rfl rfl (vs := [.bool _, .int .i64 _, .int .i64 _, .slice _ _ _]) rfl rfl rfl (Nat.le_of_ble_eq_true rfl) (cs' := [_, _, _, _]) rfl) ?_
 rintro _ w_8 ⟨rfl, hS⟩
 refine ⟨_, _, fun _ h => h, hS.sel [true, false, true], ?_⟩
 refine sp rfl (qf _) ?_
 refine sn (thenN ?_)
 refine wpIn_ret ?_
 refine ret2 results6 (qs 1 hS sizeOf31 isAgg31 rfl rfl rfl) (qd rfl) ?_
 exact ⟨_, a8, m8, c8, a13, c13, rfl, hS.nil, h8, h13⟩
end Go.Proofs.YtaklmbhfmpdinaaGreat
