/- inlaylaw08.NormalJoins: its function answers true. Conditions: arguments are bytes. -/
import Derived.Test.YtaoodcchleaoeaaLaw2
namespace Go.Proofs.Ytaoodcchleaoeaa
open Go Go.RowKit Go.Inl
set_option linter.unusedSimpArgs false
set_option linter.unusedVariables false

set_option maxRecDepth 20000 in
set_option maxHeartbeats 2000000 in
theorem joins_c (ad : Option Addr) (cap : Nat) (l : List Q2) (z y : Int) (w0 : World) (I0 : Imm) (hI : Sat I0 w0) (hl : RFl I0 2 q2C (.slice ad l.length cap) l) (hq : ∀ q ∈ l, q.wf) (hz : 0 ≤ z ∧ z ≤ 255) (hy : 0 ≤ y ∧ y ≤ 255) :
    Ctr Try.prog 5 [.slice ad l.length cap, .int .u8 z, .int .u8 y] w0 (fun v w' => ∃ I', v = .bool true ∧ Ext w0 I0 w' I') := by
  have hsl := symsRaw_len l (z % 12)
  have hz12 : 0 ≤ z % 12 ∧ z % 12 ≤ 65536 := by omega
  have hsw := symsRaw_wf (size := z % 12) hq hz12.2
  have hok := symsRaw_ok (size := z % 12) hq
  have hmod : 0 ≤ y % ((symsRaw l (z % 12)).length + 1) ∧ y % ((symsRaw l (z % 12)).length + 1) ≤ (symsRaw l (z % 12)).length := ⟨Int.emod_nonneg _ (by omega), by have := Int.emod_lt_of_pos y (b := ((symsRaw l (z % 12)).length : Int) + 1) (by omega); omega⟩
  generalize hA : symsRaw l (z % 12) = A at *
  generalize hk : y % ((A.length : Int) + 1) = k at *
  have hkn : (k.toNat : Int) = k := by omega
  have hokT : okL (z % 12) (A.take k.toNat) := hok.take _
  have hokD : okL (z % 12) (A.drop k.toNat) := hok.drop _
  have hwT : ∀ s ∈ A.take k.toNat, s.wf := fun s hs => hsw s (List.mem_of_mem_take hs)
  have hwD : ∀ s ∈ A.drop k.toNat, s.wf := fun s hs => hsw s (List.mem_of_mem_drop hs)
  have hlT : (A.take k.toNat).length ≤ 4096 := by rw [List.length_take]; omega
  have hlD : (A.drop k.toNat).length ≤ 4096 := by rw [List.length_drop]; omega
  have hj := best_join (n := z % 12) (a := A.take k.toNat) (b := A.drop k.toNat) (by rw [List.take_append_drop]; exact hok)
  rw [List.take_append_drop] at hj
  have hba := (optL_spec hok).2.2.1
  have hbb : 0 ≤ (bestP (A.take k.toNat)).cost ∧ (bestP (A.take k.toNat)).cost ≤ 6 * 20 := by have := best_bd (A.take k.toNat); rw [List.length_take] at this; omega
  have hbc : 0 ≤ (bestP (A.drop k.toNat)).cost ∧ (bestP (A.drop k.toNat)).cost ≤ 6 * 20 := by have := best_bd (A.drop k.toNat); rw [List.length_drop] at this; omega
  refine fn (n := 104) Try.func5 rfl rfl rfl ?_
  have hS := St.start hI
  refine wp_seq ?_
  refine reg ?_
  refine qq hS (g_assignv (v := .bool _) rfl) ?_
  refine ol_nil (thenN ?_)
  refine wp_seq ?_
  refine reg ?_
  refine qe (d_call Try.call10 rfl (sanity_c _ _ hS.imm)) ?_
  rintro _ w_1 ⟨I_f, rfl, hE⟩
  replace hS := hS.callE hE
  replace hl := hl.mono hE.ext
  refine qq hS (g_assignv (v := .bool _) rfl) ?_
  refine ol_nil (thenN ?_)
  refine wp_seq ?_
  refine reg ?_
  refine qq hS (g_movev (v := .int .u8 _) rfl) ?_
  refine qq hS (g_rem rfl rfl (by omega) (by omega)) ?_
  refine qq hS (g_convi Try.underlying5 Try.underlying3 rfl (by omega) (by omega)) ?_
  refine qq hS (g_assignv (v := .int .i64 _) rfl) ?_
  refine ol_nil (thenN ?_)
  refine wp_seq ?_
  refine reg ?_
  refine qq hS (g_move _) ?_
  refine qq hS (g_movev (v := .int .i64 _) rfl) ?_
  refine qe (d_call Try.call12 rfl (rawSyms_c ad cap l (z % 12) _ _ hS.imm hl hq hz12.1 hz12.2)) ?_
  rintro _ w_2 ⟨I_f, a26, m26, c26, rfl, hE, h26, hm26⟩
  replace hS := hS.callE hE
  replace hl := hl.mono hE.ext
  rw [hA] at h26 hm26
  subst hm26
  have hc26 := (h26.resl2 A.length A.length (Nat.le_refl _) (Nat.le_refl _)).2.1
  refine qq hS (g_assign _) ?_
  refine ol_nil (thenN ?_)
  refine wp_seq ?_
  refine reg ?_
  refine qq hS (g_movev (v := .int .u8 _) rfl) ?_
  refine qq hS (g_convi Try.underlying5 Try.underlying3 rfl (by omega) (by omega)) ?_
  refine qq hS (g_move _) ?_
  refine qq hS (g_lenI rfl Try.underlying33 h26 rfl) ?_
  refine qq hS (g_add rfl rfl (by omega) (by omega)) ?_
  refine qq hS (g_remE rfl rfl (by omega) (by omega) hk) ?_
  refine qq hS (g_assignv (v := .int .i64 _) rfl) ?_
  refine ol_nil (thenN ?_)
  refine wp_seq ?_
  refine reg ?_
  refine qq hS (g_move _) ?_
  refine qq hS (g_movev (v := .int .i64 _) rfl) ?_
  refine qe (d_call Try.call15 rfl (cheapest_v _ A (z % 12) _ _ hS.imm h26 hsw hz12 (by omega) hok)) ?_
  rintro _ w_3 ⟨I_f, a36, m36, c36, rfl, hE, h36⟩
  replace hS := hS.callE hE
  replace hl := hl.mono hE.ext
  replace h26 := h26.mono hE.ext
  refine qq hS (g_move _) ?_
  refine qq hS (g_extract rfl rfl) ?_
  refine qq hS (g_extract (v := .int .i64 _) rfl rfl) ?_
  refine qe (d_alloc (cs := [.bool _, .int .i64 _, .int .i64 _, .slice _ _ _]) hS Try.zeroValue31 rfl) ?_
  clear hS
  rintro _ w_4 ⟨b11, rfl, hS⟩
  refine qe (d_store 0 hS Try.sizeOf31 rfl rfl rfl (vs := [.bool _, .int .i64 _, .int .i64 _, .slice _ _ _]) rfl rfl rfl (Nat.le_of_ble_eq_true rfl) (cs' := [_, _, _, _]) rfl) ?_
  clear hS
  rintro _ w_5 ⟨rfl, hS⟩
  refine qq hS (g_assignv (v := .int .i64 _) rfl) ?_
  refine ol_nil (thenN ?_)
  refine wp_seq ?_
  refine reg ?_
  refine qq hS (g_move _) ?_
  refine qq hS (g_movev (v := .int .i64 _) rfl) ?_
  refine qq hS (g_sliceHN (h0 := k.toNat) Try.underlying33 Try.sizeOf50 rfl rfl hmod.1 (by omega) rfl) ?_
  refine qq hS (g_movev (v := .int .i64 _) rfl) ?_
  refine qe (d_call Try.call15 rfl (cheapest_v _ (A.take k.toNat) (z % 12) _ _ hS.imm (h26.slH k.toNat (by omega)) hwT hz12 hlT hokT)) ?_
  rintro _ w_6 ⟨I_f, a44, m44, c44, rfl, hE, h44⟩
  replace hS := hS.callE hE
  replace hl := hl.mono hE.ext
  replace h26 := h26.mono hE.ext
  replace h36 := h36.mono hE.ext
  refine qq hS (g_move _) ?_
  refine qq hS (g_extract rfl rfl) ?_
  refine qq hS (g_extract (v := .int .i64 _) rfl rfl) ?_
  refine qe (d_alloc (cs := [.bool _, .int .i64 _, .int .i64 _, .slice _ _ _]) hS Try.zeroValue31 rfl) ?_
  clear hS
  rintro _ w_7 ⟨b13, rfl, hS⟩
  refine qe (d_store 0 hS Try.sizeOf31 rfl rfl rfl (vs := [.bool _, .int .i64 _, .int .i64 _, .slice _ _ _]) rfl rfl rfl (Nat.le_of_ble_eq_true rfl) (cs' := [_, _, _, _]) rfl) ?_
  clear hS
  rintro _ w_8 ⟨rfl, hS⟩
  refine qq hS (g_assignv (v := .int .i64 _) rfl) ?_
  refine ol_nil (thenN ?_)
  refine wp_seq ?_
  refine reg ?_
  refine qq hS (g_move _) ?_
  refine qq hS (g_movev (v := .int .i64 _) rfl) ?_
  refine qq hS (g_sliceLN (l0 := k.toNat) Try.underlying33 Try.sizeOf50 rfl rfl hmod.1 (by omega) rfl) ?_
  refine qq hS (g_movev (v := .int .i64 _) rfl) ?_
  refine qe (d_call Try.call15 rfl (cheapest_v _ (A.drop k.toNat) (z % 12) _ _ hS.imm (h26.slL k.toNat (by omega)) hwD hz12 hlD hokD)) ?_
  rintro _ w_9 ⟨I_f, a52, m52, c52, rfl, hE, h52⟩
  replace hS := hS.callE hE
  replace hl := hl.mono hE.ext
  replace h26 := h26.mono hE.ext
  replace h36 := h36.mono hE.ext
  replace h44 := h44.mono hE.ext
  refine qq hS (g_move _) ?_
  refine qq hS (g_extract rfl rfl) ?_
  refine qq hS (g_extract (v := .int .i64 _) rfl rfl) ?_
  refine qe (d_alloc (cs := [.bool _, .int .i64 _, .int .i64 _, .slice _ _ _]) hS Try.zeroValue31 rfl) ?_
  clear hS
  rintro _ w_10 ⟨b15, rfl, hS⟩
  refine qe (d_store 0 hS Try.sizeOf31 rfl rfl rfl (vs := [.bool _, .int .i64 _, .int .i64 _, .slice _ _ _]) rfl rfl rfl (Nat.le_of_ble_eq_true rfl) (cs' := [_, _, _, _]) rfl) ?_
  clear hS
  rintro _ w_11 ⟨rfl, hS⟩
  refine qq hS (g_assignv (v := .int .i64 _) rfl) ?_
  refine ol_nil (thenN ?_)
  refine wp_seq ?_
  refine wp_seq ?_
  refine reg ?_
  refine qq hS (g_movev (v := .int .i64 _) rfl) ?_
  refine qq hS (g_neq rfl rfl) ?_
  refine qq hS (g_movev (v := .bool _) rfl) ?_
  refine qqs rfl rfl hS (g_movev (v := .int .i64 _) rfl) ?_
  refine qqs rfl rfl hS (g_neq rfl rfl) ?_
  refine qq hS (g_or rfl rfl (fun _ => rfl)) ?_
  refine qq hS (g_movev (v := .bool _) rfl) ?_
  refine qqs rfl rfl hS (g_movev (v := .int .i64 _) rfl) ?_
  refine qqs rfl rfl hS (g_neq rfl rfl) ?_
  refine qq hS (g_or rfl rfl (fun _ => rfl)) ?_
  refine qq hS (g_movev (v := .bool _) rfl) ?_
  refine qqs rfl rfl hS (g_ldO 2 (vs := [.bool _, .int .i64 _, .int .i64 _, .slice _ _ _]) Try.sizeOf31 Try.isAgg31 rfl rfl rfl rfl) ?_
  refine qes rfl rfl (d_call Try.call21 rfl (right_f false (z % 12) A a36 m36 c36 _ _ hS.imm h36 hsw hz12 (by omega) hok)) ?_
  rintro _ w_12 ⟨rfl, hE⟩
  replace hS := hS.callE hE
  refine qqs rfl rfl hS (g_not rfl) ?_
  refine qq hS (g_or rfl rfl (fun _ => rfl)) ?_
  refine qq hS (g_movev (v := .bool _) rfl) ?_
  refine qqs rfl rfl hS (g_ldO 1 (vs := [.bool _, .int .i64 _, .int .i64 _, .slice _ _ _]) Try.sizeOf31 Try.isAgg31 rfl rfl rfl rfl) ?_
  refine qes rfl rfl (d_call Try.call21 rfl (right_f false (z % 12) (A.take k.toNat) a44 m44 c44 _ _ hS.imm h44 hwT hz12 hlT hokT)) ?_
  rintro _ w_13 ⟨rfl, hE⟩
  replace hS := hS.callE hE
  refine qqs rfl rfl hS (g_not rfl) ?_
  refine qq hS (g_or rfl rfl (fun _ => rfl)) ?_
  refine qq hS (g_movev (v := .bool _) rfl) ?_
  refine qqs rfl rfl hS (g_ldO 0 (vs := [.bool _, .int .i64 _, .int .i64 _, .slice _ _ _]) Try.sizeOf31 Try.isAgg31 rfl rfl rfl rfl) ?_
  refine qes rfl rfl (d_call Try.call21 rfl (right_f false (z % 12) (A.drop k.toNat) a52 m52 c52 _ _ hS.imm h52 hwD hz12 hlD hokD)) ?_
  rintro _ w_14 ⟨rfl, hE⟩
  replace hS := hS.callE hE
  refine qqs rfl rfl hS (g_not rfl) ?_
  refine qq hS (g_or rfl rfl (fun _ => rfl)) ?_
  refine ol_nil (thenN ?_)
  refine cond_f (rfl) ?_
  refine wp_skip ?_
  refine thenN ?_
  refine wp_seq ?_
  refine draw (.cons 0 .held (.cons 2 .held (.cons 4 .held (.cons 1 .eff (.cons 3 .eff (.cons 5 .eff (.cons 6 .pure (.cons 7 .pure (.cons 8 .pure .nil))))))))) mixed (by kernel_rfl) hS ?_
  intro w_15 hS
  refine sh rfl (g_ldO 2 (vs := [.bool _, .int .i64 _, .int .i64 _, .slice _ _ _]) Try.sizeOf31 Try.isAgg31 rfl rfl rfl rfl) ?_
  refine sh rfl (g_ldO 1 (vs := [.bool _, .int .i64 _, .int .i64 _, .slice _ _ _]) Try.sizeOf31 Try.isAgg31 rfl rfl rfl rfl) ?_
  refine sh rfl (g_ldO 0 (vs := [.bool _, .int .i64 _, .int .i64 _, .slice _ _ _]) Try.sizeOf31 Try.isAgg31 rfl rfl rfl rfl) ?_
  have hS0 := hS
  refine se rfl (d_call Try.call22 rfl (cost_f false (z % 12) A a36 m36 c36 _ _ hS.imm h36 hsw hz12 (by omega) hok)) ?_
  rintro _ w_16 ⟨rfl, hE⟩
  replace hS := hS.call hE
  refine ⟨_, _, hS0.le hE.ext (List.Sublist.refl _), hS, ?_⟩
  have hS0 := hS
  refine se rfl (d_call Try.call22 rfl (cost_f false (z % 12) (A.take k.toNat) a44 m44 c44 _ _ hS.imm h44 hwT hz12 hlT hokT)) ?_
  rintro _ w_17 ⟨rfl, hE⟩
  replace hS := hS.call hE
  refine ⟨_, _, hS0.le hE.ext (List.Sublist.refl _), hS, ?_⟩
  have hS0 := hS
  refine se rfl (d_call Try.call22 rfl (cost_f false (z % 12) (A.drop k.toNat) a52 m52 c52 _ _ hS.imm h52 hwD hz12 hlD hokD)) ?_
  rintro _ w_18 ⟨rfl, hE⟩
  replace hS := hS.call hE
  refine ⟨_, _, hS0.le hE.ext (List.Sublist.refl _), hS, ?_⟩
  refine sp rfl (g_assignv (v := .int .i64 _) rfl) ?_
  refine sp rfl (g_assignv (v := .int .i64 _) rfl) ?_
  refine sp rfl (g_assignv (v := .int .i64 _) rfl) ?_
  refine sn (thenN ?_)
  refine wp_seq ?_
  refine reg ?_
  refine qq hS (g_movev (v := .int .i64 _) rfl) ?_
  refine qq hS (g_movev (v := .int .i64 _) rfl) ?_
  refine qq hS (g_movev (v := .int .i64 _) rfl) ?_
  refine qq hS (g_add rfl rfl (by omega) (by omega)) ?_
  refine qq hS (g_leq rfl rfl) ?_
  refine qq hS (g_movev (v := .bool _) rfl) ?_
  refine qu rfl rfl hS (fun hg => (g_movev (v := .int .i64 _) rfl)) ?_
  intro u92 hu92 hn92
  refine qu rfl rfl hS (fun hg => (g_movev (v := .int .i64 _) rfl)) ?_
  intro u93 hu93 hn93
  refine qu rfl rfl hS (fun hg => (g_leq (hu92 hg) (hu93 hg))) ?_
  intro u94 hu94 hn94
  refine qq hS (g_and rfl rfl (fun hq => hu94 hq)) ?_
  refine qq hS (g_movev (v := .bool _) rfl) ?_
  refine qu rfl rfl hS (fun hg => (g_movev (v := .int .i64 _) rfl)) ?_
  intro u97 hu97 hn97
  refine qu rfl rfl hS (fun hg => (g_movev (v := .int .i64 _) rfl)) ?_
  intro u98 hu98 hn98
  refine qu rfl rfl hS (fun hg => (g_leq (hu97 hg) (hu98 hg))) ?_
  intro u99 hu99 hn99
  refine qq hS (g_and rfl rfl (fun hq => hu99 hq)) ?_
  refine qq hS (g_movev (v := .bool _) rfl) ?_
  refine qu rfl rfl hS (fun hg => (g_movev (v := .bool _) rfl)) ?_
  intro u102 hu102 hn102
  refine qq hS (g_and rfl rfl (fun hq => hu102 hq)) ?_
  refine qq hS (g_assignv (v := .bool _) rfl) ?_
  refine ol_nil (thenN ?_)
  refine wp_ret ?_
  refine ret1 Try.results5 (rv_tmp (v := .bool _) rfl) ?_
  refine ⟨_, congrArg Value.bool ?_, hS.nil⟩
  simp; omega

end Go.Proofs.Ytaoodcchleaoeaa
