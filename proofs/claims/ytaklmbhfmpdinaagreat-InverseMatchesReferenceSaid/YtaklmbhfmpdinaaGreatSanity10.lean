/- Lift, Apply and Invert for bytes that are no code; inlaylaw10.sanity is true. Conditions: none. -/
import Derived.Test.YtaklmbhfmpdinaaGreatLost10
set_option linter.unusedSimpArgs false
set_option linter.unusedVariables false
namespace Go.Proofs.YtaklmbhfmpdinaaGreat
open Tryz
open Go Go.RowKit Go.Inl
theorem vj (p : PatL) (ad bd : Option Addr) (m cap n capb : Nat) (old : List Int) (q : PatL) (e : Int) (w0 : World) (I0 : Imm) (hI : Sat I0 w0) (hops : ROps I0 (.slice ad m cap) p.ops) (hp : p.wf) (hl : p.lifted = false) (ho : RBytes I0 (.slice bd n capb) old) (hn : n = old.length) (hob : ∀ y ∈ old, 0 ≤ y ∧ y ≤ 255) (he : invertP old p = (q, e)) :
 Ctr prog 10 [.slice bd n capb, .agg #[.bool p.lifted, .int .i64 p.in_, .int .i64 p.out, .slice ad m cap]] w0 (fun v w' => ∃ I' a m c, v = .tuple #[.agg #[.bool q.lifted, .int .i64 q.in_, .int .i64 q.out, .slice a m c], .int .i64 e] ∧ Ext w0 I0 w' I' ∧ ROps I' (.slice a m c) q.ops) := by
 subst hn; exact invert_c p ad bd m cap capb old q e w0 I0 hI hops hp hl ho hob he
theorem sameRg1_T (l : List (Int × Int)) (ad bd : Option Addr) (m k cap capb : Nat) (w0 : World) (I0 : Imm) (hI : Sat I0 w0) (hl : RRgs I0 (.slice ad m cap) l) (hk : RRgs I0 (.slice bd k capb) l) (hm : m = l.length) (hn : k = l.length) :
 Ctr prog 15 [.slice ad m cap, .slice bd k capb] w0 (fun v w' => v = .bool true ∧ Ext w0 I0 w' I0) := by
 subst hm hn
 have h := sameRg1_c l l ad bd cap capb w0 I0 hI hl hk
 rw [decide_eq_true rfl] at h; exact h
theorem wordsBad_c (bd : Option Addr) (capb : Nat) (b : List Int) (w0 : World) (I0 : Imm) (hI : Sat I0 w0) (hb : RBytes I0 (.slice bd b.length capb) b) (h4 : ¬ (b.length : Int) % 4 = 0) :
 Ctr prog 54 [.slice bd b.length capb] w0 (fun v w' => v = .tuple #[.slice none 0 0, .int .i64 61] ∧ Ext w0 I0 w' I0) := by
 have hll := RSl.le hb
 simp only [maxLen] at hll
 refine fn (n := 40) func54 rfl rfl rfl ?_
 have hS := St.start hI
 refine QwR (qq hS (qf _) (qq hS (Qai rfl) (QoN (wpIn_seq (QwR ?_)))))
 refine qq hS (qb _) ?_
 refine qq hS (qo rfl underlying25 hb rfl) ?_
 refine qq hS (g_rem rfl rfl (by omega) (by omega)) ?_
 refine qq hS (g_neqTK rfl rfl h4) ?_
 refine QoN ?_
 refine jc (rfl) ?_
 refine QwR (qq hS (qf _) (qq hS (Qai rfl) (QoN (wpIn_ret ?_))))
 refine thenR ?_
 refine ret2 results54 (qd rfl) (qd (v := .int .i64 _) rfl) ?_
 exact ⟨rfl, hS.nil⟩
theorem liftBad_c (bd : Option Addr) (capb : Nat) (b : List Int) (w0 : World) (I0 : Imm) (hI : Sat I0 w0) (hb : RBytes I0 (.slice bd b.length capb) b) (h4 : ¬ (b.length : Int) % 4 = 0) :
 Ctr prog 26 [.slice bd b.length capb] w0 (fun v w' => v = .tuple #[.agg #[.slice none 0 0, .slice none 0 0, .slice none 0 0], .int .i64 30] ∧ Ext w0 I0 w' I0) := by
 refine fnM (n := 78) func26 rfl rfl rfl ?_
 have hS := St.start hI
 refine QwR ?_
 refine qe (qk (cs := [.slice _ _ _, .slice _ _ _, .slice _ _ _]) hS zeroValue70 rfl) ?_
 clear hS
 rintro _ w_1 ⟨b2, rfl, hS⟩
 refine qq hS (Qai rfl) (QoR (qq hS (qb _) ?_))
 refine qe (qi call54 rfl (wordsBad_c _ _ b _ _ hS.imm hb h4)) ?_
 rintro _ w_2 ⟨rfl, hE⟩
 replace hS := hS.callE hE
 refine qq hS (qb _) ?_
 refine qq hS (ql rfl rfl) ?_
 refine qq hS (Qxi rfl rfl) ?_
 refine qe (qk (cs := [.slice _ _ _]) hS zeroValue57 rfl) ?_
 clear hS
 rintro _ w_3 ⟨b4, rfl, hS⟩
 refine qe (qg 0 hS sizeOf57 rfl rfl rfl (vs := [.slice _ _ _]) rfl rfl rfl (Nat.le_of_ble_eq_true rfl) (cs' := [_]) rfl) ?_
 clear hS
 rintro _ w_4 ⟨rfl, hS⟩
 refine qq hS (Qai rfl) (QoN (wpIn_seq (QwR (qq hS (Qmi rfl) ?_))))
 refine qq hS (g_neq rfl rfl) ?_
 refine qq hS (Qmb rfl) ?_
 refine qsf rfl rfl rfl ?_
 refine qsf rfl rfl rfl ?_
 refine qsf rfl rfl rfl ?_
 refine qq hS (g_or (b := true) rfl rfl (fun h => by cases h)) ?_
 refine QoN ?_
 refine jc (rfl) ?_
 refine QwR ?_
 refine qq hS (qm (pl := [(0, 1), (1, 1), (2, 1)]) (cs := [.slice _ _ _, .slice _ _ _, .slice _ _ _]) zeroValue70 underlying70 (fun w => by simp [sizeOf57, sizeOf67, sizeOf68]) mp0 rfl) ?_
 refine qe (qg 1 hS sizeOf70 rfl rfl rfl (vs := [.slice _ _ _, .slice _ _ _, .slice _ _ _]) rfl rfl rfl (Nat.le_of_ble_eq_true rfl) (cs' := [_, _, _]) rfl) ?_
 clear hS
 rintro _ w_5 ⟨rfl, hS⟩
 refine qq hS (Qai rfl) (QoN (wpIn_ret ?_))
 refine thenR ?_
 refine retM2 results26 (qs 1 hS sizeOf70 isAgg70 rfl rfl rfl) (qd (v := .int .i64 _) rfl) ?_
 exact ⟨rfl, hS.nil⟩
theorem applyBad_c (p : PatL) (ad bd : Option Addr) (m cap capb : Nat) (b : List Int) (w0 : World) (I0 : Imm) (hI : Sat I0 w0) (hops : ROps I0 (.slice ad m cap) p.ops) (hp : p.wf) (hl : p.lifted = true) (hk : (checkP p).2 = 0) (hb : RBytes I0 (.slice bd b.length capb) b) (h4 : ¬ (b.length : Int) % 4 = 0) :
 Ctr prog 17 [.slice bd b.length capb, .agg #[.bool p.lifted, .int .i64 p.in_, .int .i64 p.out, .slice ad m cap]] w0 (fun v w' => ∃ I', v = .tuple #[.slice none 0 0, .int .i64 30] ∧ Ext w0 I0 w' I') := by
 obtain ⟨plf, pin, pout, pops⟩ := p
 dsimp only at *
 subst hl
 have hA := jD hk
 refine fn (n := 62) func17 rfl rfl rfl ?_
 have hS := St.start hI
 refine QwR ?_
 refine qe (d_box (cs := [.bool _, .int .i64 _, .int .i64 _, .slice _ _ _]) hS rfl) ?_
 clear hS
 rintro _ w_1 ⟨b3, rfl, hS⟩
 refine qq hS (qf _) (qq hS (Qai rfl) (QoR ?_))
 refine qq hS (g_ldO 0 (vs := [.bool _, .int .i64 _, .int .i64 _, .slice _ _ _]) sizeOf31 isAgg31 rfl rfl rfl rfl) ?_
 refine qe (qi call25 rfl (ke (⟨true, pin, pout, pops⟩ : PatL) _ _ _ (symsOf pops) 0 _ _ hS.imm hops hp hA)) ?_
 rintro _ w_2 ⟨I_f, a14, c14, rfl, hE, h14⟩
 replace hS := hS.callE hE
 replace hops := hops.mono hE.ext
 replace hb := hb.mono hE.ext
 refine qq hS (qb _) ?_
 refine qq hS (ql rfl rfl) ?_
 refine qq hS (Qxi rfl rfl) ?_
 refine qq hS (qf _) (qq hS (Qai rfl) (QoN (wpIn_seq (QwR (qq hS (Qmi rfl) ?_)))))
 refine qq hS (g_neq rfl rfl) ?_
 refine QoN ?_
 refine jb (rfl) ?_
 refine wpIn_skip (thenN (wpIn_seq (QwR ?_)))
 refine qq hS (qa (o' := 0) underlying31 rfl sizeOf4 rfl rfl rfl) ?_
 refine qq hS (qc 0 isAgg4 rfl rfl rfl) ?_
 refine QoN ?_
 refine jc (rfl) ?_
 refine QwR (qq hS (qb _) ?_)
 refine qe (qi call26 rfl (liftBad_c _ _ b _ _ hS.imm hb h4)) ?_
 rintro _ w_3 ⟨rfl, hE⟩
 replace hS := hS.callE hE
 refine qq hS (qb _) ?_
 refine qq hS (ql rfl rfl) ?_
 refine qq hS (Qxi rfl rfl) ?_
 refine qe (qk (cs := [.slice _ _ _, .slice _ _ _, .slice _ _ _]) hS zeroValue70 rfl) ?_
 clear hS
 rintro _ w_4 ⟨b8, rfl, hS⟩
 refine qe (qg 0 hS sizeOf70 rfl rfl rfl (vs := [.slice _ _ _, .slice _ _ _, .slice _ _ _]) rfl rfl rfl (Nat.le_of_ble_eq_true rfl) (cs' := [_, _, _]) rfl) ?_
 clear hS
 rintro _ w_5 ⟨rfl, hS⟩
 refine qq hS (Qai rfl) (QoN (wpIn_seq (QwR (qq hS (Qmi rfl) ?_))))
 refine qq hS (g_neq rfl rfl) ?_
 refine QoN ?_
 refine jc (rfl) ?_
 refine QwR (qq hS (qf _) (qq hS (Qai rfl) (QoN (wpIn_ret ?_))))
 refine thenR (thenR ?_)
 refine ret2 results17 (qd rfl) (qd (v := .int .i64 _) rfl) ?_
 exact ⟨_, rfl, hS.nil⟩
theorem invertBad_c (p : PatL) (ad bd : Option Addr) (m cap capb : Nat) (b : List Int) (w0 : World) (I0 : Imm) (hI : Sat I0 w0) (hops : ROps I0 (.slice ad m cap) p.ops) (hp : p.wf) (hl : p.lifted = true) (hk : (checkP p).2 = 0) (hb : RBytes I0 (.slice bd b.length capb) b) (h4 : ¬ (b.length : Int) % 4 = 0) :
 Ctr prog 10 [.slice bd b.length capb, .agg #[.bool p.lifted, .int .i64 p.in_, .int .i64 p.out, .slice ad m cap]] w0 (fun v w' => ∃ I', v = .tuple #[.agg #[.bool false, .int .i64 0, .int .i64 0, .slice none 0 0], .int .i64 30] ∧ Ext w0 I0 w' I') := by
 obtain ⟨plf, pin, pout, pops⟩ := p
 dsimp only at *
 subst hl
 have hA := jD hk
 refine fn (n := 99) func10 rfl rfl rfl ?_
 have hS := St.start hI
 refine QwR ?_
 refine qe (d_box (cs := [.bool _, .int .i64 _, .int .i64 _, .slice _ _ _]) hS rfl) ?_
 clear hS
 rintro _ w_1 ⟨b3, rfl, hS⟩
 refine qe (qk (cs := [.bool _, .int .i64 _, .int .i64 _, .slice _ _ _]) hS zeroValue31 rfl) ?_
 clear hS
 rintro _ w_2 ⟨b4, rfl, hS⟩
 refine qq hS (Qai rfl) (QoR ?_)
 refine qq hS (g_ldO 1 (vs := [.bool _, .int .i64 _, .int .i64 _, .slice _ _ _]) sizeOf31 isAgg31 rfl rfl rfl rfl) ?_
 refine qe (qi call25 rfl (ke (⟨true, pin, pout, pops⟩ : PatL) _ _ _ (symsOf pops) 0 _ _ hS.imm hops hp hA)) ?_
 rintro _ w_3 ⟨I_f, a21, c21, rfl, hE, h21⟩
 replace hS := hS.callE hE
 replace hops := hops.mono hE.ext
 replace hb := hb.mono hE.ext
 refine qq hS (qb _) ?_
 refine qq hS (ql rfl rfl) ?_
 refine qq hS (Qxi rfl rfl) ?_
 refine qq hS (qf _) (qq hS (Qai rfl) (QoN (wpIn_seq (QwR (qq hS (Qmi rfl) ?_)))))
 refine qq hS (g_neq rfl rfl) ?_
 refine QoN ?_
 refine jb (rfl) ?_
 refine wpIn_skip (thenN (wpIn_seq (QwR (qq hS (qb _) ?_))))
 refine qq hS (g_ldO 1 (vs := [.bool _, .int .i64 _, .int .i64 _, .slice _ _ _]) sizeOf31 isAgg31 rfl rfl rfl rfl) ?_
 refine qe (qi call17 rfl (applyBad_c (⟨true, pin, pout, pops⟩ : PatL) _ _ _ _ _ b _ _ hS.imm hops hp rfl hk hb h4)) ?_
 rintro _ w_4 ⟨I_f, rfl, hE⟩
 replace hS := hS.callE hE
 replace hops := hops.mono hE.ext
 replace hb := hb.mono hE.ext
 replace h21 := h21.mono hE.ext
 refine qq hS (qb _) ?_
 refine qq hS (ql rfl rfl) ?_
 refine qq hS (Qxi rfl rfl) ?_
 refine qq hS (qf _) (qq hS (Qai rfl) (QoR (qq hS (Qmi rfl) ?_)))
 refine qq hS (g_neq rfl rfl) ?_
 refine QoN ?_
 refine jc (rfl) ?_
 refine QwR ?_
 refine qq hS (qm (pl := [(0, 1), (1, 1), (2, 1), (3, 1)]) (cs := [.bool _, .int .i64 _, .int .i64 _, .slice _ _ _]) zeroValue31 underlying31 (fun w => by simp [sizeOf29, sizeOf3, sizeOf4]) mp0 rfl) ?_
 refine qq hS (Qmi rfl) ?_
 refine qe (qg 0 hS sizeOf31 rfl rfl rfl (vs := [.bool _, .int .i64 _, .int .i64 _, .slice _ _ _]) rfl rfl rfl (Nat.le_of_ble_eq_true rfl) (cs' := [_, _, _, _]) rfl) ?_
 clear hS
 rintro _ w_5 ⟨rfl, hS⟩
 refine qq hS (Qai rfl) (QoN (wpIn_ret ?_))
 refine thenR ?_
 refine ret2 results10 (qs 0 hS sizeOf31 isAgg31 rfl rfl rfl) (qd (v := .int .i64 _) rfl) ?_
 exact ⟨_, rfl, hS.nil⟩
set_option maxRecDepth 20000 in
set_option maxHeartbeats 4000000 in
theorem sanity10_c (w0 : World) (I0 : Imm) (hI : Sat I0 w0) :
 Ctr prog 5 [] w0 (fun v w' => ∃ I', v = .bool true ∧ Ext w0 I0 w' I') := by
 refine fn (n := 95) func5 rfl rfl rfl ?_
 have hS := St.start hI
 refine QwR (qq hS (Qab rfl) (QoR ?_))
 refine qq hS (qm (pl := [(0, 1), (1, 1), (2, 1), (3, 1), (4, 1)]) (cs := [.int .i64 _, .int .i64 _, .int .i64 _, .int .u8 _, .slice _ _ _]) zeroValue53 underlying53 (fun w => by simp [sizeOf25, sizeOf3, sizeOf5]) (mp (v := .int .i64 _) rfl (mp (v := .int .i64 _) rfl (mp (v := .int .i64 _) rfl mp0))) rfl) ?_
 refine qq hS (qm (pl := [(0, 1), (1, 1), (2, 1), (3, 1), (4, 1)]) (cs := [.int .i64 _, .int .i64 _, .int .i64 _, .int .u8 _, .slice _ _ _]) zeroValue53 underlying53 (fun w => by simp [sizeOf25, sizeOf3, sizeOf5]) (mp (v := .int .i64 _) rfl (mp (v := .int .i64 _) rfl mp0)) rfl) ?_
 refine qe (d_lit (vs := [.agg #[.int .i64 _, .int .i64 _, .int .i64 _, .int .u8 _, .slice _ _ _], .agg #[.int .i64 _, .int .i64 _, .int .i64 _, .int .u8 _, .slice _ _ _]]) (cs := [.int .i64 _, .int .i64 _, .int .i64 _, .int .u8 _, .slice _ _ _, .int .i64 _, .int .i64 _, .int .i64 _, .int .u8 _, .slice _ _ _]) hS underlying29 sizeOf53 zeroValue53 rfl rfl rfl rfl (fun v hv => by simp only [List.mem_cons, List.not_mem_nil, or_false] at hv; rcases hv with rfl | rfl <;> rfl) rfl) ?_
 clear hS
 rintro _ w_1 ⟨b17, rfl, hS⟩
 have hF := hS.freeze1
 clear hS
 obtain ⟨I17, hS, hI17, hb17⟩ := hF
 have h17 : ROps _ (.slice (some ⟨b17, 0, none⟩) 2 2) [⟨1, 2, 2, 0, []⟩, ⟨1, 0, 2, 0, []⟩] := RSl.ofAt (css := [[.int .i64 1, .int .i64 2, .int .i64 2, .int .u8 0, .slice none 0 0], [.int .i64 1, .int .i64 0, .int .i64 2, .int .u8 0, .slice none 0 0]]) hb17 rfl (by simp) (All2.cons ⟨_, _, _, rfl, RFl.nil⟩ (All2.cons ⟨_, _, _, rfl, RFl.nil⟩ (All2.nil _))) rfl (by decide)
 refine qq hS (qm (pl := [(0, 1), (1, 1), (2, 1), (3, 1)]) (cs := [.bool _, .int .i64 _, .int .i64 _, .slice _ _ _]) zeroValue31 underlying31 (fun w => by simp [sizeOf29, sizeOf3, sizeOf4]) (mp (v := .int .i64 _) rfl (mp (v := .int .i64 _) rfl (mp (v := .slice _ _ _) rfl mp0))) rfl) ?_
 refine qe (qk (cs := [.bool _, .int .i64 _, .int .i64 _, .slice _ _ _]) hS zeroValue31 rfl) ?_
 clear hS
 rintro _ w_2 ⟨b1, rfl, hS⟩
 refine qe (qg 0 hS sizeOf31 rfl rfl rfl (vs := [.bool _, .int .i64 _, .int .i64 _, .slice _ _ _]) rfl rfl rfl (Nat.le_of_ble_eq_true rfl) (cs' := [_, _, _, _]) rfl) ?_
 clear hS
 rintro _ w_3 ⟨rfl, hS⟩
 refine QoR ?_
 refine qe (d_lit (vs := [.int .u8 _, .int .u8 _, .int .u8 _, .int .u8 _, .int .u8 _, .int .u8 _]) (cs := [.int .u8 _, .int .u8 _, .int .u8 _, .int .u8 _, .int .u8 _, .int .u8 _]) hS underlying25 sizeOf5 zeroValue5 rfl rfl rfl rfl (fun v hv => by simp only [List.mem_cons, List.not_mem_nil, or_false] at hv; rcases hv with rfl | rfl | rfl | rfl | rfl | rfl <;> rfl) rfl) ?_
 clear hS
 rintro _ w_4 ⟨b20, rfl, hS⟩
 refine qe (yU (xs := ([97, 98, 99, 100, 101, 102] : List Int)) hS rfl underlying25 underlying5 rfl rfl (by decide)) ?_
 clear hS
 rintro _ w_5 ⟨I21, rfl, hS, hI21, h20⟩
 replace h17 := h17.mono hI21
 refine qq hS (g_ldO 0 (vs := [.bool _, .int .i64 _, .int .i64 _, .slice _ _ _]) sizeOf31 isAgg31 rfl rfl rfl rfl) ?_
 refine qe (qi call10 rfl (vj (⟨false, 6, 4, [⟨1, 2, 2, 0, []⟩, ⟨1, 0, 2, 0, []⟩]⟩ : PatL) _ _ _ _ _ _ ([97, 98, 99, 100, 101, 102] : List Int) (⟨false, 4, 6, [⟨1, 2, 2, 0, []⟩, ⟨1, 0, 2, 0, []⟩, ⟨4, 0, 2, 0, [101, 102]⟩]⟩ : PatL) 0 _ _ hS.imm h17 (jW (by kernel_rfl)) rfl h20 rfl (by decide) (by kernel_rfl))) ?_
 rintro _ w_6 ⟨I_f, a23, m23, c23, rfl, hE, h23⟩
 replace hS := hS.callE hE
 replace h17 := h17.mono hE.ext
 replace h20 := h20.mono hE.ext
 refine qq hS (qb _) ?_
 refine qq hS (ql rfl rfl) ?_
 refine qq hS (Qxi rfl rfl) ?_
 refine qe (qk (cs := [.bool _, .int .i64 _, .int .i64 _, .slice _ _ _]) hS zeroValue31 rfl) ?_
 clear hS
 rintro _ w_7 ⟨b2, rfl, hS⟩
 refine qe (qg 0 hS sizeOf31 rfl rfl rfl (vs := [.bool _, .int .i64 _, .int .i64 _, .slice _ _ _]) rfl rfl rfl (Nat.le_of_ble_eq_true rfl) (cs' := [_, _, _, _]) rfl) ?_
 clear hS
 rintro _ w_8 ⟨rfl, hS⟩
 refine qq hS (Qai rfl) (QoR ?_)
 refine qq hS (g_ldO 1 (vs := [.bool _, .int .i64 _, .int .i64 _, .slice _ _ _]) sizeOf31 isAgg31 rfl rfl rfl rfl) ?_
 refine qe (qi call12 rfl (vK (⟨false, 6, 4, [⟨1, 2, 2, 0, []⟩, ⟨1, 0, 2, 0, []⟩]⟩ : PatL) _ _ _ [(4, 6)] 0 _ _ hS.imm h17 (jW (by kernel_rfl)) (by kernel_rfl))) ?_
 rintro _ w_9 ⟨I_f, a28, c28, rfl, hE, h28⟩
 replace hS := hS.callE hE
 replace h17 := h17.mono hE.ext
 replace h20 := h20.mono hE.ext
 replace h23 := h23.mono hE.ext
 refine qq hS (qb _) ?_
 refine qq hS (ql rfl rfl) ?_
 refine qq hS (Qxi rfl rfl) ?_
 refine qq hS (qf _) (qq hS (Qai rfl) (QoR ?_))
 refine qe (d_lit (vs := [.int .u8 _, .int .u8 _, .int .u8 _]) (cs := [.int .u8 _, .int .u8 _, .int .u8 _]) hS underlying25 sizeOf5 zeroValue5 rfl rfl rfl rfl (fun v hv => by simp only [List.mem_cons, List.not_mem_nil, or_false] at hv; rcases hv with rfl | rfl | rfl <;> rfl) rfl) ?_
 clear hS
 rintro _ w_10 ⟨b32, rfl, hS⟩
 refine qe (yU (xs := ([97, 98, 99] : List Int)) hS rfl underlying25 underlying5 rfl rfl (by decide)) ?_
 clear hS
 rintro _ w_11 ⟨I33, rfl, hS, hI33, h32⟩
 replace h17 := h17.mono hI33
 replace h20 := h20.mono hI33
 replace h23 := h23.mono hI33
 replace h28 := h28.mono hI33
 refine qq hS (g_ldO 1 (vs := [.bool _, .int .i64 _, .int .i64 _, .slice _ _ _]) sizeOf31 isAgg31 rfl rfl rfl rfl) ?_
 refine qe (qi call10 rfl (vj (⟨false, 6, 4, [⟨1, 2, 2, 0, []⟩, ⟨1, 0, 2, 0, []⟩]⟩ : PatL) _ _ _ _ _ _ ([97, 98, 99] : List Int) PatL.zero 61 _ _ hS.imm h17 (jW (by kernel_rfl)) rfl h32 rfl (by decide) (by kernel_rfl))) ?_
 rintro _ w_12 ⟨I_f, a35, m35, c35, rfl, hE, h35⟩
 replace hS := hS.callE hE
 replace h17 := h17.mono hE.ext
 replace h20 := h20.mono hE.ext
 replace h23 := h23.mono hE.ext
 replace h28 := h28.mono hE.ext
 replace h32 := h32.mono hE.ext
 refine qq hS (qb _) ?_
 refine qq hS (ql rfl rfl) ?_
 refine qq hS (Qxi rfl rfl) ?_
 refine qe (qk (cs := [.bool _, .int .i64 _, .int .i64 _, .slice _ _ _]) hS zeroValue31 rfl) ?_
 clear hS
 rintro _ w_13 ⟨b6, rfl, hS⟩
 refine qe (qg 0 hS sizeOf31 rfl rfl rfl (vs := [.bool _, .int .i64 _, .int .i64 _, .slice _ _ _]) rfl rfl rfl (Nat.le_of_ble_eq_true rfl) (cs' := [_, _, _, _]) rfl) ?_
 clear hS
 rintro _ w_14 ⟨rfl, hS⟩
 refine qq hS (Qai rfl) (QoR ?_)
 refine qq hS (qm (pl := [(0, 1), (1, 1), (2, 1), (3, 1)]) (cs := [.bool _, .int .i64 _, .int .i64 _, .slice _ _ _]) zeroValue31 underlying31 (fun w => by simp [sizeOf29, sizeOf3, sizeOf4]) (mp (v := .int .i64 _) rfl mp0) rfl) ?_
 refine qe (qi call10 rfl (vj (⟨false, 0, 1, []⟩ : PatL) _ none _ _ 0 0 ([] : List Int) PatL.zero 60 _ _ hS.imm RSl.nilR (jW (by kernel_rfl)) rfl RFl.nil rfl (by decide) (by kernel_rfl))) ?_
 rintro _ w_15 ⟨I_f, a40, m40, c40, rfl, hE, h40⟩
 replace hS := hS.callE hE
 replace h17 := h17.mono hE.ext
 replace h20 := h20.mono hE.ext
 replace h23 := h23.mono hE.ext
 replace h28 := h28.mono hE.ext
 replace h32 := h32.mono hE.ext
 replace h35 := h35.mono hE.ext
 refine qq hS (qb _) ?_
 refine qq hS (ql rfl rfl) ?_
 refine qq hS (Qxi rfl rfl) ?_
 refine qe (qk (cs := [.bool _, .int .i64 _, .int .i64 _, .slice _ _ _]) hS zeroValue31 rfl) ?_
 clear hS
 rintro _ w_16 ⟨b8, rfl, hS⟩
 refine qe (qg 0 hS sizeOf31 rfl rfl rfl (vs := [.bool _, .int .i64 _, .int .i64 _, .slice _ _ _]) rfl rfl rfl (Nat.le_of_ble_eq_true rfl) (cs' := [_, _, _, _]) rfl) ?_
 clear hS
 rintro _ w_17 ⟨rfl, hS⟩
 refine qq hS (Qai rfl) (QoR ?_)
 refine qq hS (qm (pl := [(0, 1), (1, 1), (2, 1), (3, 1)]) (cs := [.bool _, .int .i64 _, .int .i64 _, .slice _ _ _]) zeroValue31 underlying31 (fun w => by simp [sizeOf29, sizeOf3, sizeOf4]) (mp (v := .int .i64 _) rfl mp0) rfl) ?_
 refine qe (qi call12 rfl (vK (⟨false, 0, 1, []⟩ : PatL) _ _ _ [] 60 _ _ hS.imm RSl.nilR (jW (by kernel_rfl)) (by kernel_rfl))) ?_
 rintro _ w_18 ⟨I_f, a45, c45, rfl, hE, h45⟩
 replace hS := hS.callE hE
 replace h17 := h17.mono hE.ext
 replace h20 := h20.mono hE.ext
 replace h23 := h23.mono hE.ext
 replace h28 := h28.mono hE.ext
 replace h32 := h32.mono hE.ext
 replace h35 := h35.mono hE.ext
 replace h40 := h40.mono hE.ext
 refine qq hS (qb _) ?_
 refine qq hS (ql rfl rfl) ?_
 refine qq hS (Qxi rfl rfl) ?_
 refine qq hS (qf _) (qq hS (Qai rfl) (QoR ?_))
 refine qe (d_lit (vs := [.int .u8 _, .int .u8 _, .int .u8 _]) (cs := [.int .u8 _, .int .u8 _, .int .u8 _]) hS underlying25 sizeOf5 zeroValue5 rfl rfl rfl rfl (fun v hv => by simp only [List.mem_cons, List.not_mem_nil, or_false] at hv; rcases hv with rfl | rfl | rfl <;> rfl) rfl) ?_
 clear hS
 rintro _ w_19 ⟨b49, rfl, hS⟩
 refine qe (yU (xs := ([97, 98, 99] : List Int)) hS rfl underlying25 underlying5 rfl rfl (by decide)) ?_
 clear hS
 rintro _ w_20 ⟨I50, rfl, hS, hI50, h49⟩
 replace h17 := h17.mono hI50
 replace h20 := h20.mono hI50
 replace h23 := h23.mono hI50
 replace h28 := h28.mono hI50
 replace h32 := h32.mono hI50
 replace h35 := h35.mono hI50
 replace h40 := h40.mono hI50
 replace h45 := h45.mono hI50
 refine qq hS (qm (pl := [(0, 1), (1, 1), (2, 1), (3, 1)]) (cs := [.bool _, .int .i64 _, .int .i64 _, .slice _ _ _]) zeroValue31 underlying31 (fun w => by simp [sizeOf29, sizeOf3, sizeOf4]) (mp (v := .bool _) rfl mp0) rfl) ?_
 refine qe (qi call10 rfl (invertBad_c (⟨true, 0, 0, []⟩ : PatL) _ _ _ _ _ ([97, 98, 99] : List Int) _ _ hS.imm RSl.nilR (jW (by kernel_rfl)) rfl (by kernel_rfl) h49 (by decide))) ?_
 rintro _ w_21 ⟨I_f, rfl, hE⟩
 replace hS := hS.callE hE
 replace h17 := h17.mono hE.ext
 replace h20 := h20.mono hE.ext
 replace h23 := h23.mono hE.ext
 replace h28 := h28.mono hE.ext
 replace h32 := h32.mono hE.ext
 replace h35 := h35.mono hE.ext
 replace h40 := h40.mono hE.ext
 replace h45 := h45.mono hE.ext
 replace h49 := h49.mono hE.ext
 refine qq hS (qb _) ?_
 refine qq hS (ql rfl rfl) ?_
 refine qq hS (Qxi rfl rfl) ?_
 refine qe (qk (cs := [.bool _, .int .i64 _, .int .i64 _, .slice _ _ _]) hS zeroValue31 rfl) ?_
 clear hS
 rintro _ w_22 ⟨b12, rfl, hS⟩
 refine qe (qg 0 hS sizeOf31 rfl rfl rfl (vs := [.bool _, .int .i64 _, .int .i64 _, .slice _ _ _]) rfl rfl rfl (Nat.le_of_ble_eq_true rfl) (cs' := [_, _, _, _]) rfl) ?_
 clear hS
 rintro _ w_23 ⟨rfl, hS⟩
 refine qq hS (Qai rfl) (QoR ?_)
 refine qq hS (qm (pl := [(0, 1), (1, 1), (2, 1), (3, 1), (4, 1)]) (cs := [.int .i64 _, .int .i64 _, .int .i64 _, .int .u8 _, .slice _ _ _]) zeroValue53 underlying53 (fun w => by simp [sizeOf25, sizeOf3, sizeOf5]) (mp (v := .int .i64 _) rfl (mp (v := .int .i64 _) rfl (mp (v := .int .i64 _) rfl mp0))) rfl) ?_
 refine qq hS (qm (pl := [(0, 1), (1, 1), (2, 1), (3, 1), (4, 1)]) (cs := [.int .i64 _, .int .i64 _, .int .i64 _, .int .u8 _, .slice _ _ _]) zeroValue53 underlying53 (fun w => by simp [sizeOf25, sizeOf3, sizeOf5]) (mp (v := .int .i64 _) rfl (mp (v := .int .i64 _) rfl mp0)) rfl) ?_
 refine qe (d_lit (vs := [.int .u8 _, .int .u8 _]) (cs := [.int .u8 _, .int .u8 _]) hS underlying25 sizeOf5 zeroValue5 rfl rfl rfl rfl (fun v hv => by simp only [List.mem_cons, List.not_mem_nil, or_false] at hv; rcases hv with rfl | rfl <;> rfl) rfl) ?_
 clear hS
 rintro _ w_24 ⟨b57, rfl, hS⟩
 refine qe (yU (xs := ([101, 102] : List Int)) hS rfl underlying25 underlying5 rfl rfl (by decide)) ?_
 clear hS
 rintro _ w_25 ⟨I58, rfl, hS, hI58, h57⟩
 replace h17 := h17.mono hI58
 replace h20 := h20.mono hI58
 replace h23 := h23.mono hI58
 replace h28 := h28.mono hI58
 replace h32 := h32.mono hI58
 replace h35 := h35.mono hI58
 replace h40 := h40.mono hI58
 replace h45 := h45.mono hI58
 replace h49 := h49.mono hI58
 refine qq hS (qm (pl := [(0, 1), (1, 1), (2, 1), (3, 1), (4, 1)]) (cs := [.int .i64 _, .int .i64 _, .int .i64 _, .int .u8 _, .slice _ _ _]) zeroValue53 underlying53 (fun w => by simp [sizeOf25, sizeOf3, sizeOf5]) (mp (v := .int .i64 _) rfl (mp (v := .int .i64 _) rfl (mp (v := .slice _ _ _) rfl mp0))) rfl) ?_
 refine qe (d_lit (vs := [.agg #[.int .i64 _, .int .i64 _, .int .i64 _, .int .u8 _, .slice _ _ _], .agg #[.int .i64 _, .int .i64 _, .int .i64 _, .int .u8 _, .slice _ _ _], .agg #[.int .i64 _, .int .i64 _, .int .i64 _, .int .u8 _, .slice _ _ _]]) (cs := [.int .i64 _, .int .i64 _, .int .i64 _, .int .u8 _, .slice _ _ _, .int .i64 _, .int .i64 _, .int .i64 _, .int .u8 _, .slice _ _ _, .int .i64 _, .int .i64 _, .int .i64 _, .int .u8 _, .slice _ _ _]) hS underlying29 sizeOf53 zeroValue53 rfl rfl rfl rfl (fun v hv => by simp only [List.mem_cons, List.not_mem_nil, or_false] at hv; rcases hv with rfl | rfl | rfl <;> rfl) rfl) ?_
 clear hS
 rintro _ w_26 ⟨b60, rfl, hS⟩
 have hF := hS.freeze1
 clear hS
 obtain ⟨I60, hS, hI60, hb60⟩ := hF
 replace h17 := h17.mono hI60
 replace h20 := h20.mono hI60
 replace h23 := h23.mono hI60
 replace h28 := h28.mono hI60
 replace h32 := h32.mono hI60
 replace h35 := h35.mono hI60
 replace h40 := h40.mono hI60
 replace h45 := h45.mono hI60
 replace h49 := h49.mono hI60
 replace h57 := h57.mono hI60
 have h60 : ROps _ (.slice (some ⟨b60, 0, none⟩) 3 3) [⟨1, 2, 2, 0, []⟩, ⟨1, 0, 2, 0, []⟩, ⟨4, 0, 2, 0, [101, 102]⟩] := RSl.ofAt (css := [[.int .i64 1, .int .i64 2, .int .i64 2, .int .u8 0, .slice none 0 0], [.int .i64 1, .int .i64 0, .int .i64 2, .int .u8 0, .slice none 0 0], [.int .i64 4, .int .i64 0, .int .i64 2, .int .u8 0, .slice (some ⟨b57, 0, none⟩) 2 2]]) hb60 rfl (by simp) (All2.cons ⟨_, _, _, rfl, RFl.nil⟩ (All2.cons ⟨_, _, _, rfl, RFl.nil⟩ (All2.cons ⟨_, _, _, rfl, h57⟩ (All2.nil _)))) rfl (by decide)
 refine qq hS (qm (pl := [(0, 1), (1, 1), (2, 1), (3, 1)]) (cs := [.bool _, .int .i64 _, .int .i64 _, .slice _ _ _]) zeroValue31 underlying31 (fun w => by simp [sizeOf29, sizeOf3, sizeOf4]) (mp (v := .int .i64 _) rfl (mp (v := .int .i64 _) rfl (mp (v := .slice _ _ _) rfl mp0))) rfl) ?_
 refine qe (qk (cs := [.bool _, .int .i64 _, .int .i64 _, .slice _ _ _]) hS zeroValue31 rfl) ?_
 clear hS
 rintro _ w_27 ⟨b14, rfl, hS⟩
 refine qe (qg 0 hS sizeOf31 rfl rfl rfl (vs := [.bool _, .int .i64 _, .int .i64 _, .slice _ _ _]) rfl rfl rfl (Nat.le_of_ble_eq_true rfl) (cs' := [_, _, _, _]) rfl) ?_
 clear hS
 rintro _ w_28 ⟨rfl, hS⟩
 refine QoR (qq hS (Qmi rfl) ?_)
 refine qq hS (g_eql rfl rfl) ?_
 refine qq hS (Qmb rfl) ?_
 refine qqs rfl rfl hS (g_ldO 4 (vs := [.bool _, .int .i64 _, .int .i64 _, .slice _ _ _]) sizeOf31 isAgg31 rfl rfl rfl rfl) ?_
 refine qqs rfl rfl hS (g_ldO 0 (vs := [.bool _, .int .i64 _, .int .i64 _, .slice _ _ _]) sizeOf31 isAgg31 rfl rfl rfl rfl) ?_
 refine qes rfl rfl (qi call14 rfl (sameR_e (⟨false, 4, 6, [⟨1, 2, 2, 0, []⟩, ⟨1, 0, 2, 0, []⟩, ⟨4, 0, 2, 0, [101, 102]⟩]⟩ : PatL) (⟨false, 4, 6, [⟨1, 2, 2, 0, []⟩, ⟨1, 0, 2, 0, []⟩, ⟨4, 0, 2, 0, [101, 102]⟩]⟩ : PatL) _ _ _ _ _ _ true _ _ hS.imm h23 (jW (by kernel_rfl)) h60 (jW (by kernel_rfl)) (by kernel_rfl))) ?_
 rintro _ w_29 ⟨rfl, hE⟩
 replace hS := hS.callE hE
 refine qq hS (g_and rfl rfl (fun _ => rfl)) ?_
 refine qq hS (Qmb rfl) ?_
 refine qqs rfl rfl hS (Qmi rfl) ?_
 refine qqs rfl rfl hS (g_eql rfl rfl) ?_
 refine qq hS (g_and rfl rfl (fun _ => rfl)) ?_
 refine qq hS (Qmb rfl) ?_
 refine qqs rfl rfl hS (qb _) ?_
 refine qqs rfl rfl hS (qm (pl := [(0, 1), (1, 1)]) (cs := [.int .i64 _, .int .i64 _]) zeroValue55 underlying55 (fun w => by simp [sizeOf3]) (mp (v := .int .i64 _) rfl (mp (v := .int .i64 _) rfl mp0)) rfl) ?_
 refine qes rfl rfl (d_lit (vs := [.agg #[.int .i64 _, .int .i64 _]]) (cs := [.int .i64 _, .int .i64 _]) hS underlying42 sizeOf55 zeroValue55 rfl rfl rfl rfl (fun v hv => by simp only [List.mem_cons, List.not_mem_nil, or_false] at hv; subst hv; rfl) rfl) ?_
 clear hS
 rintro _ w_30 ⟨b76, rfl, hS⟩
 have hF := hS.freeze1
 clear hS
 obtain ⟨I76, hS, hI76, hb76⟩ := hF
 replace h17 := h17.mono hI76
 replace h20 := h20.mono hI76
 replace h23 := h23.mono hI76
 replace h28 := h28.mono hI76
 replace h32 := h32.mono hI76
 replace h35 := h35.mono hI76
 replace h40 := h40.mono hI76
 replace h45 := h45.mono hI76
 replace h49 := h49.mono hI76
 replace h57 := h57.mono hI76
 replace h60 := h60.mono hI76
 have h76 := RFl.ofAt kT ([(4, 6)] : List (Int × Int)) hb76 rfl (by decide)
 refine qes rfl rfl (qi call15 rfl (sameRg1_T [(4, 6)] _ _ _ _ _ _ _ _ hS.imm h28 h76 rfl rfl)) ?_
 rintro _ w_31 ⟨rfl, hE⟩
 replace hS := hS.callE hE
 refine qq hS (g_and rfl rfl (fun _ => rfl)) ?_
 refine qq hS (Qmb rfl) ?_
 refine qqs rfl rfl hS (Qmi rfl) ?_
 refine qqs rfl rfl hS (g_eql rfl rfl) ?_
 refine qq hS (g_and rfl rfl (fun _ => rfl)) ?_
 refine qq hS (Qmb rfl) ?_
 refine qqs rfl rfl hS (Qmi rfl) ?_
 refine qqs rfl rfl hS (g_eql rfl rfl) ?_
 refine qq hS (g_and rfl rfl (fun _ => rfl)) ?_
 refine qq hS (Qmb rfl) ?_
 refine qqs rfl rfl hS (Qmi rfl) ?_
 refine qqs rfl rfl hS (g_eql rfl rfl) ?_
 refine qq hS (g_and rfl rfl (fun _ => rfl)) ?_
 refine qq hS (Qmb rfl) ?_
 refine qqs rfl rfl hS (Qmi rfl) ?_
 refine qqs rfl rfl hS (g_eql rfl rfl) ?_
 refine qq hS (g_and rfl rfl (fun _ => rfl)) ?_
 refine qq hS (Qab rfl) (QoN (wpIn_ret ?_))
 refine ret1 results5 (qd (v := .bool _) rfl) ?_
 exact ⟨_, rfl, hS.nil⟩
end Go.Proofs.YtaklmbhfmpdinaaGreat
