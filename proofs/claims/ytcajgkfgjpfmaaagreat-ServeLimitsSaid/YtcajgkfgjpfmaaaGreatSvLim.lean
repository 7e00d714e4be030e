/- inlaylaw30.ServeLimits: its function answers true. Conditions: arguments are of their kinds. -/
import Derived.Test.YtcajgkfgjpfmaaaGreatSvL
set_option linter.unusedSimpArgs false
set_option linter.unusedVariables false
namespace Go.Proofs.YtcajgkfgjpfmaaaGreat
open Tryz
open Go Go.RowKit Go.Inl
set_option maxRecDepth 20000 in
set_option maxHeartbeats 4000000 in
theorem slimits_c (av al ap ag : Option Addr) (cv cl cp cg : Nat) (V : List Int) (Q : List Q6) (X : List RawL) (Z : List Int) (p0 p1 p2 p3 q0 q1 q2 : Int) (w0 : World) (I0 : Imm) (hI : Sat I0 w0) (hV : RBytes I0 (.slice av V.length cv) V) (hVb : ∀ x ∈ V, 0 ≤ x ∧ x ≤ 255) (hQ : RFl I0 6 q6C (.slice al Q.length cl) Q) (hQw : ∀ q ∈ Q, q.wf) (hX : RRaws I0 (.slice ap X.length cp) X) (hXw : ∀ x ∈ X, x.wf) (hZ : RBytes I0 (.slice ag Z.length cg) Z) (hZb : ∀ x ∈ Z, 0 ≤ x ∧ x ≤ 255) (hp0 : 0 ≤ p0 ∧ p0 ≤ 255) (hp1 : 0 ≤ p1 ∧ p1 ≤ 255) (hp2 : 0 ≤ p2 ∧ p2 ≤ 255) (hp3 : 0 ≤ p3 ∧ p3 ≤ 255) (hq0 : 0 ≤ q0 ∧ q0 ≤ 255) (hq1 : 0 ≤ q1 ∧ q1 ≤ 255) (hq2 : 0 ≤ q2 ∧ q2 ≤ 255) :
 Ctr prog 8 [.agg #[.slice av V.length cv, .slice al Q.length cl, .slice ap X.length cp, .slice ag Z.length cg], .agg #[.int .u8 p0, .int .u8 p1, .int .u8 p2, .int .u8 p3], .agg #[.int .u8 q0, .int .u8 q1, .int .u8 q2]] w0 (fun v w' => ∃ I', v = .bool true ∧ Ext w0 I0 w' I') := by
 refine fn (n := 141) func8 rfl rfl rfl ?_
 have hS := St.start hI
 refine QwR ?_
 refine qe (d_box (cs := [.slice _ _ _, .slice _ _ _, .slice _ _ _, .slice _ _ _]) hS rfl) ?_
 clear hS
 rintro _ w_1 ⟨b3, rfl, hS⟩
 refine qe (d_box (cs := [.int .u8 _, .int .u8 _, .int .u8 _, .int .u8 _]) hS rfl) ?_
 clear hS
 rintro _ w_2 ⟨b4, rfl, hS⟩
 refine qe (d_box (cs := [.int .u8 _, .int .u8 _, .int .u8 _]) hS rfl) ?_
 clear hS
 rintro _ w_3 ⟨b5, rfl, hS⟩
 refine qq hS (Qab rfl) (QoR ?_)
 refine qe (qj call11 rfl (sanity30_c _ _ hS.imm)) ?_
 rintro _ w_4 ⟨I_f, rfl, hE⟩
 replace hS := hS.callE hE
 replace hV := hV.mono hE.ext
 replace hQ := hQ.mono hE.ext
 replace hX := hX.mono hE.ext
 replace hZ := hZ.mono hE.ext
 refine qq hS (Qab rfl) (QoR ?_)
 refine qq hS (g_ldO 2 (vs := [.slice _ _ _, .slice _ _ _, .slice _ _ _, .slice _ _ _]) sizeOf28 isAgg28 rfl rfl rfl rfl) ?_
 refine qe (qj call12 rfl (madeS_c av al ap ag cv cl cp cg V Q X Z _ _ hS.imm hV hVb hQ hQw hX hXw hZ hZb)) ?_
 rintro _ w_5 ⟨I_f, s, A, rfl, hE, hs, hm⟩
 replace hS := hS.callE hE
 replace hV := hV.mono hE.ext
 replace hQ := hQ.mono hE.ext
 replace hX := hX.mono hE.ext
 replace hZ := hZ.mono hE.ext
 have hg0 := hm.good
 have hcc := CacheOk.of_nil hm.cache
 have hb0 := hg0.srvB hcc
 have hvn := hm.g.vn
 have hln := hm.g.ln
 obtain ⟨m, hmm⟩ : ∃ x_, needQ p1 p2 p3 = x_ := ⟨_, rfl⟩
 obtain ⟨n, hn⟩ : ∃ x_, needQ q0 q1 q2 = x_ := ⟨_, rfl⟩
 have hmb := needQ_b hp1 hp2 hp3 hmm
 have hnb := needQ_b hq0 hq1 hq2 hn
 obtain ⟨f, hf⟩ : ∃ x_, versP s p0 = x_ := ⟨_, rfl⟩
 obtain ⟨⟨ms1, ms2⟩, ⟨mu1, mu2⟩, ⟨mr1, mr2⟩, ⟨me1, me2⟩, ⟨mo1, mo2⟩⟩ := hmb
 obtain ⟨⟨ns1, ns2⟩, ⟨nu1, nu2⟩, ⟨nr1, nr2⟩, ⟨ne1, ne2⟩, ⟨no1, no2⟩⟩ := hnb
 have hle := leN_add (m := m) (b := n) ⟨⟨ns1, ns2⟩, ⟨nu1, nu2⟩, ⟨nr1, nr2⟩, ⟨ne1, ne2⟩, ⟨no1, no2⟩⟩
 have hbl := lim_best hg0 hcc hle (f := f)
 have hel := lim_esc hg0 hcc hle (f := f)
 obtain ⟨R1, hR1⟩ : ∃ x_, bestP s f m = x_ := ⟨_, rfl⟩
 obtain ⟨R2, hR2⟩ : ∃ x_, bestP s f (⟨m.s + n.s, m.u + n.u, m.r + n.r, m.e + n.e, m.o + n.o⟩ : NeedL) = x_ := ⟨_, rfl⟩
 obtain ⟨R3, hR3⟩ : ∃ x_, escP s f m = x_ := ⟨_, rfl⟩
 obtain ⟨R4, hR4⟩ : ∃ x_, escP s f (⟨m.s + n.s, m.u + n.u, m.r + n.r, m.e + n.e, m.o + n.o⟩ : NeedL) = x_ := ⟨_, rfl⟩
 rw [hR1, hR2] at hbl
 rw [hR3, hR4] at hel
 have hl1 : R1.e = 0 → 0 < R1.o.way.length := fun h => (hbl h).2.1
 have hl2 : R1.e = 0 → 0 < R2.o.way.length := fun h => (hbl h).2.2.1
 refine qe (qo (cs := [.slice _ _ _, .slice _ _ _, .slice _ _ _, .slice _ _ _, .slice _ _ _]) hS zeroValue38 rfl) ?_
 clear hS
 rintro _ w_6 ⟨b8, rfl, hS⟩
 refine qe (qg 0 hS sizeOf38 rfl rfl rfl (vs := [.slice _ _ _, .slice _ _ _, .slice _ _ _, .slice _ _ _, .slice _ _ _]) rfl rfl rfl (Nat.le_of_ble_eq_true rfl) (cs' := [_, _, _, _, _]) rfl) ?_
 clear hS
 rintro _ w_7 ⟨rfl, hS⟩
 refine QoN (wpIn_seq ?_)
 refine drawA _ [(0, .pure), (1, .held), (2, .pure), (3, .held), (4, .pure), (5, .held), (6, .pure), (8, .held), (10, .held), (11, .pure), (12, .held), (7, .eff), (9, .eff), (13, .eff)] (.cons 16 .bar (.cons 17 .bar (.cons 18 .pure .nil))) mixed (by kernel_rfl) (lays (qR (i := 14) (cs := [.int .i64 _, .int .i64 _, .int .i64 _, .int .i64 _, .int .i64 _]) rfl zeroValue41 rfl) (lays (qR (i := 15) (cs := [.int .i64 _, .int .i64 _, .int .i64 _, .int .i64 _, .int .i64 _]) rfl zeroValue41 rfl) lays0)) hS ?_
 refine oaP rfl rfl (fun x_ => (qA (o' := 1) underlying71 sizeOf5 rfl rfl (by decide) (by decide) rfl)) ?_
 refine oaH rfl rfl (fun x_ => (qf 2 isAgg5 rfl rfl rfl)) ?_
 refine oaP rfl rfl (fun x_ => (qA (o' := 2) underlying71 sizeOf5 rfl rfl (by decide) (by decide) rfl)) ?_
 refine oaH rfl rfl (fun x_ => (qf 2 isAgg5 rfl rfl rfl)) ?_
 refine oaP rfl rfl (fun x_ => (qA (o' := 3) underlying71 sizeOf5 rfl rfl (by decide) (by decide) rfl)) ?_
 refine oaH rfl rfl (fun x_ => (qf 2 isAgg5 rfl rfl rfl)) ?_
 refine oaP rfl rfl (fun x_ => (zd (cs := [.int .u8 p1, .int .u8 p2, .int .u8 p3]) zeroValue29 underlying29 sizeOf5 rfl (fillu3 _ _ _ _ _ _))) ?_
 refine oaH rfl rfl (fun x_ => (g_ldO 1 (vs := [.int .u8 _, .int .u8 _, .int .u8 _]) sizeOf29 isAgg29 rfl rfl rfl rfl)) ?_
 refine oaH rfl rfl (fun x_ => (g_ldO 0 (vs := [.slice _ _ _, .slice _ _ _, .slice _ _ _, .slice _ _ _, .slice _ _ _]) sizeOf38 isAgg38 rfl rfl rfl rfl)) ?_
 refine oaP rfl rfl (fun x_ => (qA (o' := 0) underlying71 sizeOf5 rfl rfl (by decide) (by decide) rfl)) ?_
 refine oaH rfl rfl (fun x_ => (qf 2 isAgg5 rfl rfl rfl)) ?_
 refine oaE rfl rfl (fun x_ T_ w_9 hS => (qj call13 rfl (needR_E p1 p2 p3 m _ _ hS.imm hp1 hp2 hp3 hmm))) ?_
 rintro _ w_10 w_8 ⟨rfl, hE⟩
 refine ⟨_, hE, ?_⟩
 refine oaE rfl rfl (fun x_ T_ w_12 hS => (qj call13 rfl (needR_E q0 q1 q2 n _ _ hS.imm hq0 hq1 hq2 hn))) ?_
 rintro _ w_13 w_11 ⟨rfl, hE⟩
 refine ⟨_, hE, ?_⟩
 refine oaE rfl rfl (fun x_ T_ w_15 hS => (qj call14 rfl (version_E s A p0 f _ _ hS.imm hs hp0 hf))) ?_
 rintro _ w_16 w_14 ⟨rfl, hE⟩
 refine ⟨_, hE, ?_⟩
 refine oaN ?_
 intro bs_ hbs_ w_17 hS
 obtain ⟨b9, b10, rfl⟩ := len2 hbs_
 refine sb rfl (qg 4 hS sizeOf41 rfl rfl rfl (vs := [.int .i64 _, .int .i64 _, .int .i64 _, .int .i64 _, .int .i64 _]) rfl rfl rfl (Nat.le_of_ble_eq_true rfl) (cs' := [_, _, _, _, _]) rfl) ?_
 rintro _ w_18 ⟨rfl, hS⟩
 refine ⟨_, _, hS, ?_⟩
 refine sb rfl (qg 5 hS sizeOf41 rfl rfl rfl (vs := [.int .i64 _, .int .i64 _, .int .i64 _, .int .i64 _, .int .i64 _]) rfl rfl rfl (Nat.le_of_ble_eq_true rfl) (cs' := [_, _, _, _, _]) rfl) ?_
 rintro _ w_19 ⟨rfl, hS⟩
 refine ⟨_, _, hS, ?_⟩
 refine sp rfl (Qai rfl) ?_
 refine sn (thenN ?_)
 refine QwR ?_
 refine qq hS (qb (o' := 0) underlying41 rfl sizeOf3 rfl rfl rfl) ?_
 refine qq hS (qf 4 isAgg3 rfl rfl rfl) ?_
 refine qq hS (qb (o' := 0) underlying41 rfl sizeOf3 rfl rfl rfl) ?_
 refine qq hS (qf 5 isAgg3 rfl rfl rfl) ?_
 refine qq hS (g_add rfl rfl (by omega) (by omega)) ?_
 refine qq hS (qb (o' := 1) underlying41 rfl sizeOf3 rfl rfl rfl) ?_
 refine qq hS (qf 4 isAgg3 rfl rfl rfl) ?_
 refine qq hS (qb (o' := 1) underlying41 rfl sizeOf3 rfl rfl rfl) ?_
 refine qq hS (qf 5 isAgg3 rfl rfl rfl) ?_
 refine qq hS (g_add rfl rfl (by omega) (by omega)) ?_
 refine qq hS (qb (o' := 2) underlying41 rfl sizeOf3 rfl rfl rfl) ?_
 refine qq hS (qf 4 isAgg3 rfl rfl rfl) ?_
 refine qq hS (qb (o' := 2) underlying41 rfl sizeOf3 rfl rfl rfl) ?_
 refine qq hS (qf 5 isAgg3 rfl rfl rfl) ?_
 refine qq hS (g_add rfl rfl (by omega) (by omega)) ?_
 refine qq hS (qb (o' := 3) underlying41 rfl sizeOf3 rfl rfl rfl) ?_
 refine qq hS (qf 4 isAgg3 rfl rfl rfl) ?_
 refine qq hS (qb (o' := 3) underlying41 rfl sizeOf3 rfl rfl rfl) ?_
 refine qq hS (qf 5 isAgg3 rfl rfl rfl) ?_
 refine qq hS (g_add rfl rfl (by omega) (by omega)) ?_
 refine qq hS (qb (o' := 4) underlying41 rfl sizeOf3 rfl rfl rfl) ?_
 refine qq hS (qf 4 isAgg3 rfl rfl rfl) ?_
 refine qq hS (qb (o' := 4) underlying41 rfl sizeOf3 rfl rfl rfl) ?_
 refine qq hS (qf 5 isAgg3 rfl rfl rfl) ?_
 refine qq hS (g_add rfl rfl (by omega) (by omega)) ?_
 refine qq hS (ql (pl := [(0, 1), (1, 1), (2, 1), (3, 1), (4, 1)]) (cs := [.int .i64 _, .int .i64 _, .int .i64 _, .int .i64 _, .int .i64 _]) zeroValue41 underlying41 (fun w => by simp [sizeOf3]) (mp (v := .int .i64 _) rfl (mp (v := .int .i64 _) rfl (mp (v := .int .i64 _) rfl (mp (v := .int .i64 _) rfl (mp (v := .int .i64 _) rfl mp0))))) rfl) ?_
 refine qe (qo (cs := [.int .i64 _, .int .i64 _, .int .i64 _, .int .i64 _, .int .i64 _]) hS zeroValue41 rfl) ?_
 clear hS
 rintro _ w_20 ⟨b12, rfl, hS⟩
 refine qe (qg 0 hS sizeOf41 rfl rfl rfl (vs := [.int .i64 _, .int .i64 _, .int .i64 _, .int .i64 _, .int .i64 _]) rfl rfl rfl (Nat.le_of_ble_eq_true rfl) (cs' := [_, _, _, _, _]) rfl) ?_
 clear hS
 rintro _ w_21 ⟨rfl, hS⟩
 refine QoN (wpIn_seq ?_)
 refine drawA _ [(0, .held), (1, .pure), (2, .held), (4, .held), (5, .pure), (6, .held), (3, .eff), (7, .eff)] (.cons 10 .bar (.cons 11 .bar .nil)) mixed (by kernel_rfl) (lays (qR (i := 8) (cs := [.slice _ _ _, .slice _ _ _, .slice _ _ _, .slice _ _ _, .slice _ _ _, .slice _ _ _, .bool _, .int .i64 _, .int .i64 _, .slice _ _ _, .int .i64 _, .int .i64 _]) rfl zeroValue51 rfl) (lays (qR (i := 9) (cs := [.slice _ _ _, .slice _ _ _, .slice _ _ _, .slice _ _ _, .slice _ _ _, .slice _ _ _, .bool _, .int .i64 _, .int .i64 _, .slice _ _ _, .int .i64 _, .int .i64 _]) rfl zeroValue51 rfl) lays0)) hS ?_
 refine oaH rfl rfl (fun x_ => (g_ldO 1 (vs := [.slice _ _ _, .slice _ _ _, .slice _ _ _, .slice _ _ _, .slice _ _ _]) sizeOf38 isAgg38 rfl rfl rfl rfl)) ?_
 refine oaP rfl rfl (fun x_ => (Qmi rfl)) ?_
 refine oaH rfl rfl (fun x_ => (g_ldO 5 (vs := [.int .i64 _, .int .i64 _, .int .i64 _, .int .i64 _, .int .i64 _]) sizeOf41 isAgg41 rfl rfl rfl rfl)) ?_
 refine oaH rfl rfl (fun x_ => (g_ldO 1 (vs := [.slice _ _ _, .slice _ _ _, .slice _ _ _, .slice _ _ _, .slice _ _ _]) sizeOf38 isAgg38 rfl rfl rfl rfl)) ?_
 refine oaP rfl rfl (fun x_ => (Qmi rfl)) ?_
 refine oaH rfl rfl (fun x_ => (g_ldO 0 (vs := [.int .i64 _, .int .i64 _, .int .i64 _, .int .i64 _, .int .i64 _]) sizeOf41 isAgg41 rfl rfl rfl rfl)) ?_
 refine oaE rfl rfl (fun x_ T_ w_23 hS => (qj call15 rfl (kP s A f m R1 _ _ hS.imm hs hb0 hR1))) ?_
 rintro _ w_24 w_22 ⟨I_f, A1, B1, rfl, hE, hs1, ho1⟩
 refine ⟨_, hE, ?_⟩
 replace hV := hV.mono hE.ext
 replace hQ := hQ.mono hE.ext
 replace hX := hX.mono hE.ext
 replace hZ := hZ.mono hE.ext
 replace hs := hs.mono hE.ext
 refine oaE rfl rfl (fun x_ T_ w_26 hS => (qj call15 rfl (kP s A f (⟨m.s + n.s, m.u + n.u, m.r + n.r, m.e + n.e, m.o + n.o⟩ : NeedL) R2 _ _ hS.imm hs hb0 hR2))) ?_
 rintro _ w_27 w_25 ⟨I_f, A2, B2, rfl, hE, hs2, ho2⟩
 refine ⟨_, hE, ?_⟩
 replace hV := hV.mono hE.ext
 replace hQ := hQ.mono hE.ext
 replace hX := hX.mono hE.ext
 replace hZ := hZ.mono hE.ext
 replace hs := hs.mono hE.ext
 replace hs1 := hs1.mono hE.ext
 replace ho1 := ho1.mono hE.ext
 refine oaN ?_
 intro bs_ hbs_ w_28 hS
 obtain ⟨b13, b14, rfl⟩ := len2 hbs_
 refine sb rfl (qg 7 hS sizeOf51 rfl rfl rfl (vs := [.slice _ _ _, .slice _ _ _, .slice _ _ _, .slice _ _ _, .slice _ _ _, .slice _ _ _, .bool _, .int .i64 _, .int .i64 _, .slice _ _ _, .int .i64 _, .int .i64 _]) rfl rfl rfl (Nat.le_of_ble_eq_true rfl) (cs' := [_, _, _, _, _, _, _, _, _, _, _, _]) rfl) ?_
 rintro _ w_29 ⟨rfl, hS⟩
 refine ⟨_, _, hS, ?_⟩
 refine sb rfl (qg 8 hS sizeOf51 rfl rfl rfl (vs := [.slice _ _ _, .slice _ _ _, .slice _ _ _, .slice _ _ _, .slice _ _ _, .slice _ _ _, .bool _, .int .i64 _, .int .i64 _, .slice _ _ _, .int .i64 _, .int .i64 _]) rfl rfl rfl (Nat.le_of_ble_eq_true rfl) (cs' := [_, _, _, _, _, _, _, _, _, _, _, _]) rfl) ?_
 rintro _ w_30 ⟨rfl, hS⟩
 refine ⟨_, _, hS, ?_⟩
 refine sn (thenN ?_)
 refine wpIn_seq ?_
 refine drawA _ [(0, .held), (1, .pure), (2, .held), (4, .held), (5, .pure), (6, .held), (3, .eff), (7, .eff)] (.cons 10 .bar (.cons 11 .bar .nil)) mixed (by kernel_rfl) (lays (qR (i := 8) (cs := [.slice _ _ _, .slice _ _ _, .slice _ _ _, .slice _ _ _, .slice _ _ _, .slice _ _ _, .bool _, .int .i64 _, .int .i64 _, .slice _ _ _, .int .i64 _, .int .i64 _]) rfl zeroValue51 rfl) (lays (qR (i := 9) (cs := [.slice _ _ _, .slice _ _ _, .slice _ _ _, .slice _ _ _, .slice _ _ _, .slice _ _ _, .bool _, .int .i64 _, .int .i64 _, .slice _ _ _, .int .i64 _, .int .i64 _]) rfl zeroValue51 rfl) lays0)) hS ?_
 refine oaH rfl rfl (fun x_ => (g_ldO 1 (vs := [.slice _ _ _, .slice _ _ _, .slice _ _ _, .slice _ _ _, .slice _ _ _]) sizeOf38 isAgg38 rfl rfl rfl rfl)) ?_
 refine oaP rfl rfl (fun x_ => (Qmi rfl)) ?_
 refine oaH rfl rfl (fun x_ => (g_ldO 5 (vs := [.int .i64 _, .int .i64 _, .int .i64 _, .int .i64 _, .int .i64 _]) sizeOf41 isAgg41 rfl rfl rfl rfl)) ?_
 refine oaH rfl rfl (fun x_ => (g_ldO 1 (vs := [.slice _ _ _, .slice _ _ _, .slice _ _ _, .slice _ _ _, .slice _ _ _]) sizeOf38 isAgg38 rfl rfl rfl rfl)) ?_
 refine oaP rfl rfl (fun x_ => (Qmi rfl)) ?_
 refine oaH rfl rfl (fun x_ => (g_ldO 0 (vs := [.int .i64 _, .int .i64 _, .int .i64 _, .int .i64 _, .int .i64 _]) sizeOf41 isAgg41 rfl rfl rfl rfl)) ?_
 refine oaE rfl rfl (fun x_ T_ w_32 hS => (qj call21 rfl (zJ s A f m R3 _ _ hS.imm hs hb0 hR3))) ?_
 rintro _ w_33 w_31 ⟨I_f, B3, rfl, hE, ho3⟩
 refine ⟨_, hE, ?_⟩
 replace hV := hV.mono hE.ext
 replace hQ := hQ.mono hE.ext
 replace hX := hX.mono hE.ext
 replace hZ := hZ.mono hE.ext
 replace hs := hs.mono hE.ext
 replace hs1 := hs1.mono hE.ext
 replace ho1 := ho1.mono hE.ext
 replace hs2 := hs2.mono hE.ext
 replace ho2 := ho2.mono hE.ext
 refine oaE rfl rfl (fun x_ T_ w_35 hS => (qj call21 rfl (zJ s A f (⟨m.s + n.s, m.u + n.u, m.r + n.r, m.e + n.e, m.o + n.o⟩ : NeedL) R4 _ _ hS.imm hs hb0 hR4))) ?_
 rintro _ w_36 w_34 ⟨I_f, B4, rfl, hE, ho4⟩
 refine ⟨_, hE, ?_⟩
 replace hV := hV.mono hE.ext
 replace hQ := hQ.mono hE.ext
 replace hX := hX.mono hE.ext
 replace hZ := hZ.mono hE.ext
 replace hs := hs.mono hE.ext
 replace hs1 := hs1.mono hE.ext
 replace ho1 := ho1.mono hE.ext
 replace hs2 := hs2.mono hE.ext
 replace ho2 := ho2.mono hE.ext
 replace ho3 := ho3.mono hE.ext
 refine oaN ?_
 intro bs_ hbs_ w_37 hS
 obtain ⟨b15, b16, rfl⟩ := len2 hbs_
 refine sb rfl (qg 9 hS sizeOf51 rfl rfl rfl (vs := [.slice _ _ _, .slice _ _ _, .slice _ _ _, .slice _ _ _, .slice _ _ _, .slice _ _ _, .bool _, .int .i64 _, .int .i64 _, .slice _ _ _, .int .i64 _, .int .i64 _]) rfl rfl rfl (Nat.le_of_ble_eq_true rfl) (cs' := [_, _, _, _, _, _, _, _, _, _, _, _]) rfl) ?_
 rintro _ w_38 ⟨rfl, hS⟩
 refine ⟨_, _, hS, ?_⟩
 refine sb rfl (qg 10 hS sizeOf51 rfl rfl rfl (vs := [.slice _ _ _, .slice _ _ _, .slice _ _ _, .slice _ _ _, .slice _ _ _, .slice _ _ _, .bool _, .int .i64 _, .int .i64 _, .slice _ _ _, .int .i64 _, .int .i64 _]) rfl rfl rfl (Nat.le_of_ble_eq_true rfl) (cs' := [_, _, _, _, _, _, _, _, _, _, _, _]) rfl) ?_
 rintro _ w_39 ⟨rfl, hS⟩
 refine ⟨_, _, hS, ?_⟩
 refine sn (thenN ?_)
 refine wpIn_seq (wpIn_seq ?_)
 refine draw (.cons 0 .pure (.cons 1 .held (.cons 2 .pure (.cons 3 .pure (.cons 4 .pure (.cons 5 .held (.cons 6 .pure (.cons 7 .pure (.cons 8 .pure (.cons 9 .pure (.cons 10 .held (.cons 11 .pure (.cons 12 .pure (.cons 13 .pure (.cons 14 .pure (.cons 15 .pure (.cons 16 .pure (.cons 17 .held (.cons 18 .pure (.cons 19 .pure (.cons 20 .pure (.cons 21 .pure (.cons 22 .pure (.cons 23 .pure (.cons 24 .held (.cons 25 .pure (.cons 26 .pure (.cons 27 .held (.cons 28 .pure (.cons 29 .pure (.cons 30 .pure (.cons 31 .held (.cons 32 .pure (.cons 33 .pure (.cons 34 .held (.cons 35 .pure (.cons 36 .pure (.cons 37 .held (.cons 38 .pure (.cons 39 .pure (.cons 40 .pure (.cons 41 .held (.cons 42 .pure (.cons 43 .pure (.cons 44 .pure .nil))))))))))))))))))))))))))))))))))))))))))))) mixed (by kernel_rfl) hS ?_
 intro w_40 hS
 refine sp rfl (qb (o' := 11) underlying51 rfl sizeOf49 rfl rfl rfl) ?_
 refine sh rfl (qf 7 isAgg49 rfl rfl rfl) ?_
 refine sp rfl (g_eql rfl rfl) ?_
 refine sp rfl (Qmb rfl) ?_
 refine spu rfl rfl rfl (fun hg => (qb (o' := 11) underlying51 rfl sizeOf49 rfl rfl rfl)) ?_
 intro u80 hu80 hn80
 refine shu rfl rfl rfl (fun hg => (qf 8 isAgg49 rfl (hu80 hg) rfl)) ?_
 intro u81 hu81 hn81
 refine spu rfl rfl rfl (fun hg => (g_neq (hu81 hg) rfl)) ?_
 intro u82 hu82 hn82
 refine spu rfl rfl rfl (fun hg => (qK (hu82 hg))) ?_
 intro u83 hu83 hn83
 refine spn (P := prog) rfl rfl (C := _) hu83 hn83 (fun hg => (qb (o' := 5) underlying51 rfl sizeOf48 rfl rfl rfl)) ?_
 intro u84 hu84 hn84
 refine spn (P := prog) rfl rfl (C := _) hu83 hn83 (fun hg => (qb (o' := 5) underlying48 rfl sizeOf31 rfl (hu84 hg) rfl)) ?_
 intro u85 hu85 hn85
 refine shn (P := prog) rfl rfl (C := _) hu83 hn83 (fun hg => (qf 7 isAgg31 rfl (hu85 hg) rfl)) ?_
 intro u86 hu86 hn86
 refine spn (P := prog) rfl rfl (C := _) hu83 hn83 (fun hg => (qs rfl underlying31 ho1.way (hu86 hg))) ?_
 intro u87 hu87 hn87
 refine spn (P := prog) rfl rfl (C := _) hu83 hn83 (fun hg => (g_eql (hu87 hg) rfl)) ?_
 intro u88 hu88 hn88
 refine spu rfl rfl rfl (fun hg => (g_or (hu83 hg) rfl (fun hq => hu88 ⟨hg, hq⟩))) ?_
 intro u89 hu89 hn89
 refine spu rfl rfl rfl (fun hg => (qK (hu89 hg))) ?_
 intro u90 hu90 hn90
 refine spn (P := prog) rfl rfl (C := _) hu90 hn90 (fun hg => (qb (o' := 5) underlying51 rfl sizeOf48 rfl rfl rfl)) ?_
 intro u91 hu91 hn91
 refine spn (P := prog) rfl rfl (C := _) hu90 hn90 (fun hg => (qb (o' := 5) underlying48 rfl sizeOf31 rfl (hu91 hg) rfl)) ?_
 intro u92 hu92 hn92
 refine shn (P := prog) rfl rfl (C := _) hu90 hn90 (fun hg => (qf 8 isAgg31 rfl (hu92 hg) rfl)) ?_
 intro u93 hu93 hn93
 refine spn (P := prog) rfl rfl (C := _) hu90 hn90 (fun hg => (qs rfl underlying31 ho2.way (hu93 hg))) ?_
 intro u94 hu94 hn94
 refine spn (P := prog) rfl rfl (C := _) hu90 hn90 (fun hg => (g_eql (hu94 hg) rfl)) ?_
 intro u95 hu95 hn95
 refine spu rfl rfl rfl (fun hg => (g_or (hu90 hg) rfl (fun hq => hu95 ⟨hg, hq⟩))) ?_
 intro u96 hu96 hn96
 refine spu rfl rfl rfl (fun hg => (qK (hu96 hg))) ?_
 intro u97 hu97 hn97
 refine spn (P := prog) rfl rfl (C := _) hu97 hn97 (fun hg => (qb (o' := 5) underlying51 rfl sizeOf48 rfl rfl rfl)) ?_
 intro u98 hu98 hn98
 refine spn (P := prog) rfl rfl (C := _) hu97 hn97 (fun hg => (qb (o' := 5) underlying48 rfl sizeOf31 rfl (hu98 hg) rfl)) ?_
 intro u99 hu99 hn99
 refine shn (P := prog) rfl rfl (C := _) hu97 hn97 (fun hg => (qf 8 isAgg31 rfl (hu99 hg) rfl)) ?_
 intro u100 hu100 hn100
 refine spn (P := prog) rfl rfl (C := _) hu97 hn97 (fun hg => (qb (o' := 5) underlying51 rfl sizeOf48 rfl rfl rfl)) ?_
 intro u101 hu101 hn101
 refine spn (P := prog) rfl rfl (C := _) hu97 hn97 (fun hg => (qb (o' := 5) underlying48 rfl sizeOf31 rfl (hu101 hg) rfl)) ?_
 intro u102 hu102 hn102
 refine shn (P := prog) rfl rfl (C := _) hu97 hn97 (fun hg => (qf 8 isAgg31 rfl (hu102 hg) rfl)) ?_
 intro u103 hu103 hn103
 refine spn (P := prog) rfl rfl (C := _) hu97 hn97 (fun hg => (qs rfl underlying31 ho2.way (hu103 hg))) ?_
 intro u104 hu104 hn104
 refine spn (P := prog) rfl rfl (C := _) hu97 hn97 (fun hg => (g_sub (hu104 hg) rfl (by have := hl2 (of_decide_eq_true hg.1); have h9 := RSl.le ho2.way; simp only [maxLen] at h9; omega) (by have := hl2 (of_decide_eq_true hg.1); have h9 := RSl.le ho2.way; simp only [maxLen] at h9; omega))) ?_
 intro u105 hu105 hn105
 refine spn (P := prog) rfl rfl (C := _) hu97 hn97 (fun hg => (g_ixI underlying31 sizeOf3 ho2.way (hu100 hg) (hu105 hg) (by have := hl2 (of_decide_eq_true hg.1); omega) (by have := hl2 (of_decide_eq_true hg.1); omega))) ?_
 intro u106 hu106 hn106
 refine shn (P := prog) rfl rfl (C := _) hu97 hn97 (fun hg => (qy isAgg3 (last_at ho2.way (hl2 (of_decide_eq_true hg.1))) (hu106 hg) rfl)) ?_
 intro u107 hu107 hn107
 refine spn (P := prog) rfl rfl (C := _) hu97 hn97 (fun hg => (qb (o' := 5) underlying51 rfl sizeOf48 rfl rfl rfl)) ?_
 intro u108 hu108 hn108
 refine spn (P := prog) rfl rfl (C := _) hu97 hn97 (fun hg => (qb (o' := 5) underlying48 rfl sizeOf31 rfl (hu108 hg) rfl)) ?_
 intro u109 hu109 hn109
 refine shn (P := prog) rfl rfl (C := _) hu97 hn97 (fun hg => (qf 7 isAgg31 rfl (hu109 hg) rfl)) ?_
 intro u110 hu110 hn110
 refine spn (P := prog) rfl rfl (C := _) hu97 hn97 (fun hg => (qb (o' := 5) underlying51 rfl sizeOf48 rfl rfl rfl)) ?_
 intro u111 hu111 hn111
 refine spn (P := prog) rfl rfl (C := _) hu97 hn97 (fun hg => (qb (o' := 5) underlying48 rfl sizeOf31 rfl (hu111 hg) rfl)) ?_
 intro u112 hu112 hn112
 refine shn (P := prog) rfl rfl (C := _) hu97 hn97 (fun hg => (qf 7 isAgg31 rfl (hu112 hg) rfl)) ?_
 intro u113 hu113 hn113
 refine spn (P := prog) rfl rfl (C := _) hu97 hn97 (fun hg => (qs rfl underlying31 ho1.way (hu113 hg))) ?_
 intro u114 hu114 hn114
 refine spn (P := prog) rfl rfl (C := _) hu97 hn97 (fun hg => (g_sub (hu114 hg) rfl (by have := hl1 (of_decide_eq_true hg.1); have h9 := RSl.le ho1.way; simp only [maxLen] at h9; omega) (by have := hl1 (of_decide_eq_true hg.1); have h9 := RSl.le ho1.way; simp only [maxLen] at h9; omega))) ?_
 intro u115 hu115 hn115
 refine spn (P := prog) rfl rfl (C := _) hu97 hn97 (fun hg => (g_ixI underlying31 sizeOf3 ho1.way (hu110 hg) (hu115 hg) (by have := hl1 (of_decide_eq_true hg.1); omega) (by have := hl1 (of_decide_eq_true hg.1); omega))) ?_
 intro u116 hu116 hn116
 refine shn (P := prog) rfl rfl (C := _) hu97 hn97 (fun hg => (qy isAgg3 (last_at ho1.way (hl1 (of_decide_eq_true hg.1))) (hu116 hg) rfl)) ?_
 intro u117 hu117 hn117
 refine spn (P := prog) rfl rfl (C := _) hu97 hn97 (fun hg => (g_lss (hu107 hg) (hu117 hg))) ?_
 intro u118 hu118 hn118
 refine spu rfl rfl rfl (fun hg => (g_or (hu97 hg) rfl (fun hq => hu118 ⟨hg, hq⟩))) ?_
 intro u119 hu119 hn119
 refine sp rfl (g_and rfl rfl (fun hq => hu119 hq)) ?_
 refine sn (thenN ?_)
 refine qk rfl ?_ ?_
 ·
  intro hc120
  clear hu80 hn80 hu81 hn81 hu82 hn82 hu83 hn83 hu84 hn84 hu85 hn85 hu86 hn86 hu87 hn87 hu88 hn88 hu89 hn89 hu90 hn90 hu91 hn91 hu92 hn92 hu93 hn93 hu94 hn94 hu95 hn95 hu96 hn96 hu97 hn97 hu98 hn98 hu99 hn99 hu100 hn100 hu101 hn101 hu102 hn102 hu103 hn103 hu104 hn104 hu105 hn105 hu106 hn106 hu107 hn107 hu108 hn108 hu109 hn109 hu110 hn110 hu111 hn111 hu112 hn112 hu113 hn113 hu114 hn114 hu115 hn115 hu116 hn116 hu117 hn117 hu118 hn118 hu119 hn119
  exfalso
  by_cases h1 : R1.e = 0
  · obtain ⟨h2, h3, h4, h5⟩ := hbl h1
    have h3' := List.length_pos_iff.1 h3
    have h4' := List.length_pos_iff.1 h4
    simp [h1, h2, h3', h4'] at hc120
    omega
  · simp [h1] at hc120
 ·
  intro hc120
  clear hu80 hn80 hu81 hn81 hu82 hn82 hu83 hn83 hu84 hn84 hu85 hn85 hu86 hn86 hu87 hn87 hu88 hn88 hu89 hn89 hu90 hn90 hu91 hn91 hu92 hn92 hu93 hn93 hu94 hn94 hu95 hn95 hu96 hn96 hu97 hn97 hu98 hn98 hu99 hn99 hu100 hn100 hu101 hn101 hu102 hn102 hu103 hn103 hu104 hn104 hu105 hn105 hu106 hn106 hu107 hn107 hu108 hn108 hu109 hn109 hu110 hn110 hu111 hn111 hu112 hn112 hu113 hn113 hu114 hn114 hu115 hn115 hu116 hn116 hu117 hn117 hu118 hn118 hu119 hn119
  refine wpIn_skip (thenN (QwR ?_))
  refine qq hS (qb (o' := 11) underlying51 rfl sizeOf49 rfl rfl rfl) ?_
  refine qq hS (qf 9 isAgg49 rfl rfl rfl) ?_
  refine qq hS (g_neq rfl rfl) ?_
  refine qq hS (Qmb rfl) ?_
  refine qu rfl rfl hS (fun hg => (qb (o' := 11) underlying51 rfl sizeOf49 rfl rfl rfl)) ?_
  intro u125 hu125 hn125
  refine qu rfl rfl hS (fun hg => (qf 10 isAgg49 rfl (hu125 hg) rfl)) ?_
  intro u126 hu126 hn126
  refine qu rfl rfl hS (fun hg => (g_eql (hu126 hg) rfl)) ?_
  intro u127 hu127 hn127
  refine qu rfl rfl hS (fun hg => (qK (hu127 hg))) ?_
  intro u128 hu128 hn128
  refine qn rfl hu128 hn128 hS (fun hg => (qb (o' := 5) underlying51 rfl sizeOf48 rfl rfl rfl)) ?_
  intro u129 hu129 hn129
  refine qn rfl hu128 hn128 hS (fun hg => (qb (o' := 10) underlying48 rfl sizeOf3 rfl (hu129 hg) rfl)) ?_
  intro u130 hu130 hn130
  refine qn rfl hu128 hn128 hS (fun hg => (qf 10 isAgg3 rfl (hu130 hg) rfl)) ?_
  intro u131 hu131 hn131
  refine qn rfl hu128 hn128 hS (fun hg => (qb (o' := 5) underlying51 rfl sizeOf48 rfl rfl rfl)) ?_
  intro u132 hu132 hn132
  refine qn rfl hu128 hn128 hS (fun hg => (qb (o' := 10) underlying48 rfl sizeOf3 rfl (hu132 hg) rfl)) ?_
  intro u133 hu133 hn133
  refine qn rfl hu128 hn128 hS (fun hg => (qf 9 isAgg3 rfl (hu133 hg) rfl)) ?_
  intro u134 hu134 hn134
  refine qn rfl hu128 hn128 hS (fun hg => (g_leq (hu131 hg) (hu134 hg))) ?_
  intro u135 hu135 hn135
  refine qu rfl rfl hS (fun hg => (g_and (hu128 hg) rfl (fun hq => hu135 ⟨hg, hq⟩))) ?_
  intro u136 hu136 hn136
  refine qq hS (g_or rfl rfl (fun hq => hu136 hq)) ?_
  refine qq hS (Qmb rfl) ?_
  refine qu rfl rfl hS (fun hg => (Qmb rfl)) ?_
  intro u139 hu139 hn139
  refine qq hS (g_and rfl rfl (fun hq => hu139 hq)) ?_
  refine qq hS (Qab rfl) (QoN (wpIn_ret ?_))
  refine ret1 results8 (qi (v := .bool _) rfl) ?_
  refine ⟨_, congrArg Value.bool ?_, hS.nil⟩
  by_cases h1 : R3.e = 0
  · obtain ⟨h2, h3⟩ := hel h1
    simp [h1, h2, h3]
  · simp [h1]
end Go.Proofs.YtcajgkfgjpfmaaaGreat
