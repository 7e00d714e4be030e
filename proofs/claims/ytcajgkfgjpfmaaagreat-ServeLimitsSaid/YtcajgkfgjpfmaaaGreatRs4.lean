/- inlayref30: Valid, Add, Withdraw, sameLinks, Same, SameOffer: what they compute. Conditions: good servers where it is said. -/
import Derived.Test.YtcajgkfgjpfmaaaGreatRs2
import Derived.Test.YtcajgkfgjpfmaaaGreatCore32
import Derived.Test.YtcajgkfgjpfmaaaGreatKCut
set_option linter.unusedSimpArgs false
set_option linter.unusedVariables false
namespace Go.Proofs.YtcajgkfgjpfmaaaGreat
open Tryz
open Go Go.RowKit Go.Inl
theorem yF (p : PatL) (ad bd : Option Addr) (m cap mb capb : Nat) (w0 : World) (I0 : Imm) (hI : Sat I0 w0) (hops : ROps I0 (.slice ad m cap) p.ops) (hp : p.wf) (hoq : ROps I0 (.slice bd mb capb) p.ops) :
 Ctr prog 52 [.agg #[.bool p.lifted, .int .i64 p.in_, .int .i64 p.out, .slice ad m cap], .agg #[.bool p.lifted, .int .i64 p.in_, .int .i64 p.out, .slice bd mb capb]] w0 (fun v w' => v = .bool true ∧ Ext w0 I0 w' I0) :=
 sameR_e p p ad bd m cap mb capb true w0 I0 hI hops hp hoq hp (samePR_refl p)
theorem neqLk (k : LnkL) {n : Nat} {σ : Nat → Value} {S : World → Prop} {ty t' : TypeId} {x y : Operand} (hx : ev n σ x = .agg #[.int .i64 k.f, .int .i64 k.t, .int .i64 k.c, .int .i64 k.n.s, .int .i64 k.n.u, .int .i64 k.n.r, .int .i64 k.n.e, .int .i64 k.n.o]) (hy : ev n σ y = .agg #[.int .i64 k.f, .int .i64 k.t, .int .i64 k.c, .int .i64 k.n.s, .int .i64 k.n.u, .int .i64 k.n.r, .int .i64 k.n.e, .int .i64 k.n.o]) : Gives prog (ev n σ) S (.binOp .neq 60 x y t') ty (.bool false) := fun w hw => by
 have hg : (eqGuard .neq 60 x y (.agg #[.int .i64 k.f, .int .i64 k.t, .int .i64 k.c, .int .i64 k.n.s, .int .i64 k.n.u, .int .i64 k.n.r, .int .i64 k.n.e, .int .i64 k.n.o]) (.agg #[.int .i64 k.f, .int .i64 k.t, .int .i64 k.c, .int .i64 k.n.s, .int .i64 k.n.u, .int .i64 k.n.r, .int .i64 k.n.e, .int .i64 k.n.o])).run prog w = .ok () w := by simp [eqGuard, go_sem, eqGuardType60]
 have hb : (binOp .neq 60 (.agg #[.int .i64 k.f, .int .i64 k.t, .int .i64 k.c, .int .i64 k.n.s, .int .i64 k.n.u, .int .i64 k.n.r, .int .i64 k.n.e, .int .i64 k.n.o]) (.agg #[.int .i64 k.f, .int .i64 k.t, .int .i64 k.c, .int .i64 k.n.s, .int .i64 k.n.u, .int .i64 k.n.r, .int .i64 k.n.e, .int .i64 k.n.o])).run prog w = .ok (.bool false) w := by
  simp [go_sem]
 simp only [execOp, hx, hy, Sem.run_bind, hg, Result.andThen_ok, hb]; rfl
theorem sameLinks_c (g : GrL) (a0 a1 d0 d1 : Option Addr) (c0 c1 e0 e1 : Nat) (w0 : World) (I0 : Imm) (hI : Sat I0 w0) (hG : RGr I0 a0 c0 a1 c1 g) (hH : RGr I0 d0 e0 d1 e1 g) :
 Ctr prog 51 [.agg #[.slice a0 g.vs.length c0, .slice a1 g.ls.length c1], .agg #[.slice d0 g.vs.length e0, .slice d1 g.ls.length e1]] w0 (fun v w' => v = .bool true ∧ Ext w0 I0 w' I0) := by
 have hle := RSl.le hG.ls
 simp only [maxLen] at hle
 refine fn (n := 39) func51 rfl rfl rfl ?_
 have hS := St.start hI
 refine QwR ?_
 refine qe (d_box (cs := [.slice _ _ _, .slice _ _ _]) hS rfl) ?_
 clear hS
 rintro _ w_1 ⟨b2, rfl, hS⟩
 refine qe (d_box (cs := [.slice _ _ _, .slice _ _ _]) hS rfl) ?_
 clear hS
 rintro _ w_2 ⟨b3, rfl, hS⟩
 refine qq hS (Qab rfl) (QoN (wpIn_seq (QwR ?_)))
 refine qq hS (qb (o' := 0) underlying34 rfl sizeOf31 rfl rfl rfl) ?_
 refine qq hS (qf 1 isAgg31 rfl rfl rfl) ?_
 refine qq hS (qb (o' := 0) underlying34 rfl sizeOf31 rfl rfl rfl) ?_
 refine qq hS (qf 0 isAgg31 rfl rfl rfl) ?_
 refine qe (qj call35 rfl (zP a0 d0 c0 e0 g.vs g.vs _ _ hS.imm hG.vs hH.vs)) ?_
 rintro _ w_3 ⟨rfl, hE⟩
 replace hS := hS.callE hE
 refine qq hS (g_not rfl) ?_
 refine qq hS (Qmb rfl) ?_
 refine qu rfl rfl hS (fun hg => (qb (o' := 1) underlying34 rfl sizeOf32 rfl rfl rfl)) ?_
 intro u13 hu13 hn13
 refine qu rfl rfl hS (fun hg => (qf 1 isAgg32 rfl (hu13 hg) rfl)) ?_
 intro u14 hu14 hn14
 refine qu rfl rfl hS (fun hg => (qs rfl underlying32 hG.ls (hu14 hg))) ?_
 intro u15 hu15 hn15
 refine qu rfl rfl hS (fun hg => (qb (o' := 1) underlying34 rfl sizeOf32 rfl rfl rfl)) ?_
 intro u16 hu16 hn16
 refine qu rfl rfl hS (fun hg => (qf 0 isAgg32 rfl (hu16 hg) rfl)) ?_
 intro u17 hu17 hn17
 refine qu rfl rfl hS (fun hg => (qs rfl underlying32 hH.ls (hu17 hg))) ?_
 intro u18 hu18 hn18
 refine qu rfl rfl hS (fun hg => (g_neq (hu15 hg) (hu18 hg))) ?_
 intro u19 hu19 hn19
 refine qq hS (g_or rfl rfl (fun hq => hu19 hq)) ?_
 refine QoN ?_
 refine qk rfl ?_ ?_
 ·
  intro hc20
  clear hu13 hn13 hu14 hn14 hu15 hn15 hu16 hn16 hu17 hn17 hu18 hn18 hu19 hn19
  exfalso
  simp at hc20
 ·
  intro hc20
  clear hu13 hn13 hu14 hn14 hu15 hn15 hu16 hn16 hu17 hn17 hu18 hn18 hu19 hn19
  refine wpIn_skip (thenN (wpIn_seq (QwR (qq hS (Qai rfl) (QoN ?_)))))
  refine wpIn_block ?_
  refine loop (fun (i : Nat) σ w => okS σ [(2, .pointer (some ⟨b2, 0, none⟩)), (3, .pointer (some ⟨b3, 0, none⟩)), (5, .int .i64 i)] ∧ St [] w0 I0 I0 w [.cel b3 34 [.slice d0 g.vs.length e0, .slice d1 g.ls.length e1], .cel b2 34 [.slice a0 g.vs.length c0, .slice a1 g.ls.length c1]] ∧ i ≤ g.ls.length) (fun i => g.ls.length - i) (0) ?_ ?_
  ·
   exact ⟨⟨rfl, rfl, rfl, trivial⟩, hS.sel [true, true], by omega⟩
  ·
   rintro i σ w_l ⟨hs, hS, hi0⟩
   rw [← qr hs]; clear hs
   refine wpIn_seq (QwR (qq hS (Qmi rfl) ?_))
   refine qq hS (qb (o' := 1) underlying34 rfl sizeOf32 rfl rfl rfl) ?_
   refine qq hS (qf 1 isAgg32 rfl rfl rfl) ?_
   refine qq hS (qs rfl underlying32 hG.ls rfl) ?_
   refine qq hS (g_lss rfl rfl) ?_
   refine QoN ?_
   refine qk rfl ?_ ?_
   ·
    intro hc25
    try simp only [zA, zO, zN, zI, zF, zM, zT, zU] at hc25
    obtain ⟨k, hki⟩ : ∃ x, g.ls[i]? = some x := ⟨_, List.getElem?_eq_getElem (by omega)⟩
    have hxA := hG.ls.at hki
    have hyA := hH.ls.at hki
    refine wpIn_skip (thenN (wpIn_seq (wpIn_block (wpIn_seq ?_))))
    refine draw (.cons 0 .pure (.cons 1 .held (.cons 2 .pure (.cons 3 .pure (.cons 4 .held (.cons 5 .pure (.cons 6 .held (.cons 7 .pure (.cons 8 .pure (.cons 9 .held (.cons 10 .pure .nil))))))))))) mixed (by kernel_rfl) hS ?_
    intro w_4 hS
    refine sp rfl (qb (o' := 1) underlying34 rfl sizeOf32 rfl rfl rfl) ?_
    refine sh rfl (qf 1 isAgg32 rfl rfl rfl) ?_
    refine sp rfl (Qmi rfl) ?_
    refine sp rfl (g_ixI underlying32 sizeOf60 hG.ls rfl rfl (by omega) (by omega)) ?_
    refine sh rfl (g_ldE (us := [.int .i64 _, .int .i64 _, .int .i64 _, .int .i64 _, .int .i64 _, .int .i64 _, .int .i64 _, .int .i64 _]) sizeOf60 isAgg60 hxA rfl rfl rfl) ?_
    refine sp rfl (qb (o' := 1) underlying34 rfl sizeOf32 rfl rfl rfl) ?_
    refine sh rfl (qf 0 isAgg32 rfl rfl rfl) ?_
    refine sp rfl (Qmi rfl) ?_
    refine sp rfl (g_ixI underlying32 sizeOf60 hH.ls rfl rfl (by omega) (by omega)) ?_
    refine sh rfl (g_ldE (us := [.int .i64 _, .int .i64 _, .int .i64 _, .int .i64 _, .int .i64 _, .int .i64 _, .int .i64 _, .int .i64 _]) sizeOf60 isAgg60 hyA rfl rfl rfl) ?_
    refine sp rfl (neqLk k rfl rfl) ?_
    refine sn (thenN ?_)
    refine kK (rfl) ?_
    refine wpIn_skip (blkN (thenN (reg (qq hS (Qmi rfl) ?_))))
    refine qq hS (g_add rfl rfl (by omega) (by omega)) ?_
    refine qq hS (Qai rfl) ?_
    exact ⟨i + 1, _, rfl, ⟨⟨rfl, rfl, rfl, trivial⟩, hS.sel [true, true], by omega⟩, by omega⟩
   ·
    intro hc25
    try simp only [zA, zO, zN, zI, zF, zM, zT, zU] at hc25
    obtain rfl : i = g.ls.length := by omega
    refine wpIn_exit ?_
    refine thenE (thenE (blkE ?_))
    refine thenN (QwR (qq hS (Qab rfl) (QoN (wpIn_ret ?_))))
    refine ret1 results51 (qi (v := .bool _) rfl) ?_
    exact ⟨rfl, Ext.forget hS.nil⟩
set_option maxHeartbeats 2000000 in
theorem sameS_c (s : SrvL) (A D : SrvA) (w0 : World) (I0 : Imm) (hI : Sat I0 w0) (hs : RSrv I0 A s) (ht : RSrv I0 D s) (hpw : ∀ p ∈ s.ps, p.wf) (hcw : ∀ d ∈ s.cache, d.p.wf) :
 Ctr prog 20 [.agg #[.slice A.a0 s.g.vs.length A.c0, .slice A.a1 s.g.ls.length A.c1, .slice A.a2 s.ps.length A.c2, .slice A.a3 s.gone.length A.c3, .slice A.a4 s.cache.length A.c4], .agg #[.slice D.a0 s.g.vs.length D.c0, .slice D.a1 s.g.ls.length D.c1, .slice D.a2 s.ps.length D.c2, .slice D.a3 s.gone.length D.c3, .slice D.a4 s.cache.length D.c4]] w0 (fun v w' => v = .bool true ∧ Ext w0 I0 w' I0) := by
 have hle := RSl.le hs.ps
 have hlc := RSl.le hs.cache
 simp only [maxLen] at hle hlc
 refine fn (n := 95) func20 rfl rfl rfl ?_
 have hS := St.start hI
 refine QwR ?_
 refine qe (d_box (cs := [.slice _ _ _, .slice _ _ _, .slice _ _ _, .slice _ _ _, .slice _ _ _]) hS rfl) ?_
 clear hS
 rintro _ w_1 ⟨b2, rfl, hS⟩
 refine qe (d_box (cs := [.slice _ _ _, .slice _ _ _, .slice _ _ _, .slice _ _ _, .slice _ _ _]) hS rfl) ?_
 clear hS
 rintro _ w_2 ⟨b3, rfl, hS⟩
 refine qq hS (Qab rfl) (QoN (wpIn_seq (QwR ?_)))
 refine qq hS (qb (o' := 0) underlying38 rfl sizeOf34 rfl rfl rfl) ?_
 refine qq hS (g_ldO 1 (vs := [.slice _ _ _, .slice _ _ _]) sizeOf34 isAgg34 rfl rfl rfl rfl) ?_
 refine qq hS (qb (o' := 0) underlying38 rfl sizeOf34 rfl rfl rfl) ?_
 refine qq hS (g_ldO 0 (vs := [.slice _ _ _, .slice _ _ _]) sizeOf34 isAgg34 rfl rfl rfl rfl) ?_
 refine qe (qj call51 rfl (sameLinks_c s.g A.a0 A.a1 D.a0 D.a1 A.c0 A.c1 D.c0 D.c1 _ _ hS.imm hs.g ht.g)) ?_
 rintro _ w_3 ⟨rfl, hE⟩
 replace hS := hS.callE hE
 refine qq hS (g_not rfl) ?_
 refine qq hS (Qmb rfl) ?_
 refine qu rfl rfl hS (fun hg => (qb (o' := 3) underlying38 rfl sizeOf31 rfl rfl rfl)) ?_
 intro u14 hu14 hn14
 refine qu rfl rfl hS (fun hg => (qf 1 isAgg31 rfl (hu14 hg) rfl)) ?_
 intro u15 hu15 hn15
 refine qu rfl rfl hS (fun hg => (qb (o' := 3) underlying38 rfl sizeOf31 rfl rfl rfl)) ?_
 intro u16 hu16 hn16
 refine qu rfl rfl hS (fun hg => (qf 0 isAgg31 rfl (hu16 hg) rfl)) ?_
 intro u17 hu17 hn17
 refine cvu rfl rfl hS (fun hg => (qj call35 (ml (hu15 hg) (ml (hu17 hg) ml0)) (zP A.a3 D.a3 A.c3 D.c3 s.gone s.gone _ _ hS.imm hs.gone ht.gone))) ?_
 intro w_5 u18 hS hu18 hn18
 refine qu rfl rfl hS (fun hg => (g_not (hu18 hg))) ?_
 intro u19 hu19 hn19
 refine qq hS (g_or rfl rfl (fun hq => hu19 hq)) ?_
 refine qq hS (Qmb rfl) ?_
 refine qu rfl rfl hS (fun hg => (qb (o' := 2) underlying38 rfl sizeOf35 rfl rfl rfl)) ?_
 intro u22 hu22 hn22
 refine qu rfl rfl hS (fun hg => (qf 1 isAgg35 rfl (hu22 hg) rfl)) ?_
 intro u23 hu23 hn23
 refine qu rfl rfl hS (fun hg => (qs rfl underlying35 hs.ps (hu23 hg))) ?_
 intro u24 hu24 hn24
 refine qu rfl rfl hS (fun hg => (qb (o' := 2) underlying38 rfl sizeOf35 rfl rfl rfl)) ?_
 intro u25 hu25 hn25
 refine qu rfl rfl hS (fun hg => (qf 0 isAgg35 rfl (hu25 hg) rfl)) ?_
 intro u26 hu26 hn26
 refine qu rfl rfl hS (fun hg => (qs rfl underlying35 ht.ps (hu26 hg))) ?_
 intro u27 hu27 hn27
 refine qu rfl rfl hS (fun hg => (g_neq (hu24 hg) (hu27 hg))) ?_
 intro u28 hu28 hn28
 refine qq hS (g_or rfl rfl (fun hq => hu28 hq)) ?_
 refine qq hS (Qmb rfl) ?_
 refine qu rfl rfl hS (fun hg => (qb (o' := 4) underlying38 rfl sizeOf36 rfl rfl rfl)) ?_
 intro u31 hu31 hn31
 refine qu rfl rfl hS (fun hg => (qf 1 isAgg36 rfl (hu31 hg) rfl)) ?_
 intro u32 hu32 hn32
 refine qu rfl rfl hS (fun hg => (qs rfl underlying36 hs.cache (hu32 hg))) ?_
 intro u33 hu33 hn33
 refine qu rfl rfl hS (fun hg => (qb (o' := 4) underlying38 rfl sizeOf36 rfl rfl rfl)) ?_
 intro u34 hu34 hn34
 refine qu rfl rfl hS (fun hg => (qf 0 isAgg36 rfl (hu34 hg) rfl)) ?_
 intro u35 hu35 hn35
 refine qu rfl rfl hS (fun hg => (qs rfl underlying36 ht.cache (hu35 hg))) ?_
 intro u36 hu36 hn36
 refine qu rfl rfl hS (fun hg => (g_neq (hu33 hg) (hu36 hg))) ?_
 intro u37 hu37 hn37
 refine qq hS (g_or rfl rfl (fun hq => hu37 hq)) ?_
 refine QoN ?_
 refine qk rfl ?_ ?_
 ·
  intro hc38
  clear hu14 hn14 hu15 hn15 hu16 hn16 hu17 hn17 hu18 hn18 hu19 hn19 hu22 hn22 hu23 hn23 hu24 hn24 hu25 hn25 hu26 hn26 hu27 hn27 hu28 hn28 hu31 hn31 hu32 hn32 hu33 hn33 hu34 hn34 hu35 hn35 hu36 hn36 hu37 hn37
  exfalso
  simp at hc38
 ·
  intro hc38
  clear hu14 hn14 hu15 hn15 hu16 hn16 hu17 hn17 hu18 hn18 hu19 hn19 hu22 hn22 hu23 hn23 hu24 hn24 hu25 hn25 hu26 hn26 hu27 hn27 hu28 hn28 hu31 hn31 hu32 hn32 hu33 hn33 hu34 hn34 hu35 hn35 hu36 hn36 hu37 hn37
  refine wpIn_skip (thenN (wpIn_seq (QwR (qq hS (Qai rfl) (QoN ?_)))))
  refine wpIn_block ?_
  refine loop (fun (i : Nat) σ w => okS σ [(2, .pointer (some ⟨b2, 0, none⟩)), (3, .pointer (some ⟨b3, 0, none⟩)), (5, .int .i64 i)] ∧ St [] w0 I0 I0 w [.cel b3 38 [.slice D.a0 s.g.vs.length D.c0, .slice D.a1 s.g.ls.length D.c1, .slice D.a2 s.ps.length D.c2, .slice D.a3 s.gone.length D.c3, .slice D.a4 s.cache.length D.c4], .cel b2 38 [.slice A.a0 s.g.vs.length A.c0, .slice A.a1 s.g.ls.length A.c1, .slice A.a2 s.ps.length A.c2, .slice A.a3 s.gone.length A.c3, .slice A.a4 s.cache.length A.c4]] ∧ i ≤ s.ps.length) (fun i => s.ps.length - i) (0) ?_ ?_
  ·
   exact ⟨⟨rfl, rfl, rfl, trivial⟩, hS.sel [true, true], by omega⟩
  ·
   rintro i σ w_l ⟨hs, hS, hi0⟩
   rw [← qr hs]; clear hs
   refine wpIn_seq (QwR (qq hS (Qmi rfl) ?_))
   refine qq hS (qb (o' := 2) underlying38 rfl sizeOf35 rfl rfl rfl) ?_
   refine qq hS (qf 1 isAgg35 rfl rfl rfl) ?_
   refine qq hS (qs rfl underlying35 hs.ps rfl) ?_
   refine qq hS (g_lss rfl rfl) ?_
   refine QoN ?_
   refine qk rfl ?_ ?_
   ·
    intro hc43
    try simp only [zA, zO, zN, zI, zF, zM, zT, zU] at hc43
    obtain ⟨p, hpi⟩ : ∃ p, s.ps[i]? = some p := ⟨_, List.getElem?_eq_getElem (by omega)⟩
    obtain ⟨csp, hclp, hpA, hpc⟩ := RSl.at hs.ps hpi
    obtain ⟨pa, pm, pc, rfl, hpo⟩ := hpc
    obtain ⟨csq, hclq, hqA, hqc⟩ := RSl.at ht.ps hpi
    obtain ⟨qa, qm, qc, rfl, hqo⟩ := hqc
    refine wpIn_skip (thenN (wpIn_seq (wpIn_block (wpIn_seq ?_))))
    refine draw (.cons 0 .pure (.cons 1 .held (.cons 2 .pure (.cons 3 .pure (.cons 4 .held (.cons 5 .pure (.cons 6 .held (.cons 7 .pure (.cons 8 .pure (.cons 9 .held (.cons 10 .eff (.cons 11 .pure .nil)))))))))))) mixed (by kernel_rfl) hS ?_
    intro w_6 hS
    refine sp rfl (qb (o' := 2) underlying38 rfl sizeOf35 rfl rfl rfl) ?_
    refine sh rfl (qf 1 isAgg35 rfl rfl rfl) ?_
    refine sp rfl (Qmi rfl) ?_
    refine sp rfl (g_ixI underlying35 sizeOf46 hs.ps rfl rfl (by omega) (by omega)) ?_
    refine sh rfl (g_ldE (us := [.bool _, .int .i64 _, .int .i64 _, .slice _ _ _]) sizeOf46 isAgg46 hpA rfl rfl rfl) ?_
    refine sp rfl (qb (o' := 2) underlying38 rfl sizeOf35 rfl rfl rfl) ?_
    refine sh rfl (qf 0 isAgg35 rfl rfl rfl) ?_
    refine sp rfl (Qmi rfl) ?_
    refine sp rfl (g_ixI underlying35 sizeOf46 ht.ps rfl rfl (by omega) (by omega)) ?_
    refine sh rfl (g_ldE (us := [.bool _, .int .i64 _, .int .i64 _, .slice _ _ _]) sizeOf46 isAgg46 hqA rfl rfl rfl) ?_
    have hS0 := hS
    refine se rfl (qj call52 rfl (yF p pa qa pm pc qm qc _ _ hS.imm hpo (hpw p (List.mem_of_getElem? hpi)) hqo)) ?_
    rintro _ w_7 ⟨rfl, hE⟩
    replace hS := hS.call hE
    refine ⟨_, _, hS0.le hE.ext (List.Sublist.refl _), hS, ?_⟩
    refine sp rfl (g_not rfl) ?_
    refine sn (thenN ?_)
    refine kK (rfl) ?_
    refine wpIn_skip (blkN (thenN (reg (qq hS (Qmi rfl) ?_))))
    refine qq hS (g_add rfl rfl (by omega) (by omega)) ?_
    refine qq hS (Qai rfl) ?_
    exact ⟨i + 1, _, rfl, ⟨⟨rfl, rfl, rfl, trivial⟩, hS.sel [true, true], by omega⟩, by omega⟩
   ·
    intro hc43
    try simp only [zA, zO, zN, zI, zF, zM, zT, zU] at hc43
    obtain rfl : i = s.ps.length := by omega
    refine wpIn_exit ?_
    refine thenE (thenE (blkE ?_))
    refine thenN (wpIn_seq (QwR (qq hS (Qai rfl) (QoN (wpIn_block ?_)))))
    refine loop (fun (i : Nat) σ w => okS σ [(2, .pointer (some ⟨b2, 0, none⟩)), (3, .pointer (some ⟨b3, 0, none⟩)), (6, .int .i64 i)] ∧ St [] w0 I0 I0 w [.cel b3 38 [.slice D.a0 s.g.vs.length D.c0, .slice D.a1 s.g.ls.length D.c1, .slice D.a2 s.ps.length D.c2, .slice D.a3 s.gone.length D.c3, .slice D.a4 s.cache.length D.c4], .cel b2 38 [.slice A.a0 s.g.vs.length A.c0, .slice A.a1 s.g.ls.length A.c1, .slice A.a2 s.ps.length A.c2, .slice A.a3 s.gone.length A.c3, .slice A.a4 s.cache.length A.c4]] ∧ i ≤ s.cache.length) (fun i => s.cache.length - i) (0) ?_ ?_
    ·
     exact ⟨⟨rfl, rfl, rfl, trivial⟩, hS.sel [true, true], by omega⟩
    ·
     rintro i σ w_l ⟨hs, hS, hi0⟩
     rw [← qr hs]; clear hs
     refine wpIn_seq (QwR (qq hS (Qmi rfl) ?_))
     refine qq hS (qb (o' := 4) underlying38 rfl sizeOf36 rfl rfl rfl) ?_
     refine qq hS (qf 1 isAgg36 rfl rfl rfl) ?_
     refine qq hS (qs rfl underlying36 hs.cache rfl) ?_
     refine qq hS (g_lss rfl rfl) ?_
     refine QoN ?_
     refine qk rfl ?_ ?_
     ·
      intro hc62
      try simp only [zA, zO, zN, zI, zF, zM, zT, zU] at hc62
      obtain ⟨d, hdi⟩ : ∃ x, s.cache[i]? = some x := ⟨_, List.getElem?_eq_getElem (by omega)⟩
      obtain ⟨csd, hcld, hdA, hcd⟩ := RSl.at hs.cache hdi
      obtain ⟨ad, cd, pd, md, qd, rfl, hld, hod⟩ := hcd
      obtain ⟨cse, hcle, heA, hce⟩ := RSl.at ht.cache hdi
      obtain ⟨ae, ce, pe, me, qe, rfl, hle_, hoe⟩ := hce
      refine wpIn_skip (thenN (wpIn_seq (wpIn_block (wpIn_seq ?_))))
      refine draw (.cons 0 .pure (.cons 1 .held (.cons 2 .pure (.cons 3 .pure (.cons 4 .pure (.cons 5 .held (.cons 6 .pure (.cons 7 .held (.cons 8 .pure (.cons 9 .pure (.cons 10 .pure (.cons 11 .held (.cons 12 .eff (.cons 13 .pure (.cons 14 .pure (.cons 15 .pure (.cons 16 .held (.cons 17 .pure (.cons 18 .pure (.cons 19 .pure (.cons 20 .held (.cons 21 .pure (.cons 22 .held (.cons 23 .pure (.cons 24 .pure (.cons 25 .pure (.cons 26 .held (.cons 27 .eff (.cons 28 .pure (.cons 29 .pure .nil)))))))))))))))))))))))))))))) mixed (by kernel_rfl) hS ?_
      intro w_8 hS
      refine sp rfl (qb (o' := 4) underlying38 rfl sizeOf36 rfl rfl rfl) ?_
      refine sh rfl (qf 1 isAgg36 rfl rfl rfl) ?_
      refine sp rfl (Qmi rfl) ?_
      refine sp rfl (g_ixI underlying36 sizeOf114 hs.cache rfl rfl (by omega) (by omega)) ?_
      refine sp rfl (qH (c' := 0) underlying114 rfl sizeOf31 rfl rfl rfl) ?_
      refine sh rfl (qy isAgg31 hdA rfl rfl) ?_
      refine sp rfl (qb (o' := 4) underlying38 rfl sizeOf36 rfl rfl rfl) ?_
      refine sh rfl (qf 0 isAgg36 rfl rfl rfl) ?_
      refine sp rfl (Qmi rfl) ?_
      refine sp rfl (g_ixI underlying36 sizeOf114 ht.cache rfl rfl (by omega) (by omega)) ?_
      refine sp rfl (qH (c' := 0) underlying114 rfl sizeOf31 rfl rfl rfl) ?_
      refine sh rfl (qy isAgg31 heA rfl rfl) ?_
      have hS0 := hS
      refine se rfl (qj call35 rfl (zP ad ae cd ce d.way d.way _ _ hS.imm hld hle_)) ?_
      rintro _ w_9 ⟨rfl, hE⟩
      replace hS := hS.call hE
      refine ⟨_, _, hS0.le hE.ext (List.Sublist.refl _), hS, ?_⟩
      refine sp rfl (g_not rfl) ?_
      refine sp rfl (Qmb rfl) ?_
      refine spu rfl rfl rfl (fun hg => (qb (o' := 4) underlying38 rfl sizeOf36 rfl rfl rfl)) ?_
      intro u80 hu80 hn80
      refine shu rfl rfl rfl (fun hg => (qf 1 isAgg36 rfl (hu80 hg) rfl)) ?_
      intro u81 hu81 hn81
      refine spu rfl rfl rfl (fun hg => (Qmi rfl)) ?_
      intro u82 hu82 hn82
      refine spu rfl rfl rfl (fun hg => (g_ixI underlying36 sizeOf114 hs.cache (hu81 hg) (hu82 hg) (by omega) (by omega))) ?_
      intro u83 hu83 hn83
      refine spu rfl rfl rfl (fun hg => (qH (c' := 1) underlying114 rfl sizeOf46 rfl (hu83 hg) rfl)) ?_
      intro u84 hu84 hn84
      refine shu rfl rfl rfl (fun hg => (g_ldE (us := [.bool _, .int .i64 _, .int .i64 _, .slice _ _ _]) sizeOf46 isAgg46 hdA (hu84 hg) rfl rfl)) ?_
      intro u85 hu85 hn85
      refine spu rfl rfl rfl (fun hg => (qb (o' := 4) underlying38 rfl sizeOf36 rfl rfl rfl)) ?_
      intro u86 hu86 hn86
      refine shu rfl rfl rfl (fun hg => (qf 0 isAgg36 rfl (hu86 hg) rfl)) ?_
      intro u87 hu87 hn87
      refine spu rfl rfl rfl (fun hg => (Qmi rfl)) ?_
      intro u88 hu88 hn88
      refine spu rfl rfl rfl (fun hg => (g_ixI underlying36 sizeOf114 ht.cache (hu87 hg) (hu88 hg) (by omega) (by omega))) ?_
      intro u89 hu89 hn89
      refine spu rfl rfl rfl (fun hg => (qH (c' := 1) underlying114 rfl sizeOf46 rfl (hu89 hg) rfl)) ?_
      intro u90 hu90 hn90
      refine shu rfl rfl rfl (fun hg => (g_ldE (us := [.bool _, .int .i64 _, .int .i64 _, .slice _ _ _]) sizeOf46 isAgg46 heA (hu90 hg) rfl rfl)) ?_
      intro u91 hu91 hn91
      refine scu rfl rfl rfl hS (fun hg => (qj call52 (ml (hu85 hg) (ml (hu91 hg) ml0)) (yF d.p pd pe md qd me qe _ _ hS.imm hod (hcw d (List.mem_of_getElem? hdi)) hoe))) ?_
      intro w_11 u92 hS hu92 hn92
      refine spu rfl rfl rfl (fun hg => (g_not (hu92 hg))) ?_
      intro u93 hu93 hn93
      refine sp rfl (g_or rfl rfl (fun hq => hu93 hq)) ?_
      refine sn (thenN ?_)
      refine qk rfl ?_ ?_
      ·
       intro hc94
       clear hu80 hn80 hu81 hn81 hu82 hn82 hu83 hn83 hu84 hn84 hu85 hn85 hu86 hn86 hu87 hn87 hu88 hn88 hu89 hn89 hu90 hn90 hu91 hn91 hu92 hn92 hu93 hn93
       exfalso
       simp at hc94
      ·
       intro hc94
       clear hu80 hn80 hu81 hn81 hu82 hn82 hu83 hn83 hu84 hn84 hu85 hn85 hu86 hn86 hu87 hn87 hu88 hn88 hu89 hn89 hu90 hn90 hu91 hn91 hu92 hn92 hu93 hn93
       refine wpIn_skip (blkN (thenN (reg (qq hS (Qmi rfl) ?_))))
       refine qq hS (g_add rfl rfl (by omega) (by omega)) ?_
       refine qq hS (Qai rfl) ?_
       exact ⟨i + 1, _, rfl, ⟨⟨rfl, rfl, rfl, trivial⟩, hS.sel [true, true], by omega⟩, by omega⟩
     ·
      intro hc62
      try simp only [zA, zO, zN, zI, zF, zM, zT, zU] at hc62
      obtain rfl : i = s.cache.length := by omega
      refine wpIn_exit ?_
      refine thenE (thenE (blkE ?_))
      refine thenN (QwR (qq hS (Qab rfl) (QoN (wpIn_ret ?_))))
      refine ret1 results20 (qi (v := .bool _) rfl) ?_
      exact ⟨rfl, Ext.forget hS.nil⟩
theorem sameO_c (o : OffL) (B D : OffA) (w0 : World) (I0 : Imm) (hI : Sat I0 w0) (hs : ROff I0 B o) (ht : ROff I0 D o) (hw : o.p.wf) :
 Ctr prog 36 [.agg #[.slice B.a o.way.length B.c, .bool o.p.lifted, .int .i64 o.p.in_, .int .i64 o.p.out, .slice B.ap B.m B.cp, .int .i64 o.c], .agg #[.slice D.a o.way.length D.c, .bool o.p.lifted, .int .i64 o.p.in_, .int .i64 o.p.out, .slice D.ap D.m D.cp, .int .i64 o.c]] w0 (fun v w' => v = .bool true ∧ Ext w0 I0 w' I0) := by
 refine fn (n := 24) func36 rfl rfl rfl ?_
 have hS := St.start hI
 refine QwR ?_
 refine qe (d_box (cs := [.slice _ _ _, .bool _, .int .i64 _, .int .i64 _, .slice _ _ _, .int .i64 _]) hS rfl) ?_
 clear hS
 rintro _ w_1 ⟨b2, rfl, hS⟩
 refine qe (d_box (cs := [.slice _ _ _, .bool _, .int .i64 _, .int .i64 _, .slice _ _ _, .int .i64 _]) hS rfl) ?_
 clear hS
 rintro _ w_2 ⟨b3, rfl, hS⟩
 refine qq hS (Qab rfl) (QoR ?_)
 refine qq hS (qb (o' := 0) underlying48 rfl sizeOf31 rfl rfl rfl) ?_
 refine qq hS (qf 1 isAgg31 rfl rfl rfl) ?_
 refine qq hS (qb (o' := 0) underlying48 rfl sizeOf31 rfl rfl rfl) ?_
 refine qq hS (qf 0 isAgg31 rfl rfl rfl) ?_
 refine qe (qj call35 rfl (zP B.a D.a B.c D.c o.way o.way _ _ hS.imm hs.way ht.way)) ?_
 rintro _ w_3 ⟨rfl, hE⟩
 replace hS := hS.callE hE
 refine qq hS (Qmb rfl) ?_
 refine qu rfl rfl hS (fun hg => (qb (o' := 5) underlying48 rfl sizeOf3 rfl rfl rfl)) ?_
 intro u11 hu11 hn11
 refine qu rfl rfl hS (fun hg => (qf 1 isAgg3 rfl (hu11 hg) rfl)) ?_
 intro u12 hu12 hn12
 refine qu rfl rfl hS (fun hg => (qb (o' := 5) underlying48 rfl sizeOf3 rfl rfl rfl)) ?_
 intro u13 hu13 hn13
 refine qu rfl rfl hS (fun hg => (qf 0 isAgg3 rfl (hu13 hg) rfl)) ?_
 intro u14 hu14 hn14
 refine qu rfl rfl hS (fun hg => (g_eql (hu12 hg) (hu14 hg))) ?_
 intro u15 hu15 hn15
 refine qq hS (g_and rfl rfl (fun hq => hu15 hq)) ?_
 refine qq hS (Qmb rfl) ?_
 refine qu rfl rfl hS (fun hg => (qb (o' := 1) underlying48 rfl sizeOf46 rfl rfl rfl)) ?_
 intro u18 hu18 hn18
 refine qu rfl rfl hS (fun hg => (g_ldO 1 (vs := [.bool _, .int .i64 _, .int .i64 _, .slice _ _ _]) sizeOf46 isAgg46 rfl (hu18 hg) rfl rfl)) ?_
 intro u19 hu19 hn19
 refine qu rfl rfl hS (fun hg => (qb (o' := 1) underlying48 rfl sizeOf46 rfl rfl rfl)) ?_
 intro u20 hu20 hn20
 refine qu rfl rfl hS (fun hg => (g_ldO 0 (vs := [.bool _, .int .i64 _, .int .i64 _, .slice _ _ _]) sizeOf46 isAgg46 rfl (hu20 hg) rfl rfl)) ?_
 intro u21 hu21 hn21
 refine cvu rfl rfl hS (fun hg => (qj call52 (ml (hu19 hg) (ml (hu21 hg) ml0)) (yF o.p B.ap D.ap B.m B.cp D.m D.cp _ _ hS.imm hs.p hw ht.p))) ?_
 intro w_5 u22 hS hu22 hn22
 refine qq hS (g_and rfl rfl (fun hq => hu22 hq)) ?_
 refine qq hS (Qab rfl) (QoN (wpIn_ret ?_))
 refine ret1 results36 (qi (v := .bool _) rfl) ?_
 exact ⟨by simp, hS.nil⟩
end Go.Proofs.YtcajgkfgjpfmaaaGreat
