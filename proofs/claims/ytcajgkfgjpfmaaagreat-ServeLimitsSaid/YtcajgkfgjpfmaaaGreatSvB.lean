/- inlaylaw30: best, escape, same, sanity. Conditions: what the functions need of a server. -/
import Derived.Test.YtcajgkfgjpfmaaaGreatRs5
import Derived.Test.YtcajgkfgjpfmaaaGreatCore32
import Derived.Test.YtcajgkfgjpfmaaaGreatSanity9
set_option linter.unusedSimpArgs false
set_option linter.unusedVariables false
namespace Go.Proofs.YtcajgkfgjpfmaaaGreat
open Tryz
open Go Go.RowKit Go.Inl
theorem best_E (s : SrvL) (A : SrvA) (f : Int) (m : NeedL) (R : OffR) (w0 : World) (I0 : Imm) (hI : Sat I0 w0) (hs : RSrv I0 A s) (hb : SrvB s) (he : bestP s f m = R) :
 Ctr prog 46 [.agg #[.slice A.a0 s.g.vs.length A.c0, .slice A.a1 s.g.ls.length A.c1, .slice A.a2 s.ps.length A.c2, .slice A.a3 s.gone.length A.c3, .slice A.a4 s.cache.length A.c4], .int .i64 f, .agg #[.int .i64 m.s, .int .i64 m.u, .int .i64 m.r, .int .i64 m.e, .int .i64 m.o]] w0 (fun v w' => ∃ I' A' B, v = .tuple #[.agg #[.slice A'.a0 R.s.g.vs.length A'.c0, .slice A'.a1 R.s.g.ls.length A'.c1, .slice A'.a2 R.s.ps.length A'.c2, .slice A'.a3 R.s.gone.length A'.c3, .slice A'.a4 R.s.cache.length A'.c4], .agg #[.slice B.a R.o.way.length B.c, .bool R.o.p.lifted, .int .i64 R.o.p.in_, .int .i64 R.o.p.out, .slice B.ap B.m B.cp, .int .i64 R.o.c], .int .i64 R.e] ∧ Ext w0 I0 w' I' ∧ RSrv I' A' R.s ∧ ROff I' B R.o) := by
 subst he; exact best_c s A f m w0 I0 hI hs hb
theorem escape_E (s : SrvL) (A : SrvA) (f : Int) (m : NeedL) (R : OffR) (w0 : World) (I0 : Imm) (hI : Sat I0 w0) (hs : RSrv I0 A s) (hb : SrvB s) (he : escP s f m = R) :
 Ctr prog 53 [.agg #[.slice A.a0 s.g.vs.length A.c0, .slice A.a1 s.g.ls.length A.c1, .slice A.a2 s.ps.length A.c2, .slice A.a3 s.gone.length A.c3, .slice A.a4 s.cache.length A.c4], .int .i64 f, .agg #[.int .i64 m.s, .int .i64 m.u, .int .i64 m.r, .int .i64 m.e, .int .i64 m.o]] w0 (fun v w' => ∃ I' B, v = .tuple #[.agg #[.slice B.a R.o.way.length B.c, .bool R.o.p.lifted, .int .i64 R.o.p.in_, .int .i64 R.o.p.out, .slice B.ap B.m B.cp, .int .i64 R.o.c], .int .i64 R.e] ∧ Ext w0 I0 w' I' ∧ ROff I' B R.o) := by
 subst he; exact escape_c s A f m w0 I0 hI hs hb
theorem withdraw_E (s : SrvL) (A : SrvA) (n : Int) (R : WdR) (w0 : World) (I0 : Imm) (hI : Sat I0 w0) (hs : RSrv I0 A s) (hgs : s.gone.Pairwise (· < ·)) (hgl : s.gone.length ≤ 65535) (he : withdrawP s n = R) :
 Ctr prog 17 [.agg #[.slice A.a0 s.g.vs.length A.c0, .slice A.a1 s.g.ls.length A.c1, .slice A.a2 s.ps.length A.c2, .slice A.a3 s.gone.length A.c3, .slice A.a4 s.cache.length A.c4], .int .i64 n] w0 (fun v w' => ∃ I' A', v = .tuple #[.agg #[.slice A'.a0 R.s.g.vs.length A'.c0, .slice A'.a1 R.s.g.ls.length A'.c1, .slice A'.a2 R.s.ps.length A'.c2, .slice A'.a3 R.s.gone.length A'.c3, .slice A'.a4 R.s.cache.length A'.c4], .int .i64 R.e] ∧ Ext w0 I0 w' I' ∧ RSrv I' A' R.s) := by
 subst he; exact withdraw_c s A n w0 I0 hI hs hgs hgl
theorem collect_E (s : SrvL) (A : SrvA) (ai : Option Addr) (N ci : Nat) (l : List Int) (R : SrvL) (w0 : World) (I0 : Imm) (hI : Sat I0 w0) (hs : RSrv I0 A s) (hb : SrvB s) (hl : RFl I0 1 intC (.slice ai N ci) l) (hN : N = l.length) (hln : l.length ≤ 1000) (hgn : s.gone.length ≤ 65535) (he : collectP s l = R) :
 Ctr prog 23 [.agg #[.slice A.a0 s.g.vs.length A.c0, .slice A.a1 s.g.ls.length A.c1, .slice A.a2 s.ps.length A.c2, .slice A.a3 s.gone.length A.c3, .slice A.a4 s.cache.length A.c4], .slice ai N ci] w0 (fun v w' => ∃ I' A', v = .agg #[.slice A'.a0 R.g.vs.length A'.c0, .slice A'.a1 R.g.ls.length A'.c1, .slice A'.a2 R.ps.length A'.c2, .slice A'.a3 R.gone.length A'.c3, .slice A'.a4 R.cache.length A'.c4] ∧ Ext w0 I0 w' I' ∧ RSrv I' A' R) := by
 subst he; subst hN; exact collect_c s A ai ci l w0 I0 hI hs hb hl hln hgn
theorem add_E (s : SrvL) (A : SrvA) (l : LnkL) (p : PatL) (ap : Option Addr) (pm cp : Nat) (R : WdR) (w0 : World) (I0 : Imm) (hI : Sat I0 w0) (hs : RSrv I0 A s) (hy : ROps I0 (.slice ap pm cp) p.ops) (hp : p.wf) (hvi : s.g.vs.Pairwise (· < ·)) (hvn : s.g.vs.length ≤ 1000) (hln : s.g.ls.length ≤ 1000) (hpl : s.ps.length = s.g.ls.length) (he : addP s l p = R) :
 Ctr prog 27 [.agg #[.slice A.a0 s.g.vs.length A.c0, .slice A.a1 s.g.ls.length A.c1, .slice A.a2 s.ps.length A.c2, .slice A.a3 s.gone.length A.c3, .slice A.a4 s.cache.length A.c4], .agg #[.int .i64 l.f, .int .i64 l.t, .int .i64 l.c, .int .i64 l.n.s, .int .i64 l.n.u, .int .i64 l.n.r, .int .i64 l.n.e, .int .i64 l.n.o], .agg #[.bool p.lifted, .int .i64 p.in_, .int .i64 p.out, .slice ap pm cp]] w0 (fun v w' => ∃ I' A', v = .tuple #[.agg #[.slice A'.a0 R.s.g.vs.length A'.c0, .slice A'.a1 R.s.g.ls.length A'.c1, .slice A'.a2 R.s.ps.length A'.c2, .slice A'.a3 R.s.gone.length A'.c3, .slice A'.a4 R.s.cache.length A'.c4], .int .i64 R.e] ∧ Ext w0 I0 w' I' ∧ RSrv I' A' R.s) := by
 subst he; exact add_c s A l p ap pm cp w0 I0 hI hs hy hp hvi hvn hln hpl
theorem kN (o : OffL) (B D : OffA) (N : Nat) (li : Bool) (i u c : Int) (w0 : World) (I0 : Imm) (hI : Sat I0 w0) (hs : ROff I0 B o) (hw : RFl I0 1 intC (.slice D.a N D.c) o.way) (hN : N = o.way.length) (hp : ROps I0 (.slice D.ap D.m D.cp) o.p.ops) (hwf : o.p.wf) (h1 : li = o.p.lifted) (h2 : i = o.p.in_) (h3 : u = o.p.out) (h4 : c = o.c) :
 Ctr prog 36 [.agg #[.slice B.a o.way.length B.c, .bool o.p.lifted, .int .i64 o.p.in_, .int .i64 o.p.out, .slice B.ap B.m B.cp, .int .i64 o.c], .agg #[.slice D.a N D.c, .bool li, .int .i64 i, .int .i64 u, .slice D.ap D.m D.cp, .int .i64 c]] w0 (fun v w' => v = .bool true ∧ Ext w0 I0 w' I0) := by
 subst hN; subst h1; subst h2; subst h3; subst h4; exact sameO_c o B D w0 I0 hI hs ⟨hw, hp⟩ hwf
/-! ### The example -/
def tP : PatL := ⟨false, 2, 2, [⟨1, 1, 1, 0, []⟩, ⟨1, 0, 1, 0, []⟩]⟩
def lk1 : LnkL := ⟨1, 2, 5, ⟨0, 0, 0, 0, 0⟩⟩
def lk2 : LnkL := ⟨2, 3, 5, ⟨0, 0, 0, 0, 0⟩⟩
def sv1 : SrvL := ⟨⟨[1, 2], [lk1]⟩, [tP], [], []⟩
def sv2 : SrvL := ⟨⟨[1, 2, 3], [lk1, lk2]⟩, [tP, tP], [], []⟩
def sv3 : SrvL := ⟨⟨[1, 2, 3], [lk1, lk2]⟩, [tP, tP], [3], []⟩
def sv4 : SrvL := ⟨⟨[2, 3], [lk2]⟩, [tP], [], []⟩
def nd0 : NeedL := ⟨0, 0, 0, 0, 0⟩
def of8 : OffL := ⟨[1, 2, 3], wholeP 2, 10⟩
def of9 : OffL := ⟨[3], PatL.zero, 0⟩
def of12 : OffL := ⟨[1, 2], tP, 5⟩
def sv8 : SrvL := ⟨⟨[1, 2, 3], [lk1, lk2]⟩, [tP, tP], [], [⟨[0, 1], wholeP 2⟩]⟩
def sv12 : SrvL := ⟨⟨[1, 2, 3], [lk1, lk2]⟩, [tP, tP], [3], [⟨[0], tP⟩]⟩
set_option maxRecDepth 100000 in
theorem ex1 : addP SrvL.none lk1 tP = ⟨sv1, 0⟩ := by kernel_rfl
set_option maxRecDepth 100000 in
theorem ex2 : addP sv1 lk2 tP = ⟨sv2, 0⟩ := by kernel_rfl
set_option maxRecDepth 100000 in
theorem ex3 : addP sv2 lk2 (wholeP 3) = ⟨sv2, 61⟩ := by kernel_rfl
set_option maxRecDepth 100000 in
theorem ex4 : bestP sv2 1 nd0 = ⟨sv8, of8, 0⟩ := by kernel_rfl
set_option maxRecDepth 100000 in
theorem ex5 : bestP sv2 3 nd0 = ⟨sv2, of9, 0⟩ := by kernel_rfl
set_option maxRecDepth 100000 in
theorem ex6 : withdrawP sv2 3 = ⟨sv3, 0⟩ := by kernel_rfl
set_option maxRecDepth 100000 in
theorem ex7 : bestP sv3 1 nd0 = ⟨sv12, of12, 0⟩ := by kernel_rfl
set_option maxRecDepth 100000 in
theorem ex8 : bestP sv3 3 nd0 = ⟨sv3, OffL.none, 290⟩ := by kernel_rfl
set_option maxRecDepth 100000 in
theorem ex9 : escP sv3 3 nd0 = ⟨sv3, OffL.none, 290⟩ := by kernel_rfl
set_option maxRecDepth 100000 in
theorem ex10 : collectP sv2 [2] = sv4 := by kernel_rfl
theorem tP_wf : tP.wf := yL (by kernel_rfl)
theorem yV : ∀ p ∈ [tP, tP], p.wf := fun p hp => by
 simp only [List.mem_cons, List.not_mem_nil, or_false] at hp
 rcases hp with rfl | rfl <;> exact tP_wf
theorem sv2_b : SrvB sv2 := ⟨yA (by kernel_rfl), rfl, yV, by decide⟩
theorem sv3_b : SrvB sv3 := ⟨yA (by kernel_rfl), rfl, yV, by decide⟩
theorem no_srv (I : Imm) : RSrv I ⟨none, 0, none, 0, none, 0, none, 0, none, 0⟩ SrvL.none := ⟨⟨RFl.nil, RFl.nil⟩, RSl.nilR, RFl.nil, RSl.nilR⟩
theorem lbest_c_fill0 (z0 z1 z2 z3 z4 z5 z6 z7 z8 z9 z10 z11 : Value) (x0a : Option Addr) (x0m x0c : Nat) (x1a : Option Addr) (x1m x1c : Nat) (x2a : Option Addr) (x2m x2c : Nat) (x3a : Option Addr) (x3m x3c : Nat) (x4a : Option Addr) (x4m x4c : Nat) (x5a : Option Addr) (x5m x5c : Nat) (x6 : Bool) (x7 : Int) (x8 : Int) (x9a : Option Addr) (x9m x9c : Nat) (x10 : Int) (x11 : Int) : Instr.fill ([(0, 5), (5, 6), (11, 1)][·]?) #[z0, z1, z2, z3, z4, z5, z6, z7, z8, z9, z10, z11] [(0, .agg #[.slice x0a x0m x0c, .slice x1a x1m x1c, .slice x2a x2m x2c, .slice x3a x3m x3c, .slice x4a x4m x4c]), (1, .agg #[.slice x5a x5m x5c, .bool x6, .int .i64 x7, .int .i64 x8, .slice x9a x9m x9c, .int .i64 x10]), (2, .int .i64 x11)] = some #[.slice x0a x0m x0c, .slice x1a x1m x1c, .slice x2a x2m x2c, .slice x3a x3m x3c, .slice x4a x4m x4c, .slice x5a x5m x5c, .bool x6, .int .i64 x7, .int .i64 x8, .slice x9a x9m x9c, .int .i64 x10, .int .i64 x11] := by
 simp [Instr.fill, Value.cells, List.zipIdx]
set_option maxHeartbeats 1000000 in
theorem kP (s : SrvL) (A : SrvA) (f : Int) (m : NeedL) (R : OffR) (w0 : World) (I0 : Imm) (hI : Sat I0 w0) (hs : RSrv I0 A s) (hb : SrvB s) (he : bestP s f m = R) :
 Ctr prog 15 [.agg #[.slice A.a0 s.g.vs.length A.c0, .slice A.a1 s.g.ls.length A.c1, .slice A.a2 s.ps.length A.c2, .slice A.a3 s.gone.length A.c3, .slice A.a4 s.cache.length A.c4], .int .i64 f, .agg #[.int .i64 m.s, .int .i64 m.u, .int .i64 m.r, .int .i64 m.e, .int .i64 m.o]] w0 (fun v w' => ∃ I' A' B, v = .agg #[.slice A'.a0 R.s.g.vs.length A'.c0, .slice A'.a1 R.s.g.ls.length A'.c1, .slice A'.a2 R.s.ps.length A'.c2, .slice A'.a3 R.s.gone.length A'.c3, .slice A'.a4 R.s.cache.length A'.c4, .slice B.a R.o.way.length B.c, .bool R.o.p.lifted, .int .i64 R.o.p.in_, .int .i64 R.o.p.out, .slice B.ap B.m B.cp, .int .i64 R.o.c, .int .i64 R.e] ∧ Ext w0 I0 w' I' ∧ RSrv I' A' R.s ∧ ROff I' B R.o) := by
 refine fn (n := 22) func15 rfl rfl rfl ?_
 have hS := St.start hI
 refine QwR ?_
 refine qe (d_box (cs := [.slice _ _ _, .slice _ _ _, .slice _ _ _, .slice _ _ _, .slice _ _ _]) hS rfl) ?_
 clear hS
 rintro _ w_1 ⟨b3, rfl, hS⟩
 refine qe (d_box (cs := [.int .i64 _, .int .i64 _, .int .i64 _, .int .i64 _, .int .i64 _]) hS rfl) ?_
 clear hS
 rintro _ w_2 ⟨b5, rfl, hS⟩
 refine qe (qo (cs := [.slice _ _ _, .slice _ _ _, .slice _ _ _, .slice _ _ _, .slice _ _ _, .slice _ _ _, .bool _, .int .i64 _, .int .i64 _, .slice _ _ _, .int .i64 _, .int .i64 _]) hS zeroValue51 rfl) ?_
 clear hS
 rintro _ w_3 ⟨b6, rfl, hS⟩
 refine QoR ?_
 refine qq hS (g_ldO 2 (vs := [.slice _ _ _, .slice _ _ _, .slice _ _ _, .slice _ _ _, .slice _ _ _]) sizeOf38 isAgg38 rfl rfl rfl rfl) ?_
 refine qq hS (Qmi rfl) ?_
 refine qq hS (g_ldO 1 (vs := [.int .i64 _, .int .i64 _, .int .i64 _, .int .i64 _, .int .i64 _]) sizeOf41 isAgg41 rfl rfl rfl rfl) ?_
 refine qe (qj call46 rfl (best_E s A f m R _ _ hS.imm hs hb he)) ?_
 rintro _ w_4 ⟨I_f, A2, B2, rfl, hE, hs2, ho2⟩
 replace hS := hS.callE hE
 replace hs := hs.mono hE.ext
 refine qq hS (qh _) ?_
 refine qq hS (qw rfl rfl) ?_
 refine qq hS (qw rfl rfl) ?_
 refine qq hS (Qxi rfl rfl) ?_
 refine qe (qo (cs := [.slice _ _ _, .slice _ _ _, .slice _ _ _, .slice _ _ _, .slice _ _ _]) hS zeroValue38 rfl) ?_
 clear hS
 rintro _ w_5 ⟨b7, rfl, hS⟩
 refine qe (qo (cs := [.slice _ _ _, .bool _, .int .i64 _, .int .i64 _, .slice _ _ _, .int .i64 _]) hS zeroValue48 rfl) ?_
 clear hS
 rintro _ w_6 ⟨b8, rfl, hS⟩
 refine qe (qg 1 hS sizeOf38 rfl rfl rfl (vs := [.slice _ _ _, .slice _ _ _, .slice _ _ _, .slice _ _ _, .slice _ _ _]) rfl rfl rfl (Nat.le_of_ble_eq_true rfl) (cs' := [_, _, _, _, _]) rfl) ?_
 clear hS
 rintro _ w_7 ⟨rfl, hS⟩
 refine qe (qg 0 hS sizeOf48 rfl rfl rfl (vs := [.slice _ _ _, .bool _, .int .i64 _, .int .i64 _, .slice _ _ _, .int .i64 _]) rfl rfl rfl (Nat.le_of_ble_eq_true rfl) (cs' := [_, _, _, _, _, _]) rfl) ?_
 clear hS
 rintro _ w_8 ⟨rfl, hS⟩
 refine qq hS (Qai rfl) (QoR ?_)
 refine qq hS (g_ldO 1 (vs := [.slice _ _ _, .slice _ _ _, .slice _ _ _, .slice _ _ _, .slice _ _ _]) sizeOf38 isAgg38 rfl rfl rfl rfl) ?_
 refine qq hS (g_ldO 0 (vs := [.slice _ _ _, .bool _, .int .i64 _, .int .i64 _, .slice _ _ _, .int .i64 _]) sizeOf48 isAgg48 rfl rfl rfl rfl) ?_
 refine qq hS (Qmi rfl) ?_
 refine qq hS (ql (pl := [(0, 5), (5, 6), (11, 1)]) (cs := [.slice _ _ _, .slice _ _ _, .slice _ _ _, .slice _ _ _, .slice _ _ _, .slice _ _ _, .bool _, .int .i64 _, .int .i64 _, .slice _ _ _, .int .i64 _, .int .i64 _]) zeroValue51 underlying51 (fun w => by simp [sizeOf38, sizeOf48, sizeOf49]) (mp (v := .agg #[.slice _ _ _, .slice _ _ _, .slice _ _ _, .slice _ _ _, .slice _ _ _]) rfl (mp (v := .agg #[.slice _ _ _, .bool _, .int .i64 _, .int .i64 _, .slice _ _ _, .int .i64 _]) rfl (mp (v := .int .i64 _) rfl mp0))) (lbest_c_fill0 _ _ _ _ _ _ _ _ _ _ _ _ _ _ _ _ _ _ _ _ _ _ _ _ _ _ _ _ _ _ _ _ _ _ _ _ _ _)) ?_
 refine qe (qg 2 hS sizeOf51 rfl rfl rfl (vs := [.slice _ _ _, .slice _ _ _, .slice _ _ _, .slice _ _ _, .slice _ _ _, .slice _ _ _, .bool _, .int .i64 _, .int .i64 _, .slice _ _ _, .int .i64 _, .int .i64 _]) rfl rfl rfl (Nat.le_of_ble_eq_true rfl) (cs' := [_, _, _, _, _, _, _, _, _, _, _, _]) rfl) ?_
 clear hS
 rintro _ w_9 ⟨rfl, hS⟩
 refine QoN (wpIn_ret ?_)
 refine ret1 results15 (qt 2 hS sizeOf51 isAgg51 rfl rfl rfl) ?_
 exact ⟨_, A2, B2, rfl, hS.nil, hs2, ho2⟩
theorem lescape_c_fill0 (z0 z1 z2 z3 z4 z5 z6 z7 z8 z9 z10 z11 : Value) (x0a : Option Addr) (x0m x0c : Nat) (x1 : Bool) (x2 : Int) (x3 : Int) (x4a : Option Addr) (x4m x4c : Nat) (x5 : Int) (x6 : Int) : Instr.fill ([(0, 5), (5, 6), (11, 1)][·]?) #[z0, z1, z2, z3, z4, z5, z6, z7, z8, z9, z10, z11] [(1, .agg #[.slice x0a x0m x0c, .bool x1, .int .i64 x2, .int .i64 x3, .slice x4a x4m x4c, .int .i64 x5]), (2, .int .i64 x6)] = some #[z0, z1, z2, z3, z4, .slice x0a x0m x0c, .bool x1, .int .i64 x2, .int .i64 x3, .slice x4a x4m x4c, .int .i64 x5, .int .i64 x6] := by
 simp [Instr.fill, Value.cells, List.zipIdx]
set_option maxHeartbeats 1000000 in
theorem zJ (s : SrvL) (A : SrvA) (f : Int) (m : NeedL) (R : OffR) (w0 : World) (I0 : Imm) (hI : Sat I0 w0) (hs : RSrv I0 A s) (hb : SrvB s) (he : escP s f m = R) :
 Ctr prog 21 [.agg #[.slice A.a0 s.g.vs.length A.c0, .slice A.a1 s.g.ls.length A.c1, .slice A.a2 s.ps.length A.c2, .slice A.a3 s.gone.length A.c3, .slice A.a4 s.cache.length A.c4], .int .i64 f, .agg #[.int .i64 m.s, .int .i64 m.u, .int .i64 m.r, .int .i64 m.e, .int .i64 m.o]] w0 (fun v w' => ∃ I' B, v = .agg #[.slice none 0 0, .slice none 0 0, .slice none 0 0, .slice none 0 0, .slice none 0 0, .slice B.a R.o.way.length B.c, .bool R.o.p.lifted, .int .i64 R.o.p.in_, .int .i64 R.o.p.out, .slice B.ap B.m B.cp, .int .i64 R.o.c, .int .i64 R.e] ∧ Ext w0 I0 w' I' ∧ ROff I' B R.o) := by
 refine fn (n := 19) func21 rfl rfl rfl ?_
 have hS := St.start hI
 refine QwR ?_
 refine qe (d_box (cs := [.slice _ _ _, .slice _ _ _, .slice _ _ _, .slice _ _ _, .slice _ _ _]) hS rfl) ?_
 clear hS
 rintro _ w_1 ⟨b3, rfl, hS⟩
 refine qe (d_box (cs := [.int .i64 _, .int .i64 _, .int .i64 _, .int .i64 _, .int .i64 _]) hS rfl) ?_
 clear hS
 rintro _ w_2 ⟨b5, rfl, hS⟩
 refine qe (qo (cs := [.slice _ _ _, .slice _ _ _, .slice _ _ _, .slice _ _ _, .slice _ _ _, .slice _ _ _, .bool _, .int .i64 _, .int .i64 _, .slice _ _ _, .int .i64 _, .int .i64 _]) hS zeroValue51 rfl) ?_
 clear hS
 rintro _ w_3 ⟨b6, rfl, hS⟩
 refine QoR ?_
 refine qq hS (g_ldO 2 (vs := [.slice _ _ _, .slice _ _ _, .slice _ _ _, .slice _ _ _, .slice _ _ _]) sizeOf38 isAgg38 rfl rfl rfl rfl) ?_
 refine qq hS (Qmi rfl) ?_
 refine qq hS (g_ldO 1 (vs := [.int .i64 _, .int .i64 _, .int .i64 _, .int .i64 _, .int .i64 _]) sizeOf41 isAgg41 rfl rfl rfl rfl) ?_
 refine qe (qj call53 rfl (escape_E s A f m R _ _ hS.imm hs hb he)) ?_
 rintro _ w_4 ⟨I_f, B2, rfl, hE, ho2⟩
 replace hS := hS.callE hE
 replace hs := hs.mono hE.ext
 refine qq hS (qh _) ?_
 refine qq hS (qw rfl rfl) ?_
 refine qq hS (Qxi rfl rfl) ?_
 refine qe (qo (cs := [.slice _ _ _, .bool _, .int .i64 _, .int .i64 _, .slice _ _ _, .int .i64 _]) hS zeroValue48 rfl) ?_
 clear hS
 rintro _ w_5 ⟨b7, rfl, hS⟩
 refine qe (qg 0 hS sizeOf48 rfl rfl rfl (vs := [.slice _ _ _, .bool _, .int .i64 _, .int .i64 _, .slice _ _ _, .int .i64 _]) rfl rfl rfl (Nat.le_of_ble_eq_true rfl) (cs' := [_, _, _, _, _, _]) rfl) ?_
 clear hS
 rintro _ w_6 ⟨rfl, hS⟩
 refine qq hS (Qai rfl) (QoR ?_)
 refine qq hS (g_ldO 0 (vs := [.slice _ _ _, .bool _, .int .i64 _, .int .i64 _, .slice _ _ _, .int .i64 _]) sizeOf48 isAgg48 rfl rfl rfl rfl) ?_
 refine qq hS (Qmi rfl) ?_
 refine qq hS (ql (pl := [(0, 5), (5, 6), (11, 1)]) (cs := [.slice _ _ _, .slice _ _ _, .slice _ _ _, .slice _ _ _, .slice _ _ _, .slice _ _ _, .bool _, .int .i64 _, .int .i64 _, .slice _ _ _, .int .i64 _, .int .i64 _]) zeroValue51 underlying51 (fun w => by simp [sizeOf38, sizeOf48, sizeOf49]) (mp (v := .agg #[.slice _ _ _, .bool _, .int .i64 _, .int .i64 _, .slice _ _ _, .int .i64 _]) rfl (mp (v := .int .i64 _) rfl mp0)) (lescape_c_fill0 _ _ _ _ _ _ _ _ _ _ _ _ _ _ _ _ _ _ _ _ _ _ _)) ?_
 refine qe (qg 1 hS sizeOf51 rfl rfl rfl (vs := [.slice _ _ _, .slice _ _ _, .slice _ _ _, .slice _ _ _, .slice _ _ _, .slice _ _ _, .bool _, .int .i64 _, .int .i64 _, .slice _ _ _, .int .i64 _, .int .i64 _]) rfl rfl rfl (Nat.le_of_ble_eq_true rfl) (cs' := [_, _, _, _, _, _, _, _, _, _, _, _]) rfl) ?_
 clear hS
 rintro _ w_7 ⟨rfl, hS⟩
 refine QoN (wpIn_ret ?_)
 refine ret1 results21 (qt 1 hS sizeOf51 isAgg51 rfl rfl rfl) ?_
 exact ⟨_, B2, rfl, hS.nil, ho2⟩
theorem sanity30_c_fill0 (z0 z1 z2 z3 z4 z5 z6 z7 : Value) (x0 : Int) (x1 : Int) (x2 : Int) : Instr.fill ([(0, 1), (1, 1), (2, 1), (3, 5)][·]?) #[z0, z1, z2, z3, z4, z5, z6, z7] [(0, .int .i64 x0), (1, .int .i64 x1), (2, .int .i64 x2)] = some #[.int .i64 x0, .int .i64 x1, .int .i64 x2, z3, z4, z5, z6, z7] := by
 simp [Instr.fill, Value.cells, List.zipIdx]
theorem sanity30_c_fill1 (z0 z1 z2 z3 z4 z5 z6 z7 : Value) (x0 : Int) (x1 : Int) (x2 : Int) : Instr.fill ([(0, 1), (1, 1), (2, 1), (3, 5)][·]?) #[z0, z1, z2, z3, z4, z5, z6, z7] [(0, .int .i64 x0), (1, .int .i64 x1), (2, .int .i64 x2)] = some #[.int .i64 x0, .int .i64 x1, .int .i64 x2, z3, z4, z5, z6, z7] := by
 simp [Instr.fill, Value.cells, List.zipIdx]
theorem sanity30_c_fill2 (z0 z1 z2 z3 z4 z5 z6 z7 : Value) (x0 : Int) (x1 : Int) (x2 : Int) : Instr.fill ([(0, 1), (1, 1), (2, 1), (3, 5)][·]?) #[z0, z1, z2, z3, z4, z5, z6, z7] [(0, .int .i64 x0), (1, .int .i64 x1), (2, .int .i64 x2)] = some #[.int .i64 x0, .int .i64 x1, .int .i64 x2, z3, z4, z5, z6, z7] := by
 simp [Instr.fill, Value.cells, List.zipIdx]
theorem sanity30_c_fill3 (z0 z1 z2 z3 z4 z5 z6 z7 : Value) (x0 : Int) (x1 : Int) (x2 : Int) : Instr.fill ([(0, 1), (1, 1), (2, 1), (3, 5)][·]?) #[z0, z1, z2, z3, z4, z5, z6, z7] [(0, .int .i64 x0), (1, .int .i64 x1), (2, .int .i64 x2)] = some #[.int .i64 x0, .int .i64 x1, .int .i64 x2, z3, z4, z5, z6, z7] := by
 simp [Instr.fill, Value.cells, List.zipIdx]
theorem sanity30_c_fill4 (z0 z1 z2 z3 z4 z5 z6 z7 : Value) (x0 : Int) (x1 : Int) (x2 : Int) : Instr.fill ([(0, 1), (1, 1), (2, 1), (3, 5)][·]?) #[z0, z1, z2, z3, z4, z5, z6, z7] [(0, .int .i64 x0), (1, .int .i64 x1), (2, .int .i64 x2)] = some #[.int .i64 x0, .int .i64 x1, .int .i64 x2, z3, z4, z5, z6, z7] := by
 simp [Instr.fill, Value.cells, List.zipIdx]
theorem sanity30_c_fill5 (z0 z1 z2 z3 z4 z5 : Value) (x0a : Option Addr) (x0m x0c : Nat) (x1 : Bool) (x2 : Int) (x3 : Int) (x4a : Option Addr) (x4m x4c : Nat) (x5 : Int) : Instr.fill ([(0, 1), (1, 4), (5, 1)][·]?) #[z0, z1, z2, z3, z4, z5] [(0, .slice x0a x0m x0c), (1, .agg #[.bool x1, .int .i64 x2, .int .i64 x3, .slice x4a x4m x4c]), (2, .int .i64 x5)] = some #[.slice x0a x0m x0c, .bool x1, .int .i64 x2, .int .i64 x3, .slice x4a x4m x4c, .int .i64 x5] := by
 simp [Instr.fill, Value.cells, List.zipIdx]
theorem sanity30_c_fill6 (z0 z1 z2 z3 z4 z5 : Value) (x0a : Option Addr) (x0m x0c : Nat) : Instr.fill ([(0, 1), (1, 4), (5, 1)][·]?) #[z0, z1, z2, z3, z4, z5] [(0, .slice x0a x0m x0c)] = some #[.slice x0a x0m x0c, z1, z2, z3, z4, z5] := by
 simp [Instr.fill, Value.cells, List.zipIdx]
theorem sanity30_c_fill7 (z0 z1 z2 z3 z4 z5 : Value) (x0a : Option Addr) (x0m x0c : Nat) (x1 : Bool) (x2 : Int) (x3 : Int) (x4a : Option Addr) (x4m x4c : Nat) (x5 : Int) : Instr.fill ([(0, 1), (1, 4), (5, 1)][·]?) #[z0, z1, z2, z3, z4, z5] [(0, .slice x0a x0m x0c), (1, .agg #[.bool x1, .int .i64 x2, .int .i64 x3, .slice x4a x4m x4c]), (2, .int .i64 x5)] = some #[.slice x0a x0m x0c, .bool x1, .int .i64 x2, .int .i64 x3, .slice x4a x4m x4c, .int .i64 x5] := by
 simp [Instr.fill, Value.cells, List.zipIdx]
theorem sanity30_c_fill8 (z0 z1 z2 z3 z4 z5 : Value) (x0a : Option Addr) (x0m x0c : Nat) (x1 : Bool) (x2 : Int) (x3 : Int) (x4a : Option Addr) (x4m x4c : Nat) (x5 : Int) : Instr.fill ([(0, 1), (1, 4), (5, 1)][·]?) #[z0, z1, z2, z3, z4, z5] [(0, .slice x0a x0m x0c), (1, .agg #[.bool x1, .int .i64 x2, .int .i64 x3, .slice x4a x4m x4c]), (2, .int .i64 x5)] = some #[.slice x0a x0m x0c, .bool x1, .int .i64 x2, .int .i64 x3, .slice x4a x4m x4c, .int .i64 x5] := by
 simp [Instr.fill, Value.cells, List.zipIdx]
theorem sanity30_c_fill9 (z0 z1 z2 z3 z4 z5 : Value) (x0a : Option Addr) (x0m x0c : Nat) : Instr.fill ([(0, 1), (1, 4), (5, 1)][·]?) #[z0, z1, z2, z3, z4, z5] [(0, .slice x0a x0m x0c)] = some #[.slice x0a x0m x0c, z1, z2, z3, z4, z5] := by
 simp [Instr.fill, Value.cells, List.zipIdx]
theorem sanity30_c_fill10 (z0 z1 z2 z3 z4 z5 : Value) (x0a : Option Addr) (x0m x0c : Nat) (x1 : Bool) (x2 : Int) (x3 : Int) (x4a : Option Addr) (x4m x4c : Nat) (x5 : Int) : Instr.fill ([(0, 1), (1, 4), (5, 1)][·]?) #[z0, z1, z2, z3, z4, z5] [(0, .slice x0a x0m x0c), (1, .agg #[.bool x1, .int .i64 x2, .int .i64 x3, .slice x4a x4m x4c]), (2, .int .i64 x5)] = some #[.slice x0a x0m x0c, .bool x1, .int .i64 x2, .int .i64 x3, .slice x4a x4m x4c, .int .i64 x5] := by
 simp [Instr.fill, Value.cells, List.zipIdx]
set_option maxRecDepth 20000 in
set_option maxHeartbeats 8000000 in
theorem sanity30_c (w0 : World) (I0 : Imm) (hI : Sat I0 w0) :
 Ctr prog 11 [] w0 (fun v w' => ∃ I', v = .bool true ∧ Ext w0 I0 w' I') := by
 refine fn (n := 158) func11 rfl rfl rfl ?_
 have hS := St.start hI
 refine QwR (qq hS (Qab rfl) (QoR ?_))
 refine qq hS (ql (pl := [(0, 1), (1, 1), (2, 1), (3, 1), (4, 1)]) (cs := [.int .i64 _, .int .i64 _, .int .i64 _, .int .u8 _, .slice _ _ _]) zeroValue102 underlying102 (fun w => by simp [sizeOf22, sizeOf3, sizeOf5]) (mp (v := .int .i64 _) rfl (mp (v := .int .i64 _) rfl (mp (v := .int .i64 _) rfl mp0))) rfl) ?_
 refine qq hS (ql (pl := [(0, 1), (1, 1), (2, 1), (3, 1), (4, 1)]) (cs := [.int .i64 _, .int .i64 _, .int .i64 _, .int .u8 _, .slice _ _ _]) zeroValue102 underlying102 (fun w => by simp [sizeOf22, sizeOf3, sizeOf5]) (mp (v := .int .i64 _) rfl (mp (v := .int .i64 _) rfl mp0)) rfl) ?_
 refine qe (d_lit (vs := [.agg #[.int .i64 _, .int .i64 _, .int .i64 _, .int .u8 _, .slice _ _ _], .agg #[.int .i64 _, .int .i64 _, .int .i64 _, .int .u8 _, .slice _ _ _]]) (cs := [.int .i64 _, .int .i64 _, .int .i64 _, .int .u8 _, .slice _ _ _, .int .i64 _, .int .i64 _, .int .i64 _, .int .u8 _, .slice _ _ _]) hS underlying44 sizeOf102 zeroValue102 rfl rfl rfl rfl (fun v hv => by simp only [List.mem_cons, List.not_mem_nil, or_false] at hv; rcases hv with rfl | rfl <;> rfl) rfl) ?_
 clear hS
 rintro _ w_1 ⟨b19, rfl, hS⟩
 have hF := hS.freeze1
 clear hS
 obtain ⟨I19, hS, hI19, hb19⟩ := hF
 have h19 : ROps _ (.slice (some ⟨b19, 0, none⟩) 2 2) [⟨1, 1, 1, 0, []⟩, ⟨1, 0, 1, 0, []⟩] := RSl.ofAt (css := [[.int .i64 1, .int .i64 1, .int .i64 1, .int .u8 0, .slice none 0 0], [.int .i64 1, .int .i64 0, .int .i64 1, .int .u8 0, .slice none 0 0]]) hb19 rfl (by simp) (All2.cons ⟨_, _, _, rfl, RFl.nil⟩ (All2.cons ⟨_, _, _, rfl, RFl.nil⟩ (All2.nil _))) rfl (by decide)
 refine qq hS (ql (pl := [(0, 1), (1, 1), (2, 1), (3, 1)]) (cs := [.bool _, .int .i64 _, .int .i64 _, .slice _ _ _]) zeroValue46 underlying46 (fun w => by simp [sizeOf3, sizeOf4, sizeOf44]) (mp (v := .int .i64 _) rfl (mp (v := .int .i64 _) rfl (mp (v := .slice _ _ _) rfl mp0))) rfl) ?_
 refine qe (qo (cs := [.bool _, .int .i64 _, .int .i64 _, .slice _ _ _]) hS zeroValue46 rfl) ?_
 clear hS
 rintro _ w_2 ⟨b1, rfl, hS⟩
 refine qe (qg 0 hS sizeOf46 rfl rfl rfl (vs := [.bool _, .int .i64 _, .int .i64 _, .slice _ _ _]) rfl rfl rfl (Nat.le_of_ble_eq_true rfl) (cs' := [_, _, _, _]) rfl) ?_
 clear hS
 rintro _ w_3 ⟨rfl, hS⟩
 refine QoR ?_
 refine qq hS (ql (pl := [(0, 2), (2, 1), (3, 1), (4, 1)]) (cs := [.slice _ _ _, .slice _ _ _, .slice _ _ _, .slice _ _ _, .slice _ _ _]) zeroValue38 underlying38 (fun w => by simp [sizeOf31, sizeOf34, sizeOf35, sizeOf36]) mp0 rfl) ?_
 refine qq hS (ql (pl := [(0, 1), (1, 1), (2, 1), (3, 5)]) (cs := [.int .i64 _, .int .i64 _, .int .i64 _, .int .i64 _, .int .i64 _, .int .i64 _, .int .i64 _, .int .i64 _]) zeroValue60 underlying60 (fun w => by simp [sizeOf3, sizeOf41]) (mp (v := .int .i64 _) rfl (mp (v := .int .i64 _) rfl (mp (v := .int .i64 _) rfl mp0))) (sanity30_c_fill0 _ _ _ _ _ _ _ _ _ _ _)) ?_
 refine qq hS (g_ldO 0 (vs := [.bool _, .int .i64 _, .int .i64 _, .slice _ _ _]) sizeOf46 isAgg46 rfl rfl rfl rfl) ?_
 refine qe (qj call27 rfl (add_E SrvL.none ⟨none, 0, none, 0, none, 0, none, 0, none, 0⟩ lk1 tP _ _ _ ⟨sv1, 0⟩ _ _ hS.imm (no_srv _) h19 tP_wf List.Pairwise.nil (by decide) (by decide) rfl ex1)) ?_
 rintro _ w_4 ⟨I_f, A1, rfl, hE, h25⟩
 replace hS := hS.callE hE
 replace h19 := h19.mono hE.ext
 refine qq hS (qh _) ?_
 refine qq hS (qw rfl rfl) ?_
 refine qq hS (Qxi rfl rfl) ?_
 refine qe (qo (cs := [.slice _ _ _, .slice _ _ _, .slice _ _ _, .slice _ _ _, .slice _ _ _]) hS zeroValue38 rfl) ?_
 clear hS
 rintro _ w_5 ⟨b2, rfl, hS⟩
 refine qe (qg 0 hS sizeOf38 rfl rfl rfl (vs := [.slice _ _ _, .slice _ _ _, .slice _ _ _, .slice _ _ _, .slice _ _ _]) rfl rfl rfl (Nat.le_of_ble_eq_true rfl) (cs' := [_, _, _, _, _]) rfl) ?_
 clear hS
 rintro _ w_6 ⟨rfl, hS⟩
 refine qq hS (Qai rfl) (QoR ?_)
 refine qq hS (g_ldO 0 (vs := [.slice _ _ _, .slice _ _ _, .slice _ _ _, .slice _ _ _, .slice _ _ _]) sizeOf38 isAgg38 rfl rfl rfl rfl) ?_
 refine qq hS (ql (pl := [(0, 1), (1, 1), (2, 1), (3, 5)]) (cs := [.int .i64 _, .int .i64 _, .int .i64 _, .int .i64 _, .int .i64 _, .int .i64 _, .int .i64 _, .int .i64 _]) zeroValue60 underlying60 (fun w => by simp [sizeOf3, sizeOf41]) (mp (v := .int .i64 _) rfl (mp (v := .int .i64 _) rfl (mp (v := .int .i64 _) rfl mp0))) (sanity30_c_fill1 _ _ _ _ _ _ _ _ _ _ _)) ?_
 refine qq hS (g_ldO 1 (vs := [.bool _, .int .i64 _, .int .i64 _, .slice _ _ _]) sizeOf46 isAgg46 rfl rfl rfl rfl) ?_
 refine qe (qj call27 rfl (add_E sv1 A1 lk2 tP _ _ _ ⟨sv2, 0⟩ _ _ hS.imm h25 h19 tP_wf (by decide) (by decide) (by decide) rfl ex2)) ?_
 rintro _ w_7 ⟨I_f, A2, rfl, hE, hs2⟩
 replace hS := hS.callE hE
 replace h19 := h19.mono hE.ext
 replace h25 := h25.mono hE.ext
 refine qq hS (qh _) ?_
 refine qq hS (qw rfl rfl) ?_
 refine qq hS (Qxi rfl rfl) ?_
 refine qe (qg 0 hS sizeOf38 rfl rfl rfl (vs := [.slice _ _ _, .slice _ _ _, .slice _ _ _, .slice _ _ _, .slice _ _ _]) rfl rfl rfl (Nat.le_of_ble_eq_true rfl) (cs' := [_, _, _, _, _]) rfl) ?_
 clear hS
 rintro _ w_8 ⟨rfl, hS⟩
 refine qq hS (Qai rfl) (QoN (wpIn_seq ?_))
 refine drawA _ [(0, .held), (1, .pure), (2, .eff), (3, .eff), (4, .pure), (5, .pure), (6, .pure)] (.cons 8 .bar (.cons 9 .pure .nil)) mixed (by kernel_rfl) (lays (qR (i := 7) (cs := [.slice _ _ _, .slice _ _ _, .slice _ _ _, .slice _ _ _, .slice _ _ _]) rfl zeroValue38 rfl) lays0) hS ?_
 refine oaH rfl rfl (fun x_ => (g_ldO 0 (vs := [.slice _ _ _, .slice _ _ _, .slice _ _ _, .slice _ _ _, .slice _ _ _]) sizeOf38 isAgg38 rfl rfl rfl rfl)) ?_
 refine oaP rfl rfl (fun x_ => (ql (pl := [(0, 1), (1, 1), (2, 1), (3, 5)]) (cs := [.int .i64 _, .int .i64 _, .int .i64 _, .int .i64 _, .int .i64 _, .int .i64 _, .int .i64 _, .int .i64 _]) zeroValue60 underlying60 (fun w => by simp [sizeOf3, sizeOf41]) (mp (v := .int .i64 _) rfl (mp (v := .int .i64 _) rfl (mp (v := .int .i64 _) rfl mp0))) (sanity30_c_fill2 _ _ _ _ _ _ _ _ _ _ _))) ?_
 refine oaE rfl rfl (fun x_ T_ w_10 hS => (qj call43 rfl (kZ 3 _ _ hS.imm (by decide)))) ?_
 rintro _ w_11 w_9 ⟨I_f, a38, m38, c38, rfl, hE, h38⟩
 refine ⟨_, hE, ?_⟩
 replace h19 := h19.mono hE.ext
 replace h25 := h25.mono hE.ext
 replace hs2 := hs2.mono hE.ext
 refine oaE rfl rfl (fun x_ T_ w_13 hS => (qj call27 rfl (add_E sv2 A2 lk2 (wholeP 3) _ _ _ ⟨sv2, 61⟩ _ _ hS.imm hs2 h38 (zx (by decide)) (by decide) (by decide) (by decide) rfl ex3))) ?_
 rintro _ w_14 w_12 ⟨I_f, A5, rfl, hE, h39⟩
 refine ⟨_, hE, ?_⟩
 replace h19 := h19.mono hE.ext
 replace h25 := h25.mono hE.ext
 replace hs2 := hs2.mono hE.ext
 replace h38 := h38.mono hE.ext
 refine oaP rfl rfl (fun x_ => (qh _)) ?_
 refine oaP rfl rfl (fun x_ => (qw rfl rfl)) ?_
 refine oaP rfl rfl (fun x_ => (Qxi rfl rfl)) ?_
 refine oaN ?_
 intro bs_ hbs_ w_15 hS
 obtain ⟨b5, rfl⟩ := len1 hbs_
 refine sb rfl (qg 2 hS sizeOf38 rfl rfl rfl (vs := [.slice _ _ _, .slice _ _ _, .slice _ _ _, .slice _ _ _, .slice _ _ _]) rfl rfl rfl (Nat.le_of_ble_eq_true rfl) (cs' := [_, _, _, _, _]) rfl) ?_
 rintro _ w_16 ⟨rfl, hS⟩
 refine ⟨_, _, hS, ?_⟩
 refine sp rfl (Qai rfl) ?_
 refine sn (thenN ?_)
 refine QwR ?_
 refine qe (d_lit (vs := [.int .i64 _, .int .i64 _, .int .i64 _]) (cs := [.int .i64 _, .int .i64 _, .int .i64 _]) hS underlying31 sizeOf3 zeroValue3 rfl rfl rfl rfl (fun v hv => by simp only [List.mem_cons, List.not_mem_nil, or_false] at hv; rcases hv with rfl | rfl | rfl <;> rfl) rfl) ?_
 clear hS
 rintro _ w_17 ⟨b42, rfl, hS⟩
 have hF := hS.freeze1
 clear hS
 obtain ⟨I42, hS, hI42, hb42⟩ := hF
 replace h19 := h19.mono hI42
 replace h25 := h25.mono hI42
 replace hs2 := hs2.mono hI42
 replace h38 := h38.mono hI42
 replace h39 := h39.mono hI42
 have h42 := RFl.ofAt qB ([1, 2, 3] : List Int) hb42 rfl (by decide)
 refine qq hS (ql (pl := [(0, 1), (1, 1), (2, 1), (3, 5)]) (cs := [.int .i64 _, .int .i64 _, .int .i64 _, .int .i64 _, .int .i64 _, .int .i64 _, .int .i64 _, .int .i64 _]) zeroValue60 underlying60 (fun w => by simp [sizeOf3, sizeOf41]) (mp (v := .int .i64 _) rfl (mp (v := .int .i64 _) rfl (mp (v := .int .i64 _) rfl mp0))) (sanity30_c_fill3 _ _ _ _ _ _ _ _ _ _ _)) ?_
 refine qq hS (ql (pl := [(0, 1), (1, 1), (2, 1), (3, 5)]) (cs := [.int .i64 _, .int .i64 _, .int .i64 _, .int .i64 _, .int .i64 _, .int .i64 _, .int .i64 _, .int .i64 _]) zeroValue60 underlying60 (fun w => by simp [sizeOf3, sizeOf41]) (mp (v := .int .i64 _) rfl (mp (v := .int .i64 _) rfl (mp (v := .int .i64 _) rfl mp0))) (sanity30_c_fill4 _ _ _ _ _ _ _ _ _ _ _)) ?_
 refine qe (d_lit (vs := [.agg #[.int .i64 _, .int .i64 _, .int .i64 _, .int .i64 _, .int .i64 _, .int .i64 _, .int .i64 _, .int .i64 _], .agg #[.int .i64 _, .int .i64 _, .int .i64 _, .int .i64 _, .int .i64 _, .int .i64 _, .int .i64 _, .int .i64 _]]) (cs := [.int .i64 _, .int .i64 _, .int .i64 _, .int .i64 _, .int .i64 _, .int .i64 _, .int .i64 _, .int .i64 _, .int .i64 _, .int .i64 _, .int .i64 _, .int .i64 _, .int .i64 _, .int .i64 _, .int .i64 _, .int .i64 _]) hS underlying32 sizeOf60 zeroValue60 rfl rfl rfl rfl (fun v hv => by simp only [List.mem_cons, List.not_mem_nil, or_false] at hv; rcases hv with rfl | rfl <;> rfl) rfl) ?_
 clear hS
 rintro _ w_18 ⟨b45, rfl, hS⟩
 have hF := hS.freeze1
 clear hS
 obtain ⟨I45, hS, hI45, hb45⟩ := hF
 replace h19 := h19.mono hI45
 replace h25 := h25.mono hI45
 replace hs2 := hs2.mono hI45
 replace h38 := h38.mono hI45
 replace h39 := h39.mono hI45
 replace h42 := h42.mono hI45
 have h45 := RFl.ofAt qC ([lk1, lk2] : List LnkL) hb45 rfl (by decide)
 refine qq hS (ql (pl := [(0, 1), (1, 1)]) (cs := [.slice _ _ _, .slice _ _ _]) zeroValue34 underlying34 (fun w => by simp [sizeOf31, sizeOf32]) (mp (v := .slice _ _ _) rfl (mp (v := .slice _ _ _) rfl mp0)) rfl) ?_
 refine qq hS (g_ldO 1 (vs := [.bool _, .int .i64 _, .int .i64 _, .slice _ _ _]) sizeOf46 isAgg46 rfl rfl rfl rfl) ?_
 refine qq hS (g_ldO 1 (vs := [.bool _, .int .i64 _, .int .i64 _, .slice _ _ _]) sizeOf46 isAgg46 rfl rfl rfl rfl) ?_
 refine qe (d_lit (vs := [.agg #[.bool _, .int .i64 _, .int .i64 _, .slice _ _ _], .agg #[.bool _, .int .i64 _, .int .i64 _, .slice _ _ _]]) (cs := [.bool _, .int .i64 _, .int .i64 _, .slice _ _ _, .bool _, .int .i64 _, .int .i64 _, .slice _ _ _]) hS underlying35 sizeOf46 zeroValue46 rfl rfl rfl rfl (fun v hv => by simp only [List.mem_cons, List.not_mem_nil, or_false] at hv; rcases hv with rfl | rfl <;> rfl) rfl) ?_
 clear hS
 rintro _ w_19 ⟨b49, rfl, hS⟩
 have hF := hS.freeze1
 clear hS
 obtain ⟨I49, hS, hI49, hb49⟩ := hF
 replace h19 := h19.mono hI49
 replace h25 := h25.mono hI49
 replace hs2 := hs2.mono hI49
 replace h38 := h38.mono hI49
 replace h39 := h39.mono hI49
 replace h42 := h42.mono hI49
 replace h45 := h45.mono hI49
 have h49 : RPats _ (.slice (some ⟨b49, 0, none⟩) 2 2) [tP, tP] := RSl.ofAt (css := [[.bool false, .int .i64 2, .int .i64 2, .slice (some ⟨b19, 0, none⟩) 2 2], [.bool false, .int .i64 2, .int .i64 2, .slice (some ⟨b19, 0, none⟩) 2 2]]) hb49 rfl (by simp) (All2.cons ⟨_, _, _, rfl, h19⟩ (All2.cons ⟨_, _, _, rfl, h19⟩ (All2.nil _))) rfl (by decide)
 refine qq hS (ql (pl := [(0, 2), (2, 1), (3, 1), (4, 1)]) (cs := [.slice _ _ _, .slice _ _ _, .slice _ _ _, .slice _ _ _, .slice _ _ _]) zeroValue38 underlying38 (fun w => by simp [sizeOf31, sizeOf34, sizeOf35, sizeOf36]) (mp (v := .agg #[.slice _ _ _, .slice _ _ _]) rfl (mp (v := .slice _ _ _) rfl mp0)) rfl) ?_
 refine qe (qo (cs := [.slice _ _ _, .slice _ _ _, .slice _ _ _, .slice _ _ _, .slice _ _ _]) hS zeroValue38 rfl) ?_
 clear hS
 rintro _ w_20 ⟨b7, rfl, hS⟩
 refine qe (qg 0 hS sizeOf38 rfl rfl rfl (vs := [.slice _ _ _, .slice _ _ _, .slice _ _ _, .slice _ _ _, .slice _ _ _]) rfl rfl rfl (Nat.le_of_ble_eq_true rfl) (cs' := [_, _, _, _, _]) rfl) ?_
 clear hS
 rintro _ w_21 ⟨rfl, hS⟩
 refine QoN (wpIn_seq (QwR (qq hS (Qmi rfl) ?_)))
 refine qq hS (g_neq rfl rfl) ?_
 refine qq hS (Qmb rfl) ?_
 refine qqs rfl rfl hS (Qmi rfl) ?_
 refine qqs rfl rfl hS (g_neq rfl rfl) ?_
 refine qq hS (g_or rfl rfl (fun _ => rfl)) ?_
 refine qq hS (Qmb rfl) ?_
 refine qqs rfl rfl hS (Qmi rfl) ?_
 refine qqs rfl rfl hS (g_neq rfl rfl) ?_
 refine qq hS (g_or rfl rfl (fun _ => rfl)) ?_
 refine qq hS (Qmb rfl) ?_
 refine qqs rfl rfl hS (g_ldO 1 (vs := [.slice _ _ _, .slice _ _ _, .slice _ _ _, .slice _ _ _, .slice _ _ _]) sizeOf38 isAgg38 rfl rfl rfl rfl) ?_
 refine qqs rfl rfl hS (g_ldO 0 (vs := [.slice _ _ _, .slice _ _ _, .slice _ _ _, .slice _ _ _, .slice _ _ _]) sizeOf38 isAgg38 rfl rfl rfl rfl) ?_
 refine qes rfl rfl (qj call20 rfl (sameS_c sv2 A2 ⟨some ⟨b42, 0, none⟩, 3, some ⟨b45, 0, none⟩, 2, some ⟨b49, 0, none⟩, 2, none, 0, none, 0⟩ _ _ hS.imm hs2 ⟨⟨h42, h45⟩, h49, RFl.nil, RSl.nilR⟩ yV (fun _ h => by cases h))) ?_
 rintro _ w_22 ⟨rfl, hE⟩
 replace hS := hS.callE hE
 refine qqs rfl rfl hS (g_not rfl) ?_
 refine qq hS (g_or rfl rfl (fun _ => rfl)) ?_
 refine QoN ?_
 refine kK (rfl) ?_
 refine wpIn_skip (thenN (wpIn_seq ?_))
 refine drawA _ [(0, .held), (1, .pure), (3, .held), (4, .pure), (2, .eff), (5, .eff)] (.cons 8 .bar (.cons 9 .bar .nil)) mixed (by kernel_rfl) (lays (qR (i := 6) (cs := [.slice _ _ _, .slice _ _ _, .slice _ _ _, .slice _ _ _, .slice _ _ _, .slice _ _ _, .bool _, .int .i64 _, .int .i64 _, .slice _ _ _, .int .i64 _, .int .i64 _]) rfl zeroValue51 rfl) (lays (qR (i := 7) (cs := [.slice _ _ _, .slice _ _ _, .slice _ _ _, .slice _ _ _, .slice _ _ _, .slice _ _ _, .bool _, .int .i64 _, .int .i64 _, .slice _ _ _, .int .i64 _, .int .i64 _]) rfl zeroValue51 rfl) lays0)) hS ?_
 refine oaH rfl rfl (fun x_ => (g_ldO 1 (vs := [.slice _ _ _, .slice _ _ _, .slice _ _ _, .slice _ _ _, .slice _ _ _]) sizeOf38 isAgg38 rfl rfl rfl rfl)) ?_
 refine oaP rfl rfl (fun x_ => (ql (pl := [(0, 1), (1, 1), (2, 1), (3, 1), (4, 1)]) (cs := [.int .i64 _, .int .i64 _, .int .i64 _, .int .i64 _, .int .i64 _]) zeroValue41 underlying41 (fun w => by simp [sizeOf3]) mp0 rfl)) ?_
 refine oaH rfl rfl (fun x_ => (g_ldO 1 (vs := [.slice _ _ _, .slice _ _ _, .slice _ _ _, .slice _ _ _, .slice _ _ _]) sizeOf38 isAgg38 rfl rfl rfl rfl)) ?_
 refine oaP rfl rfl (fun x_ => (ql (pl := [(0, 1), (1, 1), (2, 1), (3, 1), (4, 1)]) (cs := [.int .i64 _, .int .i64 _, .int .i64 _, .int .i64 _, .int .i64 _]) zeroValue41 underlying41 (fun w => by simp [sizeOf3]) mp0 rfl)) ?_
 refine oaE rfl rfl (fun x_ T_ w_24 hS => (qj call15 rfl (kP sv2 A2 1 nd0 ⟨sv8, of8, 0⟩ _ _ hS.imm hs2 sv2_b ex4))) ?_
 rintro _ w_25 w_23 ⟨I_f, A8, B8, rfl, hE, hs8, ho8⟩
 refine ⟨_, hE, ?_⟩
 replace h19 := h19.mono hE.ext
 replace h25 := h25.mono hE.ext
 replace hs2 := hs2.mono hE.ext
 replace h38 := h38.mono hE.ext
 replace h39 := h39.mono hE.ext
 replace h42 := h42.mono hE.ext
 replace h45 := h45.mono hE.ext
 replace h49 := h49.mono hE.ext
 refine oaE rfl rfl (fun x_ T_ w_27 hS => (qj call15 rfl (kP sv2 A2 3 nd0 ⟨sv2, of9, 0⟩ _ _ hS.imm hs2 sv2_b ex5))) ?_
 rintro _ w_28 w_26 ⟨I_f, A9, B9, rfl, hE, hs9, ho9⟩
 refine ⟨_, hE, ?_⟩
 replace h19 := h19.mono hE.ext
 replace h25 := h25.mono hE.ext
 replace hs2 := hs2.mono hE.ext
 replace h38 := h38.mono hE.ext
 replace h39 := h39.mono hE.ext
 replace h42 := h42.mono hE.ext
 replace h45 := h45.mono hE.ext
 replace h49 := h49.mono hE.ext
 replace hs8 := hs8.mono hE.ext
 replace ho8 := ho8.mono hE.ext
 refine oaN ?_
 intro bs_ hbs_ w_29 hS
 obtain ⟨b8, b9, rfl⟩ := len2 hbs_
 refine sb rfl (qg 4 hS sizeOf51 rfl rfl rfl (vs := [.slice _ _ _, .slice _ _ _, .slice _ _ _, .slice _ _ _, .slice _ _ _, .slice _ _ _, .bool _, .int .i64 _, .int .i64 _, .slice _ _ _, .int .i64 _, .int .i64 _]) rfl rfl rfl (Nat.le_of_ble_eq_true rfl) (cs' := [_, _, _, _, _, _, _, _, _, _, _, _]) rfl) ?_
 rintro _ w_30 ⟨rfl, hS⟩
 refine ⟨_, _, hS, ?_⟩
 refine sb rfl (qg 5 hS sizeOf51 rfl rfl rfl (vs := [.slice _ _ _, .slice _ _ _, .slice _ _ _, .slice _ _ _, .slice _ _ _, .slice _ _ _, .bool _, .int .i64 _, .int .i64 _, .slice _ _ _, .int .i64 _, .int .i64 _]) rfl rfl rfl (Nat.le_of_ble_eq_true rfl) (cs' := [_, _, _, _, _, _, _, _, _, _, _, _]) rfl) ?_
 rintro _ w_31 ⟨rfl, hS⟩
 refine ⟨_, _, hS, ?_⟩
 refine sn (thenN ?_)
 refine QwR ?_
 refine qq hS (g_ldO 1 (vs := [.slice _ _ _, .slice _ _ _, .slice _ _ _, .slice _ _ _, .slice _ _ _]) sizeOf38 isAgg38 rfl rfl rfl rfl) ?_
 refine qe (qj call17 rfl (withdraw_E sv2 A2 3 ⟨sv3, 0⟩ _ _ hS.imm hs2 (by decide) (by decide) ex6)) ?_
 rintro _ w_32 ⟨I_f, A10, rfl, hE, hs3⟩
 replace hS := hS.callE hE
 replace h19 := h19.mono hE.ext
 replace h25 := h25.mono hE.ext
 replace hs2 := hs2.mono hE.ext
 replace h38 := h38.mono hE.ext
 replace h39 := h39.mono hE.ext
 replace h42 := h42.mono hE.ext
 replace h45 := h45.mono hE.ext
 replace h49 := h49.mono hE.ext
 replace hs8 := hs8.mono hE.ext
 replace ho8 := ho8.mono hE.ext
 replace hs9 := hs9.mono hE.ext
 replace ho9 := ho9.mono hE.ext
 refine qq hS (qh _) ?_
 refine qq hS (qw rfl rfl) ?_
 refine qq hS (Qxi rfl rfl) ?_
 refine qe (qo (cs := [.slice _ _ _, .slice _ _ _, .slice _ _ _, .slice _ _ _, .slice _ _ _]) hS zeroValue38 rfl) ?_
 clear hS
 rintro _ w_33 ⟨b10, rfl, hS⟩
 refine qe (qg 0 hS sizeOf38 rfl rfl rfl (vs := [.slice _ _ _, .slice _ _ _, .slice _ _ _, .slice _ _ _, .slice _ _ _]) rfl rfl rfl (Nat.le_of_ble_eq_true rfl) (cs' := [_, _, _, _, _]) rfl) ?_
 clear hS
 rintro _ w_34 ⟨rfl, hS⟩
 refine qq hS (Qai rfl) (QoN (wpIn_seq ?_))
 refine drawA _ [(0, .held), (1, .pure), (3, .held), (4, .pure), (6, .held), (7, .pure), (2, .eff), (5, .eff), (8, .eff)] (.cons 12 .bar (.cons 13 .bar (.cons 14 .bar .nil))) mixed (by kernel_rfl) (lays (qR (i := 9) (cs := [.slice _ _ _, .slice _ _ _, .slice _ _ _, .slice _ _ _, .slice _ _ _, .slice _ _ _, .bool _, .int .i64 _, .int .i64 _, .slice _ _ _, .int .i64 _, .int .i64 _]) rfl zeroValue51 rfl) (lays (qR (i := 10) (cs := [.slice _ _ _, .slice _ _ _, .slice _ _ _, .slice _ _ _, .slice _ _ _, .slice _ _ _, .bool _, .int .i64 _, .int .i64 _, .slice _ _ _, .int .i64 _, .int .i64 _]) rfl zeroValue51 rfl) (lays (qR (i := 11) (cs := [.slice _ _ _, .slice _ _ _, .slice _ _ _, .slice _ _ _, .slice _ _ _, .slice _ _ _, .bool _, .int .i64 _, .int .i64 _, .slice _ _ _, .int .i64 _, .int .i64 _]) rfl zeroValue51 rfl) lays0))) hS ?_
 refine oaH rfl rfl (fun x_ => (g_ldO 0 (vs := [.slice _ _ _, .slice _ _ _, .slice _ _ _, .slice _ _ _, .slice _ _ _]) sizeOf38 isAgg38 rfl rfl rfl rfl)) ?_
 refine oaP rfl rfl (fun x_ => (ql (pl := [(0, 1), (1, 1), (2, 1), (3, 1), (4, 1)]) (cs := [.int .i64 _, .int .i64 _, .int .i64 _, .int .i64 _, .int .i64 _]) zeroValue41 underlying41 (fun w => by simp [sizeOf3]) mp0 rfl)) ?_
 refine oaH rfl rfl (fun x_ => (g_ldO 0 (vs := [.slice _ _ _, .slice _ _ _, .slice _ _ _, .slice _ _ _, .slice _ _ _]) sizeOf38 isAgg38 rfl rfl rfl rfl)) ?_
 refine oaP rfl rfl (fun x_ => (ql (pl := [(0, 1), (1, 1), (2, 1), (3, 1), (4, 1)]) (cs := [.int .i64 _, .int .i64 _, .int .i64 _, .int .i64 _, .int .i64 _]) zeroValue41 underlying41 (fun w => by simp [sizeOf3]) mp0 rfl)) ?_
 refine oaH rfl rfl (fun x_ => (g_ldO 0 (vs := [.slice _ _ _, .slice _ _ _, .slice _ _ _, .slice _ _ _, .slice _ _ _]) sizeOf38 isAgg38 rfl rfl rfl rfl)) ?_
 refine oaP rfl rfl (fun x_ => (ql (pl := [(0, 1), (1, 1), (2, 1), (3, 1), (4, 1)]) (cs := [.int .i64 _, .int .i64 _, .int .i64 _, .int .i64 _, .int .i64 _]) zeroValue41 underlying41 (fun w => by simp [sizeOf3]) mp0 rfl)) ?_
 refine oaE rfl rfl (fun x_ T_ w_36 hS => (qj call15 rfl (kP sv3 A10 1 nd0 ⟨sv12, of12, 0⟩ _ _ hS.imm hs3 sv3_b ex7))) ?_
 rintro _ w_37 w_35 ⟨I_f, A12, B12, rfl, hE, hs12, ho12⟩
 refine ⟨_, hE, ?_⟩
 replace h19 := h19.mono hE.ext
 replace h25 := h25.mono hE.ext
 replace hs2 := hs2.mono hE.ext
 replace h38 := h38.mono hE.ext
 replace h39 := h39.mono hE.ext
 replace h42 := h42.mono hE.ext
 replace h45 := h45.mono hE.ext
 replace h49 := h49.mono hE.ext
 replace hs8 := hs8.mono hE.ext
 replace ho8 := ho8.mono hE.ext
 replace hs9 := hs9.mono hE.ext
 replace ho9 := ho9.mono hE.ext
 replace hs3 := hs3.mono hE.ext
 refine oaE rfl rfl (fun x_ T_ w_39 hS => (qj call15 rfl (kP sv3 A10 3 nd0 ⟨sv3, OffL.none, 290⟩ _ _ hS.imm hs3 sv3_b ex8))) ?_
 rintro _ w_40 w_38 ⟨I_f, A13, B13, rfl, hE, hs13, ho13⟩
 refine ⟨_, hE, ?_⟩
 replace h19 := h19.mono hE.ext
 replace h25 := h25.mono hE.ext
 replace hs2 := hs2.mono hE.ext
 replace h38 := h38.mono hE.ext
 replace h39 := h39.mono hE.ext
 replace h42 := h42.mono hE.ext
 replace h45 := h45.mono hE.ext
 replace h49 := h49.mono hE.ext
 replace hs8 := hs8.mono hE.ext
 replace ho8 := ho8.mono hE.ext
 replace hs9 := hs9.mono hE.ext
 replace ho9 := ho9.mono hE.ext
 replace hs3 := hs3.mono hE.ext
 replace hs12 := hs12.mono hE.ext
 replace ho12 := ho12.mono hE.ext
 refine oaE rfl rfl (fun x_ T_ w_42 hS => (qj call21 rfl (zJ sv3 A10 3 nd0 ⟨sv3, OffL.none, 290⟩ _ _ hS.imm hs3 sv3_b ex9))) ?_
 rintro _ w_43 w_41 ⟨I_f, B14, rfl, hE, ho14⟩
 refine ⟨_, hE, ?_⟩
 replace h19 := h19.mono hE.ext
 replace h25 := h25.mono hE.ext
 replace hs2 := hs2.mono hE.ext
 replace h38 := h38.mono hE.ext
 replace h39 := h39.mono hE.ext
 replace h42 := h42.mono hE.ext
 replace h45 := h45.mono hE.ext
 replace h49 := h49.mono hE.ext
 replace hs8 := hs8.mono hE.ext
 replace ho8 := ho8.mono hE.ext
 replace hs9 := hs9.mono hE.ext
 replace ho9 := ho9.mono hE.ext
 replace hs3 := hs3.mono hE.ext
 replace hs12 := hs12.mono hE.ext
 replace ho12 := ho12.mono hE.ext
 replace hs13 := hs13.mono hE.ext
 replace ho13 := ho13.mono hE.ext
 refine oaN ?_
 intro bs_ hbs_ w_44 hS
 obtain ⟨b12, b13, b14, rfl⟩ := len3 hbs_
 refine sb rfl (qg 7 hS sizeOf51 rfl rfl rfl (vs := [.slice _ _ _, .slice _ _ _, .slice _ _ _, .slice _ _ _, .slice _ _ _, .slice _ _ _, .bool _, .int .i64 _, .int .i64 _, .slice _ _ _, .int .i64 _, .int .i64 _]) rfl rfl rfl (Nat.le_of_ble_eq_true rfl) (cs' := [_, _, _, _, _, _, _, _, _, _, _, _]) rfl) ?_
 rintro _ w_45 ⟨rfl, hS⟩
 refine ⟨_, _, hS, ?_⟩
 refine sb rfl (qg 8 hS sizeOf51 rfl rfl rfl (vs := [.slice _ _ _, .slice _ _ _, .slice _ _ _, .slice _ _ _, .slice _ _ _, .slice _ _ _, .bool _, .int .i64 _, .int .i64 _, .slice _ _ _, .int .i64 _, .int .i64 _]) rfl rfl rfl (Nat.le_of_ble_eq_true rfl) (cs' := [_, _, _, _, _, _, _, _, _, _, _, _]) rfl) ?_
 rintro _ w_46 ⟨rfl, hS⟩
 refine ⟨_, _, hS, ?_⟩
 refine sb rfl (qg 9 hS sizeOf51 rfl rfl rfl (vs := [.slice _ _ _, .slice _ _ _, .slice _ _ _, .slice _ _ _, .slice _ _ _, .slice _ _ _, .bool _, .int .i64 _, .int .i64 _, .slice _ _ _, .int .i64 _, .int .i64 _]) rfl rfl rfl (Nat.le_of_ble_eq_true rfl) (cs' := [_, _, _, _, _, _, _, _, _, _, _, _]) rfl) ?_
 rintro _ w_47 ⟨rfl, hS⟩
 refine ⟨_, _, hS, ?_⟩
 refine sn (thenN ?_)
 refine QwR ?_
 refine qq hS (g_ldO 2 (vs := [.slice _ _ _, .slice _ _ _, .slice _ _ _, .slice _ _ _, .slice _ _ _]) sizeOf38 isAgg38 rfl rfl rfl rfl) ?_
 refine qe (d_lit (vs := [.int .i64 _]) (cs := [.int .i64 _]) hS underlying31 sizeOf3 zeroValue3 rfl rfl rfl rfl (fun v hv => by simp only [List.mem_cons, List.not_mem_nil, or_false] at hv; subst hv; rfl) rfl) ?_
 clear hS
 rintro _ w_48 ⟨b88, rfl, hS⟩
 have hF := hS.freeze1
 clear hS
 obtain ⟨I88, hS, hI88, hb88⟩ := hF
 replace h19 := h19.mono hI88
 replace h25 := h25.mono hI88
 replace hs2 := hs2.mono hI88
 replace h38 := h38.mono hI88
 replace h39 := h39.mono hI88
 replace h42 := h42.mono hI88
 replace h45 := h45.mono hI88
 replace h49 := h49.mono hI88
 replace hs8 := hs8.mono hI88
 replace ho8 := ho8.mono hI88
 replace hs9 := hs9.mono hI88
 replace ho9 := ho9.mono hI88
 replace hs3 := hs3.mono hI88
 replace hs12 := hs12.mono hI88
 replace ho12 := ho12.mono hI88
 replace hs13 := hs13.mono hI88
 replace ho13 := ho13.mono hI88
 replace ho14 := ho14.mono hI88
 have h88 := RFl.ofAt qB ([2] : List Int) hb88 rfl (by decide)
 refine qe (qj call23 rfl (collect_E sv2 A2 _ _ _ [2] sv4 _ _ hS.imm hs2 sv2_b h88 rfl (by decide) (by decide) ex10)) ?_
 rintro _ w_49 ⟨I_f, A15, rfl, hE, hs4⟩
 replace hS := hS.callE hE
 replace h19 := h19.mono hE.ext
 replace h25 := h25.mono hE.ext
 replace hs2 := hs2.mono hE.ext
 replace h38 := h38.mono hE.ext
 replace h39 := h39.mono hE.ext
 replace h42 := h42.mono hE.ext
 replace h45 := h45.mono hE.ext
 replace h49 := h49.mono hE.ext
 replace hs8 := hs8.mono hE.ext
 replace ho8 := ho8.mono hE.ext
 replace hs9 := hs9.mono hE.ext
 replace ho9 := ho9.mono hE.ext
 replace hs3 := hs3.mono hE.ext
 replace hs12 := hs12.mono hE.ext
 replace ho12 := ho12.mono hE.ext
 replace hs13 := hs13.mono hE.ext
 replace ho13 := ho13.mono hE.ext
 replace ho14 := ho14.mono hE.ext
 replace h88 := h88.mono hE.ext
 refine qe (qo (cs := [.slice _ _ _, .slice _ _ _, .slice _ _ _, .slice _ _ _, .slice _ _ _]) hS zeroValue38 rfl) ?_
 clear hS
 rintro _ w_50 ⟨b15, rfl, hS⟩
 refine qe (qg 0 hS sizeOf38 rfl rfl rfl (vs := [.slice _ _ _, .slice _ _ _, .slice _ _ _, .slice _ _ _, .slice _ _ _]) rfl rfl rfl (Nat.le_of_ble_eq_true rfl) (cs' := [_, _, _, _, _]) rfl) ?_
 clear hS
 rintro _ w_51 ⟨rfl, hS⟩
 refine QoN (wpIn_seq ?_)
 refine draw (.cons 0 .pure (.cons 1 .held (.fork 2 (.cons 3 .eff (.cons 4 .pure (.cons 5 .eff (.cons 6 .pure (.cons 7 .pure (.cons 8 .pure (.cons 9 .held (.cons 10 .pure (.cons 11 .pure (.cons 12 .pure (.cons 13 .pure .nil))))))))))) 3 (.cons 2 .eff (.cons 4 .pure (.cons 5 .eff (.cons 6 .pure (.cons 7 .pure (.cons 8 .pure (.cons 9 .held (.cons 10 .pure (.cons 11 .pure (.cons 12 .pure (.cons 13 .pure .nil)))))))))))))) mixed (by kernel_rfl) hS ?_
 intro w_52 hS
 refine sp rfl (qb (o' := 5) underlying51 rfl sizeOf48 rfl rfl rfl) ?_
 refine sh rfl (g_ldO 6 (vs := [.slice _ _ _, .bool _, .int .i64 _, .int .i64 _, .slice _ _ _, .int .i64 _]) sizeOf48 isAgg48 rfl rfl rfl rfl) ?_
 refine sk ?_ ?_
 ·
  have hS0 := hS
  refine se rfl (d_lit (vs := [.int .i64 _, .int .i64 _, .int .i64 _]) (cs := [.int .i64 _, .int .i64 _, .int .i64 _]) hS underlying31 sizeOf3 zeroValue3 rfl rfl rfl rfl (fun v hv => by simp only [List.mem_cons, List.not_mem_nil, or_false] at hv; rcases hv with rfl | rfl | rfl <;> rfl) rfl) ?_
  rintro _ w_53 ⟨b92, rfl, hS⟩
  have hF := hS.freeze1
  clear hS
  obtain ⟨I92, hS, hI92, hb92⟩ := hF
  replace h19 := h19.mono hI92
  replace h25 := h25.mono hI92
  replace hs2 := hs2.mono hI92
  replace h38 := h38.mono hI92
  replace h39 := h39.mono hI92
  replace h42 := h42.mono hI92
  replace h45 := h45.mono hI92
  replace h49 := h49.mono hI92
  replace hs8 := hs8.mono hI92
  replace ho8 := ho8.mono hI92
  replace hs9 := hs9.mono hI92
  replace ho9 := ho9.mono hI92
  replace hs3 := hs3.mono hI92
  replace hs12 := hs12.mono hI92
  replace ho12 := ho12.mono hI92
  replace hs13 := hs13.mono hI92
  replace ho13 := ho13.mono hI92
  replace ho14 := ho14.mono hI92
  replace h88 := h88.mono hI92
  replace hs4 := hs4.mono hI92
  have h92 := RFl.ofAt qB ([1, 2, 3] : List Int) hb92 rfl (by decide)
  refine ⟨_, _, hS0.le hI92 (List.Sublist.refl _), hS, ?_⟩
  have hS0 := hS
  refine se rfl (qj call43 rfl (kZ 2 _ _ hS.imm (by decide))) ?_
  rintro _ w_54 ⟨I_f, a93, m93, c93, rfl, hE, h93⟩
  replace hS := hS.call hE
  replace h19 := h19.mono hE.ext
  replace h25 := h25.mono hE.ext
  replace hs2 := hs2.mono hE.ext
  replace h38 := h38.mono hE.ext
  replace h39 := h39.mono hE.ext
  replace h42 := h42.mono hE.ext
  replace h45 := h45.mono hE.ext
  replace h49 := h49.mono hE.ext
  replace hs8 := hs8.mono hE.ext
  replace ho8 := ho8.mono hE.ext
  replace hs9 := hs9.mono hE.ext
  replace ho9 := ho9.mono hE.ext
  replace hs3 := hs3.mono hE.ext
  replace hs12 := hs12.mono hE.ext
  replace ho12 := ho12.mono hE.ext
  replace hs13 := hs13.mono hE.ext
  replace ho13 := ho13.mono hE.ext
  replace ho14 := ho14.mono hE.ext
  replace h88 := h88.mono hE.ext
  replace hs4 := hs4.mono hE.ext
  replace h92 := h92.mono hE.ext
  refine ⟨_, _, hS0.le hE.ext (List.Sublist.refl _), hS, ?_⟩
  refine sp rfl (ql (pl := [(0, 1), (1, 4), (5, 1)]) (cs := [.slice _ _ _, .bool _, .int .i64 _, .int .i64 _, .slice _ _ _, .int .i64 _]) zeroValue48 underlying48 (fun w => by simp [sizeOf3, sizeOf31, sizeOf46]) (mp (v := .slice _ _ _) rfl (mp (v := .agg #[.bool _, .int .i64 _, .int .i64 _, .slice _ _ _]) rfl (mp (v := .int .i64 _) rfl mp0))) (sanity30_c_fill5 _ _ _ _ _ _ _ _ _ _ _ _ _ _ _ _)) ?_
  have hS0 := hS
  refine se rfl (qj call36 rfl (kN of8 B8 ⟨some ⟨b92, 0, none⟩, 3, a93, m93, c93⟩ _ _ _ _ _ _ _ hS.imm ho8 h92 rfl h93 (zx (by decide)) rfl rfl rfl rfl)) ?_
  rintro _ w_55 ⟨rfl, hE⟩
  replace hS := hS.call hE
  refine ⟨_, _, hS0.le hE.ext (List.Sublist.refl _), hS, ?_⟩
  refine sp rfl (Qmb rfl) ?_
  refine spt rfl rfl rfl (qb (o' := 0) underlying51 rfl sizeOf38 rfl rfl rfl) ?_
  refine spt rfl rfl rfl (qb (o' := 4) underlying38 rfl sizeOf36 rfl rfl rfl) ?_
  refine sht rfl rfl rfl (qf 6 isAgg36 rfl rfl rfl) ?_
  refine spt rfl rfl rfl (qs rfl underlying36 hs8.cache rfl) ?_
  refine spt rfl rfl rfl (g_eql rfl rfl) ?_
  refine sp rfl (g_and rfl rfl (fun _ => rfl)) ?_
  refine sp rfl (Qab rfl) ?_
  refine sn (thenN ?_)
  refine QwR (qq hS (Qmb rfl) (qq hS (Qmb rfl) ?_))
  refine qqs rfl rfl hS (qb (o' := 5) underlying51 rfl sizeOf48 rfl rfl rfl) ?_
  refine qqs rfl rfl hS (g_ldO 7 (vs := [.slice _ _ _, .bool _, .int .i64 _, .int .i64 _, .slice _ _ _, .int .i64 _]) sizeOf48 isAgg48 rfl rfl rfl rfl) ?_
  refine qes rfl rfl (d_lit (vs := [.int .i64 _]) (cs := [.int .i64 _]) hS underlying31 sizeOf3 zeroValue3 rfl rfl rfl rfl (fun v hv => by simp only [List.mem_cons, List.not_mem_nil, or_false] at hv; subst hv; rfl) rfl) ?_
  clear hS
  rintro _ w_56 ⟨b107, rfl, hS⟩
  have hF := hS.freeze1
  clear hS
  obtain ⟨I107, hS, hI107, hb107⟩ := hF
  replace h19 := h19.mono hI107
  replace h25 := h25.mono hI107
  replace hs2 := hs2.mono hI107
  replace h38 := h38.mono hI107
  replace h39 := h39.mono hI107
  replace h42 := h42.mono hI107
  replace h45 := h45.mono hI107
  replace h49 := h49.mono hI107
  replace hs8 := hs8.mono hI107
  replace ho8 := ho8.mono hI107
  replace hs9 := hs9.mono hI107
  replace ho9 := ho9.mono hI107
  replace hs3 := hs3.mono hI107
  replace hs12 := hs12.mono hI107
  replace ho12 := ho12.mono hI107
  replace hs13 := hs13.mono hI107
  replace ho13 := ho13.mono hI107
  replace ho14 := ho14.mono hI107
  replace h88 := h88.mono hI107
  replace hs4 := hs4.mono hI107
  replace h92 := h92.mono hI107
  replace h93 := h93.mono hI107
  have h107 := RFl.ofAt qB ([3] : List Int) hb107 rfl (by decide)
  refine qqs rfl rfl hS (ql (pl := [(0, 1), (1, 4), (5, 1)]) (cs := [.slice _ _ _, .bool _, .int .i64 _, .int .i64 _, .slice _ _ _, .int .i64 _]) zeroValue48 underlying48 (fun w => by simp [sizeOf3, sizeOf31, sizeOf46]) (mp (v := .slice _ _ _) rfl mp0) (sanity30_c_fill6 _ _ _ _ _ _ _ _ _)) ?_
  refine qes rfl rfl (qj call36 rfl (kN of9 B9 ⟨some ⟨b107, 0, none⟩, 1, none, 0, 0⟩ _ _ _ _ _ _ _ hS.imm ho9 h107 rfl RSl.nilR (yL (by kernel_rfl)) rfl rfl rfl rfl)) ?_
  rintro _ w_57 ⟨rfl, hE⟩
  replace hS := hS.callE hE
  refine qq hS (g_and rfl rfl (fun _ => rfl)) ?_
  refine qq hS (Qmb rfl) ?_
  refine qqs rfl rfl hS (qb (o' := 11) underlying51 rfl sizeOf49 rfl rfl rfl) ?_
  refine qqs rfl rfl hS (qf 7 isAgg49 rfl rfl rfl) ?_
  refine qqs rfl rfl hS (g_eql rfl rfl) ?_
  refine qq hS (g_and rfl rfl (fun _ => rfl)) ?_
  refine qq hS (Qmb rfl) ?_
  refine qqs rfl rfl hS (Qmi rfl) ?_
  refine qqs rfl rfl hS (g_eql rfl rfl) ?_
  refine qq hS (g_and rfl rfl (fun _ => rfl)) ?_
  refine qq hS (Qmb rfl) ?_
  refine qqs rfl rfl hS (qb (o' := 5) underlying51 rfl sizeOf48 rfl rfl rfl) ?_
  refine qqs rfl rfl hS (g_ldO 8 (vs := [.slice _ _ _, .bool _, .int .i64 _, .int .i64 _, .slice _ _ _, .int .i64 _]) sizeOf48 isAgg48 rfl rfl rfl rfl) ?_
  refine qes rfl rfl (d_lit (vs := [.int .i64 _, .int .i64 _]) (cs := [.int .i64 _, .int .i64 _]) hS underlying31 sizeOf3 zeroValue3 rfl rfl rfl rfl (fun v hv => by simp only [List.mem_cons, List.not_mem_nil, or_false] at hv; rcases hv with rfl | rfl <;> rfl) rfl) ?_
  clear hS
  rintro _ w_58 ⟨b123, rfl, hS⟩
  have hF := hS.freeze1
  clear hS
  obtain ⟨I123, hS, hI123, hb123⟩ := hF
  replace h19 := h19.mono hI123
  replace h25 := h25.mono hI123
  replace hs2 := hs2.mono hI123
  replace h38 := h38.mono hI123
  replace h39 := h39.mono hI123
  replace h42 := h42.mono hI123
  replace h45 := h45.mono hI123
  replace h49 := h49.mono hI123
  replace hs8 := hs8.mono hI123
  replace ho8 := ho8.mono hI123
  replace hs9 := hs9.mono hI123
  replace ho9 := ho9.mono hI123
  replace hs3 := hs3.mono hI123
  replace hs12 := hs12.mono hI123
  replace ho12 := ho12.mono hI123
  replace hs13 := hs13.mono hI123
  replace ho13 := ho13.mono hI123
  replace ho14 := ho14.mono hI123
  replace h88 := h88.mono hI123
  replace hs4 := hs4.mono hI123
  replace h92 := h92.mono hI123
  replace h93 := h93.mono hI123
  replace h107 := h107.mono hI123
  have h123 := RFl.ofAt qB ([1, 2] : List Int) hb123 rfl (by decide)
  refine qqs rfl rfl hS (g_ldO 4 (vs := [.bool _, .int .i64 _, .int .i64 _, .slice _ _ _]) sizeOf46 isAgg46 rfl rfl rfl rfl) ?_
  refine qqs rfl rfl hS (ql (pl := [(0, 1), (1, 4), (5, 1)]) (cs := [.slice _ _ _, .bool _, .int .i64 _, .int .i64 _, .slice _ _ _, .int .i64 _]) zeroValue48 underlying48 (fun w => by simp [sizeOf3, sizeOf31, sizeOf46]) (mp (v := .slice _ _ _) rfl (mp (v := .agg #[.bool _, .int .i64 _, .int .i64 _, .slice _ _ _]) rfl (mp (v := .int .i64 _) rfl mp0))) (sanity30_c_fill7 _ _ _ _ _ _ _ _ _ _ _ _ _ _ _ _)) ?_
  refine qes rfl rfl (qj call36 rfl (kN of12 B12 ⟨some ⟨b123, 0, none⟩, 2, some ⟨b19, 0, none⟩, 2, 2⟩ _ _ _ _ _ _ _ hS.imm ho12 h123 rfl h19 tP_wf rfl rfl rfl rfl)) ?_
  rintro _ w_59 ⟨rfl, hE⟩
  replace hS := hS.callE hE
  refine qq hS (g_and rfl rfl (fun _ => rfl)) ?_
  refine qq hS (Qmb rfl) ?_
  refine qqs rfl rfl hS (qb (o' := 11) underlying51 rfl sizeOf49 rfl rfl rfl) ?_
  refine qqs rfl rfl hS (qf 9 isAgg49 rfl rfl rfl) ?_
  refine qqs rfl rfl hS (g_eql rfl rfl) ?_
  refine qq hS (g_and rfl rfl (fun _ => rfl)) ?_
  refine qq hS (Qmb rfl) ?_
  refine qqs rfl rfl hS (qb (o' := 11) underlying51 rfl sizeOf49 rfl rfl rfl) ?_
  refine qqs rfl rfl hS (qf 10 isAgg49 rfl rfl rfl) ?_
  refine qqs rfl rfl hS (g_eql rfl rfl) ?_
  refine qq hS (g_and rfl rfl (fun _ => rfl)) ?_
  refine qq hS (Qmb rfl) ?_
  refine qqs rfl rfl hS (qb (o' := 0) underlying38 rfl sizeOf34 rfl rfl rfl) ?_
  refine qqs rfl rfl hS (qb (o' := 0) underlying34 rfl sizeOf31 rfl rfl rfl) ?_
  refine qqs rfl rfl hS (qf 0 isAgg31 rfl rfl rfl) ?_
  refine qes rfl rfl (d_lit (vs := [.int .i64 _, .int .i64 _]) (cs := [.int .i64 _, .int .i64 _]) hS underlying31 sizeOf3 zeroValue3 rfl rfl rfl rfl (fun v hv => by simp only [List.mem_cons, List.not_mem_nil, or_false] at hv; rcases hv with rfl | rfl <;> rfl) rfl) ?_
  clear hS
  rintro _ w_60 ⟨b142, rfl, hS⟩
  have hF := hS.freeze1
  clear hS
  obtain ⟨I142, hS, hI142, hb142⟩ := hF
  replace h19 := h19.mono hI142
  replace h25 := h25.mono hI142
  replace hs2 := hs2.mono hI142
  replace h38 := h38.mono hI142
  replace h39 := h39.mono hI142
  replace h42 := h42.mono hI142
  replace h45 := h45.mono hI142
  replace h49 := h49.mono hI142
  replace hs8 := hs8.mono hI142
  replace ho8 := ho8.mono hI142
  replace hs9 := hs9.mono hI142
  replace ho9 := ho9.mono hI142
  replace hs3 := hs3.mono hI142
  replace hs12 := hs12.mono hI142
  replace ho12 := ho12.mono hI142
  replace hs13 := hs13.mono hI142
  replace ho13 := ho13.mono hI142
  replace ho14 := ho14.mono hI142
  replace h88 := h88.mono hI142
  replace hs4 := hs4.mono hI142
  replace h92 := h92.mono hI142
  replace h93 := h93.mono hI142
  replace h107 := h107.mono hI142
  replace h123 := h123.mono hI142
  have h142 := RFl.ofAt qB ([2, 3] : List Int) hb142 rfl (by decide)
  refine qes rfl rfl (qj call35 rfl (zP _ _ _ _ [2, 3] [2, 3] _ _ hS.imm hs4.g.vs h142)) ?_
  rintro _ w_61 ⟨rfl, hE⟩
  replace hS := hS.callE hE
  refine qq hS (g_and rfl rfl (fun _ => rfl)) ?_
  refine qq hS (Qmb rfl) ?_
  refine qqs rfl rfl hS (qb (o' := 0) underlying38 rfl sizeOf34 rfl rfl rfl) ?_
  refine qqs rfl rfl hS (qb (o' := 1) underlying34 rfl sizeOf32 rfl rfl rfl) ?_
  refine qqs rfl rfl hS (qf 0 isAgg32 rfl rfl rfl) ?_
  refine qqs rfl rfl hS (qs rfl underlying32 hs4.g.ls rfl) ?_
  refine qqs rfl rfl hS (g_eql rfl rfl) ?_
  refine qq hS (g_and rfl rfl (fun _ => rfl)) ?_
  refine qq hS (Qmb rfl) ?_
  refine qqs rfl rfl hS (qb (o' := 2) underlying38 rfl sizeOf35 rfl rfl rfl) ?_
  refine qqs rfl rfl hS (qf 0 isAgg35 rfl rfl rfl) ?_
  refine qqs rfl rfl hS (qs rfl underlying35 hs4.ps rfl) ?_
  refine qqs rfl rfl hS (g_eql rfl rfl) ?_
  refine qq hS (g_and rfl rfl (fun _ => rfl)) ?_
  refine qq hS (Qab rfl) (QoN (wpIn_ret ?_))
  refine ret1 results11 (qi (v := .bool _) rfl) ?_
  exact ⟨_, rfl, hS.nil⟩
 ·
  have hS0 := hS
  refine se rfl (qj call43 rfl (kZ 2 _ _ hS.imm (by decide))) ?_
  rintro _ w_62 ⟨I_f, a93, m93, c93, rfl, hE, h93⟩
  replace hS := hS.call hE
  replace h19 := h19.mono hE.ext
  replace h25 := h25.mono hE.ext
  replace hs2 := hs2.mono hE.ext
  replace h38 := h38.mono hE.ext
  replace h39 := h39.mono hE.ext
  replace h42 := h42.mono hE.ext
  replace h45 := h45.mono hE.ext
  replace h49 := h49.mono hE.ext
  replace hs8 := hs8.mono hE.ext
  replace ho8 := ho8.mono hE.ext
  replace hs9 := hs9.mono hE.ext
  replace ho9 := ho9.mono hE.ext
  replace hs3 := hs3.mono hE.ext
  replace hs12 := hs12.mono hE.ext
  replace ho12 := ho12.mono hE.ext
  replace hs13 := hs13.mono hE.ext
  replace ho13 := ho13.mono hE.ext
  replace ho14 := ho14.mono hE.ext
  replace h88 := h88.mono hE.ext
  replace hs4 := hs4.mono hE.ext
  refine ⟨_, _, hS0.le hE.ext (List.Sublist.refl _), hS, ?_⟩
  have hS0 := hS
  refine se rfl (d_lit (vs := [.int .i64 _, .int .i64 _, .int .i64 _]) (cs := [.int .i64 _, .int .i64 _, .int .i64 _]) hS underlying31 sizeOf3 zeroValue3 rfl rfl rfl rfl (fun v hv => by simp only [List.mem_cons, List.not_mem_nil, or_false] at hv; rcases hv with rfl | rfl | rfl <;> rfl) rfl) ?_
  rintro _ w_63 ⟨b92, rfl, hS⟩
  have hF := hS.freeze1
  clear hS
  obtain ⟨I92, hS, hI92, hb92⟩ := hF
  replace h19 := h19.mono hI92
  replace h25 := h25.mono hI92
  replace hs2 := hs2.mono hI92
  replace h38 := h38.mono hI92
  replace h39 := h39.mono hI92
  replace h42 := h42.mono hI92
  replace h45 := h45.mono hI92
  replace h49 := h49.mono hI92
  replace hs8 := hs8.mono hI92
  replace ho8 := ho8.mono hI92
  replace hs9 := hs9.mono hI92
  replace ho9 := ho9.mono hI92
  replace hs3 := hs3.mono hI92
  replace hs12 := hs12.mono hI92
  replace ho12 := ho12.mono hI92
  replace hs13 := hs13.mono hI92
  replace ho13 := ho13.mono hI92
  replace ho14 := ho14.mono hI92
  replace h88 := h88.mono hI92
  replace hs4 := hs4.mono hI92
  replace h93 := h93.mono hI92
  have h92 := RFl.ofAt qB ([1, 2, 3] : List Int) hb92 rfl (by decide)
  refine ⟨_, _, hS0.le hI92 (List.Sublist.refl _), hS, ?_⟩
  refine sp rfl (ql (pl := [(0, 1), (1, 4), (5, 1)]) (cs := [.slice _ _ _, .bool _, .int .i64 _, .int .i64 _, .slice _ _ _, .int .i64 _]) zeroValue48 underlying48 (fun w => by simp [sizeOf3, sizeOf31, sizeOf46]) (mp (v := .slice _ _ _) rfl (mp (v := .agg #[.bool _, .int .i64 _, .int .i64 _, .slice _ _ _]) rfl (mp (v := .int .i64 _) rfl mp0))) (sanity30_c_fill8 _ _ _ _ _ _ _ _ _ _ _ _ _ _ _ _)) ?_
  have hS0 := hS
  refine se rfl (qj call36 rfl (kN of8 B8 ⟨some ⟨b92, 0, none⟩, 3, a93, m93, c93⟩ _ _ _ _ _ _ _ hS.imm ho8 h92 rfl h93 (zx (by decide)) rfl rfl rfl rfl)) ?_
  rintro _ w_64 ⟨rfl, hE⟩
  replace hS := hS.call hE
  refine ⟨_, _, hS0.le hE.ext (List.Sublist.refl _), hS, ?_⟩
  refine sp rfl (Qmb rfl) ?_
  refine spt rfl rfl rfl (qb (o' := 0) underlying51 rfl sizeOf38 rfl rfl rfl) ?_
  refine spt rfl rfl rfl (qb (o' := 4) underlying38 rfl sizeOf36 rfl rfl rfl) ?_
  refine sht rfl rfl rfl (qf 6 isAgg36 rfl rfl rfl) ?_
  refine spt rfl rfl rfl (qs rfl underlying36 hs8.cache rfl) ?_
  refine spt rfl rfl rfl (g_eql rfl rfl) ?_
  refine sp rfl (g_and rfl rfl (fun _ => rfl)) ?_
  refine sp rfl (Qab rfl) ?_
  refine sn (thenN ?_)
  refine QwR (qq hS (Qmb rfl) (qq hS (Qmb rfl) ?_))
  refine qqs rfl rfl hS (qb (o' := 5) underlying51 rfl sizeOf48 rfl rfl rfl) ?_
  refine qqs rfl rfl hS (g_ldO 7 (vs := [.slice _ _ _, .bool _, .int .i64 _, .int .i64 _, .slice _ _ _, .int .i64 _]) sizeOf48 isAgg48 rfl rfl rfl rfl) ?_
  refine qes rfl rfl (d_lit (vs := [.int .i64 _]) (cs := [.int .i64 _]) hS underlying31 sizeOf3 zeroValue3 rfl rfl rfl rfl (fun v hv => by simp only [List.mem_cons, List.not_mem_nil, or_false] at hv; subst hv; rfl) rfl) ?_
  clear hS
  rintro _ w_65 ⟨b107, rfl, hS⟩
  have hF := hS.freeze1
  clear hS
  obtain ⟨I107, hS, hI107, hb107⟩ := hF
  replace h19 := h19.mono hI107
  replace h25 := h25.mono hI107
  replace hs2 := hs2.mono hI107
  replace h38 := h38.mono hI107
  replace h39 := h39.mono hI107
  replace h42 := h42.mono hI107
  replace h45 := h45.mono hI107
  replace h49 := h49.mono hI107
  replace hs8 := hs8.mono hI107
  replace ho8 := ho8.mono hI107
  replace hs9 := hs9.mono hI107
  replace ho9 := ho9.mono hI107
  replace hs3 := hs3.mono hI107
  replace hs12 := hs12.mono hI107
  replace ho12 := ho12.mono hI107
  replace hs13 := hs13.mono hI107
  replace ho13 := ho13.mono hI107
  replace ho14 := ho14.mono hI107
  replace h88 := h88.mono hI107
  replace hs4 := hs4.mono hI107
  replace h93 := h93.mono hI107
  replace h92 := h92.mono hI107
  have h107 := RFl.ofAt qB ([3] : List Int) hb107 rfl (by decide)
  refine qqs rfl rfl hS (ql (pl := [(0, 1), (1, 4), (5, 1)]) (cs := [.slice _ _ _, .bool _, .int .i64 _, .int .i64 _, .slice _ _ _, .int .i64 _]) zeroValue48 underlying48 (fun w => by simp [sizeOf3, sizeOf31, sizeOf46]) (mp (v := .slice _ _ _) rfl mp0) (sanity30_c_fill9 _ _ _ _ _ _ _ _ _)) ?_
  refine qes rfl rfl (qj call36 rfl (kN of9 B9 ⟨some ⟨b107, 0, none⟩, 1, none, 0, 0⟩ _ _ _ _ _ _ _ hS.imm ho9 h107 rfl RSl.nilR (yL (by kernel_rfl)) rfl rfl rfl rfl)) ?_
  rintro _ w_66 ⟨rfl, hE⟩
  replace hS := hS.callE hE
  refine qq hS (g_and rfl rfl (fun _ => rfl)) ?_
  refine qq hS (Qmb rfl) ?_
  refine qqs rfl rfl hS (qb (o' := 11) underlying51 rfl sizeOf49 rfl rfl rfl) ?_
  refine qqs rfl rfl hS (qf 7 isAgg49 rfl rfl rfl) ?_
  refine qqs rfl rfl hS (g_eql rfl rfl) ?_
  refine qq hS (g_and rfl rfl (fun _ => rfl)) ?_
  refine qq hS (Qmb rfl) ?_
  refine qqs rfl rfl hS (Qmi rfl) ?_
  refine qqs rfl rfl hS (g_eql rfl rfl) ?_
  refine qq hS (g_and rfl rfl (fun _ => rfl)) ?_
  refine qq hS (Qmb rfl) ?_
  refine qqs rfl rfl hS (qb (o' := 5) underlying51 rfl sizeOf48 rfl rfl rfl) ?_
  refine qqs rfl rfl hS (g_ldO 8 (vs := [.slice _ _ _, .bool _, .int .i64 _, .int .i64 _, .slice _ _ _, .int .i64 _]) sizeOf48 isAgg48 rfl rfl rfl rfl) ?_
  refine qes rfl rfl (d_lit (vs := [.int .i64 _, .int .i64 _]) (cs := [.int .i64 _, .int .i64 _]) hS underlying31 sizeOf3 zeroValue3 rfl rfl rfl rfl (fun v hv => by simp only [List.mem_cons, List.not_mem_nil, or_false] at hv; rcases hv with rfl | rfl <;> rfl) rfl) ?_
  clear hS
  rintro _ w_67 ⟨b123, rfl, hS⟩
  have hF := hS.freeze1
  clear hS
  obtain ⟨I123, hS, hI123, hb123⟩ := hF
  replace h19 := h19.mono hI123
  replace h25 := h25.mono hI123
  replace hs2 := hs2.mono hI123
  replace h38 := h38.mono hI123
  replace h39 := h39.mono hI123
  replace h42 := h42.mono hI123
  replace h45 := h45.mono hI123
  replace h49 := h49.mono hI123
  replace hs8 := hs8.mono hI123
  replace ho8 := ho8.mono hI123
  replace hs9 := hs9.mono hI123
  replace ho9 := ho9.mono hI123
  replace hs3 := hs3.mono hI123
  replace hs12 := hs12.mono hI123
  replace ho12 := ho12.mono hI123
  replace hs13 := hs13.mono hI123
  replace ho13 := ho13.mono hI123
  replace ho14 := ho14.mono hI123
  replace h88 := h88.mono hI123
  replace hs4 := hs4.mono hI123
  replace h93 := h93.mono hI123
  replace h92 := h92.mono hI123
  replace h107 := h107.mono hI123
  have h123 := RFl.ofAt qB ([1, 2] : List Int) hb123 rfl (by decide)
  refine qqs rfl rfl hS (g_ldO 4 (vs := [.bool _, .int .i64 _, .int .i64 _, .slice _ _ _]) sizeOf46 isAgg46 rfl rfl rfl rfl) ?_
  refine qqs rfl rfl hS (ql (pl := [(0, 1), (1, 4), (5, 1)]) (cs := [.slice _ _ _, .bool _, .int .i64 _, .int .i64 _, .slice _ _ _, .int .i64 _]) zeroValue48 underlying48 (fun w => by simp [sizeOf3, sizeOf31, sizeOf46]) (mp (v := .slice _ _ _) rfl (mp (v := .agg #[.bool _, .int .i64 _, .int .i64 _, .slice _ _ _]) rfl (mp (v := .int .i64 _) rfl mp0))) (sanity30_c_fill10 _ _ _ _ _ _ _ _ _ _ _ _ _ _ _ _)) ?_
  refine qes rfl rfl (qj call36 rfl (kN of12 B12 ⟨some ⟨b123, 0, none⟩, 2, some ⟨b19, 0, none⟩, 2, 2⟩ _ _ _ _ _ _ _ hS.imm ho12 h123 rfl h19 tP_wf rfl rfl rfl rfl)) ?_
  rintro _ w_68 ⟨rfl, hE⟩
  replace hS := hS.callE hE
  refine qq hS (g_and rfl rfl (fun _ => rfl)) ?_
  refine qq hS (Qmb rfl) ?_
  refine qqs rfl rfl hS (qb (o' := 11) underlying51 rfl sizeOf49 rfl rfl rfl) ?_
  refine qqs rfl rfl hS (qf 9 isAgg49 rfl rfl rfl) ?_
  refine qqs rfl rfl hS (g_eql rfl rfl) ?_
  refine qq hS (g_and rfl rfl (fun _ => rfl)) ?_
  refine qq hS (Qmb rfl) ?_
  refine qqs rfl rfl hS (qb (o' := 11) underlying51 rfl sizeOf49 rfl rfl rfl) ?_
  refine qqs rfl rfl hS (qf 10 isAgg49 rfl rfl rfl) ?_
  refine qqs rfl rfl hS (g_eql rfl rfl) ?_
  refine qq hS (g_and rfl rfl (fun _ => rfl)) ?_
  refine qq hS (Qmb rfl) ?_
  refine qqs rfl rfl hS (qb (o' := 0) underlying38 rfl sizeOf34 rfl rfl rfl) ?_
  refine qqs rfl rfl hS (qb (o' := 0) underlying34 rfl sizeOf31 rfl rfl rfl) ?_
  refine qqs rfl rfl hS (qf 0 isAgg31 rfl rfl rfl) ?_
  refine qes rfl rfl (d_lit (vs := [.int .i64 _, .int .i64 _]) (cs := [.int .i64 _, .int .i64 _]) hS underlying31 sizeOf3 zeroValue3 rfl rfl rfl rfl (fun v hv => by simp only [List.mem_cons, List.not_mem_nil, or_false] at hv; rcases hv with rfl | rfl <;> rfl) rfl) ?_
  clear hS
  rintro _ w_69 ⟨b142, rfl, hS⟩
  have hF := hS.freeze1
  clear hS
  obtain ⟨I142, hS, hI142, hb142⟩ := hF
  replace h19 := h19.mono hI142
  replace h25 := h25.mono hI142
  replace hs2 := hs2.mono hI142
  replace h38 := h38.mono hI142
  replace h39 := h39.mono hI142
  replace h42 := h42.mono hI142
  replace h45 := h45.mono hI142
  replace h49 := h49.mono hI142
  replace hs8 := hs8.mono hI142
  replace ho8 := ho8.mono hI142
  replace hs9 := hs9.mono hI142
  replace ho9 := ho9.mono hI142
  replace hs3 := hs3.mono hI142
  replace hs12 := hs12.mono hI142
  replace ho12 := ho12.mono hI142
  replace hs13 := hs13.mono hI142
  replace ho13 := ho13.mono hI142
  replace ho14 := ho14.mono hI142
  replace h88 := h88.mono hI142
  replace hs4 := hs4.mono hI142
  replace h93 := h93.mono hI142
  replace h92 := h92.mono hI142
  replace h107 := h107.mono hI142
  replace h123 := h123.mono hI142
  have h142 := RFl.ofAt qB ([2, 3] : List Int) hb142 rfl (by decide)
  refine qes rfl rfl (qj call35 rfl (zP _ _ _ _ [2, 3] [2, 3] _ _ hS.imm hs4.g.vs h142)) ?_
  rintro _ w_70 ⟨rfl, hE⟩
  replace hS := hS.callE hE
  refine qq hS (g_and rfl rfl (fun _ => rfl)) ?_
  refine qq hS (Qmb rfl) ?_
  refine qqs rfl rfl hS (qb (o' := 0) underlying38 rfl sizeOf34 rfl rfl rfl) ?_
  refine qqs rfl rfl hS (qb (o' := 1) underlying34 rfl sizeOf32 rfl rfl rfl) ?_
  refine qqs rfl rfl hS (qf 0 isAgg32 rfl rfl rfl) ?_
  refine qqs rfl rfl hS (qs rfl underlying32 hs4.g.ls rfl) ?_
  refine qqs rfl rfl hS (g_eql rfl rfl) ?_
  refine qq hS (g_and rfl rfl (fun _ => rfl)) ?_
  refine qq hS (Qmb rfl) ?_
  refine qqs rfl rfl hS (qb (o' := 2) underlying38 rfl sizeOf35 rfl rfl rfl) ?_
  refine qqs rfl rfl hS (qf 0 isAgg35 rfl rfl rfl) ?_
  refine qqs rfl rfl hS (qs rfl underlying35 hs4.ps rfl) ?_
  refine qqs rfl rfl hS (g_eql rfl rfl) ?_
  refine qq hS (g_and rfl rfl (fun _ => rfl)) ?_
  refine qq hS (Qab rfl) (QoN (wpIn_ret ?_))
  refine ret1 results11 (qi (v := .bool _) rfl) ?_
  exact ⟨_, rfl, hS.nil⟩
end Go.Proofs.YtcajgkfgjpfmaaaGreat
