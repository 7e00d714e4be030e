/- match.window: add and least; the order of numbers as a function value. Conditions: less than a million of elements; least: there is one from the place on. match.find: the cheapest steps to all places. Conditions: at most 65536 bytes each. match.Plain: the cheapest patch; slices.Clone of bytes, slices.Reverse of operations. Conditions: at most 65536 bytes each. What match.Plain answers: a right patch that makes the new bytes of the old ones; none is cheaper. Conditions: bytes are bytes. -/
import Derived.Test.YtgkgihnpjgbmhaaGreatDoorKM2
import Derived.Test.YtgkgihnpjgbmhaaGreatDoorKM0
import Derived.Test.YtgkgihnpjgbmhaaGreatDoorKCore4
import Derived.Test.YtgkgihnpjgbmhaaGreatDoorKCore3
import Derived.Test.YtgkgihnpjgbmhaaGreatDoorCheckW
import Derived.Test.YtgkgihnpjgbmhaaGreatDoorKComp
set_option linter.unusedSimpArgs false
set_option linter.unusedVariables false
namespace Go.Proofs.YtgkgihnpjgbmhaaGreatDoor
open Tryz
open Go Go.RowKit Go.Inl
def ints (l:List Int):List Value:=l.map (Value.int .i64)
theorem ints_len (l:List Int):(ints l).length=l.length:=Qb ..
theorem ints_get {l:List Int}{i:Nat}{x:Int}(h:l[i]? = some x):(ints l)[i]? = some (.ig x):=by unfold ints; rw[uW,h]; rfl
theorem zp (l:List Int)(n:Nat)(x:Int):List.take n (ints l)++[.ig x]=ints (l.take n++[x]):=by unfold ints; rw[Qp,List.map_take]; rfl
theorem winLe {X:List Nat}{w0 w:World}{I0 I:Imm}{L:List Res}(i:Nat){ad:Option Addr}{len cap:Nat}{E:TypeId}{xs:List Value}(h:St X w0 I0 I w L)(hL:L[i]? = some (.win (.sg ad len cap) E xs)):len=xs.length∧xs.length≤cap:=by
 rcases h.hold _ (xR hL) with ⟨hv,rfl⟩ | ⟨g,o,cp,cur,hv,h2,h3,h4,h5,h6⟩
 · injection hv with e1 e2 e3; subst e2 e3; exact⟨rfl,uc _⟩
 · injection hv with e1 e2 e3; subst e2 e3; exact⟨rfl,h3⟩
structure LeW where
 k:Nat
 P:List Int
 V:List Int
 pa:Option Addr
 pc:Nat
 va:Option Addr
 vc:Nat
theorem lessM_c (x y : Int) (w0 : World) (I0 : Imm) (hI : Sat I0 w0) :
 Ctr prog 60 [.ig x,.ig y] w0 (fun v w'=>v = .bool (decide (x < y))∧Ext w0 I0 w' I0):=by
 refine fn (n:=8) func60 rfl rfl rfl ?_;have Z:=St.start hI;refine QwR (qq Z (Qab rfl) (QoR (qq Z (Qmi rfl) (qq Z (Qmi rfl) (qq Z (g_lss rfl rfl) (qq Z (Qab rfl) (QoN (xO (ret1 results60 (qg (v:=.bool _) rfl) ?_)))))))));exact⟨rfl,Z.nil⟩
set_option maxHeartbeats 2000000 in
theorem addM_c (place x : Int) (b : Nat) (pa va : Option Addr) (pc vc : Nat) (ps vs : List Int) (X : List Nat) (w0 : World) (I0 : Imm) (hl : ps.length = vs.length) (hb : ps.length ≤ 1048576) (hS0 : St X w0 I0 I0 w0 [.win (.sg pa ps.length pc) 3 (ints ps), .win (.sg va vs.length vc) 3 (ints vs), .cel b 124 [.sg pa ps.length pc, .sg va vs.length vc, .func (.func 60) #[] #[]]]) :
 Ctr prog 61 [.zg b,.ig place,.ig x] w0 (fun v w'=>v = .tuple #[]∧∃n pa' pc' va' vc',AddAt vs x n∧St X w0 I0 I0 w' [.win (.sg pa' (n+1) pc') 3 (ints (ps.take n++[place])),.win (.sg va' (n+1) vc') 3 (ints (vs.take n++[x])),.cel b 124 [.sg pa' (n+1) pc',.sg va' (n+1) vc',.func (.func 60) #[] #[]]]):=by
 refine fn (n:=57) func61 rfl rfl rfl ?_;have Z:=hS0;have hI:=Z.imm;have hw1:=winLe 0 Z rfl;have hw2:=winLe 1 Z rfl;rw[ints_len]at hw1 hw2;refine QwR (qq Z (qb _) (qq Z (qm rfl) (qq Z (qa (o':=1) Qw rfl uE rfl rfl rfl) (qq Z (qc 2 Qz rfl rfl rfl) (qq Z (yj rfl uf rfl) (qq Z (Qai rfl) (QoN (meet (fun σ w=>∃n:Nat,okS σ [(0,.zg b),(1,.ig place),(2,.ig x),(6,.ig n)]∧St X w0 I0 I0 w [.win (.sg pa ps.length pc) 3 (ints ps),.win (.sg va vs.length vc) 3 (ints vs),.cel b 124 [.sg pa ps.length pc,.sg va vs.length vc,.func (.func 60) #[] #[]]]∧AddAt vs x n) ?_ ?_))))))))
 ·
  refine xU (loop (fun(z:Nat) σ w=>okS σ [(0,.zg b),(1,.ig place),(2,.ig x),(6,.ig z)]∧St X w0 I0 I0 w [.win (.sg pa ps.length pc) 3 (ints ps),.win (.sg va vs.length vc) 3 (ints vs),.cel b 124 [.sg pa ps.length pc,.sg va vs.length vc,.func (.func 60) #[] #[]]]∧z≤vs.length∧∀j,z≤j→∀y,vs[j]? = some y→x≤y) (fun z=>z) (vs.length) ?_ ?_)
  ·
   exact⟨⟨rfl,rfl,rfl,rfl,trivial⟩,Z.sel [true,true,true],uc _,fun j hj y hy=>by have:=(xX.1 hy).1; omega⟩
  ·
   rintro n σ w_l⟨hs,Z,hn,hn2⟩;rw[← qj hs]; clear hs
   refine xJ (xJ ((Nat.eq_zero_or_pos n).elim (fun hz=>?_) (fun hz=>?_)))
   ·
    refine draw (.pg 0 (.pg 1 (.pg 2 (.pg 3 (.pg 4 (.pg 5 (.pg 6 (.pg 7 (.pg 8 (.pg 9 (.pg 10 (.pg 11 (.pg 12 (.pg 13 (.pg 14 (.pg 15 (.cons 16 .eff (.pg 17 (.pg 18 .nil))))))))))))))))))) mixed (by kernel_rfl) Z ?_;intro w_1 Z;refine sp rfl (Qmi rfl) (sp rfl (qJ (g_gtr rfl rfl) (congrArg Value.bool (uw (by omega)))) (sp rfl (Qmb rfl) (spf rfl rfl rfl rfl (spf rfl rfl rfl rfl (spf rfl rfl rfl rfl (spf rfl rfl rfl rfl (spf rfl rfl rfl rfl (spf rfl rfl rfl rfl (spf rfl rfl rfl rfl (spf rfl rfl rfl rfl (spf rfl rfl rfl rfl ?_)))))))))));refine spf rfl rfl rfl rfl (spf rfl rfl rfl rfl (spf rfl rfl rfl rfl (spf rfl rfl rfl rfl (sgf rfl rfl rfl rfl (Z) (spf rfl rfl rfl rfl (sp rfl (g_and (b:=false) rfl rfl (fun h=>by cases h)) (sn (xL (qV (rfl) (ur (um (um (Qi (xL ?_))))))))))))))
    first
     | exact⟨_,rfl,_,⟨rfl,rfl,rfl,rfl,trivial⟩,Z.sel [true,true,true],⟨by omega,hn2,fun y h=>by omega⟩⟩
     | exact⟨_,rfl,_,⟨rfl,rfl,rfl,rfl,trivial⟩,Z.sel [true,true,true],⟨by omega,hn2,fun y2 _ h=>by rw[hy]at h; obtain rfl:=Option.some.inj h; exact hyx⟩⟩
   ·
    obtain⟨y,hy⟩:∃y,vs[n - 1]? = some y:=⟨_,xI (by omega)⟩
    have hy2:(ints vs)[((n:Int) - 1).toNat]? = some (.ig y):=ints_get (by rw[show((n:Int) - 1).toNat=n - 1 by omega]; exact hy);refine draw (.pg 0 (.pg 1 (.pg 2 (.pg 3 (.pg 4 (.pg 5 (.hg 6 (.pg 7 (.pg 8 (.pg 9 (.hg 10 (.pg 11 (.pg 12 (.hg 13 (.hg 14 (.pg 15 (.cons 16 .eff (.pg 17 (.pg 18 .nil))))))))))))))))))) mixed (by kernel_rfl) Z ?_;intro w_2 Z;refine sp rfl (Qmi rfl) (sp rfl (qJ (g_gtr rfl rfl) (congrArg Value.bool (uH (by omega)))) (sp rfl (Qmb rfl) (spt rfl rfl rfl (qb _) (spt rfl rfl rfl (qm rfl) (spt rfl rfl rfl (qa (o':=2) Qw rfl sizeOf121 rfl rfl rfl) (sht rfl rfl rfl (qc 2 isAgg121 rfl rfl rfl) (spt rfl rfl rfl (qb _) (spt rfl rfl rfl (qm rfl) ?_))))))));refine spt rfl rfl rfl (qa (o':=1) Qw rfl uE rfl rfl rfl) (sht rfl rfl rfl (qc 2 Qz rfl rfl rfl) (spt rfl rfl rfl (Qmi rfl) (spt rfl rfl rfl (g_sub rfl rfl (by omega) (by omega)) ?_)));refine sht rfl rfl rfl (g_ixW 1 uf xK rfl rfl rfl (by omega) (by rw[ints_len]; omega)) ?_;refine sht rfl rfl rfl (g_ldW 1 xW rfl rfl hy2) (spt rfl rfl rfl (Qmi rfl) ?_);have hS0:=Z;refine Inl.set rfl rfl rfl (zb call60 rfl rfl (lessM_c y x _ I0 Z.imm)) ?_;rintro _ w_3⟨rfl,hE⟩;replace Z:=Z.call hE;refine⟨_,_,hS0.le hE.ext (uu _),Z,spt rfl rfl rfl (g_not rfl) (sp rfl (g_and rfl rfl (fun _=>rfl)) (sn (xL (qh rfl ?_ ?_))))⟩
    ·
     intro hc30;have hyx:x≤y:=by simpa using hc30
     refine xM (xL (xU (reg (qq Z (Qmi rfl) (qq Z (g_sub rfl rfl (by omega) (by omega)) (qq Z (Qai rfl) ?_))))));exact⟨n - 1,_,rfl,⟨⟨rfl,rfl,rfl,by show Value.int .i64 ((n:Int) - 1) = .ig ((n - 1:Nat):Int); rw[Int.ofNat_sub hz]; rfl,trivial⟩,Z.sel [true,true,true],by omega,fun j hj y2 hy3=>by
      by_cases e:j=n - 1
      · subst e; rw[hy]at hy3; obtain rfl:=Option.some.inj hy3; exact hyx
      · exact hn2 j (by omega) y2 hy3⟩,by omega⟩
    ·
     intro hc30;have hyx:y < x:=by simpa using hc30
     refine ur (um (um (Qi (xL ?_))))
     first
      | exact⟨_,rfl,_,⟨rfl,rfl,rfl,rfl,trivial⟩,Z.sel [true,true,true],⟨by omega,hn2,fun y h=>by omega⟩⟩
      | exact⟨_,rfl,_,⟨rfl,rfl,rfl,rfl,trivial⟩,Z.sel [true,true,true],⟨by omega,hn2,fun y2 _ h=>by rw[hy]at h; obtain rfl:=Option.some.inj h; exact hyx⟩⟩
 ·
  rintro σ w⟨n,hs,Z,hat⟩;have hat1:=hat.le;rw[← qj hs];refine drawS [false,false,true] (.pg 0 (.pg 1 (.pg 2 (.pg 3 (.pg 4 (.hg 5 (.pg 6 (.pg 7 (.pg 8 (.pg 11 (.pg 12 (.pg 13 (.hg 14 (.pg 15 (.pg 16 (.pg 17 (.fork 9 (.fork 10 (.cons 18 .eff (.cons 19 .eff (.pg 20 (.pg 21 (.cons 22 .bar (.pg 23 (.pg 24 (.cons 25 .bar .nil)))))))) 18 (.cons 10 .eff (.cons 19 .eff (.pg 20 (.pg 21 (.cons 22 .bar (.pg 23 (.pg 24 (.cons 25 .bar .nil))))))))) 18 (.cons 9 .eff (.cons 10 .eff (.cons 19 .eff (.pg 20 (.pg 21 (.cons 22 .bar (.pg 23 (.pg 24 (.cons 25 .bar .nil)))))))))))))))))))))))))) mixed (by kernel_rfl) Z ?_;intro w_4 Z;refine sp rfl (qb _) (sp rfl (qb _) (sp rfl (qb _) (sp rfl (qm rfl) (sp rfl (qa (o':=0) Qw rfl uE rfl rfl rfl) (sh rfl (qc 0 Qz rfl rfl rfl) (sp rfl (Qmi rfl) (sp rfl (g_sliceH uf xK rfl rfl (by omega) (by omega)) (sp rfl (Qmi rfl) (sp rfl (qb _) (sp rfl (qm rfl) (sp rfl (qa (o':=1) Qw rfl uE rfl rfl rfl) ?_)))))))))));refine sh rfl (qc 0 Qz rfl rfl rfl) (sp rfl (Qmi rfl) (sp rfl (g_sliceH uf xK rfl rfl (by omega) (by omega)) (sp rfl (Qmi rfl) (sk ?_ ?_))))
  ·
   have hS0:=Z;refine se rfl (d_lit (vs:=[.ig _]) (cs:=[.ig _]) Z uf xK Qe rfl rfl rfl rfl (fun v hv=>by simp only[xV,xY,or_false]at hv; subst hv; rfl) rfl) ?_;rintro _ w_5⟨b_5,rfl,Z⟩;refine⟨_,_,(hS0.sel [false,false,true]).le (Sub.refl _) (uq _ _),Z.sel [true,false,false,true],sk ?_ ?_⟩
   ·
    have hS0:=Z;refine se rfl (kL 1 0 n Z rfl uf JL rfl rfl rfl (by rw[ints_len]; omega) rfl rfl rfl rfl (by omega) (by omega)) ?_;rintro _ w_6⟨a43,p43,rfl,Z⟩;refine⟨_,_,fun _ h=>h,Z.sel [true,false,false,true],?_⟩;have hS0:=Z;refine se rfl (d_lit (vs:=[.ig _]) (cs:=[.ig _]) Z uf xK Qe rfl rfl rfl rfl (fun v hv=>by simp only[xV,xY,or_false]at hv; subst hv; rfl) rfl) ?_;rintro _ w_7⟨b_7,rfl,Z⟩;refine⟨_,_,(hS0.sel [true,false,false,true]).le (Sub.refl _) (uq _ _),Z.sel [true,true,false,false,true],?_⟩;have hS0:=Z;refine se rfl (kL 3 0 n Z rfl uf JL rfl rfl rfl (by rw[ints_len]; omega) rfl rfl rfl rfl (by omega) (by omega)) ?_;rintro _ w_8⟨a52,p52,rfl,Z⟩;refine⟨_,_,fun _ h=>h,Z.sel [true,true,false,false,true],sp rfl (qm rfl) (sp rfl (qa (o':=0) Qw rfl uE rfl rfl rfl) (sb rfl (qf 4 Z uE rfl rfl rfl (vs:=[.sg _ _ _]) rfl rfl rfl (xH rfl) (cs':=[_,_,_]) rfl) ?_))⟩;rintro _ w_9⟨rfl,Z⟩;refine⟨_,_,Z,sp rfl (qm rfl) (sp rfl (qa (o':=1) Qw rfl uE rfl rfl rfl) (sb rfl (qf 4 Z uE rfl rfl rfl (vs:=[.sg _ _ _]) rfl rfl rfl (xH rfl) (cs':=[_,_,_]) rfl) ?_))⟩;rintro _ w_10⟨rfl,Z⟩;refine⟨_,_,Z,sn (end0 results61  ⟨rfl,n,a43,p43,a52,p52,hat,?_⟩)⟩;rw[← zp,← zp];exact Z.sel [false,false,true,true,true]
   ·
    have hS0:=Z;refine se rfl (d_lit (vs:=[.ig _]) (cs:=[.ig _]) Z uf xK Qe rfl rfl rfl rfl (fun v hv=>by simp only[xV,xY,or_false]at hv; subst hv; rfl) rfl) ?_;rintro _ w_11⟨b_11,rfl,Z⟩;refine⟨_,_,(hS0.sel [true,false,false,true]).le (Sub.refl _) (uq _ _),Z.sel [true,true,false,false,true],?_⟩;have hS0:=Z;refine se rfl (kL 2 1 n Z rfl uf JL rfl rfl rfl (by rw[ints_len]; omega) rfl rfl rfl rfl (by omega) (by omega)) ?_;rintro _ w_12⟨a43,p43,rfl,Z⟩;refine⟨_,_,fun _ h=>h,Z.sel [true,true,false,false,true],?_⟩;have hS0:=Z;refine se rfl (kL 3 0 n Z rfl uf JL rfl rfl rfl (by rw[ints_len]; omega) rfl rfl rfl rfl (by omega) (by omega)) ?_;rintro _ w_13⟨a52,p52,rfl,Z⟩;refine⟨_,_,fun _ h=>h,Z.sel [true,true,false,false,true],sp rfl (qm rfl) (sp rfl (qa (o':=0) Qw rfl uE rfl rfl rfl) (sb rfl (qf 4 Z uE rfl rfl rfl (vs:=[.sg _ _ _]) rfl rfl rfl (xH rfl) (cs':=[_,_,_]) rfl) ?_))⟩;rintro _ w_14⟨rfl,Z⟩;refine⟨_,_,Z,sp rfl (qm rfl) (sp rfl (qa (o':=1) Qw rfl uE rfl rfl rfl) (sb rfl (qf 4 Z uE rfl rfl rfl (vs:=[.sg _ _ _]) rfl rfl rfl (xH rfl) (cs':=[_,_,_]) rfl) ?_))⟩;rintro _ w_15⟨rfl,Z⟩;refine⟨_,_,Z,sn (end0 results61  ⟨rfl,n,a43,p43,a52,p52,hat,?_⟩)⟩;rw[← zp,← zp];exact Z.sel [false,false,true,true,true]
  ·
   have hS0:=Z;refine se rfl (d_lit (vs:=[.ig _]) (cs:=[.ig _]) Z uf xK Qe rfl rfl rfl rfl (fun v hv=>by simp only[xV,xY,or_false]at hv; subst hv; rfl) rfl) ?_;rintro _ w_16⟨b_16,rfl,Z⟩;refine⟨_,_,(hS0.sel [false,false,true]).le (Sub.refl _) (uq _ _),Z.sel [true,false,false,true],?_⟩;have hS0:=Z;refine se rfl (d_lit (vs:=[.ig _]) (cs:=[.ig _]) Z uf xK Qe rfl rfl rfl rfl (fun v hv=>by simp only[xV,xY,or_false]at hv; subst hv; rfl) rfl) ?_;rintro _ w_17⟨b_17,rfl,Z⟩;refine⟨_,_,(hS0.sel [true,false,false,true]).le (Sub.refl _) (uq _ _),Z.sel [true,true,false,false,true],?_⟩;have hS0:=Z;refine se rfl (kL 2 0 n Z rfl uf JL rfl rfl rfl (by rw[ints_len]; omega) rfl rfl rfl rfl (by omega) (by omega)) ?_;rintro _ w_18⟨a43,p43,rfl,Z⟩;refine⟨_,_,fun _ h=>h,Z.sel [true,true,false,false,true],?_⟩;have hS0:=Z;refine se rfl (kL 3 1 n Z rfl uf JL rfl rfl rfl (by rw[ints_len]; omega) rfl rfl rfl rfl (by omega) (by omega)) ?_;rintro _ w_19⟨a52,p52,rfl,Z⟩;refine⟨_,_,fun _ h=>h,Z.sel [true,true,false,false,true],sp rfl (qm rfl) (sp rfl (qa (o':=0) Qw rfl uE rfl rfl rfl) (sb rfl (qf 4 Z uE rfl rfl rfl (vs:=[.sg _ _ _]) rfl rfl rfl (xH rfl) (cs':=[_,_,_]) rfl) ?_))⟩;rintro _ w_20⟨rfl,Z⟩;refine⟨_,_,Z,sp rfl (qm rfl) (sp rfl (qa (o':=1) Qw rfl uE rfl rfl rfl) (sb rfl (qf 4 Z uE rfl rfl rfl (vs:=[.sg _ _ _]) rfl rfl rfl (xH rfl) (cs':=[_,_,_]) rfl) ?_))⟩;rintro _ w_21⟨rfl,Z⟩;refine⟨_,_,Z,sn (end0 results61  ⟨rfl,n,a43,p43,a52,p52,hat,?_⟩)⟩;rw[← zp,← zp];exact Z.sel [false,false,true,true,true]
set_option maxHeartbeats 2000000 in
theorem leastM_c (from_ : Int) (b : Nat) (pa va : Option Addr) (pc vc : Nat) (ps vs : List Int) (X : List Nat) (w0 : World) (I0 : Imm) (hl : ps.length = vs.length) (hb : ps.length ≤ 1048576) (hS0 : St X w0 I0 I0 w0 [.win (.sg pa ps.length pc) 3 (ints ps), .win (.sg va vs.length vc) 3 (ints vs), .cel b 124 [.sg pa ps.length pc, .sg va vs.length vc, .func (.func 60) #[] #[]]]) (hex : ∃ (j : Nat) (y : Int), ps[j]? = some y ∧ from_ ≤ y) :
 Ctr prog 62 [.zg b,.ig from_] w0 (fun v w'=>∃k p pr V pa' pc' va' vc',v = .ig p∧from_≤p∧LeastAt ps vs (p::pr) V from_ k∧(p::pr).length=V.length∧St X w0 I0 I0 w' [.win (.slice pa' (p::pr).length pc') 3 (ints (p::pr)),.win (.sg va' V.length vc') 3 (ints V),.cel b 124 [.slice pa' (p::pr).length pc',.sg va' V.length vc',.func (.func 60) #[] #[]]]):=by
 refine fn (n:=35) func62 rfl rfl rfl ?_;have Z:=hS0;have hI:=Z.imm;refine QwR (qq Z (Qai rfl) (QoN (xJ (xU (loop (fun(z:LeW) σ w=>okS σ [(0,.zg b),(1,.ig from_)]∧St X w0 I0 I0 w [.win (.sg z.pa z.P.length z.pc) 3 (ints z.P),.win (.sg z.va z.V.length z.vc) 3 (ints z.V),.cel b 124 [.sg z.pa z.P.length z.pc,.sg z.va z.V.length z.vc,.func (.func 60) #[] #[]]]∧LeastAt ps vs z.P z.V from_ z.k∧z.P.length=z.V.length) (fun z=>z.P.length) (⟨0,ps,vs,pa,pc,va,vc⟩) ?_ ?_)))))
 ·
  exact⟨⟨rfl,rfl,trivial⟩,Z.sel [true,true,true],⟨rfl,rfl,fun j hj=>absurd hj (Nat.not_lt_zero j)⟩,hl⟩
 ·
  rintro⟨k,P,V,pa1,pc1,va1,vc1⟩σ w_l⟨hs,Z,hla,hPV⟩;dsimp only at hs Z hla hPV ⊢;rw[← qj hs]; clear hs
  obtain⟨p0,pr,v0,vr,rfl,rfl⟩:=hla.cons hl hex;refine xJ (QwR (qq Z (qb _) (qq Z (qm rfl) (qq Z (qa (o':=0) Qw rfl uE rfl rfl rfl) (qq Z (qc 2 Qz rfl rfl rfl) ?_)))));refine qq Z (g_ixW 0 uf xK rfl rfl rfl (by omega) (by rw[ints_len]; exact Int.ofNat_lt.2 (Nat.succ_pos _))) ?_;refine qq Z (g_ldW 0 xW rfl rfl rfl) (qq Z (Qmi rfl) (qq Z (g_lss rfl rfl) (QoN (qh rfl ?_ ?_))))
  ·
   intro hc12
   try simp only[zA,zO,zN,zI,zF,zM,zT,zU]at hc12
   refine xM (xL (xU ?_));obtain⟨pa2,pc2,hr1,_,_,Z⟩:=Z.winTail (v:=.ig p0) (xs:=ints pr) 0 rfl;obtain⟨va2,vc2,hr2,_,_,Z⟩:=Z.winTail (v:=.ig v0) (xs:=ints vr) 1 rfl;rw[ints_len]at hr1 hr2;rw[ints_len,ints_len]at Z;have hst:=hla.step hc12;refine draw (.pg 0 (.pg 1 (.pg 2 (.pg 3 (.pg 4 (.hg 5 (.pg 6 (.pg 7 (.pg 8 (.pg 9 (.hg 10 (.pg 11 (.pg 12 (.pg 13 (.cons 14 .bar (.pg 15 (.pg 16 (.cons 17 .bar .nil)))))))))))))))))) mixed (by kernel_rfl) Z ?_;intro w_1 Z;refine sp rfl (qb _) (sp rfl (qb _) (sp rfl (qb _) (sp rfl (qm rfl) (sp rfl (qa (o':=0) Qw rfl uE rfl rfl rfl) (sh rfl (qc 2 Qz rfl rfl rfl) ?_)))));refine sp rfl (qJ (yh uf xK rfl rfl (by omega) (by show(1:Int)≤((pr.length+1:Nat):Int); omega)) hr1) ?_;refine sp rfl (qb _) (sp rfl (qm rfl) (sp rfl (qa (o':=1) Qw rfl uE rfl rfl rfl) (sh rfl (qc 2 Qz rfl rfl rfl) ?_)));refine sp rfl (qJ (yh uf xK rfl rfl (by omega) (by show(1:Int)≤((vr.length+1:Nat):Int); omega)) hr2) ?_;refine sp rfl (qm rfl) (sp rfl (qa (o':=0) Qw rfl uE rfl rfl rfl) (sb rfl (qf 2 Z uE rfl rfl rfl (vs:=[.sg _ _ _]) rfl rfl rfl (xH rfl) (cs':=[_,_,_]) rfl) ?_));rintro _ w_2⟨rfl,Z⟩;refine⟨_,_,Z,sp rfl (qm rfl) (sp rfl (qa (o':=1) Qw rfl uE rfl rfl rfl) (sb rfl (qf 2 Z uE rfl rfl rfl (vs:=[.sg _ _ _]) rfl rfl rfl (xH rfl) (cs':=[_,_,_]) rfl) ?_))⟩;rintro _ w_3⟨rfl,Z⟩;refine⟨_,_,Z,?_⟩;exact⟨⟨k+1,pr,vr,pa2,pc2,va2,vc2⟩,_,rfl,⟨⟨rfl,rfl,trivial⟩,Z.sel [true,true,true],hst,by simpa using hPV⟩,by dsimp only[List.length_cons]; omega⟩
  ·
   intro hc12
   try simp only[zA,zO,zN,zI,zF,zM,zT,zU]at hc12
   refine ur (um (um (Qi (xL (QwR (qq Z (qb _) (qq Z (qm rfl) (qq Z (qa (o':=0) Qw rfl uE rfl rfl rfl) (qq Z (qc 2 Qz rfl rfl rfl) ?_)))))))));refine qq Z (g_ixW 0 uf xK rfl rfl rfl (by omega) (by rw[ints_len]; exact Int.ofNat_lt.2 (Nat.succ_pos _))) ?_;refine qq Z (g_ldW 0 xW rfl rfl rfl) (qq Z (Qai rfl) (QoN (xO (ret1 results62 (qg (v:=.ig _) rfl) ?_))));exact⟨k,p0,pr,v0::vr,pa1,pc1,va1,vc1,rfl,by omega,hla,hPV,Z.sel [true,true,true]⟩
end Go.Proofs.YtgkgihnpjgbmhaaGreatDoor
namespace Go.Proofs.YtgkgihnpjgbmhaaGreatDoor
open Tryz
open Go Go.RowKit Go.Inl
theorem resl2M {α : Type} {I : Imm} {sz : Nat} {R : List Value → α → Prop} {ad : Option Addr} {len cap : Nat} {xs : List α} (hr : RSl I sz R (.sg ad len cap) xs) (l h : Nat) (hlh : l ≤ h) (hh : h ≤ xs.length) :
 RSl I sz R (Inl.resl (.sg ad len cap) l h cap sz) ((xs.take h).drop l)∧h≤cap∧len=xs.length:=by
 rcases hr with ⟨⟨a,c,e,hc,hn⟩,rfl⟩ | ⟨b,o,c,h1,h2,h3,h4⟩
 · cases e
   simp at hh; subst hh; simp at hlh; subst hlh
   refine⟨.inl ⟨⟨if cap=0 then ad else ad.map (·.add (0*sz)),cap,by simp[Inl.resl],hc,fun h=>?_⟩,by simp⟩,by omega,rfl⟩;split at h
   · assumption
   · cases ad with
     | none=>exact hn rfl
     | some a=>simp at h
 · cases h1
   have hlen:((xs.take h).drop l).length=h - l:=by simp[Nat.min_eq_left hh]
   refine⟨?_,by omega,rfl⟩;by_cases e:cap=l
   · subst e
     refine .inr ⟨b,o,0,?_,by omega,by simp,fun i x hx=>?_⟩
     · simp only[Inl.resl,if_true,Nat.sub_self,hlen]
     · have := (xX.1 hx).1
       omega
   · refine .inr ⟨b, o + l * sz, cap - l, by rw [hlen]; simp [Inl.resl, e, qL], by omega, by omega, ?_⟩
     intro i x hx;rw[List.getElem?_drop,List.getElem?_take]at hx;split at hx
     · obtain ⟨cs, c1, c2, c3⟩ := h4 _ _ hx
       exact⟨cs,c1,by rw[show o+l*sz+i*sz=o+(l+i)*sz by rw[Nat.add_mul]; omega]; exact c2,c3⟩
     · cases hx
def stpC (s:StepL)(ad:Option Addr)(m c:Nat):List Value:=[.ig s.cost,.ig s.from_,.ig s.op.kind,.ig s.op.from_,.ig s.op.len,.bg s.op.b,.sg ad m c]
def RStep (I:Imm)(cs:List Value)(s:StepL):Prop:=∃ad m c,cs=stpC s ad m c∧RFl I 1 byteC (.sg ad m c) s.op.data
theorem RStep.mono {I J:Imm}{cs:List Value}{s:StepL}(h:RStep I cs s)(hs:Inl.Sub I J):RStep J cs s:=by
 obtain⟨ad,m,c,h1,h2⟩:=h;exact⟨ad,m,c,h1,h2.mono hs⟩
def zStep:List Value:=[.ig 0,.ig 0,.ig 0,.ig 0,.ig 0,.bg 0,.sg none 0 0]
theorem xF {I:Imm}{css:List (List Value)}{S:List StepL}(h:All2 (RStep I) css S):∀c∈css,c.length=7:=fun c hc=>by
 obtain⟨i,hi⟩:=Jk.1 hc;have hl:=(xX.1 hi).1;rw[h.1]at hl;obtain⟨ad,m,cp,e,_⟩:=h.2 i c _ hi (xI hl);rw[e]; rfl
theorem steps_zero (I:Imm)(N:Nat):All2 (RStep I) (List.replicate N zStep) (List.replicate N StepL.zero):=by
 refine⟨by rw[uX,uX],fun i cs s h1 h2=>?_⟩;have e1:=List.eq_of_mem_replicate (xR h1);have e2:=List.eq_of_mem_replicate (xR h2);subst e1 e2;exact⟨none,0,0,rfl,RFl.nil⟩
theorem All2.put {α:Type}{R:List Value→α→Prop}{css:List (List Value)}{xs:List α}(h:All2 R css xs){i:Nat}{cs:List Value}{x:α}(hx:R cs x):All2 R (css.set i cs) (xs.set i x):=by
 refine⟨by rw[ud,ud]; exact h.1,fun j c y h1 h2=>?_⟩;rw[List.getElem?_set]at h1 h2;by_cases e:i=j
 · rw [xS e] at h1 h2
   split at h1
   · split at h2
     · rw[← Option.some.inj h1,← Option.some.inj h2]; exact hx
     · cases h2
   · cases h1
 · rw[xP e]at h1 h2; exact h.2 j c y h1 h2
theorem kO {I:Imm}{css:List (List Value)}{S:List StepL}(h:All2 (RStep I) css S){j:Nat}(hj:j < S.length):css.flatten[((j:Nat):Int).toNat*7+0]? = some (.ig (cst S j)):=by
 have hc:j < css.length:=by rw[h.1]; exact hj
 obtain⟨ad,m,cp,e,_⟩:=h.2 j _ _ (xI hc) (xI hj);refine za css (xF h) j _ (xI hc) 0 _ ?_;rw[e,cst_of (xI hj)]; rfl
structure FndI (old new : List Int) (F : List FdW) (k lit run lo : Nat) (S : List StepL) (cp cv xp xv : List Int) : Prop where
 le:k≤new.length
 len:S.length=new.length+1
 dp:DpOk old new S (k+1)
 wc:WinOk (cst S) k lo cp cv
 wx:WinOk (cst S) k run xp xv
 hlt:lit≤k
 lst:∀j,j < k→cst S lit+j≤cst S j+lit
 hlo:∀x,F[k]? = some x→(lo:Int)+x.n≤k
 rn:0 < k→RunAt new run k
 r0:k=0→run=0
theorem FndI.start {old new:List Int}{F:List FdW}(hF:FdsOk old new new.length F):FndI old new F 0 0 0 0 (List.replicate (new.length+1) StepL.zero) [] [] [] [] :=
 ⟨Nat.zero_le _,uX,DpOk.zero_ _ (Nat.succ_pos _),WinOk.nil _,WinOk.nil _,uc _,fun j h=>absurd h (Nat.not_lt_zero j),fun x hx=>by
   obtain⟨p,n,rfl,h⟩:=hF 0 (Nat.zero_le _) x hx;have:=h.len.1;show((0:Nat):Int)+(n:Int)≤((0:Nat):Int); omega,fun h=>absurd h (Nat.lt_irrefl _),fun _=>rfl⟩
theorem FndI.next {old new : List Int} {F : List FdW} {k lit run lo lit' run' lo' : Nat} {S : List StepL} {s : StepL} {cp cv xp xv cp' cv' xp' xv' : List Int} (h : FndI old new F k lit run lo S cp cv xp xv) (hk : k < new.length)
 (hs:StepOk old new (cst S) (k+1) s) (ho:OptAt old new (cst S) (k+1) s.cost) (hwc:WinOk (cst S) (k+1) lo' cp' cv') (hwx:WinOk (cst S) (k+1) run' xp' xv') (hlit:lit'≤k) (hlst:∀j,j < k+1→cst S lit'+j≤cst S j+lit')
 (hlo:∀x,F[k+1]? = some x→(lo':Int)+x.n≤(k+1:Nat)) (hrn:RunAt new run' (k+1)):FndI old new F (k+1) lit' run' lo' (S.set (k+1) s) cp' cv' xp' xv':=by
 have e:∀j,j < k+1→cst S j=cst (S.set (k+1) s) j:=fun j hj=>(cst_set (by omega)).symm
 exact⟨hk,by rw[ud]; exact h.len,h.dp.put (Nat.succ_pos _) (by rw[h.len]; omega) hs ho,hwc.congr e,hwx.congr e,by omega,fun j hj=>by rw[← e lit' (by omega),← e j hj]; exact hlst j hj,hlo,fun _=>hrn,fun h=>by omega⟩
theorem opt_of {old new : List Int} {C : Nat → Int} {i lit run p n qR : Nat} {c : Int} (hi : i ≤ new.length) (hlst : ∀ j, j < i → C lit + j ≤ C j + lit) (hrn : RunAt new run i) (hqR : ∀ j, run ≤ j → j < i → C qR ≤ C j) (hfd : FndOk old (new.take i) p n)
 (h1:c≤C lit+2+(i:Int) - lit) (h2:c≤C qR+4) (h3:n=0∨∃qC,c≤C qC+4∧∀j,i - n≤j→j < i→C qC≤C j):OptAt old new C i c:=by
 refine⟨fun j hj=>?_,fun j b hj hb=>?_,fun j hj hc=>?_⟩
 · have:=hlst j hj; omega
 · have:=hqR j (hrn.max hi hj hb) hj; omega
 · have hm := hfd.most hi (Nat.le_of_lt hj) hc
   rcases h3 with rfl | ⟨qC,h4,h5⟩
   · omega
   · have:=h5 j hm hj; omega
theorem step_lit {old new:List Int}{C:Nat→Int}{i lit:Nat}(h:lit < i):StepOk old new C i ⟨C lit+2+(i:Int) - lit,lit,⟨4,0,(i:Int) - lit,0,pcs new lit i⟩⟩ :=
 ⟨h,.lit rfl,by show C lit+2+(i:Int) - lit=C lit+(2+((i:Int) - lit)); omega⟩
theorem step_run {old new:List Int}{C:Nat→Int}{i run q:Nat}{b:Int}(hi:i≤new.length)(hrn:RunAt new run i)(hq:run≤q)(hqi:q < i)(hb:new[i - 1]? = some b):StepOk old new C i ⟨C q+4,q,⟨3,0,(i:Int) - q,b,[]⟩⟩ :=
 ⟨hqi,.run b rfl (hrn.rep hi hb hq) (xR hb),rfl⟩
theorem step_copy {old new:List Int}{C:Nat→Int}{i p n q:Nat}(hi:i≤new.length)(hfd:FndOk old (new.take i) p n)(hq:i - n≤q)(hqi:q < i):StepOk old new C i ⟨C q+4,q,⟨1,(p:Int) - ((i:Int) - q),(i:Int) - q,0,[]⟩⟩ :=
 ⟨hqi,.copy p rfl (hfd.piece hi hq (Nat.le_of_lt hqi)).1 hfd.le (hfd.piece hi hq (Nat.le_of_lt hqi)).2,rfl⟩
structure FnW where
 k:Nat
 lit:Nat
 run:Nat
 lo:Nat
 S:List StepL
 css:List (List Value)
 cp:List Int
 cv:List Int
 xp:List Int
 xv:List Int
 a1:Option Addr
 c1:Nat
 a2:Option Addr
 c2:Nat
 a3:Option Addr
 c3:Nat
 a4:Option Addr
 c4:Nat
theorem flatten_len7 {css:List (List Value)}(h:∀c∈css,c.length=7):css.flatten.length=css.length*7:=by
 induction css with
 | nil=>simp
 | cons c l ih=>rw[List.flatten_cons,xN,h c (List.mem_cons_self ..),ih (fun c hc=>h c (List.mem_cons_of_mem _ hc)),List.length_cons,Nat.add_mul]; omega
theorem findM_c_fill0 (z0 z1 z2 z3 z4 z5 z6:Value)(x0:Int)(x1:Int)(x2:Int)(x3:Int)(x4:Int)(x5:Int)(x6a:Option Addr)(x6m x6c:Nat):Instr.fill ([(0,1),(1,1),(2,5)][·]?) #[z0,z1,z2,z3,z4,z5,z6] [(0,.ig x0),(1,.ig x1),(2,.agg #[.ig x2,.ig x3,.ig x4,.bg x5,.sg x6a x6m x6c])]=some #[.ig x0,.ig x1,.ig x2,.ig x3,.ig x4,.bg x5,.sg x6a x6m x6c]:=by
 simp[Instr.fill,Value.cells,List.zipIdx]
theorem findM_c_fill1 (z0 z1 z2 z3 z4 z5 z6:Value)(x0:Int)(x1:Int)(x2:Int)(x3:Int)(x4:Int)(x5:Int)(x6a:Option Addr)(x6m x6c:Nat):Instr.fill ([(0,1),(1,1),(2,5)][·]?) #[z0,z1,z2,z3,z4,z5,z6] [(0,.ig x0),(1,.ig x1),(2,.agg #[.ig x2,.ig x3,.ig x4,.bg x5,.sg x6a x6m x6c])]=some #[.ig x0,.ig x1,.ig x2,.ig x3,.ig x4,.bg x5,.sg x6a x6m x6c]:=by
 simp[Instr.fill,Value.cells,List.zipIdx]
theorem findM_c_fill2 (z0 z1 z2 z3 z4 z5 z6:Value)(x0:Int)(x1:Int)(x2:Int)(x3:Int)(x4:Int)(x5:Int)(x6a:Option Addr)(x6m x6c:Nat):Instr.fill ([(0,1),(1,1),(2,5)][·]?) #[z0,z1,z2,z3,z4,z5,z6] [(0,.ig x0),(1,.ig x1),(2,.agg #[.ig x2,.ig x3,.ig x4,.bg x5,.sg x6a x6m x6c])]=some #[.ig x0,.ig x1,.ig x2,.ig x3,.ig x4,.bg x5,.sg x6a x6m x6c]:=by
 simp[Instr.fill,Value.cells,List.zipIdx]
set_option maxHeartbeats 40000000 in
theorem findM_c (oa na : Option Addr) (ocap ncap : Nat) (old new : List Int) (w0 : World) (I0 : Imm) (hI : Sat I0 w0) (ho : RBytes I0 (.sg oa old.length ocap) old) (hn : RBytes I0 (.sg na new.length ncap) new) (hob : ∀ y ∈ old, 0 ≤ y ∧ y ≤ 255) (hnb : ∀ y ∈ new, 0 ≤ y ∧ y ≤ 255) (hol : old.length ≤ 65536) (hnl : new.length ≤ 65536) :
 Ctr prog 24 [.sg oa old.length ocap,.sg na new.length ncap] w0 (fun v w'=>∃I' a c S,v = .sg a (new.length+1) c∧Ext w0 I0 w' I'∧RSl I' 7 (RStep I') (.sg a (new.length+1) c) S∧S.length=new.length+1∧DpOk old new S (new.length+1)):=by
 refine fn (n:=181) func24 rfl rfl rfl ?_;have Z:=St.start hI;refine QwR (qq Z (qd _) (QoR (qq Z (qb _) (qe (qi call58 rfl (buildM_c oa ocap old _ _ Z.imm ho hob hol)) ?_))));rintro _ w_1⟨I_1,a19,c19,xs,f,str,rfl,hE,hxs,hHA,hok,hxl⟩;replace Z:=Z.callE hE;replace ho:=ho.mono hE.ext;replace hn:=hn.mono hE.ext;refine qq Z (qb _) (qe (qi call59 rfl (endsM_c a19 na c19 ncap _ xs f str old new _ _ Z.imm hxs hHA hok hn hnl)) ?_);rintro _ w_2⟨I_2,a21,c21,F,rfl,hE,hF,hFl,hFd⟩;replace Z:=Z.callE hE;replace ho:=ho.mono hE.ext;replace hn:=hn.mono hE.ext;replace hxs:=hxs.mono hE.ext;replace hHA:=hHA.mono hE.ext;refine qq Z (qd _) (QoR (qq Z (qd _) (QoR (qq Z (qb _) (qq Z (qs (pl:=[(0,1),(1,1),(2,1)]) (cs:=[.sg _ _ _,.sg _ _ _,_]) zeroValue124 Qw (fun w=>by simp[sizeOf121,uE]) (mp rfl mp0) rfl) (qe (d_box (cs:=[.sg _ _ _,.sg _ _ _,_]) Z rfl) ?_))))));clear Z;rintro _ w_3⟨bC,rfl,Z⟩;refine qq Z (qb _) (qq Z (qs (pl:=[(0,1),(1,1),(2,1)]) (cs:=[.sg _ _ _,.sg _ _ _,_]) zeroValue124 Qw (fun w=>by simp[sizeOf121,uE]) (mp rfl mp0) rfl) (qe (d_box (cs:=[.sg _ _ _,.sg _ _ _,_]) Z rfl) ?_));clear Z;rintro _ w_4⟨bX,rfl,Z⟩;refine qq Z (qd _) (qq Z (qd _) (QoR (qq Z (qb _) (qq Z (qo rfl xQ hn rfl) (qq Z (g_add rfl rfl (by omega) (by omega)) (qe (d_makeC zStep rfl (new.length+1) Z QW info59 rfl rfl rfl rfl rfl (by omega) rfl) ?_))))));clear Z;rintro _ w_5⟨b31,rfl,Z⟩;replace Z:=Z.asRow (k:=0) (sz:=7) (m:=new.length+1) rfl (by rw[flatten_len7 (fun c hc=>(List.mem_replicate.1 hc).2▸rfl),uX]) (by unfold maxLen; omega)
 refine qq Z (qd _) (QoR (qq Z (Qai rfl) (qq Z (Qai rfl) (QoN (xJ (QwR (qq Z (Qai rfl) (QoN (xU ?_)))))))));replace Z:=(((Z.nilWin 3).nilWin 3).nilWin 3).nilWin 3;refine loop (fun(z:FnW) σ w=>okS σ [(0,.sg oa old.length ocap),(1,.sg na new.length ncap),(5,.sg a21 (new.length+1) c21),(7,.zg bC),(8,.zg bX),(9,.sg (some ⟨b31,0,none⟩) (new.length+1) (new.length+1)),(10,.ig z.lit),(11,.ig z.run),(12,.ig ((z.k+1:Nat):Int))]∧St [] w0 I0 I_2 w [.win (.sg z.a1 z.cp.length z.c1) 3 (ints z.cp),.win (.sg z.a2 z.cv.length z.c2) 3 (ints z.cv),.cel bC 124 [.sg z.a1 z.cp.length z.c1,.sg z.a2 z.cv.length z.c2,.func (.func 60) #[] #[]],.win (.sg z.a3 z.xp.length z.c3) 3 (ints z.xp),.win (.sg z.a4 z.xv.length z.c4) 3 (ints z.xv),.cel bX 124 [.sg z.a3 z.xp.length z.c3,.sg z.a4 z.xv.length z.c4,.func (.func 60) #[] #[]],.row (.sg (some ⟨b31,0,none⟩) (new.length+1) (new.length+1)) 59 7 (new.length+1) z.css.flatten]∧FndI old new F z.k z.lit z.run z.lo z.S z.cp z.cv z.xp z.xv∧All2 (RStep I_2) z.css z.S) (fun z=>new.length - z.k) (⟨0,0,0,0,List.replicate (new.length+1) StepL.zero,List.replicate (new.length+1) zStep,[],[],[],[],none,0,none,0,none,0,none,0⟩) ?_ ?_
 ·
  exact⟨⟨rfl,rfl,rfl,rfl,rfl,rfl,rfl,rfl,rfl,trivial⟩,Z.ord [0,1,6,2,3,5,4],FndI.start hFd,steps_zero _ _⟩
 ·
  rintro⟨k,lit,run,lo,S,css,cp,cv,xp,xv,a1,c1,a2,c2,a3,c3,a4,c4⟩σ w_l⟨hs,Z,hfi,hA⟩;dsimp only at hs Z hfi hA ⊢;rw[← qj hs]; clear hs
  refine xJ (QwR (qq Z (Qmi rfl) (qq Z (qb _) (qq Z (qo rfl xQ hn rfl) (qq Z (g_leq rfl rfl) (QoN (qh rfl ?_ ?_)))))))
  ·
   intro hc35
   try simp only[zA,zO,zN,zI,zF,zM,zT,zU]at hc35
   have hkn:k < new.length:=by omega
   obtain⟨y,hy⟩:∃y,new[k]? = some y:=⟨_,xI hkn⟩
   have hyA:=hn.at hy;obtain⟨x1,hx1⟩:∃x,F[k+1]? = some x:=⟨_,xI (by omega)⟩
   have hF1A:=hF.at hx1;obtain⟨p,n,rfl,hfd⟩:=hFd (k+1) hkn x1 hx1;replace hF1A:atI I_2 (elA (.sg a21 (new.length+1) c21) (k+1) 2 0) [.ig (p:Int),.ig (n:Int)]:=hF1A;obtain⟨x0,hx0⟩:∃x,F[k]? = some x:=⟨_,xI (by omega)⟩
   obtain⟨p0,n0,rfl,hfd0⟩:=hFd k (Nat.le_of_lt hkn) x0 hx0;have hlo0:=hfi.hlo _ hx0;have hnn:=FndOk.next hfd0 hfd hy;have hnk:=hfd.len;have hpl:=hfd.le;have hbk:=hfi.dp.bnd k (Nat.lt_succ_self k);have hSl:=hfi.len;have hlk:=hfi.hlt;have hbl:=hfi.dp.bnd lit (by omega);obtain⟨cs0,hcs0⟩:∃c,css[k+1]? = some c:=⟨_,xI (by rw[hA.1]; omega)⟩
   have hncap:=(resl2M hn new.length new.length (uc _) (uc _)).2.1;dsimp only at hlo0;refine xM (xL (xJ (xU (QwR (qq Z (qb _) (qq Z (Qmi rfl) (qq Z (qJ (g_sub rfl rfl (by omega) (by omega)) (congrArg (Value.int .i64) (show((k+1:Nat):Int) - _=((k:Nat):Int) by omega))) ?_)))))));refine qq Z (g_ixR 6 QW Jc rfl rfl rfl (by show(0:Int)≤((k:Nat):Int); omega) (by show((k:Nat):Int) < ((new.length+1:Nat):Int); omega)) ?_;refine qq Z (qE (c':=0) QM rfl xK rfl rfl rfl) (qq Z (jg 6 xW rfl rfl (kO hA (j:=k) (by omega))) (qq Z (Qai rfl) (QoR (qq Z (qb _) (qq Z (Qmi rfl) (qq Z (qJ (g_sub rfl rfl (by omega) (by omega)) (congrArg (Value.int .i64) (show((k+1:Nat):Int) - _=((k:Nat):Int) by omega))) (qq Z (Qmi rfl) ?_)))))));refine qe (qi call61 rfl (addM_c (k:Nat) (cst S k) bC a1 a2 c1 c2 cp cv _ _ _ hfi.wc.len (by have:=hfi.wc.bnd; omega) (St.ownA [_,_,_] Z))) ?_;rintro _ w_6⟨rfl,nC,a5,c5,a6,c6,haC,hE⟩;replace Z:=St.callA [_,_,_] Z hE;have hWC:=hfi.wc.add haC;replace Z:St [] w0 I0 I_2 _ [.win (.sg a3 xp.length c3) 3 (ints xp),.win (.sg a4 xv.length c4) 3 (ints xv),.cel bX 124 [.sg a3 xp.length c3,.sg a4 xv.length c4,.func (.func 60) #[] #[]],.win (.sg a5 (nC+1) c5) 3 (ints (cp.take nC++[(k:Int)])),.win (.sg a6 (nC+1) c6) 3 (ints (cv.take nC++[cst S k])),.cel bC 124 [.sg a5 (nC+1) c5,.sg a6 (nC+1) c6,.func (.func 60) #[] #[]],.row (.sg (some ⟨b31,0,none⟩) (new.length+1) (new.length+1)) 59 7 (new.length+1) css.flatten]:=Z.ord [3,4,5,0,1,2,6];refine QoR (qq Z (qb _) (qq Z (Qmi rfl) (qq Z (qJ (g_sub rfl rfl (by omega) (by omega)) (congrArg (Value.int .i64) (show((k+1:Nat):Int) - _=((k:Nat):Int) by omega))) (qq Z (Qmi rfl) ?_))))
   refine qe (qi call61 rfl (addM_c (k:Nat) (cst S k) bX a3 a4 c3 c4 xp xv _ _ _ hfi.wx.len (by have:=hfi.wx.bnd; omega) (St.ownA [_,_,_] Z))) ?_;rintro _ wA53⟨rfl,nX,a7,c7,a8,c8,haX,hE⟩;replace Z:=St.callA [_,_,_] Z hE;have hWX:=hfi.wx.add haX;replace Z:St [] w0 I0 I_2 _ [.win (.sg a5 (nC+1) c5) 3 (ints (cp.take nC++[(k:Int)])),.win (.sg a6 (nC+1) c6) 3 (ints (cv.take nC++[cst S k])),.cel bC 124 [.sg a5 (nC+1) c5,.sg a6 (nC+1) c6,.func (.func 60) #[] #[]],.win (.sg a7 (nX+1) c7) 3 (ints (xp.take nX++[(k:Int)])),.win (.sg a8 (nX+1) c8) 3 (ints (xv.take nX++[cst S k])),.cel bX 124 [.sg a7 (nX+1) c7,.sg a8 (nX+1) c8,.func (.func 60) #[] #[]],.row (.sg (some ⟨b31,0,none⟩) (new.length+1) (new.length+1)) 59 7 (new.length+1) css.flatten]:=Z.ord [3,4,5,0,1,2,6];obtain⟨cp2,hcp2⟩:∃l,cp.take nC++[(k:Int)]=l:=⟨_,rfl⟩
   obtain⟨cv2,hcv2⟩:∃l,cv.take nC++[cst S k]=l:=⟨_,rfl⟩
   obtain⟨xp2,hxp2⟩:∃l,xp.take nX++[(k:Int)]=l:=⟨_,rfl⟩
   obtain⟨xv2,hxv2⟩:∃l,xv.take nX++[cst S k]=l:=⟨_,rfl⟩
   have e1:nC+1=cp2.length:=by rw[← hcp2,xN,uo,Nat.min_eq_left (by rw[hfi.wc.len]; exact haC.le)]; rfl
   have e2:nC+1=cv2.length:=by rw[← hcv2,xN,uo,Nat.min_eq_left haC.le]; rfl
   have e3:nX+1=xp2.length:=by rw[← hxp2,xN,uo,Nat.min_eq_left (by rw[hfi.wx.len]; exact haX.le)]; rfl
   have e4:nX+1=xv2.length:=by rw[← hxv2,xN,uo,Nat.min_eq_left haX.le]; rfl
   replace Z:St [] w0 I0 I_2 wA53 [.win (.sg a5 cp2.length c5) 3 (ints cp2),.win (.sg a6 cv2.length c6) 3 (ints cv2),.cel bC 124 [.sg a5 cp2.length c5,.sg a6 cv2.length c6,.func (.func 60) #[] #[]],.win (.sg a7 xp2.length c7) 3 (ints xp2),.win (.sg a8 xv2.length c8) 3 (ints xv2),.cel bX 124 [.sg a7 xp2.length c7,.sg a8 xv2.length c8,.func (.func 60) #[] #[]],.row (.sg (some ⟨b31,0,none⟩) (new.length+1) (new.length+1)) 59 7 (new.length+1) css.flatten]:=by
    rw[← e1,← e2,← e3,← e4,← hcp2,← hcv2,← hxp2,← hxv2]; exact Z
   rw[hcp2,hcv2]at hWC;rw[hxp2,hxv2]at hWX;clear e1 e2 e3 e4 hcp2 hcv2 hxp2 hxv2;refine QoN (meet (fun σ w=>∃lit:Nat,okS σ [(0,.sg oa old.length ocap),(1,.sg na new.length ncap),(5,.sg a21 (new.length+1) c21),(7,.zg bC),(8,.zg bX),(9,.sg (some ⟨b31,0,none⟩) (new.length+1) (new.length+1)),(10,.ig lit),(11,.ig run),(12,.ig ((k+1:Nat):Int))]∧St [] w0 I0 I_2 w [.win (.sg a5 cp2.length c5) 3 (ints cp2),.win (.sg a6 cv2.length c6) 3 (ints cv2),.cel bC 124 [.sg a5 cp2.length c5,.sg a6 cv2.length c6,.func (.func 60) #[] #[]],.win (.sg a7 xp2.length c7) 3 (ints xp2),.win (.sg a8 xv2.length c8) 3 (ints xv2),.cel bX 124 [.sg a7 xp2.length c7,.sg a8 xv2.length c8,.func (.func 60) #[] #[]],.row (.sg (some ⟨b31,0,none⟩) (new.length+1) (new.length+1)) 59 7 (new.length+1) css.flatten]∧lit≤k∧∀j,j < k+1→cst S lit+j≤cst S j+lit) ?_ ?_)
   ·
    refine QwR (qq Z (Qmi rfl) (qq Z (Qmi rfl) (qq Z (qJ (g_sub rfl rfl (by omega) (by omega)) (congrArg (Value.int .i64) (show((k+1:Nat):Int) - _=((k:Nat):Int) by omega))) (qq Z (g_sub rfl rfl (by omega) (by omega)) (qq Z (qb _) (qq Z (Qmi rfl) ?_))))));refine qq Z (g_ixR 6 QW Jc rfl rfl rfl (by show(0:Int)≤((lit:Nat):Int); omega) (by show((lit:Nat):Int) < ((new.length+1:Nat):Int); omega)) ?_;refine qq Z (qE (c':=0) QM rfl xK rfl rfl rfl) (qq Z (jg 6 xW rfl rfl (kO hA (j:=lit) (by omega))) (qq Z (Qmi rfl) (qq Z (g_sub rfl rfl (by omega) (by omega)) (qq Z (g_lss rfl rfl) (QoN (qh rfl ?_ ?_))))))
    ·
     intro hc65
     try simp only[zA,zO,zN,zI,zF,zM,zT,zU]at hc65
     have hls2:∀j,j < k+1→cst S k+j≤cst S j+k:=fun j hj=>by
      by_cases e:j=k
      · subst e; omega
      · have:=hfi.lst j (by omega); omega
     refine reg (qq Z (Qmi rfl) (qq Z (qJ (g_sub rfl rfl (by omega) (by omega)) (congrArg (Value.int .i64) (show((k+1:Nat):Int) - _=((k:Nat):Int) by omega))) (qq Z (Qai rfl) (QoN ?_))))
     first | exact⟨_,rfl,k,⟨rfl,rfl,rfl,rfl,rfl,rfl,rfl,rfl,rfl,trivial⟩,Z.sel [true,true,true,true,true,true,true],uc _,hls2⟩ | exact⟨_,rfl,lit,⟨rfl,rfl,rfl,rfl,rfl,rfl,rfl,rfl,rfl,trivial⟩,Z.sel [true,true,true,true,true,true,true],hlk,hls2⟩
    ·
     intro hc65
     try simp only[zA,zO,zN,zI,zF,zM,zT,zU]at hc65
     have hls2:∀j,j < k+1→cst S lit+j≤cst S j+lit:=fun j hj=>by
      by_cases e:j=k
      · subst e; omega
      · have:=hfi.lst j (by omega); omega
     refine xM (xL ?_)
     first | exact⟨_,rfl,k,⟨rfl,rfl,rfl,rfl,rfl,rfl,rfl,rfl,rfl,trivial⟩,Z.sel [true,true,true,true,true,true,true],uc _,hls2⟩ | exact⟨_,rfl,lit,⟨rfl,rfl,rfl,rfl,rfl,rfl,rfl,rfl,rfl,trivial⟩,Z.sel [true,true,true,true,true,true,true],hlk,hls2⟩
   ·
    rintro σ w⟨lit2,hs,Z,hlk2,hls⟩;have hbl2:=hfi.dp.bnd lit2 (by omega);rw[← qj hs];refine meet (fun σ w=>∃run2:Nat,okS σ [(0,.sg oa old.length ocap),(1,.sg na new.length ncap),(5,.sg a21 (new.length+1) c21),(7,.zg bC),(8,.zg bX),(9,.sg (some ⟨b31,0,none⟩) (new.length+1) (new.length+1)),(10,.ig lit2),(11,.ig run2),(12,.ig ((k+1:Nat):Int))]∧St [] w0 I0 I_2 w [.win (.sg a5 cp2.length c5) 3 (ints cp2),.win (.sg a6 cv2.length c6) 3 (ints cv2),.cel bC 124 [.sg a5 cp2.length c5,.sg a6 cv2.length c6,.func (.func 60) #[] #[]],.win (.sg a7 xp2.length c7) 3 (ints xp2),.win (.sg a8 xv2.length c8) 3 (ints xv2),.cel bX 124 [.sg a7 xp2.length c7,.sg a8 xv2.length c8,.func (.func 60) #[] #[]],.row (.sg (some ⟨b31,0,none⟩) (new.length+1) (new.length+1)) 59 7 (new.length+1) css.flatten]∧RunAt new run2 (k+1)∧run≤run2) ?_ ?_
    ·
     refine xJ ((Nat.eq_zero_or_pos k).elim (fun hz=>?_) (fun hz=>?_))
     ·
      refine draw (.pg 0 (.pg 1 (.pg 2 (.pg 3 (.pg 4 (.pg 5 (.pg 6 (.pg 7 (.pg 8 (.pg 9 (.pg 10 (.pg 11 (.pg 12 (.pg 13 (.pg 14 .nil))))))))))))))) mixed (by kernel_rfl) Z ?_;intro w_8 Z;refine sp rfl (Qmi rfl) (sp rfl (qJ (g_gtr rfl rfl) (congrArg Value.bool (uw (by omega)))) (sp rfl (Qmb rfl) (spf rfl rfl rfl rfl (spf rfl rfl rfl rfl (spf rfl rfl rfl rfl (spf rfl rfl rfl rfl (spf rfl rfl rfl rfl (spf rfl rfl rfl rfl (spf rfl rfl rfl rfl (spf rfl rfl rfl rfl (spf rfl rfl rfl rfl ?_)))))))))));refine spf rfl rfl rfl rfl (spf rfl rfl rfl rfl (sp rfl (g_and (b:=false) rfl rfl (fun h=>by cases h)) (sn (xL (qV (rfl) (xM (xL ?_)))))))
      first
       | exact⟨_,rfl,k,⟨rfl,rfl,rfl,rfl,rfl,rfl,rfl,rfl,rfl,trivial⟩,Z.sel [true,true,true,true,true,true,true],RunAt.new hz hne,Nat.le_of_lt hrk.lt⟩
       | exact⟨_,rfl,run,⟨rfl,rfl,rfl,rfl,rfl,rfl,rfl,rfl,rfl,trivial⟩,Z.sel [true,true,true,true,true,true,true],hrk.same hee,uc _⟩
       | exact⟨_,rfl,run,⟨rfl,rfl,rfl,rfl,rfl,rfl,rfl,rfl,rfl,trivial⟩,Z.sel [true,true,true,true,true,true,true],by rw[hfi.r0 hz,hz]; exact RunAt.one new,uc _⟩
     ·
      obtain⟨y1,hy1⟩:∃y,new[k - 1]? = some y:=⟨_,xI (by omega)⟩
      have hy1A:=hn.at hy1;have hrk:=hfi.rn hz;refine draw (.pg 0 (.pg 1 (.pg 2 (.pg 3 (.pg 4 (.pg 5 (.pg 6 (.hg 7 (.pg 8 (.pg 9 (.pg 10 (.pg 11 (.hg 12 (.pg 13 (.pg 14 .nil))))))))))))))) mixed (by kernel_rfl) Z ?_;intro w_9 Z;refine sp rfl (Qmi rfl) (sp rfl (qJ (g_gtr rfl rfl) (congrArg Value.bool (uH (by omega)))) (sp rfl (Qmb rfl) (spt rfl rfl rfl (qb _) (spt rfl rfl rfl (Qmi rfl) (spt rfl rfl rfl (qJ (g_sub rfl rfl (by omega) (by omega)) (congrArg (Value.int .i64) (show((k+1:Nat):Int) - _=((k:Nat):Int) by omega))) ?_)))));refine spt rfl rfl rfl (g_ixI xQ un hn rfl rfl (by omega) (by omega)) (sht rfl rfl rfl (qt uZ hyA rfl rfl) (spt rfl rfl rfl (qb _) (spt rfl rfl rfl (Qmi rfl) (spt rfl rfl rfl (qJ (g_sub rfl rfl (by omega) (by omega)) (congrArg (Value.int .i64) (show((k+1:Nat):Int) - _=((k - 1:Nat):Int) by omega))) ?_))));refine spt rfl rfl rfl (g_ixI xQ un hn rfl rfl (by omega) (by omega)) (sht rfl rfl rfl (qt uZ hy1A rfl rfl) (spt rfl rfl rfl (g_neq rfl rfl) (sp rfl (g_and rfl rfl (fun _=>rfl)) (sn (xL (qh rfl ?_ ?_))))))
      ·
       intro hc82
       try simp only[zA,zO,zN,zI,zF,zM,zT,zU]at hc82
       have hne:new[k]? ≠ new[k - 1]? := by rw[hy,hy1]; simpa using hc82
       refine reg (qq Z (Qmi rfl) (qq Z (qJ (g_sub rfl rfl (by omega) (by omega)) (congrArg (Value.int .i64) (show((k+1:Nat):Int) - _=((k:Nat):Int) by omega))) (qq Z (Qai rfl) (QoN ?_))))
       first
        | exact⟨_,rfl,k,⟨rfl,rfl,rfl,rfl,rfl,rfl,rfl,rfl,rfl,trivial⟩,Z.sel [true,true,true,true,true,true,true],RunAt.new hz hne,Nat.le_of_lt hrk.lt⟩
        | exact⟨_,rfl,run,⟨rfl,rfl,rfl,rfl,rfl,rfl,rfl,rfl,rfl,trivial⟩,Z.sel [true,true,true,true,true,true,true],hrk.same hee,uc _⟩
        | exact⟨_,rfl,run,⟨rfl,rfl,rfl,rfl,rfl,rfl,rfl,rfl,rfl,trivial⟩,Z.sel [true,true,true,true,true,true,true],by rw[hfi.r0 hz,hz]; exact RunAt.one new,uc _⟩
      ·
       intro hc82
       try simp only[zA,zO,zN,zI,zF,zM,zT,zU]at hc82
       have hee:new[k]? = new[k - 1]? := by rw[hy,hy1]; simpa using hc82
       refine xM (xL ?_)
       first
        | exact⟨_,rfl,k,⟨rfl,rfl,rfl,rfl,rfl,rfl,rfl,rfl,rfl,trivial⟩,Z.sel [true,true,true,true,true,true,true],RunAt.new hz hne,Nat.le_of_lt hrk.lt⟩
        | exact⟨_,rfl,run,⟨rfl,rfl,rfl,rfl,rfl,rfl,rfl,rfl,rfl,trivial⟩,Z.sel [true,true,true,true,true,true,true],hrk.same hee,uc _⟩
        | exact⟨_,rfl,run,⟨rfl,rfl,rfl,rfl,rfl,rfl,rfl,rfl,rfl,trivial⟩,Z.sel [true,true,true,true,true,true,true],by rw[hfi.r0 hz,hz]; exact RunAt.one new,uc _⟩
    ·
     rintro σ w⟨run2,hs,Z,hrn,hrr⟩;rw[← qj hs];refine xJ (draw (.pg 0 (.pg 1 (.hg 2 (.pg 3 (.hg 4 (.pg 5 (.pg 6 (.pg 7 (.pg 8 (.pg 9 (.pg 10 (.pg 11 (.pg 12 (.pg 13 (.pg 14 (.pg 15 (.pg 16 (.pg 17 (.pg 18 (.pg 19 (.cons 20 .eff (.cons 21 .bar .nil)))))))))))))))))))))) mixed (by kernel_rfl) Z ?_);intro w_10 Z;refine sp rfl (qb _) (sp rfl (Qmi rfl) ?_);refine sh rfl (g_ixR 6 QW Jc rfl rfl rfl (by show(0:Int)≤((lit2:Nat):Int); omega) (by show((lit2:Nat):Int) < ((new.length+1:Nat):Int); omega)) ?_;refine sp rfl (qE (c':=0) QM rfl xK rfl rfl rfl) (sh rfl (jg 6 xW rfl rfl (kO hA (j:=lit2) (by omega))) (sp rfl (g_add rfl rfl (by omega) (by omega)) (sp rfl (Qmi rfl) (sp rfl (g_add rfl rfl (by omega) (by omega)) (sp rfl (Qmi rfl) (sp rfl (g_sub rfl rfl (by omega) (by omega)) (sp rfl (Qmi rfl) (sp rfl (Qmi rfl) (sp rfl (Qmi rfl) ?_)))))))));refine sp rfl (g_sub rfl rfl (by omega) (by omega)) (sp rfl (qb _) (sp rfl (Qmi rfl) (sp rfl (Qmi rfl) (sp rfl (g_slice2N (l0:=lit2) (h0:=k+1) xQ un rfl rfl rfl (by omega) (by omega) (by omega) rfl rfl) (sp rfl (qs (pl:=[(0,1),(1,1),(2,1),(3,1),(4,1)]) (cs:=[.ig _,.ig _,.ig _,.bg _,.sg _ _ _]) QE uj (fun w=>by simp[uI,xK,un]) (mp (v:=.ig _) rfl (mp (v:=.ig _) rfl (mp (v:=.sg _ _ _) rfl mp0))) rfl) ?_)))));refine sp rfl (qs (pl:=[(0,1),(1,1),(2,5)]) (cs:=[.ig _,.ig _,.ig _,.ig _,.ig _,.bg _,.sg _ _ _]) Km QM (fun w=>by simp[xK,uz]) (mp (v:=.ig _) rfl (mp (v:=.ig _) rfl (mp (v:=.agg #[.ig _,.ig _,.ig _,.bg _,.sg _ _ _]) rfl mp0))) (findM_c_fill0 _ _ _ _ _ _ _ _ _ _ _ _ _ _ _ _)) ?_
     have hS0:=Z;refine se rfl (qr (cs:=[.ig _,.ig _,.ig _,.ig _,.ig _,.bg _,.sg _ _ _]) Z Km rfl) ?_;rintro _ w_11⟨bB,rfl,Z⟩;refine⟨_,_,hS0.le (Sub.refl _) (uq _ _),Z,sb rfl (qf 0 Z Jc rfl rfl rfl (vs:=[.ig _,.ig _,.ig _,.ig _,.ig _,.bg _,.sg _ _ _]) rfl rfl rfl (xH rfl) (cs':=[_,_,_,_,_,_,_]) rfl) ?_⟩;rintro _ w_12⟨rfl,Z⟩;refine⟨_,_,Z,sn (xL (meet (fun σ w=>∃(s:StepL) (ad:Option Addr) (m cpp qR:Nat) (prR VR:List Int) (a9:Option Addr) (c9:Nat) (a10:Option Addr) (c10:Nat),okS σ [(0,.sg oa old.length ocap),(1,.sg na new.length ncap),(5,.sg a21 (new.length+1) c21),(7,.zg bC),(8,.zg bX),(9,.sg (some ⟨b31,0,none⟩) (new.length+1) (new.length+1)),(10,.ig lit2),(11,.ig run2),(12,.ig ((k+1:Nat):Int)),(14,.zg bB)]∧St [] w0 I0 I_2 w [.win (.sg a5 cp2.length c5) 3 (ints cp2),.win (.sg a6 cv2.length c6) 3 (ints cv2),.cel bC 124 [.sg a5 cp2.length c5,.sg a6 cv2.length c6,.func (.func 60) #[] #[]],.win (.slice a9 ((qR:Int)::prR).length c9) 3 (ints ((qR:Int)::prR)),.win (.sg a10 VR.length c10) 3 (ints VR),.cel bX 124 [.slice a9 ((qR:Int)::prR).length c9,.sg a10 VR.length c10,.func (.func 60) #[] #[]],.row (.sg (some ⟨b31,0,none⟩) (new.length+1) (new.length+1)) 59 7 (new.length+1) css.flatten,.cel bB 59 (stpC s ad m cpp)]∧RBytes I_2 (.sg ad m cpp) s.op.data∧StepOk old new (cst S) (k+1) s∧s.cost≤cst S lit2+2+((k+1:Nat):Int) - lit2∧s.cost≤cst S qR+4∧0≤s.cost∧WinOk (cst S) (k+1) run2 ((qR:Int)::prR) VR∧(∀j,run2≤j→j < k+1→cst S qR≤cst S j)) ?_ ?_))⟩
     ·
      refine xJ ?_;obtain⟨s,hse⟩:∃s:StepL,(⟨cst S lit2+2+((k+1:Nat):Int) - lit2,lit2,⟨4,0,((k+1:Nat):Int) - lit2,0,pcs new lit2 (k+1)⟩⟩:StepL)=s:=⟨_,rfl⟩
      obtain⟨ad,m,cpp,hv⟩:∃ad m c,resl (.sg na new.length ncap) lit2 (k+1) ncap 1 = .sg ad m c:=⟨_,_,_,rfl⟩
      have hda:RBytes I_2 (.sg ad m cpp) s.op.data:=by rw[← hse,← hv]; exact(resl2M hn lit2 (k+1) (by omega) (by omega)).1
      have hsk:StepOk old new (cst S) (k+1) s:=by rw[← hse]; exact step_lit (by omega)
      have hsc:s.cost=cst S lit2+2+((k+1:Nat):Int) - lit2:=by rw[← hse]
      have hcv:∀w,St [] w0 I0 I_2 w [.cel bB 59 [.ig (cst S lit2+2+((k+1:Nat):Int) - lit2),.ig lit2,.ig 4,.ig 0,.ig (((k+1:Nat):Int) - lit2),.bg 0,resl (.sg na new.length ncap) lit2 (k+1) ncap 1],.win (.sg a5 cp2.length c5) 3 (ints cp2),.win (.sg a6 cv2.length c6) 3 (ints cv2),.cel bC 124 [.sg a5 cp2.length c5,.sg a6 cv2.length c6,.func (.func 60) #[] #[]],.win (.sg a7 xp2.length c7) 3 (ints xp2),.win (.sg a8 xv2.length c8) 3 (ints xv2),.cel bX 124 [.sg a7 xp2.length c7,.sg a8 xv2.length c8,.func (.func 60) #[] #[]],.row (.sg (some ⟨b31,0,none⟩) (new.length+1) (new.length+1)) 59 7 (new.length+1) css.flatten]→St [] w0 I0 I_2 w [.win (.sg a7 xp2.length c7) 3 (ints xp2),.win (.sg a8 xv2.length c8) 3 (ints xv2),.cel bX 124 [.sg a7 xp2.length c7,.sg a8 xv2.length c8,.func (.func 60) #[] #[]],.win (.sg a5 cp2.length c5) 3 (ints cp2),.win (.sg a6 cv2.length c6) 3 (ints cv2),.cel bC 124 [.sg a5 cp2.length c5,.sg a6 cv2.length c6,.func (.func 60) #[] #[]],.row (.sg (some ⟨b31,0,none⟩) (new.length+1) (new.length+1)) 59 7 (new.length+1) css.flatten,.cel bB 59 (stpC s ad m cpp)]:=fun w Z=>by
       rw[← hse]; unfold stpC; rw[← hv]; exact Z.ord [4,5,6,1,2,3,7,0]
      replace Z:=hcv _ Z;clear hcv;clear hse;refine reg (qq Z (qb _) (qq Z (Qmi rfl) ?_));refine qe (qi call62 rfl (leastM_c (run2:Nat) bX a7 a8 c7 c8 xp2 xv2 _ _ _ hWX.len (by have:=hWX.bnd; omega) (St.ownA [_,_,_] Z) (hWX.ex hrr hrn.lt))) ?_;rintro _ w_13⟨kR,qR_,prR,VR,a9,c9,a10,c10,rfl,hqr,hlaR,hVR,hE⟩;replace Z:=St.callA [_,_,_] Z hE;replace Z:St [] w0 I0 I_2 _ [.win (.sg a5 cp2.length c5) 3 (ints cp2),.win (.sg a6 cv2.length c6) 3 (ints cv2),.cel bC 124 [.sg a5 cp2.length c5,.sg a6 cv2.length c6,.func (.func 60) #[] #[]],.win (.slice a9 (qR_::prR).length c9) 3 (ints (qR_::prR)),.win (.sg a10 VR.length c10) 3 (ints VR),.cel bX 124 [.slice a9 (qR_::prR).length c9,.sg a10 VR.length c10,.func (.func 60) #[] #[]],.row (.sg (some ⟨b31,0,none⟩) (new.length+1) (new.length+1)) 59 7 (new.length+1) css.flatten,.cel bB 59 (stpC s ad m cpp)]:=Z.ord [3,4,5,0,1,2,6,7];obtain⟨hWX2,qR,rfl,hqR1,hqR2,hqR3⟩:=hWX.least hrr hlaR hqr;have hbR:=hfi.dp.bnd qR hqR2;refine qq Z (Qai rfl) (QoN (xJ (draw (.pg 0 (.pg 1 (.hg 2 (.pg 3 (.hg 4 (.pg 5 (.pg 6 (.hg 7 (.pg 8 .nil))))))))) mixed (by kernel_rfl) Z ?_)));intro w_14 Z;refine sp rfl (qb _) (sp rfl (Qmi rfl) ?_);refine sh rfl (g_ixR 6 QW Jc rfl rfl rfl (by show(0:Int)≤((qR:Nat):Int); omega) (by show((qR:Nat):Int) < ((new.length+1:Nat):Int); omega)) ?_;refine sp rfl (qE (c':=0) QM rfl xK rfl rfl rfl) (sh rfl (jg 6 xW rfl rfl (kO hA (j:=qR) (by omega))) (sp rfl (g_add rfl rfl (by omega) (by omega)) (sp rfl (qa (o':=0) QM rfl xK rfl rfl rfl) (sh rfl (qc 7 xW rfl rfl rfl) (sp rfl (g_lss rfl rfl) (sn (xL (qh rfl ?_ ?_))))))))
      ·
       intro hc116
       try simp only[zA,zO,zN,zI,zF,zM,zT,zU]at hc116
       have hsk2:=step_run (old:=old) (C:=cst S) (i:=k+1) hkn hrn hqR1 hqR2 hy;refine draw (.pg 0 (.pg 1 (.hg 2 (.pg 3 (.hg 4 (.pg 5 (.pg 6 (.pg 7 (.pg 8 (.pg 9 (.pg 10 (.pg 11 (.pg 12 (.pg 13 (.hg 14 (.pg 15 (.pg 16 (.cons 17 .bar .nil)))))))))))))))))) mixed (by kernel_rfl) Z ?_;intro w_15 Z;refine sp rfl (qb _) (sp rfl (Qmi rfl) ?_);refine sh rfl (g_ixR 6 QW Jc rfl rfl rfl (by show(0:Int)≤((qR:Nat):Int); omega) (by show((qR:Nat):Int) < ((new.length+1:Nat):Int); omega)) ?_;refine sp rfl (qE (c':=0) QM rfl xK rfl rfl rfl) (sh rfl (jg 6 xW rfl rfl (kO hA (j:=qR) (by omega))) (sp rfl (g_add rfl rfl (by omega) (by omega)) (sp rfl (Qmi rfl) (sp rfl (Qmi rfl) (sp rfl (Qmi rfl) (sp rfl (g_sub rfl rfl (by omega) (by omega)) (sp rfl (qb _) (sp rfl (Qmi rfl) (sp rfl (qJ (g_sub rfl rfl (by omega) (by omega)) (congrArg (Value.int .i64) (show((k+1:Nat):Int) - _=((k:Nat):Int) by omega))) ?_)))))))));refine sp rfl (g_ixI xQ un hn rfl rfl (by omega) (by omega)) (sh rfl (qt uZ hyA rfl rfl) (sp rfl (qs (pl:=[(0,1),(1,1),(2,1),(3,1),(4,1)]) (cs:=[.ig _,.ig _,.ig _,.bg _,.sg _ _ _]) QE uj (fun w=>by simp[uI,xK,un]) (mp (v:=.ig _) rfl (mp (v:=.ig _) rfl (mp (v:=.bg _) rfl mp0))) rfl) ?_));refine sp rfl (qs (pl:=[(0,1),(1,1),(2,5)]) (cs:=[.ig _,.ig _,.ig _,.ig _,.ig _,.bg _,.sg _ _ _]) Km QM (fun w=>by simp[xK,uz]) (mp (v:=.ig _) rfl (mp (v:=.ig _) rfl (mp (v:=.agg #[.ig _,.ig _,.ig _,.bg _,.sg _ _ _]) rfl mp0))) (findM_c_fill1 _ _ _ _ _ _ _ _ _ _ _ _ _ _ _ _)) ?_;refine sb rfl (qf 7 Z Jc rfl rfl rfl (vs:=[.ig _,.ig _,.ig _,.ig _,.ig _,.bg _,.sg _ _ _]) rfl rfl rfl (xH rfl) (cs':=[_,_,_,_,_,_,_]) rfl) ?_
       rintro _ w_16⟨rfl,Z⟩;refine⟨_,_,Z,sn (xL ?_)⟩
       first
        | exact⟨_,rfl,⟨cst S qR+4,qR,⟨3,0,((k+1:Nat):Int) - qR,y,[]⟩⟩,none,0,0,qR,prR,VR,a9,c9,a10,c10,⟨rfl,rfl,rfl,rfl,rfl,rfl,rfl,rfl,rfl,rfl,trivial⟩,Z.sel [true,true,true,true,true,true,true,true],RFl.nil,hsk2,by dsimp only; omega,by dsimp only; omega,by dsimp only; omega,hWX2,hqR3⟩
        | exact⟨_,rfl,s,ad,m,cpp,qR,prR,VR,a9,c9,a10,c10,⟨rfl,rfl,rfl,rfl,rfl,rfl,rfl,rfl,rfl,rfl,trivial⟩,Z.sel [true,true,true,true,true,true,true,true],hda,hsk,by omega,by omega,by omega,hWX2,hqR3⟩
      ·
       intro hc116
       try simp only[zA,zO,zN,zI,zF,zM,zT,zU]at hc116
       refine xM (xL ?_)
       first
        | exact⟨_,rfl,⟨cst S qR+4,qR,⟨3,0,((k+1:Nat):Int) - qR,y,[]⟩⟩,none,0,0,qR,prR,VR,a9,c9,a10,c10,⟨rfl,rfl,rfl,rfl,rfl,rfl,rfl,rfl,rfl,rfl,trivial⟩,Z.sel [true,true,true,true,true,true,true,true],RFl.nil,hsk2,by dsimp only; omega,by dsimp only; omega,by dsimp only; omega,hWX2,hqR3⟩
        | exact⟨_,rfl,s,ad,m,cpp,qR,prR,VR,a9,c9,a10,c10,⟨rfl,rfl,rfl,rfl,rfl,rfl,rfl,rfl,rfl,rfl,trivial⟩,Z.sel [true,true,true,true,true,true,true,true],hda,hsk,by omega,by omega,by omega,hWX2,hqR3⟩
     ·
      rintro σ w⟨s,ad,m,cpp,qR,prR,VR,a9,c9,a10,c10,hs,Z,hda,hsk,hs1,hs2,hs0,hWX2,hqR3⟩;rw[← qj hs];refine meet (fun σ w=>∃(s:StepL) (ad:Option Addr) (m cpp:Nat) (lo3:Nat) (cp3 cv3:List Int) (b1:Option Addr) (d1:Nat) (b2:Option Addr) (d2:Nat),okS σ [(0,.sg oa old.length ocap),(1,.sg na new.length ncap),(5,.sg a21 (new.length+1) c21),(7,.zg bC),(8,.zg bX),(9,.sg (some ⟨b31,0,none⟩) (new.length+1) (new.length+1)),(10,.ig lit2),(11,.ig run2),(12,.ig ((k+1:Nat):Int)),(14,.zg bB)]∧St [] w0 I0 I_2 w [.win (.sg b1 cp3.length d1) 3 (ints cp3),.win (.sg b2 cv3.length d2) 3 (ints cv3),.cel bC 124 [.sg b1 cp3.length d1,.sg b2 cv3.length d2,.func (.func 60) #[] #[]],.win (.slice a9 ((qR:Int)::prR).length c9) 3 (ints ((qR:Int)::prR)),.win (.sg a10 VR.length c10) 3 (ints VR),.cel bX 124 [.slice a9 ((qR:Int)::prR).length c9,.sg a10 VR.length c10,.func (.func 60) #[] #[]],.row (.sg (some ⟨b31,0,none⟩) (new.length+1) (new.length+1)) 59 7 (new.length+1) css.flatten,.cel bB 59 (stpC s ad m cpp)]∧RBytes I_2 (.sg ad m cpp) s.op.data∧StepOk old new (cst S) (k+1) s∧OptAt old new (cst S) (k+1) s.cost∧WinOk (cst S) (k+1) lo3 cp3 cv3∧(∀x,F[k+1]? = some x→(lo3:Int)+x.n≤(k+1:Nat))) ?_ ?_
      ·
       refine QwR (qq Z (qb _) (qq Z (Qmi rfl) (qq Z (g_ixI JV sizeOf128 hF rfl rfl (by omega) (by omega)) (qq Z (qE (c':=1) underlying128 rfl xK rfl rfl rfl) (qq Z (qt xW hF1A rfl rfl) (qq Z (Qai rfl) (QoR (qq Z (Qmi rfl) (qq Z (g_gtr rfl rfl) (QoN (qh rfl ?_ ?_)))))))))))
       ·
        intro hc140
        try simp only[zA,zO,zN,zI,zF,zM,zT,zU]at hc140
        have hn0:0 < n:=by omega
        have hlo2:lo≤k+1 - n:=by omega
        refine QwR (qq Z (qb _) (qq Z (Qmi rfl) (qq Z (Qmi rfl) (qq Z (qJ (g_sub rfl rfl (by omega) (by omega)) (congrArg (Value.int .i64) (show((k+1:Nat):Int) - _=((k+1 - n:Nat):Int) by omega))) ?_))));refine qe (qi call62 rfl (leastM_c (k+1 - n:Nat) bC a5 a6 c5 c6 cp2 cv2 _ _ _ hWC.len (by have:=hWC.bnd; omega) (St.ownA [_,_,_] Z) (hWC.ex hlo2 (by omega)))) ?_;rintro _ w_17⟨kC,qC_,prC,VC,a11,c11,a12,c12,rfl,hqc,hlaC,hVC,hE⟩;replace Z:=St.callA [_,_,_] Z hE;obtain⟨hWC2,qC,rfl,hqC1,hqC2,hqC3⟩:=hWC.least hlo2 hlaC hqc;have hbC:=hfi.dp.bnd qC hqC2;refine qq Z (Qai rfl) (QoN (xJ (draw (.pg 0 (.pg 1 (.hg 2 (.pg 3 (.hg 4 (.pg 5 (.pg 6 (.hg 7 (.pg 8 .nil))))))))) mixed (by kernel_rfl) Z ?_)));intro w_18 Z;refine sp rfl (qb _) (sp rfl (Qmi rfl) ?_);refine sh rfl (g_ixR 6 QW Jc rfl rfl rfl (by show(0:Int)≤((qC:Nat):Int); omega) (by show((qC:Nat):Int) < ((new.length+1:Nat):Int); omega)) ?_;refine sp rfl (qE (c':=0) QM rfl xK rfl rfl rfl) (sh rfl (jg 6 xW rfl rfl (kO hA (j:=qC) (by omega))) (sp rfl (g_add rfl rfl (by omega) (by omega)) (sp rfl (qa (o':=0) QM rfl xK rfl rfl rfl) (sh rfl (qc 7 xW rfl rfl rfl) (sp rfl (g_leq rfl rfl) (sn (xL (qh rfl ?_ ?_))))))))
        ·
         intro hc154
         try simp only[zA,zO,zN,zI,zF,zM,zT,zU]at hc154
         have hsk2:=step_copy (C:=cst S) (i:=k+1) hkn hfd hqC1 hqC2;have hopt:=opt_of (i:=k+1) hkn hls hrn hqR3 hfd (c:=cst S qC+4) (by omega) (by omega) (.inr ⟨qC,Int.le_refl _,hqC3⟩);have hlo3:∀x,F[k+1]? = some x→((k+1 - n:Nat):Int)+x.n≤(k+1:Nat):=fun x hx=>by rw[hx1]at hx; obtain rfl:=Option.some.inj hx; dsimp only; omega
         refine draw (.pg 0 (.pg 1 (.hg 2 (.pg 3 (.hg 4 (.pg 5 (.pg 6 (.pg 7 (.pg 8 (.pg 9 (.pg 10 (.hg 11 (.pg 12 (.pg 13 (.pg 14 (.pg 15 (.pg 16 (.pg 17 (.pg 18 (.pg 19 (.pg 20 (.cons 21 .bar .nil)))))))))))))))))))))) mixed (by kernel_rfl) Z ?_;intro w_19 Z;refine sp rfl (qb _) (sp rfl (Qmi rfl) ?_);refine sh rfl (g_ixR 6 QW Jc rfl rfl rfl (by show(0:Int)≤((qC:Nat):Int); omega) (by show((qC:Nat):Int) < ((new.length+1:Nat):Int); omega)) ?_;refine sp rfl (qE (c':=0) QM rfl xK rfl rfl rfl) (sh rfl (jg 6 xW rfl rfl (kO hA (j:=qC) (by omega))) (sp rfl (g_add rfl rfl (by omega) (by omega)) (sp rfl (Qmi rfl) (sp rfl (qb _) (sp rfl (Qmi rfl) (sp rfl (g_ixI JV sizeOf128 hF rfl rfl (by omega) (by omega)) (sp rfl (qE (c':=0) underlying128 rfl xK rfl rfl rfl) ?_)))))));refine sh rfl (qt xW hF1A rfl rfl) (sp rfl (Qmi rfl) (sp rfl (Qmi rfl) (sp rfl (g_sub rfl rfl (by omega) (by omega)) (sp rfl (g_sub rfl rfl (by omega) (by omega)) (sp rfl (Qmi rfl) (sp rfl (Qmi rfl) (sp rfl (g_sub rfl rfl (by omega) (by omega)) (sp rfl (qs (pl:=[(0,1),(1,1),(2,1),(3,1),(4,1)]) (cs:=[.ig _,.ig _,.ig _,.bg _,.sg _ _ _]) QE uj (fun w=>by simp[uI,xK,un]) (mp (v:=.ig _) rfl (mp (v:=.ig _) rfl (mp (v:=.ig _) rfl mp0))) rfl) ?_))))))));refine sp rfl (qs (pl:=[(0,1),(1,1),(2,5)]) (cs:=[.ig _,.ig _,.ig _,.ig _,.ig _,.bg _,.sg _ _ _]) Km QM (fun w=>by simp[xK,uz]) (mp (v:=.ig _) rfl (mp (v:=.ig _) rfl (mp (v:=.agg #[.ig _,.ig _,.ig _,.bg _,.sg _ _ _]) rfl mp0))) (findM_c_fill2 _ _ _ _ _ _ _ _ _ _ _ _ _ _ _ _)) ?_;refine sb rfl (qf 7 Z Jc rfl rfl rfl (vs:=[.ig _,.ig _,.ig _,.ig _,.ig _,.bg _,.sg _ _ _]) rfl rfl rfl (xH rfl) (cs':=[_,_,_,_,_,_,_]) rfl) ?_
         rintro _ w_20⟨rfl,Z⟩;refine⟨_,_,Z,sn (xL ?_)⟩
         first
          | exact⟨_,rfl,⟨cst S qC+4,qC,⟨1,(p:Int) - (((k+1:Nat):Int) - qC),((k+1:Nat):Int) - qC,0,[]⟩⟩,none,0,0,_,_,_,_,_,_,_,⟨rfl,rfl,rfl,rfl,rfl,rfl,rfl,rfl,rfl,rfl,trivial⟩,Z.sel [true,true,true,true,true,true,true,true],RFl.nil,hsk2,hopt,hWC2,hlo3⟩
          | exact⟨_,rfl,s,ad,m,cpp,_,_,_,_,_,_,_,⟨rfl,rfl,rfl,rfl,rfl,rfl,rfl,rfl,rfl,rfl,trivial⟩,Z.sel [true,true,true,true,true,true,true,true],hda,hsk,hopt,hWC2,hlo3⟩
          | exact⟨_,rfl,s,ad,m,cpp,_,_,_,_,_,_,_,⟨rfl,rfl,rfl,rfl,rfl,rfl,rfl,rfl,rfl,rfl,trivial⟩,Z.sel [true,true,true,true,true,true,true,true],hda,hsk,hopt,hWC,hlo3⟩
        ·
         intro hc154
         try simp only[zA,zO,zN,zI,zF,zM,zT,zU]at hc154
         have hopt:=opt_of (i:=k+1) hkn hls hrn hqR3 hfd hs1 hs2 (.inr ⟨qC,by omega,hqC3⟩);have hlo3:∀x,F[k+1]? = some x→((k+1 - n:Nat):Int)+x.n≤(k+1:Nat):=fun x hx=>by rw[hx1]at hx; obtain rfl:=Option.some.inj hx; dsimp only; omega
         refine xM (xL ?_)
         first
          | exact⟨_,rfl,⟨cst S qC+4,qC,⟨1,(p:Int) - (((k+1:Nat):Int) - qC),((k+1:Nat):Int) - qC,0,[]⟩⟩,none,0,0,_,_,_,_,_,_,_,⟨rfl,rfl,rfl,rfl,rfl,rfl,rfl,rfl,rfl,rfl,trivial⟩,Z.sel [true,true,true,true,true,true,true,true],RFl.nil,hsk2,hopt,hWC2,hlo3⟩
          | exact⟨_,rfl,s,ad,m,cpp,_,_,_,_,_,_,_,⟨rfl,rfl,rfl,rfl,rfl,rfl,rfl,rfl,rfl,rfl,trivial⟩,Z.sel [true,true,true,true,true,true,true,true],hda,hsk,hopt,hWC2,hlo3⟩
          | exact⟨_,rfl,s,ad,m,cpp,_,_,_,_,_,_,_,⟨rfl,rfl,rfl,rfl,rfl,rfl,rfl,rfl,rfl,rfl,trivial⟩,Z.sel [true,true,true,true,true,true,true,true],hda,hsk,hopt,hWC,hlo3⟩
       ·
        intro hc140
        try simp only[zA,zO,zN,zI,zF,zM,zT,zU]at hc140
        have hn0:n=0:=by omega
        have hopt:=opt_of (i:=k+1) hkn hls hrn hqR3 hfd hs1 hs2 (.inl hn0);have hlo3:∀x,F[k+1]? = some x→(lo:Int)+x.n≤(k+1:Nat):=fun x hx=>by rw[hx1]at hx; obtain rfl:=Option.some.inj hx; dsimp only; omega
        refine xM (xL ?_)
        first
         | exact⟨_,rfl,⟨cst S qC+4,qC,⟨1,(p:Int) - (((k+1:Nat):Int) - qC),((k+1:Nat):Int) - qC,0,[]⟩⟩,none,0,0,_,_,_,_,_,_,_,⟨rfl,rfl,rfl,rfl,rfl,rfl,rfl,rfl,rfl,rfl,trivial⟩,Z.sel [true,true,true,true,true,true,true,true],RFl.nil,hsk2,hopt,hWC2,hlo3⟩
         | exact⟨_,rfl,s,ad,m,cpp,_,_,_,_,_,_,_,⟨rfl,rfl,rfl,rfl,rfl,rfl,rfl,rfl,rfl,rfl,trivial⟩,Z.sel [true,true,true,true,true,true,true,true],hda,hsk,hopt,hWC2,hlo3⟩
         | exact⟨_,rfl,s,ad,m,cpp,_,_,_,_,_,_,_,⟨rfl,rfl,rfl,rfl,rfl,rfl,rfl,rfl,rfl,rfl,trivial⟩,Z.sel [true,true,true,true,true,true,true,true],hda,hsk,hopt,hWC,hlo3⟩
      ·
       rintro σ w⟨s,ad,m,cpp,lo3,cp3,cv3,b1,d1,b2,d2,hs,Z,hda,hsk,hopt,hWC3,hlo3⟩;rw[← qj hs];refine reg (qq Z (qb _) (qq Z (Qmi rfl) (qq Z (g_ldO 7 (vs:=[.ig _,.ig _,.ig _,.ig _,.ig _,.bg _,.sg _ _ _]) Jc isAgg59 rfl rfl rfl rfl) ?_)));refine qq Z (g_ixR 6 QW Jc rfl rfl rfl (by show(0:Int)≤((k+1:Nat):Int); omega) (by show((k+1:Nat):Int) < ((new.length+1:Nat):Int); omega)) ?_;refine qe (yq 6 (vs:=stpC s ad m cpp) (xF hA) Z (by rw[hA.1,hfi.len]) hcs0 Jc rfl rfl rfl rfl rfl) ?_;clear Z;rintro _ w_21⟨rfl,Z⟩;refine qy (uM (xL (reg (qq Z (Qmi rfl) (qq Z (g_add rfl rfl (by omega) (by omega)) (qq Z (Qai rfl) ?_))))));exact⟨⟨k+1,lit2,run2,lo3,S.set (k+1) s,css.set (k+1) (stpC s ad m cpp),cp3,cv3,_,VR,b1,d1,b2,d2,a9,c9,a10,c10⟩,_,rfl,⟨⟨rfl,rfl,rfl,rfl,rfl,rfl,rfl,rfl,rfl,trivial⟩,Z.sel [true,true,true,true,true,true,true,false],hfi.next hkn hsk hopt hWC3 hWX2 hlk2 hls hlo3 hrn,All2.put hA ⟨ad,m,cpp,rfl,hda⟩⟩,by dsimp only; omega⟩
  ·
   intro hc35
   try simp only[zA,zO,zN,zI,zF,zM,zT,zU]at hc35
   obtain rfl:k=new.length:=by have:=hfi.le; omega
   refine ur (um (um (Qi (xL (QwR (qq Z (qb _) (qq Z (qd _) (QoN (xO (ret1 results24 (qg rfl) ?_))))))))));obtain⟨I9,hS9,hs9,h9⟩:=St.freezeRowR (Z.sel [false,false,false,false,false,false,true]) hfi.len.symm (xF hA) hA;exact⟨I9,_,_,S,rfl,hS9,RSl.mono h9 (Inl.Sub.refl _) fun _ _ h=>h.mono hs9,hfi.len,hfi.dp⟩
end Go.Proofs.YtgkgihnpjgbmhaaGreatDoor
namespace Go.Proofs.YtgkgihnpjgbmhaaGreatDoor
open Tryz
open Go Go.RowKit Go.Inl
abbrev RStps (I:Imm)(v:Value)(S:List StepL):Prop:=RSl I 7 (RStep I) v S
theorem rstps_mono {I J:Imm}{v:Value}{S:List StepL}(h:RStps I v S)(hs:Inl.Sub I J):RStps J v S:=RSl.mono h hs fun _ _ h=>h.mono hs
inductive PathS (S : List StepL) (n : Nat) : Nat → List OpL → Prop
 | nil:PathS S n n []
 | cons {i:Nat} {acc:List OpL} {s:StepL} (h:PathS S n i acc) (hi:0 < i) (hs:S[i]? = some s):PathS S n s.from_ (acc++[s.op])
theorem mk_data {old new:List Int}{j i:Nat}{x:OpL}(h:MakesOp old new j i x)(hi:i≤new.length):x.data.length≤new.length:=by
 rcases h with rfl | ⟨b,rfl,_,_⟩ | ⟨p,rfl,_,_,_⟩
 · show(pcs new j i).length≤_; rw[jy hi]; omega
 · exact Nat.zero_le _
 · exact Nat.zero_le _
theorem slM {α:Type}{I:Imm}{sz m cap:Nat}{ad:Option Addr}{R:List Value→α→Prop}{xs:List α}(h:RSl I sz R (.sg ad m cap) xs):m=xs.length:=by
 obtain⟨a,c,e,_⟩:=h.len;injection e
structure RevAt (css cs : List (List Value)) (i : Nat) : Prop where
 len:cs.length=css.length
 get:∀m,m < css.length→cs[m]? = if m < i∨css.length - i≤m then css[css.length - 1 - m]? else css[m]?
theorem RevAt.start (css:List (List Value)):RevAt css css 0:=⟨rfl,fun m hm=>by rw[xP (by omega)]⟩
theorem RevAt.step {css cs:List (List Value)}{i:Nat}{x y:List Value}(h:RevAt css cs i)(hi:2*i+1 < css.length)(hx:cs[i]? = some x)(hy:cs[css.length - 1 - i]? = some y):RevAt css ((cs.set i y).set (css.length - 1 - i) x) (i+1):=by
 have hl:=h.len;refine⟨by rw[ud,ud]; exact hl,fun m hm=>?_⟩;have h1:=h.get i (by omega);rw[xP (by omega),hx]at h1;have h2:=h.get (css.length - 1 - i) (by omega);rw[xP (by omega),hy]at h2;rw[List.getElem?_set];by_cases e1:css.length - 1 - i=m
 · rw[xS e1,xS (by rw[ud,hl]; omega),xS (by omega),show css.length - 1 - m=i by omega]; exact h1
 · rw [xP e1, List.getElem?_set]
   by_cases e2:i=m
   · subst e2
     rw[xS rfl,xS (by rw[hl]; exact hm),xS (by omega)]; exact h2
   · rw [xP e2, h.get m hm]
     by_cases e3:m < i∨css.length - i≤m
     · rw[xS e3,xS (by omega)]
     · rw[xP e3,xP (by omega)]
theorem RevAt.done {css cs:List (List Value)}{i:Nat}(h:RevAt css cs i)(hi:css.length≤2*i+1):cs=css.reverse:=by
 refine List.ext_getElem? fun m=>?_
 by_cases hm:m < css.length
 · rw [List.getElem?_reverse hm, h.get m hm]
   by_cases e:m < i∨css.length - i≤m
   · rw[xS e]
   · rw[xP e,show css.length - 1 - m=m by omega]
 · rw[List.getElem?_eq_none (by rw[h.len]; omega),List.getElem?_eq_none (by rw[List.length_reverse]; omega)]
theorem all2_rev {α:Type}{R:List Value→α→Prop}{css:List (List Value)}{xs:List α}(h:All2 R css xs):All2 R css.reverse xs.reverse:=by
 refine⟨by rw[List.length_reverse,List.length_reverse]; exact h.1,fun i cs x h1 h2=>?_⟩;have hi:=(xX.1 h1).1;rw[List.length_reverse]at hi;rw[List.getElem?_reverse hi]at h1;rw[List.getElem?_reverse (by rw[← h.1]; exact hi),← h.1]at h2;exact h.2 _ cs x h1 h2
structure RvW where
 i:Nat
 cs:List (List Value)
structure PnW where
 i:Nat
 acc:List OpL
 css:List (List Value)
 a:Option Addr
 c:Nat
theorem cloneB_o (ad : Option Addr) (cap : Nat) (l : List Int) (w0 : World) (I0 : Imm) (hI : Sat I0 w0) (hl : RBytes I0 (.sg ad l.length cap) l) (hn : l.length ≤ 65536) :
 Ctr prog 25 [.sg ad l.length cap] w0 (fun v w'=>∃I' a c,v = .sg a l.length c∧Ext w0 I0 w' I'∧RBytes I' (.sg a l.length c) l):=by
 refine fn (n:=8) func25 rfl rfl rfl ?_;have Z:=St.start hI;refine QwR (qq Z (qd _) (QoN (xJ (QwR (qq Z (qb _) (qq Z (g_eqSliceNilA xQ rfl rfl) (QoN (qh rfl ?_ ?_))))))))
 ·
  intro hc4;have hl0:l=[]:=by
   rcases hl with ⟨_,h⟩ | ⟨b,o,c,h1,_⟩
   · exact h
   · simp only [Value.slice.injEq] at h1
     rw[h1.1]at hc4; cases hc4
  subst hl0;refine QwR (qq Z (qd _) (QoN (xO (ul (ret1 results25 (qg rfl) ?_)))));exact⟨I0,none,0,rfl,Z,RFl.nil⟩
 ·
  intro hc4;refine xM (xL (QwR (qe (jo Z xQ un) ?_)));clear Z;rintro _ w_1⟨Z,b5_,rfl⟩;refine qq Z (qb _) (qe (qO 0 Z rfl xQ QP rfl rfl rfl rfl qA (fun _=>rfl) hl rfl (by omega) (by omega)) ?_);clear Z;rintro _ w_2⟨a7,p7,rfl,Z⟩;refine qq Z (qd _) (QoN (xO (ret1 results25 (qg rfl) ?_)));rw[Ja,Qv]at Z;obtain⟨I9,hS9,hs9,h9⟩:=St.freezeRow (E:=5) (xs:=l) qA (Z.sel [true]) rfl;exact⟨I9,a7,p7,by show Value.slice a7 (0+l.length) p7=_; rw[Qv],hS9,h9⟩
set_option maxHeartbeats 2000000 in
theorem revM_c (a : Option Addr) (c : Nat) (css : List (List Value)) (X : List Nat) (w0 : World) (I0 : Imm) (hcl : ∀ x ∈ css, x.length = 5) (h1c : ∀ x ∈ css, x.all (·.oneCell') = true) (hb : css.length ≤ 1048576) (hS0 : St X w0 I0 I0 w0 [.row (.sg a css.length c) 57 5 css.length css.flatten]) :
 Ctr prog 26 [.sg a css.length c] w0 (fun v w'=>v = .tuple #[]∧St X w0 I0 I0 w' [.row (.sg a css.length c) 57 5 css.length css.reverse.flatten]):=by
 refine fn (n:=28) func26 rfl rfl rfl ?_;have Z:=hS0;have hI:=Z.imm;refine QwR (qq Z (qb _) (qq Z (g_lenR 0 rfl Qn rfl rfl) (qq Z (g_sub rfl rfl (by omega) (by omega)) (qq Z (Qai rfl) (qq Z (Qai rfl) (QoN (xU (loop (fun(z:RvW) σ w=>okS σ [(0,.sg a css.length c),(2,.ig z.i),(3,.ig ((css.length:Int) - 1 - z.i))]∧St X w0 I0 I0 w [.row (.sg a css.length c) 57 5 css.length z.cs.flatten]∧RevAt css z.cs z.i∧z.i≤css.length∧(∀x∈z.cs,x.length=5)∧∀x∈z.cs,x.all (·.oneCell')=true) (fun z=>css.length - z.i) (⟨0,css⟩) ?_ ?_))))))))
 ·
  exact⟨⟨rfl,rfl,(by show Value.int .i64 ((css.length:Int) - 1) = .ig ((css.length:Int) - 1 - ((0:Nat):Int)); congr 1; omega),trivial⟩,Z.sel [true],RevAt.start css,Nat.zero_le _,hcl,h1c⟩
 ·
  rintro⟨i,cs⟩σ w_l⟨hs,Z,hra,hil,hcl2,h1c2⟩;dsimp only at hs Z hra hil hcl2 h1c2 ⊢;rw[← qj hs]; clear hs
  refine xJ (QwR (qq Z (Qmi rfl) (qq Z (Qmi rfl) (qq Z (g_lss rfl rfl) (QoN (qh rfl ?_ ?_))))))
  ·
   intro hc9
   try simp only[zA,zO,zN,zI,zF,zM,zT,zU]at hc9
   have hrl:=hra.len;obtain⟨x,hx⟩:∃x,cs[((i:Nat):Int).toNat]? = some x:=⟨_,xI (by rw[Int.toNat_natCast]; omega)⟩
   obtain⟨y,hy⟩:∃y,cs[((css.length:Int) - 1 - i).toNat]? = some y:=⟨_,xI (by omega)⟩
   have hcl3:∀z∈cs.set ((i:Nat):Int).toNat y,z.length=5:=fun z hz=>by
    rcases List.mem_or_eq_of_mem_set hz with hz | rfl
    · exact hcl2 z hz
    · exact hcl2 _ (xR hy)
   obtain⟨cs0,hcs0⟩:∃z,(cs.set ((i:Nat):Int).toNat y)[((css.length:Int) - 1 - i).toNat]? = some z:=⟨_,xI (by rw[ud]; omega)⟩
   have hij:((css.length:Int) - 1 - i).toNat=css.length - 1 - i:=by omega
   have hst:=hra.step (by omega) (x:=x) (y:=y) (by rw[Int.toNat_natCast]at hx; exact hx) (by rw[hij]at hy; exact hy);refine xM (xL (xJ (xU (draw (.pg 0 (.pg 1 (.pg 2 (.pg 3 (.pg 4 (.pg 5 (.hg 6 (.hg 7 (.pg 8 (.pg 9 (.hg 10 (.hg 11 (.hg 12 (.cons 13 .bar (.hg 14 (.cons 15 .bar .nil)))))))))))))))) mixed (by kernel_rfl) Z ?_))));intro w_1 Z;refine sp rfl (qb _) (sp rfl (Qmi rfl) (sp rfl (qb _) (sp rfl (Qmi rfl) (sp rfl (qb _) (sp rfl (Qmi rfl) (sh rfl (g_ixR 0 Qn uz rfl rfl rfl (by omega) (by omega)) (sh rfl (g_ldRowC 0 hcl2 hy uz Qo rfl rfl) (sp rfl (qb _) (sp rfl (Qmi rfl) (sh rfl (g_ixR 0 Qn uz rfl rfl rfl (by omega) (by omega)) ?_))))))))));refine sh rfl (g_ldRowC 0 hcl2 hx uz Qo rfl rfl) (sh rfl (g_ixR 0 Qn uz rfl rfl rfl (by omega) (by omega)) (sb rfl (yq 0 hcl2 Z hra.len.symm hx uz rfl rfl rfl (hcl2 y (xR hy)) (h1c2 y (xR hy))) ?_));rintro _ w_2⟨rfl,Z⟩;refine⟨_,_,Z,sh rfl (g_ixR 0 Qn uz rfl rfl rfl (by omega) (by omega)) ?_⟩;refine sb rfl (yq 0 (cs0:=cs0) hcl3 Z (by rw[ud]; exact hra.len.symm) hcs0 uz rfl rfl rfl (hcl2 x (xR hx)) (h1c2 x (xR hx))) ?_;rintro _ w_3⟨rfl,Z⟩;refine⟨_,_,Z,sn (uM (xL (reg (qq Z (Qmi rfl) (qq Z (g_add rfl rfl (by omega) (by omega)) (qq Z (Qmi rfl) (qq Z (g_sub rfl rfl (by omega) (by omega)) (qq Z (Qai rfl) (qq Z (Qai rfl) ?_)))))))))⟩;exact⟨⟨i+1,(cs.set i y).set (css.length - 1 - i) x⟩,_,rfl,⟨⟨rfl,rfl,(by show Value.int .i64 ((css.length:Int) - 1 - i - 1) = .ig ((css.length:Int) - 1 - ((i+1:Nat):Int)); congr 1; omega),trivial⟩,(by dsimp only; rw[← hij]; exact Z.sel [true]),hst,by dsimp only; omega,fun z hz=>by
    rcases List.mem_or_eq_of_mem_set hz with hz | rfl
    · exact hcl3 z hz
    · exact hcl2 _ (xR hx),fun z hz=>by
    rcases List.mem_or_eq_of_mem_set hz with hz | rfl
    · rcases List.mem_or_eq_of_mem_set hz with hz | rfl
      · exact h1c2 z hz
      · exact h1c2 _ (xR hy)
    · exact h1c2 _ (xR hx)⟩,by dsimp only; omega⟩
  ·
   intro hc9
   try simp only[zA,zO,zN,zI,zF,zM,zT,zU]at hc9
   have hdn:=hra.done (by omega);refine ur (um (um (Qi (end0 results26  ?_))));rw[← hdn]; exact⟨rfl,Z.sel [true]⟩
set_option maxHeartbeats 8000000 in
theorem plainW_c (oa na : Option Addr) (ocap ncap : Nat) (old new : List Int) (w0 : World) (I0 : Imm) (hI : Sat I0 w0) (ho : RBytes I0 (.sg oa old.length ocap) old) (hn : RBytes I0 (.sg na new.length ncap) new) (hob : ∀ y ∈ old, 0 ≤ y ∧ y ≤ 255) (hnb : ∀ y ∈ new, 0 ≤ y ∧ y ≤ 255) (hol : old.length ≤ 65536) (hnl : new.length ≤ 65536) :
 Ctr prog 7 [.sg oa old.length ocap, .sg na new.length ncap] w0 (fun v w' => ∃ I' a c S acc ops, v = .tuple #[.agg #[.bool false, .ig old.length, .ig new.length, .sg a ops.length c], .ig 0] ∧ Ext w0 I0 w' I' ∧ ROps I' (.sg a ops.length c) ops ∧
  S.length=new.length+1∧DpOk old new S (new.length+1)∧PathS S new.length 0 acc∧ops=if 4096 < acc.length then [⟨4,0,new.length,0,new⟩] else acc.reverse):=by
 refine fn (n:=64) func7 rfl rfl rfl ?_;have Z:=St.start hI;refine QwR (qe (qr (cs:=[.bool _,.ig _,.ig _,.sg _ _ _]) Z uK rfl) ?_);clear Z;rintro _ w_1⟨b4,rfl,Z⟩;refine qq Z (Qai rfl) (QoN (xJ (QwR (qq Z (qb _) (qq Z (qo rfl xQ (ho.mono Z.ext) rfl) (qq Z (qb _) (qq Z (qo rfl xQ (hn.mono Z.ext) rfl) (qq Z (g_max rfl rfl) ?_))))))));refine qq Z (qJ (g_gtr rfl rfl) (congrArg Value.bool (uw (by split <;> omega)))) ?_;refine QoN (qV (rfl) (xM (xL (QwR (qq Z (qb _) (qq Z (qo rfl xQ (ho.mono Z.ext) rfl) (qq Z (qb _) (qq Z (qo rfl xQ (hn.mono Z.ext) rfl) (qq Z (qs (pl:=[(0,1),(1,1),(2,1),(3,1)]) (cs:=[.bool _,.ig _,.ig _,.sg _ _ _]) uK uk (fun w=>by simp[Qm,xK,uy]) (mp (v:=.ig _) rfl (mp (v:=.ig _) rfl mp0)) rfl) ?_)))))))));refine qe (qr (cs:=[.bool _,.ig _,.ig _,.sg _ _ _]) Z uK rfl) ?_;clear Z;rintro _ w_2⟨b6,rfl,Z⟩;refine qe (qf 0 Z ug rfl rfl rfl (vs:=[.bool _,.ig _,.ig _,.sg _ _ _]) rfl rfl rfl (xH rfl) (cs':=[_,_,_,_]) rfl) ?_;clear Z;rintro _ w_3⟨rfl,Z⟩;refine QoR (qq Z (qb _) (qq Z (qb _) (qe (qi call24 rfl (findM_c oa na ocap ncap old new _ _ Z.imm (ho.mono Z.ext) (hn.mono Z.ext) hob hnb hol hnl)) ?_)));rintro _ w_4⟨I_1,a24,c24,S,rfl,hE,hst,hSl,hdp⟩;replace Z:=Z.callE hE;refine qq Z (qd _) (QoN (xJ (QwR (qq Z (qb _) (qq Z (qo rfl xQ (hn.mono Z.ext) rfl) (qq Z (Qai rfl) (QoN (xU ?_))))))));replace Z:=Z.nilRow 57 5;refine loop (fun(z:PnW) σ w=>okS σ [(0,.sg oa old.length ocap),(1,.sg na new.length ncap),(4,.zg b4),(6,.zg b6),(7,.sg a24 (new.length+1) c24),(8,.ig z.i)]∧∃I,St [] w0 I0 I w [.row (.sg z.a z.acc.length z.c) 57 5 z.acc.length z.css.flatten,.cel b6 26 [.bool false,.ig old.length,.ig new.length,.sg z.a z.acc.length z.c],.cel b4 26 [.bool false,.ig 0,.ig 0,.sg none 0 0]]∧z.i≤new.length∧RStps I (.sg a24 (new.length+1) c24) S∧PathS S new.length z.i z.acc∧All2 (ROp I) z.css z.acc∧(∀x∈z.css,x.length=5)∧(∀x∈z.css,x.all (·.oneCell')=true)∧z.acc.length+z.i≤new.length) (fun z=>z.i) (⟨new.length,[],[],none,0⟩) ?_ ?_
 ·
  exact⟨⟨rfl,rfl,rfl,rfl,rfl,rfl,trivial⟩,_,Z,uc _,hst,.nil,All2.nil _,by simp,by simp,by simp⟩
 ·
  rintro⟨i,acc,css,a,c⟩σ w_l⟨hs,I,Z,hi,hst,hpa,hall,hcl,h1c,hai⟩;dsimp only at hs Z hi hst hpa hall hcl h1c hai ⊢;rw[← qj hs]; clear hs
  refine xJ (QwR (qq Z (Qmi rfl) (qq Z (g_gtr rfl rfl) (QoN (qh rfl ?_ ?_)))))
  ·
   intro hc28
   try simp only[zA,zO,zN,zI,zF,zM,zT,zU]at hc28
   obtain⟨s,hs_⟩:∃s,S[i]? = some s:=⟨_,xI (by omega)⟩
   obtain⟨cs,hcl7,hsA,ad,m,cp,rfl,hsd⟩:=hst.at hs_;obtain⟨hsk,hopt⟩:=hdp.ok i s (by omega) (by omega) hs_;have hdl:=mk_data hsk.mks (by omega);obtain rfl:=slM hsd;have hfl:=hsk.lt;refine xM (xL (xJ (xU (QwR (qq Z (qb _) (qq Z (Qmi rfl) (qq Z (g_ixI QW Jc hst rfl rfl (by omega) (by omega)) (qq Z (qE (c':=2) QM rfl uz rfl rfl rfl) (qq Z (g_ldE (us:=[.ig _,.ig _,.ig _,.bg _,.sg _ _ _]) uz Qo hsA rfl rfl rfl) (qe (qr (cs:=[.ig _,.ig _,.ig _,.bg _,.sg _ _ _]) Z QE rfl) ?_))))))))));clear Z;rintro _ w_5⟨bO,rfl,Z⟩;refine qe (qf 0 Z uz rfl rfl rfl (vs:=[.ig _,.ig _,.ig _,.bg _,.sg _ _ _]) rfl rfl rfl (xH rfl) (cs':=[_,_,_,_,_]) rfl) ?_;clear Z;rintro _ w_6⟨rfl,Z⟩;refine QoR (qq Z (qa (o':=4) uj rfl uI rfl rfl rfl) (qq Z (qc 0 Qx rfl rfl rfl) (qe (qi call25 rfl (cloneB_o ad cp s.op.data _ _ Z.imm hsd (by omega))) ?_)));rintro _ w_7⟨I_f,aD,cD,rfl,hE,hD⟩;replace Z:=Z.callE hE;replace hst:=rstps_mono hst hE.ext;replace hall:=hall.mono fun _ _ h=>h.mono hE.ext
   replace hsA:=hsA.mono hE.ext;refine qq Z (qa (o':=4) uj rfl uI rfl rfl rfl) (qe (qf 0 Z uI rfl rfl rfl (vs:=[.sg _ _ _]) rfl rfl rfl (xH rfl) (cs':=[_,_,_,_,_]) rfl) ?_);clear Z;rintro _ w_8⟨rfl,Z⟩;refine QoN (reg (qq Z (qa (o':=3) uk rfl Qm rfl rfl rfl) (qq Z (qc 2 Jo rfl rfl rfl) (qq Z (g_ldO 0 (vs:=[.ig _,.ig _,.ig _,.bg _,.sg _ _ _]) uz Qo rfl rfl rfl rfl) ?_))));refine qe (d_lit (vs:=[.agg #[.ig _,.ig _,.ig _,.bg _,.sg _ _ _]]) (cs:=[.ig _,.ig _,.ig _,.bg _,.sg _ _ _]) Z Qn uz QE rfl rfl rfl rfl (fun v hv=>by simp only[xV,xY,or_false]at hv; subst hv; rfl) rfl) ?_;clear Z;rintro _ w_9⟨b46,rfl,Z⟩;refine qe (qB 2 0 Z rfl Qn info57 rfl rfl rfl rfl rfl rfl rfl rfl (by omega) (by omega)) ?_;clear Z;rintro _ w_10⟨a47,p47,rfl,Z⟩;refine qq Z (qa (o':=3) uk rfl Qm rfl rfl rfl) (qe (qf 3 Z Qm rfl rfl rfl (vs:=[.sg _ _ _]) rfl rfl rfl (xH rfl) (cs':=[_,_,_,_]) rfl) ?_);clear Z;rintro _ w_11⟨rfl,Z⟩;refine qy (uM (xL (reg (qq Z (qb _) (qq Z (Qmi rfl) (qq Z (g_ixI QW Jc hst rfl rfl (by omega) (by omega)) (qq Z (qE (c':=1) QM rfl xK rfl rfl rfl) (qq Z (qt xW hsA rfl rfl) (qq Z (Qai rfl) ?_)))))))));refine⟨⟨s.from_,acc++[s.op],css++[[.ig s.op.kind,.ig s.op.from_,.ig s.op.len,.bg s.op.b,.sg aD s.op.data.length cD]],a47,p47⟩,_,rfl,⟨⟨rfl,rfl,rfl,rfl,rfl,rfl,trivial⟩,_,?_,by dsimp only; omega,hst,.cons hpa (by omega) hs_,All2.snoc hall ⟨_,_,_,rfl,hD⟩,?_,?_,?_⟩,by dsimp only; omega⟩
   · dsimp only
     rw[JO,List.flatten_singleton,xN];exact Z.sel [false,false,true,true,true]
   · intro x hx
     rcases uJ.1 hx with h | h
     · exact hcl x h
     · simp only[uG]at h; subst h; rfl
   · intro x hx
     rcases uJ.1 hx with h | h
     · exact h1c x h
     · simp only[uG]at h; subst h; rfl
   · dsimp only
     rw[xN,JI];omega
  ·
   intro hc28
   try simp only[zA,zO,zN,zI,zF,zM,zT,zU]at hc28
   obtain rfl:i=0:=by omega
   have hal:=hall.1;rw[← hal]at Z;refine ur (um (um (Qi (xL (QwR (qq Z (qa (o':=3) uk rfl Qm rfl rfl rfl) (qq Z (qc 1 Jo rfl rfl rfl) (qe (qi call26 rfl (revM_c a c css _ _ _ hcl h1c (by omega) (St.ownA [_] Z))) ?_))))))));rintro _ w_12⟨rfl,hE⟩;replace Z:=St.callA [_] Z hE;have hrv:=all2_rev hall;refine QoN (xJ (QwR (qq Z (qa (o':=3) uk rfl Qm rfl rfl rfl) (qq Z (qc 1 Jo rfl rfl rfl) (qq Z (g_lenR 0 rfl Qn rfl rfl) (qq Z (g_gtr rfl rfl) (QoN (qh rfl ?_ ?_))))))))
   ·
    intro hc55
    try simp only[zA,zO,zN,zI,zF,zM,zT,zU]at hc55
    refine reg (qq Z (qb _) (qq Z (qo rfl xQ (hn.mono Z.ext) rfl) (qq Z (qb _) (qe (qi call25 rfl (cloneB_o na ncap new _ _ Z.imm (hn.mono Z.ext) hnl)) ?_))));rintro _ w_13⟨I_f,aD,cD,rfl,hE,hD⟩;replace Z:=Z.callE hE;replace hrv:=hrv.mono fun _ _ h=>h.mono hE.ext
    refine qq Z (qs (pl:=[(0,1),(1,1),(2,1),(3,1),(4,1)]) (cs:=[.ig _,.ig _,.ig _,.bg _,.sg _ _ _]) QE uj (fun w=>by simp[uI,xK,un]) (mp (v:=.ig _) rfl (mp (v:=.ig _) rfl (mp (v:=.sg _ _ _) rfl mp0))) rfl) ?_;refine qe (d_lit (vs:=[.agg #[.ig _,.ig _,.ig _,.bg _,.sg _ _ _]]) (cs:=[.ig _,.ig _,.ig _,.bg _,.sg _ _ _]) Z Qn uz QE rfl rfl rfl rfl (fun v hv=>by simp only[xV,xY,or_false]at hv; subst hv; rfl) rfl) ?_;clear Z;rintro _ w_14⟨b61,rfl,Z⟩;refine qq Z (qa (o':=3) uk rfl Qm rfl rfl rfl) (qe (qf 2 Z Qm rfl rfl rfl (vs:=[.sg _ _ _]) rfl rfl rfl (xH rfl) (cs':=[_,_,_,_]) rfl) ?_);clear Z;rintro _ w_15⟨rfl,Z⟩;refine QoR (qq Z (g_ldO 2 (vs:=[.bool _,.ig _,.ig _,.sg _ _ _]) ug uO rfl rfl rfl rfl) (qe (qf 3 Z ug rfl rfl rfl (vs:=[.bool _,.ig _,.ig _,.sg _ _ _]) rfl rfl rfl (xH rfl) (cs':=[_,_,_,_]) rfl) ?_));clear Z;rintro _ w_16⟨rfl,Z⟩;refine qq Z (Qai rfl) (QoN (xO (ret2 results7 (qw 3 Z ug uO rfl rfl rfl) (qg (v:=.ig _) rfl) ?_)));have hlt:4096 < acc.length:=by omega
    obtain⟨I3,hS3,hI3,hb3⟩:=Z.freezeAt 0 rfl;have ho3:ROps I3 (.sg (some ⟨b61,0,none⟩) 1 1) [⟨4,0,new.length,0,new⟩]:=RSl.ofAt (css:=[[.ig 4,.ig 0,.ig new.length,.bg 0,.sg aD new.length cD]]) hb3 rfl (by simp) (All2.one ⟨_,_,_,rfl,hD.mono hI3⟩) rfl (by show 1≤maxLen; decide);exact⟨I3,_,_,S,acc,_,rfl,hS3.sel [],ho3,hSl,hdp,hpa,(xS hlt).symm⟩
   ·
    intro hc55
    try simp only[zA,zO,zN,zI,zF,zM,zT,zU]at hc55
    refine xM (xL (QwR (qq Z (g_ldO 1 (vs:=[.bool _,.ig _,.ig _,.sg _ _ _]) ug uO rfl rfl rfl rfl) (qe (qf 2 Z ug rfl rfl rfl (vs:=[.bool _,.ig _,.ig _,.sg _ _ _]) rfl rfl rfl (xH rfl) (cs':=[_,_,_,_]) rfl) ?_))));clear Z;rintro _ w_17⟨rfl,Z⟩;refine qq Z (Qai rfl) (QoN (xO (ret2 results7 (qw 2 Z ug uO rfl rfl rfl) (qg (v:=.ig _) rfl) ?_)));have hlt:¬4096 < acc.length:=by omega
    obtain⟨I6,hS3,hI3,ho3⟩:=St.freezeRowR (Z.sel [true,false,false]) (by rw[List.length_reverse]; exact hal) (fun x hx=>hcl x (List.mem_reverse.1 hx)) hrv;exact⟨I6,a,c,S,acc,acc.reverse,by rw[List.length_reverse,← hal],hS3,by rw[List.length_reverse,← hal]; exact RSl.mono ho3 (Inl.Sub.refl _) fun _ _ h=>h.mono hI3,hSl,hdp,hpa,(xP hlt).symm⟩
end Go.Proofs.YtgkgihnpjgbmhaaGreatDoor
namespace Go.Proofs.YtgkgihnpjgbmhaaGreatDoor
open Tryz
open Go Go.RowKit Go.Inl
theorem syms_get {old:List Int}(x:OpL){m:Nat}(h:m < x.len.toNat):((symsOp x).map (runB old))[m]? = some (runB old (symS x m)):=by
 unfold symsOp;rw[List.map_map,uW,List.getElem?_range h]; rfl
theorem xC {old:List Int}(x:OpL):((symsOp x).map (runB old)).length=x.len.toNat:=by rw[Qb,jm]
theorem getD_of {l:List Int}{i:Nat}{y:Int}(h:l[i]? = some y):l.getD i 0=y:=by rw[xT,h]; rfl
theorem wrap_byte {y:Int}(h:0≤y∧y≤255):IntKind.u8.wrap (0+y)=y:=by rw[IntKind.wrap_u8]; omega
theorem pcs_app {l:List Int}{j i n:Nat}(h:j≤i)(h2:i≤n)(hn:n≤l.length):pcs l j i++pcs l i n=pcs l j n:=by
 refine List.ext_getElem? fun m=>?_
 have hi:=jy (l:=l) (j:=j) (i:=i) (by omega);rcases Nat.lt_or_ge m (i - j) with e | e
 · rw[ux (by omega),kX e,kX (by omega)]
 · rw [uB (by omega), hi]
   rcases Nat.lt_or_ge m (n - j) with e2 | e2
   · rw[kX (by omega),kX e2,show i+(m - (i - j))=j+m by omega]
   · rw[List.getElem?_eq_none (by rw[jy hn]; omega),List.getElem?_eq_none (by rw[jy hn]; omega)]
theorem mk_len {old new:List Int}{j i:Nat}{x:OpL}(h:MakesOp old new j i x):x.len=(i:Int) - j:=by
 rcases h with rfl | ⟨b,rfl,_,_⟩ | ⟨p,rfl,_,_,_⟩ <;> rfl
theorem mk_syms {old new:List Int}{j i:Nat}{x:OpL}(h:MakesOp old new j i x)(hj:j < i)(hi:i≤new.length)(hob:∀y∈old,0≤y∧y≤255):(symsOp x).map (runB old)=pcs new j i:=by
 have hx:=mk_len h;refine List.ext_getElem? fun m=>?_
 have hpl:=jy (l:=new) (j:=j) hi;by_cases hm:m < i - j
 · rw [syms_get x (by omega)]
   obtain⟨y,hy⟩:∃y,(pcs new j i)[m]? = some y:=⟨_,xI (by omega)⟩
   rw[hy];congr 1
   rcases h with rfl | ⟨b,rfl,hc,_⟩ | ⟨p,rfl,hp,hp2,hc⟩
   · show List.getD (pcs new j i) ((m : Nat) : Int).toNat 0 = y
     rw[Int.toNat_natCast]; exact getD_of hy
   · rw [hc, List.getElem?_replicate, xS hm] at hy
     exact Option.some.inj hy
   · rw [← hc] at hy
     have h2:=hy;rw[kX (by omega)]at h2;show IntKind.u8.wrap (0+old.getD (((p:Int) - ((i:Int) - j))+((m:Nat):Int)).toNat 0)=y
     rw[show(((p:Int) - ((i:Int) - j))+((m:Nat):Int)).toNat=p - (i - j)+m by omega,getD_of h2];exact wrap_byte (hob y (xR h2))
 · rw[List.getElem?_eq_none (by rw[xC]; omega),List.getElem?_eq_none (by omega)]
theorem mk_right {old new:List Int}{j i:Nat}{x:OpL}(h:MakesOp old new j i x)(hj:j < i)(hi:i≤new.length):1≤x.len∧rightP x old.length=true:=by
 have hpl:=jy (l:=new) (j:=j) hi;refine⟨by rw[mk_len h]; omega,?_⟩;rcases h with rfl | ⟨b,rfl,hc,_⟩ | ⟨p,rfl,hp,hp2,hc⟩
 · simp[rightP]; omega
 · simp[rightP]
 · simp[rightP,insideP]; omega
theorem mk_bytes {old new:List Int}{j i:Nat}{x:OpL}(h:MakesOp old new j i x)(hnb:∀y∈new,0≤y∧y≤255):(0≤x.b∧x.b≤255)∧∀y∈x.data,0≤y∧y≤255:=by
 rcases h with rfl | ⟨b,rfl,hc,hb⟩ | ⟨p,rfl,hp,hp2,hc⟩
 · exact⟨⟨Int.le_refl 0,by show(0:Int)≤255; decide⟩,fun y hy=>hnb y (List.mem_of_mem_take (List.mem_of_mem_drop hy))⟩
 · exact⟨hnb b hb,fun y hy=>by cases hy⟩
 · exact⟨⟨Int.le_refl 0,by show(0:Int)≤255; decide⟩,fun y hy=>by cases hy⟩
structure PathOk (old new : List Int) (S : List StepL) (i : Nat) (l : List OpL) : Prop where
 le:i≤new.length
 ok:OpsOk old.length l
 run:(symsOf l).map (runB old)=pcs new i new.length
 cost:sumC l=cst S new.length - cst S i
 byt:∀x∈l,(0≤x.b∧x.b≤255)∧∀y∈x.data,0≤y∧y≤255
 len:l.length+i≤new.length
theorem path_ok {old new : List Int} {S : List StepL} (hdp : DpOk old new S (new.length + 1)) (hob : ∀ y ∈ old, 0 ≤ y ∧ y ≤ 255) (hnb : ∀ y ∈ new, 0 ≤ y ∧ y ≤ 255) : ∀ {i : Nat} {acc : List OpL}, PathS S new.length i acc → PathOk old new S i acc.reverse
 | _,_,.nil=>⟨uc _,fun x hx=>by simp at hx,by unfold pcs; simp[symsOf],by simp[sumC],fun x hx=>by simp at hx,by simp⟩
 | _,_,.cons (i:=i) (s:=s) h hi hs=>by
   have ih:=path_ok hdp hob hnb h;have hle:=ih.le;obtain⟨hsk,_⟩:=hdp.ok i s hi (by omega) hs;have hr:=mk_right hsk.mks hsk.lt hle;have hlt:=hsk.lt;rw[List.reverse_append,List.reverse_singleton,List.singleton_append];refine⟨by omega,fun x hx=>?_,?_,?_,fun x hx=>?_,?_⟩
   · rcases xV.1 hx with rfl | hx
     · exact hr
     · exact ih.ok x hx
   · rw [jC, Qp, ih.run, mk_syms hsk.mks hsk.lt hle hob]
     exact pcs_app (by omega) hle (uc _)
   · show opc s.op.kind s.op.len + sumC _ = _
     rw[ih.cost,← opc_costP hr.2];have:=hsk.cost;rw[cst_of hs]; omega
   · rcases xV.1 hx with rfl | hx
     · exact mk_bytes hsk.mks hnb
     · exact ih.byt x hx
   · have := ih.len
     rw[List.length_cons]; omega
theorem low_step {old new:List Int}{C:Nat→Int}{j i:Nat}{x:OpL}{c:Int}(ho:OptAt old new C i c)(hj:j < i)(hi:i≤new.length)(hx:(i:Int) - j=x.len)(hr:rightP x old.length=true)(hob:∀y∈old,0≤y∧y≤255)(hm:(symsOp x).map (runB old)=pcs new j i):c≤C j+opc x.kind x.len:=by
 have hl:=ho.lit j hj;have hk:=yP hr;have hg:∀m,m < i - j→(pcs new j i)[m]? = some (runB old (symS x m)):=fun m h=>by rw[← hm]; exact syms_get x (by omega)
 rcases show x.kind=1∨x.kind=2∨x.kind=3∨x.kind=4 by omega with e | e | e | e
 · have hc:pcs new j i <:+: old:=by
    have hin:0≤x.from_∧x.from_≤(old.length:Int) - x.len:=by
     unfold rightP insideP at hr;rw[xS e]at hr;simp only[uC,ua]at hr;omega
    have hq:pcs new j i=pcs old x.from_.toNat (x.from_.toNat+(i - j)):=by
     refine List.ext_getElem? fun m=>?_
     by_cases h:m < i - j
     · rw [hg m h, kX (by omega)]
       obtain⟨y,hy⟩:∃y,old[x.from_.toNat+m]? = some y:=⟨_,xI (by omega)⟩
       rw[hy];congr 1
       unfold symS runB;rw[xS e,xS rfl];dsimp only;rw[show(x.from_+(m:Int)).toNat=x.from_.toNat+m by omega,getD_of hy];exact wrap_byte (hob y (xR hy))
     · rw[List.getElem?_eq_none (by rw[jy hi]; omega),List.getElem?_eq_none (by rw[jy (by omega)]; omega)]
    rw[hq];exact(List.drop_suffix _ _).isInfix.trans (List.take_prefix _ _).isInfix
   have:=ho.copy j hj hc;unfold opc; rw[xS e]; exact this
 · unfold opc; rw[xP (by omega),xS e]; omega
 · have hc:pcs new j i=List.replicate (i - j) x.b:=by
    refine List.ext_getElem? fun m=>?_
    rw[List.getElem?_replicate];by_cases h:m < i - j
    · rw [xS h, hg m h]
      congr 1
      have hs:symS x m=⟨false,0,x.b⟩:=by unfold symS; simp[e]
      rw[hs]; rfl
    · rw[xP h]; exact List.getElem?_eq_none (by rw[jy hi]; omega)
   have:=ho.run j x.b hj hc;unfold opc; rw[xP (by omega),xP (by omega),xS e]; exact this
 · unfold opc; rw[xP (by omega),xP (by omega),xP (by omega)]; omega
theorem low_all {old new : List Int} {S : List StepL} (hdp : DpOk old new S (new.length + 1)) (hSl : S.length = new.length + 1) (hob : ∀ y ∈ old, 0 ≤ y ∧ y ≤ 255) : ∀ (ops : List OpL) (j : Nat), OpsOk old.length ops → (symsOf ops).map (runB old) = pcs new j new.length → j ≤ new.length → cst S new.length ≤ cst S j + sumC ops
 | [],j,_,h,hj=>by
   have:=congrArg List.length h;rw[jy (uc _)]at this;have h2:new.length - j=0:=by rw[← this]; rfl
   obtain rfl:j=new.length:=by omega
   simp[sumC]
 | x::l,j,hok,h,hj=>by
   obtain⟨hx1,hxr⟩:=hok x (List.mem_cons_self ..);rw[jC,Qp]at h;have hln:=congrArg List.length h;rw[xN,xC,jy (uc _)]at hln;have hi:j+x.len.toNat≤new.length:=by omega
   rw[← pcs_app (i:=j+x.len.toNat) (by omega) hi (uc _)]at h;obtain⟨h1,h2⟩:=List.append_inj h (by rw[xC,jy hi]; omega);have ih:=low_all hdp hSl hob l (j+x.len.toNat) (fun y hy=>hok y (List.mem_cons_of_mem _ hy)) h2 hi;obtain⟨s,hs⟩:∃s,S[j+x.len.toNat]? = some s:=⟨_,xI (by omega)⟩
   obtain⟨_,hopt⟩:=hdp.ok _ s (by omega) (by omega) hs;have h3:=low_step hopt (by omega) hi (by omega) hxr hob h1;rw[cst_of hs]at ih;show _≤cst S j+(opc x.kind x.len+sumC l)
   omega
structure MadeFor (old new : List Int) (p : PatL) : Prop where
 lif:p.lifted=false
 in_:p.in_=old.length
 out:p.out=new.length
 wf:p.wf
 chk:(checkP p).2=0
 run:(symsOf p.ops).map (runB old)=new
 best:new.length≤4096→∀q:PatL,(checkP q).2=0→q.in_=old.length→(symsOf q.ops).map (runB old)=new→sumC p.ops≤sumC q.ops
theorem xk (l:List Int):pcs l 0 l.length=l:=by unfold pcs; rw[uL]; rfl
theorem made_for {old new : List Int} {S : List StepL} {acc ops : List OpL} (hob : ∀ y ∈ old, 0 ≤ y ∧ y ≤ 255) (hnb : ∀ y ∈ new, 0 ≤ y ∧ y ≤ 255) (hol : old.length ≤ 65536) (hnl : new.length ≤ 65536) (hSl : S.length = new.length + 1) (hdp : DpOk old new S (new.length + 1)) (hpa : PathS S new.length 0 acc)
 (hops:ops=if 4096 < acc.length then [⟨4,0,new.length,0,new⟩] else acc.reverse):MadeFor old new ⟨false,old.length,new.length,ops⟩:=by
 have hp:=path_ok hdp hob hnb hpa;have hle:=hp.len;rw[List.length_reverse]at hle;have hok:OpsOk old.length ops∧(symsOf ops).map (runB old)=new∧ops.length≤4096∧(∀x∈ops,(0≤x.b∧x.b≤255)∧∀y∈x.data,0≤y∧y≤255):=by
  by_cases h:4096 < acc.length
  · rw [xS h] at hops
    subst hops;have hm:MakesOp old new 0 new.length ⟨4,0,new.length,0,new⟩:=.lit (by rw[xk]; simp);refine⟨fun x hx=>?_,?_,by simp,fun x hx=>?_⟩
    · rw[uG.1 hx]; exact mk_right hm (by omega) (uc _)
    · rw[symsOf_one,mk_syms hm (by omega) (uc _) hob,xk]
    · rw[uG.1 hx]; exact mk_bytes hm hnb
  · rw [xP h] at hops
    subst hops;exact⟨hp.ok,by rw[hp.run,xk],by rw[List.length_reverse]; omega,hp.byt⟩
 obtain⟨h1,h2,h3,h4⟩:=hok;have hlen:=congrArg List.length h2;rw[Qb]at hlen;have hchk:(checkP ⟨false,old.length,new.length,ops⟩).2=0:=checkP_right ⟨by show(0:Int)≤(old.length:Int); omega,by show(old.length:Int)≤65536; omega⟩ h1 (by show((symsOf ops).length:Int)=(new.length:Int); omega) (by show(new.length:Int)≤65536; omega) h3;refine⟨rfl,rfl,rfl,wf_of_ok hchk h4,hchk,h2,fun hs q hq hqi hqr=>?_⟩;rw[xP (by omega)]at hops;have hlow:=low_all hdp hSl hob q.ops 0 (by rw[← hqi]; exact checkP_opsOk hq) (by rw[hqr,xk]) (Nat.zero_le _);show sumC ops≤_
 rw[hops,hp.cost];omega
theorem zn (oa na : Option Addr) (ocap ncap : Nat) (old new : List Int) (w0 : World) (I0 : Imm) (hI : Sat I0 w0) (ho : RBytes I0 (.sg oa old.length ocap) old) (hn : RBytes I0 (.sg na new.length ncap) new) (hob : ∀ y ∈ old, 0 ≤ y ∧ y ≤ 255) (hnb : ∀ y ∈ new, 0 ≤ y ∧ y ≤ 255) (hol : old.length ≤ 65536) (hnl : new.length ≤ 65536) :
 Ctr prog 7 [.sg oa old.length ocap,.sg na new.length ncap] w0 (fun v w'=>∃I' p a m c,v = .tuple #[.agg #[.bool p.lifted,.ig p.in_,.ig p.out,.sg a m c],.ig 0]∧Ext w0 I0 w' I'∧ROps I' (.sg a m c) p.ops∧MadeFor old new p) :=
 (plainW_c oa na ocap ncap old new w0 I0 hI ho hn hob hnb hol hnl).mono fun v w' ⟨I',a,c,S,acc,ops,hv,hE,hops,hSl,hdp,hpa,he⟩ =>
   ⟨I',⟨false,old.length,new.length,ops⟩,a,_,c,hv,hE,hops,made_for hob hnb hol hnl hSl hdp hpa he⟩
end Go.Proofs.YtgkgihnpjgbmhaaGreatDoor
