/- Package graph: Path, Reach, right, Valid: what they compute. Conditions: a valid graph; Valid of any graph. -/
import Derived.Test.YtcajgkfgjpfmaaaGreatGWays
set_option linter.unusedSimpArgs false
set_option linter.unusedVariables false
namespace Go.Proofs.YtcajgkfgjpfmaaaGreat
open Tryz
open Go Go.RowKit Go.Inl
theorem dijk_bd {g : GrL} (hg : GrB g) {m : NeedL} : ∀ (n r : Nat) (S : DjL), S.D.length = g.vs.length → BdW S.D r → (dijk g m n S).D.length = g.vs.length ∧ BdW (dijk g m n S).D (r + n)
 | 0,r,S,h1,h2=>⟨h1,h2⟩
 | n+1,r,S,h1,h2=>by
   show(if openL S.D S.kn=[] then S else dijk g m n (roundD g m S)).D.length=_∧BdW (if openL S.D S.kn=[] then S else dijk g m n (roundD g m S)).D _
   split
   · exact⟨h1,h2.mono (by omega)⟩
   · have h3 := dijk_bd hg (m := m) n (r + 1) (roundD g m S) (relUp_len hg.toGrOk h1 _) (relUp_bd hg h1 h2 (h2.at_ _) _)
     rw[show r+(n+1)=r+1+n by omega];exact h3
theorem je {g:GrL}(hg:GrB g)(s:Int)(m:NeedL):(waysP g s m).length=g.vs.length:=(dijk_bd hg g.vs.length 0 (startD g s) (kJ g s) (vJ g s)).1
theorem ways_bd {g:GrL}(hg:GrB g)(s:Int)(m:NeedL)(j:Nat):(lab (waysP g s m) j).l.length≤16∧0≤(lab (waysP g s m) j).c∧(lab (waysP g s m) j).c≤16000000:=by
 have h:=(dijk_bd hg g.vs.length 0 (startD g s) (kJ g s) (vJ g s) (m:=m)).2.at_ j;have:=hg.nv;exact⟨Nat.le_trans h.1 (by omega),h.2.1,Int.le_trans h.2.2 (by omega)⟩
structure PathL where
 l:List Int
 c:Int
 e:Int
def pathP (g:GrL)(s t:Int)(m:NeedL):PathL :=
 if s ∈ g.vs ∧ t ∈ g.vs then
  if (lab (waysP g s m) (vIx g t)).is=true then ⟨(lab (waysP g s m) (vIx g t)).l,(lab (waysP g s m) (vIx g t)).c,0⟩ else ⟨[],0,290⟩
 else ⟨[],0,291⟩
def reachUp (g:GrL)(s:Int)(m:NeedL)(k:Nat):List Int:=((List.range k).filter fun j=>(lab (waysP g s m) j).is).map fun j=>g.vs.getD j 0
def reachP (g:GrL)(s:Int)(m:NeedL):List Int:=reachUp g s m g.vs.length
theorem zJ (g:GrL)(s:Int)(m:NeedL)(k:Nat):reachUp g s m (k+1)=if (lab (waysP g s m) k).is=true then reachUp g s m k++[g.vs.getD k 0] else reachUp g s m k:=by
 unfold reachUp;rw[List.range_succ,List.filter_append,List.filter_cons];cases h:(lab (waysP g s m) k).is <;> simp
theorem ko (g:GrL)(s:Int)(m:NeedL)(k:Nat):(reachUp g s m k).length≤k:=by
 unfold reachUp;rw[uR];have:=List.length_filter_le (fun j=>(lab (waysP g s m) j).is) (List.range k);rwa [List.length_range]at this
structure RcW where
 k:Nat
 a:Option Addr
 c:Nat
def rightN (n:NeedL):Bool:=fitN ⟨0,0,0,0,0⟩ n && fitN n ⟨1000000,1000000,1000000,1000000,1000000⟩
def lnkOk (vs:List Int)(k:LnkL):Bool := !(((((!decide (k.f∈vs) || !decide (k.t∈vs)) || decide (k.f=k.t)) || decide (k.c < 0)) || decide (1000000 < k.c)) || !rightN k.n)
def incV : Int → List Int → Bool
 | _,[]=>true
 | b,v::l=>decide (b≤v) && (decide (v≤60000) && incV (v+1) l)
def validG (g:GrL):Bool:=decide (g.vs.length≤16) && (decide (g.ls.length≤64) && (incV 0 g.vs && g.ls.all (lnkOk g.vs)))
theorem yU : ∀ (b : Int) (l : List Int) (k : Nat) (v : Int), incV b l = true → l[k]? = some v → b ≤ v ∧ v ≤ 60000
 | _,[],k,v,_,h=>by simp at h
 | b,x::l,0,v,h,hv=>by
   simp only[incV,xU,xO]at h;simp at hv; subst hv; exact⟨h.1,h.2.1⟩
 | b,x::l,k+1,v,h,hv=>by
   simp only[incV,xU,xO]at h;have:=yU (x+1) l k v h.2.2 (by simpa using hv);omega
theorem vC : ∀ (b : Int) (l : List Int), incV b l = true → l.Pairwise (· < ·)
 | _,[],_=>List.Pairwise.nil
 | b,x::l,h=>by
   simp only[incV,xU,xO]at h;refine List.Pairwise.cons (fun y hy=>?_) (vC _ l h.2.2);obtain⟨i,hi⟩:=Qm.1 hy;have:=yU _ l i y h.2.2 hi;omega
theorem incV_drop {l:List Int}{k:Nat}{v b:Int}(h:l[k]? = some v):incV b (l.drop k)=(decide (b≤v) && (decide (v≤60000) && incV (v+1) (l.drop (k+1)))):=by rw[zn h]; rfl
theorem valid_b {g:GrL}(h:validG g=true):GrB g:=by
 unfold validG at h;simp only[xU,xO]at h;obtain⟨h1,h2,h3,h4⟩:=h;rw[Qn]at h4;have h5:∀k∈g.ls,((k.f∈g.vs∧k.t∈g.vs)∧0≤k.c)∧k.c≤1000000:=fun k hk=>by
  have:=h4 k hk;unfold lnkOk at this;simp only[xT,xR,xS,xO,xM]at this;obtain⟨⟨⟨⟨⟨a,b⟩,-⟩,c⟩,d⟩,-⟩:=this;exact⟨⟨⟨a,b⟩,by omega⟩,by omega⟩
 exact⟨⟨vC _ _ h3,fun k hk=>(h5 k hk).1.1,fun k hk=>(h5 k hk).1.2⟩,h1,h2,fun k hk=>(h5 k hk).2⟩
theorem path_c (g : GrL) (a0 a1 : Option Addr) (c0 c1 : Nat) (s t : Int) (m : NeedL) (w0 : World) (I0 : Imm) (hI : Sat I0 w0) (hG : RGr I0 a0 c0 a1 c1 g) (hg : GrB g) :
 Ctr prog 84 [.agg #[.slice a0 g.vs.length c0,.slice a1 g.ls.length c1],.int .i64 s,.int .i64 t,.agg #[.int .i64 m.s,.int .i64 m.u,.int .i64 m.r,.int .i64 m.e,.int .i64 m.o]] w0 (fun v w'=>∃I' a c,v = .tuple #[.slice a (pathP g s t m).l.length c,.int .i64 (pathP g s t m).c,.int .i64 (pathP g s t m).e]∧Ext w0 I0 w' I'∧RFl I' 1 intC (.slice a (pathP g s t m).l.length c) (pathP g s t m).l):=by
 have hnv:=hg.nv;refine fn (n:=48) func84 rfl rfl rfl ?_;have hS:=St.start hI;refine QwR (qe (d_box (cs:=[.slice _ _ _,.slice _ _ _]) hS rfl) ?_);clear hS;rintro _ w_1⟨b4,rfl,hS⟩;refine qe (d_box (cs:=[.int .i64 _,.int .i64 _,.int .i64 _,.int .i64 _,.int .i64 _]) hS rfl) ?_;clear hS;rintro _ w_2⟨b7,rfl,hS⟩;refine qq hS (qy _) (qq hS (Qai rfl) (qq hS (Qai rfl) (QoR (qq hS (g_ldO 1 (vs:=[.slice _ _ _,.slice _ _ _]) uv Je rfl rfl rfl rfl) (qq hS (Qmi rfl) (qe (ql call93 rfl (xb g a0 a1 c0 c1 s _ _ hS.imm hG hg.inc hnv)) ?_))))));rintro _ w_3⟨rfl,hE⟩;replace hS:=hS.callE hE;refine qq hS (qk _) (qq hS (Qxi rfl rfl) (qq hS (qt (v:=.bool _) rfl rfl) (qq hS (Qai rfl) (qq hS (Qab rfl) (QoR (qq hS (g_ldO 1 (vs:=[.slice _ _ _,.slice _ _ _]) uv Je rfl rfl rfl rfl) (qq hS (Qmi rfl) (qe (ql call93 rfl (xb g a0 a1 c0 c1 t _ _ hS.imm hG hg.inc hnv)) ?_))))))));rintro _ w_4⟨rfl,hE⟩;replace hS:=hS.callE hE;refine qq hS (qk _) (qq hS (Qxi rfl rfl) (qq hS (qt (v:=.bool _) rfl rfl) (qq hS (Qai rfl) (qq hS (Qab rfl) (QoN (xL (QwR (qq hS (Qmb rfl) (qq hS (g_not rfl) (qq hS (Qmb rfl) (qu rfl rfl hS (fun hg=>(Qmb rfl)) ?_)))))))))));intro u31 hu31 hn31;refine qu rfl rfl hS (fun hg=>(g_not (hu31 hg))) ?_;intro u32 hu32 hn32;refine qq hS (g_or rfl rfl (fun hq=>hu32 hq)) (QoN (qo rfl ?_ ?_))
 ·
  intro hc33;clear hu31 hn31 hu32 hn32;have hst:¬(s∈g.vs∧t∈g.vs):=fun h=>by simp[h.1,h.2]at hc33
  have hp:pathP g s t m=⟨[],0,291⟩:=ud hst;refine QwR (qq hS (qy _) (qq hS (Qai rfl) (qq hS (Qai rfl) (QoN (ub (uw (ret3 results84 (qr rfl) (qr (v:=.int .i64 _) rfl) (qr (v:=.int .i64 _) rfl) ?_)))))));rw[hp]; exact⟨_,none,0,rfl,hS.nil,RFl.nil⟩
 ·
  intro hc33;clear hu31 hn31 hu32 hn32;have hst:s∈g.vs∧t∈g.vs:=by simpa using hc33
  refine xZ (xN (QwR (qq hS (g_ldO 1 (vs:=[.slice _ _ _,.slice _ _ _]) uv Je rfl rfl rfl rfl) (qq hS (Qmi rfl) (qq hS (g_ldO 0 (vs:=[.int .i64 _,.int .i64 _,.int .i64 _,.int .i64 _,.int .i64 _]) Qe QO rfl rfl rfl rfl) (qe (ql call85 rfl (ways_c g a0 a1 c0 c1 s m _ _ hS.imm hG hg)) ?_))))));rintro _ w_5⟨I_f,a37,c37,rfl,hE,h37⟩;replace hS:=hS.callE hE;replace hG:=hG.mono hE.ext;have hlen:=je hg s m;rw[posI_vIx hg.toGrOk hst.2];have hvt:=jt hst.2;obtain⟨x,hxi⟩:∃x,(waysP g s m)[vIx g t]? = some x:=⟨_,xW (by rw[je hg]; omega)⟩
  obtain⟨csx,hclx,hxA,hxc⟩:=RSl.at h37 hxi;obtain⟨ax,cx,bx,rfl,hxl⟩:=hxc;have hlx:lab (waysP g s m) (vIx g t)=x:=by unfold lab; rw[uh,hxi]; rfl
  have hbx:=ways_bd hg s m (vIx g t);rw[hlx]at hbx;refine qq hS (Qmi rfl) (qq hS (g_ixI Jn QQ h37 rfl rfl (by omega) (by omega)) (qq hS (g_ldE (us:=[.slice _ _ _,.int .i64 _,.bool _,.bool _]) QQ JR hxA rfl rfl rfl) (qe (qw (cs:=[.slice _ _ _,.int .i64 _,.bool _,.bool _]) hS JD rfl) ?_)));clear hS;rintro _ w_6⟨b15,rfl,hS⟩;refine qe (qj 0 hS QQ rfl rfl rfl (vs:=[.slice _ _ _,.int .i64 _,.bool _,.bool _]) rfl rfl rfl (xP rfl) (cs':=[_,_,_,_]) rfl) ?_;clear hS;rintro _ w_7⟨rfl,hS⟩;refine QoN (xL (QwR (qq hS (qb (o':=2) Jb rfl uC rfl rfl rfl) (qq hS (qi 0 QG rfl rfl rfl) (qq hS (g_not rfl) (QoN (qo rfl ?_ ?_)))))))
  ·
   intro hc43
   try simp only[zA,zO,zN,zI,zF,zM,zT,zU]at hc43
   have hp:pathP g s t m=⟨[],0,290⟩:=by unfold pathP; rw[ui hst,hlx,ud (by simp[hc43])]
   refine QwR (qq hS (qy _) (qq hS (Qai rfl) (qq hS (Qai rfl) (QoN (ub (uw (ret3 results84 (qr rfl) (qr (v:=.int .i64 _) rfl) (qr (v:=.int .i64 _) rfl) ?_)))))));rw[hp]; exact⟨_,none,0,rfl,hS.nil,RFl.nil⟩
  ·
   intro hc43
   try simp only[zA,zO,zN,zI,zF,zM,zT,zU]at hc43
   have hp:pathP g s t m=⟨x.l,x.c,0⟩:=by unfold pathP; rw[ui hst,hlx,ui (by simpa using hc43)]
   refine xZ (xN (xL (draw (.cons 0 .pure (.cons 1 .held (.cons 2 .pure (.cons 3 .held (.cons 4 .pure (.cons 5 .pure (.cons 6 .pure .nil))))))) mixed (by kernel_rfl) hS ?_)));intro w_8 hS;refine sp rfl (qb (o':=0) Jb rfl uo rfl rfl rfl) (sh rfl (qi 0 uF rfl rfl rfl) (sp rfl (qb (o':=1) Jb rfl xX rfl rfl rfl) (sh rfl (qi 0 uj rfl rfl rfl) (sp rfl (qy _) (sp rfl (Qai rfl) (sp rfl (Qai rfl) (sn (xN (ub (ret3 results84 (qr rfl) (qr (v:=.int .i64 _) rfl) (qr (v:=.int .i64 _) rfl) ?_))))))))));rw[hp]; exact⟨_,ax,cx,rfl,hS.nil,hxl⟩
theorem reach_c (g : GrL) (a0 a1 : Option Addr) (c0 c1 : Nat) (s : Int) (m : NeedL) (w0 : World) (I0 : Imm) (hI : Sat I0 w0) (hG : RGr I0 a0 c0 a1 c1 g) (hg : GrB g) :
 Ctr prog 54 [.agg #[.slice a0 g.vs.length c0,.slice a1 g.ls.length c1],.int .i64 s,.agg #[.int .i64 m.s,.int .i64 m.u,.int .i64 m.r,.int .i64 m.e,.int .i64 m.o]] w0 (fun v w'=>∃a c,v = .slice a (reachP g s m).length c∧∃I',St [] w0 I0 I' w' [.row (.slice a (reachP g s m).length c) 3 1 (reachP g s m).length (flat intC (reachP g s m))]):=by
 have hnv:=hg.nv;have hlen:=je hg s m;refine fn (n:=32) func54 rfl rfl rfl ?_;have hS:=St.start hI;refine QwR (qe (d_box (cs:=[.slice _ _ _,.slice _ _ _]) hS rfl) ?_);clear hS;rintro _ w_1⟨b3,rfl,hS⟩;refine qe (d_box (cs:=[.int .i64 _,.int .i64 _,.int .i64 _,.int .i64 _,.int .i64 _]) hS rfl) ?_;clear hS;rintro _ w_2⟨b5,rfl,hS⟩;refine qq hS (qy _) (QoR (qq hS (qy _) (QoN (xL (QwR (qq hS (g_ldO 1 (vs:=[.slice _ _ _,.slice _ _ _]) uv Je rfl rfl rfl rfl) (qq hS (Qmi rfl) (qq hS (g_ldO 0 (vs:=[.int .i64 _,.int .i64 _,.int .i64 _,.int .i64 _,.int .i64 _]) Qe QO rfl rfl rfl rfl) (qe (ql call85 rfl (ways_c g a0 a1 c0 c1 s m _ _ hS.imm hG hg)) ?_)))))))));rintro _ w_3⟨I_f,a13,c13,rfl,hE,h13⟩;replace hS:=hS.callE hE;replace hG:=hG.mono hE.ext;refine qq hS (qz rfl Jn h13 rfl) (qq hS (Qmi rfl) (QoN (uk ?_)));replace hS:=hS.nilRow 3 1;rw[hlen];refine loop (fun(x:RcW) σ w=>okS σ [(3,.pointer (some ⟨b3,0,none⟩)),(7,.slice x.a (reachUp g s m x.k).length x.c),(13,.slice a13 g.vs.length c13),(14,.int .i64 g.vs.length),(15,.int .i64 x.k)]∧St [] w0 I0 I_f w [.row (.slice x.a (reachUp g s m x.k).length x.c) 3 1 (reachUp g s m x.k).length (flat intC (reachUp g s m x.k)),.cel b3 34 [.slice a0 g.vs.length c0,.slice a1 g.ls.length c1]]∧x.k≤g.vs.length) (fun x=>g.vs.length - x.k) (⟨0,none,0⟩) ?_ ?_
 ·
  exact⟨⟨rfl,rfl,rfl,rfl,rfl,trivial⟩,hS.sel [true,false,true],by dsimp only; omega⟩
 ·
  rintro⟨k,a,c⟩σ w_l⟨hs,hS,hk0⟩;dsimp only at hs hS hk0 ⊢;rw[← qx hs]; clear hs
  refine QwR (qq hS (g_lss rfl rfl) (QoN (xL (qo rfl ?_ ?_))))
  ·
   intro hc16
   try simp only[zA,zO,zN,zI,zF,zM,zT,zU]at hc16
   obtain⟨x,hxi⟩:∃x,(waysP g s m)[k]? = some x:=⟨_,xW (by rw[je hg]; omega)⟩
   obtain⟨csx,hclx,hxA,hxc⟩:=RSl.at h13 hxi;obtain⟨ax,cx,bx,rfl,hxl⟩:=hxc;have hlx:lab (waysP g s m) (k)=x:=by unfold lab; rw[uh,hxi]; rfl
   have hbx:=ways_bd hg s m (k);rw[hlx]at hbx;have hstp:=zJ g s m k;rw[hlx]at hstp;obtain⟨v,hvi⟩:∃v,g.vs[k]? = some v:=⟨_,xW (by omega)⟩
   have hvD:g.vs.getD k 0=v:=by rw[uh,hvi]; rfl
   have hvA:=hG.vs.at hvi;rw[hvD]at hstp;have hrl:=ko g s m k;refine xZ (xN (xL (uk (QwR (qq hS (Qmi rfl) (qq hS (g_ixI Jn QQ h13 rfl rfl (by omega) (by omega)) (qq hS (g_ldE (us:=[.slice _ _ _,.int .i64 _,.bool _,.bool _]) QQ JR hxA rfl rfl rfl) (qe (qw (cs:=[.slice _ _ _,.int .i64 _,.bool _,.bool _]) hS JD rfl) ?_))))))));clear hS;rintro _ w_4⟨b9,rfl,hS⟩;refine qq hS (Qai rfl) (qe (qj 0 hS QQ rfl rfl rfl (vs:=[.slice _ _ _,.int .i64 _,.bool _,.bool _]) rfl rfl rfl (xP rfl) (cs':=[_,_,_,_]) rfl) ?_);clear hS;rintro _ w_5⟨rfl,hS⟩;refine QoR (qq hS (qb (o':=2) Jb rfl uC rfl rfl rfl) (qq hS (qi 0 QG rfl rfl rfl) (QoN (qo rfl ?_ ?_))))
   ·
    intro hc21
    try simp only[zA,zO,zN,zI,zF,zM,zT,zU]at hc21
    rw[ui hc21]at hstp;refine reg (qq hS (qk _) (qq hS (qb (o':=0) ut rfl uo rfl rfl rfl) (qq hS (qi 2 uF rfl rfl rfl) (qq hS (Qmi rfl) (qq hS (g_ixI ua xX hG.vs rfl rfl (by omega) (by omega)) (qq hS (qC uj hvA rfl rfl) ?_))))));refine qe (d_lit (vs:=[.int .i64 _]) (cs:=[.int .i64 _]) hS ua xX QA rfl rfl rfl rfl (fun v hv=>by simp only[uq,ur,or_false]at hv; subst hv; rfl) rfl) ?_;clear hS;rintro _ w_6⟨b_6,rfl,hS⟩;refine qe (qE 2 0 hS rfl ua info3 rfl rfl rfl rfl rfl rfl rfl rfl (by omega) (by omega)) ?_;clear hS;rintro _ w_7⟨a29,p29,rfl,hS⟩;refine qq hS (qy _) (qh (Qh (xN (reg (qq hS (g_add rfl rfl (by omega) (by omega)) (qq hS (Qmi rfl) ?_))))))
    first
     | exact⟨⟨k+1,a,c⟩,_,rfl,⟨by dsimp only; rw[hstp]; exact⟨rfl,rfl,rfl,rfl,rfl,trivial⟩,by dsimp only; rw[hstp]; exact hS.sel [false,false,true,true],by dsimp only; omega⟩,by dsimp only; omega⟩
     | exact⟨⟨k+1,a29,p29⟩,_,rfl,⟨by dsimp only; rw[hstp,ug]; exact⟨rfl,rfl,rfl,rfl,rfl,trivial⟩,by dsimp only; rw[hstp,ug,qB]; exact hS.sel [false,false,true,true],by dsimp only; omega⟩,by dsimp only; omega⟩
   ·
    intro hc21
    try simp only[zA,zO,zN,zI,zF,zM,zT,zU]at hc21
    rw[ud (by simp[hc21])]at hstp;refine xZ (Qh (xN (reg (qq hS (g_add rfl rfl (by omega) (by omega)) (qq hS (Qmi rfl) ?_)))))
    first
     | exact⟨⟨k+1,a,c⟩,_,rfl,⟨by dsimp only; rw[hstp]; exact⟨rfl,rfl,rfl,rfl,rfl,trivial⟩,by dsimp only; rw[hstp]; exact hS.sel [false,true,true],by dsimp only; omega⟩,by dsimp only; omega⟩
     | exact⟨⟨k+1,a29,p29⟩,_,rfl,⟨by dsimp only; rw[hstp,ug]; exact⟨rfl,rfl,rfl,rfl,rfl,trivial⟩,by dsimp only; rw[hstp,ug,qB]; exact hS.sel [false,true,true],by dsimp only; omega⟩,by dsimp only; omega⟩
  ·
   intro hc16
   try simp only[zA,zO,zN,zI,zF,zM,zT,zU]at hc16
   obtain rfl:k=g.vs.length:=by omega
   refine uD (uA (uA (Qw (xN (QwR (qq hS (qk _) (qq hS (qy _) (QoN (ub (ret1 results54 (qr rfl) ?_))))))))));exact⟨a,c,rfl,_,hS.sel [true,false]⟩
theorem right_c (n:NeedL)(w0:World)(I0:Imm)(hI:Sat I0 w0):Ctr prog 94 [.agg #[.int .i64 n.s,.int .i64 n.u,.int .i64 n.r,.int .i64 n.e,.int .i64 n.o]] w0 (fun v w'=>v = .bool (rightN n)∧Ext w0 I0 w' I0):=by
 refine fn (n:=11) func94 rfl rfl rfl ?_;have hS:=St.start hI;refine QwR (qe (d_box (cs:=[.int .i64 _,.int .i64 _,.int .i64 _,.int .i64 _,.int .i64 _]) hS rfl) ?_);clear hS;rintro _ w_1⟨b1,rfl,hS⟩;refine qq hS (Qab rfl) (QoR (qq hS (qv (pl:=[(0,1),(1,1),(2,1),(3,1),(4,1)]) (cs:=[.int .i64 _,.int .i64 _,.int .i64 _,.int .i64 _,.int .i64 _]) Jt QL (fun w=>by simp[xX]) mp0 rfl) (qq hS (g_ldO 0 (vs:=[.int .i64 _,.int .i64 _,.int .i64 _,.int .i64 _,.int .i64 _]) Qe QO rfl rfl rfl rfl) ?_)));refine qe (ql call124 rfl (fits_c29 ⟨0,0,0,0,0⟩ n _ I0 hS.imm)) ?_;rintro _ w_2⟨rfl,hE⟩;replace hS:=hS.callE hE;refine qq hS (Qmb rfl) (qu rfl rfl hS (fun hg=>(g_ldO 0 (vs:=[.int .i64 _,.int .i64 _,.int .i64 _,.int .i64 _,.int .i64 _]) Qe QO rfl rfl rfl rfl)) ?_);intro u7 hu7 hn7;refine qu rfl rfl hS (fun hg=>(qv (pl:=[(0,1),(1,1),(2,1),(3,1),(4,1)]) (cs:=[.int .i64 _,.int .i64 _,.int .i64 _,.int .i64 _,.int .i64 _]) Jt QL (fun w=>by simp[xX]) (mp (v:=.int .i64 _) rfl (mp (v:=.int .i64 _) rfl (mp (v:=.int .i64 _) rfl (mp (v:=.int .i64 _) rfl (mp (v:=.int .i64 _) rfl mp0))))) rfl)) ?_;intro u8 hu8 hn8;refine cvu rfl rfl hS (fun hg=>(ql call124 (ml (hu7 hg) (ml (hu8 hg) ml0)) (fits_c29 n ⟨1000000,1000000,1000000,1000000,1000000⟩ _ I0 hS.imm))) ?_;intro w_4 u9 hS hu9 hn9;refine qq hS (g_and rfl rfl (fun hq=>hu9 hq)) (qq hS (Qab rfl) (QoN (ub (ret1 results94 (qr (v:=.bool _) rfl) ?_))));exact⟨rfl,hS.nil⟩
set_option maxHeartbeats 1000000 in
theorem gvalid_c (g : GrL) (a0 a1 : Option Addr) (c0 c1 : Nat) (w0 : World) (I0 : Imm) (hI : Sat I0 w0) (hG : RGr I0 a0 c0 a1 c1 g) :
 Ctr prog 60 [.agg #[.slice a0 g.vs.length c0,.slice a1 g.ls.length c1]] w0 (fun v w'=>v = .bool (validG g)∧Ext w0 I0 w' I0):=by
 have hlv:=RSl.le hG.vs;have hll:=RSl.le hG.ls;simp only[maxLen]at hlv hll;refine fn (n:=90) func60 rfl rfl rfl ?_;have hS:=St.start hI;refine QwR (qe (d_box (cs:=[.slice _ _ _,.slice _ _ _]) hS rfl) ?_);clear hS;rintro _ w_1⟨b1,rfl,hS⟩;refine qq hS (Qab rfl) (QoN (xL (QwR (qq hS (qb (o':=0) ut rfl uo rfl rfl rfl) (qq hS (qi 0 uF rfl rfl rfl) (qq hS (qz rfl ua hG.vs rfl) (qq hS (g_gtr rfl rfl) (qq hS (Qmb rfl) (qu rfl rfl hS (fun hg=>(qb (o':=1) ut rfl uZ rfl rfl rfl)) ?_)))))))));intro u17 hu17 hn17;refine qu rfl rfl hS (fun hg=>(qi 0 Jm rfl (hu17 hg) rfl)) ?_;intro u18 hu18 hn18;refine qu rfl rfl hS (fun hg=>(qz rfl uy hG.ls (hu18 hg))) ?_;intro u19 hu19 hn19;refine qu rfl rfl hS (fun hg=>(g_gtr (hu19 hg) rfl)) ?_;intro u20 hu20 hn20;refine qq hS (g_or rfl rfl (fun hq=>hu20 hq)) (QoN (qo rfl ?_ ?_))
 ·
  intro hc21;clear hu17 hn17 hu18 hn18 hu19 hn19 hu20 hn20;have e:validG g=false:=by
   unfold validG;have h:¬(g.vs.length≤16∧g.ls.length≤64):=fun h=>by
    have h1:¬(16:Int) < g.vs.length:=by omega
    have h2:¬(64:Int) < g.ls.length:=by omega
    simp[h1,h2]at hc21
   by_cases h1:g.vs.length≤16
   · by_cases h2 : g.ls.length ≤ 64
     · exact absurd ⟨h1,h2⟩ h
     · rw[uY h2]; simp
   · rw[uY h1]; rfl
  refine QwR (qq hS (Qab rfl) (QoN (ub (uw (ret1 results60 (qr (v:=.bool _) rfl) ?_)))));exact⟨by rw[e] <;> rfl,Ext.forget hS.nil⟩
 ·
  intro hc21;clear hu17 hn17 hu18 hn18 hu19 hn19 hu20 hn20;have hnb:¬(16:Int) < g.vs.length∧¬(64:Int) < g.ls.length:=by simpa using hc21
  have hnv:g.vs.length≤16:=by omega
  have hnl:g.ls.length≤64:=by omega
  have hv0:validG g=(incV 0 g.vs && g.ls.all (lnkOk g.vs)):=by unfold validG; rw[uK hnv,uK hnl]; rfl
  refine xZ (xN (QwR (qq hS (Qai rfl) (QoN (xL (QwR (qq hS (qb (o':=0) ut rfl uo rfl rfl rfl) (qq hS (qi 0 uF rfl rfl rfl) (qq hS (qz rfl ua hG.vs rfl) (qq hS (Qmi rfl) (QoN (uk (loop (fun(x:Nat×Int) σ w=>okS σ [(1,.pointer (some ⟨b1,0,none⟩)),(3,.int .i64 x.2),(23,.slice a0 g.vs.length c0),(24,.int .i64 g.vs.length),(25,.int .i64 x.1)]∧St [] w0 I0 I0 w [.cel b1 34 [.slice a0 g.vs.length c0,.slice a1 g.ls.length c1]]∧(x.1≤g.vs.length∧0≤x.2∧x.2≤60001)∧incV x.2 (g.vs.drop x.1)=incV 0 g.vs) (fun x=>g.vs.length - x.1) ((0,0)) ?_ ?_)))))))))))))
  ·
   exact⟨⟨rfl,rfl,rfl,rfl,rfl,trivial⟩,hS.sel [true],by dsimp only; omega,rfl⟩
  ·
   rintro⟨k,b⟩σ w_l⟨hs,hS,⟨hk0,hb0,hb1⟩,hin⟩;dsimp only at hs hS hk0 hb0 hb1 hin ⊢;rw[← qx hs]; clear hs
   refine QwR (qq hS (g_lss rfl rfl) (QoN (xL (qo rfl ?_ ?_))))
   ·
    intro hc26
    try simp only[zA,zO,zN,zI,zF,zM,zT,zU]at hc26
    obtain⟨v,hvi⟩:∃v,g.vs[k]? = some v:=⟨_,xW (by omega)⟩
    have hvA:=hG.vs.at hvi;have hdr:=incV_drop (b:=b) hvi;refine xZ (xN (xL (uk (QwR (qq hS (g_ixI ua xX hG.vs rfl rfl (by omega) (by omega)) (qq hS (qC uj hvA rfl rfl) (qq hS (Qai rfl) (QoN (xL (QwR (qq hS (Qmi rfl) (qq hS (Qmi rfl) (qq hS (g_lss rfl rfl) (qq hS (Qmb rfl) (qu rfl rfl hS (fun hg=>(Qmi rfl)) ?_)))))))))))))));intro u33 hu33 hn33;refine qu rfl rfl hS (fun hg=>(g_gtr (hu33 hg) rfl)) ?_;intro u34 hu34 hn34;refine qq hS (g_or rfl rfl (fun hq=>hu34 hq)) (QoN (qo rfl ?_ ?_))
    ·
     intro hc35;clear hu33 hn33 hu34 hn34;have e:validG g=false:=by
      rw[hv0,← hin,hdr];have h:¬(b≤v∧v≤60000):=fun h=>by
       have h1:¬v < b:=by omega
       have h2:¬60000 < v:=by omega
       simp[h1,h2]at hc35
      by_cases h1:b≤v
      · by_cases h2 : v ≤ 60000
        · exact absurd ⟨h1,h2⟩ h
        · rw[uY h2]; simp
      · rw[uY h1]; rfl
     refine QwR (qq hS (Qab rfl) (QoN (ub (uw (Qs (uw (uw (Qs (uw (ret1 results60 (qr (v:=.bool _) rfl) ?_))))))))));exact⟨by rw[e] <;> rfl,Ext.forget hS.nil⟩
    ·
     intro hc35;clear hu33 hn33 hu34 hn34;have hnb2:¬v < b∧¬60000 < v:=by simpa using hc35
     rw[uK (show b≤v by omega),uK (show v≤60000 by omega),Bool.true_and,Bool.true_and]at hdr;rw[hdr]at hin;refine xZ (xN (reg (qq hS (Qmi rfl) (qq hS (g_add rfl rfl (by omega) (by omega)) (qq hS (Qai rfl) (qh (Qh (xN (reg (qq hS (g_add rfl rfl (by omega) (by omega)) (qq hS (Qmi rfl) ?_)))))))))));exact⟨(k+1,v+1),_,rfl,⟨⟨rfl,rfl,rfl,rfl,rfl,trivial⟩,hS.sel [true],by dsimp only; omega,by dsimp only; exact hin⟩,by dsimp only; omega⟩
   ·
    intro hc26
    try simp only[zA,zO,zN,zI,zF,zM,zT,zU]at hc26
    obtain rfl:k=g.vs.length:=by omega
    rw[List.drop_length]at hin;have hv1:incV 0 g.vs=true:=hin.symm.trans rfl;have hinc:=vC _ _ hv1;refine uD (uA (uA (Qw (xN (xL (QwR (qq hS (qb (o':=1) ut rfl uZ rfl rfl rfl) (qq hS (qi 0 Jm rfl rfl rfl) (qq hS (qz rfl uy hG.ls rfl) (qq hS (Qmi rfl) (QoN (uk (loop (fun(i:Nat) σ w=>okS σ [(1,.pointer (some ⟨b1,0,none⟩)),(40,.slice a1 g.ls.length c1),(41,.int .i64 g.ls.length),(42,.int .i64 i)]∧St [] w0 I0 I0 w [.cel b1 34 [.slice a0 g.vs.length c0,.slice a1 g.ls.length c1]]∧i≤g.ls.length∧∀j x,j < i→g.ls[j]? = some x→lnkOk g.vs x=true) (fun i=>g.ls.length - i) (0) ?_ ?_)))))))))))))
    ·
     exact⟨⟨rfl,rfl,rfl,rfl,trivial⟩,hS.sel [true],by omega,fun j x hj=>by omega⟩
    ·
     rintro i σ w_l⟨hs,hS,hi0,hall⟩;rw[← qx hs]; clear hs
     refine QwR (qq hS (g_lss rfl rfl) (QoN (xL (qo rfl ?_ ?_))))
     ·
      intro hc43
      try simp only[zA,zO,zN,zI,zF,zM,zT,zU]at hc43
      obtain⟨k,hki⟩:∃k,g.ls[i]? = some k:=⟨_,xW (by omega)⟩
      have hkA:=hG.ls.at hki;refine xZ (xN (xL (uk (QwR (qq hS (g_ixI uy uM hG.ls rfl rfl (by omega) (by omega)) (qq hS (g_ldE (us:=[.int .i64 _,.int .i64 _,.int .i64 _,.int .i64 _,.int .i64 _,.int .i64 _,.int .i64 _,.int .i64 _]) uM Jv hkA rfl rfl rfl) (qe (qw (cs:=[.int .i64 _,.int .i64 _,.int .i64 _,.int .i64 _,.int .i64 _,.int .i64 _,.int .i64 _,.int .i64 _]) hS Qv rfl) ?_)))))));clear hS;rintro _ w_2⟨b7,rfl,hS⟩;refine qe (qj 0 hS uM rfl rfl rfl (vs:=[.int .i64 _,.int .i64 _,.int .i64 _,.int .i64 _,.int .i64 _,.int .i64 _,.int .i64 _,.int .i64 _]) rfl rfl rfl (xP rfl) (cs':=[_,_,_,_,_,_,_,_]) rfl) ?_;clear hS;rintro _ w_3⟨rfl,hS⟩;refine QoR (qq hS (g_ldO 1 (vs:=[.slice _ _ _,.slice _ _ _]) uv Je rfl rfl rfl rfl) (qq hS (qb (o':=0) uI rfl xX rfl rfl rfl) (qq hS (qi 0 uj rfl rfl rfl) (qe (ql call93 rfl (xb g a0 a1 c0 c1 k.f _ _ hS.imm hG hinc hnv)) ?_))));rintro _ w_4⟨rfl,hE⟩;replace hS:=hS.callE hE;refine qq hS (qk _) (qq hS (Qxi rfl rfl) (qq hS (qt (v:=.bool _) rfl rfl) (qq hS (Qai rfl) (qq hS (Qab rfl) (QoR (qq hS (g_ldO 1 (vs:=[.slice _ _ _,.slice _ _ _]) uv Je rfl rfl rfl rfl) (qq hS (qb (o':=1) uI rfl xX rfl rfl rfl) (qq hS (qi 0 uj rfl rfl rfl) (qe (ql call93 rfl (xb g a0 a1 c0 c1 k.t _ _ hS.imm hG hinc hnv)) ?_)))))))));rintro _ w_5⟨rfl,hE⟩;replace hS:=hS.callE hE;refine qq hS (qk _) (qq hS (Qxi rfl rfl) (qq hS (qt (v:=.bool _) rfl rfl) (qq hS (Qai rfl) (qq hS (Qab rfl) (QoR (qq hS (Qmb rfl) (qq hS (g_not rfl) (qq hS (Qmb rfl) (qu rfl rfl hS (fun hg=>(Qmb rfl)) ?_)))))))))
      intro u63 hu63 hn63;refine qu rfl rfl hS (fun hg=>(g_not (hu63 hg))) ?_;intro u64 hu64 hn64;refine qq hS (g_or rfl rfl (fun hq=>hu64 hq)) (qq hS (Qmb rfl) (qu rfl rfl hS (fun hg=>(qb (o':=0) uI rfl xX rfl rfl rfl)) ?_));intro u67 hu67 hn67;refine qu rfl rfl hS (fun hg=>(qi 0 uj rfl (hu67 hg) rfl)) ?_;intro u68 hu68 hn68;refine qu rfl rfl hS (fun hg=>(qb (o':=1) uI rfl xX rfl rfl rfl)) ?_;intro u69 hu69 hn69;refine qu rfl rfl hS (fun hg=>(qi 0 uj rfl (hu69 hg) rfl)) ?_;intro u70 hu70 hn70;refine qu rfl rfl hS (fun hg=>(g_eql (hu68 hg) (hu70 hg))) ?_;intro u71 hu71 hn71;refine qq hS (g_or rfl rfl (fun hq=>hu71 hq)) (qq hS (Qmb rfl) (qu rfl rfl hS (fun hg=>(qb (o':=2) uI rfl xX rfl rfl rfl)) ?_));intro u74 hu74 hn74;refine qu rfl rfl hS (fun hg=>(qi 0 uj rfl (hu74 hg) rfl)) ?_;intro u75 hu75 hn75;refine qu rfl rfl hS (fun hg=>(g_lss (hu75 hg) rfl)) ?_;intro u76 hu76 hn76;refine qq hS (g_or rfl rfl (fun hq=>hu76 hq)) (qq hS (Qmb rfl) (qu rfl rfl hS (fun hg=>(qb (o':=2) uI rfl xX rfl rfl rfl)) ?_));intro u79 hu79 hn79;refine qu rfl rfl hS (fun hg=>(qi 0 uj rfl (hu79 hg) rfl)) ?_;intro u80 hu80 hn80;refine qu rfl rfl hS (fun hg=>(g_gtr (hu80 hg) rfl)) ?_;intro u81 hu81 hn81;refine qq hS (g_or rfl rfl (fun hq=>hu81 hq)) (qq hS (Qmb rfl) (qu rfl rfl hS (fun hg=>(qb (o':=3) uI rfl Qe rfl rfl rfl)) ?_));intro u84 hu84 hn84;refine qu rfl rfl hS (fun hg=>(g_ldO 0 (vs:=[.int .i64 _,.int .i64 _,.int .i64 _,.int .i64 _,.int .i64 _]) Qe QO rfl (hu84 hg) rfl rfl)) ?_;intro u85 hu85 hn85;refine cvu rfl rfl hS (fun hg=>(ql call94 (ml (hu85 hg) ml0) (right_c k.n _ _ hS.imm))) ?_
      intro w_7 u86 hS hu86 hn86;refine qu rfl rfl hS (fun hg=>(g_not (hu86 hg))) ?_;intro u87 hu87 hn87;refine qq hS (g_or rfl rfl (fun hq=>hu87 hq)) (QoN (qo rfl ?_ ?_))
      ·
       intro hc88;clear hu63 hn63 hu64 hn64 hu67 hn67 hu68 hn68 hu69 hn69 hu70 hn70 hu71 hn71 hu74 hn74 hu75 hn75 hu76 hn76 hu79 hn79 hu80 hn80 hu81 hn81 hu84 hn84 hu85 hn85 hu86 hn86 hu87 hn87;have hok:lnkOk g.vs k=false:=by unfold lnkOk; rw[hc88]; rfl
       have e:validG g=false:=by
        rw[hv0,hv1,Bool.true_and];cases h:g.ls.all (lnkOk g.vs) with
        | false=>rfl
        | true=>rw[Qn]at h; have:=h k (uf hki); rw[hok]at this; cases this
       refine QwR (qq hS (Qab rfl) (QoN (ub (Qs (uw (uw (Qs (uw (ret1 results60 (qr (v:=.bool _) rfl) ?_)))))))));exact⟨by rw[e] <;> rfl,Ext.forget hS.nil⟩
      ·
       intro hc88;clear hu63 hn63 hu64 hn64 hu67 hn67 hu68 hn68 hu69 hn69 hu70 hn70 hu71 hn71 hu74 hn74 hu75 hn75 hu76 hn76 hu79 hn79 hu80 hn80 hu81 hn81 hu84 hn84 hu85 hn85 hu86 hn86 hu87 hn87;have hok:lnkOk g.vs k=true:=by unfold lnkOk; rw[hc88]; rfl
       have hnx:∀j x,j < i+1→g.ls[j]? = some x→lnkOk g.vs x=true:=fun j x hj hx=>by
        rcases Qk.1 hj with h | h
        · exact hall j x h hx
        · subst h; rw[hki]at hx; rw[← Option.some.inj hx]; exact hok
       refine xZ (Qh (xN (reg (qq hS (g_add rfl rfl (by omega) (by omega)) (qq hS (Qmi rfl) ?_)))));exact⟨i+1,_,rfl,⟨⟨rfl,rfl,rfl,rfl,trivial⟩,hS.sel [false,true],by omega,hnx⟩,by omega⟩
     ·
      intro hc43
      try simp only[zA,zO,zN,zI,zF,zM,zT,zU]at hc43
      obtain rfl:i=g.ls.length:=by omega
      have e:validG g=true:=by
       rw[hv0,hv1,Bool.true_and,Qn];intro k hk;obtain⟨j,hj⟩:=Qm.1 hk;exact hall j k (uc.1 hj).1 hj
      refine uD (uA (uA (Qw (xN (QwR (qq hS (Qab rfl) (QoN (ub (ret1 results60 (qr (v:=.bool _) rfl) ?_)))))))));exact⟨by rw[e] <;> rfl,Ext.forget hS.nil⟩
end Go.Proofs.YtcajgkfgjpfmaaaGreat
