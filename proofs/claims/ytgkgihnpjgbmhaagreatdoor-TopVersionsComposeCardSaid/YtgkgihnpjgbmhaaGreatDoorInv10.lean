/- Package inverse: places, and Invert for patches that are not lifted: what they compute. Conditions: numbers within bounds. -/
import Derived.Test.YtgkgihnpjgbmhaaGreatDoorPlain10
import Derived.Test.YtgkgihnpjgbmhaaGreatDoorKCore3
set_option linter.unusedSimpArgs false
set_option linter.unusedVariables false
namespace Go.Proofs.YtgkgihnpjgbmhaaGreatDoor
open Tryz
open Go Go.RowKit Go.Inl
structure RMap (I : Imm) (b : Nat) (l : List (Int × Int)) : Prop where
 hold:I b=some (mapO l)
theorem RMap.mono {I J:Imm}{b:Nat}{l:List (Int×Int)}(h:RMap I b l)(hs:Inl.Sub I J):RMap J b l:=⟨hs _ _ h.hold⟩
def invertP (old:List Int)(p:PatL):PatL×Int :=
 if (symbolsP p).2≠0 then (PatL.zero,(symbolsP p).2) else if (applyP old p).2≠0 then (PatL.zero,(applyP old p).2) else cheapP (invS (symbolsP p).1 old) p.out
theorem cheap_lif (l:List Sym)(n:Int):(cheapP l n).1.lifted=false:=by
 unfold cheapP;split
 · rfl
 · split <;> rfl
theorem kept_step {l:List Sym}{k:Nat}{s:Sym}(h:l[k]? = some s):keptUp l (k+1)=if s.old && (lookI (keptUp l k) s.at_).isNone then keptUp l k++[(s.at_,(k:Int))] else keptUp l k:=by
 show(if (sAt l k).old && (lookI (keptUp l k) (sAt l k).at_).isNone then keptUp l k++[((sAt l k).at_,(k:Int))] else keptUp l k)=_
 rw[vv h]
set_option maxHeartbeats 1000000 in
theorem places_c (ad : Option Addr) (cap : Nat) (l : List Sym) (w0 : World) (I0 : Imm) (hI : Sat I0 w0) (hl : RSyms I0 (.slice ad l.length cap) l) :
 Ctr prog 35 [.slice ad l.length cap] w0 (fun v w'=>∃I' b,v = .map (some b)∧Ext w0 I0 w' I'∧RMap I' b (keptUp l l.length)):=by
 have hll:=RSl.le hl;simp only[maxLen]at hll;refine fn (n:=35) func35 rfl rfl rfl ?_;have hS:=St.start hI;refine QwR (qq hS (qc _) (QoR (qe (d_makeMap hS) ?_)));clear hS;rintro _ w_1⟨b8,rfl,hS⟩;refine qq hS (qc _) (QoN (vD (QwR (qq hS (qb _) (qq hS (qo rfl xo hl rfl) (qq hS (Qmi rfl) (QoN (vS (loop (fun(k:Nat) σ w=>okS σ [(3,.map (some b8)),(9,.slice ad l.length cap),(10,.int .i64 l.length),(11,.int .i64 k)]∧St [] w0 I0 I0 w [.obj b8 (mapO (keptUp l k))]∧k≤l.length) (fun k=>l.length - k) (0) ?_ ?_)))))))))
 ·
  exact⟨⟨rfl,rfl,rfl,rfl,trivial⟩,hS.sel [true],by omega⟩
 ·
  rintro k σ w_l⟨hs,hS,hk0⟩;rw[← qk hs]; clear hs
  refine QwR (qq hS (g_lss rfl rfl) (QoN (vD (qj rfl ?_ ?_))))
  ·
   intro hc12
   try simp only[zA,zO,zN,zI,zF,zM,zT,zU]at hc12
   obtain⟨s,hsi⟩:∃s,l[k]? = some s:=⟨_,vC (by omega)⟩
   have hsA:=hl.at hsi;have hstep:=kept_step hsi;refine vL (vK (vD (vS (QwR (qq hS (Qmi rfl) (qq hS (g_ixI xo xt hl rfl rfl (by omega) (by omega)) (qq hS (g_ldE (us:=[.bool _,.int .i64 _,.int .u8 _]) xt ud hsA rfl rfl rfl) (qe (qv (cs:=[.bool _,.int .i64 _,.int .u8 _]) hS xU rfl) ?_))))))));clear hS;rintro _ w_2⟨b5,rfl,hS⟩;refine qq hS (Qai rfl) (qe (qf 0 hS xt rfl rfl rfl (vs:=[.bool _,.int .i64 _,.int .u8 _]) rfl rfl rfl (vB rfl) (cs':=[_,_,_]) rfl) ?_);clear hS;rintro _ w_3⟨rfl,hS⟩;refine QoR (qq hS (qb _) (qq hS (qa (o':=1) xe rfl vF rfl rfl rfl) (qq hS (qd 0 vV rfl rfl rfl) (qq hS (g_lookO 1 underlying77 uv xL rfl rfl rfl) (qq hS (qb _) (qq hS (Qxi rfl rfl) (qq hS (qm (v:=.bool _) rfl rfl) (qq hS (Qai rfl) (qq hS (Qab rfl) (QoR (qq hS (qa (o':=0) xe rfl xE rfl rfl rfl) ?_)))))))))));refine qq hS (qd 0 ut rfl rfl rfl) (qq hS (Qmb rfl) (qu rfl rfl hS (fun hg=>(Qmb rfl)) ?_));intro u26 hu26 hn26;refine qu rfl rfl hS (fun hg=>(g_not (hu26 hg))) ?_;intro u27 hu27 hn27;refine qq hS (g_and rfl rfl (fun hq=>hu27 hq)) (QoN (qj rfl ?_ ?_))
   ·
    intro hc28;clear hu26 hn26 hu27 hn27;rw[xf]at hc28;have hnone:lookI (keptUp l k) s.at_=none:=by
     cases h:lookI (keptUp l k) s.at_ with
     | none=>rfl
     | some j=>rw[h]at hc28; cases hc28.2
    have hst:keptUp l k++[(s.at_,(k:Int))]=keptUp l (k+1):=by rw[hstep,hc28.1,hnone]; rfl
    refine reg (qq hS (qb _) (qq hS (qa (o':=1) xe rfl vF rfl rfl rfl) (qq hS (qd 0 vV rfl rfl rfl) (qq hS (Qmi rfl) (qe (d_mapPut 1 hS underlying77 uv rfl rfl rfl rfl hnone) ?_)))));clear hS;rintro _ w_4⟨rfl,hS⟩;refine qB (xO (vK (reg (qq hS (g_add rfl rfl (by omega) (by omega)) (qq hS (Qmi rfl) ?_)))))
    first
     | (refine ⟨k + 1, _, rfl, ⟨⟨rfl, rfl, rfl, rfl, trivial⟩, ?_, by omega⟩, by omega⟩
        rw[← hsk];exact hS.sel [false,true])
     | (refine ⟨k + 1, _, rfl, ⟨⟨rfl, rfl, rfl, rfl, trivial⟩, ?_, by omega⟩, by omega⟩
        rw[← hst];exact hS.sel [false,true])
   ·
    intro hc28;clear hu26 hn26 hu27 hn27;have hsk:keptUp l k=keptUp l (k+1):=by
     rw[hstep,vG];intro h;rw[xf]at h;rw[h.1,Option.isNone_iff_eq_none.1 h.2]at hc28;cases hc28
    refine vL (xO (vK (reg (qq hS (g_add rfl rfl (by omega) (by omega)) (qq hS (Qmi rfl) ?_)))))
    first
     | (refine ⟨k + 1, _, rfl, ⟨⟨rfl, rfl, rfl, rfl, trivial⟩, ?_, by omega⟩, by omega⟩
        rw[← hsk];exact hS.sel [false,true])
     | (refine ⟨k + 1, _, rfl, ⟨⟨rfl, rfl, rfl, rfl, trivial⟩, ?_, by omega⟩, by omega⟩
        rw[← hst];exact hS.sel [false,true])
  ·
   intro hc12
   try simp only[zA,zO,zN,zI,zF,zM,zT,zU]at hc12
   obtain rfl:k=l.length:=by omega
   refine xm (xh (xh (ua (vK (QwR (qq hS (qb _) (qq hS (qc _) (QoN (vM (ret1 results35 (qh rfl) ?_))))))))));obtain⟨I1,hS1,hI1,hb1⟩:=St.freezeO hS;exact⟨I1,b8,rfl,hS1.nil,⟨hb1⟩⟩
set_option maxHeartbeats 1000000 in
theorem invert_c (p : PatL) (ad bd : Option Addr) (m cap capb : Nat) (old : List Int) (q : PatL) (e : Int) (w0 : World) (I0 : Imm) (hI : Sat I0 w0) (hops : ROps I0 (.slice ad m cap) p.ops) (hp : p.wf) (hl : p.lifted = false) (ho : RBytes I0 (.slice bd old.length capb) old) (hob : ∀ y ∈ old, 0 ≤ y ∧ y ≤ 255) (he : invertP old p = (q, e)) :
 Ctr prog 10 [.slice bd old.length capb,.agg #[.bool p.lifted,.int .i64 p.in_,.int .i64 p.out,.slice ad m cap]] w0 (fun v w'=>∃I' a m c,v = .tuple #[.agg #[.bool q.lifted,.int .i64 q.in_,.int .i64 q.out,.slice a m c],.int .i64 e]∧Ext w0 I0 w' I'∧ROps I' (.slice a m c) q.ops):=by
 obtain⟨plf,pin,pout,pops⟩:=p;dsimp only at *;subst hl;have hwA:=jP hp;have hlA:=jN (⟨false,pin,pout,pops⟩:PatL);have hlo:=RSl.le ho;simp only[maxLen]at hlo;unfold invertP at he;obtain⟨A,eA,hA⟩:∃A e,symbolsP (⟨false,pin,pout,pops⟩:PatL)=(A,e):=⟨_,_,rfl⟩
 obtain⟨R,eR,hR⟩:∃R e,applyP old (⟨false,pin,pout,pops⟩:PatL)=(R,e):=⟨_,_,rfl⟩
 rw[hA,hR]at he;rw[hA]at hwA hlA;dsimp only at he hwA hlA;refine fn (n:=99) func10 rfl rfl rfl ?_;have hS:=St.start hI;refine QwR (qe (d_box (cs:=[.bool _,.int .i64 _,.int .i64 _,.slice _ _ _]) hS rfl) ?_);clear hS;rintro _ w_1⟨b3,rfl,hS⟩;refine qe (qv (cs:=[.bool _,.int .i64 _,.int .i64 _,.slice _ _ _]) hS xw rfl) ?_;clear hS;rintro _ w_2⟨b4,rfl,hS⟩;refine qq hS (Qai rfl) (QoR (qq hS (g_ldO 1 (vs:=[.bool _,.int .i64 _,.int .i64 _,.slice _ _ _]) vZ xy rfl rfl rfl rfl) (qe (qg call27 rfl (symbols_L (⟨false,pin,pout,pops⟩:PatL) _ _ _ A eA _ _ hS.imm hops hp hA)) ?_)));rintro _ w_3⟨I_f,a21,c21,rfl,hE,h21⟩;replace hS:=hS.callE hE;replace hops:=hops.mono hE.ext;replace ho:=ho.mono hE.ext;refine qq hS (qb _) (qq hS (qm rfl rfl) (qq hS (Qxi rfl rfl) (qq hS (qc _) (qq hS (Qai rfl) (QoN (vD (QwR (qq hS (Qmi rfl) (qq hS (g_neq rfl rfl) (QoN (qj rfl ?_ ?_)))))))))))
 ·
  intro hc25
  try simp only[zA,zO,zN,zI,zF,zM,zT,zU]at hc25
  rw[vJ hc25]at he;obtain⟨he1,he2⟩:=Prod.mk.inj he;subst he1;subst he2;refine QwR (qq hS (qt (pl:=[(0,1),(1,1),(2,1),(3,1)]) (cs:=[.bool _,.int .i64 _,.int .i64 _,.slice _ _ _]) xw vT (fun w=>by simp[xD,vF,xE]) mp0 rfl) (qq hS (Qmi rfl) (qe (qf 0 hS vZ rfl rfl rfl (vs:=[.bool _,.int .i64 _,.int .i64 _,.slice _ _ _]) rfl rfl rfl (vB rfl) (cs':=[_,_,_,_]) rfl) ?_)));clear hS;rintro _ w_4⟨rfl,hS⟩;refine qq hS (Qai rfl) (QoN (vM (xF (ret2 results10 (qD 0 hS vZ xy rfl rfl rfl) (qh (v:=.int .i64 _) rfl) ?_))));exact⟨_,none,0,0,rfl,hS.nil,RSl.nilR⟩
 ·
  intro hc25
  try simp only[zA,zO,zN,zI,zF,zM,zT,zU]at hc25
  rw[vG (by simp[hc25])]at he;refine vL (vK (vD (QwR (qq hS (qb _) (qq hS (g_ldO 1 (vs:=[.bool _,.int .i64 _,.int .i64 _,.slice _ _ _]) vZ xy rfl rfl rfl rfl) (qe (qg call9 rfl (zP (⟨false,pin,pout,pops⟩:PatL) _ _ _ _ _ _ old R eR _ _ hS.imm hops hp rfl ho rfl hR)) ?_))))));rintro _ w_5⟨I_f,a31,c31,rfl,hE,h31⟩;replace hS:=hS.callE hE;replace hops:=hops.mono hE.ext;replace ho:=ho.mono hE.ext;replace h21:=h21.mono hE.ext;refine qq hS (qb _) (qq hS (qm rfl rfl) (qq hS (Qxi rfl rfl) (qq hS (qc _) (qq hS (Qai rfl) (QoR (qq hS (Qmi rfl) (qq hS (g_neq rfl rfl) (QoN (qj rfl ?_ ?_)))))))))
  ·
   intro hc35
   try simp only[zA,zO,zN,zI,zF,zM,zT,zU]at hc35
   rw[vJ hc35]at he;obtain⟨he1,he2⟩:=Prod.mk.inj he;subst he1;subst he2;refine QwR (qq hS (qt (pl:=[(0,1),(1,1),(2,1),(3,1)]) (cs:=[.bool _,.int .i64 _,.int .i64 _,.slice _ _ _]) xw vT (fun w=>by simp[xD,vF,xE]) mp0 rfl) (qq hS (Qmi rfl) (qe (qf 0 hS vZ rfl rfl rfl (vs:=[.bool _,.int .i64 _,.int .i64 _,.slice _ _ _]) rfl rfl rfl (vB rfl) (cs':=[_,_,_,_]) rfl) ?_)));clear hS;rintro _ w_6⟨rfl,hS⟩;refine qq hS (Qai rfl) (QoN (vM (xF (ret2 results10 (qD 0 hS vZ xy rfl rfl rfl) (qh (v:=.int .i64 _) rfl) ?_))));exact⟨_,none,0,0,rfl,hS.nil,RSl.nilR⟩
  ·
   intro hc35
   try simp only[zA,zO,zN,zI,zF,zM,zT,zU]at hc35
   have hck:(checkP (⟨false,pin,pout,pops⟩:PatL)).2=0:=(symbolsP_ok' (by rw[hA]; exact hc25)).1;have hlen:(old.length:Int)=pin:=by
    by_cases h:(old.length:Int)=pin
    · exact h
    · unfold applyP at hR
      rw[hA,vJ hc25,vG h]at hR;have:=(Prod.mk.inj hR).2;omega
   have hin4:=(qM hck).2.2.2.1;dsimp only at hin4;rw[vG (by simp[hc35])]at he;have hql:=cheap_lif (invS A old) pout;rw[he]at hql;dsimp only at hql;refine vL (vK (vD (QwR (qq hS (qa (o':=0) vT rfl xE rfl rfl rfl) (qq hS (qd 1 ut rfl rfl rfl) (QoN (jf (rfl) (vL (vK (QwR (qq hS (qb _) (qe (qg call35 rfl (places_c _ _ A _ _ hS.imm h21)) ?_))))))))))));rintro _ w_7⟨I_f,b48,rfl,hE,h48⟩;replace hS:=hS.callE hE;replace hops:=hops.mono hE.ext;replace ho:=ho.mono hE.ext;replace h21:=h21.mono hE.ext;replace h31:=h31.mono hE.ext;refine qq hS (qc _) (QoR (qq hS (qb _) (qq hS (qo rfl vH ho rfl) (qe (vq jF ⟨false,0,0⟩ old.length hS xo info80 rfl rfl rfl rfl rfl (by omega) rfl) ?_))));clear hS;rintro _ w_8⟨b51,rfl,hS⟩;refine qq hS (qc _) (QoN (vD (QwR (qq hS (qb _) (qq hS (qo rfl vH ho rfl) (qq hS (Qmi rfl) (QoN (vS (loop (fun(i:Nat) σ w=>okS σ [(3,.pointer (some ⟨b3,0,none⟩)),(4,.pointer (some ⟨b4,0,none⟩)),(6,.slice a21 A.length c21),(12,.map (some b48)),(13,.slice (some ⟨b51,0,none⟩) old.length old.length),(52,.slice bd old.length capb),(53,.int .i64 old.length),(54,.int .i64 i)]∧∃I,St [] w0 I0 I w [.row (.slice (some ⟨b51,0,none⟩) old.length old.length) 80 3 old.length (flat symC (invUp A old i)),.cel b4 26 [.bool false,.int .i64 0,.int .i64 0,.slice none 0 0],.cel b3 26 [.bool false,.int .i64 pin,.int .i64 pout,.slice ad m cap]]∧i≤old.length∧RBytes I (.slice bd old.length capb) old∧RSyms I (.slice a21 A.length c21) A∧RMap I b48 (keptUp A A.length)∧ROps I (.slice ad m cap) pops) (fun i=>old.length - i) (0) ?_ ?_)))))))))
   ·
    rw[← invUp_0 A old]at hS;exact⟨⟨rfl,rfl,rfl,rfl,rfl,rfl,rfl,rfl,trivial⟩,_,(hS.sel [true,true,true]).celRow 0 (xs:=flat symC (invUp A old 0)) (rest:=[]) (by rw[List.append_nil]; rfl) (by rw[qT jF,jA]) (vX _) (by simp only[maxLen]; omega) (by rw[List.append_nil,qT jF,jA]),by omega,ho,h21,h48,hops⟩
   ·
    rintro i σ w_l⟨hs,I,hS,hi0,ho,h21,h48,hops⟩;rw[← qk hs]; clear hs
    refine QwR (qq hS (g_lss rfl rfl) (QoN (vD (qj rfl ?_ ?_))))
    ·
     intro hc55
     try simp only[zA,zO,zN,zI,zF,zM,zT,zU]at hc55
     have hlt:i < old.length:=by omega
     obtain⟨y,hyi⟩:∃y,old[i]? = some y:=⟨_,vC hlt⟩
     have hyA:=ho.at hyi;have hyb:=hob y (vI hyi);have hlN:old.length=(invUp A old i).length:=(jA A old i).symm;have hui:(invUp A old i)[i]? = some ⟨false,0,0⟩:=by rw[kS hlt,vG (by omega)]
     have hset:=invUp_set (l:=A) hlt;have hiv:invAt A old i=match kept A i with
      | some j=>⟨true,j,Go.IntKind.u8.wrap (-(sAt A j.toNat).b)⟩
      | none=>⟨false,0,y⟩:=by unfold invAt; rw[vQ,hyi]; rfl
     unfold kept at hiv;refine vL (vK (vD (vS (QwR (qq hS (Qmi rfl) (qq hS (g_ixI vH xd ho rfl rfl (by omega) (by omega)) (qq hS (qJ xR hyA rfl rfl) (qq hS (Qai rfl) (qq hS (qr (v:=.int .u8 _) rfl) (QoR (qq hS (qb _) (qq hS (Qmi rfl) (qq hS (qs (v:=.int .u8 _) rfl) (qq hS (g_ixR 0 xo xt rfl rfl rfl (by omega) (by omega)) ?_))))))))))))));refine qq hS (qw (c':=2) xe rfl xd rfl rfl rfl) (qe (jn 0 jF ⟨false,0,y⟩ hS hlN hui xd rfl rfl rfl (vs:=[.int .u8 _]) rfl rfl rfl rfl rfl) ?_);clear hS;rintro _ w_9⟨rfl,hS⟩;refine QoR (qq hS (qb _) (qq hS (Qmi rfl) (qq hS (g_lookF underlying77 uv xL h48.hold rfl rfl) (qq hS (qb _) (qq hS (Qxi rfl rfl) (qq hS (qm (v:=.bool _) rfl rfl) (qq hS (Qai rfl) (qq hS (Qab rfl) (QoR (qq hS (Qmb rfl) (QoN (qj rfl ?_ ?_))))))))))))
     ·
      intro hc70
      try simp only[zA,zO,zN,zI,zF,zM,zT,zU]at hc70
      obtain⟨j,hj⟩:=Option.isSome_iff_exists.1 hc70;have hjb:=vj (l:=A) (a:=(i:Int)) hj;rw[hj]at hiv;dsimp only at hiv;have hj0:(lookI (keptUp A A.length) (i:Int)).getD 0=j:=by rw[hj]; rfl
      obtain⟨sj,hsj⟩:∃s,A[j.toNat]? = some s:=⟨_,vC (by omega)⟩
      rw[vv hsj]at hiv;have hjA:atI I (elA (.slice a21 A.length c21) ((lookI (keptUp A A.length) (i:Int)).getD 0).toNat 3 0) [.bool sj.old,.int .i64 sj.at_,.int .u8 sj.b]:=by rw[hj0]; exact h21.at hsj
      have hlN2:old.length=((invUp A old i).set i ⟨false,0,y⟩).length:=by rw[vR]; exact hlN
      have hui2:((invUp A old i).set i ⟨false,0,y⟩)[i]? = some ⟨false,0,y⟩:=by rw[List.getElem?_set,vJ rfl,vJ (by omega)]
      have hst:((invUp A old i).set i ⟨false,0,y⟩).set i ⟨true,(lookI (keptUp A A.length) (i:Int)).getD 0,IntKind.u8.wrap (-sj.b)⟩=invUp A old (i+1):=by
       rw[List.set_set,hj0,← hset,hiv]
      refine reg (qq hS (qb _) (qq hS (Qmi rfl) (qq hS (Qmi rfl) (qq hS (qb _) (qq hS (Qmi rfl) (qq hS (g_ixI xo xt h21 rfl rfl (by omega) (by omega)) (qq hS (qw (c':=2) xe rfl xd rfl rfl rfl) (qq hS (qJ xR hjA rfl rfl) (qq hS (g_negw rfl) (qq hS (qt (pl:=[(0,1),(1,1),(2,1)]) (cs:=[.bool _,.int .i64 _,.int .u8 _]) xU xe (fun w=>by simp[vF,xE,xd]) (mp (v:=.bool _) rfl (mp (v:=.int .i64 _) rfl (mp (v:=.int .u8 _) rfl mp0))) rfl) ?_))))))))));refine qq hS (g_ixR 0 xo xt rfl rfl rfl (by omega) (by omega)) (qe (jn 0 jF ⟨true,(lookI (keptUp A A.length) (i:Int)).getD 0,IntKind.u8.wrap (-sj.b)⟩ hS hlN2 hui2 xt rfl rfl rfl (vs:=[.bool _,.int .i64 _,.int .u8 _]) rfl rfl rfl rfl rfl) ?_);clear hS;rintro _ w_10⟨rfl,hS⟩;refine qB (xO (vK (reg (qq hS (g_add rfl rfl (by omega) (by omega)) (qq hS (Qmi rfl) ?_)))))
      first
       | (refine ⟨i + 1, _, rfl, ⟨⟨rfl, rfl, rfl, rfl, rfl, rfl, rfl, rfl, trivial⟩, _, ?_, by omega, ho, h21, h48, hops⟩, by omega⟩
          rw[← hsk];exact hS.sel [true,true,true])
       | (refine ⟨i + 1, _, rfl, ⟨⟨rfl, rfl, rfl, rfl, rfl, rfl, rfl, rfl, trivial⟩, _, ?_, by omega, ho, h21, h48, hops⟩, by omega⟩
          rw[← hst];exact hS.sel [true,true,true])
     ·
      intro hc70
      try simp only[zA,zO,zN,zI,zF,zM,zT,zU]at hc70
      have hj:lookI (keptUp A A.length) (i:Int)=none:=by
       cases h:lookI (keptUp A A.length) (i:Int) with
       | none=>rfl
       | some j=>rw[h]at hc70; cases hc70
      rw[hj]at hiv;dsimp only at hiv;have hsk:(invUp A old i).set i ⟨false,0,y⟩=invUp A old (i+1):=by rw[← hset,hiv]
      refine vL (xO (vK (reg (qq hS (g_add rfl rfl (by omega) (by omega)) (qq hS (Qmi rfl) ?_)))))
      first
       | (refine ⟨i + 1, _, rfl, ⟨⟨rfl, rfl, rfl, rfl, rfl, rfl, rfl, rfl, trivial⟩, _, ?_, by omega, ho, h21, h48, hops⟩, by omega⟩
          rw[← hsk];exact hS.sel [true,true,true])
       | (refine ⟨i + 1, _, rfl, ⟨⟨rfl, rfl, rfl, rfl, rfl, rfl, rfl, rfl, trivial⟩, _, ?_, by omega, ho, h21, h48, hops⟩, by omega⟩
          rw[← hst];exact hS.sel [true,true,true])
    ·
     intro hc55
     try simp only[zA,zO,zN,zI,zF,zM,zT,zU]at hc55
     obtain rfl:i=old.length:=by omega
     rw[invUp_all]at hS;refine xm (xh (xh (ua (vK (vD ?_)))));have hF:=St.freezeRow (u:=.slice (some ⟨b51,0,none⟩) old.length old.length) (m:=old.length) (xs:=invS A old) jF (by exact hS.ord [0,1,2]) ((kT A old).symm);clear hS;obtain⟨I_hsy,hS,hI_hsy,hsy⟩:=hF;replace ho:=ho.mono hI_hsy;replace h21:=h21.mono hI_hsy;replace h48:=h48.mono hI_hsy;replace hops:=hops.mono hI_hsy;refine reg (qq hS (qb _) (qq hS (qa (o':=2) vT rfl vF rfl rfl rfl) (qq hS (qd 1 vV rfl rfl rfl) (qe (qg call29 rfl (cheapest_e _ _ _ (invS A old) pout q e _ _ hS.imm hsy (kT A old).symm (invS_wf (by omega) hob) he)) ?_))));rintro _ w_11⟨I_f,a87,m87,c87,rfl,hE,h87⟩;replace hS:=hS.callE hE;replace ho:=ho.mono hE.ext;replace h21:=h21.mono hE.ext;replace h48:=h48.mono hE.ext;replace hops:=hops.mono hE.ext;replace hsy:=hsy.mono hE.ext;refine qq hS (qb _) (qq hS (qm rfl rfl) (qq hS (Qxi rfl rfl) (qe (qv (cs:=[.bool _,.int .i64 _,.int .i64 _,.slice _ _ _]) hS xw rfl) ?_)));clear hS;rintro _ w_12⟨b18,rfl,hS⟩;refine qe (qf 0 hS vZ rfl rfl rfl (vs:=[.bool _,.int .i64 _,.int .i64 _,.slice _ _ _]) rfl rfl rfl (vB rfl) (cs':=[_,_,_,_]) rfl) ?_;clear hS;rintro _ w_13⟨rfl,hS⟩;refine qq hS (Qai rfl) (QoR (qq hS (qa (o':=0) vT rfl xE rfl rfl rfl) (qq hS (qd 2 ut rfl rfl rfl) (qq hS (Qmb rfl) (qsf rfl rfl rfl (qsf rfl rfl rfl (qq hS (g_and (b:=false) rfl rfl (fun h=>by cases h)) (qq hS (qa (o':=0) vT rfl xE rfl rfl rfl) (qe (qf 0 hS xE rfl rfl rfl (vs:=[.bool _]) rfl rfl rfl (vB rfl) (cs':=[_,_,_,_]) rfl) ?_)))))))));clear hS;rintro _ w_14⟨rfl,hS⟩
     refine QoR (qq hS (g_ldO 0 (vs:=[.bool _,.int .i64 _,.int .i64 _,.slice _ _ _]) vZ xy rfl rfl rfl rfl) (qq hS (Qmi rfl) (qe (qf 1 hS vZ rfl rfl rfl (vs:=[.bool _,.int .i64 _,.int .i64 _,.slice _ _ _]) rfl rfl rfl (vB rfl) (cs':=[_,_,_,_]) rfl) ?_)));clear hS;rintro _ w_15⟨rfl,hS⟩;refine qq hS (Qai rfl) (QoN (vM (ret2 results10 (qD 1 hS vZ xy rfl rfl rfl) (qh (v:=.int .i64 _) rfl) ?_)));exact⟨_,a87,m87,c87,by rw[hql]; rfl,hS.nil,h87⟩
end Go.Proofs.YtgkgihnpjgbmhaaGreatDoor
