/- inlayref08.Cheapest, Form, Same: what they compute, namely the same as package normal. Conditions: numbers within bounds. -/
import Derived.Test.YtcajgkfgjpfmaaaGreatList
import Derived.Test.YtcajgkfgjpfmaaaGreatKCut
set_option linter.unusedSimpArgs false
set_option linter.unusedVariables false
namespace Go.Proofs.YtcajgkfgjpfmaaaGreat
open Tryz
open Go Go.RowKit Go.Inl
theorem strange_right (n:Int)(s:Sym):strange n s = !rightSymR s n:=by
 unfold strange rightSymR inS;cases s.old
 · simp
 · simp only [Bool.true_and, Bool.not_true, Bool.false_and, Bool.or_false, if_true]
   by_cases h1:s.at_ < 0
   · rw[uK h1,uY (show ¬0≤s.at_ by omega)]; rfl
   · rw [uY h1, uK (show 0 ≤ s.at_ by omega)]
     by_cases h2:n≤s.at_
     · rw[uK h2,uY (show ¬s.at_≤n - 1 by omega)]; rfl
     · rw[uY h2,uK (show s.at_≤n - 1 by omega)]; rfl
theorem rightP_of {x:OpL}{n:Int}(h:rightR x n=true):1≤x.len∧x.len≤65536∧rightP x n=true:=by
 unfold rightR rightP insideP inS at *;simp only[xU,xO]at *;obtain⟨⟨h1,h2⟩,h3⟩:=h;refine⟨h1,h2,?_⟩;by_cases k1:x.kind=1
 · simp[k1]at h3 ⊢; omega
 · by_cases k2 : x.kind = 2
   · simp[k2]at h3 ⊢; omega
   · by_cases k3 : x.kind = 3
     · simp[k3]at h3 ⊢; omega
     · by_cases k4 : x.kind = 4
       · simp[k4]at h3 ⊢; omega
       · simp[k1,k2,k3,k4]at h3
theorem checkRGo_ok8 {n out : Int} : ∀ (l : List OpL) (sum i : Int), (checkRGo n out l sum i).2 = 0 → OpsOk n l ∧ sum + ((symsOf l).length : Int) = out
 | [],sum,i,h=>by
   unfold checkRGo at h;split at h
   · exact⟨fun x hx=>by simp at hx,by simp[symsOf]; omega⟩
   · simp at h
 | x::l,sum,i,h=>by
   unfold checkRGo at h;split at h
   · simp at h
   · rename_i hb
     simp only[xV,xT,xO,not_or,Bool.not_eq_false]at hb;obtain⟨h1,h2,h3⟩:=rightP_of hb.1;obtain⟨h4,h5⟩:=checkRGo_ok8 l _ _ h;refine⟨fun y hy=>?_,?_⟩
     · rcases uq.1 hy with rfl | hy
       · exact⟨h1,h3⟩
       · exact h4 y hy
     · rw[ja,ug,qR]; omega
theorem checkR_iff (p:PatL):(checkR p).2=0↔(checkP p).2=0:=by
 refine⟨fun h=>?_,kN⟩;unfold checkR at h;split at h
 · simp at h
 · rename_i hb
   simp only[inS,xV,xT,Bool.and_eq_false_iff,xO,xM,not_or]at hb;obtain⟨h1,h2⟩:=checkRGo_ok8 _ _ _ h;exact jJ (by omega) h1 (by omega) (by omega) (by omega)
theorem vj (p:PatL):symbolsR p=symbolsP p:=by
 unfold symbolsR symbolsP;by_cases h:(checkP p).2=0
 · rw[ui ((checkR_iff p).2 h),ui h]
 · rw [ud (fun h' => h ((checkR_iff p).1 h')), ud h]
   rcases xl p with h' | h'
   · rw[h']
   · exact absurd h' h
theorem symbolsR_p (p : PatL) (ad : Option Addr) (m cap : Nat) (w0 : World) (I0 : Imm) (hI : Sat I0 w0) (hops : ROps I0 (.slice ad m cap) p.ops) (hp : p.wf) :
 Ctr prog 57 [.agg #[.bool p.lifted,.int .i64 p.in_,.int .i64 p.out,.slice ad m cap]] w0 (fun v w'=>∃I' a c,v = .tuple #[.slice a (symbolsP p).1.length c,.int .i64 (symbolsP p).2]∧Ext w0 I0 w' I'∧RSyms I' (.slice a (symbolsP p).1.length c) (symbolsP p).1):=by
 have h:=xr p ad m cap w0 I0 hI hops hp;rw[vj]at h;exact h
set_option maxHeartbeats 1000000 in
theorem refCheapest_c (ad : Option Addr) (cap : Nat) (l : List Sym) (size : Int) (w0 : World) (I0 : Imm) (hI : Sat I0 w0) (hl : RSyms I0 (.slice ad l.length cap) l) (hw : ∀ s ∈ l, s.wf) (hs : Mid size) :
 Ctr prog 151 [.slice ad l.length cap,.int .i64 size] w0 (fun v w'=>∃I' a m c,v = .tuple #[.agg #[.bool (cheapP l size).1.lifted,.int .i64 (cheapP l size).1.in_,.int .i64 (cheapP l size).1.out,.slice a m c],.int .i64 (cheapP l size).2]∧Ext w0 I0 w' I'∧ROps I' (.slice a m c) (cheapP l size).1.ops):=by
 have hll:=RSl.le hl;simp only[maxLen]at hll;refine fn (n:=43) func151 rfl rfl rfl ?_;have hS:=St.start hI;refine QwR (qe (qw (cs:=[.bool _,.int .i64 _,.int .i64 _,.slice _ _ _]) hS uQ rfl) ?_);clear hS;rintro _ w_1⟨b4,rfl,hS⟩;refine qq hS (Qai rfl) (QoN (xL (QwR (qq hS (Qmi rfl) (qe (ql call96 rfl (refIn_c size 0 65536 _ I0 hS.imm)) ?_)))));rintro _ w_2⟨rfl,hE⟩;replace hS:=hS.callE hE;refine qq hS (g_not rfl) (qq hS (Qmb rfl) (qu rfl rfl hS (fun hg=>(qk _)) ?_));intro u12 hu12 hn12;refine qu rfl rfl hS (fun hg=>(qz rfl uG hl (hu12 hg))) ?_;intro u13 hu13 hn13;refine qu rfl rfl hS (fun hg=>(g_gtr (hu13 hg) rfl)) ?_;intro u14 hu14 hn14;refine qq hS (g_or rfl rfl (fun hq=>hu14 hq)) (QoN (qo rfl ?_ ?_))
 ·
  intro hc15;clear hu12 hn12 hu13 hn13 hu14 hn14;have e:cheapP l size=(PatL.zero,60):=by
   unfold cheapP;rw[ui];simp only[inS,xV,xT,Bool.and_eq_false_iff,xO,xM]at hc15 ⊢;omega
  refine QwR (qq hS (qv (pl:=[(0,1),(1,1),(2,1),(3,1)]) (cs:=[.bool _,.int .i64 _,.int .i64 _,.slice _ _ _]) uQ uu (fun w=>by simp[xX,uC,Qt]) mp0 rfl) (qe (qj 0 hS ul rfl rfl rfl (vs:=[.bool _,.int .i64 _,.int .i64 _,.slice _ _ _]) rfl rfl rfl (xP rfl) (cs':=[_,_,_,_]) rfl) ?_));clear hS;rintro _ w_3⟨rfl,hS⟩;refine qq hS (Qai rfl) (QoN (ub (uw (ret2 results151 (qD 0 hS ul uO rfl rfl rfl) (qr (v:=.int .i64 _) rfl) ?_))));rw[e]; exact⟨_,none,0,0,rfl,hS.nil,RSl.nilR⟩
 ·
  intro hc15;clear hu12 hn12 hu13 hn13 hu14 hn14;simp only[inS,xR,xS,xU,xO,xM]at hc15;obtain⟨⟨hn0,hn1⟩,hn2'⟩:=hc15;have hn2:l.length≤65536:=by omega
  refine xZ (xN (xL (QwR (qq hS (Qai rfl) (QoN (uk (loop (fun(i:Nat) σ w=>okS σ [(0,.slice ad l.length cap),(1,.int .i64 size),(4,.pointer (some ⟨b4,0,none⟩)),(6,.int .i64 i)]∧St [] w0 I0 I0 w [.cel b4 46 [.bool false,.int .i64 0,.int .i64 0,.slice none 0 0]]∧i≤l.length∧∀s∈l.take i,strange size s=false) (fun i=>l.length - i) (0) ?_ ?_)))))))
  ·
   exact⟨⟨rfl,rfl,rfl,rfl,trivial⟩,hS.sel [true],by simp,by simp⟩
  ·
   rintro i σ w_l⟨hs,hS,hi0,hbad⟩;rw[← qx hs]; clear hs
   refine xL (QwR (qq hS (Qmi rfl) (qq hS (qk _) (qq hS (qz rfl uG hl rfl) (qq hS (g_lss rfl rfl) (QoN (qo rfl ?_ ?_)))))))
   ·
    intro hc20
    try simp only[zA,zO,zN,zI,zF,zM,zT,zU]at hc20
    obtain⟨s,hsi⟩:∃s,l[i]? = some s:=⟨_,xW (by omega)⟩
    have hsA:=hl.at hsi;refine xZ (xN (xL (uk (QwR (qq hS (qk _) (qq hS (Qmi rfl) (qq hS (g_ixI uG uN hl rfl rfl (by omega) (by omega)) (qq hS (g_ldE (us:=[.bool _,.int .i64 _,.int .u8 _]) uN Jd hsA rfl rfl rfl) (qq hS (Qmi rfl) (qe (ql call89 rfl (rightSym_c s size _ I0 hS.imm hs)) ?_))))))))));rintro _ w_4⟨rfl,hE⟩;replace hS:=hS.callE hE;refine qq hS (g_not rfl) (QoN (qo rfl ?_ ?_))
    ·
     intro hc29;simp only[xT,xS]at hc29;have e:cheapP l size=(PatL.zero,60):=by
      unfold cheapP;rw[ui];have:l.any (strange size)=true:=List.any_eq_true.2 ⟨s,uf hsi,by rw[strange_right,hc29]; rfl⟩;rw[this,Bool.or_true]
     refine QwR (qq hS (qv (pl:=[(0,1),(1,1),(2,1),(3,1)]) (cs:=[.bool _,.int .i64 _,.int .i64 _,.slice _ _ _]) uQ uu (fun w=>by simp[xX,uC,Qt]) mp0 rfl) (qe (qj 0 hS ul rfl rfl rfl (vs:=[.bool _,.int .i64 _,.int .i64 _,.slice _ _ _]) rfl rfl rfl (xP rfl) (cs':=[_,_,_,_]) rfl) ?_));clear hS;rintro _ w_5⟨rfl,hS⟩;refine qq hS (Qai rfl) (QoN (ub (Qs (uw (uw (Qs (uw (ret2 results151 (qD 0 hS ul uO rfl rfl rfl) (qr (v:=.int .i64 _) rfl) ?_))))))));rw[e]; exact⟨_,none,0,0,rfl,hS.nil,RSl.nilR⟩
    ·
     intro hc29;simp only[xT,xS]at hc29;have hsg:strange size s=false:=by rw[strange_right,hc29]; rfl
     refine xZ (Qh (xN (reg (qq hS (Qmi rfl) (qq hS (g_add rfl rfl (by omega) (by omega)) (qq hS (Qai rfl) ?_))))));exact⟨i+1,_,rfl,⟨⟨rfl,rfl,rfl,rfl,trivial⟩,hS.sel [true],by omega,jX hsi hbad hsg⟩,by omega⟩
   ·
    intro hc20
    try simp only[zA,zO,zN,zI,zF,zM,zT,zU]at hc20
    have hil:i=l.length:=by omega
    subst hil;rw[Qq]at hbad;have hok:okL size l:=hbad;have hbest:=(kx hok).2.2.2;refine uD (uA (uA (Qw (xN (QwR (qq hS (Qmi rfl) (qq hS (qk _) (qq hS (qz rfl uG hl rfl) (qq hS (qk _) (qe (ql call169 rfl (list_c ad cap l size _ _ hS.imm hl hw hn2 hok)) ?_))))))))));rintro _ w_6⟨I3,a3,m3,c3,rfl,hE,h3⟩;replace hS:=hS.callE hE;refine qq hS (qv (pl:=[(0,1),(1,1),(2,1),(3,1)]) (cs:=[.bool _,.int .i64 _,.int .i64 _,.slice _ _ _]) uQ uu (fun w=>by simp[xX,uC,Qt]) (mp (v:=.int .i64 _) rfl (mp (v:=.int .i64 _) rfl (mp rfl mp0))) rfl) (qe (qw (cs:=[.bool _,.int .i64 _,.int .i64 _,.slice _ _ _]) hS uQ rfl) ?_);clear hS;rintro _ w_7⟨b7,rfl,hS⟩;refine qe (qj 0 hS ul rfl rfl rfl (vs:=[.bool _,.int .i64 _,.int .i64 _,.slice _ _ _]) rfl rfl rfl (xP rfl) (cs':=[_,_,_,_]) rfl) ?_;clear hS;rintro _ w_8⟨rfl,hS⟩;refine QoN (xL (QwR (qq hS (qb (o':=3) uu rfl Qt rfl rfl rfl) (qq hS (qi 0 JA rfl rfl rfl) (qq hS (qz rfl QC h3 rfl) (qq hS (g_gtr rfl rfl) (QoN (qo rfl ?_ ?_))))))))
    ·
     intro hc40
     try simp only[zA,zO,zN,zI,zF,zM,zT,zU]at hc40
     have e:cheapP l size=(PatL.zero,2):=by
      unfold cheapP;have h2:l.any (strange size)=false:=by rw[List.any_eq_false]; intro s hs; rw[hok s hs]; simp
      rw[ud (by simp[h2]; omega),ui (by show 4096 < (bestP l).ops; omega)]
     refine QwR (qq hS (qv (pl:=[(0,1),(1,1),(2,1),(3,1)]) (cs:=[.bool _,.int .i64 _,.int .i64 _,.slice _ _ _]) uQ uu (fun w=>by simp[xX,uC,Qt]) mp0 rfl) (qe (qj 1 hS ul rfl rfl rfl (vs:=[.bool _,.int .i64 _,.int .i64 _,.slice _ _ _]) rfl rfl rfl (xP rfl) (cs':=[_,_,_,_]) rfl) ?_));clear hS;rintro _ w_9⟨rfl,hS⟩;refine qq hS (Qai rfl) (QoN (ub (uw (ret2 results151 (qD 1 hS ul uO rfl rfl rfl) (qr (v:=.int .i64 _) rfl) ?_))));rw[e]; exact⟨_,none,0,0,rfl,hS.nil,RSl.nilR⟩
    ·
     intro hc40
     try simp only[zA,zO,zN,zI,zF,zM,zT,zU]at hc40
     have e:cheapP l size=(⟨false,size,l.length,optL l⟩,0):=by
      unfold cheapP;have h2:l.any (strange size)=false:=by rw[List.any_eq_false]; intro s hs; rw[hok s hs]; simp
      rw[ud (by simp[h2]; omega),ud (by show ¬4096 < (bestP l).ops; omega)];rfl
     refine xZ (xN (QwR (qq hS (g_ldO 0 (vs:=[.bool _,.int .i64 _,.int .i64 _,.slice _ _ _]) ul uO rfl rfl rfl rfl) (qe (qj 1 hS ul rfl rfl rfl (vs:=[.bool _,.int .i64 _,.int .i64 _,.slice _ _ _]) rfl rfl rfl (xP rfl) (cs':=[_,_,_,_]) rfl) ?_))));clear hS;rintro _ w_10⟨rfl,hS⟩;refine qq hS (Qai rfl) (QoN (ub (ret2 results151 (qD 1 hS ul uO rfl rfl rfl) (qr (v:=.int .i64 _) rfl) ?_)));rw[e]; exact⟨_,a3,m3,c3,rfl,hS.nil,h3⟩
theorem refForm_c (p : PatL) (ad : Option Addr) (m cap : Nat) (w0 : World) (I0 : Imm) (hI : Sat I0 w0) (hops : ROps I0 (.slice ad m cap) p.ops) (hp : p.wf) :
 Ctr prog 127 [.agg #[.bool p.lifted,.int .i64 p.in_,.int .i64 p.out,.slice ad m cap]] w0 (fun v w'=>∃I' a m c,v = .tuple #[.agg #[.bool (formP p).1.lifted,.int .i64 (formP p).1.in_,.int .i64 (formP p).1.out,.slice a m c],.int .i64 (formP p).2]∧Ext w0 I0 w' I'∧ROps I' (.slice a m c) (formP p).1.ops):=by
 refine fn (n:=31) func127 rfl rfl rfl ?_;have hS:=St.start hI;refine QwR (qe (d_box (cs:=[.bool _,.int .i64 _,.int .i64 _,.slice _ _ _]) hS rfl) ?_);clear hS;rintro _ w_1⟨b1,rfl,hS⟩;refine qe (qw (cs:=[.bool _,.int .i64 _,.int .i64 _,.slice _ _ _]) hS uQ rfl) ?_;clear hS;rintro _ w_2⟨b2,rfl,hS⟩;refine qq hS (Qai rfl) (QoR (qq hS (g_ldO 1 (vs:=[.bool _,.int .i64 _,.int .i64 _,.slice _ _ _]) ul uO rfl rfl rfl rfl) (qe (ql call57 rfl (symbolsR_p p ad m cap _ I0 hS.imm hops hp)) ?_)));rintro _ w_3⟨I1,a1,c1,rfl,hE,hr⟩;replace hS:=hS.callE hE;refine qq hS (qk _) (qq hS (qt rfl rfl) (qq hS (Qxi rfl rfl) (qq hS (qy _) (qq hS (Qai rfl) (QoN (xL (QwR (qq hS (Qmi rfl) (qq hS (g_neq rfl rfl) (QoN (qo rfl ?_ ?_)))))))))))
 ·
  intro hc14;simp only[xT,xS,xO,xM]at hc14;have e:formP p=(PatL.zero,(symbolsP p).2):=by unfold formP; rw[ud hc14]
  refine QwR (qq hS (qv (pl:=[(0,1),(1,1),(2,1),(3,1)]) (cs:=[.bool _,.int .i64 _,.int .i64 _,.slice _ _ _]) uQ uu (fun w=>by simp[xX,uC,Qt]) mp0 rfl) (qq hS (Qmi rfl) (qe (qj 0 hS ul rfl rfl rfl (vs:=[.bool _,.int .i64 _,.int .i64 _,.slice _ _ _]) rfl rfl rfl (xP rfl) (cs':=[_,_,_,_]) rfl) ?_)));clear hS;rintro _ w_4⟨rfl,hS⟩;refine qq hS (Qai rfl) (QoN (ub (uw (ret2 results127 (qD 0 hS ul uO rfl rfl rfl) (qr (v:=.int .i64 _) rfl) ?_))));rw[e]; exact⟨I1,none,0,0,rfl,hS.nil,RSl.nilR⟩
 ·
  intro hc14;simp only[xT,xS,xO,xM]at hc14;refine xZ (xN (QwR (qq hS (qk _) (qq hS (qb (o':=1) uu rfl xX rfl rfl rfl) (qq hS (qi 1 uj rfl rfl rfl) (qe (ql call151 rfl (refCheapest_c a1 c1 (symbolsP p).1 p.in_ _ I1 hS.imm hr (jy hp) hp.in_)) ?_))))));rintro _ w_5⟨I2,a2,m2,c2,rfl,hE,hr2⟩;replace hS:=hS.callE hE;refine qq hS (qk _) (qq hS (qt rfl rfl) (qq hS (Qxi rfl rfl) (qe (qw (cs:=[.bool _,.int .i64 _,.int .i64 _,.slice _ _ _]) hS uQ rfl) ?_)));clear hS;rintro _ w_6⟨b6,rfl,hS⟩;refine qe (qj 0 hS ul rfl rfl rfl (vs:=[.bool _,.int .i64 _,.int .i64 _,.slice _ _ _]) rfl rfl rfl (xP rfl) (cs':=[_,_,_,_]) rfl) ?_;clear hS;rintro _ w_7⟨rfl,hS⟩;refine qq hS (Qai rfl) (QoN (xL (QwR (qq hS (Qmi rfl) (qq hS (g_eql rfl rfl) (QoN (qo rfl ?_ ?_)))))))
  ·
   intro hc25
   try simp only[zA,zO,zN,zI,zF,zM,zT,zU]at hc25
   have e:formP p=({ (cheapP (symbolsP p).1 p.in_).1 with lifted:=p.lifted },(cheapP (symbolsP p).1 p.in_).2):=by unfold formP; rw[ui hc14]; exact(ui hc25).trans (by rw[hc25])
   refine reg (qq hS (qb (o':=0) uu rfl uC rfl rfl rfl) (qq hS (qi 2 QG rfl rfl rfl) (qq hS (qb (o':=0) uu rfl uC rfl rfl rfl) (qe (qj 0 hS uC rfl rfl rfl (vs:=[.bool _]) rfl rfl rfl (xP rfl) (cs':=[_,_,_,_]) rfl) ?_))));clear hS;rintro _ w_8⟨rfl,hS⟩;refine QoR (qq hS (g_ldO 0 (vs:=[.bool _,.int .i64 _,.int .i64 _,.slice _ _ _]) ul uO rfl rfl rfl rfl) (qq hS (Qmi rfl) (qe (qj 1 hS ul rfl rfl rfl (vs:=[.bool _,.int .i64 _,.int .i64 _,.slice _ _ _]) rfl rfl rfl (xP rfl) (cs':=[_,_,_,_]) rfl) ?_)));clear hS;rintro _ w_9⟨rfl,hS⟩;refine qq hS (Qai rfl) (QoN (ub (ret2 results127 (qD 1 hS ul uO rfl rfl rfl) (qr (v:=.int .i64 _) rfl) ?_)));rw[e]; exact⟨I2,a2,m2,c2,rfl,hS.nil,hr2⟩
  ·
   intro hc25
   try simp only[zA,zO,zN,zI,zF,zM,zT,zU]at hc25
   have e:formP p=cheapP (symbolsP p).1 p.in_:=by unfold formP; rw[ui hc14]; exact ud hc25
   refine xZ (xN (QwR (qq hS (g_ldO 0 (vs:=[.bool _,.int .i64 _,.int .i64 _,.slice _ _ _]) ul uO rfl rfl rfl rfl) (qq hS (Qmi rfl) (qe (qj 1 hS ul rfl rfl rfl (vs:=[.bool _,.int .i64 _,.int .i64 _,.slice _ _ _]) rfl rfl rfl (xP rfl) (cs':=[_,_,_,_]) rfl) ?_)))));clear hS;rintro _ w_10⟨rfl,hS⟩;refine qq hS (Qai rfl) (QoN (ub (ret2 results127 (qD 1 hS ul uO rfl rfl rfl) (qr (v:=.int .i64 _) rfl) ?_)));rw[e]; exact⟨I2,a2,m2,c2,rfl,hS.nil,hr2⟩
end Go.Proofs.YtcajgkfgjpfmaaaGreat
