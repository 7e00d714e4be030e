/- The functions of package inlayref06 that look at patches: what they compute. Conditions: numbers within bounds. inlayref06.Symbols: what it computes. Conditions: numbers within bounds. The functions of package inlayref06 that make patches and symbols of descriptions: what they compute. Conditions: numbers within bounds. -/
import Derived.Test.YtgkgihnpjgbmhaaGreatDoorKSmall
import Derived.Test.YtgkgihnpjgbmhaaGreatDoorKCore2
set_option linter.unusedSimpArgs false
set_option linter.unusedVariables false
namespace Go.Proofs.YtgkgihnpjgbmhaaGreatDoor
open Tryz
open Go Go.RowKit Go.Inl
theorem checkRGo_bad {n out s i:Int}{x:OpL}{r:List OpL}(h:(!rightR x n || decide (out < s+x.len))=true):checkRGo n out (x::r) s i=(i,60):=by
 simp only[checkRGo,h,if_true]
theorem checkRGo_good {n out s i:Int}{x:OpL}{r:List OpL}(h:(!rightR x n || decide (out < s+x.len))=false):checkRGo n out (x::r) s i=checkRGo n out r (s+x.len) (i+1):=by
 simp[checkRGo,h]
theorem rightR_len {x:OpL}{n:Int}(h:rightR x n=true):1≤x.len∧x.len≤65536:=by
 unfold rightR inS at h;rw[xf]at h;have:=h.1;simp only[xf,vU]at this;exact this
theorem rightR_f {x:OpL}{n:Int}(h:inS x.len 1 65536=false):rightR x n=false:=by unfold rightR; rw[h]; rfl
theorem rightR_1 {x:OpL}{n:Int}(h:inS x.len 1 65536=true)(k:x.kind=1):rightR x n=(inS x.from_ 0 (n - x.len) && decide (x.b=0) && decide ((x.data.length:Int)=0)):=by
 unfold rightR; rw[h,vJ k]; rfl
theorem rightR_2 {x:OpL}{n:Int}(h:inS x.len 1 65536=true)(k:x.kind=2):rightR x n=(inS x.from_ 0 (n - x.len) && decide (x.b=0) && decide ((x.data.length:Int)=x.len)):=by
 unfold rightR; rw[h,vG (by omega),vJ k]; rfl
theorem rightR_3 {x:OpL}{n:Int}(h:inS x.len 1 65536=true)(k:x.kind=3):rightR x n=(decide (x.from_=0) && decide ((x.data.length:Int)=0)):=by
 unfold rightR; rw[h,vG (by omega),vG (by omega),vJ k]; rfl
theorem rightR_4 {x:OpL}{n:Int}(h:inS x.len 1 65536=true)(k:x.kind=4):rightR x n=(decide (x.from_=0) && decide (x.b=0) && decide ((x.data.length:Int)=x.len)):=by
 unfold rightR; rw[h,vG (by omega),vG (by omega),vG (by omega),vJ k]; rfl
theorem rightR_o {x:OpL}{n:Int}(k1:¬x.kind=1)(k2:¬x.kind=2)(k3:¬x.kind=3)(k4:¬x.kind=4):rightR x n=false:=by
 unfold rightR; rw[vG k1,vG k2,vG k3,vG k4,Bool.and_false]
theorem in_c (n lo hi:Int)(w0:World)(I0:Imm)(hI:Sat I0 w0):Ctr prog 82 [.int .i64 n,.int .i64 lo,.int .i64 hi] w0 (fun v w'=>v = .bool (inS n lo hi)∧Ext w0 I0 w' I0):=by
 refine fn (n:=15) func82 rfl rfl rfl ?_;have hS:=St.start hI;refine QwR (qq hS (Qab rfl) (QoR (qq hS (Qmi rfl) (qq hS (Qmi rfl) (qq hS (g_geq rfl rfl) (qq hS (Qmb rfl) (qu rfl rfl hS (fun hg=>(Qmi rfl)) ?_)))))));intro u11 hu11 hn11;refine qu rfl rfl hS (fun hg=>(Qmi rfl)) ?_;intro u12 hu12 hn12;refine qu rfl rfl hS (fun hg=>(g_leq (hu11 hg) (hu12 hg))) ?_;intro u13 hu13 hn13;refine qq hS (g_and rfl rfl (fun hq=>hu13 hq)) (qq hS (Qab rfl) (QoN (vM (ret1 results82 (qh (v:=.bool _) rfl) ?_))));exact⟨rfl,hS.nil⟩
theorem rightOp_c (x : OpL) (ad : Option Addr) (m cap : Nat) (n : Int) (w0 : World) (I0 : Imm) (hI : Sat I0 w0) (hd : RBytes I0 (.slice ad m cap) x.data) (hx : x.wf) (hn : Mid n) :
 Ctr prog 83 [opV x ad m cap,.int .i64 n] w0 (fun v w'=>v = .bool (rightR x n)∧Ext w0 I0 w' I0):=by
 obtain⟨⟨k1,k2⟩,⟨f1,f2⟩,⟨l1,l2⟩,⟨b1,b2⟩,hdat⟩:=hx;obtain⟨n1,n2⟩:=hn;refine fn (n:=78) func83 rfl rfl rfl ?_;have hS:=St.start hI;refine QwR (qe (d_box (cs:=[.int .i64 _,.int .i64 _,.int .i64 _,.int .u8 _,.slice _ _ _]) hS rfl) ?_);clear hS;rintro _ w_1⟨b_1,rfl,hS⟩;refine qq hS (Qab rfl) (QoN (vD (QwR (qq hS (qa (o':=2) vO rfl vF rfl rfl rfl) (qq hS (qd 0 vV rfl rfl rfl) (qe (qg call82 rfl (in_c _ _ _ _ I0 hS.imm)) ?_))))));rintro _ w_2⟨rfl,hE⟩;replace hS:=hS.callE hE;refine qq hS (g_not rfl) (QoN (qj rfl ?_ ?_))
 ·
  intro hc9;simp only[uu,uz]at hc9;have e:=rightR_f (n:=n) hc9;refine QwR (qq hS (Qab rfl) (QoN (vM (xF (ret1 Qh (qh (v:=.bool _) rfl) ?_)))));rw[e]; exact⟨rfl,hS.nil⟩
 ·
  intro hc9;simp only[uu,uz]at hc9;refine vL (vK (QwR (qq hS (qa (o':=1) vO rfl vF rfl rfl rfl) (qq hS (qd 0 vV rfl rfl rfl) (qq hS (Qmi rfl) (qq hS (qa (o':=2) vO rfl vF rfl rfl rfl) (qq hS (qd 0 vV rfl rfl rfl) (qq hS (g_sub rfl rfl (by omega) (by omega)) (qe (qg call82 rfl (in_c _ _ _ _ I0 hS.imm)) ?_)))))))));rintro _ w_3⟨rfl,hE⟩;replace hS:=hS.callE hE;refine qq hS (Qab rfl) (QoN (vD (QwR (qq hS (qa (o':=0) vO rfl vF rfl rfl rfl) (qq hS (qd 0 vV rfl rfl rfl) (QoN (vS (QwR (qq hS (g_eql rfl rfl) (qq hS (Qab rfl) (QoN (qj rfl ?_ ?_))))))))))))
  ·
   intro hc19;simp only[vU,vW]at hc19;have e:=rightR_1 (n:=n) hc9 hc19;refine QwR (qq hS (Qmb rfl) (qq hS (Qmb rfl) (qu rfl rfl hS (fun hg=>(qa (o':=3) vO rfl xd rfl rfl rfl)) ?_)));intro u23 hu23 hn23;refine qu rfl rfl hS (fun hg=>(qd 0 xR rfl (hu23 hg) rfl)) ?_;intro u24 hu24 hn24;refine qu rfl rfl hS (fun hg=>(g_eql (hu24 hg) rfl)) ?_;intro u25 hu25 hn25;refine qq hS (g_and rfl rfl (fun hq=>hu25 hq)) (qq hS (Qmb rfl) (qu rfl rfl hS (fun hg=>(qa (o':=4) vO rfl xj rfl rfl rfl)) ?_));intro u28 hu28 hn28;refine qu rfl rfl hS (fun hg=>(qd 0 ub rfl (hu28 hg) rfl)) ?_;intro u29 hu29 hn29;refine qu rfl rfl hS (fun hg=>(qo rfl vH hd (hu29 hg))) ?_;intro u30 hu30 hn30;refine qu rfl rfl hS (fun hg=>(g_eql (hu30 hg) rfl)) ?_;intro u31 hu31 hn31;refine qq hS (g_and rfl rfl (fun hq=>hu31 hq)) (qq hS (Qab rfl) (QoN (vM (uJ (xF (ret1 Qh (qh (v:=.bool _) rfl) ?_))))));rw[e]; exact⟨rfl,hS.nil⟩
  ·
   intro hc19;simp only[vU,vW]at hc19;refine QwR (qq hS (g_eql rfl rfl) (qq hS (Qab rfl) (QoN (qj rfl ?_ ?_))))
   ·
    intro hc33;simp only[vU,vW]at hc33;have e:=rightR_2 (n:=n) hc9 hc33;refine QwR (qq hS (Qmb rfl) (qq hS (Qmb rfl) (qu rfl rfl hS (fun hg=>(qa (o':=3) vO rfl xd rfl rfl rfl)) ?_)));intro u37 hu37 hn37;refine qu rfl rfl hS (fun hg=>(qd 0 xR rfl (hu37 hg) rfl)) ?_;intro u38 hu38 hn38;refine qu rfl rfl hS (fun hg=>(g_eql (hu38 hg) rfl)) ?_;intro u39 hu39 hn39;refine qq hS (g_and rfl rfl (fun hq=>hu39 hq)) (qq hS (Qmb rfl) (qu rfl rfl hS (fun hg=>(qa (o':=4) vO rfl xj rfl rfl rfl)) ?_));intro u42 hu42 hn42;refine qu rfl rfl hS (fun hg=>(qd 0 ub rfl (hu42 hg) rfl)) ?_;intro u43 hu43 hn43;refine qu rfl rfl hS (fun hg=>(qo rfl vH hd (hu43 hg))) ?_;intro u44 hu44 hn44;refine qu rfl rfl hS (fun hg=>(qa (o':=2) vO rfl vF rfl rfl rfl)) ?_;intro u45 hu45 hn45;refine qu rfl rfl hS (fun hg=>(qd 0 vV rfl (hu45 hg) rfl)) ?_;intro u46 hu46 hn46;refine qu rfl rfl hS (fun hg=>(g_eql (hu44 hg) (hu46 hg))) ?_;intro u47 hu47 hn47;refine qq hS (g_and rfl rfl (fun hq=>hu47 hq)) (qq hS (Qab rfl) (QoN (vM (uJ (xF (ret1 Qh (qh (v:=.bool _) rfl) ?_))))));rw[e]; exact⟨rfl,hS.nil⟩
   ·
    intro hc33;simp only[vU,vW]at hc33;refine QwR (qq hS (g_eql rfl rfl) (qq hS (Qab rfl) (QoN (qj rfl ?_ ?_))))
    ·
     intro hc49;simp only[vU,vW]at hc49;have e:=rightR_3 (n:=n) hc9 hc49;refine QwR (qq hS (qa (o':=1) vO rfl vF rfl rfl rfl) (qq hS (qd 0 vV rfl rfl rfl) (qq hS (g_eql rfl rfl) (qq hS (Qmb rfl) (qu rfl rfl hS (fun hg=>(qa (o':=4) vO rfl xj rfl rfl rfl)) ?_)))));intro u55 hu55 hn55;refine qu rfl rfl hS (fun hg=>(qd 0 ub rfl (hu55 hg) rfl)) ?_;intro u56 hu56 hn56;refine qu rfl rfl hS (fun hg=>(qo rfl vH hd (hu56 hg))) ?_;intro u57 hu57 hn57;refine qu rfl rfl hS (fun hg=>(g_eql (hu57 hg) rfl)) ?_;intro u58 hu58 hn58;refine qq hS (g_and rfl rfl (fun hq=>hu58 hq)) (qq hS (Qab rfl) (QoN (vM (uJ (xF (ret1 Qh (qh (v:=.bool _) rfl) ?_))))));rw[e]; exact⟨rfl,hS.nil⟩
    ·
     intro hc49;simp only[vU,vW]at hc49;refine QwR (qq hS (g_eql rfl rfl) (qq hS (Qab rfl) (QoN (qj rfl ?_ ?_))))
     ·
      intro hc60;simp only[vU,vW]at hc60;have e:=rightR_4 (n:=n) hc9 hc60;refine QwR (qq hS (qa (o':=1) vO rfl vF rfl rfl rfl) (qq hS (qd 0 vV rfl rfl rfl) (qq hS (g_eql rfl rfl) (qq hS (Qmb rfl) (qu rfl rfl hS (fun hg=>(qa (o':=3) vO rfl xd rfl rfl rfl)) ?_)))));intro u66 hu66 hn66;refine qu rfl rfl hS (fun hg=>(qd 0 xR rfl (hu66 hg) rfl)) ?_;intro u67 hu67 hn67;refine qu rfl rfl hS (fun hg=>(g_eql (hu67 hg) rfl)) ?_;intro u68 hu68 hn68;refine qq hS (g_and rfl rfl (fun hq=>hu68 hq)) (qq hS (Qmb rfl) (qu rfl rfl hS (fun hg=>(qa (o':=4) vO rfl xj rfl rfl rfl)) ?_));intro u71 hu71 hn71;refine qu rfl rfl hS (fun hg=>(qd 0 ub rfl (hu71 hg) rfl)) ?_;intro u72 hu72 hn72;refine qu rfl rfl hS (fun hg=>(qo rfl vH hd (hu72 hg))) ?_;intro u73 hu73 hn73;refine qu rfl rfl hS (fun hg=>(qa (o':=2) vO rfl vF rfl rfl rfl)) ?_;intro u74 hu74 hn74;refine qu rfl rfl hS (fun hg=>(qd 0 vV rfl (hu74 hg) rfl)) ?_;intro u75 hu75 hn75;refine qu rfl rfl hS (fun hg=>(g_eql (hu73 hg) (hu75 hg))) ?_;intro u76 hu76 hn76;refine qq hS (g_and rfl rfl (fun hq=>hu76 hq)) (qq hS (Qab rfl) (QoN (vM (uJ (xF (ret1 Qh (qh (v:=.bool _) rfl) ?_))))));rw[e]; exact⟨rfl,hS.nil⟩
     ·
      intro hc60;simp only[vU,vW]at hc60;have e:=rightR_o (n:=n) hc19 hc33 hc49 hc60;refine vL (xO (vK (QwR (qq hS (Qab rfl) (QoN (vM (ret1 Qh (qh (v:=.bool _) rfl) ?_)))))));rw[e]; exact⟨rfl,hS.nil⟩
set_option maxHeartbeats 1000000 in
theorem checkR_c (p : PatL) (ad : Option Addr) (m cap : Nat) (w0 : World) (I0 : Imm) (hI : Sat I0 w0) (hops : ROps I0 (.slice ad m cap) p.ops) (hp : p.wf) :
 Ctr prog 36 [.agg #[.bool p.lifted,.int .i64 p.in_,.int .i64 p.out,.slice ad m cap]] w0 (fun v w'=>v = .tuple #[.int .i64 (checkR p).1,.int .i64 (checkR p).2]∧Ext w0 I0 w' I0):=by
 refine fn (n:=70) func36 rfl rfl rfl ?_;have hS:=St.start hI;refine QwR (qe (d_box (cs:=[.bool _,.int .i64 _,.int .i64 _,.slice _ _ _]) hS rfl) ?_);clear hS;rintro _ w_1⟨b1,rfl,hS⟩;refine qq hS (Qai rfl) (qq hS (Qai rfl) (QoN (vD (QwR (qq hS (qa (o':=1) vT rfl vF rfl rfl rfl) (qq hS (qd 0 vV rfl rfl rfl) (qe (qg call82 rfl (in_c _ _ _ _ I0 hS.imm)) ?_)))))));rintro _ w_2⟨rfl,hE⟩;replace hS:=hS.callE hE;refine qq hS (g_not rfl) (qq hS (Qmb rfl) (qu rfl rfl hS (fun hg=>(qa (o':=2) vT rfl vF rfl rfl rfl)) ?_));intro u11 hu11 hn11;refine qu rfl rfl hS (fun hg=>(qd 0 vV rfl (hu11 hg) rfl)) ?_;intro u12 hu12 hn12;refine cvu rfl rfl hS (fun hg=>(qg call82 (ml (hu12 hg) (ml rfl (ml rfl ml0))) (in_c _ _ _ _ I0 hS.imm))) ?_;intro w_4 u13 hS hu13 hn13;refine qu rfl rfl hS (fun hg=>(g_not (hu13 hg))) ?_;intro u14 hu14 hn14;refine qq hS (g_or rfl rfl (fun hq=>hu14 hq)) (qq hS (Qmb rfl) (qu rfl rfl hS (fun hg=>(qa (o':=3) vT rfl xD rfl rfl rfl)) ?_));intro u17 hu17 hn17;refine qu rfl rfl hS (fun hg=>(qd 0 um rfl (hu17 hg) rfl)) ?_;intro u18 hu18 hn18;refine qu rfl rfl hS (fun hg=>(qo rfl xz hops (hu18 hg))) ?_;intro u19 hu19 hn19;refine qu rfl rfl hS (fun hg=>(g_gtr (hu19 hg) rfl)) ?_;intro u20 hu20 hn20;refine qq hS (g_or rfl rfl (fun hq=>hu20 hq)) (QoN (qj rfl ?_ ?_))
 ·
  intro hc21;clear hu11 hn11 hu12 hn12 hu13 hn13 hu14 hn14 hu17 hn17 hu18 hn18 hu19 hn19 hu20 hn20;have e:checkR p=(-1,60):=by unfold checkR; rw[vJ]; exact hc21
  refine QwR (qq hS (Qai rfl) (qq hS (Qai rfl) (QoN (vM (xF (ret2 results36 (qh (v:=.int .i64 _) rfl) (qh (v:=.int .i64 _) rfl) ?_))))));rw[e]; exact⟨rfl,hS.nil⟩
 ·
  intro hc21;clear hu11 hn11 hu12 hn12 hu13 hn13 hu14 hn14 hu17 hn17 hu18 hn18 hu19 hn19 hu20 hn20;have e0:checkR p=checkRGo p.in_ p.out p.ops 0 0:=by unfold checkR; rw[vG]; rw[Bool.not_eq_true]; exact hc21
  have hb:=hc21;simp only[ue,uz,inS,xf,vU,vW]at hb;obtain⟨⟨⟨hb1,hb2⟩,hb3,hb4⟩,hb5⟩:=hb;refine vL (vK (QwR (qq hS (Qai rfl) (QoN (vD (QwR (qq hS (Qai rfl) (QoN (vS (loop (fun(x:Nat×Int) σ w=>okS σ [(1,.pointer (some ⟨b1,0,none⟩)),(4,.int .i64 x.2),(5,.int .i64 x.1)]∧St [] w0 I0 I0 w [.cel b1 26 [.bool p.lifted,.int .i64 p.in_,.int .i64 p.out,.slice ad m cap]]∧x.1≤p.ops.length∧0≤x.2∧x.2≤65536∧checkRGo p.in_ p.out (p.ops.drop x.1) x.2 x.1=checkRGo p.in_ p.out p.ops 0 0) (fun x=>p.ops.length - x.1) ((0,0)) ?_ ?_))))))))))
  ·
   exact⟨⟨rfl,rfl,rfl,trivial⟩,hS.sel [true],by simp,by decide,by decide,rfl⟩
  ·
   rintro⟨k,s⟩σ w_l⟨hs,hS,hk0,hl0,hl1,hgo⟩;dsimp only at hs hS hk0 hl0 hl1 hgo ⊢;rw[← qk hs]; clear hs
   have hml:=RSl.le hops;simp only[maxLen]at hml;refine vD (QwR (qq hS (Qmi rfl) (qq hS (qa (o':=3) vT rfl xD rfl rfl rfl) (qq hS (qd 0 um rfl rfl rfl) (qq hS (qo rfl xz hops rfl) (qq hS (g_lss rfl rfl) (QoN (qj rfl ?_ ?_))))))))
   ·
    intro hc26
    try simp only[zA,zO,zN,zI,zF,zM,zT,zU]at hc26
    obtain⟨x,hx⟩:∃x,p.ops[k]? = some x:=⟨_,vC (by omega)⟩
    have hxm:=vI hx;obtain⟨cs,hcl,hoA,hro⟩:=RSl.at hops hx;obtain⟨adx,mx,capx,rfl,hd⟩:=hro;have hxw:=hp.ops x hxm;obtain⟨lx1,lx2⟩:=hxw.len;rw[jT hx]at hgo;refine vL (vK (vD (vS (vD (vD (draw (.cons 0 .pure (.cons 1 .held (.cons 2 .pure (.cons 3 .pure (.cons 4 .held (.cons 5 .pure (.cons 6 .held (.cons 7 .eff (.cons 8 .pure (.cons 9 .pure (.cons 10 .pure (.cons 11 .pure (.cons 12 .held (.cons 13 .pure (.cons 14 .pure (.cons 15 .pure (.cons 16 .held (.cons 17 .pure (.cons 18 .pure (.cons 19 .held (.cons 20 .pure (.cons 21 .pure .nil)))))))))))))))))))))) mixed (by kernel_rfl) hS ?_))))));intro w_5 hS;refine sp rfl (qa (o':=3) vT rfl xD rfl rfl rfl) (sh rfl (qd 0 um rfl rfl rfl) (sp rfl (Qmi rfl) (sp rfl (g_ixI xz xb hops rfl rfl (by omega) (by omega)) (sh rfl (g_ldE (us:=[.int .i64 _,.int .i64 _,.int .i64 _,.int .u8 _,.slice _ _ _]) xb xJ hoA rfl rfl rfl) (sp rfl (qa (o':=1) vT rfl vF rfl rfl rfl) ?_)))));refine sh rfl (qd 0 vV rfl rfl rfl) ?_;have hS0:=hS;refine se rfl (qg call83 rfl (rightOp_c x adx mx capx p.in_ _ I0 hS.imm hd hxw hp.in_)) ?_;rintro _ w_6⟨rfl,hE⟩;replace hS:=hS.call hE;refine⟨_,_,hS0.le hE.ext (xK _),hS,sp rfl (g_not rfl) (sp rfl (Qmb rfl) (spu rfl rfl rfl (fun hg=>(Qmi rfl)) ?_))⟩;intro u39 hu39 hn39;refine spu rfl rfl rfl (fun hg=>(qa (o':=3) vT rfl xD rfl rfl rfl)) ?_;intro u40 hu40 hn40;refine shu rfl rfl rfl (fun hg=>(qd 0 um rfl (hu40 hg) rfl)) ?_;intro u41 hu41 hn41;refine spu rfl rfl rfl (fun hg=>(Qmi rfl)) ?_;intro u42 hu42 hn42;refine spu rfl rfl rfl (fun hg=>(g_ixI xz xb hops (hu41 hg) (hu42 hg) (by omega) (by omega))) ?_
    intro u43 hu43 hn43;refine spu rfl rfl rfl (fun hg=>(qw (c':=2) vO rfl vF rfl (hu43 hg) rfl)) ?_;intro u44 hu44 hn44;refine shu rfl rfl rfl (fun hg=>(qJ vV hoA (hu44 hg) rfl)) ?_;intro u45 hu45 hn45;refine spu rfl rfl rfl (fun hg=>(g_add (hu39 hg) (hu45 hg) (by omega) (by omega))) ?_;intro u46 hu46 hn46;refine spu rfl rfl rfl (fun hg=>(qa (o':=2) vT rfl vF rfl rfl rfl)) ?_;intro u47 hu47 hn47;refine shu rfl rfl rfl (fun hg=>(qd 0 vV rfl (hu47 hg) rfl)) ?_;intro u48 hu48 hn48;refine spu rfl rfl rfl (fun hg=>(g_gtr (hu46 hg) (hu48 hg))) ?_;intro u49 hu49 hn49;refine sp rfl (g_or rfl rfl (fun hq=>hu49 hq)) (sn (vK (qj rfl ?_ ?_)))
    ·
     intro hc50;clear hu39 hn39 hu40 hn40 hu41 hn41 hu42 hn42 hu43 hn43 hu44 hn44 hu45 hn45 hu46 hn46 hu47 hn47 hu48 hn48 hu49 hn49;have e:checkR p=(↑k,60):=by rw[e0,← hgo,checkRGo_bad hc50]
     refine QwR (qq hS (Qmi rfl) (qq hS (Qai rfl) (qq hS (Qai rfl) (QoN (vM (xF (uJ (xF (xF (uJ (xF (ret2 results36 (qh (v:=.int .i64 _) rfl) (qh (v:=.int .i64 _) rfl) ?_))))))))))));rw[e]; exact⟨rfl,hS.nil⟩
    ·
     intro hc50;clear hu39 hn39 hu40 hn40 hu41 hn41 hu42 hn42 hu43 hn43 hu44 hn44 hu45 hn45 hu46 hn46 hu47 hn47 hu48 hn48 hu49 hn49;rw[checkRGo_good hc50]at hgo;simp only[ue,vW,uz]at hc50;have hxl:=rightR_len hc50.1;have hxo:=hc50.2;refine vL (vK (reg (qq hS (Qmi rfl) (qq hS (qa (o':=3) vT rfl xD rfl rfl rfl) (qq hS (qd 0 um rfl rfl rfl) (qq hS (Qmi rfl) (qq hS (g_ixI xz xb hops rfl rfl (by omega) (by omega)) (qq hS (qw (c':=2) vO rfl vF rfl rfl rfl) (qq hS (qJ vV hoA rfl rfl) (qq hS (g_add rfl rfl (by omega) (by omega)) ?_))))))))));refine qq hS (Qai rfl) (qB (xO (vK (reg (qq hS (Qmi rfl) (qq hS (g_add rfl rfl (by omega) (by omega)) (qq hS (Qai rfl) ?_)))))));exact⟨(k+1,s+x.len),_,rfl,⟨⟨rfl,rfl,rfl,trivial⟩,hS.sel [true],by dsimp only; omega,by dsimp only; omega,by dsimp only; omega,hgo⟩,by dsimp only; omega⟩
   ·
    intro hc26
    try simp only[zA,zO,zN,zI,zF,zM,zT,zU]at hc26
    have hk:k=p.ops.length:=by omega
    subst hk;rw[List.drop_length]at hgo;refine xm (xh (xh (ua (vK (vD (QwR (qq hS (Qmi rfl) (qq hS (qa (o':=2) vT rfl vF rfl rfl rfl) (qq hS (qd 0 vV rfl rfl rfl) (qq hS (g_neq rfl rfl) (QoN (qj rfl ?_ ?_))))))))))))
    ·
     intro hc63;simp only[uu,uz,vU,vW]at hc63;have e:checkR p=(↑p.ops.length,60):=by rw[e0,← hgo,checkRGo,vG hc63]
     refine QwR (qq hS (qa (o':=3) vT rfl xD rfl rfl rfl) (qq hS (qd 0 um rfl rfl rfl) (qq hS (qo rfl xz hops rfl) (qq hS (Qai rfl) (qq hS (Qai rfl) (QoN (vM (xF (ret2 results36 (qh (v:=.int .i64 _) rfl) (qh (v:=.int .i64 _) rfl) ?_)))))))));rw[e]; exact⟨rfl,hS.nil⟩
    ·
     intro hc63;simp only[uu,uz,vU,vW]at hc63;have e:checkR p=(↑p.ops.length,0):=by rw[e0,← hgo,checkRGo,vJ hc63]
     refine vL (vK (QwR (qq hS (qa (o':=3) vT rfl xD rfl rfl rfl) (qq hS (qd 0 um rfl rfl rfl) (qq hS (qo rfl xz hops rfl) (qq hS (Qai rfl) (qq hS (Qai rfl) (QoN (vM (ret2 results36 (qh (v:=.int .i64 _) rfl) (qh (v:=.int .i64 _) rfl) ?_))))))))));rw[e]; exact⟨rfl,hS.nil⟩
theorem rightP_c (p : PatL) (ad : Option Addr) (m cap : Nat) (w0 : World) (I0 : Imm) (hI : Sat I0 w0) (hops : ROps I0 (.slice ad m cap) p.ops) (hp : p.wf) :
 Ctr prog 12 [.agg #[.bool p.lifted,.int .i64 p.in_,.int .i64 p.out,.slice ad m cap]] w0 (fun v w'=>v = .bool (decide ((checkR p).2=0))∧Ext w0 I0 w' I0):=by
 refine fn (n:=12) func12 rfl rfl rfl ?_;have hS:=St.start hI;refine QwR (qe (d_box (cs:=[.bool _,.int .i64 _,.int .i64 _,.slice _ _ _]) hS rfl) ?_);clear hS;rintro _ w_1⟨b_1,rfl,hS⟩;refine qq hS (Qab rfl) (QoR (qq hS (g_ldO 0 (vs:=[.bool _,.int .i64 _,.int .i64 _,.slice _ _ _]) vZ xy rfl rfl rfl rfl) (qe (qg call36 rfl (checkR_c p ad m cap _ I0 hS.imm hops hp)) ?_)));rintro _ w_2⟨rfl,hE⟩;replace hS:=hS.callE hE;refine qq hS (qb _) (qq hS (Qxi rfl rfl) (qq hS (Qxi rfl rfl) (qq hS (Qai rfl) (qq hS (Qai rfl) (QoR (qq hS (Qmi rfl) (qq hS (g_eql rfl rfl) (qq hS (Qab rfl) (QoN (vM (ret1 results12 (qh (v:=.bool _) rfl) ?_)))))))))));exact⟨rfl,hS.nil⟩
end Go.Proofs.YtgkgihnpjgbmhaaGreatDoor
namespace Go.Proofs.YtgkgihnpjgbmhaaGreatDoor
open Tryz
open Go Go.RowKit Go.Inl
end Go.Proofs.YtgkgihnpjgbmhaaGreatDoor
namespace Go.Proofs.YtgkgihnpjgbmhaaGreatDoor
open Tryz
open Go Go.RowKit Go.Inl
def _root_.Go.Inl.Sym.fit (s:Sym)(size:Int):Prop:=(s.old=true→0≤s.at_∧s.at_ < size)∧(s.old=false→s.at_=0)∧0≤s.b∧s.b≤2
end Go.Proofs.YtgkgihnpjgbmhaaGreatDoor
