/- The functions of package inlayref06 that look at patches: what they compute. Conditions: numbers within bounds. inlayref06.Symbols: what it computes. Conditions: numbers within bounds. The functions of package inlayref06 that make patches and symbols of descriptions: what they compute. Conditions: numbers within bounds. -/
import Derived.Test.YtcajgkfgjpfmaaaGreatKSmall
import Derived.Test.YtcajgkfgjpfmaaaGreatKCore2
set_option linter.unusedSimpArgs false
set_option linter.unusedVariables false
namespace Go.Proofs.YtcajgkfgjpfmaaaGreat
open Tryz
open Go Go.RowKit Go.Inl
def sameOps (a b:List OpL)(k:Nat):Bool:=((a.zip b).drop k).all fun p=>sameOpS p.1 p.2
def samePR (a b:PatL):Bool:=a.lifted == b.lifted && decide (a.in_=b.in_) && decide (a.out=b.out) && decide (a.ops.length=b.ops.length) && sameOps a.ops b.ops 0
theorem sameOps_step {a b:List OpL}{k:Nat}{x y:OpL}(hx:a[k]? = some x)(hy:b[k]? = some y):sameOps a b k=(sameOpS x y && sameOps a b (k+1)):=by
 have h:(a.zip b)[k]? = some (x,y):=List.getElem?_zip_eq_some.2 ⟨hx,hy⟩;unfold sameOps;rw[jz h]; rfl
theorem sameOps_end {a b:List OpL}{k:Nat}(h:a.length≤k):sameOps a b k=true:=by
 unfold sameOps;rw[QI (by rw[List.length_zip]; omega)]; rfl
theorem checkRGo_bad {n out s i:Int}{x:OpL}{r:List OpL}(h:(!rightR x n || decide (out < s+x.len))=true):checkRGo n out (x::r) s i=(i,60):=by
 simp only[checkRGo,h,if_true]
theorem checkRGo_good {n out s i:Int}{x:OpL}{r:List OpL}(h:(!rightR x n || decide (out < s+x.len))=false):checkRGo n out (x::r) s i=checkRGo n out r (s+x.len) (i+1):=by
 simp[checkRGo,h]
theorem xw {x:OpL}{n:Int}(h:rightR x n=true):1≤x.len∧x.len≤65536:=by
 unfold rightR inS at h;rw[xU]at h;have:=h.1;simp only[xU,xO]at this;exact this
theorem rightR_f {x:OpL}{n:Int}(h:inS x.len 1 65536=false):rightR x n=false:=by unfold rightR; rw[h]; rfl
theorem rightR_1 {x:OpL}{n:Int}(h:inS x.len 1 65536=true)(k:x.kind=1):rightR x n=(inS x.from_ 0 (n - x.len) && decide (x.b=0) && decide ((x.data.length:Int)=0)):=by
 unfold rightR; rw[h,ui k]; rfl
theorem rightR_2 {x:OpL}{n:Int}(h:inS x.len 1 65536=true)(k:x.kind=2):rightR x n=(inS x.from_ 0 (n - x.len) && decide (x.b=0) && decide ((x.data.length:Int)=x.len)):=by
 unfold rightR; rw[h,ud (by omega),ui k]; rfl
theorem rightR_3 {x:OpL}{n:Int}(h:inS x.len 1 65536=true)(k:x.kind=3):rightR x n=(decide (x.from_=0) && decide ((x.data.length:Int)=0)):=by
 unfold rightR; rw[h,ud (by omega),ud (by omega),ui k]; rfl
theorem rightR_4 {x:OpL}{n:Int}(h:inS x.len 1 65536=true)(k:x.kind=4):rightR x n=(decide (x.from_=0) && decide (x.b=0) && decide ((x.data.length:Int)=x.len)):=by
 unfold rightR; rw[h,ud (by omega),ud (by omega),ud (by omega),ui k]; rfl
theorem rightR_o {x:OpL}{n:Int}(k1:¬x.kind=1)(k2:¬x.kind=2)(k3:¬x.kind=3)(k4:¬x.kind=4):rightR x n=false:=by
 unfold rightR; rw[ud k1,ud k2,ud k3,ud k4,Bool.and_false]
theorem in_c (n lo hi:Int)(w0:World)(I0:Imm)(hI:Sat I0 w0):Ctr prog 88 [.int .i64 n,.int .i64 lo,.int .i64 hi] w0 (fun v w'=>v = .bool (inS n lo hi)∧Ext w0 I0 w' I0):=by
 refine fn (n:=15) func88 rfl rfl rfl ?_;have hS:=St.start hI;refine QwR (qq hS (Qab rfl) (QoR (qq hS (Qmi rfl) (qq hS (Qmi rfl) (qq hS (g_geq rfl rfl) (qq hS (Qmb rfl) (qu rfl rfl hS (fun hg=>(Qmi rfl)) ?_)))))));intro u11 hu11 hn11;refine qu rfl rfl hS (fun hg=>(Qmi rfl)) ?_;intro u12 hu12 hn12;refine qu rfl rfl hS (fun hg=>(g_leq (hu11 hg) (hu12 hg))) ?_;intro u13 hu13 hn13;refine qq hS (g_and rfl rfl (fun hq=>hu13 hq)) (qq hS (Qab rfl) (QoN (ub (ret1 results88 (qr (v:=.bool _) rfl) ?_))));exact⟨rfl,hS.nil⟩
theorem rightOp_c (x : OpL) (ad : Option Addr) (m cap : Nat) (n : Int) (w0 : World) (I0 : Imm) (hI : Sat I0 w0) (hd : RBytes I0 (.slice ad m cap) x.data) (hx : x.wf) (hn : Mid n) :
 Ctr prog 126 [opV x ad m cap,.int .i64 n] w0 (fun v w'=>v = .bool (rightR x n)∧Ext w0 I0 w' I0):=by
 obtain⟨⟨k1,k2⟩,⟨f1,f2⟩,⟨l1,l2⟩,⟨b1,b2⟩,hdat⟩:=hx;obtain⟨n1,n2⟩:=hn;refine fn (n:=78) func126 rfl rfl rfl ?_;have hS:=St.start hI;refine QwR (qe (d_box (cs:=[.int .i64 _,.int .i64 _,.int .i64 _,.int .u8 _,.slice _ _ _]) hS rfl) ?_);clear hS;rintro _ w_1⟨b_1,rfl,hS⟩;refine qq hS (Qab rfl) (QoN (xL (QwR (qq hS (qb (o':=2) uE rfl xX rfl rfl rfl) (qq hS (qi 0 uj rfl rfl rfl) (qe (ql call88 rfl (in_c _ _ _ _ I0 hS.imm)) ?_))))));rintro _ w_2⟨rfl,hE⟩;replace hS:=hS.callE hE;refine qq hS (g_not rfl) (QoN (qo rfl ?_ ?_))
 ·
  intro hc9;simp only[xT,xS]at hc9;have e:=rightR_f (n:=n) hc9;refine QwR (qq hS (Qab rfl) (QoN (ub (uw (ret1 KF (qr (v:=.bool _) rfl) ?_)))));rw[e]; exact⟨rfl,hS.nil⟩
 ·
  intro hc9;simp only[xT,xS]at hc9;refine xZ (xN (QwR (qq hS (qb (o':=1) uE rfl xX rfl rfl rfl) (qq hS (qi 0 uj rfl rfl rfl) (qq hS (Qmi rfl) (qq hS (qb (o':=2) uE rfl xX rfl rfl rfl) (qq hS (qi 0 uj rfl rfl rfl) (qq hS (g_sub rfl rfl (by omega) (by omega)) (qe (ql call88 rfl (in_c _ _ _ _ I0 hS.imm)) ?_)))))))));rintro _ w_3⟨rfl,hE⟩;replace hS:=hS.callE hE;refine qq hS (Qab rfl) (QoN (xL (QwR (qq hS (qb (o':=0) uE rfl xX rfl rfl rfl) (qq hS (qi 0 uj rfl rfl rfl) (QoN (uk (QwR (qq hS (g_eql rfl rfl) (qq hS (Qab rfl) (QoN (qo rfl ?_ ?_))))))))))))
  ·
   intro hc19;simp only[xO,xM]at hc19;have e:=rightR_1 (n:=n) hc9 hc19;refine QwR (qq hS (Qmb rfl) (qq hS (Qmb rfl) (qu rfl rfl hS (fun hg=>(qb (o':=3) uE rfl uJ rfl rfl rfl)) ?_)));intro u23 hu23 hn23;refine qu rfl rfl hS (fun hg=>(qi 0 Qp rfl (hu23 hg) rfl)) ?_;intro u24 hu24 hn24;refine qu rfl rfl hS (fun hg=>(g_eql (hu24 hg) rfl)) ?_;intro u25 hu25 hn25;refine qq hS (g_and rfl rfl (fun hq=>hu25 hq)) (qq hS (Qmb rfl) (qu rfl rfl hS (fun hg=>(qb (o':=4) uE rfl Jf rfl rfl rfl)) ?_));intro u28 hu28 hn28;refine qu rfl rfl hS (fun hg=>(qi 0 JM rfl (hu28 hg) rfl)) ?_;intro u29 hu29 hn29;refine qu rfl rfl hS (fun hg=>(qz rfl uU hd (hu29 hg))) ?_;intro u30 hu30 hn30;refine qu rfl rfl hS (fun hg=>(g_eql (hu30 hg) rfl)) ?_;intro u31 hu31 hn31;refine qq hS (g_and rfl rfl (fun hq=>hu31 hq)) (qq hS (Qab rfl) (QoN (ub (Qs (uw (ret1 KF (qr (v:=.bool _) rfl) ?_))))));rw[e]; exact⟨rfl,hS.nil⟩
  ·
   intro hc19;simp only[xO,xM]at hc19;refine QwR (qq hS (g_eql rfl rfl) (qq hS (Qab rfl) (QoN (qo rfl ?_ ?_))))
   ·
    intro hc33;simp only[xO,xM]at hc33;have e:=rightR_2 (n:=n) hc9 hc33;refine QwR (qq hS (Qmb rfl) (qq hS (Qmb rfl) (qu rfl rfl hS (fun hg=>(qb (o':=3) uE rfl uJ rfl rfl rfl)) ?_)));intro u37 hu37 hn37;refine qu rfl rfl hS (fun hg=>(qi 0 Qp rfl (hu37 hg) rfl)) ?_;intro u38 hu38 hn38;refine qu rfl rfl hS (fun hg=>(g_eql (hu38 hg) rfl)) ?_;intro u39 hu39 hn39;refine qq hS (g_and rfl rfl (fun hq=>hu39 hq)) (qq hS (Qmb rfl) (qu rfl rfl hS (fun hg=>(qb (o':=4) uE rfl Jf rfl rfl rfl)) ?_));intro u42 hu42 hn42;refine qu rfl rfl hS (fun hg=>(qi 0 JM rfl (hu42 hg) rfl)) ?_;intro u43 hu43 hn43;refine qu rfl rfl hS (fun hg=>(qz rfl uU hd (hu43 hg))) ?_;intro u44 hu44 hn44;refine qu rfl rfl hS (fun hg=>(qb (o':=2) uE rfl xX rfl rfl rfl)) ?_;intro u45 hu45 hn45;refine qu rfl rfl hS (fun hg=>(qi 0 uj rfl (hu45 hg) rfl)) ?_;intro u46 hu46 hn46;refine qu rfl rfl hS (fun hg=>(g_eql (hu44 hg) (hu46 hg))) ?_;intro u47 hu47 hn47;refine qq hS (g_and rfl rfl (fun hq=>hu47 hq)) (qq hS (Qab rfl) (QoN (ub (Qs (uw (ret1 KF (qr (v:=.bool _) rfl) ?_))))));rw[e]; exact⟨rfl,hS.nil⟩
   ·
    intro hc33;simp only[xO,xM]at hc33;refine QwR (qq hS (g_eql rfl rfl) (qq hS (Qab rfl) (QoN (qo rfl ?_ ?_))))
    ·
     intro hc49;simp only[xO,xM]at hc49;have e:=rightR_3 (n:=n) hc9 hc49;refine QwR (qq hS (qb (o':=1) uE rfl xX rfl rfl rfl) (qq hS (qi 0 uj rfl rfl rfl) (qq hS (g_eql rfl rfl) (qq hS (Qmb rfl) (qu rfl rfl hS (fun hg=>(qb (o':=4) uE rfl Jf rfl rfl rfl)) ?_)))));intro u55 hu55 hn55;refine qu rfl rfl hS (fun hg=>(qi 0 JM rfl (hu55 hg) rfl)) ?_;intro u56 hu56 hn56;refine qu rfl rfl hS (fun hg=>(qz rfl uU hd (hu56 hg))) ?_;intro u57 hu57 hn57;refine qu rfl rfl hS (fun hg=>(g_eql (hu57 hg) rfl)) ?_;intro u58 hu58 hn58;refine qq hS (g_and rfl rfl (fun hq=>hu58 hq)) (qq hS (Qab rfl) (QoN (ub (Qs (uw (ret1 KF (qr (v:=.bool _) rfl) ?_))))));rw[e]; exact⟨rfl,hS.nil⟩
    ·
     intro hc49;simp only[xO,xM]at hc49;refine QwR (qq hS (g_eql rfl rfl) (qq hS (Qab rfl) (QoN (qo rfl ?_ ?_))))
     ·
      intro hc60;simp only[xO,xM]at hc60;have e:=rightR_4 (n:=n) hc9 hc60;refine QwR (qq hS (qb (o':=1) uE rfl xX rfl rfl rfl) (qq hS (qi 0 uj rfl rfl rfl) (qq hS (g_eql rfl rfl) (qq hS (Qmb rfl) (qu rfl rfl hS (fun hg=>(qb (o':=3) uE rfl uJ rfl rfl rfl)) ?_)))));intro u66 hu66 hn66;refine qu rfl rfl hS (fun hg=>(qi 0 Qp rfl (hu66 hg) rfl)) ?_;intro u67 hu67 hn67;refine qu rfl rfl hS (fun hg=>(g_eql (hu67 hg) rfl)) ?_;intro u68 hu68 hn68;refine qq hS (g_and rfl rfl (fun hq=>hu68 hq)) (qq hS (Qmb rfl) (qu rfl rfl hS (fun hg=>(qb (o':=4) uE rfl Jf rfl rfl rfl)) ?_));intro u71 hu71 hn71;refine qu rfl rfl hS (fun hg=>(qi 0 JM rfl (hu71 hg) rfl)) ?_;intro u72 hu72 hn72;refine qu rfl rfl hS (fun hg=>(qz rfl uU hd (hu72 hg))) ?_;intro u73 hu73 hn73;refine qu rfl rfl hS (fun hg=>(qb (o':=2) uE rfl xX rfl rfl rfl)) ?_;intro u74 hu74 hn74;refine qu rfl rfl hS (fun hg=>(qi 0 uj rfl (hu74 hg) rfl)) ?_;intro u75 hu75 hn75;refine qu rfl rfl hS (fun hg=>(g_eql (hu73 hg) (hu75 hg))) ?_;intro u76 hu76 hn76;refine qq hS (g_and rfl rfl (fun hq=>hu76 hq)) (qq hS (Qab rfl) (QoN (ub (Qs (uw (ret1 KF (qr (v:=.bool _) rfl) ?_))))));rw[e]; exact⟨rfl,hS.nil⟩
     ·
      intro hc60;simp only[xO,xM]at hc60;have e:=rightR_o (n:=n) hc19 hc33 hc49 hc60;refine xZ (Qh (xN (QwR (qq hS (Qab rfl) (QoN (ub (ret1 KF (qr (v:=.bool _) rfl) ?_)))))));rw[e]; exact⟨rfl,hS.nil⟩
set_option maxHeartbeats 1000000 in
theorem checkR_c (p : PatL) (ad : Option Addr) (m cap : Nat) (w0 : World) (I0 : Imm) (hI : Sat I0 w0) (hops : ROps I0 (.slice ad m cap) p.ops) (hp : p.wf) :
 Ctr prog 95 [.agg #[.bool p.lifted,.int .i64 p.in_,.int .i64 p.out,.slice ad m cap]] w0 (fun v w'=>v = .tuple #[.int .i64 (checkR p).1,.int .i64 (checkR p).2]∧Ext w0 I0 w' I0):=by
 refine fn (n:=70) func95 rfl rfl rfl ?_;have hS:=St.start hI;refine QwR (qe (d_box (cs:=[.bool _,.int .i64 _,.int .i64 _,.slice _ _ _]) hS rfl) ?_);clear hS;rintro _ w_1⟨b1,rfl,hS⟩;refine qq hS (Qai rfl) (qq hS (Qai rfl) (QoN (xL (QwR (qq hS (qb (o':=1) uu rfl xX rfl rfl rfl) (qq hS (qi 0 uj rfl rfl rfl) (qe (ql call88 rfl (in_c _ _ _ _ I0 hS.imm)) ?_)))))));rintro _ w_2⟨rfl,hE⟩;replace hS:=hS.callE hE;refine qq hS (g_not rfl) (qq hS (Qmb rfl) (qu rfl rfl hS (fun hg=>(qb (o':=2) uu rfl xX rfl rfl rfl)) ?_));intro u11 hu11 hn11;refine qu rfl rfl hS (fun hg=>(qi 0 uj rfl (hu11 hg) rfl)) ?_;intro u12 hu12 hn12;refine cvu rfl rfl hS (fun hg=>(ql call88 (ml (hu12 hg) (ml rfl (ml rfl ml0))) (in_c _ _ _ _ I0 hS.imm))) ?_;intro w_4 u13 hS hu13 hn13;refine qu rfl rfl hS (fun hg=>(g_not (hu13 hg))) ?_;intro u14 hu14 hn14;refine qq hS (g_or rfl rfl (fun hq=>hu14 hq)) (qq hS (Qmb rfl) (qu rfl rfl hS (fun hg=>(qb (o':=3) uu rfl Qt rfl rfl rfl)) ?_));intro u17 hu17 hn17;refine qu rfl rfl hS (fun hg=>(qi 0 JA rfl (hu17 hg) rfl)) ?_;intro u18 hu18 hn18;refine qu rfl rfl hS (fun hg=>(qz rfl QC hops (hu18 hg))) ?_;intro u19 hu19 hn19;refine qu rfl rfl hS (fun hg=>(g_gtr (hu19 hg) rfl)) ?_;intro u20 hu20 hn20;refine qq hS (g_or rfl rfl (fun hq=>hu20 hq)) (QoN (qo rfl ?_ ?_))
 ·
  intro hc21;clear hu11 hn11 hu12 hn12 hu13 hn13 hu14 hn14 hu17 hn17 hu18 hn18 hu19 hn19 hu20 hn20;have e:checkR p=(-1,60):=by unfold checkR; rw[ui]; exact hc21
  refine QwR (qq hS (Qai rfl) (qq hS (Qai rfl) (QoN (ub (uw (ret2 results95 (qr (v:=.int .i64 _) rfl) (qr (v:=.int .i64 _) rfl) ?_))))));rw[e]; exact⟨rfl,hS.nil⟩
 ·
  intro hc21;clear hu11 hn11 hu12 hn12 hu13 hn13 hu14 hn14 hu17 hn17 hu18 hn18 hu19 hn19 hu20 hn20;have e0:checkR p=checkRGo p.in_ p.out p.ops 0 0:=by unfold checkR; rw[ud]; rw[Bool.not_eq_true]; exact hc21
  have hb:=hc21;simp only[xR,xS,inS,xU,xO,xM]at hb;obtain⟨⟨⟨hb1,hb2⟩,hb3,hb4⟩,hb5⟩:=hb;refine xZ (xN (QwR (qq hS (Qai rfl) (QoN (xL (QwR (qq hS (Qai rfl) (QoN (uk (loop (fun(x:Nat×Int) σ w=>okS σ [(1,.pointer (some ⟨b1,0,none⟩)),(4,.int .i64 x.2),(5,.int .i64 x.1)]∧St [] w0 I0 I0 w [.cel b1 46 [.bool p.lifted,.int .i64 p.in_,.int .i64 p.out,.slice ad m cap]]∧x.1≤p.ops.length∧0≤x.2∧x.2≤65536∧checkRGo p.in_ p.out (p.ops.drop x.1) x.2 x.1=checkRGo p.in_ p.out p.ops 0 0) (fun x=>p.ops.length - x.1) ((0,0)) ?_ ?_))))))))))
  ·
   exact⟨⟨rfl,rfl,rfl,trivial⟩,hS.sel [true],by simp,by decide,by decide,rfl⟩
  ·
   rintro⟨k,s⟩σ w_l⟨hs,hS,hk0,hl0,hl1,hgo⟩;dsimp only at hs hS hk0 hl0 hl1 hgo ⊢;rw[← qx hs]; clear hs
   have hml:=RSl.le hops;simp only[maxLen]at hml;refine xL (QwR (qq hS (Qmi rfl) (qq hS (qb (o':=3) uu rfl Qt rfl rfl rfl) (qq hS (qi 0 JA rfl rfl rfl) (qq hS (qz rfl QC hops rfl) (qq hS (g_lss rfl rfl) (QoN (qo rfl ?_ ?_))))))))
   ·
    intro hc26
    try simp only[zA,zO,zN,zI,zF,zM,zT,zU]at hc26
    obtain⟨x,hx⟩:∃x,p.ops[k]? = some x:=⟨_,xW (by omega)⟩
    have hxm:=uf hx;obtain⟨cs,hcl,hoA,hro⟩:=RSl.at hops hx;obtain⟨adx,mx,capx,rfl,hd⟩:=hro;have hxw:=hp.ops x hxm;obtain⟨lx1,lx2⟩:=hxw.len;rw[jz hx]at hgo;refine xZ (xN (xL (uk (xL (xL (draw (.cons 0 .pure (.cons 1 .held (.cons 2 .pure (.cons 3 .pure (.cons 4 .held (.cons 5 .pure (.cons 6 .held (.cons 7 .eff (.cons 8 .pure (.cons 9 .pure (.cons 10 .pure (.cons 11 .pure (.cons 12 .held (.cons 13 .pure (.cons 14 .pure (.cons 15 .pure (.cons 16 .held (.cons 17 .pure (.cons 18 .pure (.cons 19 .held (.cons 20 .pure (.cons 21 .pure .nil)))))))))))))))))))))) mixed (by kernel_rfl) hS ?_))))));intro w_5 hS;refine sp rfl (qb (o':=3) uu rfl Qt rfl rfl rfl) (sh rfl (qi 0 JA rfl rfl rfl) (sp rfl (Qmi rfl) (sp rfl (g_ixI QC QD hops rfl rfl (by omega) (by omega)) (sh rfl (g_ldE (us:=[.int .i64 _,.int .i64 _,.int .i64 _,.int .u8 _,.slice _ _ _]) QD JI hoA rfl rfl rfl) (sp rfl (qb (o':=1) uu rfl xX rfl rfl rfl) ?_)))));refine sh rfl (qi 0 uj rfl rfl rfl) ?_;have hS0:=hS;refine se rfl (ql call126 rfl (rightOp_c x adx mx capx p.in_ _ I0 hS.imm hd hxw hp.in_)) ?_;rintro _ w_6⟨rfl,hE⟩;replace hS:=hS.call hE;refine⟨_,_,hS0.le hE.ext (xY _),hS,sp rfl (g_not rfl) (sp rfl (Qmb rfl) (spu rfl rfl rfl (fun hg=>(Qmi rfl)) ?_))⟩;intro u39 hu39 hn39;refine spu rfl rfl rfl (fun hg=>(qb (o':=3) uu rfl Qt rfl rfl rfl)) ?_;intro u40 hu40 hn40;refine shu rfl rfl rfl (fun hg=>(qi 0 JA rfl (hu40 hg) rfl)) ?_;intro u41 hu41 hn41;refine spu rfl rfl rfl (fun hg=>(Qmi rfl)) ?_;intro u42 hu42 hn42;refine spu rfl rfl rfl (fun hg=>(g_ixI QC QD hops (hu41 hg) (hu42 hg) (by omega) (by omega))) ?_
    intro u43 hu43 hn43;refine spu rfl rfl rfl (fun hg=>(qF (c':=2) uE rfl xX rfl (hu43 hg) rfl)) ?_;intro u44 hu44 hn44;refine shu rfl rfl rfl (fun hg=>(qC uj hoA (hu44 hg) rfl)) ?_;intro u45 hu45 hn45;refine spu rfl rfl rfl (fun hg=>(g_add (hu39 hg) (hu45 hg) (by omega) (by omega))) ?_;intro u46 hu46 hn46;refine spu rfl rfl rfl (fun hg=>(qb (o':=2) uu rfl xX rfl rfl rfl)) ?_;intro u47 hu47 hn47;refine shu rfl rfl rfl (fun hg=>(qi 0 uj rfl (hu47 hg) rfl)) ?_;intro u48 hu48 hn48;refine spu rfl rfl rfl (fun hg=>(g_gtr (hu46 hg) (hu48 hg))) ?_;intro u49 hu49 hn49;refine sp rfl (g_or rfl rfl (fun hq=>hu49 hq)) (sn (xN (qo rfl ?_ ?_)))
    ·
     intro hc50;clear hu39 hn39 hu40 hn40 hu41 hn41 hu42 hn42 hu43 hn43 hu44 hn44 hu45 hn45 hu46 hn46 hu47 hn47 hu48 hn48 hu49 hn49;have e:checkR p=(↑k,60):=by rw[e0,← hgo,checkRGo_bad hc50]
     refine QwR (qq hS (Qmi rfl) (qq hS (Qai rfl) (qq hS (Qai rfl) (QoN (ub (uw (Qs (uw (uw (Qs (uw (ret2 results95 (qr (v:=.int .i64 _) rfl) (qr (v:=.int .i64 _) rfl) ?_))))))))))));rw[e]; exact⟨rfl,hS.nil⟩
    ·
     intro hc50;clear hu39 hn39 hu40 hn40 hu41 hn41 hu42 hn42 hu43 hn43 hu44 hn44 hu45 hn45 hu46 hn46 hu47 hn47 hu48 hn48 hu49 hn49;rw[checkRGo_good hc50]at hgo;simp only[xR,xM,xS]at hc50;have hxl:=xw hc50.1;have hxo:=hc50.2;refine xZ (xN (reg (qq hS (Qmi rfl) (qq hS (qb (o':=3) uu rfl Qt rfl rfl rfl) (qq hS (qi 0 JA rfl rfl rfl) (qq hS (Qmi rfl) (qq hS (g_ixI QC QD hops rfl rfl (by omega) (by omega)) (qq hS (qF (c':=2) uE rfl xX rfl rfl rfl) (qq hS (qC uj hoA rfl rfl) (qq hS (g_add rfl rfl (by omega) (by omega)) ?_))))))))));refine qq hS (Qai rfl) (qh (Qh (xN (reg (qq hS (Qmi rfl) (qq hS (g_add rfl rfl (by omega) (by omega)) (qq hS (Qai rfl) ?_)))))));exact⟨(k+1,s+x.len),_,rfl,⟨⟨rfl,rfl,rfl,trivial⟩,hS.sel [true],by dsimp only; omega,by dsimp only; omega,by dsimp only; omega,hgo⟩,by dsimp only; omega⟩
   ·
    intro hc26
    try simp only[zA,zO,zN,zI,zF,zM,zT,zU]at hc26
    have hk:k=p.ops.length:=by omega
    subst hk;rw[List.drop_length]at hgo;refine uD (uA (uA (Qw (xN (xL (QwR (qq hS (Qmi rfl) (qq hS (qb (o':=2) uu rfl xX rfl rfl rfl) (qq hS (qi 0 uj rfl rfl rfl) (qq hS (g_neq rfl rfl) (QoN (qo rfl ?_ ?_))))))))))))
    ·
     intro hc63;simp only[xT,xS,xO,xM]at hc63;have e:checkR p=(↑p.ops.length,60):=by rw[e0,← hgo,checkRGo,ud hc63]
     refine QwR (qq hS (qb (o':=3) uu rfl Qt rfl rfl rfl) (qq hS (qi 0 JA rfl rfl rfl) (qq hS (qz rfl QC hops rfl) (qq hS (Qai rfl) (qq hS (Qai rfl) (QoN (ub (uw (ret2 results95 (qr (v:=.int .i64 _) rfl) (qr (v:=.int .i64 _) rfl) ?_)))))))));rw[e]; exact⟨rfl,hS.nil⟩
    ·
     intro hc63;simp only[xT,xS,xO,xM]at hc63;have e:checkR p=(↑p.ops.length,0):=by rw[e0,← hgo,checkRGo,ui hc63]
     refine xZ (xN (QwR (qq hS (qb (o':=3) uu rfl Qt rfl rfl rfl) (qq hS (qi 0 JA rfl rfl rfl) (qq hS (qz rfl QC hops rfl) (qq hS (Qai rfl) (qq hS (Qai rfl) (QoN (ub (ret2 results95 (qr (v:=.int .i64 _) rfl) (qr (v:=.int .i64 _) rfl) ?_))))))))));rw[e]; exact⟨rfl,hS.nil⟩
theorem ya (p : PatL) (ad : Option Addr) (m cap : Nat) (w0 : World) (I0 : Imm) (hI : Sat I0 w0) (hops : ROps I0 (.slice ad m cap) p.ops) (hp : p.wf) :
 Ctr prog 64 [.agg #[.bool p.lifted,.int .i64 p.in_,.int .i64 p.out,.slice ad m cap]] w0 (fun v w'=>v = .bool (decide ((checkR p).2=0))∧Ext w0 I0 w' I0):=by
 refine fn (n:=12) func64 rfl rfl rfl ?_;have hS:=St.start hI;refine QwR (qe (d_box (cs:=[.bool _,.int .i64 _,.int .i64 _,.slice _ _ _]) hS rfl) ?_);clear hS;rintro _ w_1⟨b_1,rfl,hS⟩;refine qq hS (Qab rfl) (QoR (qq hS (g_ldO 0 (vs:=[.bool _,.int .i64 _,.int .i64 _,.slice _ _ _]) ul uO rfl rfl rfl rfl) (qe (ql call95 rfl (checkR_c p ad m cap _ I0 hS.imm hops hp)) ?_)));rintro _ w_2⟨rfl,hE⟩;replace hS:=hS.callE hE;refine qq hS (qk _) (qq hS (Qxi rfl rfl) (qq hS (Qxi rfl rfl) (qq hS (Qai rfl) (qq hS (Qai rfl) (QoR (qq hS (Qmi rfl) (qq hS (g_eql rfl rfl) (qq hS (Qab rfl) (QoN (ub (ret1 results64 (qr (v:=.bool _) rfl) ?_)))))))))));exact⟨rfl,hS.nil⟩
theorem rightSym_c (s : Sym) (n : Int) (w0 : World) (I0 : Imm) (hI : Sat I0 w0) (hn : Mid n) :
 Ctr prog 89 [symV s,.int .i64 n] w0 (fun v w'=>v = .bool (rightSymR s n)∧Ext w0 I0 w' I0):=by
 obtain⟨n1,n2⟩:=hn;refine fn (n:=15) func89 rfl rfl rfl ?_;have hS:=St.start hI;refine QwR (qe (d_box (cs:=[.bool _,.int .i64 _,.int .u8 _]) hS rfl) ?_);clear hS;rintro _ w_1⟨b_1,rfl,hS⟩;refine qq hS (Qab rfl) (QoN (xL (QwR (qq hS (qb (o':=0) uB rfl uC rfl rfl rfl) (qq hS (qi 0 QG rfl rfl rfl) (QoN (qo rfl ?_ ?_)))))))
 ·
  intro hc6;have e:rightSymR s n=inS s.at_ 0 (n - 1):=by unfold rightSymR; rw[ui hc6]
  refine QwR (qq hS (qb (o':=1) uB rfl xX rfl rfl rfl) (qq hS (qi 0 uj rfl rfl rfl) (qq hS (Qmi rfl) (qq hS (g_sub rfl rfl (by omega) (by omega)) (qe (ql call88 rfl (in_c _ _ _ _ I0 hS.imm)) ?_)))));rintro _ w_2⟨rfl,hE⟩;replace hS:=hS.callE hE;refine qq hS (Qab rfl) (QoN (ub (uw (ret1 results89 (qr (v:=.bool _) rfl) ?_))));rw[e]; exact⟨rfl,hS.nil⟩
 ·
  intro hc6;have e:rightSymR s n=decide (s.at_=0):=by unfold rightSymR; rw[hc6]; rfl
  refine xZ (xN (QwR (qq hS (qb (o':=1) uB rfl xX rfl rfl rfl) (qq hS (qi 0 uj rfl rfl rfl) (qq hS (g_eql rfl rfl) (qq hS (Qab rfl) (QoN (ub (ret1 results89 (qr (v:=.bool _) rfl) ?_)))))))));rw[e]; exact⟨rfl,hS.nil⟩
set_option maxHeartbeats 1000000 in
theorem sameOp_c (x y : OpL) (ad bd : Option Addr) (m cap mb capb : Nat) (w0 : World) (I0 : Imm) (hI : Sat I0 w0) (hd : RBytes I0 (.slice ad m cap) x.data) (hx : ∀ z ∈ x.data, 0 ≤ z ∧ z ≤ 255) (he : RBytes I0 (.slice bd mb capb) y.data) (hy : ∀ z ∈ y.data, 0 ≤ z ∧ z ≤ 255) :
 Ctr prog 83 [opV x ad m cap,opV y bd mb capb] w0 (fun v w'=>v = .bool (sameOpS x y)∧Ext w0 I0 w' I0):=by
 refine fn (n:=40) func83 rfl rfl rfl ?_;have hS:=St.start hI;refine QwR (qe (d_box (cs:=[.int .i64 _,.int .i64 _,.int .i64 _,.int .u8 _,.slice _ _ _]) hS rfl) ?_);clear hS;rintro _ w_1⟨b_1,rfl,hS⟩;refine qe (d_box (cs:=[.int .i64 _,.int .i64 _,.int .i64 _,.int .u8 _,.slice _ _ _]) hS rfl) ?_;clear hS;rintro _ w_2⟨b_2,rfl,hS⟩;refine qq hS (Qab rfl) (QoR (qq hS (qb (o':=0) uE rfl xX rfl rfl rfl) (qq hS (qi 1 uj rfl rfl rfl) (qq hS (qb (o':=0) uE rfl xX rfl rfl rfl) (qq hS (qi 0 uj rfl rfl rfl) (qq hS (g_eql rfl rfl) (qq hS (Qmb rfl) (qu rfl rfl hS (fun hg=>(qb (o':=1) uE rfl xX rfl rfl rfl)) ?_))))))));intro u11 hu11 hn11;refine qu rfl rfl hS (fun hg=>(qi 1 uj rfl (hu11 hg) rfl)) ?_;intro u12 hu12 hn12;refine qu rfl rfl hS (fun hg=>(qb (o':=1) uE rfl xX rfl rfl rfl)) ?_;intro u13 hu13 hn13;refine qu rfl rfl hS (fun hg=>(qi 0 uj rfl (hu13 hg) rfl)) ?_;intro u14 hu14 hn14;refine qu rfl rfl hS (fun hg=>(g_eql (hu12 hg) (hu14 hg))) ?_;intro u15 hu15 hn15;refine qq hS (g_and rfl rfl (fun hq=>hu15 hq)) (qq hS (Qmb rfl) (qu rfl rfl hS (fun hg=>(qb (o':=2) uE rfl xX rfl rfl rfl)) ?_));intro u18 hu18 hn18;refine qu rfl rfl hS (fun hg=>(qi 1 uj rfl (hu18 hg) rfl)) ?_;intro u19 hu19 hn19;refine qu rfl rfl hS (fun hg=>(qb (o':=2) uE rfl xX rfl rfl rfl)) ?_;intro u20 hu20 hn20;refine qu rfl rfl hS (fun hg=>(qi 0 uj rfl (hu20 hg) rfl)) ?_;intro u21 hu21 hn21;refine qu rfl rfl hS (fun hg=>(g_eql (hu19 hg) (hu21 hg))) ?_;intro u22 hu22 hn22;refine qq hS (g_and rfl rfl (fun hq=>hu22 hq)) (qq hS (Qmb rfl) (qu rfl rfl hS (fun hg=>(qb (o':=3) uE rfl uJ rfl rfl rfl)) ?_))
 intro u25 hu25 hn25;refine qu rfl rfl hS (fun hg=>(qi 1 Qp rfl (hu25 hg) rfl)) ?_;intro u26 hu26 hn26;refine qu rfl rfl hS (fun hg=>(qb (o':=3) uE rfl uJ rfl rfl rfl)) ?_;intro u27 hu27 hn27;refine qu rfl rfl hS (fun hg=>(qi 0 Qp rfl (hu27 hg) rfl)) ?_;intro u28 hu28 hn28;refine qu rfl rfl hS (fun hg=>(g_eql (hu26 hg) (hu28 hg))) ?_;intro u29 hu29 hn29;refine qq hS (g_and rfl rfl (fun hq=>hu29 hq)) (qq hS (Qmb rfl) (qu rfl rfl hS (fun hg=>(qb (o':=4) uE rfl Jf rfl rfl rfl)) ?_));intro u32 hu32 hn32;refine qu rfl rfl hS (fun hg=>(qi 1 JM rfl (hu32 hg) rfl)) ?_;intro u33 hu33 hn33;refine qu rfl rfl hS (fun hg=>(g_strI uU Qx underlying9 hd (hu33 hg))) ?_;intro u34 hu34 hn34;refine qu rfl rfl hS (fun hg=>(qb (o':=4) uE rfl Jf rfl rfl rfl)) ?_;intro u35 hu35 hn35;refine qu rfl rfl hS (fun hg=>(qi 0 JM rfl (hu35 hg) rfl)) ?_;intro u36 hu36 hn36;refine qu rfl rfl hS (fun hg=>(g_strI uU Qx underlying9 he (hu36 hg))) ?_;intro u37 hu37 hn37;refine qu rfl rfl hS (fun hg=>(g_eqlB hx hy (hu34 hg) (hu37 hg))) ?_;intro u38 hu38 hn38;refine qq hS (g_and rfl rfl (fun hq=>hu38 hq)) (qq hS (Qab rfl) (QoN (ub (ret1 results83 (qr (v:=.bool _) rfl) ?_))));exact⟨rfl,hS.nil⟩
set_option maxHeartbeats 1000000 in
theorem sameR_c (p q : PatL) (ad bd : Option Addr) (m cap mb capb : Nat) (w0 : World) (I0 : Imm) (hI : Sat I0 w0) (hops : ROps I0 (.slice ad m cap) p.ops) (hp : ∀ x ∈ p.ops, ∀ z ∈ x.data, 0 ≤ z ∧ z ≤ 255) (hoq : ROps I0 (.slice bd mb capb) q.ops) (hq : ∀ x ∈ q.ops, ∀ z ∈ x.data, 0 ≤ z ∧ z ≤ 255) :
 Ctr prog 52 [.agg #[.bool p.lifted,.int .i64 p.in_,.int .i64 p.out,.slice ad m cap],.agg #[.bool q.lifted,.int .i64 q.in_,.int .i64 q.out,.slice bd mb capb]] w0 (fun v w'=>v = .bool (samePR p q)∧Ext w0 I0 w' I0):=by
 have hml:=RSl.le hops;simp only[maxLen]at hml;refine fn (n:=53) func52 rfl rfl rfl ?_;have hS:=St.start hI;refine QwR (qe (d_box (cs:=[.bool _,.int .i64 _,.int .i64 _,.slice _ _ _]) hS rfl) ?_);clear hS;rintro _ w_1⟨b2,rfl,hS⟩;refine qe (d_box (cs:=[.bool _,.int .i64 _,.int .i64 _,.slice _ _ _]) hS rfl) ?_;clear hS;rintro _ w_2⟨b3,rfl,hS⟩;refine qq hS (Qab rfl) (QoN (xL (QwR (qq hS (qb (o':=0) uu rfl uC rfl rfl rfl) (qq hS (qi 1 QG rfl rfl rfl) (qq hS (qb (o':=0) uu rfl uC rfl rfl rfl) (qq hS (qi 0 QG rfl rfl rfl) (qq hS (xD JE rfl rfl) (qq hS (Qmb rfl) (qu rfl rfl hS (fun hg=>(qb (o':=1) uu rfl xX rfl rfl rfl)) ?_))))))))));intro u12 hu12 hn12;refine qu rfl rfl hS (fun hg=>(qi 1 uj rfl (hu12 hg) rfl)) ?_;intro u13 hu13 hn13;refine qu rfl rfl hS (fun hg=>(qb (o':=1) uu rfl xX rfl rfl rfl)) ?_;intro u14 hu14 hn14;refine qu rfl rfl hS (fun hg=>(qi 0 uj rfl (hu14 hg) rfl)) ?_;intro u15 hu15 hn15;refine qu rfl rfl hS (fun hg=>(g_neq (hu13 hg) (hu15 hg))) ?_;intro u16 hu16 hn16;refine qq hS (g_or rfl rfl (fun hq=>hu16 hq)) (qq hS (Qmb rfl) (qu rfl rfl hS (fun hg=>(qb (o':=2) uu rfl xX rfl rfl rfl)) ?_));intro u19 hu19 hn19;refine qu rfl rfl hS (fun hg=>(qi 1 uj rfl (hu19 hg) rfl)) ?_;intro u20 hu20 hn20;refine qu rfl rfl hS (fun hg=>(qb (o':=2) uu rfl xX rfl rfl rfl)) ?_;intro u21 hu21 hn21;refine qu rfl rfl hS (fun hg=>(qi 0 uj rfl (hu21 hg) rfl)) ?_;intro u22 hu22 hn22;refine qu rfl rfl hS (fun hg=>(g_neq (hu20 hg) (hu22 hg))) ?_;intro u23 hu23 hn23;refine qq hS (g_or rfl rfl (fun hq=>hu23 hq)) (qq hS (Qmb rfl) (qu rfl rfl hS (fun hg=>(qb (o':=3) uu rfl Qt rfl rfl rfl)) ?_))
 intro u26 hu26 hn26;refine qu rfl rfl hS (fun hg=>(qi 1 JA rfl (hu26 hg) rfl)) ?_;intro u27 hu27 hn27;refine qu rfl rfl hS (fun hg=>(qz rfl QC hops (hu27 hg))) ?_;intro u28 hu28 hn28;refine qu rfl rfl hS (fun hg=>(qb (o':=3) uu rfl Qt rfl rfl rfl)) ?_;intro u29 hu29 hn29;refine qu rfl rfl hS (fun hg=>(qi 0 JA rfl (hu29 hg) rfl)) ?_;intro u30 hu30 hn30;refine qu rfl rfl hS (fun hg=>(qz rfl QC hoq (hu30 hg))) ?_;intro u31 hu31 hn31;refine qu rfl rfl hS (fun hg=>(g_neq (hu28 hg) (hu31 hg))) ?_;intro u32 hu32 hn32;refine qq hS (g_or rfl rfl (fun hq=>hu32 hq)) (QoN (qo rfl ?_ ?_))
 ·
  intro hc33;clear hu12 hn12 hu13 hn13 hu14 hn14 hu15 hn15 hu16 hn16 hu19 hn19 hu20 hn20 hu21 hn21 hu22 hn22 hu23 hn23 hu26 hn26 hu27 hn27 hu28 hn28 hu29 hn29 hu30 hn30 hu31 hn31 hu32 hn32;have e:samePR p q=false:=by
   unfold samePR;cases h1:(p.lifted == q.lifted && decide (p.in_=q.in_) && decide (p.out=q.out) && decide (p.ops.length=q.ops.length))
   · rfl
   · exfalso
     simp only[xU,beq_iff_eq,xO]at h1;simp[h1]at hc33
  refine QwR (qq hS (Qab rfl) (QoN (ub (uw (ret1 results52 (qr (v:=.bool _) rfl) ?_)))));rw[e]; exact⟨rfl,hS.nil⟩
 ·
  intro hc33;clear hu12 hn12 hu13 hn13 hu14 hn14 hu15 hn15 hu16 hn16 hu19 hn19 hu20 hn20 hu21 hn21 hu22 hn22 hu23 hn23 hu26 hn26 hu27 hn27 hu28 hn28 hu29 hn29 hu30 hn30 hu31 hn31 hu32 hn32;have hall:p.lifted=q.lifted∧p.in_=q.in_∧p.out=q.out∧p.ops.length=q.ops.length:=by
   simp at hc33; exact⟨hc33.1.1.1,hc33.1.1.2,hc33.1.2,by omega⟩
  obtain⟨h1,h2,h3,h4⟩:=hall;have e0:samePR p q=sameOps p.ops q.ops 0:=by unfold samePR; simp[h1,h2,h3,h4]
  refine xZ (xN (xL (QwR (qq hS (Qai rfl) (QoN (uk (loop (fun(k:Nat) σ w=>okS σ [(2,.pointer (some ⟨b2,0,none⟩)),(3,.pointer (some ⟨b3,0,none⟩)),(5,.int .i64 k)]∧St [] w0 I0 I0 w [.cel b2 46 [.bool p.lifted,.int .i64 p.in_,.int .i64 p.out,.slice ad m cap],.cel b3 46 [.bool q.lifted,.int .i64 q.in_,.int .i64 q.out,.slice bd mb capb]]∧k≤p.ops.length∧sameOps p.ops q.ops 0=sameOps p.ops q.ops k) (fun k=>p.ops.length - k) (0) ?_ ?_)))))))
  ·
   exact⟨⟨rfl,rfl,rfl,trivial⟩,(hS.perm (List.Perm.swap _ _ _)).sel [true,true],by simp,rfl⟩
  ·
   rintro k σ w_l⟨hs,hS,hk0,hgo⟩;rw[← qx hs]; clear hs
   refine xL (QwR (qq hS (Qmi rfl) (qq hS (qb (o':=3) uu rfl Qt rfl rfl rfl) (qq hS (qi 0 JA rfl rfl rfl) (qq hS (qz rfl QC hops rfl) (qq hS (g_lss rfl rfl) (QoN (qo rfl ?_ ?_))))))))
   ·
    intro hc38
    try simp only[zA,zO,zN,zI,zF,zM,zT,zU]at hc38
    obtain⟨x,hx⟩:∃x,p.ops[k]? = some x:=⟨_,xW (by omega)⟩
    have hxm:=uf hx;obtain⟨cs,hcl,hoA,hro⟩:=RSl.at hops hx;obtain⟨adx,mx,capx,rfl,hd⟩:=hro;obtain⟨y,hy⟩:∃y,q.ops[k]? = some y:=⟨_,xW (by omega)⟩
    have hym:=uf hy;obtain⟨cs',hcl',hoB,hro'⟩:=RSl.at hoq hy;obtain⟨ady,my,capy,rfl,he⟩:=hro';refine xZ (xN (xL (uk (xL (draw (.cons 0 .pure (.cons 1 .held (.cons 2 .pure (.cons 3 .pure (.cons 4 .held (.cons 5 .pure (.cons 6 .held (.cons 7 .pure (.cons 8 .pure (.cons 9 .held (.cons 10 .eff (.cons 11 .pure .nil)))))))))))) mixed (by kernel_rfl) hS ?_)))));intro w_3 hS;refine sp rfl (qb (o':=3) uu rfl Qt rfl rfl rfl) (sh rfl (qi 0 JA rfl rfl rfl) (sp rfl (Qmi rfl) (sp rfl (g_ixI QC QD hops rfl rfl (by omega) (by omega)) (sh rfl (g_ldE (us:=[.int .i64 _,.int .i64 _,.int .i64 _,.int .u8 _,.slice _ _ _]) QD JI hoA rfl rfl rfl) (sp rfl (qb (o':=3) uu rfl Qt rfl rfl rfl) ?_)))));refine sh rfl (qi 1 JA rfl rfl rfl) (sp rfl (Qmi rfl) (sp rfl (g_ixI QC QD hoq rfl rfl (by omega) (by omega)) (sh rfl (g_ldE (us:=[.int .i64 _,.int .i64 _,.int .i64 _,.int .u8 _,.slice _ _ _]) QD JI hoB rfl rfl rfl) ?_)));have hS0:=hS;refine se rfl (ql call83 rfl (sameOp_c x y adx ady mx capx my capy _ I0 hS.imm hd (hp x hxm) he (hq y hym))) ?_;rintro _ w_4⟨rfl,hE⟩;replace hS:=hS.call hE;refine⟨_,_,hS0.le hE.ext (xY _),hS,sp rfl (g_not rfl) (sn (xN (qo rfl ?_ ?_)))⟩
    ·
     intro hc52;simp only[xT,xS]at hc52;have e:samePR p q=false:=by rw[e0,hgo,sameOps_step hx hy,hc52]; rfl
     refine QwR (qq hS (Qab rfl) (QoN (ub (Qs (uw (uw (Qs (uw (ret1 results52 (qr (v:=.bool _) rfl) ?_)))))))));rw[e]; exact⟨rfl,hS.nil⟩
    ·
     intro hc52;simp only[xT,xS]at hc52;refine xZ (Qh (xN (reg (qq hS (Qmi rfl) (qq hS (g_add rfl rfl (by omega) (by omega)) (qq hS (Qai rfl) ?_))))));exact⟨k+1,_,rfl,⟨⟨rfl,rfl,rfl,trivial⟩,hS.sel [true,true],by omega,by rw[hgo,sameOps_step hx hy,hc52]; rfl⟩,by omega⟩
   ·
    intro hc38
    try simp only[zA,zO,zN,zI,zF,zM,zT,zU]at hc38
    have e:samePR p q=true:=by rw[e0,hgo,sameOps_end (by omega)]
    refine uD (uA (uA (Qw (xN (QwR (qq hS (Qab rfl) (QoN (ub (ret1 results52 (qr (v:=.bool _) rfl) ?_)))))))));rw[e]; exact⟨rfl,hS.nil⟩
end Go.Proofs.YtcajgkfgjpfmaaaGreat
namespace Go.Proofs.YtcajgkfgjpfmaaaGreat
open Tryz
open Go Go.RowKit Go.Inl
theorem symS_1 {x:OpL}{i:Int}(k:x.kind=1):symS x i=⟨true,x.from_+i,0⟩:=by unfold symS; rw[ui k]
theorem symS_2 {x:OpL}{i:Int}(k:x.kind=2):symS x i=⟨true,x.from_+i,x.data.getD i.toNat 0⟩:=by unfold symS; rw[ud (by omega),ui k]
theorem symS_3 {x:OpL}{i:Int}(k:x.kind=3):symS x i=⟨false,0,x.b⟩:=by unfold symS; rw[ud (by omega),ud (by omega),ui k]
theorem symS_4 {x:OpL}{i:Int}(k:x.kind=4):symS x i=⟨false,0,x.data.getD i.toNat 0⟩:=by unfold symS; rw[ud (by omega),ud (by omega),ud (by omega),ui k]
theorem checkRGo_ok {n out : Int} : ∀ (l : List OpL) (s i : Int), (checkRGo n out l s i).2 = 0 → (∀ x ∈ l, rightR x n = true) ∧ s + ((symsOf l).length : Int) = out
 | [],s,i,h=>by
   unfold checkRGo at h;split at h
   · exact⟨by simp,by simp[symsOf]; assumption⟩
   · simp at h
 | x::l,s,i,h=>by
   by_cases hb:(!rightR x n || decide (out < s+x.len))=true
   · rw[checkRGo_bad hb]at h; simp at h
   · have hb' : (!rightR x n || decide (out < s + x.len)) = false := by simpa using hb
     rw[checkRGo_good hb']at h;simp only[xR,xM,xS]at hb';obtain⟨h4,h5⟩:=checkRGo_ok l _ _ h;have hl:=xw hb'.1;refine⟨fun y hy=>?_,?_⟩
     · rcases uq.1 hy with rfl | hy
       · exact hb'.1
       · exact h4 y hy
     · rw[ja,ug,qR]; omega
theorem checkR_ok {p:PatL}(h:(checkR p).2=0):(∀x∈p.ops,rightR x p.in_=true)∧((symsOf p.ops).length:Int)=p.out∧0≤p.in_∧p.in_≤65536∧0≤p.out∧p.out≤65536∧p.ops.length≤4096:=by
 unfold checkR at h;split at h
 · simp at h
 · rename_i hb
   simp only[inS,xV,xT,Bool.and_eq_false_iff,xO,xM,not_or]at hb;obtain⟨h5,h6⟩:=checkRGo_ok _ _ _ h;exact⟨h5,by omega,by omega,by omega,by omega,by omega,by omega⟩
theorem rightR_kind {x:OpL}{n:Int}(h:rightR x n=true):x.kind=1∨(x.kind=2∧(x.data.length:Int)=x.len)∨x.kind=3∨(x.kind=4∧(x.data.length:Int)=x.len):=by
 by_cases k1:x.kind=1
 · exact .inl k1
 by_cases k3:x.kind=3
 · exact .inr (.inr (.inl k3))
 have hl:inS x.len 1 65536=true:=by unfold rightR at h; rw[xU]at h; exact h.1
 by_cases k2:x.kind=2
 · rw[rightR_2 hl k2]at h; simp only[xU,xO]at h; exact .inr (.inl ⟨k2,h.2⟩)
 by_cases k4:x.kind=4
 · rw[rightR_4 hl k4]at h; simp only[xU,xO]at h; exact .inr (.inr (.inr ⟨k4,h.2⟩))
 rw[rightR_o k1 k2 k3 k4]at h; cases h
theorem symbolR_c (x : OpL) (ad : Option Addr) (m cap : Nat) (n : Int) (w0 : World) (I0 : Imm) (hI : Sat I0 w0) (hd : RBytes I0 (.slice ad m cap) x.data) (hx : x.wf) (hk : x.kind = 1 ∨ (x.kind = 2 ∧ (x.data.length : Int) = x.len) ∨ x.kind = 3 ∨ (x.kind = 4 ∧ (x.data.length : Int) = x.len)) (h0 : 0 ≤ n) (h1 : n < x.len) :
 Ctr prog 87 [opV x ad m cap,.int .i64 n] w0 (fun v w'=>v=symV (symS x n)∧Ext w0 I0 w' I0):=by
 obtain⟨⟨k1,k2⟩,⟨f1,f2⟩,⟨l1,l2⟩,⟨b1,b2⟩,hdat⟩:=hx;refine fn (n:=37) func87 rfl rfl rfl ?_;have hS:=St.start hI;refine QwR (qe (d_box (cs:=[.int .i64 _,.int .i64 _,.int .i64 _,.int .u8 _,.slice _ _ _]) hS rfl) ?_);clear hS;rintro _ w_1⟨b_1,rfl,hS⟩;refine qe (qw (cs:=[.bool _,.int .i64 _,.int .u8 _]) hS QM rfl) ?_;clear hS;rintro _ w_2⟨b_2,rfl,hS⟩;refine QoN (xL (QwR (qq hS (qb (o':=0) uE rfl xX rfl rfl rfl) (qq hS (qi 1 uj rfl rfl rfl) (QoN (uk (QwR (qq hS (g_eql rfl rfl) (qq hS (Qab rfl) (QoN (qo rfl ?_ ?_)))))))))))
 ·
  intro hc7;simp only[xO,xM]at hc7;have e:=symS_1 (i:=n) hc7;refine QwR (qq hS (qb (o':=1) uE rfl xX rfl rfl rfl) (qq hS (qi 1 uj rfl rfl rfl) (qq hS (Qmi rfl) (qq hS (g_add rfl rfl (by omega) (by omega)) (qq hS (qv (pl:=[(0,1),(1,1),(2,1)]) (cs:=[.bool _,.int .i64 _,.int .u8 _]) QM uB (fun w=>by simp[xX,uC,uJ]) (mp (v:=.bool _) rfl (mp (v:=.int .i64 _) rfl mp0)) rfl) ?_)))));refine qe (qj 0 hS uN rfl rfl rfl (vs:=[.bool _,.int .i64 _,.int .u8 _]) rfl rfl rfl (xP rfl) (cs':=[_,_,_]) rfl) ?_;clear hS;rintro _ w_3⟨rfl,hS⟩;refine QoN (ub (Qs (uw (ret1 results87 (qD 0 hS uN Jd rfl rfl rfl) ?_))));rw[e]; exact⟨rfl,hS.nil⟩
 ·
  intro hc7;simp only[xO,xM]at hc7;refine QwR (qq hS (g_eql rfl rfl) (qq hS (Qab rfl) (QoN (qo rfl ?_ ?_))))
  ·
   intro hc14;simp only[xO,xM]at hc14;obtain⟨y,hy⟩:∃y,x.data[n.toNat]? = some y:=⟨_,xW (by omega)⟩
   have hya:=hd.at hy;have hyd:x.data.getD n.toNat 0=y:=by rw[uh,hy]; rfl
   have e:=symS_2 (i:=n) hc14;rw[hyd]at e;refine xL (draw (.cons 0 .pure (.cons 1 .held (.cons 2 .pure (.cons 3 .pure (.cons 4 .pure (.cons 5 .held (.cons 6 .pure (.cons 7 .pure (.cons 8 .held (.cons 9 .pure (.cons 10 .bar .nil))))))))))) mixed (by kernel_rfl) hS ?_);intro w_4 hS;refine sp rfl (qb (o':=1) uE rfl xX rfl rfl rfl) (sh rfl (qi 1 uj rfl rfl rfl) (sp rfl (Qmi rfl) (sp rfl (g_add rfl rfl (by omega) (by omega)) (sp rfl (qb (o':=4) uE rfl Jf rfl rfl rfl) (sh rfl (qi 1 JM rfl rfl rfl) (sp rfl (Qmi rfl) (sp rfl (g_ixI uU uJ hd rfl rfl (by omega) (by omega)) (sh rfl (qC Qp hya rfl rfl) ?_))))))));refine sp rfl (qv (pl:=[(0,1),(1,1),(2,1)]) (cs:=[.bool _,.int .i64 _,.int .u8 _]) QM uB (fun w=>by simp[xX,uC,uJ]) (mp (v:=.bool _) rfl (mp (v:=.int .i64 _) rfl (mp (v:=.int .u8 _) rfl mp0))) rfl) (sb rfl (qj 0 hS uN rfl rfl rfl (vs:=[.bool _,.int .i64 _,.int .u8 _]) rfl rfl rfl (xP rfl) (cs':=[_,_,_]) rfl) ?_);rintro _ w_5⟨rfl,hS⟩;refine⟨_,_,hS,sn (xN (ub (Qs (uw (ret1 results87 (qD 0 hS uN Jd rfl rfl rfl) ?_)))))⟩;rw[e]; exact⟨rfl,hS.nil⟩
  ·
   intro hc14;simp only[xO,xM]at hc14;refine QwR (qq hS (g_eql rfl rfl) (qq hS (Qab rfl) (QoN (qo rfl ?_ ?_))))
   ·
    intro hc26;simp only[xO,xM]at hc26;have e:=symS_3 (i:=n) hc26;refine QwR (qq hS (qb (o':=3) uE rfl uJ rfl rfl rfl) (qq hS (qi 1 Qp rfl rfl rfl) (qq hS (qv (pl:=[(0,1),(1,1),(2,1)]) (cs:=[.bool _,.int .i64 _,.int .u8 _]) QM uB (fun w=>by simp[xX,uC,uJ]) (mp (v:=.int .u8 _) rfl mp0) rfl) (qe (qj 0 hS uN rfl rfl rfl (vs:=[.bool _,.int .i64 _,.int .u8 _]) rfl rfl rfl (xP rfl) (cs':=[_,_,_]) rfl) ?_))));clear hS;rintro _ w_6⟨rfl,hS⟩;refine QoN (ub (Qs (uw (ret1 results87 (qD 0 hS uN Jd rfl rfl rfl) ?_))));rw[e]; exact⟨rfl,hS.nil⟩
   ·
    intro hc26;simp only[xO,xM]at hc26;have hk4:x.kind=4:=by omega
    obtain⟨y,hy⟩:∃y,x.data[n.toNat]? = some y:=⟨_,xW (by omega)⟩
    have hya:=hd.at hy;have hyd:x.data.getD n.toNat 0=y:=by rw[uh,hy]; rfl
    have e:=symS_4 (i:=n) hk4;rw[hyd]at e;refine xZ (Qh (xN (QwR (qq hS (qb (o':=4) uE rfl Jf rfl rfl rfl) (qq hS (qi 1 JM rfl rfl rfl) (qq hS (Qmi rfl) (qq hS (g_ixI uU uJ hd rfl rfl (by omega) (by omega)) (qq hS (qC Qp hya rfl rfl) (qq hS (qv (pl:=[(0,1),(1,1),(2,1)]) (cs:=[.bool _,.int .i64 _,.int .u8 _]) QM uB (fun w=>by simp[xX,uC,uJ]) (mp (v:=.int .u8 _) rfl mp0) rfl) ?_)))))))));refine qe (qj 0 hS uN rfl rfl rfl (vs:=[.bool _,.int .i64 _,.int .u8 _]) rfl rfl rfl (xP rfl) (cs':=[_,_,_]) rfl) ?_;clear hS;rintro _ w_7⟨rfl,hS⟩;refine QoN (ub (ret1 results87 (qD 0 hS uN Jd rfl rfl rfl) ?_));rw[e]; exact⟨rfl,hS.nil⟩
set_option maxHeartbeats 1000000 in
theorem symbolsR_o (p : PatL) (ad : Option Addr) (m cap : Nat) (w0 : World) (I0 : Imm) (hI : Sat I0 w0) (hops : ROps I0 (.slice ad m cap) p.ops) (hp : p.wf) :
 Ctr prog 57 [.agg #[.bool p.lifted,.int .i64 p.in_,.int .i64 p.out,.slice ad m cap]] w0 (fun v w'=>∃a c,v = .tuple #[.slice a (symbolsR p).1.length c,.int .i64 (symbolsR p).2]∧St [] w0 I0 I0 w' [.row (.slice a (symbolsR p).1.length c) 122 3 (symbolsR p).1.length (flat symC (symbolsR p).1)]):=by
 refine fn (n:=39) func57 rfl rfl rfl ?_;have hS:=St.start hI;refine QwR (qe (d_box (cs:=[.bool _,.int .i64 _,.int .i64 _,.slice _ _ _]) hS rfl) ?_);clear hS;rintro _ w_1⟨b1,rfl,hS⟩;refine qq hS (qy _) (qq hS (Qai rfl) (QoN (xL (QwR (qq hS (g_ldO 0 (vs:=[.bool _,.int .i64 _,.int .i64 _,.slice _ _ _]) ul uO rfl rfl rfl rfl) (qe (ql call64 rfl (ya p ad m cap _ I0 hS.imm hops hp)) ?_))))));rintro _ w_2⟨rfl,hE⟩;replace hS:=hS.callE hE;refine qq hS (g_not rfl) (QoN (qo rfl ?_ ?_))
 ·
  intro hc9;simp only[xT,xS,xO,xM]at hc9;have e:symbolsR p=([],60):=by unfold symbolsR; rw[ud hc9]
  refine QwR (qq hS (qy _) (qq hS (Qai rfl) (QoN (ub (uw (ret2 results57 (qr rfl) (qr (v:=.int .i64 _) rfl) ?_))))));rw[e]; exact⟨none,0,rfl,(hS.sel [false]).nilRow _ _⟩
 ·
  intro hc9;simp only[xT,xS,xO,xM]at hc9;have e:symbolsR p=(symsOf p.ops,0):=by unfold symbolsR; rw[ui hc9]
  obtain⟨hk1,hk2,hk3,hk4,hk5,hk6,hk7⟩:=checkR_ok hc9;refine xZ (xN (QwR (qe (qN hS uG uN) ?_)));clear hS;rintro _ w_3⟨hS,b10_,rfl⟩;refine qq hS (qy _) (QoN (xL (QwR (qq hS (Qai rfl) (QoN (uk (loop (fun(x:Nat×Option Addr×Nat) σ w=>okS σ [(1,.pointer (some ⟨b1,0,none⟩)),(4,.slice x.2.1 (symsOf (p.ops.take x.1)).length x.2.2),(5,.int .i64 x.1)]∧St [] w0 I0 I0 w [.row (.slice x.2.1 (symsOf (p.ops.take x.1)).length x.2.2) 122 3 (symsOf (p.ops.take x.1)).length (flat symC (symsOf (p.ops.take x.1))),.cel b1 46 [.bool p.lifted,.int .i64 p.in_,.int .i64 p.out,.slice ad m cap]]∧x.1≤p.ops.length) (fun x=>p.ops.length - x.1) ((0,some ⟨b10_,0,none⟩,0)) ?_ ?_)))))))
  ·
   exact⟨⟨rfl,rfl,rfl,trivial⟩,hS.sel [true,true],by simp⟩
  ·
   rintro⟨k,a,c⟩σ w_l⟨hs,hS,hk0⟩;dsimp only at hs hS hk0 ⊢;rw[← qx hs]; clear hs
   refine xL (QwR (qq hS (Qmi rfl) (qq hS (qb (o':=3) uu rfl Qt rfl rfl rfl) (qq hS (qi 1 JA rfl rfl rfl) (qq hS (qz rfl QC hops rfl) (qq hS (g_lss rfl rfl) (QoN (qo rfl ?_ ?_))))))))
   ·
    intro hc15
    try simp only[zA,zO,zN,zI,zF,zM,zT,zU]at hc15
    obtain⟨x,hx⟩:∃x,p.ops[k]? = some x:=⟨_,xW (by omega)⟩
    have hxm:=uf hx;have hxw:=hp.ops x hxm;have hxr:=hk1 x hxm;have hxl:=xw hxr;have hxk:=rightR_kind hxr;obtain⟨cs,hcl,hoA,hro⟩:=RSl.at hops hx;obtain⟨adx,mx,capx,rfl,hd⟩:=hro;have hlx:=symsOf_take_le p.ops (k+1);have hly:=congrArg List.length (yg hx);rw[ug,uR,List.length_range]at hly;refine xZ (xN (xL (uk (QwR (qq hS (Qai rfl) (QoN (uk (loop (fun(x_:Nat×Option Addr×Nat) σ w=>okS σ [(1,.pointer (some ⟨b1,0,none⟩)),(4,.slice x_.2.1 (symsOf (p.ops.take k)++(List.range x_.1).map (fun(i:Nat)=>symS x (i:Int))).length x_.2.2),(5,.int .i64 k),(6,.int .i64 x_.1)]∧St [] w0 I0 I0 w [.row (.slice x_.2.1 (symsOf (p.ops.take k)++(List.range x_.1).map (fun(i:Nat)=>symS x (i:Int))).length x_.2.2) 122 3 (symsOf (p.ops.take k)++(List.range x_.1).map (fun(i:Nat)=>symS x (i:Int))).length (flat symC (symsOf (p.ops.take k)++(List.range x_.1).map (fun(i:Nat)=>symS x (i:Int)))),.cel b1 46 [.bool p.lifted,.int .i64 p.in_,.int .i64 p.out,.slice ad m cap]]∧(x_.1:Int)≤x.len) (fun x_=>x.len.toNat - x_.1) ((0,a,c)) ?_ ?_))))))))
    ·
     have h0:symsOf (p.ops.take k)++(List.range 0).map (fun(i:Nat)=>symS x (i:Int))=symsOf (p.ops.take k):=by simp
     refine⟨⟨rfl,by dsimp only; rw[h0]; rfl,rfl,rfl,trivial⟩,?_,by dsimp only; omega⟩;dsimp only;rw[h0];exact hS.sel [true,true]
    ·
     rintro⟨i,a,c⟩σ w_l⟨hs,hS,hi0⟩;dsimp only at hs hS hi0 ⊢;rw[← qx hs]; clear hs
     refine xL (QwR (qq hS (Qmi rfl) (qq hS (qb (o':=3) uu rfl Qt rfl rfl rfl) (qq hS (qi 1 JA rfl rfl rfl) (qq hS (Qmi rfl) (qq hS (g_ixI QC QD hops rfl rfl (by omega) (by omega)) (qq hS (qF (c':=2) uE rfl xX rfl rfl rfl) (qq hS (qC uj hoA rfl rfl) (qq hS (g_lss rfl rfl) (QoN (qo rfl ?_ ?_)))))))))))
     ·
      intro hc25
      try simp only[zA,zO,zN,zI,zF,zM,zT,zU]at hc25
      have hlz:(symsOf (p.ops.take k)++(List.range i).map (fun(i:Nat)=>symS x (i:Int))).length=(symsOf (p.ops.take k)).length+i:=by simp
      have hln:(symsOf (p.ops.take k)++(List.range (i+1)).map (fun(i:Nat)=>symS x (i:Int))).length=(symsOf (p.ops.take k)++(List.range i).map (fun(i:Nat)=>symS x (i:Int))).length+1:=by rw[yP,ug]; rfl
      refine xZ (xN (xL (uk (reg (qq hS (qk _) (qq hS (qb (o':=3) uu rfl Qt rfl rfl rfl) (qq hS (qi 1 JA rfl rfl rfl) (qq hS (Qmi rfl) (qq hS (g_ixI QC QD hops rfl rfl (by omega) (by omega)) (qq hS (g_ldE (us:=[.int .i64 _,.int .i64 _,.int .i64 _,.int .u8 _,.slice _ _ _]) QD JI hoA rfl rfl rfl) ?_))))))))));refine qq hS (Qmi rfl) (qe (ql call87 rfl (symbolR_c x adx mx capx i _ I0 hS.imm hd hxw hxk (by omega) (by omega))) ?_);rintro _ w_4⟨rfl,hE⟩;replace hS:=hS.callE hE;refine qe (d_lit (vs:=[.agg #[.bool _,.int .i64 _,.int .u8 _]]) (cs:=[.bool _,.int .i64 _,.int .u8 _]) hS uG uN QM rfl rfl rfl rfl (fun v hv=>by simp only[uq,ur,or_false]at hv; subst hv; rfl) rfl) ?_;clear hS;rintro _ w_5⟨b_5,rfl,hS⟩;refine qe (qE 1 0 hS rfl uG info122 rfl rfl rfl rfl rfl rfl rfl rfl (by omega) (by omega)) ?_;clear hS;rintro _ w_6⟨a37,p37,rfl,hS⟩;refine qq hS (qy _) (qh (Qh (xN (reg (qq hS (Qmi rfl) (qq hS (g_add rfl rfl (by omega) (by omega)) (qq hS (Qai rfl) ?_)))))));refine⟨(i+1,a37,p37),_,rfl,⟨⟨rfl,by dsimp only; rw[hln]; rfl,rfl,rfl,trivial⟩,?_,by dsimp only; omega⟩,by dsimp only; omega⟩;dsimp only;rw[hln,yP,qB,jg];exact hS.sel [false,true,true]
     ·
      intro hc25
      try simp only[zA,zO,zN,zI,zF,zM,zT,zU]at hc25
      have hi:i=x.len.toNat:=by omega
      subst hi;rw[yg hx]at hS ⊢;refine uD (uA (uA (Qw (Qh (xN (reg (qq hS (Qmi rfl) (qq hS (g_add rfl rfl (by omega) (by omega)) (qq hS (Qai rfl) ?_)))))))));exact⟨(k+1,a,c),_,rfl,⟨⟨rfl,rfl,rfl,trivial⟩,hS.sel [true,true],by dsimp only; omega⟩,by dsimp only; omega⟩
   ·
    intro hc15
    try simp only[zA,zO,zN,zI,zF,zM,zT,zU]at hc15
    have hk:k=p.ops.length:=by omega
    subst hk;rw[Qq]at hS ⊢;refine uD (uA (uA (Qw (xN (QwR (qq hS (qk _) (qq hS (qy _) (qq hS (Qai rfl) (QoN (ub (ret2 results57 (qr rfl) (qr (v:=.int .i64 _) rfl) ?_)))))))))));rw[e]; exact⟨a,c,rfl,hS.sel [true,false]⟩
end Go.Proofs.YtcajgkfgjpfmaaaGreat
namespace Go.Proofs.YtcajgkfgjpfmaaaGreat
open Tryz
open Go Go.RowKit Go.Inl
structure Q4 where
 a:Int
 b:Int
 c:Int
 d:Int
def q4C (q:Q4):List Value:=[.int .u8 q.a,.int .u8 q.b,.int .u8 q.c,.int .u8 q.d]
def q4V (q:Q4):Value:=.agg #[.int .u8 q.a,.int .u8 q.b,.int .u8 q.c,.int .u8 q.d]
def Q4.wf (q:Q4):Prop:=(0≤q.a∧q.a≤255)∧(0≤q.b∧q.b≤255)∧(0≤q.c∧q.c≤255)∧(0≤q.d∧q.d≤255)
def kindRaw (q:Q4)(size:Int):Int:=if 1+q.a % 4≤2∧size=0 then 4 else 1+q.a % 4
def fromRaw (q:Q4)(size:Int):Int:=if 1+q.a % 4≤2∧size≠0 then q.b % size else 0
def lenRaw (q:Q4)(size:Int):Int:=if 1+q.a % 4≤2∧size≠0 then 1+q.c % (size - q.b % size) % 5 else 1+q.c % 5
def bRaw (q:Q4)(size:Int):Int:=if kindRaw q size=3 then q.d else 0
def datRaw (q:Q4)(i:Nat):Int:=IntKind.u8.wrap (q.d*((i:Int)+q.a / 4))
def opRaw (q:Q4)(size:Int):OpL :=
 { kind:=kindRaw q size,from_:=fromRaw q size,len:=lenRaw q size,b:=bRaw q size,data:=if kindRaw q size=2∨kindRaw q size=4 then (List.range (lenRaw q size).toNat).map (datRaw q) else [] }
theorem yC {q:Q4}{size:Int}(hq:q.wf)(hs:0≤size):1≤lenRaw q size∧lenRaw q size≤5:=by
 unfold lenRaw;split <;> omega
theorem kindRaw_bd {q:Q4}{size:Int}(hq:q.wf):1≤kindRaw q size∧kindRaw q size≤4:=by
 unfold kindRaw;split <;> omega
theorem fromRaw_bd {q:Q4}{size:Int}(hq:q.wf)(hs:0≤size):0≤fromRaw q size∧fromRaw q size≤size:=by
 unfold fromRaw;split
 · rename_i h
   have h1:=Int.emod_nonneg q.b h.2;have h2:=Int.emod_lt_of_pos q.b (show 0 < size by omega);omega
 · omega
theorem datRaw_bd (q:Q4)(i:Nat):0≤datRaw q i∧datRaw q i≤255:=by
 unfold datRaw;rw[IntKind.wrap_u8];omega
theorem opRaw_wf {q:Q4}{size:Int}(hq:q.wf)(hs:0≤size∧size≤65536):(opRaw q size).wf:=by
 have h1:=yC hq hs.1;have h2:=kindRaw_bd (size:=size) hq;have h3:=fromRaw_bd hq hs.1;obtain⟨⟨a1,a2⟩,⟨b1,b2⟩,⟨c1,c2⟩,⟨d1,d2⟩⟩:=hq;refine⟨⟨by show _≤kindRaw q size; omega,by show kindRaw q size≤_; omega⟩,⟨by show _≤fromRaw q size; omega,by show fromRaw q size≤_; omega⟩,⟨by show _≤lenRaw q size; omega,by show lenRaw q size≤_; omega⟩,?_,?_⟩
 · show 0 ≤ bRaw q size ∧ bRaw q size ≤ 255
   unfold bRaw; split <;> omega
 · intro y hy
   unfold opRaw at hy;dsimp only at hy;split at hy
   · obtain⟨i,_,rfl⟩:=QF.1 hy; exact datRaw_bd q i
   · simp at hy
def sumL : List OpL → Int
 | []=>0
 | x::l=>x.len+sumL l
theorem sumL_snoc : ∀ (l : List OpL) (x : OpL), sumL (l ++ [x]) = sumL l + x.len
 | [],x=>by simp[sumL]
 | y::l,x=>by rw[List.cons_append,sumL,sumL,sumL_snoc l x]; omega
def opsRaw (l:List Q4)(size:Int):List OpL:=(l.take 6).map fun q=>opRaw q size
def madeP (l:List Q4)(size:Int):PatL:=⟨false,size,sumL (opsRaw l size),opsRaw l size⟩
def _root_.Go.Inl.Sym.fit (s:Sym)(size:Int):Prop:=(s.old=true→0≤s.at_∧s.at_ < size)∧(s.old=false→s.at_=0)∧0≤s.b∧s.b≤2
structure RS where
 k:Nat
 css:List (List Value)
 a:Option Addr
 c:Nat
set_option maxHeartbeats 1000000 in
theorem opRaw_c (q : Q4) (size : Int) (w0 : World) (I0 : Imm) (hI : Sat I0 w0) (hq : q.wf) (hs0 : 0 ≤ size) (hs1 : size ≤ 65536) :
 Ctr prog 86 [q4V q,.int .i64 size] w0 (fun v w'=>∃I' ad m cap,v=opV (opRaw q size) ad m cap∧Ext w0 I0 w' I'∧RBytes I' (.slice ad m cap) (opRaw q size).data):=by
 have hlr:=yC hq hs0;obtain⟨⟨qa1,qa2⟩,⟨qb1,qb2⟩,⟨qc1,qc2⟩,⟨qd1,qd2⟩⟩:=hq;refine fn (n:=79) func86 rfl rfl rfl ?_;have hS:=St.start hI;refine QwR (qe (d_box (cs:=[.int .u8 _,.int .u8 _,.int .u8 _,.int .u8 _]) hS rfl) ?_);clear hS;rintro _ w_1⟨b2,rfl,hS⟩;refine qe (qw (cs:=[.int .i64 _,.int .i64 _,.int .i64 _,.int .u8 _,.slice _ _ _]) hS Jp rfl) ?_;clear hS;rintro _ w_2⟨b4,rfl,hS⟩;refine QoR (qq hS (qA (o':=0) QV uJ rfl rfl (by decide) (by decide) rfl) (qq hS (qi 1 Qp rfl rfl rfl) (qq hS (qT Qx Qg rfl (by omega) (by omega)) (qq hS (g_rem rfl rfl (by omega) (by omega)) (qq hS (g_add rfl rfl (by omega) (by omega)) (qq hS (qA (o':=2) QV uJ rfl rfl (by decide) (by decide) rfl) ?_))))));refine qq hS (qi 1 Qp rfl rfl rfl) (qq hS (qT Qx Qg rfl (by omega) (by omega)) (qq hS (g_rem rfl rfl (by omega) (by omega)) (qq hS (g_add rfl rfl (by omega) (by omega)) (qq hS (qv (pl:=[(0,1),(1,1),(2,1),(3,1),(4,1)]) (cs:=[.int .i64 _,.int .i64 _,.int .i64 _,.int .u8 _,.slice _ _ _]) Jp uE (fun w=>by simp[Jf,xX,uJ]) (mp (v:=.int .i64 _) rfl (mp (v:=.int .i64 _) rfl mp0)) rfl) ?_))));refine qe (qw (cs:=[.int .i64 _,.int .i64 _,.int .i64 _,.int .u8 _,.slice _ _ _]) hS Jp rfl) ?_;clear hS;rintro _ w_3⟨b5,rfl,hS⟩;refine qe (qj 0 hS QD rfl rfl rfl (vs:=[.int .i64 _,.int .i64 _,.int .i64 _,.int .u8 _,.slice _ _ _]) rfl rfl rfl (xP rfl) (cs':=[_,_,_,_,_]) rfl) ?_;clear hS;rintro _ w_4⟨rfl,hS⟩;refine QoN (meet (fun σ w=>okS σ [(1,.int .i64 size),(2,.pointer (some ⟨b2,0,none⟩)),(4,.pointer (some ⟨b4,0,none⟩)),(5,.pointer (some ⟨b5,0,none⟩))]∧St [] w0 I0 I0 w [.cel b5 102 [.int .i64 (kindRaw q size),.int .i64 (fromRaw q size),.int .i64 (lenRaw q size),.int .u8 0,.slice none 0 0],.cel b4 102 [.int .i64 0,.int .i64 0,.int .i64 0,.int .u8 0,.slice none 0 0],.cel b2 71 [.int .u8 q.a,.int .u8 q.b,.int .u8 q.c,.int .u8 q.d]]) ?_ ?_)
 ·
  refine QwR (qq hS (qb (o':=0) uE rfl xX rfl rfl rfl) (qq hS (qi 0 uj rfl rfl rfl) (qq hS (g_leq rfl rfl) (QoN (qo rfl ?_ ?_)))))
  ·
   intro hc20;simp only[xO,xM]at hc20;refine QwR (qq hS (Qmi rfl) (qq hS (g_eql rfl rfl) (QoN (qo rfl ?_ ?_))))
   ·
    intro hc22;simp only[xO,xM]at hc22;have ek:kindRaw q size=4:=ui (by omega);have ef:fromRaw q size=0:=ud (by omega);have el:lenRaw q size=1+q.c % 5:=ud (by omega);refine reg (qq hS (qb (o':=0) uE rfl xX rfl rfl rfl) (qe (qj 0 hS xX rfl rfl rfl (vs:=[.int .i64 _]) rfl rfl rfl (xP rfl) (cs':=[_,_,_,_,_]) rfl) ?_));clear hS;rintro _ w_5⟨rfl,hS⟩;refine QoN (⟨_,rfl,⟨rfl,rfl,rfl,rfl,trivial⟩,?_⟩);rw[ek,ef,el];exact hS.sel [true,true,true]
   ·
    intro hc22;simp only[xO,xM]at hc22;have ek:kindRaw q size=1+q.a % 4:=ud (by omega);have ef:fromRaw q size=q.b % size:=ui (by omega);have el:lenRaw q size=1+q.c % (size - q.b % size) % 5:=ui (by omega);have hm1:=Int.emod_nonneg q.b (show size≠0 by omega);have hm2:=Int.emod_lt_of_pos q.b (show 0 < size by omega);have hm3:=Int.emod_nonneg q.c (show size - q.b % size≠0 by omega);have hm4:=Int.emod_lt_of_pos q.c (show 0 < size - q.b % size by omega);refine QwR (qq hS (qA (o':=1) QV uJ rfl rfl (by decide) (by decide) rfl) (qq hS (qi 2 Qp rfl rfl rfl) (qq hS (qT Qx Qg rfl (by omega) (by omega)) (qq hS (Qmi rfl) (qq hS (g_rem rfl rfl (by omega) (by omega)) (qq hS (qb (o':=1) uE rfl xX rfl rfl rfl) (qe (qj 0 hS xX rfl rfl rfl (vs:=[.int .i64 _]) rfl rfl rfl (xP rfl) (cs':=[_,_,_,_,_]) rfl) ?_)))))));clear hS;rintro _ w_6⟨rfl,hS⟩;refine QoN (reg (qq hS (qA (o':=2) QV uJ rfl rfl (by decide) (by decide) rfl) (qq hS (qi 2 Qp rfl rfl rfl) (qq hS (qT Qx Qg rfl (by omega) (by omega)) (qq hS (Qmi rfl) (qq hS (qb (o':=1) uE rfl xX rfl rfl rfl) (qq hS (qi 0 uj rfl rfl rfl) (qq hS (g_sub rfl rfl (by omega) (by omega)) (qq hS (g_rem rfl rfl (by omega) (by omega)) ?_)))))))));refine qq hS (g_rem rfl rfl (by omega) (by omega)) (qq hS (g_add rfl rfl (by omega) (by omega)) (qq hS (qb (o':=2) uE rfl xX rfl rfl rfl) (qe (qj 0 hS xX rfl rfl rfl (vs:=[.int .i64 _]) rfl rfl rfl (xP rfl) (cs':=[_,_,_,_,_]) rfl) ?_)));clear hS;rintro _ w_7⟨rfl,hS⟩;refine QoN (⟨_,rfl,⟨rfl,rfl,rfl,rfl,trivial⟩,?_⟩);rw[ek,ef,el]
    exact hS.sel [true,true,true]
  ·
   intro hc20;simp only[xO,xM]at hc20;have ek:kindRaw q size=1+q.a % 4:=ud (by omega);have ef:fromRaw q size=0:=ud (by omega);have el:lenRaw q size=1+q.c % 5:=ud (by omega);refine xZ (xN (⟨_,rfl,⟨rfl,rfl,rfl,rfl,trivial⟩,?_⟩));rw[ek,ef,el];exact hS.sel [true,true,true]
 ·
  rintro σ w⟨hs,hS⟩;rw[← qx hs];refine meet (fun σ w=>okS σ [(1,.int .i64 size),(2,.pointer (some ⟨b2,0,none⟩)),(4,.pointer (some ⟨b4,0,none⟩)),(5,.pointer (some ⟨b5,0,none⟩))]∧St [] w0 I0 I0 w [.cel b5 102 [.int .i64 (kindRaw q size),.int .i64 (fromRaw q size),.int .i64 (lenRaw q size),.int .u8 (bRaw q size),.slice none 0 0],.cel b4 102 [.int .i64 0,.int .i64 0,.int .i64 0,.int .u8 0,.slice none 0 0],.cel b2 71 [.int .u8 q.a,.int .u8 q.b,.int .u8 q.c,.int .u8 q.d]]) ?_ ?_
  ·
   refine QwR (qq hS (qb (o':=0) uE rfl xX rfl rfl rfl) (qq hS (qi 0 uj rfl rfl rfl) (qq hS (g_eql rfl rfl) (QoN (qo rfl ?_ ?_)))))
   ·
    intro hc43;simp only[xO,xM]at hc43;have eb:bRaw q size=q.d:=ui hc43;refine reg (qq hS (qA (o':=3) QV uJ rfl rfl (by decide) (by decide) rfl) (qq hS (qi 2 Qp rfl rfl rfl) (qq hS (qb (o':=3) uE rfl uJ rfl rfl rfl) (qe (qj 0 hS uJ rfl rfl rfl (vs:=[.int .u8 _]) rfl rfl rfl (xP rfl) (cs':=[_,_,_,_,_]) rfl) ?_))));clear hS;rintro _ w_8⟨rfl,hS⟩;refine QoN (⟨_,rfl,⟨rfl,rfl,rfl,rfl,trivial⟩,?_⟩);rw[eb];exact hS.sel [true,true,true]
   ·
    intro hc43;simp only[xO,xM]at hc43;have eb:bRaw q size=0:=ud hc43;refine xZ (xN (⟨_,rfl,⟨rfl,rfl,rfl,rfl,trivial⟩,?_⟩));rw[eb];exact hS.sel [true,true,true]
  ·
   rintro σ w⟨hs,hS⟩;rw[← qx hs];refine xL (QwR (qq hS (Qai rfl) (QoN (uk (loop (fun(x:Nat×Option Addr×Nat) σ w=>okS σ [(2,.pointer (some ⟨b2,0,none⟩)),(4,.pointer (some ⟨b4,0,none⟩)),(5,.pointer (some ⟨b5,0,none⟩)),(6,.int .i64 x.1)]∧St [] w0 I0 I0 w [.row (.slice x.2.1 x.1 x.2.2) 5 1 x.1 (flat byteC ((List.range x.1).map (datRaw q))),.cel b5 102 [.int .i64 (kindRaw q size),.int .i64 (fromRaw q size),.int .i64 (lenRaw q size),.int .u8 (bRaw q size),.slice x.2.1 x.1 x.2.2],.cel b4 102 [.int .i64 0,.int .i64 0,.int .i64 0,.int .u8 0,.slice none 0 0],.cel b2 71 [.int .u8 q.a,.int .u8 q.b,.int .u8 q.c,.int .u8 q.d]]∧(x.1:Int)≤lenRaw q size∧(x.1=0∨(kindRaw q size=2∨kindRaw q size=4))) (fun x=>(lenRaw q size).toNat - x.1) ((0,none,0)) ?_ ?_)))))
   ·
    exact⟨⟨rfl,rfl,rfl,rfl,trivial⟩,(hS.sel [true,true,true]).nilRow _ _,by dsimp only; omega,.inl rfl⟩
   ·
    rintro⟨i,a,c⟩σ w_l⟨hs,hS,hi0,hi1⟩;dsimp only at hs hS hi0 hi1 ⊢;rw[← qx hs]; clear hs
    refine xL (QwR (qq hS (Qmi rfl) (qq hS (qb (o':=2) uE rfl xX rfl rfl rfl) (qq hS (qi 1 uj rfl rfl rfl) (qq hS (g_lss rfl rfl) (qq hS (Qmb rfl) (qu rfl rfl hS (fun hg=>(qb (o':=0) uE rfl xX rfl rfl rfl)) ?_)))))));intro u52 hu52 hn52;refine qu rfl rfl hS (fun hg=>(qi 1 uj rfl (hu52 hg) rfl)) ?_;intro u53 hu53 hn53;refine qu rfl rfl hS (fun hg=>(g_eql (hu53 hg) rfl)) ?_;intro u54 hu54 hn54;refine qu rfl rfl hS (fun hg=>(qf (hu54 hg))) ?_;intro u55 hu55 hn55;refine qn rfl hu55 hn55 hS (fun hg=>(qb (o':=0) uE rfl xX rfl rfl rfl)) ?_;intro u56 hu56 hn56;refine qn rfl hu55 hn55 hS (fun hg=>(qi 1 uj rfl (hu56 hg) rfl)) ?_;intro u57 hu57 hn57;refine qn rfl hu55 hn55 hS (fun hg=>(g_eql (hu57 hg) rfl)) ?_;intro u58 hu58 hn58;refine qu rfl rfl hS (fun hg=>(g_or (hu55 hg) rfl (fun hq=>hu58 ⟨hg,hq⟩))) ?_;intro u59 hu59 hn59;refine qq hS (g_and rfl rfl (fun hq=>hu59 hq)) (QoN (qo rfl ?_ ?_))
    ·
     intro hc60;clear hu52 hn52 hu53 hn53 hu54 hn54 hu55 hn55 hu56 hn56 hu57 hn57 hu58 hn58 hu59 hn59;simp only[xU,Bool.and_eq_false_iff,xV,xR,xO,xM]at hc60;refine xZ (xN (xL (uk (reg (qq hS (qb (o':=4) uE rfl Jf rfl rfl rfl) (qq hS (qi 1 JM rfl rfl rfl) (qq hS (qA (o':=3) QV uJ rfl rfl (by decide) (by decide) rfl) (qq hS (qi 3 Qp rfl rfl rfl) (qq hS (Qmi rfl) (qq hS (qA (o':=0) QV uJ rfl rfl (by decide) (by decide) rfl) (qq hS (qi 3 Qp rfl rfl rfl) ?_)))))))))));refine qq hS (qT Qx Qg rfl (by omega) (by omega)) (qq hS (g_quo rfl rfl (by omega) (by omega) (by omega)) (qq hS (g_add rfl rfl (by omega) (by omega)) (qq hS (g_convb Qg Qx rfl (by omega) (by omega)) (qq hS (g_mulw rfl rfl) ?_))));refine qe (d_lit (vs:=[.int .u8 _]) (cs:=[.int .u8 _]) hS uU uJ Kz rfl rfl rfl rfl (fun v hv=>by simp only[uq,ur,or_false]at hv; subst hv; rfl) rfl) ?_;clear hS;rintro _ w_9⟨b_9,rfl,hS⟩;refine qe (qE 1 0 hS rfl uU info5 rfl rfl rfl rfl rfl rfl rfl rfl (by omega) (by omega)) ?_;clear hS;rintro _ w_10⟨a76,p76,rfl,hS⟩;refine qq hS (qb (o':=4) uE rfl Jf rfl rfl rfl) (qe (qj 2 hS Jf rfl rfl rfl (vs:=[.slice _ _ _]) rfl rfl rfl (xP rfl) (cs':=[_,_,_,_,_]) rfl) ?_);clear hS;rintro _ w_11⟨rfl,hS⟩;refine qh (Qh (xN (reg (qq hS (Qmi rfl) (qq hS (g_add rfl rfl (by omega) (by omega)) (qq hS (Qai rfl) ?_))))));refine⟨(i+1,a76,p76),_,rfl,⟨⟨rfl,rfl,rfl,rfl,trivial⟩,?_,by dsimp only; omega,.inr hc60.2⟩,by dsimp only; omega⟩;dsimp only;rw[List.range_succ,Qy,qB,QN,List.map_nil,jg];exact hS.sel [false,true,true,true,true]
    ·
     intro hc60;clear hu52 hn52 hu53 hn53 hu54 hn54 hu55 hn55 hu56 hn56 hu57 hn57 hu58 hn58 hu59 hn59;simp only[xU,Bool.and_eq_false_iff,xV,xR,xO,xM]at hc60;have hdat:(opRaw q size).data=(List.range i).map (datRaw q):=by
      unfold opRaw;dsimp only;split
      · rename_i hk2
        have hi:i=(lenRaw q size).toNat:=by omega
        rw[hi]
      · rename_i hk2
        have hi:i=0:=by omega
        rw[hi]; rfl
     refine uD (uA (uA (Qw (xN (QwR (qq hS (g_ldO 1 (vs:=[.int .i64 _,.int .i64 _,.int .i64 _,.int .u8 _,.slice _ _ _]) QD JI rfl rfl rfl rfl) (qe (qj 2 hS QD rfl rfl rfl (vs:=[.int .i64 _,.int .i64 _,.int .i64 _,.int .u8 _,.slice _ _ _]) rfl rfl rfl (xP rfl) (cs':=[_,_,_,_,_]) rfl) ?_)))))));clear hS;rintro _ w_12⟨rfl,hS⟩;refine QoN (ub (ret1 results86 (qD 2 hS QD JI rfl rfl rfl) ?_));have hS1:=hS.sel [true,false,false,false];obtain⟨I1,hE1,hI1,hd1⟩:=qS kz (xs:=(List.range i).map (datRaw q)) hS1 (by simp);exact⟨I1,a,i,c,rfl,hE1,by rw[hdat]; exact hd1⟩
set_option maxHeartbeats 1000000 in
theorem sized_c (r : Int) (ad : Option Addr) (cap : Nat) (l : List Q4) (size : Int) (w0 : World) (I0 : Imm) (hI : Sat I0 w0) (hl : RFl I0 4 q4C (.slice ad l.length cap) l) (hq : ∀ q ∈ l, q.wf) (hs0 : 0 ≤ size) (hs1 : size ≤ 65536) :
 Ctr prog 56 [.agg #[.int .u8 r,.slice ad l.length cap],.int .i64 size] w0 (fun v w'=>∃I' a m c,v = .agg #[.bool (madeP l size).lifted,.int .i64 (madeP l size).in_,.int .i64 (madeP l size).out,.slice a m c]∧Ext w0 I0 w' I'∧ROps I' (.slice a m c) (madeP l size).ops):=by
 have hll:=RSl.le hl;simp only[maxLen]at hll;refine fn (n:=41) func56 rfl rfl rfl ?_;have hS:=St.start hI;refine QwR (qe (d_box (cs:=[.int .u8 _,.slice _ _ _]) hS rfl) ?_);clear hS;rintro _ w_1⟨b2,rfl,hS⟩;refine qe (qw (cs:=[.bool _,.int .i64 _,.int .i64 _,.slice _ _ _]) hS uQ rfl) ?_;clear hS;rintro _ w_2⟨b4,rfl,hS⟩;refine QoR (qq hS (Qmi rfl) (qq hS (qv (pl:=[(0,1),(1,1),(2,1),(3,1)]) (cs:=[.bool _,.int .i64 _,.int .i64 _,.slice _ _ _]) uQ uu (fun w=>by simp[xX,uC,Qt]) (mp (v:=.int .i64 _) rfl mp0) rfl) (qe (qw (cs:=[.bool _,.int .i64 _,.int .i64 _,.slice _ _ _]) hS uQ rfl) ?_)));clear hS;rintro _ w_3⟨b5,rfl,hS⟩;refine qe (qj 0 hS ul rfl rfl rfl (vs:=[.bool _,.int .i64 _,.int .i64 _,.slice _ _ _]) rfl rfl rfl (xP rfl) (cs':=[_,_,_,_]) rfl) ?_;clear hS;rintro _ w_4⟨rfl,hS⟩;refine QoN (xL (QwR (qq hS (Qai rfl) (QoN (uk (loop (fun(x:RS) σ w=>okS σ [(1,.int .i64 size),(2,.pointer (some ⟨b2,0,none⟩)),(4,.pointer (some ⟨b4,0,none⟩)),(5,.pointer (some ⟨b5,0,none⟩)),(6,.int .i64 x.k)]∧∃I,St [] w0 I0 I w [.row (.slice x.a x.k x.c) 102 5 x.k x.css.flatten,.cel b5 46 [.bool false,.int .i64 size,.int .i64 (sumL ((l.take x.k).map fun q=>opRaw q size)),.slice x.a x.k x.c],.cel b4 46 [.bool false,.int .i64 0,.int .i64 0,.slice none 0 0],.cel b2 63 [.int .u8 r,.slice ad l.length cap]]∧x.k≤l.length∧x.k≤6∧(0≤sumL ((l.take x.k).map fun q=>opRaw q size)∧sumL ((l.take x.k).map fun q=>opRaw q size)≤5*(x.k:Int))∧All2 (ROp I) x.css ((l.take x.k).map fun q=>opRaw q size)∧(∀cs∈x.css,cs.length=5)) (fun x=>l.length - x.k) (⟨0,[],none,0⟩) ?_ ?_))))))
 ·
  exact⟨⟨rfl,rfl,rfl,rfl,rfl,trivial⟩,_,(hS.sel [true,true,true]).nilRow _ _,by simp,by simp,by simp[sumL],All2.nil _,by simp⟩
 ·
  rintro⟨k,css,a,c⟩σ w_l⟨hs,I,hS,hk0,hk6,hsb,hall,hcl⟩;dsimp only at hs hS hk0 hk6 hsb hall hcl ⊢;rw[← qx hs]; clear hs
  refine xL (QwR (qq hS (Qmi rfl) (qq hS (qb (o':=1) Kq rfl sizeOf61 rfl rfl rfl) (qq hS (qi 3 isAgg61 rfl rfl rfl) (qq hS (qz rfl Kb (hl.mono hS.ext) rfl) (qq hS (g_lss rfl rfl) (qq hS (Qmb rfl) (qu rfl rfl hS (fun hg=>(Qmi rfl)) ?_))))))));intro u16 hu16 hn16;refine qu rfl rfl hS (fun hg=>(g_lss (hu16 hg) rfl)) ?_;intro u17 hu17 hn17;refine qq hS (g_and rfl rfl (fun hq=>hu17 hq)) (QoN (qo rfl ?_ ?_))
  ·
   intro hc18;clear hu16 hn16 hu17 hn17;simp only[xU,Bool.and_eq_false_iff,xO,xM]at hc18;obtain⟨q,hqi⟩:∃q,l[k]? = some q:=⟨_,xW (by omega)⟩
   have hqA:=(hl.mono hS.ext).at hqi;have hqw:=hq q (uf hqi);have hlb:=yC hqw hs0;have hlo:(opRaw q size).len=lenRaw q size:=rfl;have hsn:sumL ((l.take (k+1)).map fun q=>opRaw q size)=sumL ((l.take k).map fun q=>opRaw q size)+lenRaw q size:=by
    rw[qL hqi,Qy,QN,List.map_nil,sumL_snoc]; rfl
   refine xZ (xN (xL (uk (QwR (qq hS (qb (o':=1) Kq rfl sizeOf61 rfl rfl rfl) (qq hS (qi 3 isAgg61 rfl rfl rfl) (qq hS (Qmi rfl) (qq hS (g_ixI Kb Zh (hl.mono hS.ext) rfl rfl (by omega) (by omega)) (qq hS (g_ldE (us:=[.int .u8 _,.int .u8 _,.int .u8 _,.int .u8 _]) Zh isAgg71 hqA rfl rfl rfl) (qq hS (Qmi rfl) ?_))))))))));refine qe (ql call86 rfl (opRaw_c q size _ I hS.imm hqw hs0 hs1)) ?_;rintro _ w_5⟨I2,a2,m2,c2,rfl,hE,hd2⟩;replace hS:=hS.callE hE;refine qe (qw (cs:=[.int .i64 _,.int .i64 _,.int .i64 _,.int .u8 _,.slice _ _ _]) hS Jp rfl) ?_;clear hS;rintro _ w_6⟨b7,rfl,hS⟩;refine qe (qj 0 hS QD rfl rfl rfl (vs:=[.int .i64 _,.int .i64 _,.int .i64 _,.int .u8 _,.slice _ _ _]) rfl rfl rfl (xP rfl) (cs':=[_,_,_,_,_]) rfl) ?_;clear hS;rintro _ w_7⟨rfl,hS⟩;refine QoR (qq hS (qb (o':=3) uu rfl Qt rfl rfl rfl) (qq hS (qi 2 JA rfl rfl rfl) (qq hS (g_ldO 0 (vs:=[.int .i64 _,.int .i64 _,.int .i64 _,.int .u8 _,.slice _ _ _]) QD JI rfl rfl rfl rfl) ?_)));refine qe (d_lit (vs:=[.agg #[.int .i64 _,.int .i64 _,.int .i64 _,.int .u8 _,.slice _ _ _]]) (cs:=[.int .i64 _,.int .i64 _,.int .i64 _,.int .u8 _,.slice _ _ _]) hS QC QD Jp rfl rfl rfl rfl (fun v hv=>by simp only[uq,ur,or_false]at hv; subst hv; rfl) rfl) ?_;clear hS;rintro _ w_8⟨b_8,rfl,hS⟩;refine qe (qE 2 0 hS rfl QC info102 rfl rfl rfl rfl rfl rfl rfl rfl (by omega) (by omega)) ?_;clear hS;rintro _ w_9⟨a32,p32,rfl,hS⟩;refine qq hS (qb (o':=3) uu rfl Qt rfl rfl rfl) (qe (qj 3 hS Qt rfl rfl rfl (vs:=[.slice _ _ _]) rfl rfl rfl (xP rfl) (cs':=[_,_,_,_]) rfl) ?_)
   clear hS;rintro _ w_10⟨rfl,hS⟩;refine QoN (reg (qq hS (qb (o':=2) uu rfl xX rfl rfl rfl) (qq hS (qi 3 uj rfl rfl rfl) (qq hS (qb (o':=2) uE rfl xX rfl rfl rfl) (qq hS (qi 1 uj rfl rfl rfl) (qq hS (g_add rfl rfl (by omega) (by omega)) (qq hS (qb (o':=2) uu rfl xX rfl rfl rfl) (qe (qj 3 hS xX rfl rfl rfl (vs:=[.int .i64 _]) rfl rfl rfl (xP rfl) (cs':=[_,_,_,_]) rfl) ?_))))))));clear hS;rintro _ w_11⟨rfl,hS⟩;refine qh (Qh (xN (reg (qq hS (Qmi rfl) (qq hS (g_add rfl rfl (by omega) (by omega)) (qq hS (Qai rfl) ?_))))));refine⟨⟨k+1,css++[[.int .i64 (opRaw q size).kind,.int .i64 (opRaw q size).from_,.int .i64 (opRaw q size).len,.int .u8 (opRaw q size).b,.slice a2 m2 c2]],a32,p32⟩,_,rfl,⟨⟨rfl,rfl,rfl,rfl,rfl,trivial⟩,I2,?_,by dsimp only; omega,by dsimp only; omega,by dsimp only; omega,?_,?_⟩,by dsimp only; omega⟩
   · dsimp only
     rw[QT,List.flatten_singleton,hsn];exact hS.sel [false,false,true,true,true,true]
   · dsimp only
     rw[qL hqi,Qy,QN,List.map_nil];exact All2.snoc (hall.mono fun _ _ h=>h.mono hE.ext) ⟨_,_,_,rfl,hd2⟩
   · intro cs hcs
     rcases uX.1 hcs with h | h
     · exact hcl cs h
     · simp only[uL]at h; subst h; rfl
  ·
   intro hc18;clear hu16 hn16 hu17 hn17;simp only[xU,Bool.and_eq_false_iff,xO,xM]at hc18;have e:(madeP l size)=⟨false,size,sumL ((l.take k).map fun q=>opRaw q size),(l.take k).map fun q=>opRaw q size⟩:=by
    have h:l.take 6=l.take k:=by
     by_cases h6:k=6
     · rw[h6]
     · rw[QJ (by omega),QJ (by omega)]
    unfold madeP opsRaw;rw[h]
   refine uD (uA (uA (Qw (xN (QwR (qq hS (g_ldO 1 (vs:=[.bool _,.int .i64 _,.int .i64 _,.slice _ _ _]) ul uO rfl rfl rfl rfl) (qe (qj 2 hS ul rfl rfl rfl (vs:=[.bool _,.int .i64 _,.int .i64 _,.slice _ _ _]) rfl rfl rfl (xP rfl) (cs':=[_,_,_,_]) rfl) ?_)))))));clear hS;rintro _ w_12⟨rfl,hS⟩;refine QoN (ub (ret1 results56 (qD 2 hS ul uO rfl rfl rfl) ?_));obtain⟨I3,hS3,hI3,ho3⟩:=St.freezeRowR (hS.sel [true,false,false,false]) (xs:=(l.take k).map fun q=>opRaw q size) (by rw[uR,uT]; omega) hcl hall;rw[e];exact⟨I3,a,k,c,rfl,hS3,RSl.mono ho3 (Sub.refl _) fun _ _ h=>h.mono hI3⟩
theorem made_c (r : Int) (ad : Option Addr) (cap : Nat) (l : List Q4) (w0 : World) (I0 : Imm) (hI : Sat I0 w0) (hl : RFl I0 4 q4C (.slice ad l.length cap) l) (hq : ∀ q ∈ l, q.wf) (hr0 : 0 ≤ r) (hr1 : r ≤ 255) :
 Ctr prog 26 [.agg #[.int .u8 r,.slice ad l.length cap]] w0 (fun v w'=>∃I' a m c,v = .agg #[.bool (madeP l (r % 13)).lifted,.int .i64 (madeP l (r % 13)).in_,.int .i64 (madeP l (r % 13)).out,.slice a m c]∧Ext w0 I0 w' I'∧ROps I' (.slice a m c) (madeP l (r % 13)).ops):=by
 refine fn (n:=9) func26 rfl rfl rfl ?_;have hS:=St.start hI;refine QwR (qe (d_box (cs:=[.int .u8 _,.slice _ _ _]) hS rfl) ?_);clear hS;rintro _ w_1⟨b_1,rfl,hS⟩;refine qe (qw (cs:=[.bool _,.int .i64 _,.int .i64 _,.slice _ _ _]) hS uQ rfl) ?_;clear hS;rintro _ w_2⟨b_2,rfl,hS⟩;refine QoR (qq hS (g_ldO 1 (vs:=[.int .u8 _,.slice _ _ _]) Ko KK rfl rfl rfl rfl) (qq hS (qb (o':=0) Kq rfl uJ rfl rfl rfl) (qq hS (qi 1 Qp rfl rfl rfl) (qq hS (qT Qx Qg rfl (by omega) (by omega)) (qq hS (g_rem rfl rfl (by omega) (by omega)) (qe (ql call56 rfl (sized_c r ad cap l (r % 13) _ I0 hS.imm hl hq (by omega) (by omega))) ?_))))));rintro _ w_3⟨I2,a2,m2,c2,rfl,hE,hd2⟩;replace hS:=hS.callE hE;refine qe (qj 0 hS ul rfl rfl rfl (vs:=[.bool _,.int .i64 _,.int .i64 _,.slice _ _ _]) rfl rfl rfl (xP rfl) (cs':=[_,_,_,_]) rfl) ?_;clear hS;rintro _ w_4⟨rfl,hS⟩;refine QoN (ub (ret1 results26 (qD 0 hS ul uO rfl rfl rfl) ?_));exact⟨I2,a2,m2,c2,rfl,hS.nil,hd2⟩
end Go.Proofs.YtcajgkfgjpfmaaaGreat
