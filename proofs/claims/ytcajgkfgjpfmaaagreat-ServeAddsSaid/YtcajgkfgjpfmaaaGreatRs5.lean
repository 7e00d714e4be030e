/- inlayref30: Fitted, Made: what they compute. Conditions: arguments of their kinds. -/
import Derived.Test.YtcajgkfgjpfmaaaGreatRs4
import Derived.Test.YtcajgkfgjpfmaaaGreatRefOf
import Derived.Test.YtcajgkfgjpfmaaaGreatLeastL
import Derived.Test.YtcajgkfgjpfmaaaGreatPats
set_option linter.unusedSimpArgs false
set_option linter.unusedVariables false
namespace Go.Proofs.YtcajgkfgjpfmaaaGreat
open Tryz
open Go Go.RowKit Go.Inl
theorem symbolsR_o30 (p : PatL) (S : List Sym) (ad : Option Addr) (m cap : Nat) (w0 : World) (I0 : Imm) (hI : Sat I0 w0) (hops : ROps I0 (.slice ad m cap) p.ops) (hp : p.wf) (hc : (checkP p).2 = 0) (he : symsOf p.ops = S) :
 Ctr prog 57 [.agg #[.bool p.lifted,.int .i64 p.in_,.int .i64 p.out,.slice ad m cap]] w0 (fun v w'=>∃a c,v = .tuple #[.slice a S.length c,.int .i64 0]∧St [] w0 I0 I0 w' [.row (.slice a S.length c) 122 3 S.length (flat symC S)]):=by
 subst he;have h:=symbolsR_o p ad m cap w0 I0 hI hops hp;have e:symbolsR p=(symsOf p.ops,0):=by rw[vj,jh hc]
 rw[e]at h;exact h
theorem refOf_30 (ad : Option Addr) (m cap : Nat) (l : List Sym) (size : Int) (p : PatL) (w0 : World) (I0 : Imm) (hI : Sat I0 w0) (hl : RSyms I0 (.slice ad m cap) l) (hm : m = l.length) (hw : ∀ s ∈ l, s.wf) (hs : Mid size) (he : ofPP l size = (p, 0)) :
 Ctr prog 58 [.slice ad m cap,.int .i64 size] w0 (fun v w'=>∃I' a m c,v = .tuple #[.agg #[.bool p.lifted,.int .i64 p.in_,.int .i64 p.out,.slice a m c],.int .i64 0]∧Ext w0 I0 w' I'∧ROps I' (.slice a m c) p.ops):=by
 subst hm;have h:=refOf_c ad cap l size w0 I0 hI hl hw hs;rw[he]at h;exact h
theorem sized_30 (r : Int) (ad : Option Addr) (m cap : Nat) (l : List Q4) (size : Int) (p : PatL) (w0 : World) (I0 : Imm) (hI : Sat I0 w0) (hl : RFl I0 4 q4C (.slice ad m cap) l) (hm : m = l.length) (hq : ∀ q ∈ l, q.wf) (hs : 0 ≤ size ∧ size ≤ 65536) (hp : madeP l size = p) :
 Ctr prog 56 [.agg #[.int .u8 r,.slice ad m cap],.int .i64 size] w0 (fun v w'=>∃I' a m c,v = .agg #[.bool p.lifted,.int .i64 p.in_,.int .i64 p.out,.slice a m c]∧Ext w0 I0 w' I'∧ROps I' (.slice a m c) p.ops):=by
 subst hm; subst hp; exact sized_c r ad cap l size w0 I0 hI hl hq hs.1 hs.2
theorem okNew30 {n b:Int}(hb:0≤b∧b≤255):strange n ⟨false,0,b⟩=false∧Sym.wf ⟨false,0,b⟩:=by
 refine⟨by simp[strange],?_⟩;simp only[Sym.wf]; omega
structure FtW where
 l:List Sym
 a:Option Addr
 c:Nat
structure FtI (n : Int) (l : List Sym) : Prop where
 ok:okL n l
 wf:∀s∈l,s.wf
 len:l.length≤36
theorem FtI.snoc {n b:Int}{l:List Sym}(h:FtI n l)(hl:l.length≤35)(hb:0≤b∧b≤255):FtI n (l++[⟨false,0,b⟩]):=by
 have hn:=okNew30 (n:=n) hb;refine⟨fun s hs=>?_,fun s hs=>?_,by rw[ug,QH]; omega⟩
 · rcases uX.1 hs with hs | hs
   · exact h.ok s hs
   · rw[uL]at hs; subst hs; exact hn.1
 · rcases uX.1 hs with hs | hs
   · exact h.wf s hs
   · rw[uL]at hs; subst hs; exact hn.2
theorem fitted_ok {f t:Int}{l:List Sym}(h:FtI (lenV f) l)(hl:(lenV t).toNat≤l.length):ofPP (l.take (lenV t).toNat) (lenV f)=(ofOf (lenV f) (l.take (lenV t).toNat),0)∧∀k:LnkL,k.f=f→k.t=t→FitL k (ofOf (lenV f) (l.take (lenV t).toNat)):=by
 have hf:=vA f;have ht:=vA t;have hlt:(l.take (lenV t).toNat).length=(lenV t).toNat:=by rw[uT]; omega
 have hok:okL (lenV f) (l.take (lenV t).toNat):=h.ok.take _;have hwf:∀s∈l.take (lenV t).toNat,s.wf:=fun s hs=>h.wf s (List.mem_of_mem_take hs)
 refine⟨ofPP_ok ⟨by omega,by omega⟩ (by omega) hok,fun k hk1 hk2=>⟨ofOf_wf ⟨by omega,by omega⟩ (by omega) hwf,ofOf_check ⟨by omega,by omega⟩ (by omega) hok,rfl,by rw[hk1]; rfl,?_⟩⟩;show((l.take (lenV t).toNat).length:Int)=lenV k.t
 rw[hlt,hk2]; omega
structure MadeS (s : SrvL) : Prop where
 good:GoodS s
 g:MadeG s.g
 cache:s.cache=[]
structure MpW where
 k:Nat
 ps:List PatL
 css:List (List Value)
 a:Option Addr
 c:Nat
structure MpI (g : GrL) (k : Nat) (ps : List PatL) : Prop where
 k0:k≤g.ls.length
 len:ps.length=k
 fit:∀(i:Nat) (x:LnkL) (p:PatL),g.ls[i]? = some x→ps[i]? = some p→FitL x p
theorem MpI.snoc {g:GrL}{k:Nat}{ps:List PatL}{p:PatL}{x:LnkL}(h:MpI g k ps)(hx:g.ls[k]? = some x)(hp:FitL x p):MpI g (k+1) (ps++[p]):=by
 have h1:=(uc.1 hx).1;have h2:=h.len;refine⟨by omega,by rw[ug,QH]; omega,fun i y q hy hq=>?_⟩;by_cases hi:i < k
 · rw [Qc (by omega)] at hq
   exact h.fit i y q hy hq
 · rw [Qb (by omega)] at hq
   have h3:=(uc.1 hq).1;rw[QH]at h3;have hik:i=k:=by omega
   subst hik;rw[hx]at hy;rw[show i - ps.length=0 by omega]at hq;obtain rfl:=Option.some.inj hq;obtain rfl:=Option.some.inj hy;exact hp
structure MgW where
 k:Nat
 l:List Int
 a:Option Addr
 c:Nat
structure MgI (g : GrL) (l : List Int) : Prop where
 inc:l.Pairwise (· < ·)
 sub:∀v∈l,v∈g.vs
theorem MgI.ins {g:GrL}{l:List Int}{v:Int}(h:MgI g l)(hv:v∈g.vs):MgI g (insI l v):=by
 refine⟨jb h.inc,fun u hu=>?_⟩;rcases jN.1 hu with rfl | hu
 · exact hv
 · exact h.sub u hu
theorem MgI.len {g:GrL}{l:List Int}(h:MgI g l)(hg:MadeG g):l.length≤7:=by
 have:=nodup_len h.inc h.sub;have:=hg.vn;omega
structure CssA (I : Imm) (css : List (List Value)) (ps : List PatL) : Prop where
 a:All2 (RPatC I) css ps
theorem CssA.mono {I J:Imm}{css:List (List Value)}{ps:List PatL}(h:CssA I css ps)(hs:Inl.Sub I J):CssA J css ps:=⟨All2.mono h.a fun _ _ h=>h.mono hs⟩
set_option maxHeartbeats 4000000 in
theorem fitted_c (r : Int) (ad : Option Addr) (cap : Nat) (l : List Q4) (f t : Int) (w0 : World) (I0 : Imm) (hI : Sat I0 w0) (hl : RFl I0 4 q4C (.slice ad l.length cap) l) (hq : ∀ q ∈ l, q.wf) (hf : 0 ≤ f ∧ f ≤ 1000000) (ht : 0 ≤ t ∧ t ≤ 1000000) :
 Ctr prog 25 [.agg #[.int .u8 r,.slice ad l.length cap],.int .i64 f,.int .i64 t] w0 (fun v w'=>∃I' p a m c,v = .agg #[.bool p.lifted,.int .i64 p.in_,.int .i64 p.out,.slice a m c]∧Ext w0 I0 w' I'∧ROps I' (.slice a m c) p.ops∧∀k:LnkL,k.f=f→k.t=t→FitL k p):=by
 have hfb:=vA f;have htb:=vA t;obtain⟨p,hp⟩:∃p,madeP l (lenV f)=p:=⟨_,rfl⟩
 have hpk:=madeP_ok hq (show 0≤lenV f∧lenV f≤65536 by omega);have hpw:=madeP_wf hq (show 0≤lenV f∧lenV f≤65536 by omega);have hpi:(madeP l (lenV f)).in_=lenV f:=rfl;rw[hp]at hpk hpw hpi;obtain⟨h81,h82,_⟩:=qP hpk.1;have hok:=(zD _ h81).1;rw[hpi]at hok;have hsw:=symsOf_wf1 hpw hpk.1;obtain⟨S,hS0⟩:∃S,symsOf p.ops=S:=⟨_,rfl⟩
 rw[hS0]at h82 hok hsw;have hSI:FtI (lenV f) S:=⟨hok,hsw,by have:=hpk.2.1; omega⟩
 refine fn (n:=43) func25 rfl rfl rfl ?_;have hS:=St.start hI;refine QwR (qe (d_box (cs:=[.int .u8 _,.slice _ _ _]) hS rfl) ?_);clear hS;rintro _ w_1⟨b3,rfl,hS⟩;refine qe (qw (cs:=[.bool _,.int .i64 _,.int .i64 _,.slice _ _ _]) hS uQ rfl) ?_;clear hS;rintro _ w_2⟨b6,rfl,hS⟩;refine QoN (meet (fun σ w=>∃I b7 a15 m15 c15,okS σ [(1,.int .i64 f),(2,.int .i64 t),(3,.pointer (some ⟨b3,0,none⟩)),(6,.pointer (some ⟨b6,0,none⟩)),(7,.pointer (some ⟨b7,0,none⟩))]∧St [] w0 I0 I w [.cel b7 46 [.bool p.lifted,.int .i64 p.in_,.int .i64 p.out,.slice a15 m15 c15],.cel b6 46 [.bool false,.int .i64 0,.int .i64 0,.slice none 0 0],.cel b3 63 [.int .u8 r,.slice ad l.length cap]]∧RFl I 4 q4C (.slice ad l.length cap) l∧ROps I (.slice a15 m15 c15) p.ops) ?_ ?_)
 ·
  refine draw (.cons 0 .held (.cons 1 .pure (.fork 2 (.fork 3 (.cons 4 .eff (.cons 5 .bar .nil)) 4 (.cons 3 .eff (.cons 5 .bar .nil))) 4 (.cons 2 .eff (.cons 3 .eff (.cons 5 .bar .nil)))))) mixed (by kernel_rfl) hS ?_;intro w_3 hS;refine sh rfl (g_ldO 1 (vs:=[.int .u8 _,.slice _ _ _]) Ko KK rfl rfl rfl rfl) (sp rfl (Qmi rfl) (sk ?_ ?_))
  ·
   have hS0:=hS;refine se rfl (ql KP rfl (kX f _ _ hS.imm hf.1 hf.2)) ?_;rintro _ w_4⟨rfl,hE⟩;replace hS:=hS.call hE;refine⟨_,_,hS0.le hE.ext (xY _),hS,sk ?_ ?_⟩
   ·
    have hS0:=hS;refine se rfl (ql call56 rfl (sized_30 r ad l.length cap l (lenV f) p _ _ hS.imm hl rfl hq (by omega) hp)) ?_;rintro _ w_5⟨I_f,a15,m15,c15,rfl,hE,h15⟩;replace hS:=hS.call hE;replace hl:=hl.mono hE.ext;refine⟨_,_,hS0.le hE.ext (xY _),hS,?_⟩;have hS0:=hS;refine se rfl (qw (cs:=[.bool _,.int .i64 _,.int .i64 _,.slice _ _ _]) hS uQ rfl) ?_;rintro _ w_6⟨b7,rfl,hS⟩;refine⟨_,_,hS0.le (Sub.refl _) (ue _ _),hS,sb rfl (qj 0 hS ul rfl rfl rfl (vs:=[.bool _,.int .i64 _,.int .i64 _,.slice _ _ _]) rfl rfl rfl (xP rfl) (cs':=[_,_,_,_]) rfl) ?_⟩;rintro _ w_7⟨rfl,hS⟩;refine⟨_,_,hS,sn (xN ?_)⟩;exact⟨_,rfl,_,b7,a15,m15,c15,⟨rfl,rfl,rfl,rfl,rfl,trivial⟩,hS,hl,h15⟩
   ·
    have hS0:=hS;refine se rfl (qw (cs:=[.bool _,.int .i64 _,.int .i64 _,.slice _ _ _]) hS uQ rfl) ?_;rintro _ w_8⟨b7,rfl,hS⟩;refine⟨_,_,hS0.le (Sub.refl _) (ue _ _),hS,?_⟩;have hS0:=hS;refine se rfl (ql call56 rfl (sized_30 r ad l.length cap l (lenV f) p _ _ hS.imm hl rfl hq (by omega) hp)) ?_;rintro _ w_9⟨I_f,a15,m15,c15,rfl,hE,h15⟩;replace hS:=hS.call hE;replace hl:=hl.mono hE.ext;refine⟨_,_,hS0.le hE.ext (xY _),hS,sb rfl (qj 0 hS ul rfl rfl rfl (vs:=[.bool _,.int .i64 _,.int .i64 _,.slice _ _ _]) rfl rfl rfl (xP rfl) (cs':=[_,_,_,_]) rfl) ?_⟩;rintro _ w_10⟨rfl,hS⟩;refine⟨_,_,hS,sn (xN ?_)⟩;exact⟨_,rfl,_,b7,a15,m15,c15,⟨rfl,rfl,rfl,rfl,rfl,trivial⟩,hS,hl,h15⟩
  ·
   have hS0:=hS;refine se rfl (qw (cs:=[.bool _,.int .i64 _,.int .i64 _,.slice _ _ _]) hS uQ rfl) ?_;rintro _ w_11⟨b7,rfl,hS⟩;refine⟨_,_,hS0.le (Sub.refl _) (ue _ _),hS,?_⟩;have hS0:=hS;refine se rfl (ql KP rfl (kX f _ _ hS.imm hf.1 hf.2)) ?_;rintro _ w_12⟨rfl,hE⟩;replace hS:=hS.call hE;refine⟨_,_,hS0.le hE.ext (xY _),hS,?_⟩;have hS0:=hS;refine se rfl (ql call56 rfl (sized_30 r ad l.length cap l (lenV f) p _ _ hS.imm hl rfl hq (by omega) hp)) ?_;rintro _ w_13⟨I_f,a15,m15,c15,rfl,hE,h15⟩;replace hS:=hS.call hE;replace hl:=hl.mono hE.ext;refine⟨_,_,hS0.le hE.ext (xY _),hS,sb rfl (qj 0 hS ul rfl rfl rfl (vs:=[.bool _,.int .i64 _,.int .i64 _,.slice _ _ _]) rfl rfl rfl (xP rfl) (cs':=[_,_,_,_]) rfl) ?_⟩;rintro _ w_14⟨rfl,hS⟩;refine⟨_,_,hS,sn (xN ?_)⟩;exact⟨_,rfl,_,b7,a15,m15,c15,⟨rfl,rfl,rfl,rfl,rfl,trivial⟩,hS,hl,h15⟩
 ·
  rintro σ w_j⟨I,b7,a15,m15,c15,hs,hS,hl,h15⟩;rw[← qx hs];refine QwR (qq hS (g_ldO 0 (vs:=[.bool _,.int .i64 _,.int .i64 _,.slice _ _ _]) ul uO rfl rfl rfl rfl) (qe (ql call57 rfl (symbolsR_o30 p S a15 m15 c15 _ _ hS.imm h15 hpw hpk.1 hS0)) ?_));rintro _ w_15⟨a18,c18,rfl,hE⟩;replace hS:=hS.call hE;refine qq hS (qk _) (qq hS (qt rfl rfl) (qq hS (Qxi rfl rfl) (qq hS (qy _) (qq hS (Qai rfl) (QoN (xL (uk (loop (fun(x:FtW) σ w=>okS σ [(1,.int .i64 f),(2,.int .i64 t),(3,.pointer (some ⟨b3,0,none⟩)),(6,.pointer (some ⟨b6,0,none⟩)),(7,.pointer (some ⟨b7,0,none⟩)),(8,.slice x.a x.l.length x.c)]∧St [] w0 I0 I w [.row (.slice x.a x.l.length x.c) 122 3 x.l.length (flat symC x.l),.cel b7 46 [.bool p.lifted,.int .i64 p.in_,.int .i64 p.out,.slice a15 m15 c15],.cel b6 46 [.bool false,.int .i64 0,.int .i64 0,.slice none 0 0],.cel b3 63 [.int .u8 r,.slice ad l.length cap]]∧FtI (lenV f) x.l) (fun x=>6 - x.l.length) (⟨S,a18,c18⟩) ?_ ?_))))))))
  ·
   exact⟨⟨rfl,rfl,rfl,rfl,rfl,rfl,trivial⟩,hS.sel [true,true,true,true],hSI⟩
  ·
   rintro⟨S1,a,c⟩σ w_l⟨hs,hS,hSx⟩;dsimp only at hs hS hSx ⊢;rw[← qx hs]; clear hs
   refine xL (QwR (qq hS (qk _) (qq hS (xE 0 rfl uG rfl rfl) (qq hS (Qmi rfl) (qe (ql KP rfl (kX t _ _ hS.imm ht.1 ht.2)) ?_)))));rintro _ w_16⟨rfl,hE⟩;replace hS:=hS.callE hE;refine qq hS (g_lss rfl rfl) (QoN (qo rfl ?_ ?_))
   ·
    intro hc25
    try simp only[zA,zO,zN,zI,zF,zM,zT,zU]at hc25
    have hnx:=hSx.snoc (by omega) (show 0≤IntKind.wrap .u8 t∧IntKind.wrap .u8 t≤255 by rw[IntKind.wrap_u8]; omega);refine xZ (xN (uk (reg (qq hS (qk _) (qq hS (Qmi rfl) (qq hS (vE Qg Qx rfl) (qq hS (qv (pl:=[(0,1),(1,1),(2,1)]) (cs:=[.bool _,.int .i64 _,.int .u8 _]) QM uB (fun w=>by simp[xX,uC,uJ]) (mp (v:=.int .u8 _) rfl mp0) rfl) ?_)))))));refine qe (d_lit (vs:=[.agg #[.bool _,.int .i64 _,.int .u8 _]]) (cs:=[.bool _,.int .i64 _,.int .u8 _]) hS uG uN QM rfl rfl rfl rfl (fun v hv=>by simp only[uq,ur,or_false]at hv; subst hv; rfl) rfl) ?_;clear hS;rintro _ w_17⟨b30,rfl,hS⟩;refine qe (qE 1 0 hS rfl uG info122 rfl rfl rfl rfl rfl rfl rfl rfl (by omega) (by omega)) ?_;clear hS;rintro _ w_18⟨a31,p31,rfl,hS⟩;refine qq hS (qy _) ?_;exact⟨⟨S1++[⟨false,0,IntKind.wrap .u8 t⟩],a31,p31⟩,_,rfl,⟨by dsimp only; rw[ug]; exact⟨rfl,rfl,rfl,rfl,rfl,rfl,trivial⟩,by dsimp only; rw[ug,qB]; exact hS.sel [false,true,true,true,true],hnx⟩,by dsimp only; rw[ug,QH]; omega⟩
   ·
    intro hc25
    try simp only[zA,zO,zN,zI,zF,zM,zT,zU]at hc25
    obtain⟨hof,hfit⟩:=fitted_ok (f:=f) (t:=t) hSx (by omega);obtain⟨F,hF⟩:∃F,ofOf (lenV f) (S1.take (lenV t).toNat)=F:=⟨_,rfl⟩
    rw[hF]at hof hfit;have hln:=hSx.len;refine uD (uA (uA (Qw (xN (meet (fun σ w=>∃I b10 a39 m39 c39,okS σ [(6,.pointer (some ⟨b6,0,none⟩)),(10,.pointer (some ⟨b10,0,none⟩))]∧St [] w0 I0 I w [.cel b10 46 [.bool F.lifted,.int .i64 F.in_,.int .i64 F.out,.slice a39 m39 c39],.cel b6 46 [.bool false,.int .i64 0,.int .i64 0,.slice none 0 0]]∧ROps I (.slice a39 m39 c39) F.ops) ?_ ?_)))))
    ·
     have hF:=St.freezeRow (u:=.slice a S1.length c) (m:=S1.length) (xs:=S1) vk (by exact hS.ord [0,1,2,3]) (rfl);clear hS;obtain⟨I_hsy,hS,hI_hsy,hsy⟩:=hF;replace hl:=hl.mono hI_hsy;replace h15:=h15.mono hI_hsy;have hcap:=(RSl.len_cap hsy).1;have hs36:=RSl.slH hsy (lenV t).toNat (by omega);obtain⟨a36,c36,hv36,_⟩:=hs36.len;rw[hv36]at hs36;have hl36:(S1.take (lenV t).toNat).length=(S1.take (lenV t).toNat).length:=rfl;refine draw (.cons 0 .pure (.cons 1 .pure (.cons 4 .pure (.fork 2 (.cons 3 .pure (.fork 5 (.fork 6 (.cons 7 .pure (.cons 8 .pure (.cons 9 .pure (.cons 10 .eff (.cons 11 .bar (.cons 12 .pure .nil)))))) 10 (.cons 6 .eff (.cons 7 .pure (.cons 8 .pure (.cons 9 .pure (.cons 11 .bar (.cons 12 .pure .nil))))))) 10 (.cons 5 .eff (.cons 6 .eff (.cons 7 .pure (.cons 8 .pure (.cons 9 .pure (.cons 11 .bar (.cons 12 .pure .nil))))))))) 10 (.cons 2 .eff (.cons 3 .pure (.cons 5 .eff (.cons 6 .eff (.cons 7 .pure (.cons 8 .pure (.cons 9 .pure (.cons 11 .bar (.cons 12 .pure .nil))))))))))))) mixed (by kernel_rfl) hS ?_;intro w_19 hS;refine sp rfl (qk _) (sp rfl (Qmi rfl) (sp rfl (Qmi rfl) (sk ?_ ?_)))
     ·
      have hS0:=hS;refine se rfl (ql KP rfl (kX t _ _ hS.imm ht.1 ht.2)) ?_;rintro _ w_20⟨rfl,hE⟩;replace hS:=hS.call hE;refine⟨_,_,hS0.le hE.ext (xY _),hS,sp rfl (g_toV (zV (h0:=(lenV t).toNat) uG uN rfl rfl (by omega) (by omega) rfl) hv36) (sk ?_ ?_)⟩
      ·
       have hS0:=hS;refine se rfl (ql KP rfl (kX f _ _ hS.imm hf.1 hf.2)) ?_;rintro _ w_21⟨rfl,hE⟩;replace hS:=hS.call hE;refine⟨_,_,hS0.le hE.ext (xY _),hS,sk ?_ ?_⟩
       ·
        have hS0:=hS;refine se rfl (ql call58 rfl (refOf_30 _ _ _ (S1.take (lenV t).toNat) (lenV f) _ _ _ hS.imm hs36 hl36 (fun s hs=>hSx.wf s (List.mem_of_mem_take hs)) (by unfold Mid; omega) hof)) ?_;rintro _ w_22⟨I_f,a39,m39,c39,rfl,hE,h39⟩;replace hS:=hS.call hE;replace hl:=hl.mono hE.ext;replace h15:=h15.mono hE.ext;replace hsy:=hsy.mono hE.ext;refine⟨_,_,hS0.le hE.ext (xY _),hS,sp rfl (qk _) (sp rfl (qt rfl rfl) (sp rfl (Qxi rfl rfl) ?_))⟩;have hS0:=hS;refine se rfl (qw (cs:=[.bool _,.int .i64 _,.int .i64 _,.slice _ _ _]) hS uQ rfl) ?_;rintro _ w_23⟨b10,rfl,hS⟩;refine⟨_,_,hS0.le (Sub.refl _) (ue _ _),hS,sb rfl (qj 0 hS ul rfl rfl rfl (vs:=[.bool _,.int .i64 _,.int .i64 _,.slice _ _ _]) rfl rfl rfl (xP rfl) (cs':=[_,_,_,_]) rfl) ?_⟩;rintro _ w_24⟨rfl,hS⟩;refine⟨_,_,hS,sp rfl (Qai rfl) (sn (xN ?_))⟩;exact⟨_,rfl,_,b10,a39,m39,c39,⟨rfl,rfl,trivial⟩,(hS.sel [true,false,true,false]),h39⟩
       ·
        have hS0:=hS;refine se rfl (qw (cs:=[.bool _,.int .i64 _,.int .i64 _,.slice _ _ _]) hS uQ rfl) ?_;rintro _ w_25⟨b10,rfl,hS⟩;refine⟨_,_,hS0.le (Sub.refl _) (ue _ _),hS,?_⟩;have hS0:=hS;refine se rfl (ql call58 rfl (refOf_30 _ _ _ (S1.take (lenV t).toNat) (lenV f) _ _ _ hS.imm hs36 hl36 (fun s hs=>hSx.wf s (List.mem_of_mem_take hs)) (by unfold Mid; omega) hof)) ?_;rintro _ w_26⟨I_f,a39,m39,c39,rfl,hE,h39⟩;replace hS:=hS.call hE;replace hl:=hl.mono hE.ext;replace h15:=h15.mono hE.ext;replace hsy:=hsy.mono hE.ext;refine⟨_,_,hS0.le hE.ext (xY _),hS,sp rfl (qk _) (sp rfl (qt rfl rfl) (sp rfl (Qxi rfl rfl) (sb rfl (qj 0 hS ul rfl rfl rfl (vs:=[.bool _,.int .i64 _,.int .i64 _,.slice _ _ _]) rfl rfl rfl (xP rfl) (cs':=[_,_,_,_]) rfl) ?_)))⟩;rintro _ w_27⟨rfl,hS⟩;refine⟨_,_,hS,sp rfl (Qai rfl) (sn (xN ?_))⟩;exact⟨_,rfl,_,b10,a39,m39,c39,⟨rfl,rfl,trivial⟩,(hS.sel [true,false,true,false]),h39⟩
      ·
       have hS0:=hS;refine se rfl (qw (cs:=[.bool _,.int .i64 _,.int .i64 _,.slice _ _ _]) hS uQ rfl) ?_;rintro _ w_28⟨b10,rfl,hS⟩;refine⟨_,_,hS0.le (Sub.refl _) (ue _ _),hS,?_⟩;have hS0:=hS;refine se rfl (ql KP rfl (kX f _ _ hS.imm hf.1 hf.2)) ?_;rintro _ w_29⟨rfl,hE⟩;replace hS:=hS.call hE;refine⟨_,_,hS0.le hE.ext (xY _),hS,?_⟩;have hS0:=hS;refine se rfl (ql call58 rfl (refOf_30 _ _ _ (S1.take (lenV t).toNat) (lenV f) _ _ _ hS.imm hs36 hl36 (fun s hs=>hSx.wf s (List.mem_of_mem_take hs)) (by unfold Mid; omega) hof)) ?_;rintro _ w_30⟨I_f,a39,m39,c39,rfl,hE,h39⟩;replace hS:=hS.call hE;replace hl:=hl.mono hE.ext;replace h15:=h15.mono hE.ext;replace hsy:=hsy.mono hE.ext;refine⟨_,_,hS0.le hE.ext (xY _),hS,sp rfl (qk _) (sp rfl (qt rfl rfl) (sp rfl (Qxi rfl rfl) (sb rfl (qj 0 hS ul rfl rfl rfl (vs:=[.bool _,.int .i64 _,.int .i64 _,.slice _ _ _]) rfl rfl rfl (xP rfl) (cs':=[_,_,_,_]) rfl) ?_)))⟩;rintro _ w_31⟨rfl,hS⟩;refine⟨_,_,hS,sp rfl (Qai rfl) (sn (xN ?_))⟩;exact⟨_,rfl,_,b10,a39,m39,c39,⟨rfl,rfl,trivial⟩,(hS.sel [true,false,true,false]),h39⟩
     ·
      have hS0:=hS;refine se rfl (qw (cs:=[.bool _,.int .i64 _,.int .i64 _,.slice _ _ _]) hS uQ rfl) ?_;rintro _ w_32⟨b10,rfl,hS⟩;refine⟨_,_,hS0.le (Sub.refl _) (ue _ _),hS,?_⟩;have hS0:=hS;refine se rfl (ql KP rfl (kX t _ _ hS.imm ht.1 ht.2)) ?_;rintro _ w_33⟨rfl,hE⟩;replace hS:=hS.call hE;refine⟨_,_,hS0.le hE.ext (xY _),hS,sp rfl (g_toV (zV (h0:=(lenV t).toNat) uG uN rfl rfl (by omega) (by omega) rfl) hv36) ?_⟩;have hS0:=hS;refine se rfl (ql KP rfl (kX f _ _ hS.imm hf.1 hf.2)) ?_;rintro _ w_34⟨rfl,hE⟩;replace hS:=hS.call hE;refine⟨_,_,hS0.le hE.ext (xY _),hS,?_⟩;have hS0:=hS;refine se rfl (ql call58 rfl (refOf_30 _ _ _ (S1.take (lenV t).toNat) (lenV f) _ _ _ hS.imm hs36 hl36 (fun s hs=>hSx.wf s (List.mem_of_mem_take hs)) (by unfold Mid; omega) hof)) ?_;rintro _ w_35⟨I_f,a39,m39,c39,rfl,hE,h39⟩;replace hS:=hS.call hE;replace hl:=hl.mono hE.ext;replace h15:=h15.mono hE.ext;replace hsy:=hsy.mono hE.ext;refine⟨_,_,hS0.le hE.ext (xY _),hS,sp rfl (qk _) (sp rfl (qt rfl rfl) (sp rfl (Qxi rfl rfl) (sb rfl (qj 0 hS ul rfl rfl rfl (vs:=[.bool _,.int .i64 _,.int .i64 _,.slice _ _ _]) rfl rfl rfl (xP rfl) (cs':=[_,_,_,_]) rfl) ?_)))⟩;rintro _ w_36⟨rfl,hS⟩;refine⟨_,_,hS,sp rfl (Qai rfl) (sn (xN ?_))⟩;exact⟨_,rfl,_,b10,a39,m39,c39,⟨rfl,rfl,trivial⟩,(hS.sel [true,false,true,false]),h39⟩
    ·
     rintro σ w_j⟨I,b10,a39,m39,c39,hs,hS,h39⟩;rw[← qx hs];refine QwR (qq hS (g_ldO 0 (vs:=[.bool _,.int .i64 _,.int .i64 _,.slice _ _ _]) ul uO rfl rfl rfl rfl) (qe (qj 1 hS ul rfl rfl rfl (vs:=[.bool _,.int .i64 _,.int .i64 _,.slice _ _ _]) rfl rfl rfl (xP rfl) (cs':=[_,_,_,_]) rfl) ?_));clear hS;rintro _ w_37⟨rfl,hS⟩;refine QoN (ub (ret1 results25 (qD 1 hS ul uO rfl rfl rfl) ?_));exact⟨_,F,a39,m39,c39,rfl,hS.nil,h39,hfit⟩
set_option maxHeartbeats 4000000 in
theorem zK (av al ap ag : Option Addr) (cv cl cp cg : Nat) (V : List Int) (Q : List Q6) (X : List RawL) (Z : List Int) (w0 : World) (I0 : Imm) (hI : Sat I0 w0) (hV : RBytes I0 (.slice av V.length cv) V) (hVb : ∀ x ∈ V, 0 ≤ x ∧ x ≤ 255) (hQ : RFl I0 6 q6C (.slice al Q.length cl) Q) (hQw : ∀ q ∈ Q, q.wf) (hX : RRaws I0 (.slice ap X.length cp) X) (hXw : ∀ x ∈ X, x.wf) (hZ : RBytes I0 (.slice ag Z.length cg) Z) (hZb : ∀ x ∈ Z, 0 ≤ x ∧ x ≤ 255) :
 Ctr prog 12 [.agg #[.slice av V.length cv,.slice al Q.length cl,.slice ap X.length cp,.slice ag Z.length cg]] w0 (fun v w'=>∃I' s A,v = .agg #[.slice A.a0 s.g.vs.length A.c0,.slice A.a1 s.g.ls.length A.c1,.slice A.a2 s.ps.length A.c2,.slice A.a3 s.gone.length A.c3,.slice A.a4 s.cache.length A.c4]∧Ext w0 I0 w' I'∧RSrv I' A s∧MadeS s):=by
 have hlx:=RSl.le hX;have hlz:=RSl.le hZ;simp only[maxLen]at hlx hlz;refine fn (n:=90) func12 rfl rfl rfl ?_;have hS:=St.start hI;refine QwR (qe (d_box (cs:=[.slice _ _ _,.slice _ _ _,.slice _ _ _,.slice _ _ _]) hS rfl) ?_);clear hS;rintro _ w_1⟨b1,rfl,hS⟩;refine qe (qw (cs:=[.slice _ _ _,.slice _ _ _,.slice _ _ _,.slice _ _ _,.slice _ _ _]) hS Qd rfl) ?_;clear hS;rintro _ w_2⟨b2,rfl,hS⟩;refine QoR (qq hS (qb (o':=0) JK rfl sizeOf25 rfl rfl rfl) (qq hS (g_ldO 1 (vs:=[.slice _ _ _,.slice _ _ _]) sizeOf25 isAgg25 rfl rfl rfl rfl) (qe (ql call44 rfl (madeG_c av al cv cl V Q _ _ hS.imm hV hVb hQ hQw)) ?_)));rintro _ w_3⟨I_f,g,a0,c0,a1,c1,rfl,hE,hG,hgm⟩;replace hS:=hS.callE hE;replace hV:=hV.mono hE.ext;replace hQ:=hQ.mono hE.ext;replace hX:=hX.mono hE.ext;replace hZ:=hZ.mono hE.ext;have hgn:=hgm.vn;have hgl:=hgm.ln;refine qq hS (qv (pl:=[(0,2),(2,1),(3,1),(4,1)]) (cs:=[.slice _ _ _,.slice _ _ _,.slice _ _ _,.slice _ _ _,.slice _ _ _]) Qd un (fun w=>by simp[uo,uv,QZ,Jk]) (mp (v:=.agg #[.slice _ _ _,.slice _ _ _]) rfl mp0) rfl) (qe (qw (cs:=[.slice _ _ _,.slice _ _ _,.slice _ _ _,.slice _ _ _,.slice _ _ _]) hS Qd rfl) ?_);clear hS;rintro _ w_4⟨b3,rfl,hS⟩;refine qe (qj 0 hS um rfl rfl rfl (vs:=[.slice _ _ _,.slice _ _ _,.slice _ _ _,.slice _ _ _,.slice _ _ _]) rfl rfl rfl (xP rfl) (cs':=[_,_,_,_,_]) rfl) ?_;clear hS;rintro _ w_5⟨rfl,hS⟩;refine QoN (xL (QwR (qq hS (Qai rfl) (QoN (uk (loop (fun(x:MpW) σ w=>okS σ [(1,.pointer (some ⟨b1,0,none⟩)),(2,.pointer (some ⟨b2,0,none⟩)),(3,.pointer (some ⟨b3,0,none⟩)),(4,.int .i64 x.k)]∧∃I,St [] w0 I0 I w [.row (.slice x.a x.k x.c) 46 4 x.k x.css.flatten,.cel b3 38 [.slice a0 g.vs.length c0,.slice a1 g.ls.length c1,.slice x.a x.k x.c,.slice none 0 0,.slice none 0 0],.cel b2 38 [.slice none 0 0,.slice none 0 0,.slice none 0 0,.slice none 0 0,.slice none 0 0],.cel b1 28 [.slice av V.length cv,.slice al Q.length cl,.slice ap X.length cp,.slice ag Z.length cg]]∧(MpI g x.k x.ps∧CssA I x.css x.ps)∧RBytes I (.slice av V.length cv) V∧RFl I 6 q6C (.slice al Q.length cl) Q∧RRaws I (.slice ap X.length cp) X∧RBytes I (.slice ag Z.length cg) Z∧RGr I a0 c0 a1 c1 g) (fun x=>g.ls.length - x.k) (⟨0,[],[],none,0⟩) ?_ ?_))))))
 ·
  exact⟨⟨rfl,rfl,rfl,rfl,trivial⟩,_,(hS.sel [true,true,true]).nilRow 46 4,⟨⟨Nat.zero_le _,rfl,fun _ _ _ _ h=>by simp at h⟩,⟨All2.nil _⟩⟩,hV,hQ,hX,hZ,hG⟩
 ·
  rintro⟨k,ps,css,a,c⟩σ w_l⟨hs,I,hS,⟨hI,hcsA⟩,hV,hQ,hX,hZ,hG⟩;dsimp only at hs hS hI hcsA ⊢;rw[← qx hs]; clear hs
  refine xL (QwR (qq hS (Qmi rfl) (qq hS (qb (o':=0) un rfl uv rfl rfl rfl) (qq hS (qb (o':=1) ut rfl uZ rfl rfl rfl) (qq hS (qi 1 Jm rfl rfl rfl) (qq hS (qz rfl uy hG.ls rfl) (qq hS (g_lss rfl rfl) (QoN (qo rfl ?_ ?_)))))))))
  ·
   intro hc16
   try simp only[zA,zO,zN,zI,zF,zM,zT,zU]at hc16
   obtain⟨q,hqi⟩:∃x,g.ls[k]? = some x:=⟨_,xW (by omega)⟩
   have hkA:=hG.ls.at hqi;have hqG:=hgm.val.ls q (uf hqi);have hqf:0≤q.f∧q.f≤1000000:=by have:=hgm.val.vb _ hqG.f; omega
   have hqt:0≤q.t∧q.t≤1000000:=by have:=hgm.val.vb _ hqG.t; omega
   refine xZ (xN (xL (uk (QwR (qq hS (qv (pl:=[(0,1),(1,1)]) (cs:=[.int .u8 _,.slice _ _ _]) zeroValue63 Kq (fun w=>by simp[uJ,sizeOf61]) mp0 rfl) (qe (qw (cs:=[.int .u8 _,.slice _ _ _]) hS zeroValue63 rfl) ?_))))));clear hS;rintro _ w_6⟨b5,rfl,hS⟩;refine qe (qj 0 hS Ko rfl rfl rfl (vs:=[.int .u8 _,.slice _ _ _]) rfl rfl rfl (xP rfl) (cs':=[_,_]) rfl) ?_;clear hS;rintro _ w_7⟨rfl,hS⟩;refine QoN (meet (fun σ w=>∃r ar cr y,okS σ [(1,.pointer (some ⟨b1,0,none⟩)),(2,.pointer (some ⟨b2,0,none⟩)),(3,.pointer (some ⟨b3,0,none⟩)),(4,.int .i64 k),(5,.pointer (some ⟨b5,0,none⟩))]∧St [] w0 I0 I w [.cel b5 63 [.int .u8 r,.slice ar y.length cr],.row (.slice a k c) 46 4 k css.flatten,.cel b3 38 [.slice a0 g.vs.length c0,.slice a1 g.ls.length c1,.slice a k c,.slice none 0 0,.slice none 0 0],.cel b2 38 [.slice none 0 0,.slice none 0 0,.slice none 0 0,.slice none 0 0,.slice none 0 0],.cel b1 28 [.slice av V.length cv,.slice al Q.length cl,.slice ap X.length cp,.slice ag Z.length cg]]∧RFl I 4 q4C (.slice ar y.length cr) y∧∀q∈y,q.wf) ?_ ?_)
   ·
    refine QwR (qq hS (Qmi rfl) (qq hS (qb (o':=2) JK rfl sizeOf26 rfl rfl rfl) (qq hS (qi 4 isAgg26 rfl rfl rfl) (qq hS (qz rfl underlying26 hX rfl) (qq hS (g_lss rfl rfl) (QoN (qo rfl ?_ ?_)))))))
    ·
     intro hc24
     try simp only[zA,zO,zN,zI,zF,zM,zT,zU]at hc24
     obtain⟨x,hxi⟩:∃x,X[k]? = some x:=⟨_,xW (by omega)⟩
     obtain⟨csx,hclx,hxA,hxc⟩:=RSl.at hX hxi;obtain⟨ax,cx,rfl,hxl⟩:=hxc;have hxw:=hXw x (uf hxi);refine reg (qq hS (qb (o':=2) JK rfl sizeOf26 rfl rfl rfl) (qq hS (qi 4 isAgg26 rfl rfl rfl) (qq hS (Qmi rfl) (qq hS (g_ixI underlying26 Ko hX rfl rfl (by omega) (by omega)) (qq hS (g_ldE (us:=[.int .u8 _,.slice _ _ _]) Ko KK hxA rfl rfl rfl) (qe (qj 0 hS Ko rfl rfl rfl (vs:=[.int .u8 _,.slice _ _ _]) rfl rfl rfl (xP rfl) (cs':=[_,_]) rfl) ?_))))));clear hS;rintro _ w_8⟨rfl,hS⟩;refine QoN ?_
     first
      | exact⟨_,rfl,x.r,ax,cx,x.l,⟨rfl,rfl,rfl,rfl,rfl,trivial⟩,hS,hxl,hxw.l⟩
      | exact⟨_,rfl,0,none,0,[],⟨rfl,rfl,rfl,rfl,rfl,trivial⟩,hS,RFl.nil,fun _ h=>by cases h⟩
    ·
     intro hc24
     try simp only[zA,zO,zN,zI,zF,zM,zT,zU]at hc24
     refine xZ (xN ?_)
     first
      | exact⟨_,rfl,x.r,ax,cx,x.l,⟨rfl,rfl,rfl,rfl,rfl,trivial⟩,hS,hxl,hxw.l⟩
      | exact⟨_,rfl,0,none,0,[],⟨rfl,rfl,rfl,rfl,rfl,trivial⟩,hS,RFl.nil,fun _ h=>by cases h⟩
   ·
    rintro σ w_j⟨r,ar,cr,y,hs,hS,hy,hyw⟩;rw[← qx hs];refine draw (.cons 0 .pure (.cons 1 .held (.cons 2 .held (.cons 3 .pure (.cons 4 .pure (.cons 5 .held (.cons 6 .pure (.cons 7 .pure (.cons 8 .pure (.cons 9 .held (.cons 10 .pure (.cons 11 .pure (.cons 12 .held (.cons 13 .pure (.cons 14 .pure (.cons 15 .pure (.cons 16 .held (.cons 17 .eff (.cons 18 .eff (.cons 19 .bar (.cons 20 .pure (.cons 21 .bar .nil)))))))))))))))))))))) mixed (by kernel_rfl) hS ?_;intro w_9 hS;refine sp rfl (qb (o':=2) un rfl QZ rfl rfl rfl) (sh rfl (qi 2 JF rfl rfl rfl) (sh rfl (g_ldO 0 (vs:=[.int .u8 _,.slice _ _ _]) Ko KK rfl rfl rfl rfl) (sp rfl (qb (o':=0) un rfl uv rfl rfl rfl) (sp rfl (qb (o':=1) ut rfl uZ rfl rfl rfl) (sh rfl (qi 2 Jm rfl rfl rfl) (sp rfl (Qmi rfl) (sp rfl (g_ixI uy uM hG.ls rfl rfl (by omega) (by omega)) ?_)))))));refine sp rfl (qF (c':=0) uI rfl xX rfl rfl rfl) (sh rfl (qC uj hkA rfl rfl) (sp rfl (qb (o':=0) un rfl uv rfl rfl rfl) (sp rfl (qb (o':=1) ut rfl uZ rfl rfl rfl) (sh rfl (qi 2 Jm rfl rfl rfl) (sp rfl (Qmi rfl) (sp rfl (g_ixI uy uM hG.ls rfl rfl (by omega) (by omega)) (sp rfl (qF (c':=1) uI rfl xX rfl rfl rfl) ?_)))))));refine sh rfl (qC uj hkA rfl rfl) ?_;have hS0:=hS;refine se rfl (ql call25 rfl (fitted_c r ar cr y q.f q.t _ _ hS.imm hy hyw hqf hqt)) ?_;rintro _ w_10⟨I_f,p,a47,m47,c47,rfl,hE,h47,hfit⟩;replace hS:=hS.call hE;replace hV:=hV.mono hE.ext;replace hQ:=hQ.mono hE.ext;replace hX:=hX.mono hE.ext;replace hZ:=hZ.mono hE.ext;replace hG:=hG.mono hE.ext;replace hcsA:=hcsA.mono hE.ext
    replace hy:=hy.mono hE.ext;refine⟨_,_,hS0.le hE.ext (xY _),hS,?_⟩;have hS0:=hS;refine se rfl (d_lit (vs:=[.agg #[.bool _,.int .i64 _,.int .i64 _,.slice _ _ _]]) (cs:=[.bool _,.int .i64 _,.int .i64 _,.slice _ _ _]) hS Qf ul uQ rfl rfl rfl rfl (fun v hv=>by simp only[uq,ur,or_false]at hv; subst hv; rfl) rfl) ?_;rintro _ w_11⟨b48,rfl,hS⟩;refine⟨_,_,hS0.le (Sub.refl _) (ue _ _),hS,sb rfl (qE 2 0 hS rfl Qf info46 rfl rfl rfl rfl rfl rfl rfl rfl (by omega) (by omega)) ?_⟩;rintro _ w_12⟨a49,p49,rfl,hS⟩;refine⟨_,_,hS,sp rfl (qb (o':=2) un rfl QZ rfl rfl rfl) (sb rfl (qj 3 hS QZ rfl rfl rfl (vs:=[.slice _ _ _]) rfl rfl rfl (xP rfl) (cs':=[_,_,_,_,_]) rfl) ?_)⟩;rintro _ w_13⟨rfl,hS⟩;refine⟨_,_,hS,sn (Qh (xN (reg (qq hS (Qmi rfl) (qq hS (g_add rfl rfl (by omega) (by omega)) (qq hS (Qai rfl) ?_))))))⟩;exact⟨⟨k+1,ps++[p],css++[[.bool p.lifted,.int .i64 p.in_,.int .i64 p.out,.slice a47 m47 c47]],a49,p49⟩,_,rfl,⟨⟨rfl,rfl,rfl,rfl,trivial⟩,_,by dsimp only; rw[QT]; exact hS.sel [false,false,true,true,true,true],⟨hI.snoc hqi (hfit q rfl rfl),⟨hcsA.a.snoc ⟨_,_,_,rfl,h47⟩⟩⟩,hV,hQ,hX,hZ,hG⟩,by dsimp only; omega⟩
  ·
   intro hc16
   try simp only[zA,zO,zN,zI,zF,zM,zT,zU]at hc16
   obtain rfl:k=g.ls.length:=by have:=hI.k0; omega
   refine uD (uA (uA (Qw (xN (xL (xL ?_))))));have hF:=St.freezeRowR (u:=.slice a g.ls.length c) (m:=g.ls.length) (xs:=ps) (css:=css) (by exact hS.ord [0,1,2,3]) (by rw[hI.len]) (rpat_cl hcsA.a) (hcsA.a);clear hS;obtain⟨I_hps,hS,hI_hps,hps⟩:=hF;replace hV:=hV.mono hI_hps;replace hQ:=hQ.mono hI_hps;replace hX:=hX.mono hI_hps;replace hZ:=hZ.mono hI_hps;replace hG:=hG.mono hI_hps;replace hps:RPats I_hps (.slice a g.ls.length c) (ps):=RSl.mono hps (Sub.refl _) (fun _ _ h=>h.mono hI_hps);refine reg (qq hS (Qai rfl) (QoN (uk ?_)));obtain⟨apS,cpS,hap,hcp⟩:∃ap cp,a=ap∧c=cp:=⟨_,_,rfl,rfl⟩
   subst hap hcp;refine loop (fun(x:MgW) σ w=>okS σ [(1,.pointer (some ⟨b1,0,none⟩)),(2,.pointer (some ⟨b2,0,none⟩)),(3,.pointer (some ⟨b3,0,none⟩)),(6,.int .i64 x.k)]∧∃I,St [] w0 I0 I w [.cel b3 38 [.slice a0 g.vs.length c0,.slice a1 g.ls.length c1,.slice a g.ls.length c,.slice x.a x.l.length x.c,.slice none 0 0],.cel b2 38 [.slice none 0 0,.slice none 0 0,.slice none 0 0,.slice none 0 0,.slice none 0 0],.cel b1 28 [.slice av V.length cv,.slice al Q.length cl,.slice ap X.length cp,.slice ag Z.length cg]]∧(MgI g x.l∧RFl I 1 intC (.slice x.a x.l.length x.c) x.l)∧RPats I (.slice a g.ls.length c) ps∧RBytes I (.slice av V.length cv) V∧RFl I 6 q6C (.slice al Q.length cl) Q∧RRaws I (.slice ap X.length cp) X∧RBytes I (.slice ag Z.length cg) Z∧RGr I a0 c0 a1 c1 g) (fun x=>Z.length - x.k) (⟨0,[],none,0⟩) ?_ ?_
   ·
    exact⟨⟨rfl,rfl,rfl,rfl,trivial⟩,_,hS.sel [true,true,true],⟨⟨List.Pairwise.nil,fun _ h=>by cases h⟩,RFl.nil⟩,hps,hV,hQ,hX,hZ,hG⟩
   ·
    rintro⟨j,gl,a3,c3⟩σ w_l⟨hs,I,hS,⟨hI2,hgo⟩,hps,hV,hQ,hX,hZ,hG⟩;dsimp only at hs hS hI2 hgo ⊢;rw[← qx hs]; clear hs
    refine xL (QwR (qq hS (Qmi rfl) (qq hS (qb (o':=3) JK rfl Jf rfl rfl rfl) (qq hS (qi 2 JM rfl rfl rfl) (qq hS (qz rfl uU hZ rfl) (qq hS (g_lss rfl rfl) (qq hS (Qmb rfl) (qu rfl rfl hS (fun hg=>(Qmi rfl)) ?_))))))));intro u57 hu57 hn57;refine qu rfl rfl hS (fun hg=>(g_lss (hu57 hg) rfl)) ?_;intro u58 hu58 hn58;refine qq hS (g_and rfl rfl (fun hq=>hu58 hq)) (qq hS (Qmb rfl) (qu rfl rfl hS (fun hg=>(qb (o':=0) un rfl uv rfl rfl rfl)) ?_));intro u61 hu61 hn61;refine qu rfl rfl hS (fun hg=>(qb (o':=0) ut rfl uo rfl (hu61 hg) rfl)) ?_;intro u62 hu62 hn62;refine qu rfl rfl hS (fun hg=>(qi 0 uF rfl (hu62 hg) rfl)) ?_;intro u63 hu63 hn63;refine qu rfl rfl hS (fun hg=>(qz rfl ua hG.vs (hu63 hg))) ?_;intro u64 hu64 hn64;refine qu rfl rfl hS (fun hg=>(g_gtr (hu64 hg) rfl)) ?_;intro u65 hu65 hn65;refine qq hS (g_and rfl rfl (fun hq=>hu65 hq)) (QoN (qo rfl ?_ ?_))
    ·
     intro hc66;clear hu57 hn57 hu58 hn58 hu61 hn61 hu62 hn62 hu63 hn63 hu64 hn64 hu65 hn65
     try simp only[zA,zO,zN,zI,zF,zM,zT,zU]at hc66
     obtain⟨⟨hjn,hj3⟩,hv0⟩:=hc66;obtain⟨z,hzi⟩:∃z,Z[j]? = some z:=⟨_,xW (by omega)⟩
     have hzA:=hZ.at hzi;have hzb:=hZb z (uf hzi);have m1:=Int.emod_nonneg z (show(g.vs.length:Int)≠0 by omega);have m2:=Int.emod_lt_of_pos z (show 0 < (g.vs.length:Int) by omega);obtain⟨v,hvi⟩:∃v,g.vs[(z % (g.vs.length:Int)).toNat]? = some v:=⟨_,xW (by omega)⟩
     have hvA:=hG.vs.at hvi;have hgl7:=hI2.len hgm;have hnx:=hI2.ins (uf hvi);refine xZ (xN (xL (uk (draw (.cons 0 .pure (.cons 1 .held (.cons 2 .pure (.cons 3 .pure (.cons 4 .held (.cons 5 .pure (.cons 6 .held (.cons 7 .pure (.cons 8 .pure (.cons 9 .held (.cons 10 .pure (.cons 11 .pure (.cons 12 .pure (.cons 13 .held (.cons 14 .pure (.cons 15 .pure (.cons 16 .pure (.cons 17 .held (.cons 18 .eff (.cons 19 .pure (.cons 20 .bar .nil))))))))))))))))))))) mixed (by kernel_rfl) hS ?_))));intro w_14 hS;refine sp rfl (qb (o':=3) un rfl uo rfl rfl rfl) (sh rfl (qi 0 uF rfl rfl rfl) (sp rfl (qb (o':=0) un rfl uv rfl rfl rfl) (sp rfl (qb (o':=0) ut rfl uo rfl rfl rfl) (sh rfl (qi 0 uF rfl rfl rfl) (sp rfl (qb (o':=3) JK rfl Jf rfl rfl rfl) (sh rfl (qi 2 JM rfl rfl rfl) (sp rfl (Qmi rfl) (sp rfl (g_ixI uU uJ hZ rfl rfl (by omega) (by omega)) ?_))))))));refine sh rfl (qC Qp hzA rfl rfl) (sp rfl (qT Qx Qg rfl (by omega) (by omega)) (sp rfl (qb (o':=0) un rfl uv rfl rfl rfl) (sp rfl (qb (o':=0) ut rfl uo rfl rfl rfl) (sh rfl (qi 0 uF rfl rfl rfl) (sp rfl (qz rfl ua hG.vs rfl) (sp rfl (g_rem rfl rfl (by omega) (by omega)) (sp rfl (g_ixI ua xX hG.vs rfl rfl (by omega) (by omega)) ?_)))))));refine sh rfl (qC uj hvA rfl rfl) ?_;have hS0:=hS;refine se rfl (ql Kh rfl (qZ a3 c3 gl v _ _ hS.imm hgo hI2.inc (by omega))) ?_;rintro _ w_15⟨I_f,a87,c87,rfl,hE,h87⟩;replace hS:=hS.call hE;replace hV:=hV.mono hE.ext;replace hQ:=hQ.mono hE.ext;replace hX:=hX.mono hE.ext;replace hZ:=hZ.mono hE.ext;replace hG:=hG.mono hE.ext
     replace hgo:=hgo.mono hE.ext;replace hps:=hps.mono hE.ext;refine⟨_,_,hS0.le hE.ext (xY _),hS,sp rfl (qb (o':=3) un rfl uo rfl rfl rfl) (sb rfl (qj 0 hS uo rfl rfl rfl (vs:=[.slice _ _ _]) rfl rfl rfl (xP rfl) (cs':=[_,_,_,_,_]) rfl) ?_)⟩;rintro _ w_16⟨rfl,hS⟩;refine⟨_,_,hS,sn (Qh (xN (reg (qq hS (Qmi rfl) (qq hS (g_add rfl rfl (by omega) (by omega)) (qq hS (Qai rfl) ?_))))))⟩;exact⟨⟨j+1,insI gl v,a87,c87⟩,_,rfl,⟨⟨rfl,rfl,rfl,rfl,trivial⟩,_,hS.sel [true,true,true],⟨hnx,h87⟩,hps,hV,hQ,hX,hZ,hG⟩,by dsimp only; omega⟩
    ·
     intro hc66;clear hu57 hn57 hu58 hn58 hu61 hn61 hu62 hn62 hu63 hn63 hu64 hn64 hu65 hn65
     try simp only[zA,zO,zN,zI,zF,zM,zT,zU]at hc66
     refine uD (uA (uA (Qw (xN (QwR (qq hS (g_ldO 0 (vs:=[.slice _ _ _,.slice _ _ _,.slice _ _ _,.slice _ _ _,.slice _ _ _]) um uz rfl rfl rfl rfl) (qe (qj 1 hS um rfl rfl rfl (vs:=[.slice _ _ _,.slice _ _ _,.slice _ _ _,.slice _ _ _,.slice _ _ _]) rfl rfl rfl (xP rfl) (cs':=[_,_,_,_,_]) rfl) ?_)))))));clear hS;rintro _ w_17⟨rfl,hS⟩;refine QoN (ub (ret1 results12 (qD 1 hS um uz rfl rfl rfl) ?_));have hpl:=hI.len;rw[← hpl]at hps;exact⟨_,⟨g,ps,gl,[]⟩,⟨a0,c0,a1,c1,a,c,a3,c3,none,0⟩,by rw[← hpl] <;> rfl,hS.nil,⟨hG,hps,hgo,RSl.nilR⟩,⟨⟨kQ.2 hgm.val,hpl,hI.fit,hI2.inc,hI2.sub⟩,hgm,rfl⟩⟩
end Go.Proofs.YtcajgkfgjpfmaaaGreat
