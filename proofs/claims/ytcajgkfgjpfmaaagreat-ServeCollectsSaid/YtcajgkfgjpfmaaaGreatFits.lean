/- inlayref02.In, inlayref08.fits, price: what they compute. Conditions: numbers within bounds. -/
import Derived.Test.YtcajgkfgjpfmaaaGreatKCut
import Derived.Test.YtcajgkfgjpfmaaaGreatKOpt
set_option linter.unusedSimpArgs false
set_option linter.unusedVariables false
namespace Go.Proofs.YtcajgkfgjpfmaaaGreat
open Tryz
open Go Go.RowKit Go.Inl
theorem kM {k:Int}{l:List Sym}{s t:Sym}{n:Nat}(h0:l[0]? = some s)(ht:l[n]? = some t)(hn:n≤fitsN k l)(h:¬relK k s n t):fitsN k l=n:=by
 cases l with
 | nil=>simp at h0
 | cons s' l =>
   simp at h0; subst h0
   rcases Nat.lt_or_ge n (fitsN k (s'::l)) with h1 | h1
   · obtain ⟨u, h2, h3⟩ := (jH l s' (n + 1)).1 h1 n (by omega)
     rw[ht]at h2; cases h2; exact absurd h3 h
   · omega
theorem fits_go {k:Int}{l:List Sym}{s t:Sym}{n:Nat}(h0:l[0]? = some s)(ht:l[n]? = some t)(hn:n≤fitsN k l)(h:relK k s n t):n+1≤fitsN k l:=by
 cases l with
 | nil=>simp at h0
 | cons s' l =>
   simp at h0; subst h0
   rw[jH]at hn ⊢;intro j hj;by_cases e:j=n
   · subst e; exact⟨t,ht,h⟩
   · exact hn j (by omega)
def oldB (s t:Sym)(n:Nat):Bool:=s.old && t.old && decide (t.at_=s.at_+n)
theorem rel1 {k:Int}{s t:Sym}{n:Nat}(hk:k=1):relK k s n t↔oldB s t n=true∧t.b=0:=by
 subst hk; simp[relK,oldB,and_assoc]
theorem rel2 {k:Int}{s t:Sym}{n:Nat}(hk:k=2):relK k s n t↔oldB s t n=true:=by
 subst hk; simp[relK,oldB,and_assoc]
theorem rel3 {k:Int}{s t:Sym}{n:Nat}(hk:k=3):relK k s n t↔s.old=false∧t.old=false∧t.b=s.b:=by
 subst hk; simp[relK]
theorem rel4 {k:Int}{s t:Sym}{n:Nat}(hk:k=4):relK k s n t↔t.old=false:=by
 subst hk; simp[relK]
theorem bt1 {a o b:Bool}(h:(a && (!o || !b))=true):a=true∧¬(o=true∧b=true):=by cases a <;> cases o <;> cases b <;> simp_all
theorem bf1 {a o b:Bool}(h:(a && (!o || !b))=false):a=true→o=true∧b=true:=by cases a <;> cases o <;> cases b <;> simp_all
theorem bt2 {a o:Bool}(h:(a && !o)=true):a=true∧¬o=true:=by cases a <;> cases o <;> simp_all
theorem bf2 {a o:Bool}(h:(a && !o)=false):a=true→o=true:=by cases a <;> cases o <;> simp_all
theorem bt3 {a o p b:Bool}(h:(a && (o || p || !b))=true):a=true∧¬(o=false∧p=false∧b=true):=by cases a <;> cases o <;> cases p <;> cases b <;> simp_all
theorem bf3 {a o p b:Bool}(h:(a && (o || p || !b))=false):a=true→o=false∧p=false∧b=true:=by cases a <;> cases o <;> cases p <;> cases b <;> simp_all
theorem bt4 {a o:Bool}(h:(a && o)=true):a=true∧¬o=false:=by cases a <;> cases o <;> simp_all
theorem bf4 {a o:Bool}(h:(a && o)=false):a=true→o=false:=by cases a <;> cases o <;> simp_all
theorem refIn_c (n lo hi:Int)(w0:World)(I0:Imm)(hI:Sat I0 w0):Ctr prog 96 [.int .i64 n,.int .i64 lo,.int .i64 hi] w0 (fun v w'=>v = .bool (inS n lo hi)∧Ext w0 I0 w' I0):=by
 refine fn (n:=15) func96 rfl rfl rfl ?_;have hS:=St.start hI;refine QwR (qq hS (Qab rfl) (QoR (qq hS (Qmi rfl) (qq hS (Qmi rfl) (qq hS (g_geq rfl rfl) (qq hS (Qmb rfl) (qu rfl rfl hS (fun hg=>(Qmi rfl)) ?_)))))));intro u11 hu11 hn11;refine qu rfl rfl hS (fun hg=>(Qmi rfl)) ?_;intro u12 hu12 hn12;refine qu rfl rfl hS (fun hg=>(g_leq (hu11 hg) (hu12 hg))) ?_;intro u13 hu13 hn13;refine qq hS (g_and rfl rfl (fun hq=>hu13 hq)) (qq hS (Qab rfl) (QoN (ub (ret1 results96 (qr (v:=.bool _) rfl) ?_))));exact⟨rfl,hS.nil⟩
set_option maxHeartbeats 2000000 in
theorem fits_c (kind : Int) (vl : Value) (l : List Sym) (w0 : World) (I0 : Imm) (hI : Sat I0 w0) (hl : RSyms I0 vl l) (hk : 1 ≤ kind ∧ kind ≤ 4) (hn : l.length ≤ 65536) (hw : ∀ s ∈ l, s.wf) :
 Ctr prog 177 [.int .i64 kind,vl] w0 (fun v w'=>v = .int .i64 (fitsN kind l)∧Ext w0 I0 w' I0):=by
 have hfl:=jI kind l;refine fn (n:=86) func177 rfl rfl rfl ?_;have hS:=St.start hI;refine QwR (qq hS (Qai rfl) (QoR (qq hS (Qai rfl) (QoN (xL (uk (loop (fun(n:Nat) σ w=>okS σ [(0,.int .i64 kind),(1,vl),(5,.int .i64 n)]∧St [] w0 I0 I0 w []∧n≤l.length∧n≤fitsN kind l) (fun n=>l.length - n) (0) ?_ ?_)))))))
 ·
  exact⟨⟨rfl,rfl,rfl,trivial⟩,hS.sel [],by simp,by simp⟩
 ·
  rintro n σ w_l⟨hs,hS,hn1,hn0⟩;rw[← qx hs]; clear hs
  refine xL (QwR (qq hS (Qmi rfl) (qq hS (qk _) (qq hS (qz rfl uG hl rfl) (qq hS (g_lss rfl rfl) (QoN (qo rfl ?_ ?_)))))))
  ·
   intro hc12
   try simp only[zA,zO,zN,zI,zF,zM,zT,zU]at hc12
   obtain⟨s,hsi⟩:∃s,l[0]? = some s:=⟨_,xW (by omega)⟩
   obtain⟨t,hti⟩:∃t,l[n]? = some t:=⟨_,xW (by omega)⟩
   have hsA:=hl.at hsi;have htA:=hl.at hti;obtain⟨sw1,sw2,sw3,sw4⟩:=hw s (uf hsi);refine xZ (xN (uk (xL (drawS [] (.cons 0 .pure (.cons 1 .pure (.cons 2 .held (.cons 3 .pure (.cons 4 .pure (.cons 5 .pure (.cons 6 .held (.fork 7 (.cons 8 .eff (.cons 9 .eff (.cons 10 .eff .nil))) 8 (.cons 7 .eff (.cons 9 .eff (.cons 10 .eff .nil))))))))))) mixed (by kernel_rfl) hS ?_))));intro w_1 hS;refine sp rfl (qk _) (sp rfl (g_ixI uG uN hl rfl rfl (by omega) (by omega)) (sh rfl (g_ldE (us:=[.bool _,.int .i64 _,.int .u8 _]) uN Jd hsA rfl rfl rfl) (sp rfl (qk _) (sp rfl (Qmi rfl) (sp rfl (g_ixI uG uN hl rfl rfl (by omega) (by omega)) (sh rfl (g_ldE (us:=[.bool _,.int .i64 _,.int .u8 _]) uN Jd htA rfl rfl rfl) ?_))))));refine sk ?_ ?_
   ·
    have hS0:=hS;refine se rfl (qw (cs:=[.bool _,.int .i64 _,.int .u8 _]) hS QM rfl) ?_;rintro _ w_2⟨b6,rfl,hS⟩;refine⟨_,_,fun _ h=>h,hS.sel [false],?_⟩;have hS0:=hS;refine se rfl (qw (cs:=[.bool _,.int .i64 _,.int .u8 _]) hS QM rfl) ?_;rintro _ w_3⟨b7,rfl,hS⟩;refine⟨_,_,fun _ h=>h,hS.sel [false,false],?_⟩;have hS0:=hS;refine se rfl (qj 1 hS uN rfl rfl rfl (vs:=[.bool _,.int .i64 _,.int .u8 _]) rfl rfl rfl (xP rfl) (cs':=[_,_,_]) rfl) ?_;rintro _ w_4⟨rfl,hS⟩;refine⟨_,_,fun _ h=>h,hS.sel [false,false],?_⟩;have hS0:=hS;refine se rfl (qj 0 hS uN rfl rfl rfl (vs:=[.bool _,.int .i64 _,.int .u8 _]) rfl rfl rfl (xP rfl) (cs':=[_,_,_]) rfl) ?_;rintro _ w_5⟨rfl,hS⟩;refine⟨_,_,fun _ h=>h,hS.sel [false,false],sn (xN (QwR (qq hS (qb (o':=0) uB rfl uC rfl rfl rfl) (qq hS (qi 1 QG rfl rfl rfl) (qq hS (Qmb rfl) (qu rfl rfl hS (fun hg=>(qb (o':=0) uB rfl uC rfl rfl rfl)) ?_))))))⟩;intro u23 hu23 hn23;refine qu rfl rfl hS (fun hg=>(qi 0 QG rfl (hu23 hg) rfl)) ?_;intro u24 hu24 hn24;refine qq hS (g_and rfl rfl (fun hq=>hu24 hq)) (qq hS (Qmb rfl) (qu rfl rfl hS (fun hg=>(qb (o':=1) uB rfl xX rfl rfl rfl)) ?_));intro u27 hu27 hn27;refine qu rfl rfl hS (fun hg=>(qi 0 uj rfl (hu27 hg) rfl)) ?_;intro u28 hu28 hn28;refine qu rfl rfl hS (fun hg=>(qb (o':=1) uB rfl xX rfl rfl rfl)) ?_;intro u29 hu29 hn29;refine qu rfl rfl hS (fun hg=>(qi 1 uj rfl (hu29 hg) rfl)) ?_;intro u30 hu30 hn30;refine qu rfl rfl hS (fun hg=>(Qmi rfl)) ?_;intro u31 hu31 hn31;refine qu rfl rfl hS (fun hg=>(g_add (hu30 hg) (hu31 hg) (by omega) (by omega))) ?_
    intro u32 hu32 hn32;refine qu rfl rfl hS (fun hg=>(g_eql (hu28 hg) (hu32 hg))) ?_;intro u33 hu33 hn33;refine qq hS (g_and rfl rfl (fun hq=>hu33 hq)) (qq hS (Qab rfl) (QoN (xL (uk (QwR (qq hS (Qmi rfl) (qq hS (g_eql rfl rfl) (qq hS (Qmb rfl) (qu rfl rfl hS (fun hg=>(Qmb rfl)) ?_)))))))));intro u39 hu39 hn39;refine qu rfl rfl hS (fun hg=>(g_not (hu39 hg))) ?_;intro u40 hu40 hn40;refine qu rfl rfl hS (fun hg=>(qf (hu40 hg))) ?_;intro u41 hu41 hn41;refine qn rfl hu41 hn41 hS (fun hg=>(qb (o':=2) uB rfl uJ rfl rfl rfl)) ?_;intro u42 hu42 hn42;refine qn rfl hu41 hn41 hS (fun hg=>(qi 0 Qp rfl (hu42 hg) rfl)) ?_;intro u43 hu43 hn43;refine qn rfl hu41 hn41 hS (fun hg=>(g_neq (hu43 hg) rfl)) ?_;intro u44 hu44 hn44;refine qu rfl rfl hS (fun hg=>(g_or (hu41 hg) rfl (fun hq=>hu44 ⟨hg,hq⟩))) ?_;intro u45 hu45 hn45;refine qq hS (g_and rfl rfl (fun hq=>hu45 hq)) (qq hS (Qab rfl) (QoN (qo rfl ?_ ?_)))
    ·
     intro hc35;clear hu23 hn23 hu24 hn24 hu27 hn27 hu28 hn28 hu29 hn29 hu30 hn30 hu31 hn31 hu32 hn32 hu33 hn33 hu39 hn39 hu40 hn40 hu41 hn41 hu42 hn42 hu43 hn43 hu44 hn44 hu45 hn45;have hb:=bt1 hc35;have e:fitsN kind l=n:=kM hsi hti hn0 (by rw[rel1 (ux hb.1)]; exact fun h=>hb.2 ⟨h.1,uK h.2⟩);refine QwR (qq hS (Qmi rfl) (qq hS (Qai rfl) (QoN (ub (Qs (uw (Qs (uw (Qs (uw (ret1 Km (qr (v:=.int .i64 _) rfl) ?_)))))))))));rw[e]; exact⟨rfl,hS.nil⟩
    ·
     intro hc35;clear hu23 hn23 hu24 hn24 hu27 hn27 hu28 hn28 hu29 hn29 hu30 hn30 hu31 hn31 hu32 hn32 hu33 hn33 hu39 hn39 hu40 hn40 hu41 hn41 hu42 hn42 hu43 hn43 hu44 hn44 hu45 hn45;refine QwR (qq hS (Qmi rfl) (qq hS (g_eql rfl rfl) (qq hS (Qmb rfl) (qu rfl rfl hS (fun hg=>(Qmb rfl)) ?_))));intro u52 hu52 hn52;refine qu rfl rfl hS (fun hg=>(g_not (hu52 hg))) ?_;intro u53 hu53 hn53;refine qq hS (g_and rfl rfl (fun hq=>hu53 hq)) (qq hS (Qab rfl) (QoN (qo rfl ?_ ?_)))
     ·
      intro hc48;clear hu52 hn52 hu53 hn53;have hb:=bt2 hc48;have e:fitsN kind l=n:=kM hsi hti hn0 (by rw[rel2 (ux hb.1)]; exact hb.2);refine QwR (qq hS (Qmi rfl) (qq hS (Qai rfl) (QoN (ub (Qs (uw (Qs (uw (Qs (uw (ret1 Km (qr (v:=.int .i64 _) rfl) ?_)))))))))));rw[e]; exact⟨rfl,hS.nil⟩
     ·
      intro hc48;clear hu52 hn52 hu53 hn53;refine QwR (qq hS (Qmi rfl) (qq hS (g_eql rfl rfl) (qq hS (Qmb rfl) (qu rfl rfl hS (fun hg=>(qb (o':=0) uB rfl uC rfl rfl rfl)) ?_))));intro u60 hu60 hn60;refine qu rfl rfl hS (fun hg=>(qi 1 QG rfl (hu60 hg) rfl)) ?_;intro u61 hu61 hn61;refine qu rfl rfl hS (fun hg=>(qf (hu61 hg))) ?_;intro u62 hu62 hn62;refine qn rfl hu62 hn62 hS (fun hg=>(qb (o':=0) uB rfl uC rfl rfl rfl)) ?_;intro u63 hu63 hn63;refine qn rfl hu62 hn62 hS (fun hg=>(qi 0 QG rfl (hu63 hg) rfl)) ?_;intro u64 hu64 hn64;refine qu rfl rfl hS (fun hg=>(g_or (hu62 hg) rfl (fun hq=>hu64 ⟨hg,hq⟩))) ?_;intro u65 hu65 hn65;refine qu rfl rfl hS (fun hg=>(qf (hu65 hg))) ?_;intro u66 hu66 hn66;refine qn rfl hu66 hn66 hS (fun hg=>(qb (o':=2) uB rfl uJ rfl rfl rfl)) ?_;intro u67 hu67 hn67;refine qn rfl hu66 hn66 hS (fun hg=>(qi 0 Qp rfl (hu67 hg) rfl)) ?_;intro u68 hu68 hn68;refine qn rfl hu66 hn66 hS (fun hg=>(qb (o':=2) uB rfl uJ rfl rfl rfl)) ?_;intro u69 hu69 hn69;refine qn rfl hu66 hn66 hS (fun hg=>(qi 1 Qp rfl (hu69 hg) rfl)) ?_;intro u70 hu70 hn70;refine qn rfl hu66 hn66 hS (fun hg=>(g_neq (hu68 hg) (hu70 hg))) ?_;intro u71 hu71 hn71;refine qu rfl rfl hS (fun hg=>(g_or (hu66 hg) rfl (fun hq=>hu71 ⟨hg,hq⟩))) ?_;intro u72 hu72 hn72;refine qq hS (g_and rfl rfl (fun hq=>hu72 hq)) (qq hS (Qab rfl) (QoN (qo rfl ?_ ?_)))
      ·
       intro hc56;clear hu60 hn60 hu61 hn61 hu62 hn62 hu63 hn63 hu64 hn64 hu65 hn65 hu66 hn66 hu67 hn67 hu68 hn68 hu69 hn69 hu70 hn70 hu71 hn71 hu72 hn72;have hb:=bt3 hc56;have e:fitsN kind l=n:=kM hsi hti hn0 (by rw[rel3 (ux hb.1)]; exact fun h=>hb.2 ⟨h.1,h.2.1,uK h.2.2⟩);refine QwR (qq hS (Qmi rfl) (qq hS (Qai rfl) (QoN (ub (Qs (uw (Qs (uw (Qs (uw (ret1 Km (qr (v:=.int .i64 _) rfl) ?_)))))))))));rw[e]; exact⟨rfl,hS.nil⟩
      ·
       intro hc56;clear hu60 hn60 hu61 hn61 hu62 hn62 hu63 hn63 hu64 hn64 hu65 hn65 hu66 hn66 hu67 hn67 hu68 hn68 hu69 hn69 hu70 hn70 hu71 hn71 hu72 hn72;refine QwR (qq hS (Qmi rfl) (qq hS (g_eql rfl rfl) (qq hS (Qmb rfl) (qu rfl rfl hS (fun hg=>(qb (o':=0) uB rfl uC rfl rfl rfl)) ?_))));intro u79 hu79 hn79;refine qu rfl rfl hS (fun hg=>(qi 0 QG rfl (hu79 hg) rfl)) ?_;intro u80 hu80 hn80;refine qq hS (g_and rfl rfl (fun hq=>hu80 hq)) (qq hS (Qab rfl) (QoN (qo rfl ?_ ?_)))
       ·
        intro hc75;clear hu79 hn79 hu80 hn80;have hb:=bt4 hc75;have e:fitsN kind l=n:=kM hsi hti hn0 (by rw[rel4 (ux hb.1)]; exact hb.2);refine QwR (qq hS (Qmi rfl) (qq hS (Qai rfl) (QoN (ub (Qs (uw (Qs (uw (Qs (uw (ret1 Km (qr (v:=.int .i64 _) rfl) ?_)))))))))));rw[e]; exact⟨rfl,hS.nil⟩
       ·
        intro hc75;clear hu79 hn79 hu80 hn80;have hrel:relK kind s n t:=by
         have h4:kind=1∨kind=2∨kind=3∨kind=4:=by omega
         rcases h4 with h | h | h | h
         · rw[rel1 h]; have:=bf1 hc35 (uK h); exact⟨this.1,ux this.2⟩
         · rw[rel2 h]; exact bf2 hc48 (uK h)
         · rw[rel3 h]; have:=bf3 hc56 (uK h); exact⟨this.1,this.2.1,ux this.2.2⟩
         · rw[rel4 h]; exact bf4 hc75 (uK h)
        refine xZ (Qh (xN (reg (qq hS (Qmi rfl) (qq hS (g_add rfl rfl (by omega) (by omega)) (qq hS (Qai rfl) ?_))))));exact⟨n+1,_,rfl,⟨⟨rfl,rfl,rfl,trivial⟩,hS.sel [false,false],by omega,fits_go hsi hti hn0 hrel⟩,by omega⟩
   ·
    have hS0:=hS;refine se rfl (qw (cs:=[.bool _,.int .i64 _,.int .u8 _]) hS QM rfl) ?_;rintro _ w_6⟨b7,rfl,hS⟩;refine⟨_,_,fun _ h=>h,hS.sel [false],?_⟩;have hS0:=hS;refine se rfl (qw (cs:=[.bool _,.int .i64 _,.int .u8 _]) hS QM rfl) ?_;rintro _ w_7⟨b6,rfl,hS⟩;refine⟨_,_,fun _ h=>h,hS.sel [false,false],?_⟩;have hS0:=hS;refine se rfl (qj 0 hS uN rfl rfl rfl (vs:=[.bool _,.int .i64 _,.int .u8 _]) rfl rfl rfl (xP rfl) (cs':=[_,_,_]) rfl) ?_;rintro _ w_8⟨rfl,hS⟩;refine⟨_,_,fun _ h=>h,hS.sel [false,false],?_⟩;have hS0:=hS;refine se rfl (qj 1 hS uN rfl rfl rfl (vs:=[.bool _,.int .i64 _,.int .u8 _]) rfl rfl rfl (xP rfl) (cs':=[_,_,_]) rfl) ?_;rintro _ w_9⟨rfl,hS⟩;refine⟨_,_,fun _ h=>h,hS.sel [false,false],sn (xN (QwR (qq hS (qb (o':=0) uB rfl uC rfl rfl rfl) (qq hS (qi 0 QG rfl rfl rfl) (qq hS (Qmb rfl) (qu rfl rfl hS (fun hg=>(qb (o':=0) uB rfl uC rfl rfl rfl)) ?_))))))⟩;intro u23 hu23 hn23;refine qu rfl rfl hS (fun hg=>(qi 1 QG rfl (hu23 hg) rfl)) ?_;intro u24 hu24 hn24;refine qq hS (g_and rfl rfl (fun hq=>hu24 hq)) (qq hS (Qmb rfl) (qu rfl rfl hS (fun hg=>(qb (o':=1) uB rfl xX rfl rfl rfl)) ?_));intro u27 hu27 hn27;refine qu rfl rfl hS (fun hg=>(qi 1 uj rfl (hu27 hg) rfl)) ?_;intro u28 hu28 hn28;refine qu rfl rfl hS (fun hg=>(qb (o':=1) uB rfl xX rfl rfl rfl)) ?_;intro u29 hu29 hn29;refine qu rfl rfl hS (fun hg=>(qi 0 uj rfl (hu29 hg) rfl)) ?_;intro u30 hu30 hn30;refine qu rfl rfl hS (fun hg=>(Qmi rfl)) ?_;intro u31 hu31 hn31;refine qu rfl rfl hS (fun hg=>(g_add (hu30 hg) (hu31 hg) (by omega) (by omega))) ?_
    intro u32 hu32 hn32;refine qu rfl rfl hS (fun hg=>(g_eql (hu28 hg) (hu32 hg))) ?_;intro u33 hu33 hn33;refine qq hS (g_and rfl rfl (fun hq=>hu33 hq)) (qq hS (Qab rfl) (QoN (xL (uk (QwR (qq hS (Qmi rfl) (qq hS (g_eql rfl rfl) (qq hS (Qmb rfl) (qu rfl rfl hS (fun hg=>(Qmb rfl)) ?_)))))))));intro u39 hu39 hn39;refine qu rfl rfl hS (fun hg=>(g_not (hu39 hg))) ?_;intro u40 hu40 hn40;refine qu rfl rfl hS (fun hg=>(qf (hu40 hg))) ?_;intro u41 hu41 hn41;refine qn rfl hu41 hn41 hS (fun hg=>(qb (o':=2) uB rfl uJ rfl rfl rfl)) ?_;intro u42 hu42 hn42;refine qn rfl hu41 hn41 hS (fun hg=>(qi 1 Qp rfl (hu42 hg) rfl)) ?_;intro u43 hu43 hn43;refine qn rfl hu41 hn41 hS (fun hg=>(g_neq (hu43 hg) rfl)) ?_;intro u44 hu44 hn44;refine qu rfl rfl hS (fun hg=>(g_or (hu41 hg) rfl (fun hq=>hu44 ⟨hg,hq⟩))) ?_;intro u45 hu45 hn45;refine qq hS (g_and rfl rfl (fun hq=>hu45 hq)) (qq hS (Qab rfl) (QoN (qo rfl ?_ ?_)))
    ·
     intro hc35;clear hu23 hn23 hu24 hn24 hu27 hn27 hu28 hn28 hu29 hn29 hu30 hn30 hu31 hn31 hu32 hn32 hu33 hn33 hu39 hn39 hu40 hn40 hu41 hn41 hu42 hn42 hu43 hn43 hu44 hn44 hu45 hn45;have hb:=bt1 hc35;have e:fitsN kind l=n:=kM hsi hti hn0 (by rw[rel1 (ux hb.1)]; exact fun h=>hb.2 ⟨h.1,uK h.2⟩);refine QwR (qq hS (Qmi rfl) (qq hS (Qai rfl) (QoN (ub (Qs (uw (Qs (uw (Qs (uw (ret1 Km (qr (v:=.int .i64 _) rfl) ?_)))))))))));rw[e]; exact⟨rfl,hS.nil⟩
    ·
     intro hc35;clear hu23 hn23 hu24 hn24 hu27 hn27 hu28 hn28 hu29 hn29 hu30 hn30 hu31 hn31 hu32 hn32 hu33 hn33 hu39 hn39 hu40 hn40 hu41 hn41 hu42 hn42 hu43 hn43 hu44 hn44 hu45 hn45;refine QwR (qq hS (Qmi rfl) (qq hS (g_eql rfl rfl) (qq hS (Qmb rfl) (qu rfl rfl hS (fun hg=>(Qmb rfl)) ?_))));intro u52 hu52 hn52;refine qu rfl rfl hS (fun hg=>(g_not (hu52 hg))) ?_;intro u53 hu53 hn53;refine qq hS (g_and rfl rfl (fun hq=>hu53 hq)) (qq hS (Qab rfl) (QoN (qo rfl ?_ ?_)))
     ·
      intro hc48;clear hu52 hn52 hu53 hn53;have hb:=bt2 hc48;have e:fitsN kind l=n:=kM hsi hti hn0 (by rw[rel2 (ux hb.1)]; exact hb.2);refine QwR (qq hS (Qmi rfl) (qq hS (Qai rfl) (QoN (ub (Qs (uw (Qs (uw (Qs (uw (ret1 Km (qr (v:=.int .i64 _) rfl) ?_)))))))))));rw[e]; exact⟨rfl,hS.nil⟩
     ·
      intro hc48;clear hu52 hn52 hu53 hn53;refine QwR (qq hS (Qmi rfl) (qq hS (g_eql rfl rfl) (qq hS (Qmb rfl) (qu rfl rfl hS (fun hg=>(qb (o':=0) uB rfl uC rfl rfl rfl)) ?_))));intro u60 hu60 hn60;refine qu rfl rfl hS (fun hg=>(qi 0 QG rfl (hu60 hg) rfl)) ?_;intro u61 hu61 hn61;refine qu rfl rfl hS (fun hg=>(qf (hu61 hg))) ?_;intro u62 hu62 hn62;refine qn rfl hu62 hn62 hS (fun hg=>(qb (o':=0) uB rfl uC rfl rfl rfl)) ?_;intro u63 hu63 hn63;refine qn rfl hu62 hn62 hS (fun hg=>(qi 1 QG rfl (hu63 hg) rfl)) ?_;intro u64 hu64 hn64;refine qu rfl rfl hS (fun hg=>(g_or (hu62 hg) rfl (fun hq=>hu64 ⟨hg,hq⟩))) ?_;intro u65 hu65 hn65;refine qu rfl rfl hS (fun hg=>(qf (hu65 hg))) ?_;intro u66 hu66 hn66;refine qn rfl hu66 hn66 hS (fun hg=>(qb (o':=2) uB rfl uJ rfl rfl rfl)) ?_;intro u67 hu67 hn67;refine qn rfl hu66 hn66 hS (fun hg=>(qi 1 Qp rfl (hu67 hg) rfl)) ?_;intro u68 hu68 hn68;refine qn rfl hu66 hn66 hS (fun hg=>(qb (o':=2) uB rfl uJ rfl rfl rfl)) ?_;intro u69 hu69 hn69;refine qn rfl hu66 hn66 hS (fun hg=>(qi 0 Qp rfl (hu69 hg) rfl)) ?_;intro u70 hu70 hn70;refine qn rfl hu66 hn66 hS (fun hg=>(g_neq (hu68 hg) (hu70 hg))) ?_;intro u71 hu71 hn71;refine qu rfl rfl hS (fun hg=>(g_or (hu66 hg) rfl (fun hq=>hu71 ⟨hg,hq⟩))) ?_;intro u72 hu72 hn72;refine qq hS (g_and rfl rfl (fun hq=>hu72 hq)) (qq hS (Qab rfl) (QoN (qo rfl ?_ ?_)))
      ·
       intro hc56;clear hu60 hn60 hu61 hn61 hu62 hn62 hu63 hn63 hu64 hn64 hu65 hn65 hu66 hn66 hu67 hn67 hu68 hn68 hu69 hn69 hu70 hn70 hu71 hn71 hu72 hn72;have hb:=bt3 hc56;have e:fitsN kind l=n:=kM hsi hti hn0 (by rw[rel3 (ux hb.1)]; exact fun h=>hb.2 ⟨h.1,h.2.1,uK h.2.2⟩);refine QwR (qq hS (Qmi rfl) (qq hS (Qai rfl) (QoN (ub (Qs (uw (Qs (uw (Qs (uw (ret1 Km (qr (v:=.int .i64 _) rfl) ?_)))))))))));rw[e]; exact⟨rfl,hS.nil⟩
      ·
       intro hc56;clear hu60 hn60 hu61 hn61 hu62 hn62 hu63 hn63 hu64 hn64 hu65 hn65 hu66 hn66 hu67 hn67 hu68 hn68 hu69 hn69 hu70 hn70 hu71 hn71 hu72 hn72;refine QwR (qq hS (Qmi rfl) (qq hS (g_eql rfl rfl) (qq hS (Qmb rfl) (qu rfl rfl hS (fun hg=>(qb (o':=0) uB rfl uC rfl rfl rfl)) ?_))));intro u79 hu79 hn79;refine qu rfl rfl hS (fun hg=>(qi 1 QG rfl (hu79 hg) rfl)) ?_;intro u80 hu80 hn80;refine qq hS (g_and rfl rfl (fun hq=>hu80 hq)) (qq hS (Qab rfl) (QoN (qo rfl ?_ ?_)))
       ·
        intro hc75;clear hu79 hn79 hu80 hn80;have hb:=bt4 hc75;have e:fitsN kind l=n:=kM hsi hti hn0 (by rw[rel4 (ux hb.1)]; exact hb.2);refine QwR (qq hS (Qmi rfl) (qq hS (Qai rfl) (QoN (ub (Qs (uw (Qs (uw (Qs (uw (ret1 Km (qr (v:=.int .i64 _) rfl) ?_)))))))))));rw[e]; exact⟨rfl,hS.nil⟩
       ·
        intro hc75;clear hu79 hn79 hu80 hn80;have hrel:relK kind s n t:=by
         have h4:kind=1∨kind=2∨kind=3∨kind=4:=by omega
         rcases h4 with h | h | h | h
         · rw[rel1 h]; have:=bf1 hc35 (uK h); exact⟨this.1,ux this.2⟩
         · rw[rel2 h]; exact bf2 hc48 (uK h)
         · rw[rel3 h]; have:=bf3 hc56 (uK h); exact⟨this.1,this.2.1,ux this.2.2⟩
         · rw[rel4 h]; exact bf4 hc75 (uK h)
        refine xZ (Qh (xN (reg (qq hS (Qmi rfl) (qq hS (g_add rfl rfl (by omega) (by omega)) (qq hS (Qai rfl) ?_))))));exact⟨n+1,_,rfl,⟨⟨rfl,rfl,rfl,trivial⟩,hS.sel [false,false],by omega,fits_go hsi hti hn0 hrel⟩,by omega⟩
  ·
   intro hc12
   try simp only[zA,zO,zN,zI,zF,zM,zT,zU]at hc12
   have e:fitsN kind l=n:=by omega
   refine uD (uA (uA (Qw (xN (QwR (qq hS (Qmi rfl) (qq hS (Qai rfl) (QoN (ub (ret1 Km (qr (v:=.int .i64 _) rfl) ?_))))))))));rw[e]; exact⟨rfl,hS.nil⟩
theorem refPrice_c (kind n : Int) (w0 : World) (I0 : Imm) (hI : Sat I0 w0) (hk : 1 ≤ kind ∧ kind ≤ 4) (hn : 0 ≤ n ∧ n ≤ 65536) :
 Ctr prog 178 [.int .i64 kind,.int .i64 n] w0 (fun v w'=>v = .int .i64 (opc kind n)∧Ext w0 I0 w' I0):=by
 refine fn (n:=9) func178 rfl rfl rfl ?_;have hS:=St.start hI;refine QwR (qq hS (Qai rfl) (QoR (qq hS (Qmi rfl) (qq hS (Qmi rfl) (qq hS (qv (pl:=[(0,1),(1,1),(2,1),(3,1),(4,1)]) (cs:=[.int .i64 _,.int .i64 _,.int .i64 _,.int .u8 _,.slice _ _ _]) Jp uE (fun w=>by simp[Jf,xX,uJ]) (mp (v:=.int .i64 _) rfl (mp (v:=.int .i64 _) rfl mp0)) rfl) ?_)))));refine qe (ql call185 rfl (opCost_c ⟨kind,0,n,0,[]⟩ none 0 0 _ I0 hS.imm RFl.nil ⟨⟨by dsimp only; omega,by dsimp only; omega⟩,⟨by dsimp only; omega,by dsimp only; omega⟩,⟨by dsimp only; omega,by dsimp only; omega⟩,⟨by dsimp only; omega,by dsimp only; omega⟩,fun z hz=>by simp at hz⟩)) ?_;rintro _ w_1⟨rfl,hE⟩;replace hS:=hS.callE hE;refine qq hS (Qai rfl) (QoN (ub (ret1 results178 (qr (v:=.int .i64 _) rfl) ⟨?_,hS.nil⟩)));congr 1
 unfold costR opc;dsimp only
 repeat' split
 all_goals omega
end Go.Proofs.YtcajgkfgjpfmaaaGreat
