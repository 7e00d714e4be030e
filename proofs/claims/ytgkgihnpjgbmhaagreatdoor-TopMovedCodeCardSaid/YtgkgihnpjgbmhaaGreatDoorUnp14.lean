/- pack.Unpack: what it computes, of what read gives. Conditions: none. -/
import Derived.Test.YtgkgihnpjgbmhaaGreatDoorRd14
set_option linter.unusedSimpArgs false
set_option linter.unusedVariables false
namespace Go.Proofs.YtgkgihnpjgbmhaaGreatDoor
open Tryz
open Go Go.RowKit Go.Inl
structure RdC (b : List Int) (G : PatL → Bool → Prop) : Prop where
 c:∀(ad:Option Addr) (cap:Nat) (w0:World) (I0:Imm),Sat I0 w0→RBytes I0 (.sg ad b.length cap) b→Ctr prog 50 [.sg ad b.length cap] w0 (fun v w'=>∃I' q ok a m c,v = .tuple #[.agg #[.bool q.lifted,.ig q.in_,.ig q.out,.sg a m c],.bool ok]∧Ext w0 I0 w' I'∧G q ok∧(ok=true→ROps I' (.sg a m c) q.ops∧q.wf))
theorem pack_ok_c (p : PatL) (ad : Option Addr) (m cap : Nat) (w0 : World) (I0 : Imm) (hI : Sat I0 w0) (hops : ROps I0 (.sg ad m cap) p.ops) (hp : p.wf) (hck : (checkP p).2 = 0) :
 Ctr prog 17 [.agg #[.bool p.lifted,.ig p.in_,.ig p.out,.sg ad m cap]] w0 (fun v w'=>∃I' a c,v = .tuple #[.slice a (packP p).length c,.ig 0]∧Ext w0 I0 w' I'∧RBytes I' (.slice a (packP p).length c) (packP p)) :=
 (pack_c p ad m cap w0 I0 hI hops hp).mono fun v w' h=>h.elim (fun h=>absurd hck h.1) fun h=>h.2
theorem pack_bad_c (p : PatL) (ad : Option Addr) (m cap : Nat) (w0 : World) (I0 : Imm) (hI : Sat I0 w0) (hops : ROps I0 (.sg ad m cap) p.ops) (hp : p.wf) (hck : (checkP p).2 ≠ 0) :
 Ctr prog 17 [.agg #[.bool p.lifted,.ig p.in_,.ig p.out,.sg ad m cap]] w0 (fun v w'=>v = .tuple #[.sg none 0 0,.ig 60]∧Ext w0 I0 w' I0) :=
 (pack_c p ad m cap w0 I0 hI hops hp).mono fun v w' h=>h.elim (fun h=>h.2) fun h=>absurd h.1 hck
theorem packP_byt {p:PatL}(h:PatG p):Byt (packP p):=jw (xa h) (jB _ _)
def UnpOk (G:PatL→Bool→Prop)(b:List Int)(w0:World)(I0:Imm)(v:Value)(w':World):Prop:=∃q a m c I',G q true∧q.wf∧(checkP q).2=0∧packP q=b∧v = .tuple #[.agg #[.bool q.lifted,.ig q.in_,.ig q.out,.sg a m c],.ig 0]∧Ext w0 I0 w' I'∧ROps I' (.sg a m c) q.ops
def UnpNo (G:PatL→Bool→Prop)(b:List Int)(w0:World)(I0:Imm)(v:Value)(w':World):Prop:=∃I',v = .tuple #[.agg #[.bool false,.ig 0,.ig 0,.sg none 0 0],.ig 140]∧Ext w0 I0 w' I'∧(b.length < 26∨sumP (b.take (b.length - 4))≠b.drop (b.length - 4)∨∃q ok,G q ok∧¬(ok=true∧(checkP q).2=0∧packP q=b))
theorem sumP_byt (l:List Int):Byt (sumP l):=jB _ _
attribute [local irreducible] packP bodyP headP code1 code2 sumP numsB
theorem beq_c (va vb : Value) (x y : List Int) (w0 : World) (I0 : Imm) (hI : Sat I0 w0) (hx : RBytes I0 va x) (hy : RBytes I0 vb y) (bx : Byt x) (hby : Byt y) :
 Ctr prog 49 [va,vb] w0 (fun v w'=>v = .bool (decide (x=y))∧Ext w0 I0 w' I0):=by
 refine fn (n:=10) func49 rfl rfl rfl ?_;have Z:=St.start hI;refine QwR (qq Z (Qab rfl) (QoR (qq Z (qb _) (qq Z (g_strI xQ uA JG hx rfl) (qq Z (qb _) (qq Z (g_strI xQ uA JG hy rfl) (qq Z (g_eqlB bx hby rfl rfl) (qq Z (Qab rfl) (QoN (xO (ret1 results49 (qg (v:=.bool _) rfl) ?_)))))))))));exact⟨rfl,Z.nil⟩
set_option maxHeartbeats 2000000 in
theorem unpack_c (b : List Int) (G : PatL → Bool → Prop) (hbb : Byt b) (hrd : 26 ≤ b.length → sumP (b.take (b.length - 4)) = b.drop (b.length - 4) → RdC b G) (ad : Option Addr) (cap : Nat) (w0 : World) (I0 : Imm) (hI : Sat I0 w0) (hb : RBytes I0 (.sg ad b.length cap) b) :
 Ctr prog 18 [.sg ad b.length cap] w0 (fun v w'=>UnpOk G b w0 I0 v w'∨UnpNo G b w0 I0 v w'):=by
 have hll:=RSl.le hb;simp only[maxLen]at hll;have hcc:=(RSl.resl2 hb b.length b.length (uc _) (uc _)).2.1;refine fn (n:=50) func18 rfl rfl rfl ?_;have Z:=St.start hI;refine QwR (qe (qr (cs:=[.bool _,.ig _,.ig _,.sg _ _ _]) Z uK rfl) ?_);clear Z;rintro _ w_1⟨b2,rfl,Z⟩;refine qq Z (Qai rfl) (QoN (xJ (xJ ((Classical.em (b.length < 26)).elim (fun hlt=>?_) (fun hge=>?_)))))
 ·
  refine draw (.pg 0 (.pg 1 (.pg 2 (.pg 3 (.pg 4 (.pg 5 (.pg 6 (.pg 7 (.pg 8 (.pg 10 (.pg 11 (.pg 12 (.pg 13 (.pg 14 (.cons 9 .eff (.cons 15 .eff (.pg 16 (.pg 17 .nil)))))))))))))))))) mixed (by kernel_rfl) Z ?_;intro w_2 Z;refine sp rfl (qb _) (sp rfl (qo rfl xQ hb rfl) (sp rfl (kt (g_lss rfl rfl) (congrArg Value.bool (uH (by omega)))) (sp rfl (Qmb rfl) (spf rfl rfl rfl rfl (spf rfl rfl rfl rfl (spf rfl rfl rfl rfl (spf rfl rfl rfl rfl (spf rfl rfl rfl rfl (spf rfl rfl rfl rfl (spf rfl rfl rfl rfl (spf rfl rfl rfl rfl ?_)))))))))));refine spf rfl rfl rfl rfl (spf rfl rfl rfl rfl (sgf rfl rfl rfl rfl (Z) (sgf rfl rfl rfl rfl (Z) (spf rfl rfl rfl rfl (sp rfl (g_or (b:=false) rfl rfl (fun h=>(by cases h))) (sn (xL (jR (rfl) (QwR (qq Z (qs (pl:=[(0,1),(1,1),(2,1),(3,1)]) (cs:=[.bool _,.ig _,.ig _,.sg _ _ _]) uK uk (fun w=>by simp[Qm,xK,uy]) mp0 rfl) ?_))))))))));refine qe (qf 0 Z ug rfl rfl rfl (vs:=[.bool _,.ig _,.ig _,.sg _ _ _]) rfl rfl rfl (xH rfl) (cs':=[_,_,_,_]) rfl) ?_;clear Z;rintro _ w_3⟨rfl,Z⟩;refine qq Z (Qai rfl) (QoN (xO (ul (ret2 JS (qw 0 Z ug uO rfl rfl rfl) (qg (v:=.ig _) rfl) ?_))))
  first
   | exact .inr ⟨_,rfl,Z.nil,.inl hlt⟩
   | exact .inr ⟨_,rfl,Z.nil,.inr (.inl hsum)⟩
   | exact .inr ⟨_,rfl,Z.nil,.inr (.inr ⟨q,ok,hGq,fun h=>absurd (hok.symm.trans h.1) Bool.false_ne_true⟩)⟩
   | exact .inr ⟨_,rfl,Z.nil,.inr (.inr ⟨q,ok,hGq,fun h=>hck h.2.1⟩)⟩
   | exact .inr ⟨_,rfl,Z.nil,.inr (.inr ⟨q,ok,hGq,fun h=>hne h.2.2⟩)⟩
   | (subst hok; exact .inl ⟨q,aq,mq,cq,_,hGq,hqw,hck,heq,rfl,Z.nil,hq⟩)
 ·
  have hs1:=(RSl.resl2 hb 0 (b.length - 4) (by omega) (by omega)).1;rw[List.drop_zero]at hs1;obtain⟨a1,c1,hv1,_⟩:=hs1.len;rw[hv1]at hs1;rw[uo,Nat.min_eq_left (Nat.sub_le _ _)]at hv1 hs1;have hs2:RBytes I0 _ _:=RSl.slL hb (b.length - 4) (by omega);obtain⟨a2,c2,hv2,_⟩:=hs2.len;rw[hv2]at hs2;refine draw (.pg 0 (.pg 1 (.pg 2 (.pg 3 (.pg 4 (.pg 5 (.pg 6 (.pg 7 (.pg 8 (.pg 10 (.pg 11 (.pg 12 (.pg 13 (.pg 14 (.cons 9 .eff (.cons 15 .eff (.pg 16 (.pg 17 .nil)))))))))))))))))) mixed (by kernel_rfl) Z ?_;intro w_4 Z;refine sp rfl (qb _) (sp rfl (qo rfl xQ hb rfl) (sp rfl (kt (g_lss rfl rfl) (congrArg Value.bool (uw (by omega)))) (sp rfl (Qmb rfl) (spt rfl rfl rfl (qb _) (spt rfl rfl rfl (qb _) (spt rfl rfl rfl (qo rfl xQ hb rfl) (spt rfl rfl rfl (g_sub rfl rfl (by omega) (by omega)) (spt rfl rfl rfl (kt (zt (h0:=b.length - 4) xQ un rfl rfl (by omega) (by omega) (by omega)) hv1) ?_))))))));refine spt rfl rfl rfl (qb _) (spt rfl rfl rfl (qb _) (spt rfl rfl rfl (qo rfl xQ hb rfl) (spt rfl rfl rfl (g_sub rfl rfl (by omega) (by omega)) (spt rfl rfl rfl (kt (kj (l0:=b.length - 4) xQ un rfl rfl (by omega) (by omega) (by omega)) hv2) ?_))));have hS0:=Z;refine Inl.set rfl rfl rfl (qi call48 rfl (sum14_c _ _ _ (b.take (b.length - 4)) _ _ Z.imm hs1 (vC hbb _) (by rw[uo]; omega))) ?_;rintro _ w_5⟨I_f,a17,c17,rfl,hE,h17,_⟩;replace Z:=Z.call hE;replace hb:=hb.mono hE.ext;refine⟨_,_,hS0.le hE.ext (uu _),Z,?_⟩;have hS0:=Z;refine Inl.set rfl rfl rfl (qi call49 rfl (beq_c _ _ (sumP (b.take (b.length - 4))) (b.drop (b.length - 4)) _ _ Z.imm h17 (hs2.mono Z.ext) (sumP_byt _) (byt_drop hbb _))) ?_
  rintro _ w_6⟨rfl,hE⟩;replace Z:=Z.call hE;refine⟨_,_,hS0.le hE.ext (uu _),Z,spt rfl rfl rfl (g_not rfl) (sp rfl (g_or rfl rfl (fun _=>rfl)) (sn (xL (qh rfl ?_ ?_))))⟩
  ·
   intro hc25;have hsum:¬sumP (b.take (b.length - 4))=b.drop (b.length - 4):=by simpa using hc25
   refine QwR (qq Z (qs (pl:=[(0,1),(1,1),(2,1),(3,1)]) (cs:=[.bool _,.ig _,.ig _,.sg _ _ _]) uK uk (fun w=>by simp[Qm,xK,uy]) mp0 rfl) (qe (qf 0 Z ug rfl rfl rfl (vs:=[.bool _,.ig _,.ig _,.sg _ _ _]) rfl rfl rfl (xH rfl) (cs':=[_,_,_,_]) rfl) ?_));clear Z;rintro _ w_7⟨rfl,Z⟩;refine qq Z (Qai rfl) (QoN (xO (ul (ret2 JS (qw 0 Z ug uO rfl rfl rfl) (qg (v:=.ig _) rfl) ?_))))
   first
    | exact .inr ⟨_,rfl,Z.nil,.inl hlt⟩
    | exact .inr ⟨_,rfl,Z.nil,.inr (.inl hsum)⟩
    | exact .inr ⟨_,rfl,Z.nil,.inr (.inr ⟨q,ok,hGq,fun h=>absurd (hok.symm.trans h.1) Bool.false_ne_true⟩)⟩
    | exact .inr ⟨_,rfl,Z.nil,.inr (.inr ⟨q,ok,hGq,fun h=>hck h.2.1⟩)⟩
    | exact .inr ⟨_,rfl,Z.nil,.inr (.inr ⟨q,ok,hGq,fun h=>hne h.2.2⟩)⟩
    | (subst hok; exact .inl ⟨q,aq,mq,cq,_,hGq,hqw,hck,heq,rfl,Z.nil,hq⟩)
  ·
   intro hc25;have hsum:sumP (b.take (b.length - 4))=b.drop (b.length - 4):=by simpa using hc25
   refine xM (xL (QwR (qq Z (qb _) (qe (qi call50 rfl ((hrd (by omega) hsum).c ad cap _ _ Z.imm hb)) ?_))));rintro _ w_8⟨I_f,q,ok,aq,mq,cq,rfl,hE,hGq,hqq⟩;replace Z:=Z.callE hE;replace hb:=hb.mono hE.ext;replace h17:=h17.mono hE.ext;refine qq Z (qb _) (qq Z (qk rfl rfl) (qq Z (qk (v:=.bool _) rfl rfl) (qe (qr (cs:=[.bool _,.ig _,.ig _,.sg _ _ _]) Z uK rfl) ?_)));clear Z;rintro _ w_9⟨b4,rfl,Z⟩;refine qe (qf 0 Z ug rfl rfl rfl (vs:=[.bool _,.ig _,.ig _,.sg _ _ _]) rfl rfl rfl (xH rfl) (cs':=[_,_,_,_]) rfl) ?_;clear Z;rintro _ w_10⟨rfl,Z⟩;refine qq Z (Qab rfl) (QoN (xJ (QwR (qq Z (Qmb rfl) (qq Z (g_not rfl) (QoN (qh rfl ?_ ?_)))))))
   ·
    intro hc33;have hok:ok=false:=by simpa using hc33
    refine QwR (qq Z (qs (pl:=[(0,1),(1,1),(2,1),(3,1)]) (cs:=[.bool _,.ig _,.ig _,.sg _ _ _]) uK uk (fun w=>by simp[Qm,xK,uy]) mp0 rfl) (qe (qf 1 Z ug rfl rfl rfl (vs:=[.bool _,.ig _,.ig _,.sg _ _ _]) rfl rfl rfl (xH rfl) (cs':=[_,_,_,_]) rfl) ?_));clear Z;rintro _ w_11⟨rfl,Z⟩;refine qq Z (Qai rfl) (QoN (xO (ul (ret2 JS (qw 1 Z ug uO rfl rfl rfl) (qg (v:=.ig _) rfl) ?_))))
    first
     | exact .inr ⟨_,rfl,Z.nil,.inl hlt⟩
     | exact .inr ⟨_,rfl,Z.nil,.inr (.inl hsum)⟩
     | exact .inr ⟨_,rfl,Z.nil,.inr (.inr ⟨q,ok,hGq,fun h=>absurd (hok.symm.trans h.1) Bool.false_ne_true⟩)⟩
     | exact .inr ⟨_,rfl,Z.nil,.inr (.inr ⟨q,ok,hGq,fun h=>hck h.2.1⟩)⟩
     | exact .inr ⟨_,rfl,Z.nil,.inr (.inr ⟨q,ok,hGq,fun h=>hne h.2.2⟩)⟩
     | (subst hok; exact .inl ⟨q,aq,mq,cq,_,hGq,hqw,hck,heq,rfl,Z.nil,hq⟩)
   ·
    intro hc33;have hok:ok=true:=by simpa using hc33
    obtain⟨hq,hqw⟩:=hqq hok;refine xM (xL (xJ (xJ ((Classical.em ((checkP q).2=0)).elim (fun hck=>?_) (fun hck=>?_)))))
    ·
     refine reg (qq Z (g_ldO 0 (vs:=[.bool _,.ig _,.ig _,.sg _ _ _]) ug uO rfl rfl rfl rfl) (qe (qi call17 rfl (pack_ok_c q aq mq cq _ _ Z.imm hq hqw hck)) ?_));rintro _ w_12⟨I_f,a37,c37,rfl,hE,h37⟩;replace Z:=Z.callE hE;replace hb:=hb.mono hE.ext;replace h17:=h17.mono hE.ext;replace hq:=hq.mono hE.ext;refine qq Z (qb _) (qq Z (qk rfl rfl) (qq Z (Qxi rfl rfl) (qq Z (qd _) (qq Z (Qai rfl) (QoR (qq Z (Qmi rfl) (qq Z (g_neq rfl rfl) (qq Z (Qmb rfl) (qqs rfl rfl Z (qb _) (qqs rfl rfl Z (qb _) (qes rfl rfl (qi call49 rfl (beq_c _ _ (packP q) b _ _ Z.imm h37 hb (packP_byt (patG_of hqw hck)) hbb)) ?_)))))))))));rintro _ w_13⟨rfl,hE⟩;replace Z:=Z.callE hE;refine qqs rfl rfl Z (g_not rfl) (qq Z (g_or rfl rfl (fun _=>rfl)) (QoN (qh rfl ?_ ?_)))
     ·
      intro hc47;have hne:¬packP q=b:=by simpa using hc47
      refine QwR (qq Z (qs (pl:=[(0,1),(1,1),(2,1),(3,1)]) (cs:=[.bool _,.ig _,.ig _,.sg _ _ _]) uK uk (fun w=>by simp[Qm,xK,uy]) mp0 rfl) (qe (qf 1 Z ug rfl rfl rfl (vs:=[.bool _,.ig _,.ig _,.sg _ _ _]) rfl rfl rfl (xH rfl) (cs':=[_,_,_,_]) rfl) ?_));clear Z;rintro _ w_14⟨rfl,Z⟩;refine qq Z (Qai rfl) (QoN (xO (ul (ret2 JS (qw 1 Z ug uO rfl rfl rfl) (qg (v:=.ig _) rfl) ?_))))
      first
       | exact .inr ⟨_,rfl,Z.nil,.inl hlt⟩
       | exact .inr ⟨_,rfl,Z.nil,.inr (.inl hsum)⟩
       | exact .inr ⟨_,rfl,Z.nil,.inr (.inr ⟨q,ok,hGq,fun h=>absurd (hok.symm.trans h.1) Bool.false_ne_true⟩)⟩
       | exact .inr ⟨_,rfl,Z.nil,.inr (.inr ⟨q,ok,hGq,fun h=>hck h.2.1⟩)⟩
       | exact .inr ⟨_,rfl,Z.nil,.inr (.inr ⟨q,ok,hGq,fun h=>hne h.2.2⟩)⟩
       | (subst hok; exact .inl ⟨q,aq,mq,cq,_,hGq,hqw,hck,heq,rfl,Z.nil,hq⟩)
     ·
      intro hc47;have heq:packP q=b:=by simpa using hc47
      refine xM (xL (QwR (qq Z (g_ldO 0 (vs:=[.bool _,.ig _,.ig _,.sg _ _ _]) ug uO rfl rfl rfl rfl) (qe (qf 1 Z ug rfl rfl rfl (vs:=[.bool _,.ig _,.ig _,.sg _ _ _]) rfl rfl rfl (xH rfl) (cs':=[_,_,_,_]) rfl) ?_))));clear Z;rintro _ w_15⟨rfl,Z⟩;refine qq Z (Qai rfl) (QoN (xO (ret2 JS (qw 1 Z ug uO rfl rfl rfl) (qg (v:=.ig _) rfl) ?_)))
      first
       | exact .inr ⟨_,rfl,Z.nil,.inl hlt⟩
       | exact .inr ⟨_,rfl,Z.nil,.inr (.inl hsum)⟩
       | exact .inr ⟨_,rfl,Z.nil,.inr (.inr ⟨q,ok,hGq,fun h=>absurd (hok.symm.trans h.1) Bool.false_ne_true⟩)⟩
       | exact .inr ⟨_,rfl,Z.nil,.inr (.inr ⟨q,ok,hGq,fun h=>hck h.2.1⟩)⟩
       | exact .inr ⟨_,rfl,Z.nil,.inr (.inr ⟨q,ok,hGq,fun h=>hne h.2.2⟩)⟩
       | (subst hok; exact .inl ⟨q,aq,mq,cq,_,hGq,hqw,hck,heq,rfl,Z.nil,hq⟩)
    ·
     refine reg (qq Z (g_ldO 0 (vs:=[.bool _,.ig _,.ig _,.sg _ _ _]) ug uO rfl rfl rfl rfl) (qe (qi call17 rfl (pack_bad_c q aq mq cq _ _ Z.imm hq hqw hck)) ?_));rintro _ w_16⟨rfl,hE⟩;replace Z:=Z.callE hE;replace hb:=hb.mono hE.ext;replace h17:=h17.mono hE.ext;replace hq:=hq.mono hE.ext;refine qq Z (qb _) (qq Z (qk rfl rfl) (qq Z (Qxi rfl rfl) (qq Z (qd _) (qq Z (Qai rfl) (QoR (qq Z (Qmi rfl) (qq Z (g_neq rfl rfl) (qq Z (Qmb rfl) (qsf rfl rfl rfl (qsf rfl rfl rfl (qsf rfl rfl rfl (qsf rfl rfl rfl (qq Z (g_or (b:=false) rfl rfl (fun h=>(by cases h))) (QoN (jR (rfl) (QwR ?_))))))))))))))));refine qq Z (qs (pl:=[(0,1),(1,1),(2,1),(3,1)]) (cs:=[.bool _,.ig _,.ig _,.sg _ _ _]) uK uk (fun w=>by simp[Qm,xK,uy]) mp0 rfl) (qe (qf 1 Z ug rfl rfl rfl (vs:=[.bool _,.ig _,.ig _,.sg _ _ _]) rfl rfl rfl (xH rfl) (cs':=[_,_,_,_]) rfl) ?_);clear Z;rintro _ w_17⟨rfl,Z⟩;refine qq Z (Qai rfl) (QoN (xO (ul (ret2 JS (qw 1 Z ug uO rfl rfl rfl) (qg (v:=.ig _) rfl) ?_))))
     first
      | exact .inr ⟨_,rfl,Z.nil,.inl hlt⟩
      | exact .inr ⟨_,rfl,Z.nil,.inr (.inl hsum)⟩
      | exact .inr ⟨_,rfl,Z.nil,.inr (.inr ⟨q,ok,hGq,fun h=>absurd (hok.symm.trans h.1) Bool.false_ne_true⟩)⟩
      | exact .inr ⟨_,rfl,Z.nil,.inr (.inr ⟨q,ok,hGq,fun h=>hck h.2.1⟩)⟩
      | exact .inr ⟨_,rfl,Z.nil,.inr (.inr ⟨q,ok,hGq,fun h=>hne h.2.2⟩)⟩
      | (subst hok; exact .inl ⟨q,aq,mq,cq,_,hGq,hqw,hck,heq,rfl,Z.nil,hq⟩)
end Go.Proofs.YtgkgihnpjgbmhaaGreatDoor
