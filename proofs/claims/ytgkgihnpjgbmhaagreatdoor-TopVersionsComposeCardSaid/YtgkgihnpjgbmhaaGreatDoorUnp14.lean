/- pack.Unpack: what it computes, of what read gives. Conditions: none. -/
import Derived.Test.YtgkgihnpjgbmhaaGreatDoorRd14
set_option linter.unusedSimpArgs false
set_option linter.unusedVariables false
namespace Go.Proofs.YtgkgihnpjgbmhaaGreatDoor
open Tryz
open Go Go.RowKit Go.Inl
structure RdC (b : List Int) (G : PatL → Bool → Prop) : Prop where
 c:∀(ad:Option Addr) (cap:Nat) (w0:World) (I0:Imm),Sat I0 w0→RBytes I0 (.slice ad b.length cap) b→Ctr prog 50 [.slice ad b.length cap] w0 (fun v w'=>∃I' q ok a m c,v = .tuple #[.agg #[.bool q.lifted,.int .i64 q.in_,.int .i64 q.out,.slice a m c],.bool ok]∧Ext w0 I0 w' I'∧G q ok∧(ok=true→ROps I' (.slice a m c) q.ops∧q.wf))
theorem pack_ok_c (p : PatL) (ad : Option Addr) (m cap : Nat) (w0 : World) (I0 : Imm) (hI : Sat I0 w0) (hops : ROps I0 (.slice ad m cap) p.ops) (hp : p.wf) (hck : (checkP p).2 = 0) :
 Ctr prog 17 [.agg #[.bool p.lifted,.int .i64 p.in_,.int .i64 p.out,.slice ad m cap]] w0 (fun v w'=>∃I' a c,v = .tuple #[.slice a (packP p).length c,.int .i64 0]∧Ext w0 I0 w' I'∧RBytes I' (.slice a (packP p).length c) (packP p)) :=
 (pack_c p ad m cap w0 I0 hI hops hp).mono fun v w' h=>h.elim (fun h=>absurd hck h.1) fun h=>h.2
theorem pack_bad_c (p : PatL) (ad : Option Addr) (m cap : Nat) (w0 : World) (I0 : Imm) (hI : Sat I0 w0) (hops : ROps I0 (.slice ad m cap) p.ops) (hp : p.wf) (hck : (checkP p).2 ≠ 0) :
 Ctr prog 17 [.agg #[.bool p.lifted,.int .i64 p.in_,.int .i64 p.out,.slice ad m cap]] w0 (fun v w'=>v = .tuple #[.slice none 0 0,.int .i64 60]∧Ext w0 I0 w' I0) :=
 (pack_c p ad m cap w0 I0 hI hops hp).mono fun v w' h=>h.elim (fun h=>h.2) fun h=>absurd h.1 hck
theorem packP_byt {p:PatL}(h:PatG p):Byt (packP p):=je (yj h) (ji _ _)
def UnpOk (G:PatL→Bool→Prop)(b:List Int)(w0:World)(I0:Imm)(v:Value)(w':World):Prop:=∃q a m c I',G q true∧q.wf∧(checkP q).2=0∧packP q=b∧v = .tuple #[.agg #[.bool q.lifted,.int .i64 q.in_,.int .i64 q.out,.slice a m c],.int .i64 0]∧Ext w0 I0 w' I'∧ROps I' (.slice a m c) q.ops
def UnpNo (G:PatL→Bool→Prop)(b:List Int)(w0:World)(I0:Imm)(v:Value)(w':World):Prop:=∃I',v = .tuple #[.agg #[.bool false,.int .i64 0,.int .i64 0,.slice none 0 0],.int .i64 140]∧Ext w0 I0 w' I'∧(b.length < 26∨sumP (b.take (b.length - 4))≠b.drop (b.length - 4)∨∃q ok,G q ok∧¬(ok=true∧(checkP q).2=0∧packP q=b))
theorem sumP_byt (l:List Int):Byt (sumP l):=ji _ _
attribute [local irreducible] packP bodyP headP code1 code2 sumP numsB
theorem beq_c (va vb : Value) (x y : List Int) (w0 : World) (I0 : Imm) (hI : Sat I0 w0) (hx : RBytes I0 va x) (hy : RBytes I0 vb y) (bx : Byt x) (hby : Byt y) :
 Ctr prog 49 [va,vb] w0 (fun v w'=>v = .bool (decide (x=y))∧Ext w0 I0 w' I0):=by
 refine fn (n:=10) func49 rfl rfl rfl ?_;have hS:=St.start hI;refine QwR (qq hS (Qab rfl) (QoR (qq hS (qb _) (qq hS (g_strI vH xI Qf hx rfl) (qq hS (qb _) (qq hS (g_strI vH xI Qf hy rfl) (qq hS (g_eqlB bx hby rfl rfl) (qq hS (Qab rfl) (QoN (vM (ret1 results49 (qh (v:=.bool _) rfl) ?_)))))))))));exact⟨rfl,hS.nil⟩
set_option maxHeartbeats 2000000 in
theorem unpack_c (b : List Int) (G : PatL → Bool → Prop) (hbb : Byt b) (hrd : 26 ≤ b.length → sumP (b.take (b.length - 4)) = b.drop (b.length - 4) → RdC b G) (ad : Option Addr) (cap : Nat) (w0 : World) (I0 : Imm) (hI : Sat I0 w0) (hb : RBytes I0 (.slice ad b.length cap) b) :
 Ctr prog 18 [.slice ad b.length cap] w0 (fun v w'=>UnpOk G b w0 I0 v w'∨UnpNo G b w0 I0 v w'):=by
 have hll:=RSl.le hb;simp only[maxLen]at hll;have hcc:=(RSl.resl2 hb b.length b.length (vX _) (vX _)).2.1;refine fn (n:=50) func18 rfl rfl rfl ?_;have hS:=St.start hI;refine QwR (qe (qv (cs:=[.bool _,.int .i64 _,.int .i64 _,.slice _ _ _]) hS xw rfl) ?_);clear hS;rintro _ w_1⟨b2,rfl,hS⟩;refine qq hS (Qai rfl) (QoN (vD (vD ((Classical.em (b.length < 26)).elim (fun hlt=>?_) (fun hge=>?_)))))
 ·
  refine draw (.cons 0 .pure (.cons 1 .pure (.cons 2 .pure (.cons 3 .pure (.cons 4 .pure (.cons 5 .pure (.cons 6 .pure (.cons 7 .pure (.cons 8 .pure (.cons 10 .pure (.cons 11 .pure (.cons 12 .pure (.cons 13 .pure (.cons 14 .pure (.cons 9 .eff (.cons 15 .eff (.cons 16 .pure (.cons 17 .pure .nil)))))))))))))))))) mixed (by kernel_rfl) hS ?_;intro w_2 hS;refine sp rfl (qb _) (sp rfl (qo rfl vH hb rfl) (sp rfl (jB (g_lss rfl rfl) (congrArg Value.bool (ur (by omega)))) (sp rfl (Qmb rfl) (spf rfl rfl rfl rfl (spf rfl rfl rfl rfl (spf rfl rfl rfl rfl (spf rfl rfl rfl rfl (spf rfl rfl rfl rfl (spf rfl rfl rfl rfl (spf rfl rfl rfl rfl (spf rfl rfl rfl rfl ?_)))))))))));refine spf rfl rfl rfl rfl (spf rfl rfl rfl rfl (sgf rfl rfl rfl rfl (hS) (sgf rfl rfl rfl rfl (hS) (spf rfl rfl rfl rfl (sp rfl (g_or (b:=false) rfl rfl (fun h=>(by cases h))) (sn (vK (yf (rfl) (QwR (qq hS (qt (pl:=[(0,1),(1,1),(2,1),(3,1)]) (cs:=[.bool _,.int .i64 _,.int .i64 _,.slice _ _ _]) xw vT (fun w=>by simp[xD,vF,xE]) mp0 rfl) ?_))))))))));refine qe (qf 0 hS vZ rfl rfl rfl (vs:=[.bool _,.int .i64 _,.int .i64 _,.slice _ _ _]) rfl rfl rfl (vB rfl) (cs':=[_,_,_,_]) rfl) ?_;clear hS;rintro _ w_3⟨rfl,hS⟩;refine qq hS (Qai rfl) (QoN (vM (xF (ret2 Qg (qD 0 hS vZ xy rfl rfl rfl) (qh (v:=.int .i64 _) rfl) ?_))))
  first
   | exact .inr ⟨_,rfl,hS.nil,.inl hlt⟩
   | exact .inr ⟨_,rfl,hS.nil,.inr (.inl hsum)⟩
   | exact .inr ⟨_,rfl,hS.nil,.inr (.inr ⟨q,ok,hGq,fun h=>absurd (hok.symm.trans h.1) Bool.false_ne_true⟩)⟩
   | exact .inr ⟨_,rfl,hS.nil,.inr (.inr ⟨q,ok,hGq,fun h=>hck h.2.1⟩)⟩
   | exact .inr ⟨_,rfl,hS.nil,.inr (.inr ⟨q,ok,hGq,fun h=>hne h.2.2⟩)⟩
   | (subst hok; exact .inl ⟨q,aq,mq,cq,_,hGq,hqw,hck,heq,rfl,hS.nil,hq⟩)
 ·
  have hs1:=(RSl.resl2 hb 0 (b.length - 4) (by omega) (by omega)).1;rw[List.drop_zero]at hs1;obtain⟨a1,c1,hv1,_⟩:=hs1.len;rw[hv1]at hs1;rw[xc,Nat.min_eq_left (Nat.sub_le _ _)]at hv1 hs1;have hs2:RBytes I0 _ _:=RSl.slL hb (b.length - 4) (by omega);obtain⟨a2,c2,hv2,_⟩:=hs2.len;rw[hv2]at hs2;refine draw (.cons 0 .pure (.cons 1 .pure (.cons 2 .pure (.cons 3 .pure (.cons 4 .pure (.cons 5 .pure (.cons 6 .pure (.cons 7 .pure (.cons 8 .pure (.cons 10 .pure (.cons 11 .pure (.cons 12 .pure (.cons 13 .pure (.cons 14 .pure (.cons 9 .eff (.cons 15 .eff (.cons 16 .pure (.cons 17 .pure .nil)))))))))))))))))) mixed (by kernel_rfl) hS ?_;intro w_4 hS;refine sp rfl (qb _) (sp rfl (qo rfl vH hb rfl) (sp rfl (jB (g_lss rfl rfl) (congrArg Value.bool (xX (by omega)))) (sp rfl (Qmb rfl) (spt rfl rfl rfl (qb _) (spt rfl rfl rfl (qb _) (spt rfl rfl rfl (qo rfl vH hb rfl) (spt rfl rfl rfl (g_sub rfl rfl (by omega) (by omega)) (spt rfl rfl rfl (jB (kv (h0:=b.length - 4) vH xd rfl rfl (by omega) (by omega) (by omega)) hv1) ?_))))))));refine spt rfl rfl rfl (qb _) (spt rfl rfl rfl (qb _) (spt rfl rfl rfl (qo rfl vH hb rfl) (spt rfl rfl rfl (g_sub rfl rfl (by omega) (by omega)) (spt rfl rfl rfl (jB (yc (l0:=b.length - 4) vH xd rfl rfl (by omega) (by omega) (by omega)) hv2) ?_))));have hS0:=hS;refine Inl.set rfl rfl rfl (qg call48 rfl (yW _ _ _ (b.take (b.length - 4)) _ _ hS.imm hs1 (zL hbb _) (by rw[xc]; omega))) ?_;rintro _ w_5⟨I_f,a17,c17,rfl,hE,h17,_⟩;replace hS:=hS.call hE;replace hb:=hb.mono hE.ext;refine⟨_,_,hS0.le hE.ext (xK _),hS,?_⟩
  have hS0:=hS;refine Inl.set rfl rfl rfl (qg call49 rfl (beq_c _ _ (sumP (b.take (b.length - 4))) (b.drop (b.length - 4)) _ _ hS.imm h17 (hs2.mono hS.ext) (sumP_byt _) (byt_drop hbb _))) ?_;rintro _ w_6⟨rfl,hE⟩;replace hS:=hS.call hE;refine⟨_,_,hS0.le hE.ext (xK _),hS,spt rfl rfl rfl (g_not rfl) (sp rfl (g_or rfl rfl (fun _=>rfl)) (sn (vK (qj rfl ?_ ?_))))⟩
  ·
   intro hc25;have hsum:¬sumP (b.take (b.length - 4))=b.drop (b.length - 4):=by simpa using hc25
   refine QwR (qq hS (qt (pl:=[(0,1),(1,1),(2,1),(3,1)]) (cs:=[.bool _,.int .i64 _,.int .i64 _,.slice _ _ _]) xw vT (fun w=>by simp[xD,vF,xE]) mp0 rfl) (qe (qf 0 hS vZ rfl rfl rfl (vs:=[.bool _,.int .i64 _,.int .i64 _,.slice _ _ _]) rfl rfl rfl (vB rfl) (cs':=[_,_,_,_]) rfl) ?_));clear hS;rintro _ w_7⟨rfl,hS⟩;refine qq hS (Qai rfl) (QoN (vM (xF (ret2 Qg (qD 0 hS vZ xy rfl rfl rfl) (qh (v:=.int .i64 _) rfl) ?_))))
   first
    | exact .inr ⟨_,rfl,hS.nil,.inl hlt⟩
    | exact .inr ⟨_,rfl,hS.nil,.inr (.inl hsum)⟩
    | exact .inr ⟨_,rfl,hS.nil,.inr (.inr ⟨q,ok,hGq,fun h=>absurd (hok.symm.trans h.1) Bool.false_ne_true⟩)⟩
    | exact .inr ⟨_,rfl,hS.nil,.inr (.inr ⟨q,ok,hGq,fun h=>hck h.2.1⟩)⟩
    | exact .inr ⟨_,rfl,hS.nil,.inr (.inr ⟨q,ok,hGq,fun h=>hne h.2.2⟩)⟩
    | (subst hok; exact .inl ⟨q,aq,mq,cq,_,hGq,hqw,hck,heq,rfl,hS.nil,hq⟩)
  ·
   intro hc25;have hsum:sumP (b.take (b.length - 4))=b.drop (b.length - 4):=by simpa using hc25
   refine vL (vK (QwR (qq hS (qb _) (qe (qg call50 rfl ((hrd (by omega) hsum).c ad cap _ _ hS.imm hb)) ?_))));rintro _ w_8⟨I_f,q,ok,aq,mq,cq,rfl,hE,hGq,hqq⟩;replace hS:=hS.callE hE;replace hb:=hb.mono hE.ext;replace h17:=h17.mono hE.ext;refine qq hS (qb _) (qq hS (qm rfl rfl) (qq hS (qm (v:=.bool _) rfl rfl) (qe (qv (cs:=[.bool _,.int .i64 _,.int .i64 _,.slice _ _ _]) hS xw rfl) ?_)));clear hS;rintro _ w_9⟨b4,rfl,hS⟩;refine qe (qf 0 hS vZ rfl rfl rfl (vs:=[.bool _,.int .i64 _,.int .i64 _,.slice _ _ _]) rfl rfl rfl (vB rfl) (cs':=[_,_,_,_]) rfl) ?_;clear hS;rintro _ w_10⟨rfl,hS⟩;refine qq hS (Qab rfl) (QoN (vD (QwR (qq hS (Qmb rfl) (qq hS (g_not rfl) (QoN (qj rfl ?_ ?_)))))))
   ·
    intro hc33;have hok:ok=false:=by simpa using hc33
    refine QwR (qq hS (qt (pl:=[(0,1),(1,1),(2,1),(3,1)]) (cs:=[.bool _,.int .i64 _,.int .i64 _,.slice _ _ _]) xw vT (fun w=>by simp[xD,vF,xE]) mp0 rfl) (qe (qf 1 hS vZ rfl rfl rfl (vs:=[.bool _,.int .i64 _,.int .i64 _,.slice _ _ _]) rfl rfl rfl (vB rfl) (cs':=[_,_,_,_]) rfl) ?_));clear hS;rintro _ w_11⟨rfl,hS⟩;refine qq hS (Qai rfl) (QoN (vM (xF (ret2 Qg (qD 1 hS vZ xy rfl rfl rfl) (qh (v:=.int .i64 _) rfl) ?_))))
    first
     | exact .inr ⟨_,rfl,hS.nil,.inl hlt⟩
     | exact .inr ⟨_,rfl,hS.nil,.inr (.inl hsum)⟩
     | exact .inr ⟨_,rfl,hS.nil,.inr (.inr ⟨q,ok,hGq,fun h=>absurd (hok.symm.trans h.1) Bool.false_ne_true⟩)⟩
     | exact .inr ⟨_,rfl,hS.nil,.inr (.inr ⟨q,ok,hGq,fun h=>hck h.2.1⟩)⟩
     | exact .inr ⟨_,rfl,hS.nil,.inr (.inr ⟨q,ok,hGq,fun h=>hne h.2.2⟩)⟩
     | (subst hok; exact .inl ⟨q,aq,mq,cq,_,hGq,hqw,hck,heq,rfl,hS.nil,hq⟩)
   ·
    intro hc33;have hok:ok=true:=by simpa using hc33
    obtain⟨hq,hqw⟩:=hqq hok;refine vL (vK (vD (vD ((Classical.em ((checkP q).2=0)).elim (fun hck=>?_) (fun hck=>?_)))))
    ·
     refine reg (qq hS (g_ldO 0 (vs:=[.bool _,.int .i64 _,.int .i64 _,.slice _ _ _]) vZ xy rfl rfl rfl rfl) (qe (qg call17 rfl (pack_ok_c q aq mq cq _ _ hS.imm hq hqw hck)) ?_));rintro _ w_12⟨I_f,a37,c37,rfl,hE,h37⟩;replace hS:=hS.callE hE;replace hb:=hb.mono hE.ext;replace h17:=h17.mono hE.ext;replace hq:=hq.mono hE.ext;refine qq hS (qb _) (qq hS (qm rfl rfl) (qq hS (Qxi rfl rfl) (qq hS (qc _) (qq hS (Qai rfl) (QoR (qq hS (Qmi rfl) (qq hS (g_neq rfl rfl) (qq hS (Qmb rfl) (qqs rfl rfl hS (qb _) (qqs rfl rfl hS (qb _) (qes rfl rfl (qg call49 rfl (beq_c _ _ (packP q) b _ _ hS.imm h37 hb (packP_byt (vd hqw hck)) hbb)) ?_)))))))))));rintro _ w_13⟨rfl,hE⟩;replace hS:=hS.callE hE;refine qqs rfl rfl hS (g_not rfl) (qq hS (g_or rfl rfl (fun _=>rfl)) (QoN (qj rfl ?_ ?_)))
     ·
      intro hc47;have hne:¬packP q=b:=by simpa using hc47
      refine QwR (qq hS (qt (pl:=[(0,1),(1,1),(2,1),(3,1)]) (cs:=[.bool _,.int .i64 _,.int .i64 _,.slice _ _ _]) xw vT (fun w=>by simp[xD,vF,xE]) mp0 rfl) (qe (qf 1 hS vZ rfl rfl rfl (vs:=[.bool _,.int .i64 _,.int .i64 _,.slice _ _ _]) rfl rfl rfl (vB rfl) (cs':=[_,_,_,_]) rfl) ?_));clear hS;rintro _ w_14⟨rfl,hS⟩;refine qq hS (Qai rfl) (QoN (vM (xF (ret2 Qg (qD 1 hS vZ xy rfl rfl rfl) (qh (v:=.int .i64 _) rfl) ?_))))
      first
       | exact .inr ⟨_,rfl,hS.nil,.inl hlt⟩
       | exact .inr ⟨_,rfl,hS.nil,.inr (.inl hsum)⟩
       | exact .inr ⟨_,rfl,hS.nil,.inr (.inr ⟨q,ok,hGq,fun h=>absurd (hok.symm.trans h.1) Bool.false_ne_true⟩)⟩
       | exact .inr ⟨_,rfl,hS.nil,.inr (.inr ⟨q,ok,hGq,fun h=>hck h.2.1⟩)⟩
       | exact .inr ⟨_,rfl,hS.nil,.inr (.inr ⟨q,ok,hGq,fun h=>hne h.2.2⟩)⟩
       | (subst hok; exact .inl ⟨q,aq,mq,cq,_,hGq,hqw,hck,heq,rfl,hS.nil,hq⟩)
     ·
      intro hc47;have heq:packP q=b:=by simpa using hc47
      refine vL (vK (QwR (qq hS (g_ldO 0 (vs:=[.bool _,.int .i64 _,.int .i64 _,.slice _ _ _]) vZ xy rfl rfl rfl rfl) (qe (qf 1 hS vZ rfl rfl rfl (vs:=[.bool _,.int .i64 _,.int .i64 _,.slice _ _ _]) rfl rfl rfl (vB rfl) (cs':=[_,_,_,_]) rfl) ?_))));clear hS;rintro _ w_15⟨rfl,hS⟩;refine qq hS (Qai rfl) (QoN (vM (ret2 Qg (qD 1 hS vZ xy rfl rfl rfl) (qh (v:=.int .i64 _) rfl) ?_)))
      first
       | exact .inr ⟨_,rfl,hS.nil,.inl hlt⟩
       | exact .inr ⟨_,rfl,hS.nil,.inr (.inl hsum)⟩
       | exact .inr ⟨_,rfl,hS.nil,.inr (.inr ⟨q,ok,hGq,fun h=>absurd (hok.symm.trans h.1) Bool.false_ne_true⟩)⟩
       | exact .inr ⟨_,rfl,hS.nil,.inr (.inr ⟨q,ok,hGq,fun h=>hck h.2.1⟩)⟩
       | exact .inr ⟨_,rfl,hS.nil,.inr (.inr ⟨q,ok,hGq,fun h=>hne h.2.2⟩)⟩
       | (subst hok; exact .inl ⟨q,aq,mq,cq,_,hGq,hqw,hck,heq,rfl,hS.nil,hq⟩)
    ·
     refine reg (qq hS (g_ldO 0 (vs:=[.bool _,.int .i64 _,.int .i64 _,.slice _ _ _]) vZ xy rfl rfl rfl rfl) (qe (qg call17 rfl (pack_bad_c q aq mq cq _ _ hS.imm hq hqw hck)) ?_));rintro _ w_16⟨rfl,hE⟩;replace hS:=hS.callE hE;replace hb:=hb.mono hE.ext;replace h17:=h17.mono hE.ext;replace hq:=hq.mono hE.ext;refine qq hS (qb _) (qq hS (qm rfl rfl) (qq hS (Qxi rfl rfl) (qq hS (qc _) (qq hS (Qai rfl) (QoR (qq hS (Qmi rfl) (qq hS (g_neq rfl rfl) (qq hS (Qmb rfl) (qsf rfl rfl rfl (qsf rfl rfl rfl (qsf rfl rfl rfl (qsf rfl rfl rfl (qq hS (g_or (b:=false) rfl rfl (fun h=>(by cases h))) (QoN (yf (rfl) ?_)))))))))))))));refine QwR (qq hS (qt (pl:=[(0,1),(1,1),(2,1),(3,1)]) (cs:=[.bool _,.int .i64 _,.int .i64 _,.slice _ _ _]) xw vT (fun w=>by simp[xD,vF,xE]) mp0 rfl) (qe (qf 1 hS vZ rfl rfl rfl (vs:=[.bool _,.int .i64 _,.int .i64 _,.slice _ _ _]) rfl rfl rfl (vB rfl) (cs':=[_,_,_,_]) rfl) ?_));clear hS;rintro _ w_17⟨rfl,hS⟩;refine qq hS (Qai rfl) (QoN (vM (xF (ret2 Qg (qD 1 hS vZ xy rfl rfl rfl) (qh (v:=.int .i64 _) rfl) ?_))))
     first
      | exact .inr ⟨_,rfl,hS.nil,.inl hlt⟩
      | exact .inr ⟨_,rfl,hS.nil,.inr (.inl hsum)⟩
      | exact .inr ⟨_,rfl,hS.nil,.inr (.inr ⟨q,ok,hGq,fun h=>absurd (hok.symm.trans h.1) Bool.false_ne_true⟩)⟩
      | exact .inr ⟨_,rfl,hS.nil,.inr (.inr ⟨q,ok,hGq,fun h=>hck h.2.1⟩)⟩
      | exact .inr ⟨_,rfl,hS.nil,.inr (.inr ⟨q,ok,hGq,fun h=>hne h.2.2⟩)⟩
      | (subst hok; exact .inl ⟨q,aq,mq,cq,_,hGq,hqw,hck,heq,rfl,hS.nil,hq⟩)
end Go.Proofs.YtgkgihnpjgbmhaaGreatDoor
