/- inlaylaw30.ServeLeads: its function answers true. Conditions: arguments are of their kinds. -/
import Derived.Test.YtcajgkfgjpfmaaaGreatSvL
set_option linter.unusedSimpArgs false
set_option linter.unusedVariables false
namespace Go.Proofs.YtcajgkfgjpfmaaaGreat
open Tryz
open Go Go.RowKit Go.Inl
theorem g_eqFL {P:Program}{n:Nat}{σ:Nat→Value}{S:World→Prop}{t t' ty:TypeId}{x y:Operand}{k:IntKind}{a b:Int}(hx:ev n σ x = .int k a)(hy:ev n σ y = .int k b)(h:a≠b):Gives P (ev n σ) S (.binOp .eql t x y t') ty (.bool false):=by
 have h2:=g_eql (P:=P) (S:=S) (t:=t) (t':=t') (ty:=ty) hx hy;rwa [uY h]at h2
theorem g_gtTL {P:Program}{n:Nat}{σ:Nat→Value}{S:World→Prop}{t t' ty:TypeId}{x y:Operand}{k:IntKind}{a b:Int}(hx:ev n σ x = .int k a)(hy:ev n σ y = .int k b)(h:b < a):Gives P (ev n σ) S (.binOp .gtr t x y t') ty (.bool true):=by
 have h2:=g_gtr (P:=P) (S:=S) (t:=t) (t':=t') (ty:=ty) hx hy;rwa [uK h]at h2
theorem has_F (ad : Option Addr) (cap : Nat) (l : List Int) (v : Int) (w0 : World) (I0 : Imm) (hI : Sat I0 w0) (hl : RFl I0 1 intC (.slice ad l.length cap) l) (h : v ∉ l) :
 Ctr prog 32 [.slice ad l.length cap,.int .i64 v] w0 (fun u w'=>u = .bool false∧Ext w0 I0 w' I0):=by
 have h2:=has_c ad cap l v w0 I0 hI hl;rwa [uY h]at h2
structure LdX where
 k:Nat
 gr:Int
 le:Int
structure LdI (s : SrvL) (f : Int) (m : NeedL) (k : Nat) (gr le : Int) : Prop where
 nil:openUp s f m k=[]→gr = -1∧le = -1
 some:openUp s f m k≠[]→gr=lastI (openUp s f m k)∧le=(escU s f m k).least∧0≤le∧0≤gr
theorem ld_zero (s:SrvL)(f:Int)(m:NeedL):LdI s f m 0 (-1) (-1):=⟨fun _=>⟨rfl,rfl⟩,fun h=>absurd rfl h⟩
theorem ld_skip {s:SrvL}{f:Int}{m:NeedL}{k:Nat}{v gr le:Int}(hv:s.g.vs[k]? = some v)(h:¬((lab (waysP s.g f m) k).is=true∧v∉s.gone))(hI:LdI s f m k gr le):LdI s f m (k+1) gr le:=by
 refine⟨?_,?_⟩ <;> rw[kK s f m hv,ud h]
 · exact hI.nil
 · rw[xg s f m hv,ud h]; exact hI.some
theorem ld_take {s : SrvL} (hg : GoodS s) {f : Int} {m : NeedL} (hf : f ∈ s.g.vs) {k : Nat} {v gr le c : Int} (hv : s.g.vs[k]? = some v) (h : (lab (waysP s.g f m) k).is = true ∧ v ∉ s.gone) (hI : LdI s f m k gr le) (hc : (lab (waysP s.g f m) k).c = c) :
 LdI s f m (k+1) v (if le < 0∨c < le then c else le):=by
 have hk:=(uc.1 hv).1;have hvm:=uf hv;have hd:=rch_of hg.b hf hvm (by rw[kR hg.b.toGrOk hv]; exact h.1) (m:=m);have hv0:=(vs_nn hg v hvm).1;have hdc:(lab (waysP s.g f m) (vIx s.g v)).c=c:=by rw[kR hg.b.toGrOk hv]; exact hc
 have hc0:=hd.cost;rw[hdc]at hc0;have hE:(escF s f m (escU s f m k) v).least=if le < 0∨c < le then c else le:=by
  unfold escF;rw[hd.path,hdc];have hF:=yF hg hf (m:=m) k (by omega);by_cases h0:openUp s f m k=[]
  · obtain ⟨h1, h2⟩ := hI.nil h0
    rw[hF.nil h0,ui ⟨rfl,.inl (by decide)⟩,ui (.inl (by omega))]
  · obtain ⟨h1, h2, h3, h4⟩ := hI.some h0
    have ht:=(hF.some h0).2.1;rw[← h2];by_cases hcl:c≤le
    · rw [ui ⟨rfl, .inr hcl⟩]
      show c=_
      split <;> omega
    · rw[ud (by
       rintro⟨_,h | h⟩
       · omega
       · exact hcl h),ud (by omega)]
      exact h2.symm
 refine⟨fun e=>?_,fun _=>⟨?_,?_,?_,hv0⟩⟩
 · rw[kK s f m hv,ui h]at e; simp at e
 · rw[kK s f m hv,ui h,lastI_snoc]
 · rw[xg s f m hv,ui h,hE]
 · by_cases h0 : openUp s f m k = []
   · have h1 := hI.nil h0
     rw[ui (.inl (by omega))]; exact hc0
   · have h1 := hI.some h0
     split <;> omega
theorem ld_end {s:SrvL}{f:Int}{m:NeedL}{gr le:Int}(h:LdI s f m s.g.vs.length gr le):(openP s f m=[]→gr = -1)∧(openP s f m≠[]→gr=lastI (openP s f m)∧le=(escU s f m s.g.vs.length).least∧0≤gr):=by
 have h1:=h.nil; have h2:=h.some
 rw[yS]at h1 h2;exact⟨fun e=>(h1 e).1,fun e=>⟨(h2 e).1,(h2 e).2.1,(h2 e).2.2.2⟩⟩
structure LdB (s : SrvL) (f : Int) (m : NeedL) (R1 R2 : OffR) : Prop where
 e1:R1.e=0
 len:0 < R1.o.way.length
 last:lastI R1.o.way=lastI (openP s f m)
 arg:f∉s.gone→R2.e=1
 esc:f∈s.gone→R2.e=0∧1 < R2.o.way.length∧lastI R2.o.way∉s.gone∧R2.o.c=(escU s f m s.g.vs.length).least
theorem ldB_of {s:SrvL}(hg:GoodS s)(hc:CacheOk s){f:Int}{m:NeedL}(hf:f∈s.g.vs)(h0:openP s f m≠[]):LdB s f m (bestP s f m) (escP s f m):=by
 obtain⟨d,_,_,_,hb⟩:=jA hg hc hf h0;have he:(bestP s f m).e=0:=by rw[hb]
 obtain⟨_,_,h1,h2,_⟩:=zW hg hc he;refine⟨he,List.length_pos_iff.2 h1,h2,fun h=>by rw[xf hf h],fun h=>?_⟩;obtain⟨d',k1,k2,k3,_,_,k4⟩:=zB hg hc hf h h0;have hng:=((kV hg.b hf).1 k3).2;have hne:=rch_ne k1 (fun e=>hng (by rw[e]; exact h));have hlp:=List.length_pos_iff.2 hne;have hwl:lastI (offO s f d'.l d'.c).way=(escU s f m s.g.vs.length).to:=way_last k1.walk;rw[k4];refine⟨rfl,?_,?_,k2⟩
 · show 1 < (f :: d'.l.map (lnkT s.g)).length
   rw[uP,uR]; omega
 · show lastI (offO s f d'.l d'.c).way ∉ s.gone
   rw[hwl]; exact hng
set_option maxRecDepth 20000 in
set_option maxHeartbeats 8000000 in
theorem slead_c (av al ap ag : Option Addr) (cv cl cp cg : Nat) (V : List Int) (Q : List Q6) (X : List RawL) (Z : List Int) (p0 p1 p2 p3 : Int) (w0 : World) (I0 : Imm) (hI : Sat I0 w0) (hV : RBytes I0 (.slice av V.length cv) V) (hVb : ∀ x ∈ V, 0 ≤ x ∧ x ≤ 255) (hQ : RFl I0 6 q6C (.slice al Q.length cl) Q) (hQw : ∀ q ∈ Q, q.wf) (hX : RRaws I0 (.slice ap X.length cp) X) (hXw : ∀ x ∈ X, x.wf) (hZ : RBytes I0 (.slice ag Z.length cg) Z) (hZb : ∀ x ∈ Z, 0 ≤ x ∧ x ≤ 255) (hp0 : 0 ≤ p0 ∧ p0 ≤ 255) (hp1 : 0 ≤ p1 ∧ p1 ≤ 255) (hp2 : 0 ≤ p2 ∧ p2 ≤ 255) (hp3 : 0 ≤ p3 ∧ p3 ≤ 255) :
 Ctr prog 6 [.agg #[.slice av V.length cv,.slice al Q.length cl,.slice ap X.length cp,.slice ag Z.length cg],.agg #[.int .u8 p0,.int .u8 p1,.int .u8 p2,.int .u8 p3]] w0 (fun v w'=>∃I',v = .bool true∧Ext w0 I0 w' I'):=by
 refine fn (n:=201) func6 rfl rfl rfl ?_;have hS:=St.start hI;refine QwR (qe (d_box (cs:=[.slice _ _ _,.slice _ _ _,.slice _ _ _,.slice _ _ _]) hS rfl) ?_);clear hS;rintro _ w_1⟨b2,rfl,hS⟩;refine qe (d_box (cs:=[.int .u8 _,.int .u8 _,.int .u8 _,.int .u8 _]) hS rfl) ?_;clear hS;rintro _ w_2⟨b3,rfl,hS⟩;refine qq hS (Qab rfl) (QoR (qe (ql Zb rfl (kj _ _ hS.imm)) ?_));rintro _ w_3⟨I_f,rfl,hE⟩;replace hS:=hS.callE hE;replace hV:=hV.mono hE.ext;replace hQ:=hQ.mono hE.ext;replace hX:=hX.mono hE.ext;replace hZ:=hZ.mono hE.ext;refine qq hS (Qab rfl) (QoR (qq hS (g_ldO 1 (vs:=[.slice _ _ _,.slice _ _ _,.slice _ _ _,.slice _ _ _]) KB KJ rfl rfl rfl rfl) (qe (ql Zc rfl (zK av al ap ag cv cl cp cg V Q X Z _ _ hS.imm hV hVb hQ hQw hX hXw hZ hZb)) ?_)));rintro _ w_4⟨I_f,s,A,rfl,hE,hs,hm⟩;replace hS:=hS.callE hE;replace hV:=hV.mono hE.ext;replace hQ:=hQ.mono hE.ext;replace hX:=hX.mono hE.ext;replace hZ:=hZ.mono hE.ext;have hg0:=hm.good;have hcc:=CacheOk.of_nil hm.cache;have hb0:=hg0.srvB hcc;have hvn:=hm.g.vn;have hln:=hm.g.ln;obtain⟨n,hn⟩:∃x_,needQ p1 p2 p3=x_:=⟨_,rfl⟩
 obtain⟨f,hf⟩:∃x_,versP s p0=x_:=⟨_,rfl⟩
 obtain⟨R1,hR1⟩:∃x_,bestP s f n=x_:=⟨_,rfl⟩
 obtain⟨R2,hR2⟩:∃x_,escP s f n=x_:=⟨_,rfl⟩
 have hnv:=hg0.b.nv;have hwl:=je hg0.b f n;refine qe (qw (cs:=[.slice _ _ _,.slice _ _ _,.slice _ _ _,.slice _ _ _,.slice _ _ _]) hS Qd rfl) ?_;clear hS;rintro _ w_5⟨b6,rfl,hS⟩;refine qe (qj 0 hS um rfl rfl rfl (vs:=[.slice _ _ _,.slice _ _ _,.slice _ _ _,.slice _ _ _,.slice _ _ _]) rfl rfl rfl (xP rfl) (cs':=[_,_,_,_,_]) rfl) ?_;clear hS;rintro _ w_6⟨rfl,hS⟩;refine QoN (xL (drawA _ [(0,.pure),(1,.held),(2,.pure),(3,.held),(4,.pure),(5,.held),(6,.pure),(8,.held),(9,.pure),(10,.held),(7,.eff),(11,.eff)] (.cons 13 .bar (.cons 14 .pure .nil)) mixed (by kernel_rfl) (lays (qG (i:=12) (cs:=[.int .i64 _,.int .i64 _,.int .i64 _,.int .i64 _,.int .i64 _]) rfl Jt rfl) lays0) hS ?_));refine oaP rfl rfl (fun x_=>(qA (o':=1) QV uJ rfl rfl (by decide) (by decide) rfl)) (oaH rfl rfl (fun x_=>(qi 1 Qp rfl rfl rfl)) (oaP rfl rfl (fun x_=>(qA (o':=2) QV uJ rfl rfl (by decide) (by decide) rfl)) (oaH rfl rfl (fun x_=>(qi 1 Qp rfl rfl rfl)) (oaP rfl rfl (fun x_=>(qA (o':=3) QV uJ rfl rfl (by decide) (by decide) rfl)) ?_))));refine oaH rfl rfl (fun x_=>(qi 1 Qp rfl rfl rfl)) (oaP rfl rfl (fun x_=>(jm (cs:=[.int .u8 p1,.int .u8 p2,.int .u8 p3]) KM Jo uJ rfl (fillu3 _ _ _ _ _ _))) (oaH rfl rfl (fun x_=>(g_ldO 0 (vs:=[.slice _ _ _,.slice _ _ _,.slice _ _ _,.slice _ _ _,.slice _ _ _]) um uz rfl rfl rfl rfl)) (oaP rfl rfl (fun x_=>(qA (o':=0) QV uJ rfl rfl (by decide) (by decide) rfl)) ?_)));refine oaH rfl rfl (fun x_=>(qi 1 Qp rfl rfl rfl)) (oaE rfl rfl (fun x_ T_ w_8 hS=>(ql Zd rfl (yT p1 p2 p3 n _ _ hS.imm hp1 hp2 hp3 hn))) ?_)
 rintro _ w_9 w_7⟨rfl,hE⟩;refine⟨_,hE,oaE rfl rfl (fun x_ T_ w_11 hS=>(ql KA rfl (jY s A p0 f _ _ hS.imm hs hp0 hf))) ?_⟩;rintro _ w_12 w_10⟨rfl,hE⟩;refine⟨_,hE,oaN ?_⟩;intro bs_ hbs_ w_13 hS;obtain⟨b7,rfl⟩:=len1 hbs_;refine sb rfl (qj 3 hS Qe rfl rfl rfl (vs:=[.int .i64 _,.int .i64 _,.int .i64 _,.int .i64 _,.int .i64 _]) rfl rfl rfl (xP rfl) (cs':=[_,_,_,_,_]) rfl) ?_;rintro _ w_14⟨rfl,hS⟩;refine⟨_,_,hS,sp rfl (Qai rfl) (sn (xN (xL (QwR (qq hS (qb (o':=0) un rfl uv rfl rfl rfl) (qq hS (g_ldO 0 (vs:=[.slice _ _ _,.slice _ _ _]) uv Je rfl rfl rfl rfl) (qq hS (Qmi rfl) (qe (ql JS rfl (jq s.g A.a0 A.a1 A.c0 A.c1 f _ _ hS.imm hs.g)) ?_))))))))⟩;rintro _ w_15⟨rfl,hE⟩;replace hS:=hS.callE hE;refine qq hS (g_lss rfl rfl) (QoN (qo rfl ?_ ?_))
 ·
  intro hc34;rw[qU]at hc34;have hf:f∉s.g.vs:=by simpa using hc34
  have hR1e:R1.e=291:=by rw[← hR1,yY hf]
  have hR2e:R2.e=291:=by rw[← hR2,esc_no hf]
  refine QwR (qq hS (g_ldO 0 (vs:=[.slice _ _ _,.slice _ _ _,.slice _ _ _,.slice _ _ _,.slice _ _ _]) um uz rfl rfl rfl rfl) (qq hS (Qmi rfl) (qq hS (g_ldO 3 (vs:=[.int .i64 _,.int .i64 _,.int .i64 _,.int .i64 _,.int .i64 _]) Qe QO rfl rfl rfl rfl) (qe (ql Ke rfl (jF s A f n R1 _ _ hS.imm hs hb0 hR1)) ?_))));rintro _ w_16⟨I_f,A1,B1,rfl,hE,hs1,ho1⟩;replace hS:=hS.callE hE;replace hV:=hV.mono hE.ext;replace hQ:=hQ.mono hE.ext;replace hX:=hX.mono hE.ext;replace hZ:=hZ.mono hE.ext;replace hs:=hs.mono hE.ext;refine qq hS (g_field1 uH rfl JB rfl rfl) (qq hS (g_eqT rfl rfl hR1e) (qq hS (Qmb rfl) (qqs rfl rfl hS (g_ldO 0 (vs:=[.slice _ _ _,.slice _ _ _,.slice _ _ _,.slice _ _ _,.slice _ _ _]) um uz rfl rfl rfl rfl) (qqs rfl rfl hS (Qmi rfl) (qqs rfl rfl hS (g_ldO 3 (vs:=[.int .i64 _,.int .i64 _,.int .i64 _,.int .i64 _,.int .i64 _]) Qe QO rfl rfl rfl rfl) ?_)))));refine qes rfl rfl (ql Ze rfl (kL s A f n R2 _ _ hS.imm hs hb0 hR2)) ?_;rintro _ w_17⟨I_f,B2,rfl,hE,ho2⟩;replace hS:=hS.callE hE;replace hV:=hV.mono hE.ext;replace hQ:=hQ.mono hE.ext;replace hX:=hX.mono hE.ext;replace hZ:=hZ.mono hE.ext;replace hs:=hs.mono hE.ext;replace hs1:=hs1.mono hE.ext;replace ho1:=ho1.mono hE.ext;refine qqs rfl rfl hS (g_field1 uH rfl JB rfl rfl) (qqs rfl rfl hS (g_eqT rfl rfl hR2e) (qq hS (g_and rfl rfl (fun _=>rfl)) (qq hS (Qmb rfl) (qqs rfl rfl hS (Qmb rfl) (qq hS (g_and rfl rfl (fun _=>rfl)) (qq hS (Qab rfl) (QoN (ub (uw (ret1 results6 (qr (v:=.bool _) rfl) ?_))))))))));exact⟨_,rfl,hS.nil⟩
 ·
  intro hc34;rw[qU]at hc34;have hfv:f∈s.g.vs:=by simpa using hc34
  refine xZ (xN (xL (drawA _ [(0,.pure),(1,.held),(2,.pure),(3,.held),(5,.held),(6,.pure),(7,.held),(9,.held),(10,.pure),(11,.held),(4,.eff),(8,.eff),(12,.eff)] (.cons 15 .pure (.cons 16 .bar (.cons 17 .bar .nil))) mixed (by kernel_rfl) (lays (qG (i:=13) (cs:=[.slice _ _ _,.slice _ _ _,.slice _ _ _,.slice _ _ _,.slice _ _ _,.slice _ _ _,.bool _,.int .i64 _,.int .i64 _,.slice _ _ _,.int .i64 _,.int .i64 _]) rfl QX rfl) (lays (qG (i:=14) (cs:=[.slice _ _ _,.slice _ _ _,.slice _ _ _,.slice _ _ _,.slice _ _ _,.slice _ _ _,.bool _,.int .i64 _,.int .i64 _,.slice _ _ _,.int .i64 _,.int .i64 _]) rfl QX rfl) lays0)) hS ?_)));refine oaP rfl rfl (fun x_=>(qb (o':=0) un rfl uv rfl rfl rfl)) (oaH rfl rfl (fun x_=>(g_ldO 0 (vs:=[.slice _ _ _,.slice _ _ _]) uv Je rfl rfl rfl rfl)) (oaP rfl rfl (fun x_=>(Qmi rfl)) (oaH rfl rfl (fun x_=>(g_ldO 3 (vs:=[.int .i64 _,.int .i64 _,.int .i64 _,.int .i64 _,.int .i64 _]) Qe QO rfl rfl rfl rfl)) ?_)));refine oaH rfl rfl (fun x_=>(g_ldO 0 (vs:=[.slice _ _ _,.slice _ _ _,.slice _ _ _,.slice _ _ _,.slice _ _ _]) um uz rfl rfl rfl rfl)) (oaP rfl rfl (fun x_=>(Qmi rfl)) (oaH rfl rfl (fun x_=>(g_ldO 3 (vs:=[.int .i64 _,.int .i64 _,.int .i64 _,.int .i64 _,.int .i64 _]) Qe QO rfl rfl rfl rfl)) ?_));refine oaH rfl rfl (fun x_=>(g_ldO 0 (vs:=[.slice _ _ _,.slice _ _ _,.slice _ _ _,.slice _ _ _,.slice _ _ _]) um uz rfl rfl rfl rfl)) (oaP rfl rfl (fun x_=>(Qmi rfl)) (oaH rfl rfl (fun x_=>(g_ldO 3 (vs:=[.int .i64 _,.int .i64 _,.int .i64 _,.int .i64 _,.int .i64 _]) Qe QO rfl rfl rfl rfl)) ?_))
  refine oaE rfl rfl (fun x_ T_ w_19 hS=>(ql call31 rfl (rall_c s.g A.a0 A.a1 A.c0 A.c1 f n _ _ hS.imm hs.g hg0.b))) ?_;rintro _ w_20 w_18⟨I_f,a56,c56,rfl,hE,h56⟩;refine⟨_,hE,?_⟩;replace hV:=hV.mono hE.ext;replace hQ:=hQ.mono hE.ext;replace hX:=hX.mono hE.ext;replace hZ:=hZ.mono hE.ext;replace hs:=hs.mono hE.ext;refine oaE rfl rfl (fun x_ T_ w_22 hS=>(ql Ke rfl (jF s A f n R1 _ _ hS.imm hs hb0 hR1))) ?_;rintro _ w_23 w_21⟨I_f,A1,B1,rfl,hE,hs1,ho1⟩;refine⟨_,hE,?_⟩;replace hV:=hV.mono hE.ext;replace hQ:=hQ.mono hE.ext;replace hX:=hX.mono hE.ext;replace hZ:=hZ.mono hE.ext;replace hs:=hs.mono hE.ext;replace h56:=h56.mono hE.ext;refine oaE rfl rfl (fun x_ T_ w_25 hS=>(ql Ze rfl (kL s A f n R2 _ _ hS.imm hs hb0 hR2))) ?_;rintro _ w_26 w_24⟨I_f,B2,rfl,hE,ho2⟩;refine⟨_,hE,?_⟩;replace hV:=hV.mono hE.ext;replace hQ:=hQ.mono hE.ext;replace hX:=hX.mono hE.ext;replace hZ:=hZ.mono hE.ext;replace hs:=hs.mono hE.ext;replace h56:=h56.mono hE.ext;replace hs1:=hs1.mono hE.ext;replace ho1:=ho1.mono hE.ext;refine oaN ?_;intro bs_ hbs_ w_27 hS;obtain⟨b10,b11,rfl⟩:=len2 hbs_;refine sp rfl (qy _) (sb rfl (qj 4 hS Jc rfl rfl rfl (vs:=[.slice _ _ _,.slice _ _ _,.slice _ _ _,.slice _ _ _,.slice _ _ _,.slice _ _ _,.bool _,.int .i64 _,.int .i64 _,.slice _ _ _,.int .i64 _,.int .i64 _]) rfl rfl rfl (xP rfl) (cs':=[_,_,_,_,_,_,_,_,_,_,_,_]) rfl) ?_);rintro _ w_28⟨rfl,hS⟩;refine⟨_,_,hS,sb rfl (qj 5 hS Jc rfl rfl rfl (vs:=[.slice _ _ _,.slice _ _ _,.slice _ _ _,.slice _ _ _,.slice _ _ _,.slice _ _ _,.bool _,.int .i64 _,.int .i64 _,.slice _ _ _,.int .i64 _,.int .i64 _]) rfl rfl rfl (xP rfl) (cs':=[_,_,_,_,_,_,_,_,_,_,_,_]) rfl) ?_⟩
  rintro _ w_29⟨rfl,hS⟩;refine⟨_,_,hS,sn (xN (QwR (qq hS (Qai rfl) (qq hS (Qai rfl) (QoN (xL (QwR (qq hS (Qai rfl) (QoN (uk (loop (fun(x:LdX) σ w=>okS σ [(5,.bool true),(6,.pointer (some ⟨b6,0,none⟩)),(8,.int .i64 f),(9,.slice a56 s.g.vs.length c56),(10,.pointer (some ⟨b10,0,none⟩)),(11,.pointer (some ⟨b11,0,none⟩)),(12,.int .i64 x.gr),(13,.int .i64 x.le),(14,.int .i64 x.k)]∧∃I,St [] w0 I0 I w [.cel b6 38 [.slice A.a0 s.g.vs.length A.c0,.slice A.a1 s.g.ls.length A.c1,.slice A.a2 s.ps.length A.c2,.slice A.a3 s.gone.length A.c3,.slice A.a4 s.cache.length A.c4],.cel b10 51 [.slice A1.a0 R1.s.g.vs.length A1.c0,.slice A1.a1 R1.s.g.ls.length A1.c1,.slice A1.a2 R1.s.ps.length A1.c2,.slice A1.a3 R1.s.gone.length A1.c3,.slice A1.a4 R1.s.cache.length A1.c4,.slice B1.a R1.o.way.length B1.c,.bool R1.o.p.lifted,.int .i64 R1.o.p.in_,.int .i64 R1.o.p.out,.slice B1.ap B1.m B1.cp,.int .i64 R1.o.c,.int .i64 R1.e],.cel b11 51 [.slice none 0 0,.slice none 0 0,.slice none 0 0,.slice none 0 0,.slice none 0 0,.slice B2.a R2.o.way.length B2.c,.bool R2.o.p.lifted,.int .i64 R2.o.p.in_,.int .i64 R2.o.p.out,.slice B2.ap B2.m B2.cp,.int .i64 R2.o.c,.int .i64 R2.e]]∧(x.k≤s.g.vs.length∧LdI s f n x.k x.gr x.le)∧RSrv I A s∧RWaysB I (.slice a56 s.g.vs.length c56) (waysP s.g f n)∧RSrv I A1 R1.s∧ROff I B1 R1.o∧ROff I B2 R2.o) (fun x=>s.g.vs.length - x.k) (⟨0,-1,-1⟩) ?_ ?_)))))))))))⟩
  ·
   exact⟨⟨rfl,rfl,rfl,rfl,rfl,rfl,rfl,rfl,rfl,trivial⟩,_,hS.sel [true,false,false,false,true,true],⟨Nat.zero_le _,ld_zero s f n⟩,hs,h56,hs1,ho1,ho2⟩
  ·
   rintro⟨i,gr,le⟩σ w_l⟨hs,I,hS,⟨hi0,hLd⟩,hsv,h56,hs1,ho1,ho2⟩;dsimp only at hs hS hi0 hLd ⊢;rw[← qx hs]; clear hs
   have hs:=hsv;clear hsv;refine xL (QwR (qq hS (Qmi rfl) (qq hS (qk _) (qq hS (qz rfl Jg h56 rfl) (qq hS (g_lss rfl rfl) (QoN (qo rfl ?_ ?_)))))))
   ·
    intro hc68
    try simp only[zA,zO,zN,zI,zF,zM,zT,zU]at hc68
    obtain⟨v,hvi⟩:∃v,s.g.vs[i]? = some v:=⟨_,xW (by omega)⟩
    obtain⟨x,hxi⟩:∃x,(waysP s.g f n)[i]? = some x:=⟨_,xW (by omega)⟩
    obtain⟨csx,hclx,hxA,hxc⟩:=RSl.at h56 hxi;obtain⟨ax,cx,rfl,hxl⟩:=hxc;have hlx:lab (waysP s.g f n) i=x:=by unfold lab; rw[uh,hxi]; rfl
    refine xZ (xN (xL (uk (xL (xL (draw (.cons 0 .pure (.cons 1 .pure (.cons 2 .pure (.cons 3 .pure (.cons 4 .held (.cons 5 .pure (.cons 6 .pure (.cons 7 .pure (.cons 8 .held (.cons 9 .pure (.cons 10 .pure (.cons 11 .held (.cons 12 .pure (.cons 13 .pure (.cons 14 .held (.cons 15 .eff (.cons 16 .pure .nil))))))))))))))))) mixed (by kernel_rfl) hS ?_))))));intro w_30 hS;refine sp rfl (qk _) (sp rfl (Qmi rfl) (sp rfl (g_ixI Jg QE h56 rfl rfl (by omega) (by omega)) (sp rfl (qF (c':=2) Qi rfl uC rfl rfl rfl) (sh rfl (qC QG hxA rfl rfl) (sp rfl (g_not rfl) (sp rfl (Qmb rfl) (spu rfl rfl rfl (fun hg=>(qb (o':=3) un rfl uo rfl rfl rfl)) ?_)))))));intro u78 hu78 hn78;refine shu rfl rfl rfl (fun hg=>(qi 0 uF rfl (hu78 hg) rfl)) ?_;intro u79 hu79 hn79;refine spu rfl rfl rfl (fun hg=>(qb (o':=0) un rfl uv rfl rfl rfl)) ?_;intro u80 hu80 hn80;refine spu rfl rfl rfl (fun hg=>(qb (o':=0) ut rfl uo rfl (hu80 hg) rfl)) ?_;intro u81 hu81 hn81;refine shu rfl rfl rfl (fun hg=>(qi 0 uF rfl (hu81 hg) rfl)) ?_;intro u82 hu82 hn82;refine spu rfl rfl rfl (fun hg=>(Qmi rfl)) ?_;intro u83 hu83 hn83;refine spu rfl rfl rfl (fun hg=>(g_ixI ua xX hs.g.vs (hu82 hg) (hu83 hg) (by omega) (by omega))) ?_;intro u84 hu84 hn84;refine shu rfl rfl rfl (fun hg=>(qC uj (hs.g.vs.at hvi) (hu84 hg) rfl)) ?_;intro u85 hu85 hn85;refine scu rfl rfl rfl hS (fun hg=>(ql Kp (ml (hu79 hg) (ml (hu85 hg) ml0)) (has_c A.a3 A.c3 s.gone v _ _ hS.imm hs.gone))) ?_;intro w_32 u86 hS hu86 hn86;refine sp rfl (g_or rfl rfl (fun hq=>hu86 hq)) (sn (xN (qo rfl ?_ ?_)))
    ·
     intro hc87;clear hu78 hn78 hu79 hn79 hu80 hn80 hu81 hn81 hu82 hn82 hu83 hn83 hu84 hn84 hu85 hn85 hu86 hn86;have hsk:¬((lab (waysP s.g f n) i).is=true∧v∉s.gone):=by
      rw[hlx];rintro⟨h1,h2⟩;simp[h1,h2]at hc87
     have hnx:=ld_skip hvi hsk hLd;refine uD (uA (Qw (xN (reg (qq hS (Qmi rfl) (qq hS (g_add rfl rfl (by omega) (by omega)) (qq hS (Qai rfl) ?_)))))))
     first
      | exact⟨⟨i+1,_,_⟩,_,rfl,⟨⟨rfl,rfl,rfl,rfl,rfl,rfl,rfl,rfl,rfl,trivial⟩,_,hS.sel [true,true,true],⟨by dsimp only; omega,hnx⟩,hs,h56,hs1,ho1,ho2⟩,by dsimp only; omega⟩
      | exact⟨⟨i+1,gr,le⟩,_,rfl,⟨⟨rfl,rfl,rfl,rfl,rfl,rfl,rfl,rfl,rfl,trivial⟩,_,hS.sel [true,true,true],⟨by dsimp only; omega,hnx⟩,hs,h56,hs1,ho1,ho2⟩,by dsimp only; omega⟩
      | exact⟨⟨i+1,v,x.c⟩,_,rfl,⟨⟨rfl,rfl,rfl,rfl,rfl,rfl,rfl,rfl,rfl,trivial⟩,_,hS.sel [true,true,true],⟨by dsimp only; omega,hnx⟩,hs,h56,hs1,ho1,ho2⟩,by dsimp only; omega⟩
      | exact⟨⟨i+1,v,le⟩,_,rfl,⟨⟨rfl,rfl,rfl,rfl,rfl,rfl,rfl,rfl,rfl,trivial⟩,_,hS.sel [true,true,true],⟨by dsimp only; omega,hnx⟩,hs,h56,hs1,ho1,ho2⟩,by dsimp only; omega⟩
    ·
     intro hc87;clear hu78 hn78 hu79 hn79 hu80 hn80 hu81 hn81 hu82 hn82 hu83 hn83 hu84 hn84 hu85 hn85 hu86 hn86;have htk:(lab (waysP s.g f n) i).is=true∧v∉s.gone:=by
      rw[hlx];simpa using hc87
     have hnx:=ld_take hg0 hfv hvi htk hLd (c:=x.c) (by rw[hlx]);refine xZ (xN (QwR (qq hS (qb (o':=0) un rfl uv rfl rfl rfl) (qq hS (qb (o':=0) ut rfl uo rfl rfl rfl) (qq hS (qi 0 uF rfl rfl rfl) (qq hS (Qmi rfl) (qq hS (g_ixI ua xX hs.g.vs rfl rfl (by omega) (by omega)) (qq hS (qC uj (hs.g.vs.at hvi) rfl rfl) (qq hS (Qai rfl) (QoR (qq hS (Qmi rfl) (qq hS (g_lss rfl rfl) ?_))))))))))));refine qq hS (Qmb rfl) (qu rfl rfl hS (fun hg=>(qk _)) ?_);intro u97 hu97 hn97;refine qu rfl rfl hS (fun hg=>(Qmi rfl)) ?_;intro u98 hu98 hn98;refine qu rfl rfl hS (fun hg=>(g_ixI Jg QE h56 (hu97 hg) (hu98 hg) (by omega) (by omega))) ?_;intro u99 hu99 hn99;refine qu rfl rfl hS (fun hg=>(qF (c':=1) Qi rfl xX rfl (hu99 hg) rfl)) ?_;intro u100 hu100 hn100;refine qu rfl rfl hS (fun hg=>(qC uj hxA (hu100 hg) rfl)) ?_;intro u101 hu101 hn101;refine qu rfl rfl hS (fun hg=>(Qmi rfl)) ?_;intro u102 hu102 hn102;refine qu rfl rfl hS (fun hg=>(g_lss (hu101 hg) (hu102 hg))) ?_;intro u103 hu103 hn103;refine qq hS (g_or rfl rfl (fun hq=>hu103 hq)) (QoN (qo rfl ?_ ?_))
     ·
      intro hc104;clear hu97 hn97 hu98 hn98 hu99 hn99 hu100 hn100 hu101 hn101 hu102 hn102 hu103 hn103;rw[ui (by simpa using hc104)]at hnx;refine reg (qq hS (qk _) (qq hS (Qmi rfl) (qq hS (g_ixI Jg QE h56 rfl rfl (by omega) (by omega)) (qq hS (qF (c':=1) Qi rfl xX rfl rfl rfl) (qq hS (qC uj hxA rfl rfl) (qq hS (Qai rfl) (qh (Qh (xN (reg (qq hS (Qmi rfl) (qq hS (g_add rfl rfl (by omega) (by omega)) (qq hS (Qai rfl) ?_)))))))))))))
      first
       | exact⟨⟨i+1,_,_⟩,_,rfl,⟨⟨rfl,rfl,rfl,rfl,rfl,rfl,rfl,rfl,rfl,trivial⟩,_,hS.sel [true,true,true],⟨by dsimp only; omega,hnx⟩,hs,h56,hs1,ho1,ho2⟩,by dsimp only; omega⟩
       | exact⟨⟨i+1,gr,le⟩,_,rfl,⟨⟨rfl,rfl,rfl,rfl,rfl,rfl,rfl,rfl,rfl,trivial⟩,_,hS.sel [true,true,true],⟨by dsimp only; omega,hnx⟩,hs,h56,hs1,ho1,ho2⟩,by dsimp only; omega⟩
       | exact⟨⟨i+1,v,x.c⟩,_,rfl,⟨⟨rfl,rfl,rfl,rfl,rfl,rfl,rfl,rfl,rfl,trivial⟩,_,hS.sel [true,true,true],⟨by dsimp only; omega,hnx⟩,hs,h56,hs1,ho1,ho2⟩,by dsimp only; omega⟩
       | exact⟨⟨i+1,v,le⟩,_,rfl,⟨⟨rfl,rfl,rfl,rfl,rfl,rfl,rfl,rfl,rfl,trivial⟩,_,hS.sel [true,true,true],⟨by dsimp only; omega,hnx⟩,hs,h56,hs1,ho1,ho2⟩,by dsimp only; omega⟩
     ·
      intro hc104;clear hu97 hn97 hu98 hn98 hu99 hn99 hu100 hn100 hu101 hn101 hu102 hn102 hu103 hn103;rw[ud (by simpa using hc104)]at hnx;refine xZ (Qh (xN (reg (qq hS (Qmi rfl) (qq hS (g_add rfl rfl (by omega) (by omega)) (qq hS (Qai rfl) ?_))))))
      first
       | exact⟨⟨i+1,_,_⟩,_,rfl,⟨⟨rfl,rfl,rfl,rfl,rfl,rfl,rfl,rfl,rfl,trivial⟩,_,hS.sel [true,true,true],⟨by dsimp only; omega,hnx⟩,hs,h56,hs1,ho1,ho2⟩,by dsimp only; omega⟩
       | exact⟨⟨i+1,gr,le⟩,_,rfl,⟨⟨rfl,rfl,rfl,rfl,rfl,rfl,rfl,rfl,rfl,trivial⟩,_,hS.sel [true,true,true],⟨by dsimp only; omega,hnx⟩,hs,h56,hs1,ho1,ho2⟩,by dsimp only; omega⟩
       | exact⟨⟨i+1,v,x.c⟩,_,rfl,⟨⟨rfl,rfl,rfl,rfl,rfl,rfl,rfl,rfl,rfl,trivial⟩,_,hS.sel [true,true,true],⟨by dsimp only; omega,hnx⟩,hs,h56,hs1,ho1,ho2⟩,by dsimp only; omega⟩
       | exact⟨⟨i+1,v,le⟩,_,rfl,⟨⟨rfl,rfl,rfl,rfl,rfl,rfl,rfl,rfl,rfl,trivial⟩,_,hS.sel [true,true,true],⟨by dsimp only; omega,hnx⟩,hs,h56,hs1,ho1,ho2⟩,by dsimp only; omega⟩
   ·
    intro hc68
    try simp only[zA,zO,zN,zI,zF,zM,zT,zU]at hc68
    obtain rfl:i=s.g.vs.length:=by omega
    obtain⟨hn0,hn1⟩:=ld_end hLd;refine uD (uA (uA (Qw (xN (xL (QwR (qq hS (Qmi rfl) (qq hS (g_lss rfl rfl) (QoN (qo rfl ?_ ?_))))))))))
    ·
     intro hc111
     try simp only[zA,zO,zN,zI,zF,zM,zT,zU]at hc111
     have ho0:openP s f n=[]:=Decidable.byContradiction fun h=>by have:=(hn1 h).2.2; omega
     have hR1e:R1.e=290:=by rw[← hR1,kC hfv ho0]
     refine QwR (qq hS (qb (o':=11) uH rfl Ji rfl rfl rfl) (qq hS (qi 1 JB rfl rfl rfl) (qq hS (g_eqT rfl rfl hR1e) (qq hS (Qmb rfl) (qqs rfl rfl hS (qb (o':=11) uH rfl Ji rfl rfl rfl) (qqs rfl rfl hS (qi 2 JB rfl rfl rfl) (qqs rfl rfl hS (g_eql rfl rfl) (qqs rfl rfl hS (Qmb rfl) (qu rfl rfl hS (fun hg=>(qb (o':=3) un rfl uo rfl rfl rfl)) ?_)))))))));intro u120 hu120 hn120;refine qu rfl rfl hS (fun hg=>(qi 0 uF rfl (hu120 hg) rfl)) ?_;intro u121 hu121 hn121;refine qu rfl rfl hS (fun hg=>(Qmi rfl)) ?_;intro u122 hu122 hn122;refine cvu rfl rfl hS (fun hg=>(ql Kp (ml (hu121 hg) (ml (hu122 hg) ml0)) (has_c A.a3 A.c3 s.gone f _ _ hS.imm hs.gone))) ?_;intro w_34 u123 hS hu123 hn123;refine qu rfl rfl hS (fun hg=>(g_not (hu123 hg))) ?_;intro u124 hu124 hn124;refine qqs rfl rfl hS (g_or rfl rfl (fun hq=>hu124 hq)) (qq hS (g_and rfl rfl (fun _=>rfl)) (qq hS (Qmb rfl) (qu rfl rfl hS (fun hg=>(Qmb rfl)) ?_)));intro u128 hu128 hn128;refine qq hS (g_and rfl rfl (fun hq=>hu128 hq)) (qq hS (Qab rfl) (QoN (ub (uw (ret1 results6 (qr (v:=.bool _) rfl) ⟨_,congrArg Value.bool ?_,hS.nil⟩)))));by_cases hfg:f∈s.gone
     · have hR2e : R2.e = 290 := by rw [← hR2, yE hfv hfg ho0]
       simp[hR2e]
     · simp[hfg]
    ·
     intro hc111
     try simp only[zA,zO,zN,zI,zF,zM,zT,zU]at hc111
     have ho0:openP s f n≠[]:=fun h=>by have:=hn0 h; omega
     obtain⟨hgr,hle,hgr0⟩:=hn1 ho0;have hB:=ldB_of hg0 hcc hfv ho0;rw[hR1,hR2]at hB;refine xZ (xN (xL (QwR (qq hS (qb (o':=11) uH rfl Ji rfl rfl rfl) (qq hS (qi 1 JB rfl rfl rfl) (qq hS (g_neF rfl rfl hB.e1) (qq hS (Qmb rfl) (qqs rfl rfl hS (qb (o':=5) uH rfl uS rfl rfl rfl) (qqs rfl rfl hS (qb (o':=5) Qa rfl uo rfl rfl rfl) (qqs rfl rfl hS (qi 1 uF rfl rfl rfl) (qqs rfl rfl hS (qz rfl ua ho1.way rfl) ?_)))))))))));refine qqs rfl rfl hS (g_eqFL rfl rfl (by have:=hB.len; omega)) ?_;refine qq hS (g_or rfl rfl (fun _=>rfl)) (qq hS (Qmb rfl) (qqs rfl rfl hS (qb (o':=5) uH rfl uS rfl rfl rfl) (qqs rfl rfl hS (qb (o':=5) Qa rfl uo rfl rfl rfl) (qqs rfl rfl hS (qi 1 uF rfl rfl rfl) (qqs rfl rfl hS (qb (o':=5) uH rfl uS rfl rfl rfl) (qqs rfl rfl hS (qb (o':=5) Qa rfl uo rfl rfl rfl) ?_))))));refine qqs rfl rfl hS (qi 1 uF rfl rfl rfl) (qqs rfl rfl hS (qz rfl ua ho1.way rfl) ?_);refine qqs rfl rfl hS (g_sub rfl rfl (by have h8:=hB.len; have h9:=RSl.le ho1.way; simp only[maxLen]at h9; omega) (by have h8:=hB.len; have h9:=RSl.le ho1.way; simp only[maxLen]at h9; omega)) ?_;refine qqs rfl rfl hS (g_ixI ua xX ho1.way rfl rfl (by have:=hB.len; omega) (by omega)) ?_;refine qqs rfl rfl hS (qC uj (vY ho1.way hB.len) rfl rfl) (qqs rfl rfl hS (Qmi rfl) (qqs rfl rfl hS (g_neF rfl rfl (hB.last.trans hgr.symm)) (qq hS (g_or rfl rfl (fun _=>rfl)) (QoN (qV (rfl) (xZ (xN (xL (QwR (qq hS (qb (o':=3) un rfl uo rfl rfl rfl) (qq hS (qi 0 uF rfl rfl rfl) (qq hS (Qmi rfl) ?_))))))))))));refine qe (ql Kp rfl (has_c A.a3 A.c3 s.gone f _ _ hS.imm hs.gone)) ?_
     rintro _ w_35⟨rfl,hE⟩;replace hS:=hS.callE hE;refine qq hS (g_not rfl) (QoN (qo rfl ?_ ?_))
     ·
      intro hc158;have hfg:f∉s.gone:=by simpa using hc158
      refine QwR (qq hS (qb (o':=11) uH rfl Ji rfl rfl rfl) (qq hS (qi 2 JB rfl rfl rfl) (qq hS (g_eqT rfl rfl (hB.arg hfg)) (qq hS (Qmb rfl) (qqs rfl rfl hS (Qmb rfl) (qq hS (g_and rfl rfl (fun _=>rfl)) (qq hS (Qab rfl) (QoN (ub (uw (ret1 results6 (qr (v:=.bool _) rfl) ?_)))))))))));exact⟨_,rfl,hS.nil⟩
     ·
      intro hc158;have hfg:f∈s.gone:=by simpa using hc158
      have hEs:=hB.esc hfg;refine xZ (xN (xL (draw (.cons 0 .pure (.cons 1 .held (.cons 2 .pure (.cons 3 .pure (.cons 4 .pure (.cons 5 .pure (.cons 6 .held (.cons 7 .pure (.cons 8 .pure (.cons 9 .pure (.cons 10 .pure (.cons 11 .pure (.cons 12 .held (.cons 13 .pure (.cons 14 .pure (.cons 15 .held (.cons 16 .pure (.cons 17 .pure (.cons 18 .held (.cons 19 .pure (.cons 20 .pure (.cons 21 .pure (.cons 22 .held (.cons 23 .eff (.cons 24 .pure (.cons 25 .pure (.cons 26 .pure (.cons 27 .pure (.cons 28 .pure (.cons 29 .held (.cons 30 .pure (.cons 31 .pure (.cons 32 .pure (.cons 33 .pure (.cons 34 .pure (.cons 35 .pure (.cons 36 .pure .nil))))))))))))))))))))))))))))))))))))) mixed (by kernel_rfl) hS ?_)));intro w_36 hS;refine sp rfl (qb (o':=11) uH rfl Ji rfl rfl rfl) (sh rfl (qi 2 JB rfl rfl rfl) (sp rfl (g_eqT rfl rfl hEs.1) (sp rfl (Qmb rfl) (spt rfl rfl rfl (qb (o':=5) uH rfl uS rfl rfl rfl) (spt rfl rfl rfl (qb (o':=5) Qa rfl uo rfl rfl rfl) (sht rfl rfl rfl (qi 2 uF rfl rfl rfl) (spt rfl rfl rfl (qz rfl ua ho2.way rfl) ?_)))))));refine spt rfl rfl rfl (g_gtTL rfl rfl (by have:=hEs.2.1; omega)) ?_;refine sp rfl (g_and rfl rfl (fun _=>rfl)) (sp rfl (Qmb rfl) (spt rfl rfl rfl (qb (o':=3) un rfl uo rfl rfl rfl) (sht rfl rfl rfl (qi 0 uF rfl rfl rfl) (spt rfl rfl rfl (qb (o':=5) uH rfl uS rfl rfl rfl) (spt rfl rfl rfl (qb (o':=5) Qa rfl uo rfl rfl rfl) (sht rfl rfl rfl (qi 2 uF rfl rfl rfl) ?_))))));refine spt rfl rfl rfl (qb (o':=5) uH rfl uS rfl rfl rfl) (spt rfl rfl rfl (qb (o':=5) Qa rfl uo rfl rfl rfl) (sht rfl rfl rfl (qi 2 uF rfl rfl rfl) (spt rfl rfl rfl (qz rfl ua ho2.way rfl) ?_)))
      refine spt rfl rfl rfl (g_sub rfl rfl (by have h8:=hEs.2.1; have h9:=RSl.le ho2.way; simp only[maxLen]at h9; omega) (by have h8:=hEs.2.1; have h9:=RSl.le ho2.way; simp only[maxLen]at h9; omega)) ?_;refine spt rfl rfl rfl (g_ixI ua xX ho2.way rfl rfl (by have:=hEs.2.1; omega) (by omega)) ?_;refine sht rfl rfl rfl (qC uj (vY ho2.way (by have:=hEs.2.1; omega)) rfl rfl) ?_;have hS0:=hS;refine Inl.set rfl rfl rfl (ql Kp rfl (has_F A.a3 A.c3 s.gone (lastI R2.o.way) _ _ hS.imm hs.gone hEs.2.2.1)) ?_;rintro _ w_37⟨rfl,hE⟩;replace hS:=hS.call hE;refine⟨_,_,hS0.le hE.ext (xY _),hS,spt rfl rfl rfl (g_not rfl) (sp rfl (g_and rfl rfl (fun _=>rfl)) (sp rfl (Qmb rfl) (spt rfl rfl rfl (qb (o':=5) uH rfl uS rfl rfl rfl) (spt rfl rfl rfl (qb (o':=10) Qa rfl xX rfl rfl rfl) (sht rfl rfl rfl (qi 2 uj rfl rfl rfl) (spt rfl rfl rfl (Qmi rfl) ?_))))))⟩;refine spt rfl rfl rfl (g_eqT rfl rfl (hEs.2.2.2.trans hle.symm)) (sp rfl (g_and rfl rfl (fun _=>rfl)) (sp rfl (Qmb rfl) (spt rfl rfl rfl (Qmb rfl) (sp rfl (g_and rfl rfl (fun _=>rfl)) (sp rfl (Qab rfl) (sn (xN (ub (ret1 results6 (qr (v:=.bool _) rfl) ?_)))))))));exact⟨_,rfl,hS.nil⟩
end Go.Proofs.YtcajgkfgjpfmaaaGreat
