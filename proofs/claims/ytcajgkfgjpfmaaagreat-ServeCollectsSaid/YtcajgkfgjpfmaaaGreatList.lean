/- inlayref08.List: what it computes. Conditions: symbols are right. -/
import Derived.Test.YtcajgkfgjpfmaaaGreatFits
set_option linter.unusedSimpArgs false
set_option linter.unusedVariables false
namespace Go.Proofs.YtcajgkfgjpfmaaaGreat
open Tryz
open Go Go.RowKit Go.Inl
structure Bs where
 kind:Int
 len:Int
 cost:Int
 ops:Int
def Bs.zero:Bs:=⟨0,0,0,0⟩
def bsC (b:Bs):List Value:=[.int .i64 b.kind,.int .i64 b.len,.int .i64 b.cost,.int .i64 b.ops]
theorem jW (b:Bs):(bsC b).length=4:=rfl
def bsOf (p:Pl):Bs:=⟨p.kind,p.length,p.best.cost,p.best.ops⟩
def bsAt (k:Int)(n:Nat)(p:Pr):Bs:=⟨k,n,p.cost,p.ops⟩
def bsTab (l:List Sym):List Bs:=(tab l).map bsOf
theorem bsTab_len (l:List Sym):(bsTab l).length=l.length+1:=by unfold bsTab; rw[uR,jj]
theorem bsTab_at {l:List Sym}{k:Nat}(h:k≤l.length):(bsTab l)[k]? = some (bsOf (topP (l.drop k))):=by
 have h1:=zw l k h;have h2:k < (tab l).length:=by rw[jj]; omega
 unfold bsTab;rw[Qo,xW h2];rw[uh,xW h2,Option.getD_some]at h1;rw[h1]; rfl
theorem flat_slice {α:Type}{enc:α→List Value}{sz:Nat}(he:∀x,(enc x).length=sz)(xs:List α)(i:Nat)(x:α)(hx:xs[i]? = some x):((flat enc xs).drop (i*sz)).take sz=enc x:=by
 have hi:=(uc.1 hx).1;have e:flat enc xs=flat enc (xs.take i)++(enc x++flat enc (xs.drop (i+1))):=by
  conv=>lhs; rw[← List.take_append_drop i xs]
  rw[qB,jz hx]; rfl
 have hl:(flat enc (xs.take i)).length=i*sz:=by rw[qW he,uT,Nat.min_eq_left (by omega)]
 rw[e,List.drop_append_of_le_length (by omega),QI (by omega),Qz,Jj (by rw[he]; exact uV _),QJ (by rw[he]; exact uV _)]
theorem putL_flat {α:Type}{enc:α→List Value}{sz:Nat}(he:∀x,(enc x).length=sz)(xs:List α)(i:Nat)(x:α)(hi:i < xs.length):putL (flat enc xs) (i*sz) (enc x)=flat enc (xs.set i x):=by
 have hl:(flat enc xs).length=xs.length*sz:=qW he xs;have hm:i*sz+sz≤xs.length*sz:=by rw[← Nat.succ_mul]; exact Nat.mul_le_mul_right _ hi
 rw[putL_eq _ _ _ (by rw[he,hl]; exact hm),he,List.set_eq_take_append_cons_drop,ui hi];have e:flat enc xs=flat enc (xs.take i)++(enc xs[i]++flat enc (xs.drop (i+1))):=by
  conv=>lhs; rw[← List.take_append_drop i xs]
  rw[qB,List.drop_eq_getElem_cons hi]; rfl
 have h1:(flat enc (xs.take i)).length=i*sz:=by rw[qW he,uT,Nat.min_eq_left (by omega)]
 rw[e,Jj (by omega),QJ (by omega),qB];rw[List.drop_append,QI (l:=flat enc (xs.take i)) (by omega),h1,Qz,show i*sz+sz - i*sz=sz by omega];rw[List.drop_append_of_le_length (by rw[he]; exact uV _),QI (by rw[he]; exact uV _),Qz];rw[Qr]; rfl
def bsRow (i:Nat)(cur:Bs)(l:List Sym):List Bs:=List.replicate i Bs.zero++(cur::bsTab (l.drop (i+1)))
theorem bsRow_cur (i:Nat)(cur:Bs)(l:List Sym):(bsRow i cur l)[i]? = some cur:=by
 unfold bsRow; rw[Qb (by simp)]; simp
theorem bsRow_rest {i n:Nat}(cur:Bs){l:List Sym}(h0:1≤n)(h:i+n≤l.length):(bsRow i cur l)[i+n]? = some (bsOf (topP (l.drop (i+n)))):=by
 unfold bsRow;rw[Qb (by simp),QW];obtain⟨m,rfl⟩:∃m,n=m+1:=⟨n - 1,by omega⟩
 rw[show i+(m+1) - i=m+1 by omega,List.getElem?_cons_succ,bsTab_at (by rw[Qj]; omega),List.drop_drop,show i+1+m=i+(m+1) by omega]
theorem xm (i:Nat)(cur x:Bs)(l:List Sym):(bsRow i cur l).set i x=bsRow i x l:=by
 unfold bsRow;rw[List.set_append_right _ _ (by simp)]; simp
theorem xn (i:Nat)(cur:Bs){l:List Sym}(h:i < l.length):(bsRow i cur l).length=l.length+1:=by
 unfold bsRow; rw[ug,QW,uP,bsTab_len,Qj]; omega
theorem bsRow_done {i:Nat}{l:List Sym}(h:i < l.length):bsRow i (bsOf (topP (l.drop i))) l=List.replicate i Bs.zero++bsTab (l.drop i):=by
 unfold bsRow;congr 1
 conv=>rhs; rw[List.drop_eq_getElem_cons h]
 rw[List.drop_eq_getElem_cons h]; rfl
theorem bsRow_start {i:Nat}{l:List Sym}(h:i < l.length):List.replicate (i+1) Bs.zero++bsTab (l.drop (i+1))=bsRow i Bs.zero l:=by
 unfold bsRow; rw[List.replicate_succ',Qr]; rfl
structure Vis (li : List Sym) (f : Bool) (cur : Bs) (k : Int) (n : Nat) : Prop where
 no:f=false→∀k' (m:Nat),1≤k'→k'≤4→1≤m→m≤fitsN k' li→¬(k' < k∨(k'=k∧n < m))
 yes : f = true → ∃ (kk : Int) (mm : Nat), 1 ≤ kk ∧ kk ≤ 4 ∧ 1 ≤ mm ∧ mm ≤ fitsN kk li ∧ (kk < k ∨ (kk = k ∧ n < mm)) ∧ cur = bsAt kk mm (cand kk li mm) ∧
  ∀k' (m:Nat),1≤k'→k'≤4→1≤m→m≤fitsN k' li→(k' < k∨(k'=k∧n < m))→(cand kk li mm).le (cand k' li m)∧((k' < kk∨(k'=kk∧mm < m))→(cand kk li mm).lt (cand k' li m))
theorem Vis.start (li:List Sym)(cur:Bs):Vis li false cur 1 (fitsN 1 li):=by
 refine⟨fun _ k' m h1 _ _ h4 h=>?_,fun h=>by cases h⟩;rcases h with h | ⟨h,h'⟩
 · omega
 · subst h; omega
theorem Vis.next {li:List Sym}{f:Bool}{cur:Bs}{k:Int}(h:Vis li f cur k 0):Vis li f cur (k+1) (fitsN (k+1) li):=by
 have key:∀k' (m:Nat),1≤m→m≤fitsN k' li→(k' < k+1∨(k'=k+1∧fitsN (k+1) li < m))→(k' < k∨(k'=k∧0 < m)):=by
  intro k' m h1 h2 h3;rcases h3 with h3 | ⟨h3,h4⟩
  · by_cases e : k' = k
    · exact .inr ⟨e,by omega⟩
    · exact .inl (by omega)
  · subst h3; omega
 refine⟨fun hf k' m a b c d e=>h.no hf k' m a b c d (key k' m c d e),fun hf=>?_⟩;obtain⟨kk,mm,a,b,c,d,e,g,all⟩:=h.yes hf;refine⟨kk,mm,a,b,c,d,.inl (by omega),g,fun k' m a' b' c' d' e'=>all k' m a' b' c' d' (key k' m c' d' e')⟩
theorem Vis.step {li : List Sym} {f : Bool} {cur : Bs} {k : Int} {n : Nat} (h : Vis li f cur k (n + 1)) (h0 : 1 ≤ k) (h1 : k ≤ 4) (hn : n + 1 ≤ fitsN k li) :
 ((!f || (cand k li (n+1)).less ⟨cur.cost,cur.ops⟩)=true→Vis li true (bsAt k (n+1) (cand k li (n+1))) k n)∧((!f || (cand k li (n+1)).less ⟨cur.cost,cur.ops⟩)=false→Vis li f cur k n):=by
 have key:∀k' (m:Nat),(k' < k∨(k'=k∧n < m))→(k'=k∧m=n+1)∨(k' < k∨(k'=k∧n+1 < m)):=by
  intro k' m h;rcases h with h | ⟨h,h'⟩
  · exact .inr (.inl h)
  · by_cases e : m = n + 1
    · exact .inl ⟨h,e⟩
    · exact .inr (.inr ⟨h,by omega⟩)
 constructor
 · intro hc
   refine⟨(fun h=>by cases h),fun _=>⟨k,n+1,h0,h1,by omega,hn,.inr ⟨rfl,by omega⟩,rfl,fun k' m a b c d e=>?_⟩⟩;rcases key k' m e with ⟨rfl,rfl⟩ | e
   · exact⟨Pr.le_refl _,fun h=>by omega⟩
   · cases hf:f with
     | false=>exact absurd e (h.no hf k' m a b c d)
     | true =>
       obtain⟨kk,mm,a',b',c',d',e',g,all⟩:=h.yes hf;have hl:(cand k li (n+1)).lt (cand kk li mm):=by
        rw[hf,g]at hc;exact(Pr.less_iff _ _).1 hc
       have:=Pr.lt_of_lt_of_le hl (all k' m a b c d e).1;exact⟨Pr.lt_le this,fun _=>this⟩
 · intro hc
   refine⟨fun hf=>?_,fun hf=>?_⟩
   · rw[hf]at hc; cases hc
   · obtain ⟨kk, mm, a', b', c', d', e', g, all⟩ := h.yes hf
     have hl:(cand kk li mm).le (cand k li (n+1)):=by
      rw[hf,g]at hc;exact Pr.less_false hc
     refine⟨kk,mm,a',b',c',d',?_,g,fun k' m a b c d e=>?_⟩
     · rcases e' with e' | ⟨e', e''⟩
       · exact .inl e'
       · exact .inr ⟨e',by omega⟩
     · rcases key k' m e with ⟨rfl, rfl⟩ | e
       · refine ⟨hl, fun h => ?_⟩
         exfalso
         rcases h with h | ⟨h,h'⟩
         · rcases e' with e' | ⟨e',_⟩ <;> omega
         · rcases e' with e' | ⟨_,e''⟩ <;> omega
       · exact all k' m a b c d e
theorem Vis.done {li:List Sym}{f:Bool}{cur:Bs}{n:Nat}(h:Vis li f cur 5 n)(hg:Gd li)(hl:li≠[]):cur=bsOf (topP li):=by
 have hc:=hg.core hl;have k0:=hc.k0; have k1:=hc.k1; have n0:=hc.n0; have n1:=hc.n1
 generalize topP li=p at *
 have hq:((p.length.toNat:Nat):Int)=p.length:=by omega
 cases hf:f with
 | false=>exact absurd (.inl (by omega)) (h.no hf p.kind p.length.toNat k0 k1 (by omega) (by omega))
 | true =>
   obtain⟨kk,mm,a,b,c,d,_,g,all⟩:=h.yes hf;obtain⟨h1,h2⟩:=all p.kind p.length.toNat k0 k1 (by omega) (by omega) (.inl (by omega));rw[← hc.att]at h1 h2;have hkk:kk=p.kind:=by
    rcases Int.lt_trichotomy kk p.kind with e | e | e
    · exact(Pr.not_lt h1 (hc.first kk mm a e c d)).elim
    · exact e
    · exact(Pr.not_lt (hc.low kk mm a b c d) (h2 (.inl e))).elim
   subst hkk;have hmm:(mm:Int)=p.length:=by
    rcases Nat.lt_trichotomy mm p.length.toNat with e | e | e
    · exact(Pr.not_lt (hc.low p.kind mm a b c d) (h2 (.inr ⟨rfl,e⟩))).elim
    · omega
    · exact(Pr.not_lt h1 (hc.long mm (by omega) d)).elim
   rw[g,bsOf,bsAt,hc.att,hmm];have:mm=p.length.toNat:=by omega
   rw[this]
theorem best_bd' (l:List Sym):0≤(bestP l).ops∧(bestP l).ops≤6*(l.length:Int):=by
 have h:=zw l 0 (Nat.zero_le _);have h1:=jj l;have h2:(tab l)[0]? = some (topP l):=by
  rw[xW (by omega)];rw[uh,xW (by omega),Option.getD_some,List.drop_zero]at h;rw[h]
 have h3:=(kS l 0 _ h2).best;simp only[Pr.ok]at h3;exact⟨h3.2.2.1,by have:=h3.2.2.2; show(topP l).best.ops≤_; omega⟩
set_option maxRecDepth 20000 in
set_option maxHeartbeats 4000000 in
theorem list_c (ad : Option Addr) (cap : Nat) (l : List Sym) (size : Int) (w0 : World) (I0 : Imm) (hI : Sat I0 w0) (hl : RSyms I0 (.slice ad l.length cap) l) (hw : ∀ s ∈ l, s.wf) (hn : l.length ≤ 65536) (ok : okL size l) :
 Ctr prog 169 [.slice ad l.length cap] w0 (fun v w'=>∃I' a m c,v = .slice a m c∧Ext w0 I0 w' I'∧ROps I' (.slice a m c) (optL l)):=by
 have hcap:=(hl.resl2 0 l.length (by omega) (uV _)).2.1;have hgd:=ok.gd;refine fn (n:=122) func169 rfl rfl rfl ?_;have hS:=St.start hI;refine QwR (qq hS (qy _) (QoR (qq hS (qk _) (qq hS (qz rfl uG hl rfl) (qq hS (g_add rfl rfl (by omega) (by omega)) (qe (i_make hS JH info262 rfl rfl (by omega) (by omega) (by omega) (by omega)) ?_))))));clear hS;rintro _ w_1⟨bt,rfl,hS⟩;refine qq hS (qy _) (QoN (xL (QwR (qq hS (qk _) (qq hS (qz rfl uG hl rfl) (qq hS (g_sub rfl rfl (by omega) (by omega)) (qq hS (Qai rfl) (QoN (uk (loop (fun(i:Int) σ w=>okS σ [(0,.slice ad l.length cap),(3,.slice (some ⟨bt,0,none⟩) (l.length+1) (l.length+1)),(4,.int .i64 i)]∧St [] w0 I0 I0 w [.cel bt 262 (flat bsC (List.replicate (i+1).toNat Bs.zero++bsTab (l.drop (i+1).toNat)))]∧-1≤i∧i < l.length) (fun i=>(i+1).toNat) ((l.length:Int) - 1) ?_ ?_))))))))))
 ·
  refine⟨⟨rfl,rfl,rfl,trivial⟩,?_,by omega,by omega⟩;have h1:=yb jW (by decide) (l.length+1) Bs.zero;have h2:(l.length:Int) - 1+1=l.length:=by omega
  rw[h2,Int.toNat_natCast,List.drop_length,show bsTab []=[Bs.zero] from rfl,← List.replicate_succ',← h1];exact hS.sel [true]
 ·
  rintro i σ w_l⟨hs,hS,hi0,hi1⟩;rw[← qx hs]; clear hs
  refine xL (QwR (qq hS (Qmi rfl) (qq hS (g_geq rfl rfl) (QoN (qo rfl ?_ ?_)))))
  ·
   intro hc20
   try simp only[zA,zO,zN,zI,zF,zM,zT,zU]at hc20
   have hi:i.toNat < l.length:=by omega
   have hgi:=hgd.drop i.toNat;have hne:(l.drop i.toNat)≠[]:=by rw[Ne,List.drop_eq_nil_iff]; omega
   refine xZ (xN (xL (uk (QwR (qq hS (Qab rfl) (QoR (qq hS (Qai rfl) (QoN (uk (loop (fun(x:Int×Bool×Bs) σ w=>okS σ [(0,.slice ad l.length cap),(3,.slice (some ⟨bt,0,none⟩) (l.length+1) (l.length+1)),(4,.int .i64 i),(5,.bool x.2.1),(6,.int .i64 x.1)]∧St [] w0 I0 I0 w [.cel bt 262 (flat bsC (bsRow i.toNat x.2.2 l))]∧1≤x.1∧x.1≤5∧Vis (l.drop i.toNat) x.2.1 x.2.2 x.1 (fitsN x.1 (l.drop i.toNat))) (fun x=>(5 - x.1).toNat) ((1,false,Bs.zero)) ?_ ?_))))))))))
   ·
    refine⟨⟨rfl,rfl,rfl,rfl,rfl,trivial⟩,?_,by decide,by decide,Vis.start _ _⟩;dsimp only;rw[← bsRow_start hi,show i.toNat+1=(i+1).toNat by omega];exact hS.sel [true]
   ·
    rintro⟨k,f,cur⟩σ w_l⟨hs,hS,hk1,hk5,hvis⟩;dsimp only at hs hS hk1 hk5 hvis ⊢;rw[← qx hs]; clear hs
    refine xL (QwR (qq hS (Qmi rfl) (qq hS (g_leq rfl rfl) (QoN (qo rfl ?_ ?_)))))
    ·
     intro hc24
     try simp only[zA,zO,zN,zI,zF,zM,zT,zU]at hc24
     refine xZ (xN (xL (uk (QwR (qq hS (Qmi rfl) (qq hS (qk _) (qq hS (Qmi rfl) (qq hS (zk (l0:=i.toNat) uG uN rfl rfl (by omega) (by omega) rfl) ?_))))))));refine qe (ql call177 rfl (fits_c k _ (l.drop i.toNat) _ I0 hS.imm (hl.slL i.toNat (by omega)) (by omega) (by rw[Qj]; omega) (fun s hs=>hw s (List.mem_of_mem_drop hs)))) ?_;rintro _ w_2⟨rfl,hE⟩;replace hS:=hS.callE hE;refine qq hS (Qai rfl) (QoN (uk ?_));have hk2:k≤4:=by omega
     refine loop (fun(x:Nat×Bool×Bs) σ w=>okS σ [(0,.slice ad l.length cap),(3,.slice (some ⟨bt,0,none⟩) (l.length+1) (l.length+1)),(4,.int .i64 i),(5,.bool x.2.1),(6,.int .i64 k),(7,.int .i64 x.1)]∧St [] w0 I0 I0 w [.cel bt 262 (flat bsC (bsRow i.toNat x.2.2 l))]∧x.1≤fitsN k (l.drop i.toNat)∧Vis (l.drop i.toNat) x.2.1 x.2.2 k x.1) (fun x=>x.1) ((fitsN k (l.drop i.toNat),f,cur)) ?_ ?_
     ·
      exact⟨⟨rfl,rfl,rfl,rfl,rfl,rfl,trivial⟩,hS.sel [true],uV _,hvis⟩
     ·
      rintro⟨n,f,cur⟩σ w_l⟨hs,hS,hnf,hvis⟩;dsimp only at hs hS hnf hvis ⊢;rw[← qx hs]; clear hs
      refine xL (QwR (qq hS (Qmi rfl) (qq hS (g_gtr rfl rfl) (QoN (qo rfl ?_ ?_)))))
      ·
       intro hc33
       try simp only[zA,zO,zN,zI,zF,zM,zT,zU]at hc33
       obtain⟨n',rfl⟩:∃n',n=n'+1:=⟨n - 1,by omega⟩
       generalize hn1:n'+1=n at *
       have hfl:=jI k (l.drop i.toNat);rw[Qj]at hfl;have hrest:=bsRow_rest (i:=i.toNat) (n:=n) cur (l:=l) (by omega) (by omega);have hcur:=bsRow_cur i.toNat cur l;have hbc:=best_bd (l.drop (i.toNat+n));have hbo:=best_bd' (l.drop (i.toNat+n));rw[Qj]at hbc hbo;have ho1:=vT (k:=k) (n:=(n:Int)) (by omega);have ho2:opc k (n:Int)≤4+n:=by
        unfold opc
        repeat' split
        all_goals omega
       obtain⟨rb,hrb⟩:∃rb,rb=bsOf (topP (l.drop (i.toNat+n))):=⟨_,rfl⟩
       rw[← hrb]at hrest;have hrc:rb.cost=(bestP (l.drop (i.toNat+n))).cost:=by rw[hrb]; rfl
       have hro:rb.ops=(bestP (l.drop (i.toNat+n))).ops:=by rw[hrb]; rfl
       have hcd:cand k (l.drop i.toNat) n=⟨opc k n+rb.cost,1+rb.ops⟩:=by
        unfold cand; rw[List.drop_drop,hrc,hro]; simp only[Pr.plus]; rw[Int.add_comm,Int.add_comm (1:Int)]
       have hstep:=Vis.step (n:=n') (by rw[hn1]; exact hvis) hk1 hk2 (by omega);rw[hn1]at hstep;refine xZ (xN (xL (uk (QwR (qq hS (qk _) (qq hS (Qmi rfl) (qq hS (Qmi rfl) (qq hS (g_add rfl rfl (by omega) (by omega)) ?_))))))));refine qq hS (qM (o:=(i.toNat+n)*4) JH JC rfl rfl (by omega) (by omega) (by congr 1; omega)) ?_;refine qq hS (g_ldO 0 (vs:=bsC rb) JC isAgg262 rfl rfl (flat_slice jW _ _ _ hrest) rfl) (qe (qw (cs:=[.int .i64 _,.int .i64 _,.int .i64 _,.int .i64 _]) hS KH rfl) ?_);clear hS;rintro _ w_3⟨b8,rfl,hS⟩;refine qe (qj 0 hS JC rfl rfl rfl (vs:=[.int .i64 _,.int .i64 _,.int .i64 _,.int .i64 _]) rfl rfl rfl (xP rfl) (cs':=[_,_,_,_]) rfl) ?_;clear hS;rintro _ w_4⟨rfl,hS⟩;refine QoN (xL (draw (.cons 0 .pure (.cons 1 .pure (.cons 2 .pure (.cons 3 .pure (.cons 5 .pure (.cons 6 .held (.cons 8 .pure (.cons 9 .held (.cons 10 .pure (.fork 4 (.cons 7 .pure (.cons 11 .pure (.cons 12 .eff (.cons 13 .bar .nil)))) 12 (.cons 4 .eff (.cons 7 .pure (.cons 11 .pure (.cons 13 .bar .nil)))))))))))))) mixed (by kernel_rfl) hS ?_));intro w_5 hS;refine sp rfl (Qmi rfl) (sp rfl (Qmi rfl) (sp rfl (Qmi rfl) (sp rfl (Qmi rfl) (sp rfl (qb (o':=2) Ju rfl xX rfl rfl rfl) (sh rfl (qi 0 uj rfl rfl rfl) (sp rfl (qb (o':=3) Ju rfl xX rfl rfl rfl) (sh rfl (qi 0 uj rfl rfl rfl) (sp rfl (g_add rfl rfl (by omega) (by omega)) (sk ?_ ?_)))))))))
       ·
        have hS0:=hS;refine se rfl (ql call178 rfl (refPrice_c k n _ I0 hS.imm (by omega) (by omega))) ?_;rintro _ w_6⟨rfl,hE⟩;replace hS:=hS.call hE;refine⟨_,_,hS0.le hE.ext (xY _),hS,sp rfl (g_add rfl rfl (by omega) (by omega)) (sp rfl (qv (pl:=[(0,1),(1,1),(2,1),(3,1)]) (cs:=[.int .i64 _,.int .i64 _,.int .i64 _,.int .i64 _]) KH Ju (fun w=>by simp[xX]) (mp (v:=.int .i64 _) rfl (mp (v:=.int .i64 _) rfl (mp (v:=.int .i64 _) rfl (mp (v:=.int .i64 _) rfl mp0)))) rfl) ?_)⟩;have hS0:=hS;refine se rfl (qw (cs:=[.int .i64 _,.int .i64 _,.int .i64 _,.int .i64 _]) hS KH rfl) ?_;rintro _ w_7⟨b9,rfl,hS⟩;refine⟨_,_,hS0.le (Sub.refl _) (ue _ _),hS,sb rfl (qj 0 hS JC rfl rfl rfl (vs:=[.int .i64 _,.int .i64 _,.int .i64 _,.int .i64 _]) rfl rfl rfl (xP rfl) (cs':=[_,_,_,_]) rfl) ?_⟩;rintro _ w_8⟨rfl,hS⟩;refine⟨_,_,hS,sn (xN (xL (draw (.cons 0 .pure (.cons 1 .pure (.cons 2 .pure (.cons 3 .pure (.cons 4 .held (.cons 5 .pure (.cons 6 .pure (.cons 7 .pure (.cons 8 .pure (.cons 9 .held (.cons 10 .pure (.cons 11 .pure (.cons 12 .pure (.cons 13 .pure (.cons 14 .held (.cons 15 .pure (.cons 16 .pure (.cons 17 .pure (.cons 18 .pure (.cons 19 .held (.cons 20 .pure (.cons 21 .pure (.cons 22 .pure (.cons 23 .held (.cons 24 .pure (.cons 25 .pure (.cons 26 .pure (.cons 27 .pure (.cons 28 .held (.cons 29 .pure (.cons 30 .pure (.cons 31 .pure .nil)))))))))))))))))))))))))))))))) mixed (by kernel_rfl) hS ?_)))⟩;intro w_9 hS;refine sp rfl (Qmb rfl) (sp rfl (g_not rfl) (sp rfl (Qmb rfl) (spu rfl rfl rfl (fun hg=>(qb (o':=2) Ju rfl xX rfl rfl rfl)) ?_)))
        intro u57 hu57 hn57;refine shu rfl rfl rfl (fun hg=>(qi 0 uj rfl (hu57 hg) rfl)) ?_;intro u58 hu58 hn58;refine spu rfl rfl rfl (fun hg=>(qk _)) ?_;intro u59 hu59 hn59;refine spu rfl rfl rfl (fun hg=>(Qmi rfl)) ?_;intro u60 hu60 hn60;refine spu rfl rfl rfl (fun hg=>(qM (o:=i.toNat*4) JH JC (hu59 hg) (hu60 hg) (by omega) (by omega) rfl)) ?_;intro u61 hu61 hn61;refine spu rfl rfl rfl (fun hg=>(qb (o':=i.toNat*4+2) Ju rfl xX rfl (hu61 hg) rfl)) ?_;intro u62 hu62 hn62;refine shu rfl rfl rfl (fun hg=>(qi 2 uj rfl (hu62 hg) (ji jW _ _ _ hcur 2 _ rfl))) ?_;intro u63 hu63 hn63;refine spu rfl rfl rfl (fun hg=>(g_lss (hu58 hg) (hu63 hg))) ?_;intro u64 hu64 hn64;refine sp rfl (g_or rfl rfl (fun hq=>hu64 hq)) (sp rfl (Qmb rfl) (spu rfl rfl rfl (fun hg=>(qb (o':=2) Ju rfl xX rfl rfl rfl)) ?_));intro u67 hu67 hn67;refine shu rfl rfl rfl (fun hg=>(qi 0 uj rfl (hu67 hg) rfl)) ?_;intro u68 hu68 hn68;refine spu rfl rfl rfl (fun hg=>(qk _)) ?_;intro u69 hu69 hn69;refine spu rfl rfl rfl (fun hg=>(Qmi rfl)) ?_;intro u70 hu70 hn70;refine spu rfl rfl rfl (fun hg=>(qM (o:=i.toNat*4) JH JC (hu69 hg) (hu70 hg) (by omega) (by omega) rfl)) ?_;intro u71 hu71 hn71;refine spu rfl rfl rfl (fun hg=>(qb (o':=i.toNat*4+2) Ju rfl xX rfl (hu71 hg) rfl)) ?_;intro u72 hu72 hn72;refine shu rfl rfl rfl (fun hg=>(qi 2 uj rfl (hu72 hg) (ji jW _ _ _ hcur 2 _ rfl))) ?_;intro u73 hu73 hn73;refine spu rfl rfl rfl (fun hg=>(g_eql (hu68 hg) (hu73 hg))) ?_;intro u74 hu74 hn74;refine spu rfl rfl rfl (fun hg=>(qf (hu74 hg))) ?_
        intro u75 hu75 hn75;refine spn (P:=prog) rfl rfl (C:=_) hu75 hn75 (fun hg=>(qb (o':=3) Ju rfl xX rfl rfl rfl)) ?_;intro u76 hu76 hn76;refine shn (P:=prog) rfl rfl (C:=_) hu75 hn75 (fun hg=>(qi 0 uj rfl (hu76 hg) rfl)) ?_;intro u77 hu77 hn77;refine spn (P:=prog) rfl rfl (C:=_) hu75 hn75 (fun hg=>(qk _)) ?_;intro u78 hu78 hn78;refine spn (P:=prog) rfl rfl (C:=_) hu75 hn75 (fun hg=>(Qmi rfl)) ?_;intro u79 hu79 hn79;refine spn (P:=prog) rfl rfl (C:=_) hu75 hn75 (fun hg=>(qM (o:=i.toNat*4) JH JC (hu78 hg) (hu79 hg) (by omega) (by omega) rfl)) ?_;intro u80 hu80 hn80;refine spn (P:=prog) rfl rfl (C:=_) hu75 hn75 (fun hg=>(qb (o':=i.toNat*4+3) Ju rfl xX rfl (hu80 hg) rfl)) ?_;intro u81 hu81 hn81;refine shn (P:=prog) rfl rfl (C:=_) hu75 hn75 (fun hg=>(qi 2 uj rfl (hu81 hg) (ji jW _ _ _ hcur 3 _ rfl))) ?_;intro u82 hu82 hn82;refine spn (P:=prog) rfl rfl (C:=_) hu75 hn75 (fun hg=>(g_lss (hu77 hg) (hu82 hg))) ?_;intro u83 hu83 hn83;refine spu rfl rfl rfl (fun hg=>(g_and (hu75 hg) rfl (fun hq=>hu83 ⟨hg,hq⟩))) ?_;intro u84 hu84 hn84;refine sp rfl (g_or rfl rfl (fun hq=>hu84 hq)) (sn (xN (qo rfl ?_ ?_)))
        ·
         intro hc85;clear hu57 hn57 hu58 hn58 hu59 hn59 hu60 hn60 hu61 hn61 hu62 hn62 hu63 hn63 hu64 hn64 hu67 hn67 hu68 hn68 hu69 hn69 hu70 hn70 hu71 hn71 hu72 hn72 hu73 hn73 hu74 hn74 hu75 hn75 hu76 hn76 hu77 hn77 hu78 hn78 hu79 hn79 hu80 hn80 hu81 hn81 hu82 hn82 hu83 hn83 hu84 hn84;have hup:Vis (l.drop i.toNat) true (⟨k,n,opc k n+rb.cost,1+rb.ops⟩:Bs) k n':=by
          have:=hstep.1 (by rw[hcd]; simpa [Pr.less,Bool.or_assoc] using hc85);rw[hcd]at this;exact this
         refine reg (qq hS (qk _) (qq hS (Qmi rfl) (qq hS (g_ldO 0 (vs:=[.int .i64 _,.int .i64 _,.int .i64 _,.int .i64 _]) JC isAgg262 rfl rfl rfl rfl) (qq hS (qM (o:=i.toNat*4) JH JC rfl rfl (by omega) (by omega) rfl) ?_))));refine qe (qj 2 hS JC rfl rfl rfl (vs:=bsC (⟨k,n,opc k n+rb.cost,1+rb.ops⟩:Bs)) rfl rfl rfl (by rw[qW jW,xn _ _ (by omega)]; omega) (putL_flat jW _ _ (⟨k,n,opc k n+rb.cost,1+rb.ops⟩:Bs) (by rw[xn _ _ (by omega)]; omega))) ?_;clear hS;rintro _ w_10⟨rfl,hS⟩;refine qq hS (Qab rfl) (qh (Qh (xN (reg (qq hS (Qmi rfl) (qq hS (g_sub rfl rfl (by omega) (by omega)) (qq hS (Qai rfl) ?_)))))))
         first
          | exact⟨(n',true,(⟨k,n,opc k n+rb.cost,1+rb.ops⟩:Bs)),_,rfl,⟨⟨rfl,rfl,rfl,rfl,rfl,by show Value.int .i64 ((n:Int) - 1)=Value.int .i64 (n':Int); congr 1; omega,trivial⟩,by rw[xm]at hS; exact hS.sel [false,false,true],by dsimp only; omega,hup⟩,by dsimp only; omega⟩
          | exact⟨(n',f,cur),_,rfl,⟨⟨rfl,rfl,rfl,rfl,rfl,by show Value.int .i64 ((n:Int) - 1)=Value.int .i64 (n':Int); congr 1; omega,trivial⟩,hS.sel [false,false,true],by dsimp only; omega,hup⟩,by dsimp only; omega⟩
        ·
         intro hc85;clear hu57 hn57 hu58 hn58 hu59 hn59 hu60 hn60 hu61 hn61 hu62 hn62 hu63 hn63 hu64 hn64 hu67 hn67 hu68 hn68 hu69 hn69 hu70 hn70 hu71 hn71 hu72 hn72 hu73 hn73 hu74 hn74 hu75 hn75 hu76 hn76 hu77 hn77 hu78 hn78 hu79 hn79 hu80 hn80 hu81 hn81 hu82 hn82 hu83 hn83 hu84 hn84;have hup:Vis (l.drop i.toNat) f cur k n':=hstep.2 (by rw[hcd]; simpa [Pr.less,Bool.or_assoc] using hc85);refine xZ (Qh (xN (reg (qq hS (Qmi rfl) (qq hS (g_sub rfl rfl (by omega) (by omega)) (qq hS (Qai rfl) ?_))))))
         first
          | exact⟨(n',true,(⟨k,n,opc k n+rb.cost,1+rb.ops⟩:Bs)),_,rfl,⟨⟨rfl,rfl,rfl,rfl,rfl,by show Value.int .i64 ((n:Int) - 1)=Value.int .i64 (n':Int); congr 1; omega,trivial⟩,by rw[xm]at hS; exact hS.sel [false,false,true],by dsimp only; omega,hup⟩,by dsimp only; omega⟩
          | exact⟨(n',f,cur),_,rfl,⟨⟨rfl,rfl,rfl,rfl,rfl,by show Value.int .i64 ((n:Int) - 1)=Value.int .i64 (n':Int); congr 1; omega,trivial⟩,hS.sel [false,false,true],by dsimp only; omega,hup⟩,by dsimp only; omega⟩
       ·
        have hS0:=hS;refine se rfl (qw (cs:=[.int .i64 _,.int .i64 _,.int .i64 _,.int .i64 _]) hS KH rfl) ?_;rintro _ w_11⟨b9,rfl,hS⟩;refine⟨_,_,hS0.le (Sub.refl _) (ue _ _),hS,?_⟩;have hS0:=hS;refine se rfl (ql call178 rfl (refPrice_c k n _ I0 hS.imm (by omega) (by omega))) ?_;rintro _ w_12⟨rfl,hE⟩;replace hS:=hS.call hE;refine⟨_,_,hS0.le hE.ext (xY _),hS,sp rfl (g_add rfl rfl (by omega) (by omega)) (sp rfl (qv (pl:=[(0,1),(1,1),(2,1),(3,1)]) (cs:=[.int .i64 _,.int .i64 _,.int .i64 _,.int .i64 _]) KH Ju (fun w=>by simp[xX]) (mp (v:=.int .i64 _) rfl (mp (v:=.int .i64 _) rfl (mp (v:=.int .i64 _) rfl (mp (v:=.int .i64 _) rfl mp0)))) rfl) ?_)⟩;refine sb rfl (qj 0 hS JC rfl rfl rfl (vs:=[.int .i64 _,.int .i64 _,.int .i64 _,.int .i64 _]) rfl rfl rfl (xP rfl) (cs':=[_,_,_,_]) rfl) ?_;rintro _ w_13⟨rfl,hS⟩;refine⟨_,_,hS,sn (xN (xL (draw (.cons 0 .pure (.cons 1 .pure (.cons 2 .pure (.cons 3 .pure (.cons 4 .held (.cons 5 .pure (.cons 6 .pure (.cons 7 .pure (.cons 8 .pure (.cons 9 .held (.cons 10 .pure (.cons 11 .pure (.cons 12 .pure (.cons 13 .pure (.cons 14 .held (.cons 15 .pure (.cons 16 .pure (.cons 17 .pure (.cons 18 .pure (.cons 19 .held (.cons 20 .pure (.cons 21 .pure (.cons 22 .pure (.cons 23 .held (.cons 24 .pure (.cons 25 .pure (.cons 26 .pure (.cons 27 .pure (.cons 28 .held (.cons 29 .pure (.cons 30 .pure (.cons 31 .pure .nil)))))))))))))))))))))))))))))))) mixed (by kernel_rfl) hS ?_)))⟩;intro w_14 hS;refine sp rfl (Qmb rfl) (sp rfl (g_not rfl) (sp rfl (Qmb rfl) (spu rfl rfl rfl (fun hg=>(qb (o':=2) Ju rfl xX rfl rfl rfl)) ?_)))
        intro u57 hu57 hn57;refine shu rfl rfl rfl (fun hg=>(qi 0 uj rfl (hu57 hg) rfl)) ?_;intro u58 hu58 hn58;refine spu rfl rfl rfl (fun hg=>(qk _)) ?_;intro u59 hu59 hn59;refine spu rfl rfl rfl (fun hg=>(Qmi rfl)) ?_;intro u60 hu60 hn60;refine spu rfl rfl rfl (fun hg=>(qM (o:=i.toNat*4) JH JC (hu59 hg) (hu60 hg) (by omega) (by omega) rfl)) ?_;intro u61 hu61 hn61;refine spu rfl rfl rfl (fun hg=>(qb (o':=i.toNat*4+2) Ju rfl xX rfl (hu61 hg) rfl)) ?_;intro u62 hu62 hn62;refine shu rfl rfl rfl (fun hg=>(qi 2 uj rfl (hu62 hg) (ji jW _ _ _ hcur 2 _ rfl))) ?_;intro u63 hu63 hn63;refine spu rfl rfl rfl (fun hg=>(g_lss (hu58 hg) (hu63 hg))) ?_;intro u64 hu64 hn64;refine sp rfl (g_or rfl rfl (fun hq=>hu64 hq)) (sp rfl (Qmb rfl) (spu rfl rfl rfl (fun hg=>(qb (o':=2) Ju rfl xX rfl rfl rfl)) ?_));intro u67 hu67 hn67;refine shu rfl rfl rfl (fun hg=>(qi 0 uj rfl (hu67 hg) rfl)) ?_;intro u68 hu68 hn68;refine spu rfl rfl rfl (fun hg=>(qk _)) ?_;intro u69 hu69 hn69;refine spu rfl rfl rfl (fun hg=>(Qmi rfl)) ?_;intro u70 hu70 hn70;refine spu rfl rfl rfl (fun hg=>(qM (o:=i.toNat*4) JH JC (hu69 hg) (hu70 hg) (by omega) (by omega) rfl)) ?_;intro u71 hu71 hn71;refine spu rfl rfl rfl (fun hg=>(qb (o':=i.toNat*4+2) Ju rfl xX rfl (hu71 hg) rfl)) ?_;intro u72 hu72 hn72;refine shu rfl rfl rfl (fun hg=>(qi 2 uj rfl (hu72 hg) (ji jW _ _ _ hcur 2 _ rfl))) ?_;intro u73 hu73 hn73;refine spu rfl rfl rfl (fun hg=>(g_eql (hu68 hg) (hu73 hg))) ?_;intro u74 hu74 hn74;refine spu rfl rfl rfl (fun hg=>(qf (hu74 hg))) ?_
        intro u75 hu75 hn75;refine spn (P:=prog) rfl rfl (C:=_) hu75 hn75 (fun hg=>(qb (o':=3) Ju rfl xX rfl rfl rfl)) ?_;intro u76 hu76 hn76;refine shn (P:=prog) rfl rfl (C:=_) hu75 hn75 (fun hg=>(qi 0 uj rfl (hu76 hg) rfl)) ?_;intro u77 hu77 hn77;refine spn (P:=prog) rfl rfl (C:=_) hu75 hn75 (fun hg=>(qk _)) ?_;intro u78 hu78 hn78;refine spn (P:=prog) rfl rfl (C:=_) hu75 hn75 (fun hg=>(Qmi rfl)) ?_;intro u79 hu79 hn79;refine spn (P:=prog) rfl rfl (C:=_) hu75 hn75 (fun hg=>(qM (o:=i.toNat*4) JH JC (hu78 hg) (hu79 hg) (by omega) (by omega) rfl)) ?_;intro u80 hu80 hn80;refine spn (P:=prog) rfl rfl (C:=_) hu75 hn75 (fun hg=>(qb (o':=i.toNat*4+3) Ju rfl xX rfl (hu80 hg) rfl)) ?_;intro u81 hu81 hn81;refine shn (P:=prog) rfl rfl (C:=_) hu75 hn75 (fun hg=>(qi 2 uj rfl (hu81 hg) (ji jW _ _ _ hcur 3 _ rfl))) ?_;intro u82 hu82 hn82;refine spn (P:=prog) rfl rfl (C:=_) hu75 hn75 (fun hg=>(g_lss (hu77 hg) (hu82 hg))) ?_;intro u83 hu83 hn83;refine spu rfl rfl rfl (fun hg=>(g_and (hu75 hg) rfl (fun hq=>hu83 ⟨hg,hq⟩))) ?_;intro u84 hu84 hn84;refine sp rfl (g_or rfl rfl (fun hq=>hu84 hq)) (sn (xN (qo rfl ?_ ?_)))
        ·
         intro hc85;clear hu57 hn57 hu58 hn58 hu59 hn59 hu60 hn60 hu61 hn61 hu62 hn62 hu63 hn63 hu64 hn64 hu67 hn67 hu68 hn68 hu69 hn69 hu70 hn70 hu71 hn71 hu72 hn72 hu73 hn73 hu74 hn74 hu75 hn75 hu76 hn76 hu77 hn77 hu78 hn78 hu79 hn79 hu80 hn80 hu81 hn81 hu82 hn82 hu83 hn83 hu84 hn84;have hup:Vis (l.drop i.toNat) true (⟨k,n,opc k n+rb.cost,1+rb.ops⟩:Bs) k n':=by
          have:=hstep.1 (by rw[hcd]; simpa [Pr.less,Bool.or_assoc] using hc85);rw[hcd]at this;exact this
         refine reg (qq hS (qk _) (qq hS (Qmi rfl) (qq hS (g_ldO 0 (vs:=[.int .i64 _,.int .i64 _,.int .i64 _,.int .i64 _]) JC isAgg262 rfl rfl rfl rfl) (qq hS (qM (o:=i.toNat*4) JH JC rfl rfl (by omega) (by omega) rfl) ?_))));refine qe (qj 2 hS JC rfl rfl rfl (vs:=bsC (⟨k,n,opc k n+rb.cost,1+rb.ops⟩:Bs)) rfl rfl rfl (by rw[qW jW,xn _ _ (by omega)]; omega) (putL_flat jW _ _ (⟨k,n,opc k n+rb.cost,1+rb.ops⟩:Bs) (by rw[xn _ _ (by omega)]; omega))) ?_;clear hS;rintro _ w_15⟨rfl,hS⟩;refine qq hS (Qab rfl) (qh (Qh (xN (reg (qq hS (Qmi rfl) (qq hS (g_sub rfl rfl (by omega) (by omega)) (qq hS (Qai rfl) ?_)))))))
         first
          | exact⟨(n',true,(⟨k,n,opc k n+rb.cost,1+rb.ops⟩:Bs)),_,rfl,⟨⟨rfl,rfl,rfl,rfl,rfl,by show Value.int .i64 ((n:Int) - 1)=Value.int .i64 (n':Int); congr 1; omega,trivial⟩,by rw[xm]at hS; exact hS.sel [false,false,true],by dsimp only; omega,hup⟩,by dsimp only; omega⟩
          | exact⟨(n',f,cur),_,rfl,⟨⟨rfl,rfl,rfl,rfl,rfl,by show Value.int .i64 ((n:Int) - 1)=Value.int .i64 (n':Int); congr 1; omega,trivial⟩,hS.sel [false,false,true],by dsimp only; omega,hup⟩,by dsimp only; omega⟩
        ·
         intro hc85;clear hu57 hn57 hu58 hn58 hu59 hn59 hu60 hn60 hu61 hn61 hu62 hn62 hu63 hn63 hu64 hn64 hu67 hn67 hu68 hn68 hu69 hn69 hu70 hn70 hu71 hn71 hu72 hn72 hu73 hn73 hu74 hn74 hu75 hn75 hu76 hn76 hu77 hn77 hu78 hn78 hu79 hn79 hu80 hn80 hu81 hn81 hu82 hn82 hu83 hn83 hu84 hn84;have hup:Vis (l.drop i.toNat) f cur k n':=hstep.2 (by rw[hcd]; simpa [Pr.less,Bool.or_assoc] using hc85);refine xZ (Qh (xN (reg (qq hS (Qmi rfl) (qq hS (g_sub rfl rfl (by omega) (by omega)) (qq hS (Qai rfl) ?_))))))
         first
          | exact⟨(n',true,(⟨k,n,opc k n+rb.cost,1+rb.ops⟩:Bs)),_,rfl,⟨⟨rfl,rfl,rfl,rfl,rfl,by show Value.int .i64 ((n:Int) - 1)=Value.int .i64 (n':Int); congr 1; omega,trivial⟩,by rw[xm]at hS; exact hS.sel [false,false,true],by dsimp only; omega,hup⟩,by dsimp only; omega⟩
          | exact⟨(n',f,cur),_,rfl,⟨⟨rfl,rfl,rfl,rfl,rfl,by show Value.int .i64 ((n:Int) - 1)=Value.int .i64 (n':Int); congr 1; omega,trivial⟩,hS.sel [false,false,true],by dsimp only; omega,hup⟩,by dsimp only; omega⟩
      ·
       intro hc33
       try simp only[zA,zO,zN,zI,zF,zM,zT,zU]at hc33
       have hn00:n=0:=by omega
       subst hn00;refine uD (uA (uA (Qw (Qh (xN (reg (qq hS (Qmi rfl) (qq hS (g_add rfl rfl (by omega) (by omega)) (qq hS (Qai rfl) ?_)))))))));exact⟨(k+1,f,cur),_,rfl,⟨⟨rfl,rfl,rfl,rfl,rfl,trivial⟩,hS.sel [true],by dsimp only; omega,by dsimp only; omega,hvis.next⟩,by dsimp only; omega⟩
    ·
     intro hc24
     try simp only[zA,zO,zN,zI,zF,zM,zT,zU]at hc24
     obtain rfl:k=5:=by omega
     have hcf:=hvis.done hgi hne;rw[hcf,bsRow_done hi]at hS;refine uD (uA (uA (Qw (Qh (xN (reg (qq hS (Qmi rfl) (qq hS (g_sub rfl rfl (by omega) (by omega)) (qq hS (Qai rfl) (⟨i - 1,_,rfl,⟨⟨rfl,rfl,rfl,trivial⟩,?_,by omega,by omega⟩,by omega⟩))))))))));rw[show(i - 1+1).toNat=i.toNat by omega];exact hS.sel [true]
  ·
   intro hc20
   try simp only[zA,zO,zN,zI,zF,zM,zT,zU]at hc20
   have hi:i = -1:=by omega
   subst hi;refine uD (uA (uA (Qw (xN (QwR (qe (qN hS QC QD) ?_))))));clear hS;rintro _ w_16⟨hS,b90_,rfl⟩;refine qq hS (qy _) (QoN (xL (QwR (qq hS (Qai rfl) (QoN (uk (loop (fun(x:LS) σ w=>okS σ [(0,.slice ad l.length cap),(3,.slice (some ⟨bt,0,none⟩) (l.length+1) (l.length+1)),(10,.slice x.a x.done.length x.c),(11,.int .i64 x.i)]∧∃I,St [] w0 I0 I w [.row (.slice x.a x.done.length x.c) 102 5 x.done.length x.css.flatten,.cel bt 262 (flat bsC (bsTab l))]∧x.i≤l.length∧x.done++opsT (tab l) l x.f x.i=opsT (tab l) l (l.length+1) 0∧l.length - x.i < x.f∧All2 (ROp I) x.css x.done∧(∀cs∈x.css,cs.length=5)∧x.done.length≤x.i) (fun x=>l.length - x.i) (⟨0,l.length+1,[],[],some ⟨b90_,0,none⟩,0⟩) ?_ ?_)))))))
   ·
    exact⟨⟨rfl,rfl,rfl,rfl,trivial⟩,_,hS.sel [true,true],by simp,by simp,by simp,All2.nil _,by simp,by simp⟩
   ·
    rintro⟨i,f,done,css,a,c⟩σ w_l⟨hs,I,hS,hi0,hdone,hf0,hall,hcl,hdl⟩;dsimp only at hs hS hi0 hdone hf0 hall hcl hdl ⊢;rw[← qx hs]; clear hs
    refine xL (QwR (qq hS (Qmi rfl) (qq hS (qk _) (qq hS (qz rfl uG hl rfl) (qq hS (g_lss rfl rfl) (QoN (qo rfl ?_ ?_)))))))
    ·
     intro hc94
     try simp only[zA,zO,zN,zI,zF,zM,zT,zU]at hc94
     have hci:=(hgd.drop i).core (by rw[Ne,List.drop_eq_nil_iff]; omega);have k0:=hci.k0;have k1:=hci.k1;have n0:=hci.n0;have n1:=hci.n1;have hle:=jI (topP (l.drop i)).kind (l.drop i);rw[Qj]at hle;have hpi:=bsTab_at (l:=l) (k:=i) (by omega);have hti:(tab l)[i]? = some (topP (l.drop i)):=by
      have h2:=zw l i (by omega);have h3:i < (tab l).length:=by rw[jj]; omega
      rw[uh,xW h3]at h2;rw[xW h3,← h2]; rfl
     obtain⟨rp,hrp⟩:∃rp,rp=bsOf (topP (l.drop i)):=⟨_,rfl⟩
     rw[← hrp]at hpi;have e1:(topP (l.drop i)).kind=rp.kind:=by rw[hrp]; rfl
     have e2:(topP (l.drop i)).length=rp.len:=by rw[hrp]; rfl
     rw[e1]at k0 k1 hle n1;rw[e2]at n0 n1;have hseg:(l.take (i+rp.len.toNat)).drop i=(l.drop i).take rp.len.toNat:=by rw[List.drop_take]; congr 1; omega
     obtain⟨f',hf'⟩:∃f',f=f'+1:=⟨f - 1,by omega⟩
     subst hf';rw[yz (by omega) hti,e1,e2,hseg]at hdone;refine xZ (xN (xL (uk (draw (.cons 0 .pure (.cons 1 .pure (.cons 2 .pure (.cons 3 .pure (.cons 4 .pure (.cons 5 .held (.cons 6 .pure (.cons 7 .pure (.cons 8 .pure (.cons 9 .pure (.cons 10 .pure (.cons 11 .pure (.cons 12 .pure (.cons 13 .held (.cons 14 .pure (.cons 15 .pure (.cons 16 .eff (.cons 17 .eff (.cons 18 .bar (.cons 19 .pure .nil)))))))))))))))))))) mixed (by kernel_rfl) hS ?_))));intro w_17 hS;refine sp rfl (qk _) (sp rfl (qk _) (sp rfl (Qmi rfl) (sp rfl (qM (o:=i*4) JH JC rfl rfl (by omega) (by omega) rfl) (sp rfl (qb (o':=i*4+0) Ju rfl xX rfl rfl rfl) (sh rfl (qi 1 uj rfl rfl (ji jW _ _ _ hpi 0 _ rfl)) (sp rfl (qk _) (sp rfl (Qmi rfl) (sp rfl (Qmi rfl) (sp rfl (qk _) (sp rfl (Qmi rfl) ?_))))))))));refine sp rfl (qM (o:=i*4) JH JC rfl rfl (by omega) (by omega) rfl) (sp rfl (qb (o':=i*4+1) Ju rfl xX rfl rfl rfl) (sh rfl (qi 1 uj rfl rfl (ji jW _ _ _ hpi 1 _ rfl)) (sp rfl (g_add rfl rfl (by omega) (by omega)) (sp rfl (g_slice2N (l0:=i) (h0:=i+rp.len.toNat) uG uN rfl rfl rfl (by omega) (by omega) (by omega) rfl (by omega)) ?_))));have hS0:=hS;refine se rfl (ql call179 rfl (refOp_c rp.kind _ ((l.drop i).take rp.len.toNat) _ I hS.imm (by rw[← hseg]; exact((hl.mono hS.ext).resl2 _ _ (by omega) (by omega)).1) ⟨by omega,by omega⟩ (by rw[uT,Qj]; omega) (by rw[uT]; omega))) ?_;rintro _ w_18⟨I2,a2,m2,c2,rfl,hE,hd2⟩;replace hS:=hS.call hE;refine⟨_,_,hS0.le hE.ext (xY _),hS,?_⟩;have hS0:=hS;refine se rfl (d_lit (vs:=[.agg #[.int .i64 _,.int .i64 _,.int .i64 _,.int .u8 _,.slice _ _ _]]) (cs:=[.int .i64 _,.int .i64 _,.int .i64 _,.int .u8 _,.slice _ _ _]) hS QC QD Jp rfl rfl rfl rfl (fun v hv=>by simp only[uq,ur,or_false]at hv; subst hv; rfl) rfl) ?_
     rintro _ w_19⟨b_19,rfl,hS⟩;refine⟨_,_,hS0.le (Sub.refl _) (ue _ _),hS,sb rfl (qE 1 0 hS rfl QC info102 rfl rfl rfl rfl rfl rfl rfl rfl (by omega) (by omega)) ?_⟩;rintro _ w_20⟨a120,p120,rfl,hS⟩;refine⟨_,_,hS,sp rfl (qy _) (sn (Qh (xN (reg (qq hS (Qmi rfl) (qq hS (qk _) (qq hS (Qmi rfl) (qq hS (qM (o:=i*4) JH JC rfl rfl (by omega) (by omega) rfl) (qq hS (qb (o':=i*4+1) Ju rfl xX rfl rfl rfl) (qq hS (qi 2 uj rfl rfl (ji jW _ _ _ hpi 1 _ rfl)) (qq hS (g_add rfl rfl (by omega) (by omega)) ?_)))))))))))⟩;refine qq hS (Qai rfl) ?_;refine ⟨⟨i + rp.len.toNat, f', done ++ [opS rp.kind ((l.drop i).take rp.len.toNat)], css ++ [[.int .i64 (opS rp.kind ((l.drop i).take rp.len.toNat)).kind, .int .i64 (opS rp.kind ((l.drop i).take rp.len.toNat)).from_, .int .i64 (opS rp.kind ((l.drop i).take rp.len.toNat)).len, .int .u8 (opS rp.kind ((l.drop i).take rp.len.toNat)).b, .slice a2 m2 c2]], a120, p120⟩, _, rfl, ⟨⟨rfl, rfl, by show Value.slice a120 (done.length + 1) p120 = Value.slice a120 (done ++ [opS rp.kind ((l.drop i).take rp.len.toNat)]).length p120; rw [ug]; rfl, by show Value.int .i64 ((i : Int) + rp.len) = Value.int .i64 ((i + rp.len.toNat : Nat) : Int); congr 1; omega, trivial⟩, I2, ?_, by dsimp only; omega, by dsimp only; rw [Qr]; exact hdone, by dsimp only; omega,
      All2.snoc (hall.mono fun _ _ h=>h.mono hE.ext) ⟨_,_,_,rfl,hd2⟩,?_,by dsimp only; simp; omega⟩,by dsimp only; omega⟩
     · dsimp only
       rw[QT,List.flatten_singleton,ug];exact hS.sel [false,true,true]
     · intro cs hcs
       rcases uX.1 hcs with h | h
       · exact hcl cs h
       · simp only[uL]at h; subst h; rfl
    ·
     intro hc94
     try simp only[zA,zO,zN,zI,zF,zM,zT,zU]at hc94
     rw[yA (by omega),List.append_nil]at hdone;refine uD (uA (uA (Qw (xN (QwR (qq hS (qk _) (qq hS (qy _) (QoN (ub (ret1 results169 (qr rfl) ?_))))))))));obtain⟨I3,hS3,hI3,ho3⟩:=St.freezeRowR (hS.sel [true,false]) rfl hcl hall;rw[show optL l=done from hdone.symm];exact⟨I3,a,done.length,c,rfl,hS3,RSl.mono ho3 (Sub.refl _) fun _ _ h=>h.mono hI3⟩
end Go.Proofs.YtcajgkfgjpfmaaaGreat
