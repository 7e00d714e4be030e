/- Servers: the plain laws of offers: a chain of patches is composed, a cache changes nothing, what an offer leads to. Conditions: good servers. Servers: the plain laws of collecting, withdrawing and adding. Conditions: good servers. -/
import Derived.Test.YtcajgkfgjpfmaaaGreatSrv5
import Derived.Test.YtcajgkfgjpfmaaaGreatBase9
set_option linter.unusedSimpArgs false
set_option linter.unusedVariables false
namespace Go.Proofs.YtcajgkfgjpfmaaaGreat
open Go Go.RowKit Go.Inl
def lenV (v:Int):Int:=1+v*5 % 6
theorem vA (v:Int):1≤lenV v∧lenV v≤6:=by unfold lenV; omega
structure FitL (k : LnkL) (p : PatL) : Prop where
 wf:p.wf
 ck:(checkP p).2=0
 lif:p.lifted=false
 in_:p.in_=lenV k.f
 out:p.out=lenV k.t
structure GoodS (s : SrvL) : Prop where
 val:validG s.g=true
 pl:s.ps.length=s.g.ls.length
 fit:∀(i:Nat) (k:LnkL) (p:PatL),s.g.ls[i]? = some k→s.ps[i]? = some p→FitL k p
 gi:s.gone.Pairwise (· < ·)
 gv:∀v∈s.gone,v∈s.g.vs
theorem GoodS.b {s:SrvL}(h:GoodS s):GrB s.g:=valid_b h.val
theorem GoodS.pw {s:SrvL}(h:GoodS s):∀p∈s.ps,p.wf:=fun p hp=>by
 obtain⟨i,hi⟩:=Qm.1 hp;have hl:=(uc.1 hi).1;rw[h.pl]at hl;exact(h.fit i _ p (xW hl) hi).wf
theorem ps_at {s:SrvL}(h:GoodS s){i:Nat}{k:LnkL}(hk:s.g.ls[i]? = some k):∃p,s.ps[i]? = some p∧FitL k p:=by
 have hl:=(uc.1 hk).1;obtain⟨p,hp⟩:∃p,s.ps[i]? = some p:=⟨_,xW (by rw[h.pl]; exact hl)⟩
 exact⟨p,hp,h.fit i k p hk hp⟩
structure ChainG (g : GrL) (l : List Int) : Prop where
 ne:l≠[]
 ix:∀i∈l,0≤i∧i < g.ls.length
 adj:∀(j:Nat) (a b:Int) (ka kb:LnkL),l[j]? = some a→l[j+1]? = some b→g.ls[a.toNat]? = some ka→g.ls[b.toNat]? = some kb→ka.t=kb.f
structure CacheOk (s : SrvL) : Prop where
 len:s.cache.length≤8
 each:∀d∈s.cache,ChainG s.g d.way∧d.way.length≤16∧allP (patsOf s.ps d.way)=(d.p,0)
 dif:∀(i k:Nat) (a b:MadeL),k < i→s.cache[i]? = some a→s.cache[k]? = some b→a.way≠b.way
theorem CacheOk.of_nil {s:SrvL}(h:s.cache=[]):CacheOk s:=⟨by rw[h]; exact Nat.zero_le _,(fun d hd=>by rw[h]at hd; cases hd),(fun i k a b _ ha=>by rw[h]at ha; simp at ha)⟩
theorem GoodS.srvB {s:SrvL}(h:GoodS s)(hc:CacheOk s):SrvB s:=⟨h.b,h.pl,h.pw,hc.len⟩
end Go.Proofs.YtcajgkfgjpfmaaaGreat
namespace Go.Proofs.YtcajgkfgjpfmaaaGreat
open Go Go.RowKit Go.Inl
theorem nodup_len {a b:List Int}(h:a.Pairwise (· < ·))(hs:∀v∈a,v∈b):a.length≤b.length :=
 List.Nodup.length_le_of_subset (h.imp fun h=>by omega) hs
theorem incV_of : ∀ (b : Int) (l : List Int), l.Pairwise (· < ·) → (∀ v ∈ l, b ≤ v ∧ v ≤ 60000) → incV b l = true
 | _,[],_,_=>rfl
 | b,x::l,h,hb=>by
   rw[List.pairwise_cons]at h;have h1:=hb x (List.mem_cons_self ..);unfold incV;rw[uK h1.1,uK h1.2,Bool.true_and,Bool.true_and];refine incV_of _ l h.2 fun v hv=>⟨?_,(hb v (List.mem_cons_of_mem _ hv)).2⟩
   have:=h.1 v hv;omega
structure LnkG (vs : List Int) (k : LnkL) : Prop where
 f:k.f∈vs
 t:k.t∈vs
 ne:k.f≠k.t
 c0:0≤k.c
 c1:k.c≤1000000
 n:rightN k.n=true
theorem lnk_iff {vs:List Int}{k:LnkL}:lnkOk vs k=true↔LnkG vs k:=by
 unfold lnkOk;simp only[xT,xR,xS,xO,xM];constructor
 · rintro ⟨⟨⟨⟨⟨a, b⟩, c⟩, d⟩, e⟩, f⟩
   exact⟨a,b,c,by omega,by omega,f⟩
 · rintro ⟨a, b, c, d, e, f⟩
   exact⟨⟨⟨⟨⟨a,b⟩,c⟩,by omega⟩,by omega⟩,f⟩
structure ValG (g : GrL) : Prop where
 nv:g.vs.length≤16
 nl:g.ls.length≤64
 inc:g.vs.Pairwise (· < ·)
 vb:∀v∈g.vs,0≤v∧v≤60000
 ls:∀k∈g.ls,LnkG g.vs k
theorem kQ {g:GrL}:validG g=true↔ValG g:=by
 unfold validG;simp only[xU,xO,Qn];constructor
 · rintro ⟨a, b, c, d⟩
   refine⟨a,b,vC _ _ c,fun v hv=>?_,fun k hk=>lnk_iff.1 (d k hk)⟩;obtain⟨i,hi⟩:=Qm.1 hv;exact yU _ _ _ _ c hi
 · rintro ⟨a, b, c, d, e⟩
   exact⟨a,b,incV_of _ _ c d,fun k hk=>lnk_iff.2 (e k hk)⟩
/-! ### Adding -/
theorem fitsE_len {a b:LnkL}{p q:PatL}(hp:FitL a p)(hq:FitL b q):fitsE (endOf a p) (endOf b q)=true:=by
 unfold fitsE endOf;dsimp only;rw[hp.in_,hp.out,hq.in_,hq.out];by_cases h1:a.f=b.f <;> by_cases h2:a.t=b.t <;> by_cases h3:a.t=b.f <;> by_cases h4:a.f=b.t <;> simp[h1,h2,h3,h4] <;> simp_all
theorem zip_mem {s:SrvL}(hg:GoodS s){z:LnkP}(hz:z∈zipLP s.g.ls s.ps):FitL z.l z.p:=by
 obtain⟨i,hi⟩:=Qm.1 hz;have hl:=(uc.1 hi).1;rw[zb hg.pl]at hl;obtain⟨p,hp,hF⟩:=ps_at hg (xW hl);rw[zq (xW hl) hp]at hi;obtain rfl:=Option.some.inj hi;exact hF
end Go.Proofs.YtcajgkfgjpfmaaaGreat
