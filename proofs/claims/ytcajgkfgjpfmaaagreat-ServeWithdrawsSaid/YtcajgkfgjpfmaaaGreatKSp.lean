/- Servers: the plain laws of offers: a chain of patches is composed, a cache changes nothing, what an offer leads to. Conditions: good servers. Servers: the plain laws of collecting, withdrawing and adding. Conditions: good servers. -/
import Derived.Test.YtcajgkfgjpfmaaaGreatSrv5
import Derived.Test.YtcajgkfgjpfmaaaGreatBase9
set_option linter.unusedSimpArgs false
set_option linter.unusedVariables false
namespace Go.Proofs.YtcajgkfgjpfmaaaGreat
open Go Go.RowKit Go.Inl
def lenV (v:Int):Int:=1+v*5 % 6
theorem vA (v:Int):1≤lenV v∧lenV v≤6:=by unfold lenV; omega
structure FitL (k : LnkL) (p : PatL) : Prop where
 wf:p.wf
 ck:(checkP p).2=0
 lif:p.lifted=false
 in_:p.in_=lenV k.f
 out:p.out=lenV k.t
structure GoodS (s : SrvL) : Prop where
 val:validG s.g=true
 pl:s.ps.length=s.g.ls.length
 fit:∀(i:Nat) (k:LnkL) (p:PatL),s.g.ls[i]? = some k→s.ps[i]? = some p→FitL k p
 gi:s.gone.Pairwise (· < ·)
 gv:∀v∈s.gone,v∈s.g.vs
theorem GoodS.b {s:SrvL}(h:GoodS s):GrB s.g:=valid_b h.val
theorem GoodS.pw {s:SrvL}(h:GoodS s):∀p∈s.ps,p.wf:=fun p hp=>by
 obtain⟨i,hi⟩:=Qm.1 hp;have hl:=(uc.1 hi).1;rw[h.pl]at hl;exact(h.fit i _ p (xW hl) hi).wf
theorem GoodS.gn {s:SrvL}(h:GoodS s):s.gone.length≤16:=by
 have h1:=h.b.nv;have h2:s.gone.Nodup:=h.gi.imp (fun h=>by omega);have h3:=List.Nodup.length_le_of_subset h2 (fun v hv=>h.gv v hv);omega
theorem xF (g : GrL) (m : NeedL) : ∀ l : List Int, l.foldl (stepW g m) none = none
 | []=>rfl
 | _::l=>xF g m l
theorem zd {g:GrL}{m:NeedL}{v c i:Int}{l:List Int}{t d:Int}(h:(i::l).foldl (stepW g m) (some (v,c))=some (t,d)):∃k,0≤i∧g.ls[i.toNat]? = some k∧k.f=v∧fitN k.n m=true∧l.foldl (stepW g m) (some (k.t,c+k.c))=some (t,d):=by
 rw[List.foldl_cons]at h;cases e:g.ls[i.toNat]? with
 | none =>
   have:stepW g m (some (v,c)) i=none:=by simp only[stepW,e]
   rw[this,xF]at h; cases h
 | some k =>
   by_cases hc:0≤i∧k.f=v∧fitN k.n m=true
   · have : stepW g m (some (v, c)) i = some (k.t, c + k.c) := by simp only [stepW, e]; rw [ui hc]
     rw[this]at h;exact⟨k,hc.1,rfl,hc.2.1,hc.2.2,h⟩
   · have : stepW g m (some (v, c)) i = none := by simp only [stepW, e]; rw [ud hc]
     rw[this,xF]at h; cases h
theorem ps_at {s:SrvL}(h:GoodS s){i:Nat}{k:LnkL}(hk:s.g.ls[i]? = some k):∃p,s.ps[i]? = some p∧FitL k p:=by
 have hl:=(uc.1 hk).1;obtain⟨p,hp⟩:∃p,s.ps[i]? = some p:=⟨_,xW (by rw[h.pl]; exact hl)⟩
 exact⟨p,hp,h.fit i k p hk hp⟩
theorem vw {ps:List PatL}{i:Int}{l:List Int}{p:PatL}(h:ps[i.toNat]? = some p):patsOf ps (i::l)=p::patsOf ps l:=by
 unfold patsOf;rw[QN,uh,h]; rfl
theorem chain_fold {s : SrvL} (h : GoodS s) {m : NeedL} : ∀ (l : List Int) (v c t d : Int), l.foldl (stepW s.g m) (some (v, c)) = some (t, d) → ChainOk (lenV v) (patsOf s.ps l)
 | [],_,_,_,_,_=>trivial
 | i::l,v,c,t,d,hw=>by
   obtain⟨k,h0,hk,hf,hn,hw2⟩:=zd hw;obtain⟨p,hp,hF⟩:=ps_at h hk;have hb:=vA k.t;rw[vw hp];refine⟨by rw[hF.in_,hf],hF.ck,hF.lif,by rw[hF.out]; omega,?_⟩;rw[hF.out];exact chain_fold h l k.t _ t d hw2
theorem chain_walk {s:SrvL}(h:GoodS s){m:NeedL}{f t d:Int}{l:List Int}(hw:walkW s.g m f l=some (t,d)):ChainOk (lenV f) (patsOf s.ps l):=chain_fold h l f 0 t d hw
theorem ne_cons {l:List Int}(h:l≠[]):∃i r,l=i::r:=by
 cases l with
 | nil=>exact absurd rfl h
 | cons i r=>exact⟨i,r,rfl⟩
theorem all_walk {s:SrvL}(h:GoodS s){m:NeedL}{f t d:Int}{l:List Int}(hw:walkW s.g m f l=some (t,d))(hl:l≠[]):(allP (patsOf s.ps l)).2=0:=by
 have hc:=chain_walk h hw;obtain⟨i,r,rfl⟩:=ne_cons hl;have hb:=vA f;have e:patsOf s.ps (i::r)=s.ps.getD i.toNat PatL.zero::patsOf s.ps r:=rfl;rw[e]at hc ⊢;rw[(allP_ok ⟨by omega,by omega⟩ hc).1]
structure ChainG (g : GrL) (l : List Int) : Prop where
 ne:l≠[]
 ix:∀i∈l,0≤i∧i < g.ls.length
 adj:∀(j:Nat) (a b:Int) (ka kb:LnkL),l[j]? = some a→l[j+1]? = some b→g.ls[a.toNat]? = some ka→g.ls[b.toNat]? = some kb→ka.t=kb.f
theorem walk_last {g:GrL}{m:NeedL}{s:Int}{l:List Int}{v c:Int}(h:walkW g m s l=some (v,c)){a:Int}{ka:LnkL}{j:Nat}(hj:l[j]? = some a)(hl:j+1=l.length)(hk:g.ls[a.toNat]? = some ka):ka.t=v:=by
 have hne:l≠[]:=fun e=>by subst e; simp at hl
 rw[← List.dropLast_concat_getLast hne]at h;obtain⟨d,k,h1,h2,h3,h4,h5,h6⟩:=kI h;have e:l.getLast hne=a:=by
  rw[List.getLast_eq_getElem];obtain⟨h7,h8⟩:=uc.1 hj;rw[← h8];congr 1
  omega
 rw[e,hk]at h3;rw[h5,Option.some.inj h3]
theorem walk_adj {g:GrL}{m:NeedL}{s:Int}:∀(n:Nat) (l:List Int),l.length=n→∀v c,walkW g m s l=some (v,c)→∀(j:Nat) (a b:Int) (ka kb:LnkL),l[j]? = some a→l[j+1]? = some b→g.ls[a.toNat]? = some ka→g.ls[b.toNat]? = some kb→ka.t=kb.f:=by
 refine snocI (p:=fun l=>∀v c,walkW g m s l=some (v,c)→∀(j:Nat) (a b:Int) (ka kb:LnkL),l[j]? = some a→l[j+1]? = some b→g.ls[a.toNat]? = some ka→g.ls[b.toNat]? = some kb→ka.t=kb.f) (fun v c _ j a b ka kb h=>by simp at h) ?_;intro l x ih v c h j a b ka kb ha hb hka hkb;obtain⟨d,k,h1,h2,h3,h4,h5,h6⟩:=kI h;have hjl:=(uc.1 hb).1;rw[ug,QH]at hjl;rw[Qc (by omega)]at ha;by_cases hj:j+1 < l.length
 · rw [Qc hj] at hb
   exact ih _ _ h1 j a b ka kb ha hb hka hkb
 · rw [Qb (by omega), show j + 1 - l.length = 0 by omega] at hb
   obtain rfl:x=b:=by simpa using hb
   rw[hkb]at h3;rw[walk_last h1 ha (by omega) hka,Option.some.inj h3]
theorem walk_chain {g:GrL}{m:NeedL}{s v c:Int}{l:List Int}(h:walkW g m s l=some (v,c))(hl:l≠[]):ChainG g l:=⟨hl,yL _ _ rfl _ _ h,walk_adj _ _ rfl _ _ h⟩
theorem way_last {g:GrL}{m:NeedL}{s v c:Int}{l:List Int}(h:walkW g m s l=some (v,c)):lastI (s::l.map (lnkT g))=v:=by
 unfold lastI;by_cases hl:l=[]
 · subst hl; rw[zv]at h; cases h; rfl
 · have hpos := List.length_pos_iff.2 hl
   obtain⟨a,ha⟩:∃a,l[l.length - 1]? = some a:=⟨_,xW (by omega)⟩
   have hi:=yL _ _ rfl _ _ h a (uf ha);obtain⟨k,hk⟩:∃k,g.ls[a.toNat]? = some k:=⟨_,xW (by omega)⟩
   have hw:=walk_last h ha (by omega) hk;rw[uP,uR,Nat.add_sub_cancel,uh,show l.length=l.length - 1+1 by omega,List.getElem?_cons_succ,Qo,ha];show lnkT g a=v
   rw[lnkT_at hk,hw]
structure CacheOk (s : SrvL) : Prop where
 len:s.cache.length≤8
 each:∀d∈s.cache,ChainG s.g d.way∧d.way.length≤16∧allP (patsOf s.ps d.way)=(d.p,0)
 dif:∀(i k:Nat) (a b:MadeL),k < i→s.cache[i]? = some a→s.cache[k]? = some b→a.way≠b.way
theorem CacheOk.of_nil {s:SrvL}(h:s.cache=[]):CacheOk s:=⟨by rw[h]; exact Nat.zero_le _,(fun d hd=>by rw[h]at hd; cases hd),(fun i k a b _ ha=>by rw[h]at ha; simp at ha)⟩
theorem GoodS.srvB {s:SrvL}(h:GoodS s)(hc:CacheOk s):SrvB s:=⟨h.b,h.pl,h.pw,hc.len⟩
def findC (s:SrvL)(l:List Int):Option MadeL:=s.cache.find? fun m=>decide (m.way=l)
theorem compC_eq {s:SrvL}(hc:CacheOk s)(l:List Int):compC s l=⟨(allP (patsOf s.ps l)).1,(findC s l).isSome,(allP (patsOf s.ps l)).2⟩:=by
 unfold compC findC;cases e:s.cache.find? fun m=>decide (m.way=l) with
 | none=>rfl
 | some d =>
   have h1:=List.mem_of_find?_eq_some e;have h2:=List.find?_some e;rw[xO]at h2;have h3:=(hc.each d h1).2.2;rw[h2]at h3;rw[h3]; rfl
def patO (s:SrvL)(l:List Int):PatL:=if l=[] then PatL.zero else (allP (patsOf s.ps l)).1
def offO (s:SrvL)(f:Int)(l:List Int)(c:Int):OffL:=⟨f::l.map (lnkT s.g),patO s l,c⟩
def keptS (s:SrvL)(l:List Int):SrvL:=if l=[] then s else if (findC s l).isSome=true then s else pushC s l (allP (patsOf s.ps l)).1
structure SameG (s t : SrvL) : Prop where
 g:t.g=s.g
 ps:t.ps=s.ps
 gone:t.gone=s.gone
theorem SameG.refl (s:SrvL):SameG s s:=⟨rfl,rfl,rfl⟩
theorem keptS_same (s:SrvL)(l:List Int):SameG s (keptS s l):=by
 unfold keptS pushC;split
 · exact .refl s
 · split <;> exact⟨rfl,rfl,rfl⟩
theorem SameG.good {s t:SrvL}(h:SameG s t)(hg:GoodS s):GoodS t:=by
 obtain⟨g,ps,gone,c⟩:=s;obtain⟨g',ps',gone',c'⟩:=t;obtain⟨h1,h2,h3⟩:=h;dsimp only at h1 h2 h3;subst h1 h2 h3;exact⟨hg.val,hg.pl,hg.fit,hg.gi,hg.gv⟩
theorem SameG.trans {s t u:SrvL}(h:SameG s t)(h2:SameG t u):SameG s u:=⟨h2.g.trans h.g,h2.ps.trans h.ps,h2.gone.trans h.gone⟩
theorem kept_ok {s:SrvL}(hg:GoodS s)(hc:CacheOk s){m:NeedL}{f t c:Int}{l:List Int}(hw:walkW s.g m f l=some (t,c))(hln:l.length≤16):CacheOk (keptS s l):=by
 unfold keptS;split
 · exact hc
 · rename_i hl
   split
   · exact hc
   · rename_i hf
     have hno:∀d∈s.cache,d.way≠l:=fun d hd e=>hf (by
      unfold findC;rw[List.find?_isSome];exact⟨d,hd,uK e⟩)
     have hall:=all_walk hg hw hl;have h8:=hc.len;have hmem:∀d∈(s.cache++([⟨l,(allP (patsOf s.ps l)).1⟩]:List MadeL)).drop (s.cache.length+1 - 8),d∈s.cache∨d=⟨l,(allP (patsOf s.ps l)).1⟩:=fun d hd=>by
      have:=List.mem_of_mem_drop hd;rcases uX.1 this with h | h
      · exact .inl h
      · rw[uL]at h; exact .inr h
     refine⟨?_,?_,?_⟩
     · show ((s.cache ++ ([⟨l, (allP (patsOf s.ps l)).1⟩] : List MadeL)).drop (s.cache.length + 1 - 8)).length ≤ 8
       rw[Qj,ug,QH]; omega
     · intro d hd
       rcases hmem d hd with h | rfl
       · exact hc.each d h
       · exact⟨walk_chain hw hl,hln,Prod.ext rfl hall⟩
     · intro i k a b hki ha hb
       replace ha:((s.cache++([⟨l,(allP (patsOf s.ps l)).1⟩]:List MadeL)).drop (s.cache.length+1 - 8))[i]? = some a:=ha;replace hb:((s.cache++([⟨l,(allP (patsOf s.ps l)).1⟩]:List MadeL)).drop (s.cache.length+1 - 8))[k]? = some b:=hb;rw[List.getElem?_drop]at ha hb;have hil:=(uc.1 ha).1;rw[ug,QH]at hil;rw[Qc (by omega)]at hb;by_cases hi:s.cache.length+1 - 8+i < s.cache.length
       · rw [Qc hi] at ha
         exact hc.dif _ _ a b (by omega) ha hb
       · rw [Qb (by omega), show s.cache.length + 1 - 8 + i - s.cache.length = 0 by omega] at ha
         obtain rfl:=Option.some.inj ha;exact fun e=>hno b (uf hb) e.symm
theorem offerW_ok {s:SrvL}(hg:GoodS s)(hc:CacheOk s){m:NeedL}{f t c:Int}{l:List Int}(hw:walkW s.g m f l=some (t,c)):offerW s f l c=⟨keptS s l,offO s f l c,0⟩:=by
 unfold offerW keptS offO patO;by_cases hl:l=[]
 · subst hl; rfl
 · have h0 := all_walk hg hw hl
   rw[compC_eq hc,ud hl,ud hl,ud hl,ud (by simpa using h0)]
/-! ### Reach, open versions -/
theorem reachUp_mem {g:GrL}{s v:Int}{m:NeedL}{k:Nat}(hk:k≤g.vs.length):v∈reachUp g s m k↔∃j,j < k∧g.vs[j]? = some v∧(lab (waysP g s m) j).is=true:=by
 unfold reachUp;rw[QF];constructor
 · rintro ⟨j, h1, h2⟩
   rw[List.mem_filter,List.mem_range]at h1;refine⟨j,h1.1,?_,h1.2⟩;rw[uh,xW (by omega)]at h2;rw[xW (by omega)]; exact congrArg some h2
 · rintro ⟨j, h1, h2, h3⟩
   refine⟨j,?_,?_⟩
   · rw[List.mem_filter,List.mem_range]; exact⟨h1,h3⟩
   · rw[uh,h2]; rfl
theorem yh {g : GrL} (hg : GrOk g) {s : Int} {m : NeedL} : ∀ k, k ≤ g.vs.length → (reachUp g s m k).Pairwise (· < ·)
 | 0,_=>List.Pairwise.nil
 | k+1,hk=>by
   have ih:=yh hg (s:=s) (m:=m) k (by omega);rw[zJ];split
   · rw [List.pairwise_append]
     refine⟨ih,List.pairwise_singleton _ _,fun a ha b hb=>?_⟩;rw[uL]at hb;subst hb;obtain⟨j,h1,h2,_⟩:=(reachUp_mem (by omega)).1 ha;obtain⟨h3,h4⟩:=uc.1 h2;rw[uh,xW (by omega:k < g.vs.length)];have:=List.pairwise_iff_getElem.1 hg.inc j k h3 (by omega) h1;rw[h4]at this;exact this
   · exact ih
def openUp (s:SrvL)(f:Int)(m:NeedL)(k:Nat):List Int:=keepG s.gone (reachUp s.g f m k)
theorem yS (s:SrvL)(f:Int)(m:NeedL):openUp s f m s.g.vs.length=openP s f m:=rfl
theorem keepG_mem {gone l:List Int}{v:Int}:v∈keepG gone l↔v∈l∧v∉gone:=by
 unfold keepG;rw[List.mem_filter];simp
theorem keepG_app (gone a b:List Int):keepG gone (a++b)=keepG gone a++keepG gone b:=by unfold keepG; rw[List.filter_append]
theorem kK (s:SrvL)(f:Int)(m:NeedL){k:Nat}{v:Int}(hv:s.g.vs[k]? = some v):openUp s f m (k+1)=if (lab (waysP s.g f m) k).is=true∧v∉s.gone then openUp s f m k++[v] else openUp s f m k:=by
 unfold openUp;rw[zJ];have e:s.g.vs.getD k 0=v:=by rw[uh,hv]; rfl
 rw[e];by_cases h1:(lab (waysP s.g f m) k).is=true
 · rw [ui h1, keepG_app]
   by_cases h2:v∈s.gone
   · rw [ud (fun h => h.2 h2)]
     have:keepG s.gone [v]=[]:=by unfold keepG; simp[h2]
     rw[this,List.append_nil]
   · rw [ui ⟨h1, h2⟩]
     have:keepG s.gone [v]=[v]:=by unfold keepG; simp[h2]
     rw[this]
 · rw[ud h1,ud (fun h=>h1 h.1)]
theorem openUp_inc {s:SrvL}(hg:GrOk s.g)(f:Int)(m:NeedL){k:Nat}(hk:k≤s.g.vs.length):(openUp s f m k).Pairwise (· < ·):=(yh hg k hk).sublist List.filter_sublist
theorem lastI_mem {l:List Int}(h:l≠[]):lastI l∈l:=by
 have:=List.length_pos_iff.2 h;unfold lastI;rw[uh,xW (by omega)];exact List.getElem_mem _
theorem lastI_snoc (l:List Int)(v:Int):lastI (l++[v])=v:=by
 unfold lastI;rw[uh,ug,QH,Nat.add_sub_cancel,Qb (uV _),Nat.sub_self]; rfl
theorem lastI_max {l:List Int}(h:l.Pairwise (· < ·)):∀v∈l,v≤lastI l:=fun v hv=>by
 obtain⟨i,hi⟩:=Qm.1 hv;obtain⟨h1,h2⟩:=uc.1 hi;unfold lastI;rw[uh,xW (by omega)];show v≤l[l.length - 1]
 rw[← h2];by_cases e:i=l.length - 1
 · subst e; exact Int.le_refl _
 · have := List.pairwise_iff_getElem.1 h i (l.length - 1) h1 (by omega) (by omega)
   omega
structure Rch (g : GrL) (f : Int) (m : NeedL) (v : Int) (d : WayL) : Prop where
 fv:f∈g.vs
 at_:lab (waysP g f m) (vIx g v)=d
 is:d.is=true
 vm:v∈g.vs
 walk:walkW g m f d.l=some (v,d.c)
 path:pathP g f v m=⟨d.l,d.c,0⟩
 best:∀l c,walkW g m f l=some (v,c)→keyLe d.c d.l c l
 len:d.l.length≤16
 cost:0≤d.c
theorem walk_end {g:GrL}(hg:GrOk g){m:NeedL}{s:Int}(hs:s∈g.vs){l:List Int}{v c:Int}(h:walkW g m s l=some (v,c)):v∈g.vs:=by
 by_cases hl:l=[]
 · subst hl; rw[zv]at h; cases h; exact hs
 · rw [← List.dropLast_concat_getLast hl] at h
   obtain⟨d,k,h1,h2,h3,h4,h5,h6⟩:=kI h;rw[h5]; exact(hg.ends k (uf h3)).2
theorem rch_of {g:GrL}(hg:GrB g){f v:Int}{m:NeedL}(hf:f∈g.vs)(hv:v∈g.vs)(h:(lab (waysP g f m) (vIx g v)).is=true):Rch g f m v (lab (waysP g f m) (vIx g v)):=by
 obtain⟨ord,hr⟩:=zu hg.toGrOk m hf;have hw:=hr.opt.real _ _ (kF hv) h;refine⟨hf,rfl,h,hv,hw,?_,fun l c hl=>(hr.opt.least _ _ (kF hv) l c hl).2,(ways_bd hg f m _).1,walk_cost hg.toGrOk _ _ rfl _ _ hw⟩;unfold pathP;rw[ui ⟨hf,hv⟩,ui h]
theorem yx {g:GrL}(hg:GrB g){f v c:Int}{m:NeedL}{l:List Int}(hf:f∈g.vs)(h:walkW g m f l=some (v,c)):∃d,Rch g f m v d∧keyLe d.c d.l c l:=by
 have hv:=walk_end hg.toGrOk hf h;obtain⟨ord,hr⟩:=zu hg.toGrOk m hf;obtain⟨h1,h2⟩:=hr.opt.least _ _ (kF hv) l c h;exact⟨_,rch_of hg hf hv h1,h2⟩
theorem zQ {g:GrL}(hg:GrB g){f v:Int}{m:NeedL}(hf:f∈g.vs):v∈reachP g f m↔∃d,Rch g f m v d:=by
 rw[vP];constructor
 · rintro ⟨j, h1, h2, h3⟩
   have hj:=kR hg.toGrOk h2;exact⟨_,rch_of hg hf (uf h2) (by rw[hj]; exact h3)⟩
 · rintro ⟨d, h⟩
   exact⟨vIx g v,jt h.vm,kF h.vm,by rw[h.at_]; exact h.is⟩
theorem kV {s:SrvL}(hg:GrB s.g){f v:Int}{m:NeedL}(hf:f∈s.g.vs):v∈openP s f m↔(∃d,Rch s.g f m v d)∧v∉s.gone:=by
 unfold openP;rw[keepG_mem,zQ hg hf]
theorem offerP_ok {s:SrvL}(hg:GoodS s)(hc:CacheOk s){m:NeedL}{f t:Int}{d:WayL}(h:Rch s.g f m t d):offerP s f t m=⟨keptS s d.l,offO s f d.l d.c,0⟩:=by
 unfold offerP;rw[h.path];exact offerW_ok hg hc h.walk
theorem yY {s:SrvL}{f:Int}{m:NeedL}(hf:f∉s.g.vs):bestP s f m=⟨s,OffL.none,291⟩:=ud hf
theorem kC {s:SrvL}{f:Int}{m:NeedL}(hf:f∈s.g.vs)(h:openP s f m=[]):bestP s f m=⟨s,OffL.none,290⟩:=by unfold bestP; rw[ui hf,ui h]
theorem jA {s:SrvL}(hg:GoodS s)(hc:CacheOk s){f:Int}{m:NeedL}(hf:f∈s.g.vs)(h:openP s f m≠[]):∃d,Rch s.g f m (lastI (openP s f m)) d∧lastI (openP s f m)∉s.gone∧(∀v∈openP s f m,v≤lastI (openP s f m))∧bestP s f m=⟨keptS s d.l,offO s f d.l d.c,0⟩:=by
 obtain⟨⟨d,hd⟩,hn⟩:=(kV hg.b hf).1 (lastI_mem h);refine⟨d,hd,hn,lastI_max (openUp_inc hg.b.toGrOk f m (uV _)),?_⟩;unfold bestP;rw[ui hf,ud h];exact offerP_ok hg hc hd
/-! ### Escape -/
def escU (s:SrvL)(f:Int)(m:NeedL)(k:Nat):EscA:=(openUp s f m k).foldl (escF s f m) ⟨-1,0⟩
theorem escU_all (s:SrvL)(f:Int)(m:NeedL):escU s f m s.g.vs.length=escUp s f m (openP s f m).length:=by
 unfold escU escUp;rw[yS,Qq]
theorem xg (s:SrvL)(f:Int)(m:NeedL){k:Nat}{v:Int}(hv:s.g.vs[k]? = some v):escU s f m (k+1)=if (lab (waysP s.g f m) k).is=true∧v∉s.gone then escF s f m (escU s f m k) v else escU s f m k:=by
 unfold escU;rw[kK s f m hv];split
 · rw[List.foldl_append]; rfl
 · rfl
structure EscI (s : SrvL) (f : Int) (m : NeedL) (l : List Int) (e : EscA) : Prop where
 nil:l=[]→e=⟨-1,0⟩
 some:l≠[]→e.to∈l∧0≤e.to∧(∃d,Rch s.g f m e.to d∧d.c=e.least)∧∀v∈l,∀d,Rch s.g f m v d→e.least≤d.c
theorem Rch.uniq {g:GrL}{f v:Int}{m:NeedL}{d e:WayL}(h:Rch g f m v d)(h2:Rch g f m v e):d=e:=h.at_.symm.trans h2.at_
theorem vs_nn {s:SrvL}(hg:GoodS s):∀v∈s.g.vs,0≤v∧v≤60000:=fun v hv=>by
 have h:=hg.val;unfold validG at h;simp only[xU,xO]at h;obtain⟨i,hi⟩:=Qm.1 hv;exact yU _ _ _ _ h.2.2.1 hi
theorem yF {s : SrvL} (hg : GoodS s) {f : Int} {m : NeedL} (hf : f ∈ s.g.vs) : ∀ (k : Nat), k ≤ s.g.vs.length → EscI s f m (openUp s f m k) (escU s f m k)
 | 0,_=>⟨fun _=>rfl,fun h=>absurd rfl h⟩
 | k+1,hk=>by
   have ih:=yF hg hf (m:=m) k (by omega);obtain⟨v,hv⟩:∃v,s.g.vs[k]? = some v:=⟨_,xW (by omega)⟩
   rw[kK s f m hv,xg s f m hv];split
   · rename_i h
     have hvm:=uf hv;have hd:=rch_of hg.b hf hvm (by rw[kR hg.b.toGrOk hv]; exact h.1) (m:=m);generalize lab (waysP s.g f m) (vIx s.g v)=d at hd
     generalize escU s f m k=e at ih
     generalize openUp s f m k=l at ih
     have hv0:=(vs_nn hg v hvm).1;refine⟨fun h=>by simp at h,fun _=>?_⟩;unfold escF;rw[hd.path];by_cases hl:l=[]
     · have he := ih.nil hl
       subst hl he;rw[ui ⟨rfl,.inl (by decide)⟩];refine⟨by simp,hv0,⟨d,hd,rfl⟩,fun u hu d' hd'=>?_⟩;obtain rfl:u=v:=by simpa using hu
       rw[hd.uniq hd']; exact Int.le_refl _
     · obtain ⟨h1, h2, ⟨d0, h3, h4⟩, h5⟩ := ih.some hl
       by_cases hc:d.c≤e.least
       · rw [ui ⟨rfl, .inr hc⟩]
         refine⟨by simp,hv0,⟨d,hd,rfl⟩,fun u hu d' hd'=>?_⟩;rcases uX.1 hu with hu | hu
         · have := h5 u hu d' hd'
           show d.c≤d'.c
           omega
         · obtain rfl : u = v := by simpa using hu
           rw[hd.uniq hd']; exact Int.le_refl _
       · rw[ud (by
          rintro⟨_,h | h⟩
          · omega
          · exact hc h)]
         refine⟨List.mem_append_left _ h1,h2,⟨d0,h3,h4⟩,fun u hu d' hd'=>?_⟩;rcases uX.1 hu with hu | hu
         · exact h5 u hu d' hd'
         · obtain rfl : u = v := by simpa using hu
           rw[← hd.uniq hd']; omega
   · exact ih
theorem esc_no {s:SrvL}{f:Int}{m:NeedL}(hf:f∉s.g.vs):escP s f m=⟨s,OffL.none,291⟩:=ud hf
theorem xf {s:SrvL}{f:Int}{m:NeedL}(hf:f∈s.g.vs)(h:f∉s.gone):escP s f m=⟨s,OffL.none,1⟩:=by unfold escP; rw[ui hf,ud h]
theorem yE {s:SrvL}{f:Int}{m:NeedL}(hf:f∈s.g.vs)(h:f∈s.gone)(ho:openP s f m=[]):escP s f m=⟨s,OffL.none,290⟩:=by
 unfold escP;rw[ui hf,ui h,ho]; rfl
theorem zB {s : SrvL} (hg : GoodS s) (hc : CacheOk s) {f : Int} {m : NeedL} (hf : f ∈ s.g.vs) (h : f ∈ s.gone) (ho : openP s f m ≠ []) :
 ∃d,Rch s.g f m (escU s f m s.g.vs.length).to d∧d.c=(escU s f m s.g.vs.length).least∧(escU s f m s.g.vs.length).to∈openP s f m∧0≤(escU s f m s.g.vs.length).to∧(∀v∈openP s f m,∀d',Rch s.g f m v d'→d.c≤d'.c)∧escP s f m=⟨keptS s d.l,offO s f d.l d.c,0⟩:=by
 obtain⟨h1,h2,⟨d,h3,h4⟩,h5⟩:=(yF hg hf (m:=m) _ (uV _)).some ho;refine⟨d,h3,h4,h1,h2,fun v hv d' hd'=>by rw[h4]; exact h5 v hv d' hd',?_⟩;unfold escP;rw[ui hf,ui h,← escU_all,ud (by omega)];exact offerP_ok hg hc h3
theorem rch_ne {g:GrL}{f v:Int}{m:NeedL}{d:WayL}(h:Rch g f m v d)(hv:v≠f):d.l≠[]:=fun e=>by
 have:=h.walk;rw[e,zv]at this;exact hv (congrArg Prod.fst (Option.some.inj this)).symm
end Go.Proofs.YtcajgkfgjpfmaaaGreat
namespace Go.Proofs.YtcajgkfgjpfmaaaGreat
open Go Go.RowKit Go.Inl
theorem nodup_len {a b:List Int}(h:a.Pairwise (· < ·))(hs:∀v∈a,v∈b):a.length≤b.length :=
 List.Nodup.length_le_of_subset (h.imp fun h=>by omega) hs
theorem incV_of : ∀ (b : Int) (l : List Int), l.Pairwise (· < ·) → (∀ v ∈ l, b ≤ v ∧ v ≤ 60000) → incV b l = true
 | _,[],_,_=>rfl
 | b,x::l,h,hb=>by
   rw[List.pairwise_cons]at h;have h1:=hb x (List.mem_cons_self ..);unfold incV;rw[uK h1.1,uK h1.2,Bool.true_and,Bool.true_and];refine incV_of _ l h.2 fun v hv=>⟨?_,(hb v (List.mem_cons_of_mem _ hv)).2⟩
   have:=h.1 v hv;omega
structure LnkG (vs : List Int) (k : LnkL) : Prop where
 f:k.f∈vs
 t:k.t∈vs
 ne:k.f≠k.t
 c0:0≤k.c
 c1:k.c≤1000000
 n:rightN k.n=true
theorem lnk_iff {vs:List Int}{k:LnkL}:lnkOk vs k=true↔LnkG vs k:=by
 unfold lnkOk;simp only[xT,xR,xS,xO,xM];constructor
 · rintro ⟨⟨⟨⟨⟨a, b⟩, c⟩, d⟩, e⟩, f⟩
   exact⟨a,b,c,by omega,by omega,f⟩
 · rintro ⟨a, b, c, d, e, f⟩
   exact⟨⟨⟨⟨⟨a,b⟩,c⟩,by omega⟩,by omega⟩,f⟩
structure ValG (g : GrL) : Prop where
 nv:g.vs.length≤16
 nl:g.ls.length≤64
 inc:g.vs.Pairwise (· < ·)
 vb:∀v∈g.vs,0≤v∧v≤60000
 ls:∀k∈g.ls,LnkG g.vs k
theorem kQ {g:GrL}:validG g=true↔ValG g:=by
 unfold validG;simp only[xU,xO,Qn];constructor
 · rintro ⟨a, b, c, d⟩
   refine⟨a,b,vC _ _ c,fun v hv=>?_,fun k hk=>lnk_iff.1 (d k hk)⟩;obtain⟨i,hi⟩:=Qm.1 hv;exact yU _ _ _ _ c hi
 · rintro ⟨a, b, c, d, e⟩
   exact⟨a,b,incV_of _ _ c d,fun k hk=>lnk_iff.2 (e k hk)⟩
/-! ### Withdrawing -/
theorem ki {s:SrvL}{v:Int}(hv:v∈s.g.vs):withdrawP s v=⟨{ s with gone:=insI s.gone v },0⟩:=ui hv
theorem zt {s:SrvL}{v:Int}(hv:v∉s.g.vs):withdrawP s v=⟨s,291⟩:=ud hv
theorem withdraw_good {s:SrvL}(hg:GoodS s)(v:Int):GoodS (withdrawP s v).s:=by
 by_cases hv:v∈s.g.vs
 · rw [ki hv]
   refine⟨hg.val,hg.pl,hg.fit,jb hg.gi,fun u hu=>?_⟩;rcases jN.1 hu with rfl | h
   · exact hv
   · exact hg.gv u h
 · rw[zt hv]; exact hg
theorem withdraw_cache (s:SrvL)(v:Int)(h:s.cache=[]):(withdrawP s v).s.cache=[]:=by
 unfold withdrawP;split <;> exact h
theorem withdraw_twice {s:SrvL}(hg:GoodS s){v:Int}(hv:v∈s.g.vs):withdrawP (withdrawP s v).s v=⟨(withdrawP s v).s,0⟩:=by
 rw[ki hv];have hv2:v∈({ s with gone:=insI s.gone v }:SrvL).g.vs:=hv;rw[ki hv2];have:insI (insI s.gone v) v=insI s.gone v:=vZ (jb hg.gi) (jN.2 (.inl rfl));show(⟨⟨s.g,s.ps,insI (insI s.gone v) v,s.cache⟩,0⟩:WdR)=_
 rw[this]
theorem zW {s:SrvL}(hg:GoodS s)(hc:CacheOk s){f:Int}{m:NeedL}(h:(bestP s f m).e=0):f∈s.g.vs∧openP s f m≠[]∧(bestP s f m).o.way≠[]∧lastI (bestP s f m).o.way=lastI (openP s f m)∧lastI (bestP s f m).o.way∉s.gone:=by
 by_cases hf:f∈s.g.vs
 · by_cases h0 : openP s f m = []
   · rw[kC hf h0]at h; cases h
   · obtain ⟨d, h1, h2, h3, h4⟩ := jA hg hc hf h0
     rw[h4];have e:lastI (offO s f d.l d.c).way=lastI (openP s f m):=way_last h1.walk;refine⟨hf,h0,fun h=>(by cases h),e,?_⟩;rw[show lastI (OffR.mk (keptS s d.l) (offO s f d.l d.c) 0).o.way=lastI (openP s f m) from e];exact h2
 · rw[yY hf]at h; cases h
structure After (s t : SrvL) : Prop where
 same:SameG s t
 good:GoodS t
 cache:CacheOk t
theorem best_after {s:SrvL}(hg:GoodS s)(hc:CacheOk s)(f:Int)(m:NeedL):After s (bestP s f m).s:=by
 by_cases hf:f∈s.g.vs
 · by_cases h0 : openP s f m = []
   · rw[kC hf h0]; exact⟨.refl s,hg,hc⟩
   · obtain ⟨d, h1, h2, h3, h4⟩ := jA hg hc hf h0
     rw[h4];exact⟨keptS_same s d.l,(keptS_same s d.l).good hg,kept_ok hg hc h1.walk h1.len⟩
 · rw[yY hf]; exact⟨.refl s,hg,hc⟩
theorem same_open {s t:SrvL}(h:SameG s t)(f:Int)(m:NeedL):openP t f m=openP s f m:=by unfold openP; rw[h.g,h.gone]
theorem same_offO {s t:SrvL}(h:SameG s t)(f:Int)(l:List Int)(c:Int):offO t f l c=offO s f l c:=by unfold offO patO; rw[h.g,h.ps]
theorem same_best {s t:SrvL}(h:SameG s t)(hg:GoodS s)(hc:CacheOk s)(ht:CacheOk t)(f:Int)(m:NeedL):(bestP t f m).o=(bestP s f m).o∧(bestP t f m).e=(bestP s f m).e∧((bestP t f m).e≠0→(bestP t f m).s=t):=by
 have hgt:=h.good hg;by_cases hf:f∈s.g.vs
 · have hft : f ∈ t.g.vs := by rw [h.g]; exact hf
   by_cases h0:openP s f m=[]
   · rw [kC hf h0, kC hft (by rw [same_open h]; exact h0)]
     exact⟨rfl,rfl,fun _=>rfl⟩
   · obtain ⟨d, h1, _, _, h4⟩ := jA hg hc hf h0
     obtain⟨d',k1,_,_,k4⟩:=jA hgt ht hft (by rw[same_open h]; exact h0);rw[same_open h,h.g]at k1;obtain rfl:=h1.uniq k1;rw[h4,k4];exact⟨same_offO h f d.l d.c,rfl,fun h=>absurd rfl h⟩
 · have hft : f ∉ t.g.vs := by rw [h.g]; exact hf
   rw[yY hf,yY hft];exact⟨rfl,rfl,fun _=>rfl⟩
/-! ### Adding -/
theorem fitsE_len {a b:LnkL}{p q:PatL}(hp:FitL a p)(hq:FitL b q):fitsE (endOf a p) (endOf b q)=true:=by
 unfold fitsE endOf;dsimp only;rw[hp.in_,hp.out,hq.in_,hq.out];by_cases h1:a.f=b.f <;> by_cases h2:a.t=b.t <;> by_cases h3:a.t=b.f <;> by_cases h4:a.f=b.t <;> simp[h1,h2,h3,h4] <;> simp_all
theorem zip_mem {s:SrvL}(hg:GoodS s){z:LnkP}(hz:z∈zipLP s.g.ls s.ps):FitL z.l z.p:=by
 obtain⟨i,hi⟩:=Qm.1 hz;have hl:=(uc.1 hi).1;rw[zb hg.pl]at hl;obtain⟨p,hp,hF⟩:=ps_at hg (xW hl);rw[zq (xW hl) hp]at hi;obtain rfl:=Option.some.inj hi;exact hF
theorem add_new {s : SrvL} (hg : GoodS s) {v : Int} (hv : v ∈ s.g.vs) (hvb : ∀ u ∈ s.g.vs, 1 ≤ u ∧ u ≤ 21) (hn : s.g.vs.length ≤ 7) (hl : s.g.ls.length ≤ 14) {p : PatL} (hp : FitL ⟨v, v + 30, 1, ⟨0, 0, 0, 0, 0⟩⟩ p) :
 addP s ⟨v,v+30,1,⟨0,0,0,0,0⟩⟩ p=⟨⟨addG s ⟨v,v+30,1,⟨0,0,0,0,0⟩⟩,s.ps++[p],s.gone,[]⟩,0⟩∧GoodS ⟨addG s ⟨v,v+30,1,⟨0,0,0,0,0⟩⟩,s.ps++[p],s.gone,[]⟩:=by
 have hb:=hvb v hv;obtain⟨l,hll⟩:∃l:LnkL,(⟨v,v+30,1,⟨0,0,0,0,0⟩⟩:LnkL)=l:=⟨_,rfl⟩
 have hlf:l.f=v:=by rw[← hll]
 have hlt:l.t=v+30:=by rw[← hll]
 have hlc:l.c=1:=by rw[← hll]
 have hln:rightN l.n=true:=by rw[← hll]; rfl
 rw[hll]at hp ⊢;have hv1:validG ⟨[loE l.f l.t,hiE l.f l.t],[l]⟩=true:=by
  have e1:loE l.f l.t=v:=by unfold loE; rw[hlf,hlt,ud (by omega)]
  have e2:hiE l.f l.t=v+30:=by unfold hiE; rw[hlf,hlt,ui (by omega)]
  rw[e1,e2];refine kQ.2 ⟨by simp,by simp,?_,?_,?_⟩
  · refine List.Pairwise.cons (fun u hu => ?_) (List.pairwise_singleton _ _)
    rw[uL]at hu; omega
  · intro u hu
    rcases uq.1 hu with rfl | hu
    · omega
    · rw[uL]at hu; omega
  · intro k hk
    rw[uL]at hk;subst hk;exact⟨by rw[hlf]; simp,by rw[hlt]; simp,by omega,by omega,by omega,hln⟩
 have haf:allFit s l p=true:=by
  unfold allFit;rw[Qn];exact fun z hz=>fitsE_len (zip_mem hg hz) hp
 have hV:=kQ.1 hg.val;have hmem:∀u,u∈(addG s l).vs↔u=v+30∨u∈s.g.vs:=fun u=>by
  show u∈insI (insI s.g.vs l.f) l.t↔_
  rw[jN,jN,hlf,hlt];constructor
  · rintro (h | h | h)
    · exact .inl h
    · exact .inr (by rw[h]; exact hv)
    · exact .inr h
  · rintro (h | h)
    · exact .inl h
    · exact .inr (.inr h)
 have hv2:validG (addG s l)=true:=by
  refine kQ.2 ⟨?_,?_,jb (jb hV.inc),?_,?_⟩
  · have h1 := kv l.f s.g.vs
    have h2:=kv l.t (insI s.g.vs l.f);show(insI (insI s.g.vs l.f) l.t).length≤16
    omega
  · show (s.g.ls ++ [l]).length ≤ 64
    rw[ug,QH]; omega
  · intro u hu
    rcases(hmem u).1 hu with rfl | h
    · omega
    · exact hV.vb u h
  · intro k hk
    rcases uX.1 hk with hk | hk
    · obtain ⟨a, b, c, d, e, f⟩ := hV.ls k hk
      exact⟨(hmem _).2 (.inr a),(hmem _).2 (.inr b),c,d,e,f⟩
    · rw [uL] at hk
      subst hk;exact⟨(hmem _).2 (.inr (by rw[hlf]; exact hv)),(hmem _).2 (.inl hlt),by omega,by omega,by omega,hln⟩
 refine⟨?_,hv2,?_,?_,hg.gi,fun u hu=>(hmem u).2 (.inr (hg.gv u hu))⟩
 · unfold addP
   rw[ud (fun h=>h hp.ck),ud (by rw[hp.lif]; exact Bool.false_ne_true),ui hv1,ui haf,ui hv2]
 · show (s.ps ++ [p]).length = (s.g.ls ++ [l]).length
   rw[ug,ug,hg.pl]; rfl
 · intro i k q hk hq
   replace hk:(s.g.ls++[l])[i]? = some k:=hk;replace hq:(s.ps++[p])[i]? = some q:=hq;by_cases hi:i < s.g.ls.length
   · rw [Qc hi] at hk
     rw[Qc (by rw[hg.pl]; exact hi)]at hq;exact hg.fit i k q hk hq
   · rw [Qb (by omega)] at hk
     rw[Qb (by rw[hg.pl]; omega)]at hq;have h1:=(uc.1 hk).1;rw[QH]at h1;rw[show i - s.g.ls.length=0 by omega]at hk;rw[show i - s.ps.length=0 by rw[hg.pl]; omega]at hq;obtain rfl:=Option.some.inj hk;obtain rfl:=Option.some.inj hq;exact hp
theorem add_best {s : SrvL} (hg : GoodS s) {v : Int} (hv : v ∈ s.g.vs) (hvb : ∀ u ∈ s.g.vs, 1 ≤ u ∧ u ≤ 21) {p : PatL} (hG : GoodS ⟨addG s ⟨v, v + 30, 1, ⟨0, 0, 0, 0, 0⟩⟩, s.ps ++ [p], s.gone, []⟩) :
 (bestP ⟨addG s ⟨v,v+30,1,⟨0,0,0,0,0⟩⟩,s.ps++[p],s.gone,[]⟩ v ⟨0,0,0,0,0⟩).e=0∧(bestP ⟨addG s ⟨v,v+30,1,⟨0,0,0,0,0⟩⟩,s.ps++[p],s.gone,[]⟩ v ⟨0,0,0,0,0⟩).o.way=[v,v+30]∧(bestP ⟨addG s ⟨v,v+30,1,⟨0,0,0,0,0⟩⟩,s.ps++[p],s.gone,[]⟩ v ⟨0,0,0,0,0⟩).o.c=1:=by
 obtain⟨l,hll⟩:∃l:LnkL,(⟨v,v+30,1,⟨0,0,0,0,0⟩⟩:LnkL)=l:=⟨_,rfl⟩
 have hlf:l.f=v:=by rw[← hll]
 have hlt:l.t=v+30:=by rw[← hll]
 have hlc:l.c=1:=by rw[← hll]
 have hln:l.n=⟨0,0,0,0,0⟩:=by rw[← hll]
 rw[hll]at hG ⊢;obtain⟨U,hU⟩:∃U:SrvL,(⟨addG s l,s.ps++[p],s.gone,[]⟩:SrvL)=U:=⟨_,rfl⟩
 have hUg:U.g=addG s l:=by rw[← hU]
 have hUo:U.gone=s.gone:=by rw[← hU]
 have hUc:CacheOk U:=CacheOk.of_nil (by rw[← hU]);rw[hU]at hG ⊢;have hmem:∀u,u∈U.g.vs↔u=v+30∨u∈s.g.vs:=fun u=>by
  rw[hUg];show u∈insI (insI s.g.vs l.f) l.t↔_
  rw[jN,jN,hlf,hlt];constructor
  · rintro (h | h | h)
    · exact .inl h
    · exact .inr (by rw[h]; exact hv)
    · exact .inr h
  · rintro (h | h)
    · exact .inl h
    · exact .inr (.inr h)
 have hlast:U.g.ls[s.g.ls.length]? = some l:=by rw[hUg]; show(s.g.ls++[l])[s.g.ls.length]? = _; rw[Qb (uV _),Nat.sub_self]; rfl
 have hvU:v∈U.g.vs:=(hmem v).2 (.inr hv);have hb:=hvb v hv;have hw0:walkW U.g ⟨0,0,0,0,0⟩ v ([]++[((s.g.ls.length:Nat):Int)])=some (l.t,0+l.c):=vg (g:=U.g) (k:=l) (by rw[zv,hlf]) hlast (by rw[hln]; rfl);rw[Qz,hlt,hlc,Int.zero_add]at hw0;obtain⟨d0,h0,hle0⟩:=yx hG.b hvU hw0;have hto:v+30∈openP U v ⟨0,0,0,0,0⟩:=(kV hG.b hvU).2 ⟨⟨d0,h0⟩,fun h=>by
  rw[hUo]at h;have:=hvb _ (hg.gv _ h);omega⟩
 have hne:openP U v ⟨0,0,0,0,0⟩≠[]:=fun h=>by rw[h]at hto; cases hto
 obtain⟨d,h1,h2,h3,h4⟩:=jA hG hUc hvU hne;have hl:lastI (openP U v ⟨0,0,0,0,0⟩)=v+30:=by
  have a1:=h3 _ hto;rcases(hmem _).1 h1.vm with h | h
  · exact h
  · have:=hvb _ h; omega
 rw[hl]at h1;obtain rfl:=h0.uniq h1;have hdl:=rch_ne h0 (by omega);have hw:=h0.walk;rw[← List.dropLast_concat_getLast hdl]at hw;obtain⟨c0,k,w1,w2,w3,w4,w5,w6⟩:=kI hw;have hk:k=l:=by
  rw[hUg]at w3;replace w3:(s.g.ls++[l])[(d0.l.getLast hdl).toNat]? = some k:=w3;rcases uX.1 (uf w3) with h | h
  · have h5 := ((kQ.1 hg.val).ls k h).t
    rw[← w5]at h5;have:=hvb _ h5;omega
  · exact uL.1 h
 subst hk;rw[hlf]at w1;have hc0:=walk_cost hG.b.toGrOk _ _ rfl _ _ w1;have hd1:d0.c=1∧d0.l.length=1:=by
  have hpos:=List.length_pos_iff.2 hdl;rw[hlc]at w6;rcases Int.lt_or_le 1 d0.c with e | e
  · exact absurd (.inl e) hle0
  · have hc1 : d0.c = 1 := by omega
    refine⟨hc1,?_⟩;rcases Nat.lt_or_ge 1 d0.l.length with e2 | e2
    · exact absurd (.inr ⟨hc1.symm,.inl e2⟩) hle0
    · omega
 obtain⟨i,hi⟩:∃i,d0.l=[i]:=List.length_eq_one_iff.1 hd1.2;rw[h4];refine⟨rfl,?_,hd1.1⟩;show v::d0.l.map (lnkT U.g)=_
 rw[hi];have w3':=w3;simp only[hi,List.getLast_singleton]at w3';rw[QN,List.map_nil,lnkT_at w3',hlt]
end Go.Proofs.YtcajgkfgjpfmaaaGreat
