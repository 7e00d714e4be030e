/- Servers: the plain laws of offers: a chain of patches is composed, a cache changes nothing, what an offer leads to. Conditions: good servers. Servers: the plain laws of collecting, withdrawing and adding. Conditions: good servers. -/
import Derived.Test.YtcajgkfgjpfmaaaGreatSrv5
import Derived.Test.YtcajgkfgjpfmaaaGreatBase9
set_option linter.unusedSimpArgs false
set_option linter.unusedVariables false
namespace Go.Proofs.YtcajgkfgjpfmaaaGreat
open Go Go.RowKit Go.Inl
def lenV (v:Int):Int:=1+v*5 % 6
theorem yD (v:Int):1≤lenV v∧lenV v≤6:=by unfold lenV; omega
structure FitL (k : LnkL) (p : PatL) : Prop where
 wf:p.wf
 ck:(checkP p).2=0
 lif:p.lifted=false
 in_:p.in_=lenV k.f
 out:p.out=lenV k.t
structure GoodS (s : SrvL) : Prop where
 val:validG s.g=true
 pl:s.ps.length=s.g.ls.length
 fit:∀(i:Nat) (k:LnkL) (p:PatL),s.g.ls[i]? = some k→s.ps[i]? = some p→FitL k p
 gi:s.gone.Pairwise (· < ·)
 gv:∀v∈s.gone,v∈s.g.vs
theorem GoodS.b {s:SrvL}(h:GoodS s):GrB s.g:=vD h.val
theorem GoodS.pw {s:SrvL}(h:GoodS s):∀p∈s.ps,p.wf:=fun p hp=>by
 obtain⟨i,hi⟩:=uA.1 hp;have hl:=(xD.1 hi).1;rw[h.pl]at hl;exact(h.fit i _ p (xn hl) hi).wf
theorem GoodS.gn {s:SrvL}(h:GoodS s):s.gone.length≤16:=by
 have h1:=h.b.nv;have h2:s.gone.Nodup:=h.gi.imp (fun h=>by omega);have h3:=List.Nodup.length_le_of_subset h2 (fun v hv=>h.gv v hv);omega
theorem zZ (g : GrL) (m : NeedL) : ∀ l : List Int, l.foldl (stepW g m) none = none
 | []=>rfl
 | _::l=>zZ g m l
theorem stepW_some {g:GrL}{m:NeedL}{v c i:Int}{l:List Int}{t d:Int}(h:(i::l).foldl (stepW g m) (some (v,c))=some (t,d)):∃k,0≤i∧g.ls[i.toNat]? = some k∧k.f=v∧fitN k.n m=true∧l.foldl (stepW g m) (some (k.t,c+k.c))=some (t,d):=by
 rw[List.foldl_cons]at h;cases e:g.ls[i.toNat]? with
 | none =>
   have:stepW g m (some (v,c)) i=none:=by simp only[stepW,e]
   rw[this,zZ]at h; cases h
 | some k =>
   by_cases hc:0≤i∧k.f=v∧fitN k.n m=true
   · have : stepW g m (some (v, c)) i = some (k.t, c + k.c) := by simp only [stepW, e]; rw [xF hc]
     rw[this]at h;exact⟨k,hc.1,rfl,hc.2.1,hc.2.2,h⟩
   · have : stepW g m (some (v, c)) i = none := by simp only [stepW, e]; rw [xz hc]
     rw[this,zZ]at h; cases h
theorem ps_at {s:SrvL}(h:GoodS s){i:Nat}{k:LnkL}(hk:s.g.ls[i]? = some k):∃p,s.ps[i]? = some p∧FitL k p:=by
 have hl:=(xD.1 hk).1;obtain⟨p,hp⟩:∃p,s.ps[i]? = some p:=⟨_,xn (by rw[h.pl]; exact hl)⟩
 exact⟨p,hp,h.fit i k p hk hp⟩
theorem patsOf_cons {ps:List PatL}{i:Int}{l:List Int}{p:PatL}(h:ps[i.toNat]? = some p):patsOf ps (i::l)=p::patsOf ps l:=by
 unfold patsOf;rw[Qn,xH,h]; rfl
theorem chain_fold {s : SrvL} (h : GoodS s) {m : NeedL} : ∀ (l : List Int) (v c t d : Int), l.foldl (stepW s.g m) (some (v, c)) = some (t, d) → ChainOk (lenV v) (patsOf s.ps l)
 | [],_,_,_,_,_=>trivial
 | i::l,v,c,t,d,hw=>by
   obtain⟨k,h0,hk,hf,hn,hw2⟩:=stepW_some hw;obtain⟨p,hp,hF⟩:=ps_at h hk;have hb:=yD k.t;rw[patsOf_cons hp];refine⟨by rw[hF.in_,hf],hF.ck,hF.lif,by rw[hF.out]; omega,?_⟩;rw[hF.out];exact chain_fold h l k.t _ t d hw2
theorem chain_walk {s:SrvL}(h:GoodS s){m:NeedL}{f t d:Int}{l:List Int}(hw:walkW s.g m f l=some (t,d)):ChainOk (lenV f) (patsOf s.ps l):=chain_fold h l f 0 t d hw
theorem ne_cons {l:List Int}(h:l≠[]):∃i r,l=i::r:=by
 cases l with
 | nil=>exact absurd rfl h
 | cons i r=>exact⟨i,r,rfl⟩
theorem vz {s:SrvL}(h:GoodS s){m:NeedL}{f t d:Int}{l:List Int}(hw:walkW s.g m f l=some (t,d))(hl:l≠[]):(allP (patsOf s.ps l)).2=0:=by
 have hc:=chain_walk h hw;obtain⟨i,r,rfl⟩:=ne_cons hl;have hb:=yD f;have e:patsOf s.ps (i::r)=s.ps.getD i.toNat PatL.zero::patsOf s.ps r:=rfl;rw[e]at hc ⊢;rw[(allP_ok ⟨by omega,by omega⟩ hc).1]
structure ChainG (g : GrL) (l : List Int) : Prop where
 ne:l≠[]
 ix:∀i∈l,0≤i∧i < g.ls.length
 adj:∀(j:Nat) (a b:Int) (ka kb:LnkL),l[j]? = some a→l[j+1]? = some b→g.ls[a.toNat]? = some ka→g.ls[b.toNat]? = some kb→ka.t=kb.f
theorem walk_last {g:GrL}{m:NeedL}{s:Int}{l:List Int}{v c:Int}(h:walkW g m s l=some (v,c)){a:Int}{ka:LnkL}{j:Nat}(hj:l[j]? = some a)(hl:j+1=l.length)(hk:g.ls[a.toNat]? = some ka):ka.t=v:=by
 have hne:l≠[]:=fun e=>by subst e; simp at hl
 rw[← List.dropLast_concat_getLast hne]at h;obtain⟨d,k,h1,h2,h3,h4,h5,h6⟩:=kf h;have e:l.getLast hne=a:=by
  rw[List.getLast_eq_getElem];obtain⟨h7,h8⟩:=xD.1 hj;rw[← h8];congr 1
  omega
 rw[e,hk]at h3;rw[h5,Option.some.inj h3]
theorem walk_adj {g:GrL}{m:NeedL}{s:Int}:∀(n:Nat) (l:List Int),l.length=n→∀v c,walkW g m s l=some (v,c)→∀(j:Nat) (a b:Int) (ka kb:LnkL),l[j]? = some a→l[j+1]? = some b→g.ls[a.toNat]? = some ka→g.ls[b.toNat]? = some kb→ka.t=kb.f:=by
 refine snocI (p:=fun l=>∀v c,walkW g m s l=some (v,c)→∀(j:Nat) (a b:Int) (ka kb:LnkL),l[j]? = some a→l[j+1]? = some b→g.ls[a.toNat]? = some ka→g.ls[b.toNat]? = some kb→ka.t=kb.f) (fun v c _ j a b ka kb h=>by simp at h) ?_;intro l x ih v c h j a b ka kb ha hb hka hkb;obtain⟨d,k,h1,h2,h3,h4,h5,h6⟩:=kf h;have hjl:=(xD.1 hb).1;rw[xA,Qx]at hjl;rw[uy (by omega)]at ha;by_cases hj:j+1 < l.length
 · rw [uy hj] at hb
   exact ih _ _ h1 j a b ka kb ha hb hka hkb
 · rw [uD (by omega), show j + 1 - l.length = 0 by omega] at hb
   obtain rfl:x=b:=by simpa using hb
   rw[hkb]at h3;rw[walk_last h1 ha (by omega) hka,Option.some.inj h3]
theorem walk_chain {g:GrL}{m:NeedL}{s v c:Int}{l:List Int}(h:walkW g m s l=some (v,c))(hl:l≠[]):ChainG g l:=⟨hl,vC _ _ rfl _ _ h,walk_adj _ _ rfl _ _ h⟩
structure CacheOk (s : SrvL) : Prop where
 len:s.cache.length≤8
 each:∀d∈s.cache,ChainG s.g d.way∧d.way.length≤16∧allP (patsOf s.ps d.way)=(d.p,0)
 dif:∀(i k:Nat) (a b:MadeL),k < i→s.cache[i]? = some a→s.cache[k]? = some b→a.way≠b.way
theorem CacheOk.of_nil {s:SrvL}(h:s.cache=[]):CacheOk s:=⟨by rw[h]; exact Nat.zero_le _,(fun d hd=>by rw[h]at hd; cases hd),(fun i k a b _ ha=>by rw[h]at ha; simp at ha)⟩
theorem GoodS.srvB {s:SrvL}(h:GoodS s)(hc:CacheOk s):SrvB s:=⟨h.b,h.pl,h.pw,hc.len⟩
def findC (s:SrvL)(l:List Int):Option MadeL:=s.cache.find? fun m=>decide (m.way=l)
theorem compC_eq {s:SrvL}(hc:CacheOk s)(l:List Int):compC s l=⟨(allP (patsOf s.ps l)).1,(findC s l).isSome,(allP (patsOf s.ps l)).2⟩:=by
 unfold compC findC;cases e:s.cache.find? fun m=>decide (m.way=l) with
 | none=>rfl
 | some d =>
   have h1:=List.mem_of_find?_eq_some e;have h2:=List.find?_some e;rw[xB]at h2;have h3:=(hc.each d h1).2.2;rw[h2]at h3;rw[h3]; rfl
def patO (s:SrvL)(l:List Int):PatL:=if l=[] then PatL.zero else (allP (patsOf s.ps l)).1
def offO (s:SrvL)(f:Int)(l:List Int)(c:Int):OffL:=⟨f::l.map (lnkT s.g),patO s l,c⟩
def keptS (s:SrvL)(l:List Int):SrvL:=if l=[] then s else if (findC s l).isSome=true then s else pushC s l (allP (patsOf s.ps l)).1
structure SameG (s t : SrvL) : Prop where
 g:t.g=s.g
 ps:t.ps=s.ps
 gone:t.gone=s.gone
theorem SameG.refl (s:SrvL):SameG s s:=⟨rfl,rfl,rfl⟩
theorem keptS_same (s:SrvL)(l:List Int):SameG s (keptS s l):=by
 unfold keptS pushC;split
 · exact .refl s
 · split <;> exact⟨rfl,rfl,rfl⟩
theorem SameG.good {s t:SrvL}(h:SameG s t)(hg:GoodS s):GoodS t:=by
 obtain⟨g,ps,gone,c⟩:=s;obtain⟨g',ps',gone',c'⟩:=t;obtain⟨h1,h2,h3⟩:=h;dsimp only at h1 h2 h3;subst h1 h2 h3;exact⟨hg.val,hg.pl,hg.fit,hg.gi,hg.gv⟩
theorem SameG.trans {s t u:SrvL}(h:SameG s t)(h2:SameG t u):SameG s u:=⟨h2.g.trans h.g,h2.ps.trans h.ps,h2.gone.trans h.gone⟩
theorem kept_ok {s:SrvL}(hg:GoodS s)(hc:CacheOk s){m:NeedL}{f t c:Int}{l:List Int}(hw:walkW s.g m f l=some (t,c))(hln:l.length≤16):CacheOk (keptS s l):=by
 unfold keptS;split
 · exact hc
 · rename_i hl
   split
   · exact hc
   · rename_i hf
     have hno:∀d∈s.cache,d.way≠l:=fun d hd e=>hf (by
      unfold findC;rw[List.find?_isSome];exact⟨d,hd,un e⟩)
     have hall:=vz hg hw hl;have h8:=hc.len;have hmem:∀d∈(s.cache++([⟨l,(allP (patsOf s.ps l)).1⟩]:List MadeL)).drop (s.cache.length+1 - 8),d∈s.cache∨d=⟨l,(allP (patsOf s.ps l)).1⟩:=fun d hd=>by
      have:=List.mem_of_mem_drop hd;rcases uZ.1 this with h | h
      · exact .inl h
      · rw[uG]at h; exact .inr h
     refine⟨?_,?_,?_⟩
     · show ((s.cache ++ ([⟨l, (allP (patsOf s.ps l)).1⟩] : List MadeL)).drop (s.cache.length + 1 - 8)).length ≤ 8
       rw[uv,xA,Qx]; omega
     · intro d hd
       rcases hmem d hd with h | rfl
       · exact hc.each d h
       · exact⟨walk_chain hw hl,hln,Prod.ext rfl hall⟩
     · intro i k a b hki ha hb
       replace ha:((s.cache++([⟨l,(allP (patsOf s.ps l)).1⟩]:List MadeL)).drop (s.cache.length+1 - 8))[i]? = some a:=ha;replace hb:((s.cache++([⟨l,(allP (patsOf s.ps l)).1⟩]:List MadeL)).drop (s.cache.length+1 - 8))[k]? = some b:=hb;rw[List.getElem?_drop]at ha hb;have hil:=(xD.1 ha).1;rw[xA,Qx]at hil;rw[uy (by omega)]at hb;by_cases hi:s.cache.length+1 - 8+i < s.cache.length
       · rw [uy hi] at ha
         exact hc.dif _ _ a b (by omega) ha hb
       · rw [uD (by omega), show s.cache.length + 1 - 8 + i - s.cache.length = 0 by omega] at ha
         obtain rfl:=Option.some.inj ha;exact fun e=>hno b (xC hb) e.symm
theorem offerW_ok {s:SrvL}(hg:GoodS s)(hc:CacheOk s){m:NeedL}{f t c:Int}{l:List Int}(hw:walkW s.g m f l=some (t,c)):offerW s f l c=⟨keptS s l,offO s f l c,0⟩:=by
 unfold offerW keptS offO patO;by_cases hl:l=[]
 · subst hl; rfl
 · have h0 := vz hg hw hl
   rw[compC_eq hc,xz hl,xz hl,xz hl,xz (by simpa using h0)]
/-! ### Reach, open versions -/
theorem reachUp_mem {g:GrL}{s v:Int}{m:NeedL}{k:Nat}(hk:k≤g.vs.length):v∈reachUp g s m k↔∃j,j < k∧g.vs[j]? = some v∧(lab (waysP g s m) j).is=true:=by
 unfold reachUp;rw[Qu];constructor
 · rintro ⟨j, h1, h2⟩
   rw[List.mem_filter,List.mem_range]at h1;refine⟨j,h1.1,?_,h1.2⟩;rw[xH,xn (by omega)]at h2;rw[xn (by omega)]; exact congrArg some h2
 · rintro ⟨j, h1, h2, h3⟩
   refine⟨j,?_,?_⟩
   · rw[List.mem_filter,List.mem_range]; exact⟨h1,h3⟩
   · rw[xH,h2]; rfl
theorem reachUp_inc {g : GrL} (hg : GrOk g) {s : Int} {m : NeedL} : ∀ k, k ≤ g.vs.length → (reachUp g s m k).Pairwise (· < ·)
 | 0,_=>List.Pairwise.nil
 | k+1,hk=>by
   have ih:=reachUp_inc hg (s:=s) (m:=m) k (by omega);rw[jY];split
   · rw [List.pairwise_append]
     refine⟨ih,List.pairwise_singleton _ _,fun a ha b hb=>?_⟩;rw[uG]at hb;subst hb;obtain⟨j,h1,h2,_⟩:=(reachUp_mem (by omega)).1 ha;obtain⟨h3,h4⟩:=xD.1 h2;rw[xH,xn (by omega:k < g.vs.length)];have:=List.pairwise_iff_getElem.1 hg.inc j k h3 (by omega) h1;rw[h4]at this;exact this
   · exact ih
def openUp (s:SrvL)(f:Int)(m:NeedL)(k:Nat):List Int:=keepG s.gone (reachUp s.g f m k)
theorem zV (s:SrvL)(f:Int)(m:NeedL):openUp s f m s.g.vs.length=openP s f m:=rfl
theorem keepG_mem {gone l:List Int}{v:Int}:v∈keepG gone l↔v∈l∧v∉gone:=by
 unfold keepG;rw[List.mem_filter];simp
theorem keepG_app (gone a b:List Int):keepG gone (a++b)=keepG gone a++keepG gone b:=by unfold keepG; rw[List.filter_append]
theorem zf (s:SrvL)(f:Int)(m:NeedL){k:Nat}{v:Int}(hv:s.g.vs[k]? = some v):openUp s f m (k+1)=if (lab (waysP s.g f m) k).is=true∧v∉s.gone then openUp s f m k++[v] else openUp s f m k:=by
 unfold openUp;rw[jY];have e:s.g.vs.getD k 0=v:=by rw[xH,hv]; rfl
 rw[e];by_cases h1:(lab (waysP s.g f m) k).is=true
 · rw [xF h1, keepG_app]
   by_cases h2:v∈s.gone
   · rw [xz (fun h => h.2 h2)]
     have:keepG s.gone [v]=[]:=by unfold keepG; simp[h2]
     rw[this,List.append_nil]
   · rw [xF ⟨h1, h2⟩]
     have:keepG s.gone [v]=[v]:=by unfold keepG; simp[h2]
     rw[this]
 · rw[xz h1,xz (fun h=>h1 h.1)]
theorem openUp_inc {s:SrvL}(hg:GrOk s.g)(f:Int)(m:NeedL){k:Nat}(hk:k≤s.g.vs.length):(openUp s f m k).Pairwise (· < ·):=(reachUp_inc hg k hk).sublist List.filter_sublist
theorem lastI_mem {l:List Int}(h:l≠[]):lastI l∈l:=by
 have:=List.length_pos_iff.2 h;unfold lastI;rw[xH,xn (by omega)];exact List.getElem_mem _
theorem lastI_snoc (l:List Int)(v:Int):lastI (l++[v])=v:=by
 unfold lastI;rw[xH,xA,Qx,Nat.add_sub_cancel,uD (uL _),Nat.sub_self]; rfl
theorem lastI_max {l:List Int}(h:l.Pairwise (· < ·)):∀v∈l,v≤lastI l:=fun v hv=>by
 obtain⟨i,hi⟩:=uA.1 hv;obtain⟨h1,h2⟩:=xD.1 hi;unfold lastI;rw[xH,xn (by omega)];show v≤l[l.length - 1]
 rw[← h2];by_cases e:i=l.length - 1
 · subst e; exact Int.le_refl _
 · have := List.pairwise_iff_getElem.1 h i (l.length - 1) h1 (by omega) (by omega)
   omega
structure Rch (g : GrL) (f : Int) (m : NeedL) (v : Int) (d : WayL) : Prop where
 fv:f∈g.vs
 at_:lab (waysP g f m) (vIx g v)=d
 is:d.is=true
 vm:v∈g.vs
 walk:walkW g m f d.l=some (v,d.c)
 path:pathP g f v m=⟨d.l,d.c,0⟩
 best:∀l c,walkW g m f l=some (v,c)→keyLe d.c d.l c l
 len:d.l.length≤16
 cost:0≤d.c
theorem xc {g:GrL}(hg:GrB g){f v:Int}{m:NeedL}(hf:f∈g.vs)(hv:v∈g.vs)(h:(lab (waysP g f m) (vIx g v)).is=true):Rch g f m v (lab (waysP g f m) (vIx g v)):=by
 obtain⟨ord,hr⟩:=kw hg.toGrOk m hf;have hw:=hr.opt.real _ _ (jy hv) h;refine⟨hf,rfl,h,hv,hw,?_,fun l c hl=>(hr.opt.least _ _ (jy hv) l c hl).2,(yQ hg f m _).1,walk_cost hg.toGrOk _ _ rfl _ _ hw⟩;unfold pathP;rw[xF ⟨hf,hv⟩,xF h]
theorem reach_iff {g:GrL}(hg:GrB g){f v:Int}{m:NeedL}(hf:f∈g.vs):v∈reachP g f m↔∃d,Rch g f m v d:=by
 rw[yz];constructor
 · rintro ⟨j, h1, h2, h3⟩
   have hj:=jU hg.toGrOk h2;exact⟨_,xc hg hf (xC h2) (by rw[hj]; exact h3)⟩
 · rintro ⟨d, h⟩
   exact⟨vIx g v,jb h.vm,jy h.vm,by rw[h.at_]; exact h.is⟩
theorem open_iff {s:SrvL}(hg:GrB s.g){f v:Int}{m:NeedL}(hf:f∈s.g.vs):v∈openP s f m↔(∃d,Rch s.g f m v d)∧v∉s.gone:=by
 unfold openP;rw[keepG_mem,reach_iff hg hf]
theorem offerP_ok {s:SrvL}(hg:GoodS s)(hc:CacheOk s){m:NeedL}{f t:Int}{d:WayL}(h:Rch s.g f m t d):offerP s f t m=⟨keptS s d.l,offO s f d.l d.c,0⟩:=by
 unfold offerP;rw[h.path];exact offerW_ok hg hc h.walk
theorem vY {s:SrvL}{f:Int}{m:NeedL}(hf:f∉s.g.vs):bestP s f m=⟨s,OffL.none,291⟩:=xz hf
theorem yM {s:SrvL}{f:Int}{m:NeedL}(hf:f∈s.g.vs)(h:openP s f m=[]):bestP s f m=⟨s,OffL.none,290⟩:=by unfold bestP; rw[xF hf,xF h]
theorem yL {s:SrvL}(hg:GoodS s)(hc:CacheOk s){f:Int}{m:NeedL}(hf:f∈s.g.vs)(h:openP s f m≠[]):∃d,Rch s.g f m (lastI (openP s f m)) d∧lastI (openP s f m)∉s.gone∧(∀v∈openP s f m,v≤lastI (openP s f m))∧bestP s f m=⟨keptS s d.l,offO s f d.l d.c,0⟩:=by
 obtain⟨⟨d,hd⟩,hn⟩:=(open_iff hg.b hf).1 (lastI_mem h);refine⟨d,hd,hn,lastI_max (openUp_inc hg.b.toGrOk f m (uL _)),?_⟩;unfold bestP;rw[xF hf,xz h];exact offerP_ok hg hc hd
/-! ### Escape -/
def escU (s:SrvL)(f:Int)(m:NeedL)(k:Nat):EscA:=(openUp s f m k).foldl (escF s f m) ⟨-1,0⟩
theorem escU_all (s:SrvL)(f:Int)(m:NeedL):escU s f m s.g.vs.length=escUp s f m (openP s f m).length:=by
 unfold escU escUp;rw[zV,uC]
theorem escU_succ (s:SrvL)(f:Int)(m:NeedL){k:Nat}{v:Int}(hv:s.g.vs[k]? = some v):escU s f m (k+1)=if (lab (waysP s.g f m) k).is=true∧v∉s.gone then escF s f m (escU s f m k) v else escU s f m k:=by
 unfold escU;rw[zf s f m hv];split
 · rw[List.foldl_append]; rfl
 · rfl
structure EscI (s : SrvL) (f : Int) (m : NeedL) (l : List Int) (e : EscA) : Prop where
 nil:l=[]→e=⟨-1,0⟩
 some:l≠[]→e.to∈l∧0≤e.to∧(∃d,Rch s.g f m e.to d∧d.c=e.least)∧∀v∈l,∀d,Rch s.g f m v d→e.least≤d.c
theorem Rch.uniq {g:GrL}{f v:Int}{m:NeedL}{d e:WayL}(h:Rch g f m v d)(h2:Rch g f m v e):d=e:=h.at_.symm.trans h2.at_
theorem vs_nn {s:SrvL}(hg:GoodS s):∀v∈s.g.vs,0≤v∧v≤60000:=fun v hv=>by
 have h:=hg.val;unfold validG at h;simp only[ub,xB]at h;obtain⟨i,hi⟩:=uA.1 hv;exact kT _ _ _ _ h.2.2.1 hi
theorem zo {s : SrvL} (hg : GoodS s) {f : Int} {m : NeedL} (hf : f ∈ s.g.vs) : ∀ (k : Nat), k ≤ s.g.vs.length → EscI s f m (openUp s f m k) (escU s f m k)
 | 0,_=>⟨fun _=>rfl,fun h=>absurd rfl h⟩
 | k+1,hk=>by
   have ih:=zo hg hf (m:=m) k (by omega);obtain⟨v,hv⟩:∃v,s.g.vs[k]? = some v:=⟨_,xn (by omega)⟩
   rw[zf s f m hv,escU_succ s f m hv];split
   · rename_i h
     have hvm:=xC hv;have hd:=xc hg.b hf hvm (by rw[jU hg.b.toGrOk hv]; exact h.1) (m:=m);generalize lab (waysP s.g f m) (vIx s.g v)=d at hd
     generalize escU s f m k=e at ih
     generalize openUp s f m k=l at ih
     have hv0:=(vs_nn hg v hvm).1;refine⟨fun h=>by simp at h,fun _=>?_⟩;unfold escF;rw[hd.path];by_cases hl:l=[]
     · have he := ih.nil hl
       subst hl he;rw[xF ⟨rfl,.inl (by decide)⟩];refine⟨by simp,hv0,⟨d,hd,rfl⟩,fun u hu d' hd'=>?_⟩;obtain rfl:u=v:=by simpa using hu
       rw[hd.uniq hd']; exact Int.le_refl _
     · obtain ⟨h1, h2, ⟨d0, h3, h4⟩, h5⟩ := ih.some hl
       by_cases hc:d.c≤e.least
       · rw [xF ⟨rfl, .inr hc⟩]
         refine⟨by simp,hv0,⟨d,hd,rfl⟩,fun u hu d' hd'=>?_⟩;rcases uZ.1 hu with hu | hu
         · have := h5 u hu d' hd'
           show d.c≤d'.c
           omega
         · obtain rfl : u = v := by simpa using hu
           rw[hd.uniq hd']; exact Int.le_refl _
       · rw[xz (by
          rintro⟨_,h | h⟩
          · omega
          · exact hc h)]
         refine⟨List.mem_append_left _ h1,h2,⟨d0,h3,h4⟩,fun u hu d' hd'=>?_⟩;rcases uZ.1 hu with hu | hu
         · exact h5 u hu d' hd'
         · obtain rfl : u = v := by simpa using hu
           rw[← hd.uniq hd']; omega
   · exact ih
theorem esc_no {s:SrvL}{f:Int}{m:NeedL}(hf:f∉s.g.vs):escP s f m=⟨s,OffL.none,291⟩:=xz hf
theorem esc_arg {s:SrvL}{f:Int}{m:NeedL}(hf:f∈s.g.vs)(h:f∉s.gone):escP s f m=⟨s,OffL.none,1⟩:=by unfold escP; rw[xF hf,xz h]
theorem esc_none {s:SrvL}{f:Int}{m:NeedL}(hf:f∈s.g.vs)(h:f∈s.gone)(ho:openP s f m=[]):escP s f m=⟨s,OffL.none,290⟩:=by
 unfold escP;rw[xF hf,xF h,ho]; rfl
theorem vv {s : SrvL} (hg : GoodS s) (hc : CacheOk s) {f : Int} {m : NeedL} (hf : f ∈ s.g.vs) (h : f ∈ s.gone) (ho : openP s f m ≠ []) :
 ∃d,Rch s.g f m (escU s f m s.g.vs.length).to d∧d.c=(escU s f m s.g.vs.length).least∧(escU s f m s.g.vs.length).to∈openP s f m∧0≤(escU s f m s.g.vs.length).to∧(∀v∈openP s f m,∀d',Rch s.g f m v d'→d.c≤d'.c)∧escP s f m=⟨keptS s d.l,offO s f d.l d.c,0⟩:=by
 obtain⟨h1,h2,⟨d,h3,h4⟩,h5⟩:=(zo hg hf (m:=m) _ (uL _)).some ho;refine⟨d,h3,h4,h1,h2,fun v hv d' hd'=>by rw[h4]; exact h5 v hv d' hd',?_⟩;unfold escP;rw[xF hf,xF h,← escU_all,xz (by omega)];exact offerP_ok hg hc h3
end Go.Proofs.YtcajgkfgjpfmaaaGreat
namespace Go.Proofs.YtcajgkfgjpfmaaaGreat
open Go Go.RowKit Go.Inl
/-! ### The places of what is kept -/
structure Kept {α : Type} (Z : List α) (p : α → Bool) (J : List Nat) : Prop where
 inc:J.Pairwise (· < ·)
 lt:∀j∈J,j < Z.length
 at_:∀(q j:Nat),J[q]? = some j→(Z.filter p)[q]? = Z[j]?
 len:J.length=(Z.filter p).length
 mem:∀(j:Nat) (x:α),Z[j]? = some x→p x=true→j∈J
 ok:∀j∈J,∀x,Z[j]? = some x→p x=true
theorem kept_ex {α : Type} (p : α → Bool) : ∀ Z : List α, ∃ J, Kept Z p J
 | []=>⟨[],List.Pairwise.nil,(fun _ h=>by cases h),(fun _ _ h=>by simp at h),rfl,(fun _ _ h=>by simp at h),(fun _ h=>by cases h)⟩
 | z::Z=>by
   obtain⟨J,h⟩:=kept_ex p Z;have hinc:(J.map (· + 1)).Pairwise (· < ·):=List.pairwise_map.2 (h.inc.imp fun {a b} (hab:a < b)=>(by omega:a+1 < b+1));have hat:∀(q j:Nat),(J.map (· + 1))[q]? = some j→∃j0,J[q]? = some j0∧j=j0+1:=fun q j hq=>by
    rw[Qg]at hq;cases e:J[q]? with
    | none=>rw[e]at hq; simp at hq
    | some j0=>rw[e]at hq; exact⟨j0,rfl,(Option.some.inj hq).symm⟩
   cases hz:p z with
   | true =>
     have hf:(z::Z).filter p=z::Z.filter p:=by rw[List.filter_cons,xF hz]
     refine⟨0::J.map (· + 1),List.Pairwise.cons (fun j hj=>?_) hinc,fun j hj=>?_,fun q j hq=>?_,?_,fun j x hx hp=>?_,fun j hj x hx=>?_⟩
     · obtain⟨j0,_,rfl⟩:=Qu.1 hj; exact Nat.succ_pos _
     · rcases xK.1 hj with rfl | hj
       · exact Nat.succ_pos _
       · obtain ⟨j0, h0, rfl⟩ := Qu.1 hj
         have:=h.lt j0 h0;show j0+1 < Z.length+1
         omega
     · rw [hf]
       cases q with
       | zero => obtain rfl : 0 = j := by simpa using hq
                 rfl
       | succ q =>
         obtain⟨j0,h1,rfl⟩:=hat q j (by simpa using hq);rw[List.getElem?_cons_succ,List.getElem?_cons_succ];exact h.at_ q j0 h1
     · rw[hf,ug,uj,ug,h.len]
     · cases j with
       | zero=>exact List.mem_cons_self ..
       | succ j =>
         rw[List.getElem?_cons_succ]at hx;exact List.mem_cons_of_mem _ (Qu.2 ⟨j,h.mem j x hx hp,rfl⟩)
     · rcases xK.1 hj with rfl | hj
       · obtain rfl : z = x := by simpa using hx
         exact hz
       · obtain ⟨j0, h0, rfl⟩ := Qu.1 hj
         rw[List.getElem?_cons_succ]at hx;exact h.ok j0 h0 x hx
   | false =>
     have hf:(z::Z).filter p=Z.filter p:=by rw[List.filter_cons,xz (by rw[hz]; exact Bool.false_ne_true)]
     refine⟨J.map (· + 1),hinc,fun j hj=>?_,fun q j hq=>?_,?_,fun j x hx hp=>?_,fun j hj x hx=>?_⟩
     · obtain ⟨j0, h0, rfl⟩ := Qu.1 hj
       have:=h.lt j0 h0;show j0+1 < Z.length+1
       omega
     · rw [hf]
       obtain⟨j0,h1,rfl⟩:=hat q j hq;rw[List.getElem?_cons_succ];exact h.at_ q j0 h1
     · rw[hf,uj,h.len]
     · cases j with
       | zero =>
         obtain rfl:z=x:=by simpa using hx
         rw[hz]at hp; cases hp
       | succ j =>
         rw[List.getElem?_cons_succ]at hx;exact Qu.2 ⟨j,h.mem j x hx hp,rfl⟩
     · obtain ⟨j0, h0, rfl⟩ := Qu.1 hj
       rw[List.getElem?_cons_succ]at hx;exact h.ok j0 h0 x hx
/-! ### The versions that are collected -/
theorem insAll_mem {v : Int} : ∀ {l V : List Int}, v ∈ insAll V l ↔ v ∈ V ∨ v ∈ l
 | [],V=>by simp[insAll]
 | x::l,V=>by
   show v∈insAll (insI V x) l↔_
   rw[insAll_mem,zj,xK];constructor
   · rintro ((h | h) | h)
     · exact .inr (.inl h)
     · exact .inl h
     · exact .inr (.inr h)
   · rintro (h | h | h)
     · exact .inl (.inr h)
     · exact .inl (.inl h)
     · exact .inr h
theorem colF_mem {g : GrL} {v : Int} : ∀ {l V : List Int}, v ∈ l.foldl (fun V n => insAll V (reachP g n unlim)) V ↔ v ∈ V ∨ ∃ n ∈ l, v ∈ reachP g n unlim
 | [],V=>by simp
 | n::l,V=>by
   rw[List.foldl_cons,colF_mem,insAll_mem];constructor
   · rintro ((h | h) | ⟨x, h, h2⟩)
     · exact .inl h
     · exact .inr ⟨n,List.mem_cons_self ..,h⟩
     · exact .inr ⟨x,List.mem_cons_of_mem _ h,h2⟩
   · rintro (h | ⟨x, h, h2⟩)
     · exact .inl (.inl h)
     · rcases xK.1 h with rfl | h
       · exact .inl (.inr h2)
       · exact .inr ⟨x,h,h2⟩
theorem colV_mem {s:SrvL}{l:List Int}{v:Int}:v∈colV s l↔∃n∈l,v∈reachP s.g n unlim:=by
 unfold colV;rw[colF_mem]; simp
theorem colF_inc {g : GrL} : ∀ {l V : List Int}, V.Pairwise (· < ·) → (l.foldl (fun V n => insAll V (reachP g n unlim)) V).Pairwise (· < ·)
 | [],_,h=>h
 | n::l,V,h=>colF_inc (l:=l) (V:=insAll V (reachP g n unlim)) (insAll_inc _ h)
theorem colV_inc (s:SrvL)(l:List Int):(colV s l).Pairwise (· < ·):=colF_inc List.Pairwise.nil
theorem reach_out {g:GrL}{n:Int}(h:n∉g.vs)(m:NeedL):reachP g n m=[]:=List.eq_nil_iff_forall_not_mem.2 fun v hv=>by
 obtain⟨j,h1,h2,h3⟩:=yz.1 hv;rw[vB h,kM]at h3; cases h3
theorem reach_named {g:GrL}{n v:Int}{m:NeedL}(h:v∈reachP g n m):n∈g.vs:=by
 by_cases hn:n∈g.vs
 · exact hn
 · rw[reach_out hn]at h; cases h
theorem colV_sub {s:SrvL}(hg:GoodS s){l:List Int}{v:Int}(h:v∈colV s l):v∈s.g.vs:=by
 obtain⟨n,h1,h2⟩:=colV_mem.1 h;obtain⟨d,h3⟩:=(reach_iff hg.b (reach_named h2)).1 h2;exact h3.vm
theorem yC {a b:List Int}(h:a.Pairwise (· < ·))(hs:∀v∈a,v∈b):a.length≤b.length :=
 List.Nodup.length_le_of_subset (h.imp fun h=>by omega) hs
theorem incV_of : ∀ (b : Int) (l : List Int), l.Pairwise (· < ·) → (∀ v ∈ l, b ≤ v ∧ v ≤ 60000) → incV b l = true
 | _,[],_,_=>rfl
 | b,x::l,h,hb=>by
   rw[List.pairwise_cons]at h;have h1:=hb x (List.mem_cons_self ..);unfold incV;rw[un h1.1,un h1.2,Bool.true_and,Bool.true_and];refine incV_of _ l h.2 fun v hv=>⟨?_,(hb v (List.mem_cons_of_mem _ hv)).2⟩
   have:=h.1 v hv;omega
structure LnkG (vs : List Int) (k : LnkL) : Prop where
 f:k.f∈vs
 t:k.t∈vs
 ne:k.f≠k.t
 c0:0≤k.c
 c1:k.c≤1000000
 n:rightN k.n=true
theorem lnk_iff {vs:List Int}{k:LnkL}:lnkOk vs k=true↔LnkG vs k:=by
 unfold lnkOk;simp only[ua,uN,ue,xB,xy];constructor
 · rintro ⟨⟨⟨⟨⟨a, b⟩, c⟩, d⟩, e⟩, f⟩
   exact⟨a,b,c,by omega,by omega,f⟩
 · rintro ⟨a, b, c, d, e, f⟩
   exact⟨⟨⟨⟨⟨a,b⟩,c⟩,by omega⟩,by omega⟩,f⟩
structure ValG (g : GrL) : Prop where
 nv:g.vs.length≤16
 nl:g.ls.length≤64
 inc:g.vs.Pairwise (· < ·)
 vb:∀v∈g.vs,0≤v∧v≤60000
 ls:∀k∈g.ls,LnkG g.vs k
theorem vE {g:GrL}:validG g=true↔ValG g:=by
 unfold validG;simp only[ub,xB,Qy];constructor
 · rintro ⟨a, b, c, d⟩
   refine⟨a,b,yq _ _ c,fun v hv=>?_,fun k hk=>lnk_iff.1 (d k hk)⟩;obtain⟨i,hi⟩:=uA.1 hv;exact kT _ _ _ _ c hi
 · rintro ⟨a, b, c, d, e⟩
   exact⟨a,b,incV_of _ _ c d,fun k hk=>lnk_iff.2 (e k hk)⟩
/-! ### What is collected -/
structure ColI (s c : SrvL) (V : List Int) (J : List Nat) : Prop where
 vs:c.g.vs=V
 inc:J.Pairwise (· < ·)
 len:c.g.ls.length=J.length
 ls:∀(q j:Nat),J[q]? = some j→c.g.ls[q]? = s.g.ls[j]?
 ps:∀(q j:Nat),J[q]? = some j→c.ps[q]? = s.ps[j]?
 lt:∀j∈J,j < s.g.ls.length
 mem:∀(j:Nat) (k:LnkL),s.g.ls[j]? = some k→k.f∈V→k.t∈V→j∈J
 ok:∀j∈J,∀k,s.g.ls[j]? = some k→k.f∈V∧k.t∈V
 pl:c.ps.length=J.length
theorem col_i {s:SrvL}(hg:GoodS s)(l:List Int):∃J,ColI s (collectP s l) (colV s l) J:=by
 obtain⟨J,h⟩:=kept_ex (fun x:LnkP=>decide (x.l.f∈colV s l) && decide (x.l.t∈colV s l)) (zipLP s.g.ls s.ps);have hl:=kH hg.pl;have zat:∀(j:Nat) (k:LnkL),s.g.ls[j]? = some k→∃p,s.ps[j]? = some p∧(zipLP s.g.ls s.ps)[j]? = some ⟨k,p⟩:=fun j k hk=>by
  obtain⟨p,hp,_⟩:=ps_at hg hk;exact⟨p,hp,kY hk hp⟩
 have jat:∀(q j:Nat),J[q]? = some j→∃k p,s.g.ls[j]? = some k∧s.ps[j]? = some p∧(keepZ (colV s l) (zipLP s.g.ls s.ps))[q]? = some ⟨k,p⟩:=fun q j hq=>by
  have h1:=h.lt j (xC hq);obtain⟨p,hp,hz⟩:=zat j _ (xn (by omega:j < s.g.ls.length));exact⟨_,p,xn (by omega),hp,by unfold keepZ; rw[h.at_ q j hq]; exact hz⟩
 refine⟨J,rfl,h.inc,?_,fun q j hq=>?_,fun q j hq=>?_,fun j hj=>?_,fun j k hk h1 h2=>?_,fun j hj k hk=>?_,?_⟩
 · show ((keepZ (colV s l) (zipLP s.g.ls s.ps)).map (·.l)).length = _
   rw[uj]; exact h.len.symm
 · obtain ⟨k, p, h1, h2, h3⟩ := jat q j hq
   show((keepZ (colV s l) (zipLP s.g.ls s.ps)).map (·.l))[q]? = _
   rw[Qg,h3,h1]; rfl
 · obtain ⟨k, p, h1, h2, h3⟩ := jat q j hq
   show((keepZ (colV s l) (zipLP s.g.ls s.ps)).map (·.p))[q]? = _
   rw[Qg,h3,h2]; rfl
 · have:=h.lt j hj; omega
 · obtain ⟨p, hp, hz⟩ := zat j k hk
   exact h.mem j _ hz (by simp[h1,h2])
 · obtain ⟨p, hp, hz⟩ := zat j k hk
   simpa using h.ok j hj _ hz
 · show ((keepZ (colV s l) (zipLP s.g.ls s.ps)).map (·.p)).length = _
   rw[uj]; exact h.len.symm
theorem ColI.lnk {s c:SrvL}{V:List Int}{J:List Nat}(h:ColI s c V J){q:Nat}{k:LnkL}(hk:c.g.ls[q]? = some k):∃j,J[q]? = some j∧s.g.ls[j]? = some k:=by
 have h1:=(xD.1 hk).1;rw[h.len]at h1;exact⟨_,xn h1,by rw[← h.ls q _ (xn h1)]; exact hk⟩
theorem inG_mem {V l:List Int}{v:Int}:v∈inG V l↔v∈l∧v∈V:=by
 unfold inG;rw[List.mem_filter]; simp
theorem col_good {s:SrvL}(hg:GoodS s)(l:List Int):GoodS (collectP s l):=by
 obtain⟨J,h⟩:=col_i hg l;have hv:=vE.1 hg.val;refine⟨vE.2 ⟨?_,?_,?_,?_,?_⟩,?_,?_,?_,?_⟩
 · have := yC (colV_inc s l) (fun v hv => colV_sub hg hv)
   show(colV s l).length≤16
   have:=hv.nv;omega
 · have h1:=yC (a:=J.map fun(j:Nat)=>(j:Int)) (b:=(List.range s.g.ls.length).map fun(j:Nat)=>(j:Int)) (List.pairwise_map.2 (h.inc.imp fun {a b} (hab:a < b)=>by omega)) (fun v hv=>by
    obtain⟨j,h1,rfl⟩:=Qu.1 hv;exact Qu.2 ⟨j,List.mem_range.2 (h.lt j h1),rfl⟩)
   rw[uj,uj,List.length_range]at h1;have h2:=h.len;have:=hv.nl;omega
 · exact colV_inc s l
 · exact fun v hvm=>hv.vb v (colV_sub hg hvm)
 · intro k hk
   obtain⟨q,hq⟩:=uA.1 hk;obtain⟨j,h1,h2⟩:=h.lnk hq;obtain⟨h3,h4⟩:=h.ok j (xC h1) k h2;obtain⟨_,_,a,b,c,d⟩:=hv.ls k (xC h2);exact⟨h3,h4,a,b,c,d⟩
 · rw[h.pl,h.len]
 · intro i k p hk hp
   obtain⟨j,h1,h2⟩:=h.lnk hk;rw[h.ps i j h1]at hp;exact hg.fit j k p h2 hp
 · exact hg.gi.sublist List.filter_sublist
 · intro v hvm
   exact(inG_mem.1 hvm).2
theorem col_nil (s:SrvL):collectP s []=SrvL.none:=by
 have hz:∀Z:List LnkP,keepZ [] Z=[]:=fun Z=>List.filter_eq_nil_iff.2 fun x _=>by simp
 have hg:∀l:List Int,inG [] l=[]:=fun l=>List.filter_eq_nil_iff.2 fun x _=>by simp
 show(⟨⟨[],(keepZ [] (zipLP s.g.ls s.ps)).map (·.l)⟩,(keepZ [] (zipLP s.g.ls s.ps)).map (·.p),inG [] s.gone,[]⟩:SrvL)=_
 rw[hz,hg]; rfl
/-! ### Withdrawing -/
theorem withdraw_ok {s:SrvL}{v:Int}(hv:v∈s.g.vs):withdrawP s v=⟨{ s with gone:=insI s.gone v },0⟩:=xF hv
theorem withdraw_no {s:SrvL}{v:Int}(hv:v∉s.g.vs):withdrawP s v=⟨s,291⟩:=xz hv
theorem withdraw_good {s:SrvL}(hg:GoodS s)(v:Int):GoodS (withdrawP s v).s:=by
 by_cases hv:v∈s.g.vs
 · rw [withdraw_ok hv]
   refine⟨hg.val,hg.pl,hg.fit,jg hg.gi,fun u hu=>?_⟩;rcases zj.1 hu with rfl | h
   · exact hv
   · exact hg.gv u h
 · rw[withdraw_no hv]; exact hg
theorem withdraw_cache (s:SrvL)(v:Int)(h:s.cache=[]):(withdrawP s v).s.cache=[]:=by
 unfold withdrawP;split <;> exact h
structure After (s t : SrvL) : Prop where
 same:SameG s t
 good:GoodS t
 cache:CacheOk t
theorem best_after {s:SrvL}(hg:GoodS s)(hc:CacheOk s)(f:Int)(m:NeedL):After s (bestP s f m).s:=by
 by_cases hf:f∈s.g.vs
 · by_cases h0 : openP s f m = []
   · rw[yM hf h0]; exact⟨.refl s,hg,hc⟩
   · obtain ⟨d, h1, h2, h3, h4⟩ := yL hg hc hf h0
     rw[h4];exact⟨keptS_same s d.l,(keptS_same s d.l).good hg,kept_ok hg hc h1.walk h1.len⟩
 · rw[vY hf]; exact⟨.refl s,hg,hc⟩
end Go.Proofs.YtcajgkfgjpfmaaaGreat
