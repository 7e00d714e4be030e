/- Servers: the plain laws of offers: a chain of patches is composed, a cache changes nothing, what an offer leads to. Conditions: good servers. Servers: the plain laws of collecting, withdrawing and adding. Conditions: good servers. -/
import Derived.Test.YtcajgkfgjpfmaaaGreatSrv5
import Derived.Test.YtcajgkfgjpfmaaaGreatBase9
set_option linter.unusedSimpArgs false
set_option linter.unusedVariables false
namespace Go.Proofs.YtcajgkfgjpfmaaaGreat
open Go Go.RowKit Go.Inl
def lenV (v:Int):Int:=1+v*5 % 6
theorem vA (v:Int):1≤lenV v∧lenV v≤6:=by unfold lenV; omega
structure FitL (k : LnkL) (p : PatL) : Prop where
 wf:p.wf
 ck:(checkP p).2=0
 lif:p.lifted=false
 in_:p.in_=lenV k.f
 out:p.out=lenV k.t
structure GoodS (s : SrvL) : Prop where
 val:validG s.g=true
 pl:s.ps.length=s.g.ls.length
 fit:∀(i:Nat) (k:LnkL) (p:PatL),s.g.ls[i]? = some k→s.ps[i]? = some p→FitL k p
 gi:s.gone.Pairwise (· < ·)
 gv:∀v∈s.gone,v∈s.g.vs
theorem GoodS.b {s:SrvL}(h:GoodS s):GrB s.g:=valid_b h.val
theorem GoodS.pw {s:SrvL}(h:GoodS s):∀p∈s.ps,p.wf:=fun p hp=>by
 obtain⟨i,hi⟩:=Qm.1 hp;have hl:=(uc.1 hi).1;rw[h.pl]at hl;exact(h.fit i _ p (xW hl) hi).wf
theorem GoodS.gn {s:SrvL}(h:GoodS s):s.gone.length≤16:=by
 have h1:=h.b.nv;have h2:s.gone.Nodup:=h.gi.imp (fun h=>by omega);have h3:=List.Nodup.length_le_of_subset h2 (fun v hv=>h.gv v hv);omega
theorem xF (g : GrL) (m : NeedL) : ∀ l : List Int, l.foldl (stepW g m) none = none
 | []=>rfl
 | _::l=>xF g m l
theorem zd {g:GrL}{m:NeedL}{v c i:Int}{l:List Int}{t d:Int}(h:(i::l).foldl (stepW g m) (some (v,c))=some (t,d)):∃k,0≤i∧g.ls[i.toNat]? = some k∧k.f=v∧fitN k.n m=true∧l.foldl (stepW g m) (some (k.t,c+k.c))=some (t,d):=by
 rw[List.foldl_cons]at h;cases e:g.ls[i.toNat]? with
 | none =>
   have:stepW g m (some (v,c)) i=none:=by simp only[stepW,e]
   rw[this,xF]at h; cases h
 | some k =>
   by_cases hc:0≤i∧k.f=v∧fitN k.n m=true
   · have : stepW g m (some (v, c)) i = some (k.t, c + k.c) := by simp only [stepW, e]; rw [ui hc]
     rw[this]at h;exact⟨k,hc.1,rfl,hc.2.1,hc.2.2,h⟩
   · have : stepW g m (some (v, c)) i = none := by simp only [stepW, e]; rw [ud hc]
     rw[this,xF]at h; cases h
theorem ps_at {s:SrvL}(h:GoodS s){i:Nat}{k:LnkL}(hk:s.g.ls[i]? = some k):∃p,s.ps[i]? = some p∧FitL k p:=by
 have hl:=(uc.1 hk).1;obtain⟨p,hp⟩:∃p,s.ps[i]? = some p:=⟨_,xW (by rw[h.pl]; exact hl)⟩
 exact⟨p,hp,h.fit i k p hk hp⟩
theorem vw {ps:List PatL}{i:Int}{l:List Int}{p:PatL}(h:ps[i.toNat]? = some p):patsOf ps (i::l)=p::patsOf ps l:=by
 unfold patsOf;rw[QN,uh,h]; rfl
theorem chain_fold {s : SrvL} (h : GoodS s) {m : NeedL} : ∀ (l : List Int) (v c t d : Int), l.foldl (stepW s.g m) (some (v, c)) = some (t, d) → ChainOk (lenV v) (patsOf s.ps l)
 | [],_,_,_,_,_=>trivial
 | i::l,v,c,t,d,hw=>by
   obtain⟨k,h0,hk,hf,hn,hw2⟩:=zd hw;obtain⟨p,hp,hF⟩:=ps_at h hk;have hb:=vA k.t;rw[vw hp];refine⟨by rw[hF.in_,hf],hF.ck,hF.lif,by rw[hF.out]; omega,?_⟩;rw[hF.out];exact chain_fold h l k.t _ t d hw2
theorem chain_walk {s:SrvL}(h:GoodS s){m:NeedL}{f t d:Int}{l:List Int}(hw:walkW s.g m f l=some (t,d)):ChainOk (lenV f) (patsOf s.ps l):=chain_fold h l f 0 t d hw
theorem ne_cons {l:List Int}(h:l≠[]):∃i r,l=i::r:=by
 cases l with
 | nil=>exact absurd rfl h
 | cons i r=>exact⟨i,r,rfl⟩
theorem all_walk {s:SrvL}(h:GoodS s){m:NeedL}{f t d:Int}{l:List Int}(hw:walkW s.g m f l=some (t,d))(hl:l≠[]):(allP (patsOf s.ps l)).2=0:=by
 have hc:=chain_walk h hw;obtain⟨i,r,rfl⟩:=ne_cons hl;have hb:=vA f;have e:patsOf s.ps (i::r)=s.ps.getD i.toNat PatL.zero::patsOf s.ps r:=rfl;rw[e]at hc ⊢;rw[(allP_ok ⟨by omega,by omega⟩ hc).1]
structure ChainG (g : GrL) (l : List Int) : Prop where
 ne:l≠[]
 ix:∀i∈l,0≤i∧i < g.ls.length
 adj:∀(j:Nat) (a b:Int) (ka kb:LnkL),l[j]? = some a→l[j+1]? = some b→g.ls[a.toNat]? = some ka→g.ls[b.toNat]? = some kb→ka.t=kb.f
structure CacheOk (s : SrvL) : Prop where
 len:s.cache.length≤8
 each:∀d∈s.cache,ChainG s.g d.way∧d.way.length≤16∧allP (patsOf s.ps d.way)=(d.p,0)
 dif:∀(i k:Nat) (a b:MadeL),k < i→s.cache[i]? = some a→s.cache[k]? = some b→a.way≠b.way
theorem CacheOk.of_nil {s:SrvL}(h:s.cache=[]):CacheOk s:=⟨by rw[h]; exact Nat.zero_le _,(fun d hd=>by rw[h]at hd; cases hd),(fun i k a b _ ha=>by rw[h]at ha; simp at ha)⟩
theorem GoodS.srvB {s:SrvL}(h:GoodS s)(hc:CacheOk s):SrvB s:=⟨h.b,h.pl,h.pw,hc.len⟩
def findC (s:SrvL)(l:List Int):Option MadeL:=s.cache.find? fun m=>decide (m.way=l)
theorem compC_eq {s:SrvL}(hc:CacheOk s)(l:List Int):compC s l=⟨(allP (patsOf s.ps l)).1,(findC s l).isSome,(allP (patsOf s.ps l)).2⟩:=by
 unfold compC findC;cases e:s.cache.find? fun m=>decide (m.way=l) with
 | none=>rfl
 | some d =>
   have h1:=List.mem_of_find?_eq_some e;have h2:=List.find?_some e;rw[xO]at h2;have h3:=(hc.each d h1).2.2;rw[h2]at h3;rw[h3]; rfl
def patO (s:SrvL)(l:List Int):PatL:=if l=[] then PatL.zero else (allP (patsOf s.ps l)).1
def offO (s:SrvL)(f:Int)(l:List Int)(c:Int):OffL:=⟨f::l.map (lnkT s.g),patO s l,c⟩
def keptS (s:SrvL)(l:List Int):SrvL:=if l=[] then s else if (findC s l).isSome=true then s else pushC s l (allP (patsOf s.ps l)).1
theorem offerW_ok {s:SrvL}(hg:GoodS s)(hc:CacheOk s){m:NeedL}{f t c:Int}{l:List Int}(hw:walkW s.g m f l=some (t,c)):offerW s f l c=⟨keptS s l,offO s f l c,0⟩:=by
 unfold offerW keptS offO patO;by_cases hl:l=[]
 · subst hl; rfl
 · have h0 := all_walk hg hw hl
   rw[compC_eq hc,ud hl,ud hl,ud hl,ud (by simpa using h0)]
/-! ### Reach, open versions -/
theorem reachUp_mem {g:GrL}{s v:Int}{m:NeedL}{k:Nat}(hk:k≤g.vs.length):v∈reachUp g s m k↔∃j,j < k∧g.vs[j]? = some v∧(lab (waysP g s m) j).is=true:=by
 unfold reachUp;rw[QF];constructor
 · rintro ⟨j, h1, h2⟩
   rw[List.mem_filter,List.mem_range]at h1;refine⟨j,h1.1,?_,h1.2⟩;rw[uh,xW (by omega)]at h2;rw[xW (by omega)]; exact congrArg some h2
 · rintro ⟨j, h1, h2, h3⟩
   refine⟨j,?_,?_⟩
   · rw[List.mem_filter,List.mem_range]; exact⟨h1,h3⟩
   · rw[uh,h2]; rfl
theorem yh {g : GrL} (hg : GrOk g) {s : Int} {m : NeedL} : ∀ k, k ≤ g.vs.length → (reachUp g s m k).Pairwise (· < ·)
 | 0,_=>List.Pairwise.nil
 | k+1,hk=>by
   have ih:=yh hg (s:=s) (m:=m) k (by omega);rw[zJ];split
   · rw [List.pairwise_append]
     refine⟨ih,List.pairwise_singleton _ _,fun a ha b hb=>?_⟩;rw[uL]at hb;subst hb;obtain⟨j,h1,h2,_⟩:=(reachUp_mem (by omega)).1 ha;obtain⟨h3,h4⟩:=uc.1 h2;rw[uh,xW (by omega:k < g.vs.length)];have:=List.pairwise_iff_getElem.1 hg.inc j k h3 (by omega) h1;rw[h4]at this;exact this
   · exact ih
def openUp (s:SrvL)(f:Int)(m:NeedL)(k:Nat):List Int:=keepG s.gone (reachUp s.g f m k)
theorem yS (s:SrvL)(f:Int)(m:NeedL):openUp s f m s.g.vs.length=openP s f m:=rfl
theorem keepG_mem {gone l:List Int}{v:Int}:v∈keepG gone l↔v∈l∧v∉gone:=by
 unfold keepG;rw[List.mem_filter];simp
theorem keepG_app (gone a b:List Int):keepG gone (a++b)=keepG gone a++keepG gone b:=by unfold keepG; rw[List.filter_append]
theorem kK (s:SrvL)(f:Int)(m:NeedL){k:Nat}{v:Int}(hv:s.g.vs[k]? = some v):openUp s f m (k+1)=if (lab (waysP s.g f m) k).is=true∧v∉s.gone then openUp s f m k++[v] else openUp s f m k:=by
 unfold openUp;rw[zJ];have e:s.g.vs.getD k 0=v:=by rw[uh,hv]; rfl
 rw[e];by_cases h1:(lab (waysP s.g f m) k).is=true
 · rw [ui h1, keepG_app]
   by_cases h2:v∈s.gone
   · rw [ud (fun h => h.2 h2)]
     have:keepG s.gone [v]=[]:=by unfold keepG; simp[h2]
     rw[this,List.append_nil]
   · rw [ui ⟨h1, h2⟩]
     have:keepG s.gone [v]=[v]:=by unfold keepG; simp[h2]
     rw[this]
 · rw[ud h1,ud (fun h=>h1 h.1)]
theorem openUp_inc {s:SrvL}(hg:GrOk s.g)(f:Int)(m:NeedL){k:Nat}(hk:k≤s.g.vs.length):(openUp s f m k).Pairwise (· < ·):=(yh hg k hk).sublist List.filter_sublist
theorem lastI_mem {l:List Int}(h:l≠[]):lastI l∈l:=by
 have:=List.length_pos_iff.2 h;unfold lastI;rw[uh,xW (by omega)];exact List.getElem_mem _
theorem lastI_max {l:List Int}(h:l.Pairwise (· < ·)):∀v∈l,v≤lastI l:=fun v hv=>by
 obtain⟨i,hi⟩:=Qm.1 hv;obtain⟨h1,h2⟩:=uc.1 hi;unfold lastI;rw[uh,xW (by omega)];show v≤l[l.length - 1]
 rw[← h2];by_cases e:i=l.length - 1
 · subst e; exact Int.le_refl _
 · have := List.pairwise_iff_getElem.1 h i (l.length - 1) h1 (by omega) (by omega)
   omega
structure Rch (g : GrL) (f : Int) (m : NeedL) (v : Int) (d : WayL) : Prop where
 fv:f∈g.vs
 at_:lab (waysP g f m) (vIx g v)=d
 is:d.is=true
 vm:v∈g.vs
 walk:walkW g m f d.l=some (v,d.c)
 path:pathP g f v m=⟨d.l,d.c,0⟩
 best:∀l c,walkW g m f l=some (v,c)→keyLe d.c d.l c l
 len:d.l.length≤16
 cost:0≤d.c
theorem walk_end {g:GrL}(hg:GrOk g){m:NeedL}{s:Int}(hs:s∈g.vs){l:List Int}{v c:Int}(h:walkW g m s l=some (v,c)):v∈g.vs:=by
 by_cases hl:l=[]
 · subst hl; rw[zv]at h; cases h; exact hs
 · rw [← List.dropLast_concat_getLast hl] at h
   obtain⟨d,k,h1,h2,h3,h4,h5,h6⟩:=kI h;rw[h5]; exact(hg.ends k (uf h3)).2
theorem rch_of {g:GrL}(hg:GrB g){f v:Int}{m:NeedL}(hf:f∈g.vs)(hv:v∈g.vs)(h:(lab (waysP g f m) (vIx g v)).is=true):Rch g f m v (lab (waysP g f m) (vIx g v)):=by
 obtain⟨ord,hr⟩:=zu hg.toGrOk m hf;have hw:=hr.opt.real _ _ (kF hv) h;refine⟨hf,rfl,h,hv,hw,?_,fun l c hl=>(hr.opt.least _ _ (kF hv) l c hl).2,(ways_bd hg f m _).1,walk_cost hg.toGrOk _ _ rfl _ _ hw⟩;unfold pathP;rw[ui ⟨hf,hv⟩,ui h]
theorem yx {g:GrL}(hg:GrB g){f v c:Int}{m:NeedL}{l:List Int}(hf:f∈g.vs)(h:walkW g m f l=some (v,c)):∃d,Rch g f m v d∧keyLe d.c d.l c l:=by
 have hv:=walk_end hg.toGrOk hf h;obtain⟨ord,hr⟩:=zu hg.toGrOk m hf;obtain⟨h1,h2⟩:=hr.opt.least _ _ (kF hv) l c h;exact⟨_,rch_of hg hf hv h1,h2⟩
theorem zQ {g:GrL}(hg:GrB g){f v:Int}{m:NeedL}(hf:f∈g.vs):v∈reachP g f m↔∃d,Rch g f m v d:=by
 rw[vP];constructor
 · rintro ⟨j, h1, h2, h3⟩
   have hj:=kR hg.toGrOk h2;exact⟨_,rch_of hg hf (uf h2) (by rw[hj]; exact h3)⟩
 · rintro ⟨d, h⟩
   exact⟨vIx g v,jt h.vm,kF h.vm,by rw[h.at_]; exact h.is⟩
theorem kV {s:SrvL}(hg:GrB s.g){f v:Int}{m:NeedL}(hf:f∈s.g.vs):v∈openP s f m↔(∃d,Rch s.g f m v d)∧v∉s.gone:=by
 unfold openP;rw[keepG_mem,zQ hg hf]
theorem offerP_ok {s:SrvL}(hg:GoodS s)(hc:CacheOk s){m:NeedL}{f t:Int}{d:WayL}(h:Rch s.g f m t d):offerP s f t m=⟨keptS s d.l,offO s f d.l d.c,0⟩:=by
 unfold offerP;rw[h.path];exact offerW_ok hg hc h.walk
theorem yY {s:SrvL}{f:Int}{m:NeedL}(hf:f∉s.g.vs):bestP s f m=⟨s,OffL.none,291⟩:=ud hf
theorem kC {s:SrvL}{f:Int}{m:NeedL}(hf:f∈s.g.vs)(h:openP s f m=[]):bestP s f m=⟨s,OffL.none,290⟩:=by unfold bestP; rw[ui hf,ui h]
theorem jA {s:SrvL}(hg:GoodS s)(hc:CacheOk s){f:Int}{m:NeedL}(hf:f∈s.g.vs)(h:openP s f m≠[]):∃d,Rch s.g f m (lastI (openP s f m)) d∧lastI (openP s f m)∉s.gone∧(∀v∈openP s f m,v≤lastI (openP s f m))∧bestP s f m=⟨keptS s d.l,offO s f d.l d.c,0⟩:=by
 obtain⟨⟨d,hd⟩,hn⟩:=(kV hg.b hf).1 (lastI_mem h);refine⟨d,hd,hn,lastI_max (openUp_inc hg.b.toGrOk f m (uV _)),?_⟩;unfold bestP;rw[ui hf,ud h];exact offerP_ok hg hc hd
/-! ### Escape -/
def escU (s:SrvL)(f:Int)(m:NeedL)(k:Nat):EscA:=(openUp s f m k).foldl (escF s f m) ⟨-1,0⟩
theorem escU_all (s:SrvL)(f:Int)(m:NeedL):escU s f m s.g.vs.length=escUp s f m (openP s f m).length:=by
 unfold escU escUp;rw[yS,Qq]
theorem xg (s:SrvL)(f:Int)(m:NeedL){k:Nat}{v:Int}(hv:s.g.vs[k]? = some v):escU s f m (k+1)=if (lab (waysP s.g f m) k).is=true∧v∉s.gone then escF s f m (escU s f m k) v else escU s f m k:=by
 unfold escU;rw[kK s f m hv];split
 · rw[List.foldl_append]; rfl
 · rfl
structure EscI (s : SrvL) (f : Int) (m : NeedL) (l : List Int) (e : EscA) : Prop where
 nil:l=[]→e=⟨-1,0⟩
 some:l≠[]→e.to∈l∧0≤e.to∧(∃d,Rch s.g f m e.to d∧d.c=e.least)∧∀v∈l,∀d,Rch s.g f m v d→e.least≤d.c
theorem Rch.uniq {g:GrL}{f v:Int}{m:NeedL}{d e:WayL}(h:Rch g f m v d)(h2:Rch g f m v e):d=e:=h.at_.symm.trans h2.at_
theorem vs_nn {s:SrvL}(hg:GoodS s):∀v∈s.g.vs,0≤v∧v≤60000:=fun v hv=>by
 have h:=hg.val;unfold validG at h;simp only[xU,xO]at h;obtain⟨i,hi⟩:=Qm.1 hv;exact yU _ _ _ _ h.2.2.1 hi
theorem yF {s : SrvL} (hg : GoodS s) {f : Int} {m : NeedL} (hf : f ∈ s.g.vs) : ∀ (k : Nat), k ≤ s.g.vs.length → EscI s f m (openUp s f m k) (escU s f m k)
 | 0,_=>⟨fun _=>rfl,fun h=>absurd rfl h⟩
 | k+1,hk=>by
   have ih:=yF hg hf (m:=m) k (by omega);obtain⟨v,hv⟩:∃v,s.g.vs[k]? = some v:=⟨_,xW (by omega)⟩
   rw[kK s f m hv,xg s f m hv];split
   · rename_i h
     have hvm:=uf hv;have hd:=rch_of hg.b hf hvm (by rw[kR hg.b.toGrOk hv]; exact h.1) (m:=m);generalize lab (waysP s.g f m) (vIx s.g v)=d at hd
     generalize escU s f m k=e at ih
     generalize openUp s f m k=l at ih
     have hv0:=(vs_nn hg v hvm).1;refine⟨fun h=>by simp at h,fun _=>?_⟩;unfold escF;rw[hd.path];by_cases hl:l=[]
     · have he := ih.nil hl
       subst hl he;rw[ui ⟨rfl,.inl (by decide)⟩];refine⟨by simp,hv0,⟨d,hd,rfl⟩,fun u hu d' hd'=>?_⟩;obtain rfl:u=v:=by simpa using hu
       rw[hd.uniq hd']; exact Int.le_refl _
     · obtain ⟨h1, h2, ⟨d0, h3, h4⟩, h5⟩ := ih.some hl
       by_cases hc:d.c≤e.least
       · rw [ui ⟨rfl, .inr hc⟩]
         refine⟨by simp,hv0,⟨d,hd,rfl⟩,fun u hu d' hd'=>?_⟩;rcases uX.1 hu with hu | hu
         · have := h5 u hu d' hd'
           show d.c≤d'.c
           omega
         · obtain rfl : u = v := by simpa using hu
           rw[hd.uniq hd']; exact Int.le_refl _
       · rw[ud (by
          rintro⟨_,h | h⟩
          · omega
          · exact hc h)]
         refine⟨List.mem_append_left _ h1,h2,⟨d0,h3,h4⟩,fun u hu d' hd'=>?_⟩;rcases uX.1 hu with hu | hu
         · exact h5 u hu d' hd'
         · obtain rfl : u = v := by simpa using hu
           rw[← hd.uniq hd']; omega
   · exact ih
theorem esc_no {s:SrvL}{f:Int}{m:NeedL}(hf:f∉s.g.vs):escP s f m=⟨s,OffL.none,291⟩:=ud hf
theorem xf {s:SrvL}{f:Int}{m:NeedL}(hf:f∈s.g.vs)(h:f∉s.gone):escP s f m=⟨s,OffL.none,1⟩:=by unfold escP; rw[ui hf,ud h]
theorem yE {s:SrvL}{f:Int}{m:NeedL}(hf:f∈s.g.vs)(h:f∈s.gone)(ho:openP s f m=[]):escP s f m=⟨s,OffL.none,290⟩:=by
 unfold escP;rw[ui hf,ui h,ho]; rfl
theorem zB {s : SrvL} (hg : GoodS s) (hc : CacheOk s) {f : Int} {m : NeedL} (hf : f ∈ s.g.vs) (h : f ∈ s.gone) (ho : openP s f m ≠ []) :
 ∃d,Rch s.g f m (escU s f m s.g.vs.length).to d∧d.c=(escU s f m s.g.vs.length).least∧(escU s f m s.g.vs.length).to∈openP s f m∧0≤(escU s f m s.g.vs.length).to∧(∀v∈openP s f m,∀d',Rch s.g f m v d'→d.c≤d'.c)∧escP s f m=⟨keptS s d.l,offO s f d.l d.c,0⟩:=by
 obtain⟨h1,h2,⟨d,h3,h4⟩,h5⟩:=(yF hg hf (m:=m) _ (uV _)).some ho;refine⟨d,h3,h4,h1,h2,fun v hv d' hd'=>by rw[h4]; exact h5 v hv d' hd',?_⟩;unfold escP;rw[ui hf,ui h,← escU_all,ud (by omega)];exact offerP_ok hg hc h3
end Go.Proofs.YtcajgkfgjpfmaaaGreat
namespace Go.Proofs.YtcajgkfgjpfmaaaGreat
open Go Go.RowKit Go.Inl
/-! ### The places of what is kept -/
structure Kept {α : Type} (Z : List α) (p : α → Bool) (J : List Nat) : Prop where
 inc:J.Pairwise (· < ·)
 lt:∀j∈J,j < Z.length
 at_:∀(q j:Nat),J[q]? = some j→(Z.filter p)[q]? = Z[j]?
 len:J.length=(Z.filter p).length
 mem:∀(j:Nat) (x:α),Z[j]? = some x→p x=true→j∈J
 ok:∀j∈J,∀x,Z[j]? = some x→p x=true
theorem kept_ex {α : Type} (p : α → Bool) : ∀ Z : List α, ∃ J, Kept Z p J
 | []=>⟨[],List.Pairwise.nil,(fun _ h=>by cases h),(fun _ _ h=>by simp at h),rfl,(fun _ _ h=>by simp at h),(fun _ h=>by cases h)⟩
 | z::Z=>by
   obtain⟨J,h⟩:=kept_ex p Z;have hinc:(J.map (· + 1)).Pairwise (· < ·):=List.pairwise_map.2 (h.inc.imp fun {a b} (hab:a < b)=>(by omega:a+1 < b+1));have hat:∀(q j:Nat),(J.map (· + 1))[q]? = some j→∃j0,J[q]? = some j0∧j=j0+1:=fun q j hq=>by
    rw[Qo]at hq;cases e:J[q]? with
    | none=>rw[e]at hq; simp at hq
    | some j0=>rw[e]at hq; exact⟨j0,rfl,(Option.some.inj hq).symm⟩
   cases hz:p z with
   | true =>
     have hf:(z::Z).filter p=z::Z.filter p:=by rw[List.filter_cons,ui hz]
     refine⟨0::J.map (· + 1),List.Pairwise.cons (fun j hj=>?_) hinc,fun j hj=>?_,fun q j hq=>?_,?_,fun j x hx hp=>?_,fun j hj x hx=>?_⟩
     · obtain⟨j0,_,rfl⟩:=QF.1 hj; exact Nat.succ_pos _
     · rcases uq.1 hj with rfl | hj
       · exact Nat.succ_pos _
       · obtain ⟨j0, h0, rfl⟩ := QF.1 hj
         have:=h.lt j0 h0;show j0+1 < Z.length+1
         omega
     · rw [hf]
       cases q with
       | zero => obtain rfl : 0 = j := by simpa using hq
                 rfl
       | succ q =>
         obtain⟨j0,h1,rfl⟩:=hat q j (by simpa using hq);rw[List.getElem?_cons_succ,List.getElem?_cons_succ];exact h.at_ q j0 h1
     · rw[hf,uP,uR,uP,h.len]
     · cases j with
       | zero=>exact List.mem_cons_self ..
       | succ j =>
         rw[List.getElem?_cons_succ]at hx;exact List.mem_cons_of_mem _ (QF.2 ⟨j,h.mem j x hx hp,rfl⟩)
     · rcases uq.1 hj with rfl | hj
       · obtain rfl : z = x := by simpa using hx
         exact hz
       · obtain ⟨j0, h0, rfl⟩ := QF.1 hj
         rw[List.getElem?_cons_succ]at hx;exact h.ok j0 h0 x hx
   | false =>
     have hf:(z::Z).filter p=Z.filter p:=by rw[List.filter_cons,ud (by rw[hz]; exact Bool.false_ne_true)]
     refine⟨J.map (· + 1),hinc,fun j hj=>?_,fun q j hq=>?_,?_,fun j x hx hp=>?_,fun j hj x hx=>?_⟩
     · obtain ⟨j0, h0, rfl⟩ := QF.1 hj
       have:=h.lt j0 h0;show j0+1 < Z.length+1
       omega
     · rw [hf]
       obtain⟨j0,h1,rfl⟩:=hat q j hq;rw[List.getElem?_cons_succ];exact h.at_ q j0 h1
     · rw[hf,uR,h.len]
     · cases j with
       | zero =>
         obtain rfl:z=x:=by simpa using hx
         rw[hz]at hp; cases hp
       | succ j =>
         rw[List.getElem?_cons_succ]at hx;exact QF.2 ⟨j,h.mem j x hx hp,rfl⟩
     · obtain ⟨j0, h0, rfl⟩ := QF.1 hj
       rw[List.getElem?_cons_succ]at hx;exact h.ok j0 h0 x hx
/-! ### The versions that are collected -/
theorem insAll_mem {v : Int} : ∀ {l V : List Int}, v ∈ insAll V l ↔ v ∈ V ∨ v ∈ l
 | [],V=>by simp[insAll]
 | x::l,V=>by
   show v∈insAll (insI V x) l↔_
   rw[insAll_mem,jN,uq];constructor
   · rintro ((h | h) | h)
     · exact .inr (.inl h)
     · exact .inl h
     · exact .inr (.inr h)
   · rintro (h | h | h)
     · exact .inl (.inr h)
     · exact .inl (.inl h)
     · exact .inr h
theorem colF_mem {g : GrL} {v : Int} : ∀ {l V : List Int}, v ∈ l.foldl (fun V n => insAll V (reachP g n unlim)) V ↔ v ∈ V ∨ ∃ n ∈ l, v ∈ reachP g n unlim
 | [],V=>by simp
 | n::l,V=>by
   rw[List.foldl_cons,colF_mem,insAll_mem];constructor
   · rintro ((h | h) | ⟨x, h, h2⟩)
     · exact .inl h
     · exact .inr ⟨n,List.mem_cons_self ..,h⟩
     · exact .inr ⟨x,List.mem_cons_of_mem _ h,h2⟩
   · rintro (h | ⟨x, h, h2⟩)
     · exact .inl (.inl h)
     · rcases uq.1 h with rfl | h
       · exact .inl (.inr h2)
       · exact .inr ⟨x,h,h2⟩
theorem vI {s:SrvL}{l:List Int}{v:Int}:v∈colV s l↔∃n∈l,v∈reachP s.g n unlim:=by
 unfold colV;rw[colF_mem]; simp
theorem colF_inc {g : GrL} : ∀ {l V : List Int}, V.Pairwise (· < ·) → (l.foldl (fun V n => insAll V (reachP g n unlim)) V).Pairwise (· < ·)
 | [],_,h=>h
 | n::l,V,h=>colF_inc (l:=l) (V:=insAll V (reachP g n unlim)) (insAll_inc _ h)
theorem colV_inc (s:SrvL)(l:List Int):(colV s l).Pairwise (· < ·):=colF_inc List.Pairwise.nil
theorem reach_out {g:GrL}{n:Int}(h:n∉g.vs)(m:NeedL):reachP g n m=[]:=List.eq_nil_iff_forall_not_mem.2 fun v hv=>by
 obtain⟨j,h1,h2,h3⟩:=vP.1 hv;rw[ways_no h,yc]at h3; cases h3
theorem reach_named {g:GrL}{n v:Int}{m:NeedL}(h:v∈reachP g n m):n∈g.vs:=by
 by_cases hn:n∈g.vs
 · exact hn
 · rw[reach_out hn]at h; cases h
theorem fit_unlim {s:SrvL}(hg:GoodS s){k:LnkL}(hk:k∈s.g.ls):fitN k.n unlim=true:=by
 have h:=hg.val;unfold validG at h;simp only[xU,xO]at h;have h2:=(Qn.1 h.2.2.2) k hk;unfold lnkOk at h2;simp only[xT,xR,xS]at h2;have h3:=h2.2;unfold rightN at h3;rw[xU]at h3;exact h3.2
theorem ye {s:SrvL}(hg:GoodS s){l:List Int}{v:Int}(h:v∈colV s l):v∈s.g.vs:=by
 obtain⟨n,h1,h2⟩:=vI.1 h;obtain⟨d,h3⟩:=(zQ hg.b (reach_named h2)).1 h2;exact h3.vm
theorem colV_step {s:SrvL}(hg:GoodS s){l:List Int}{k:LnkL}{i:Nat}(hk:s.g.ls[i]? = some k)(h:k.f∈colV s l):k.t∈colV s l:=by
 obtain⟨n,h1,h2⟩:=vI.1 h;have hn:=reach_named h2;obtain⟨d,h3⟩:=(zQ hg.b hn).1 h2;obtain⟨d',h4,_⟩:=yx hg.b hn (vg h3.walk hk (fit_unlim hg (uf hk)));exact vI.2 ⟨n,h1,(zQ hg.b hn).2 ⟨d',h4⟩⟩
theorem colV_self {s:SrvL}(hg:GoodS s){l:List Int}{n:Int}(hn:n∈l)(h:n∈s.g.vs):n∈colV s l:=vI.2 ⟨n,hn,reach_self hg.b.toGrOk unlim h⟩
theorem nodup_len {a b:List Int}(h:a.Pairwise (· < ·))(hs:∀v∈a,v∈b):a.length≤b.length :=
 List.Nodup.length_le_of_subset (h.imp fun h=>by omega) hs
theorem incV_of : ∀ (b : Int) (l : List Int), l.Pairwise (· < ·) → (∀ v ∈ l, b ≤ v ∧ v ≤ 60000) → incV b l = true
 | _,[],_,_=>rfl
 | b,x::l,h,hb=>by
   rw[List.pairwise_cons]at h;have h1:=hb x (List.mem_cons_self ..);unfold incV;rw[uK h1.1,uK h1.2,Bool.true_and,Bool.true_and];refine incV_of _ l h.2 fun v hv=>⟨?_,(hb v (List.mem_cons_of_mem _ hv)).2⟩
   have:=h.1 v hv;omega
structure LnkG (vs : List Int) (k : LnkL) : Prop where
 f:k.f∈vs
 t:k.t∈vs
 ne:k.f≠k.t
 c0:0≤k.c
 c1:k.c≤1000000
 n:rightN k.n=true
theorem lnk_iff {vs:List Int}{k:LnkL}:lnkOk vs k=true↔LnkG vs k:=by
 unfold lnkOk;simp only[xT,xR,xS,xO,xM];constructor
 · rintro ⟨⟨⟨⟨⟨a, b⟩, c⟩, d⟩, e⟩, f⟩
   exact⟨a,b,c,by omega,by omega,f⟩
 · rintro ⟨a, b, c, d, e, f⟩
   exact⟨⟨⟨⟨⟨a,b⟩,c⟩,by omega⟩,by omega⟩,f⟩
structure ValG (g : GrL) : Prop where
 nv:g.vs.length≤16
 nl:g.ls.length≤64
 inc:g.vs.Pairwise (· < ·)
 vb:∀v∈g.vs,0≤v∧v≤60000
 ls:∀k∈g.ls,LnkG g.vs k
theorem kQ {g:GrL}:validG g=true↔ValG g:=by
 unfold validG;simp only[xU,xO,Qn];constructor
 · rintro ⟨a, b, c, d⟩
   refine⟨a,b,vC _ _ c,fun v hv=>?_,fun k hk=>lnk_iff.1 (d k hk)⟩;obtain⟨i,hi⟩:=Qm.1 hv;exact yU _ _ _ _ c hi
 · rintro ⟨a, b, c, d, e⟩
   exact⟨a,b,incV_of _ _ c d,fun k hk=>lnk_iff.2 (e k hk)⟩
/-! ### What is collected -/
structure ColI (s c : SrvL) (V : List Int) (J : List Nat) : Prop where
 vs:c.g.vs=V
 inc:J.Pairwise (· < ·)
 len:c.g.ls.length=J.length
 ls:∀(q j:Nat),J[q]? = some j→c.g.ls[q]? = s.g.ls[j]?
 ps:∀(q j:Nat),J[q]? = some j→c.ps[q]? = s.ps[j]?
 lt:∀j∈J,j < s.g.ls.length
 mem:∀(j:Nat) (k:LnkL),s.g.ls[j]? = some k→k.f∈V→k.t∈V→j∈J
 ok:∀j∈J,∀k,s.g.ls[j]? = some k→k.f∈V∧k.t∈V
 pl:c.ps.length=J.length
theorem col_i {s:SrvL}(hg:GoodS s)(l:List Int):∃J,ColI s (collectP s l) (colV s l) J:=by
 obtain⟨J,h⟩:=kept_ex (fun x:LnkP=>decide (x.l.f∈colV s l) && decide (x.l.t∈colV s l)) (zipLP s.g.ls s.ps);have hl:=zb hg.pl;have zat:∀(j:Nat) (k:LnkL),s.g.ls[j]? = some k→∃p,s.ps[j]? = some p∧(zipLP s.g.ls s.ps)[j]? = some ⟨k,p⟩:=fun j k hk=>by
  obtain⟨p,hp,_⟩:=ps_at hg hk;exact⟨p,hp,zq hk hp⟩
 have jat:∀(q j:Nat),J[q]? = some j→∃k p,s.g.ls[j]? = some k∧s.ps[j]? = some p∧(keepZ (colV s l) (zipLP s.g.ls s.ps))[q]? = some ⟨k,p⟩:=fun q j hq=>by
  have h1:=h.lt j (uf hq);obtain⟨p,hp,hz⟩:=zat j _ (xW (by omega:j < s.g.ls.length));exact⟨_,p,xW (by omega),hp,by unfold keepZ; rw[h.at_ q j hq]; exact hz⟩
 refine⟨J,rfl,h.inc,?_,fun q j hq=>?_,fun q j hq=>?_,fun j hj=>?_,fun j k hk h1 h2=>?_,fun j hj k hk=>?_,?_⟩
 · show ((keepZ (colV s l) (zipLP s.g.ls s.ps)).map (·.l)).length = _
   rw[uR]; exact h.len.symm
 · obtain ⟨k, p, h1, h2, h3⟩ := jat q j hq
   show((keepZ (colV s l) (zipLP s.g.ls s.ps)).map (·.l))[q]? = _
   rw[Qo,h3,h1]; rfl
 · obtain ⟨k, p, h1, h2, h3⟩ := jat q j hq
   show((keepZ (colV s l) (zipLP s.g.ls s.ps)).map (·.p))[q]? = _
   rw[Qo,h3,h2]; rfl
 · have:=h.lt j hj; omega
 · obtain ⟨p, hp, hz⟩ := zat j k hk
   exact h.mem j _ hz (by simp[h1,h2])
 · obtain ⟨p, hp, hz⟩ := zat j k hk
   simpa using h.ok j hj _ hz
 · show ((keepZ (colV s l) (zipLP s.g.ls s.ps)).map (·.p)).length = _
   rw[uR]; exact h.len.symm
theorem ColI.lnk {s c:SrvL}{V:List Int}{J:List Nat}(h:ColI s c V J){q:Nat}{k:LnkL}(hk:c.g.ls[q]? = some k):∃j,J[q]? = some j∧s.g.ls[j]? = some k:=by
 have h1:=(uc.1 hk).1;rw[h.len]at h1;exact⟨_,xW h1,by rw[← h.ls q _ (xW h1)]; exact hk⟩
theorem xa {V l:List Int}{v:Int}:v∈inG V l↔v∈l∧v∈V:=by
 unfold inG;rw[List.mem_filter]; simp
theorem zC {s:SrvL}(hg:GoodS s)(l:List Int):GoodS (collectP s l):=by
 obtain⟨J,h⟩:=col_i hg l;have hv:=kQ.1 hg.val;refine⟨kQ.2 ⟨?_,?_,?_,?_,?_⟩,?_,?_,?_,?_⟩
 · have := nodup_len (colV_inc s l) (fun v hv => ye hg hv)
   show(colV s l).length≤16
   have:=hv.nv;omega
 · have h1:=nodup_len (a:=J.map fun(j:Nat)=>(j:Int)) (b:=(List.range s.g.ls.length).map fun(j:Nat)=>(j:Int)) (List.pairwise_map.2 (h.inc.imp fun {a b} (hab:a < b)=>by omega)) (fun v hv=>by
    obtain⟨j,h1,rfl⟩:=QF.1 hv;exact QF.2 ⟨j,List.mem_range.2 (h.lt j h1),rfl⟩)
   rw[uR,uR,List.length_range]at h1;have h2:=h.len;have:=hv.nl;omega
 · exact colV_inc s l
 · exact fun v hvm=>hv.vb v (ye hg hvm)
 · intro k hk
   obtain⟨q,hq⟩:=Qm.1 hk;obtain⟨j,h1,h2⟩:=h.lnk hq;obtain⟨h3,h4⟩:=h.ok j (uf h1) k h2;obtain⟨_,_,a,b,c,d⟩:=hv.ls k (uf h2);exact⟨h3,h4,a,b,c,d⟩
 · rw[h.pl,h.len]
 · intro i k p hk hp
   obtain⟨j,h1,h2⟩:=h.lnk hk;rw[h.ps i j h1]at hp;exact hg.fit j k p h2 hp
 · exact hg.gi.sublist List.filter_sublist
 · intro v hvm
   exact(xa.1 hvm).2
def phiJ (J:List Nat)(l:List Int):List Int:=l.map fun q=>((J.getD q.toNat 0:Nat):Int)
theorem phi_at {J:List Nat}{q:Int}{j:Nat}(h:J[q.toNat]? = some j):((J.getD q.toNat 0:Nat):Int)=j:=by rw[uh,h]; rfl
theorem col_fold1 {s c : SrvL} {V : List Int} {J : List Nat} (h : ColI s c V J) {m : NeedL} : ∀ (l : List Int) (v a : Int) (t d : Int), l.foldl (stepW c.g m) (some (v, a)) = some (t, d) → (phiJ J l).foldl (stepW s.g m) (some (v, a)) = some (t, d)
 | [],_,_,_,_,hw=>hw
 | i::l,v,a,t,d,hw=>by
   obtain⟨k,h0,hk,hf,hn,hw2⟩:=zd hw;obtain⟨j,h1,h2⟩:=h.lnk hk;show((((J.getD i.toNat 0:Nat):Int))::phiJ J l).foldl (stepW s.g m) (some (v,a))=_
   rw[phi_at h1,List.foldl_cons];have:stepW s.g m (some (v,a)) (j:Int)=some (k.t,a+k.c):=by
    simp only[stepW,Int.toNat_natCast,h2];rw[ui ⟨by omega,hf,hn⟩]
   rw[this];exact col_fold1 h l _ _ t d hw2
theorem col_fold2 {s c : SrvL} {V : List Int} {J : List Nat} (h : ColI s c V J) (hst : ∀ (i : Nat) (k : LnkL), s.g.ls[i]? = some k → k.f ∈ V → k.t ∈ V) {m : NeedL} : ∀ (l : List Int) (v a : Int) (t d : Int), v ∈ V → l.foldl (stepW s.g m) (some (v, a)) = some (t, d) →
 t∈V∧∃l',phiJ J l'=l∧l'.foldl (stepW c.g m) (some (v,a))=some (t,d)
 | [],v,a,t,d,hv,hw=>by
   have hw':some (v,a)=some (t,d):=hw;cases hw'
   exact⟨hv,[],rfl,rfl⟩
 | i::l,v,a,t,d,hv,hw=>by
   obtain⟨k,h0,hk,hf,hn,hw2⟩:=zd hw;have hkf:k.f∈V:=by rw[hf]; exact hv
   have hkt:=hst _ k hk hkf;obtain⟨q,hq⟩:=Qm.1 (h.mem _ k hk hkf hkt);obtain⟨h3,l',h4,h5⟩:=col_fold2 h hst l k.t _ t d hkt hw2;refine⟨h3,(q:Int)::l',?_,?_⟩
   · show (((J.getD (q : Int).toNat 0 : Nat) : Int)) :: phiJ J l' = _
     rw[phi_at (j:=i.toNat) (by rw[Int.toNat_natCast]; exact hq),h4,Int.toNat_of_nonneg h0]
   · rw [List.foldl_cons]
     have:stepW c.g m (some (v,a)) (q:Int)=some (k.t,a+k.c):=by
      simp only[stepW,Int.toNat_natCast,h.ls q _ hq,hk];rw[ui ⟨by omega,hf,hn⟩]
     rw[this]; exact h5
theorem phi_lt {J:List Nat}(h:J.Pairwise (· < ·)){x y:Int}(hx:0≤x∧x < J.length)(hy:0≤y∧y < J.length)(hxy:x < y):((J.getD x.toNat 0:Nat):Int) < ((J.getD y.toNat 0:Nat):Int):=by
 rw[phi_at (xW (by omega:x.toNat < J.length)),phi_at (xW (by omega:y.toNat < J.length))];have:=List.pairwise_iff_getElem.1 h x.toNat y.toNat (by omega) (by omega) (by omega);omega
theorem phi_ltL {J : List Nat} (h : J.Pairwise (· < ·)) : ∀ {a b : List Int}, (∀ x ∈ a, 0 ≤ x ∧ x < J.length) → (∀ x ∈ b, 0 ≤ x ∧ x < J.length) → ltL (phiJ J a) (phiJ J b) = ltL a b
 | [],[],_,_=>rfl
 | [],_::_,_,_=>rfl
 | _::_,[],_,_=>rfl
 | x::a,y::b,ha,hb=>by
   have hx:=ha x (List.mem_cons_self ..);have hy:=hb y (List.mem_cons_self ..);show(if ((J.getD x.toNat 0:Nat):Int) < ((J.getD y.toNat 0:Nat):Int) then true else if ((J.getD x.toNat 0:Nat):Int)=((J.getD y.toNat 0:Nat):Int) then ltL (phiJ J a) (phiJ J b) else false)=(if x < y then true else if x=y then ltL a b else false)
   rw[phi_ltL h (fun z hz=>ha z (List.mem_cons_of_mem _ hz)) (fun z hz=>hb z (List.mem_cons_of_mem _ hz))];rcases Int.lt_trichotomy x y with e | e | e
   · rw[ui e,ui (phi_lt h hx hy e)]
   · subst e; rw[ud (Int.lt_irrefl _),ud (Int.lt_irrefl _),ui rfl,ui rfl]
   · have := phi_lt h hy hx e
     rw[ud (by omega),ud (by omega),ud (by omega),ud (by omega)]
theorem phi_le {J:List Nat}(h:J.Pairwise (· < ·)){c1 c2:Int}{a b:List Int}(ha:∀x∈a,0≤x∧x < J.length)(hb:∀x∈b,0≤x∧x < J.length)(hle:keyLe c1 a c2 b):keyLe c1 (phiJ J a) c2 (phiJ J b):=fun hk=>hle (by
 unfold keyLt at hk ⊢;rw[phi_ltL h hb ha]at hk;unfold phiJ at hk;rw[uR,uR]at hk;exact hk)
theorem col_rch {s:SrvL}(hg:GoodS s){l:List Int}{J:List Nat}(h:ColI s (collectP s l) (colV s l) J){f t:Int}{m:NeedL}(hf:f∈colV s l){d:WayL}(hd:Rch (collectP s l).g f m t d):∃d',Rch s.g f m t d'∧d'.l=phiJ J d.l∧d'.c=d.c:=by
 have hc:=zC hg l;have hfs:=ye hg hf;have hw1:=col_fold1 h d.l f 0 t d.c hd.walk;obtain⟨d',h1,h2⟩:=yx hg.b hfs hw1;obtain⟨h3,l',h4,h5⟩:=col_fold2 h (fun i k hk hkf=>colV_step hg hk hkf) d'.l f 0 t d'.c hf h1.walk;have h6:=hd.best l' d'.c h5;have hix:∀ {l'':List Int} {c},walkW (collectP s l).g m f l''=some (t,c)→∀x∈l'',0≤x∧x < J.length:=fun {l'' c} hw x hx=>by
  have:=yL _ _ rfl _ _ hw x hx;rw[h.len]at this;exact this
 have h7:=phi_le h.inc (hix hd.walk) (hix h5) h6;rw[h4]at h7;obtain⟨e1,e2⟩:=le_anti h7 h2;exact⟨d',h1,e2.symm,e1.symm⟩
theorem rch_col {s:SrvL}(hg:GoodS s){l:List Int}{J:List Nat}(h:ColI s (collectP s l) (colV s l) J){f t:Int}{m:NeedL}(hf:f∈colV s l){d':WayL}(hd:Rch s.g f m t d'):t∈colV s l∧∃d,Rch (collectP s l).g f m t d:=by
 obtain⟨h3,l',h4,h5⟩:=col_fold2 h (fun i k hk hkf=>colV_step hg hk hkf) d'.l f 0 t d'.c hf hd.walk;obtain⟨d,h6,_⟩:=yx (zC hg l).b (show f∈(collectP s l).g.vs from hf) h5;exact⟨h3,d,h6⟩
theorem openP_inc {s:SrvL}(hg:GoodS s)(f:Int)(m:NeedL):(openP s f m).Pairwise (· < ·):=openUp_inc hg.b.toGrOk f m (uV _)
theorem col_open {s:SrvL}(hg:GoodS s){l:List Int}{f:Int}{m:NeedL}(hf:f∈colV s l):openP (collectP s l) f m=openP s f m:=by
 obtain⟨J,h⟩:=col_i hg l;have hc:=zC hg l;have hfs:=ye hg hf;refine xu (openP_inc hc f m) (openP_inc hg f m) fun v=>?_
 rw[kV hc.b (show f∈(collectP s l).g.vs from hf),kV hg.b hfs];constructor
 · rintro ⟨⟨d, h1⟩, h2⟩
   obtain⟨d',h3,_⟩:=col_rch hg h hf h1;refine⟨⟨d',h3⟩,fun hv=>h2 (xa.2 ⟨hv,h1.vm⟩)⟩
 · rintro ⟨⟨d', h1⟩, h2⟩
   obtain⟨h3,d,h4⟩:=rch_col hg h hf h1;exact⟨⟨d,h4⟩,fun hv=>h2 (xa.1 hv).1⟩
theorem col_off {s:SrvL}(hg:GoodS s){l:List Int}{J:List Nat}(h:ColI s (collectP s l) (colV s l) J){f t:Int}{m:NeedL}(hf:f∈colV s l){d d':WayL}(hd:Rch (collectP s l).g f m t d)(hd':Rch s.g f m t d'):offO (collectP s l) f d.l d.c=offO s f d'.l d'.c:=by
 obtain⟨e,h1,h2,h3⟩:=col_rch hg h hf hd;obtain rfl:=hd'.uniq h1;have hix:∀x∈d.l,∃j,J[x.toNat]? = some j:=fun x hx=>by
  have:=yL _ _ rfl _ _ hd.walk x hx;rw[h.len]at this;exact⟨_,xW (by omega)⟩
 have e1:d'.l.map (lnkT s.g)=d.l.map (lnkT (collectP s l).g):=by
  rw[h2];unfold phiJ;rw[List.map_map];refine List.map_congr_left fun x hx=>?_
  obtain⟨j,hj⟩:=hix x hx;show lnkT s.g ((J.getD x.toNat 0:Nat):Int)=_
  rw[phi_at hj];unfold lnkT;rw[Int.toNat_natCast,h.ls _ _ hj]
 have e2:patsOf s.ps d'.l=patsOf (collectP s l).ps d.l:=by
  rw[h2];unfold phiJ patsOf;rw[List.map_map];refine List.map_congr_left fun x hx=>?_
  obtain⟨j,hj⟩:=hix x hx;show s.ps.getD (((J.getD x.toNat 0:Nat):Int)).toNat PatL.zero=_
  rw[phi_at hj,uh,uh,Int.toNat_natCast,h.ps _ _ hj]
 have e3:d'.l=[]↔d.l=[]:=by
  rw[h2];unfold phiJ;exact List.map_eq_nil_iff
 unfold offO patO;rw[e1,e2,h3];by_cases hl:d.l=[]
 · rw[ui hl,ui (e3.2 hl)]
 · rw[ud hl,ud (fun h=>hl (e3.1 h))]
theorem col_best {s:SrvL}(hg:GoodS s)(hc:CacheOk s){l:List Int}{f:Int}{m:NeedL}(hf:f∈colV s l):(bestP (collectP s l) f m).o=(bestP s f m).o∧(bestP (collectP s l) f m).e=(bestP s f m).e:=by
 obtain⟨J,h⟩:=col_i hg l;have hcg:=zC hg l;have hcc:CacheOk (collectP s l):=CacheOk.of_nil rfl;have hfs:=ye hg hf;have hfc:f∈(collectP s l).g.vs:=hf;have ho:=col_open hg (m:=m) hf;by_cases h0:openP s f m=[]
 · rw [kC hfs h0, kC hfc (ho.trans h0)]
   exact⟨rfl,rfl⟩
 · obtain ⟨d', h1, _, _, h2⟩ := jA hg hc hfs h0
   obtain⟨d,h3,_,_,h4⟩:=jA hcg hcc hfc (by rw[ho]; exact h0);rw[h2,h4];refine⟨?_,rfl⟩;rw[ho]at h3;exact col_off hg h hf h3 h1
theorem col_esc {s:SrvL}(hg:GoodS s)(hc:CacheOk s){l:List Int}{f:Int}{m:NeedL}(hf:f∈colV s l):(escP (collectP s l) f m).o=(escP s f m).o∧(escP (collectP s l) f m).e=(escP s f m).e:=by
 obtain⟨J,h⟩:=col_i hg l;have hcg:=zC hg l;have hcc:CacheOk (collectP s l):=CacheOk.of_nil rfl;have hfs:=ye hg hf;have hfc:f∈(collectP s l).g.vs:=hf;have ho:=col_open hg (m:=m) hf;by_cases hgn:f∈s.gone
 · have hgc : f ∈ (collectP s l).gone := xa.2 ⟨hgn, hf⟩
   by_cases h0:openP s f m=[]
   · rw [yE hfs hgn h0, yE hfc hgc (ho.trans h0)]
     exact⟨rfl,rfl⟩
   · obtain ⟨d', h1, _, h5, _, _, h2⟩ := zB hg hc hfs hgn h0
     obtain⟨d,h3,_,h6,_,_,h4⟩:=zB hcg hcc hfc hgc (by rw[ho]; exact h0);have e:(escU (collectP s l) f m (collectP s l).g.vs.length).to=(escU s f m s.g.vs.length).to:=by
      rw[escU_all,escU_all];unfold escUp;rw[Qq,Qq,ho];congr 1
      have hpt:∀v∈openP s f m,pathP (collectP s l).g f v m=pathP (collectP s l).g f v m∧(pathP (collectP s l).g f v m).e=(pathP s.g f v m).e∧(pathP (collectP s l).g f v m).c=(pathP s.g f v m).c:=fun v hv=>by
       obtain⟨⟨e',k1⟩,_⟩:=(kV hg.b hfs).1 hv;obtain⟨⟨e0,k2⟩,_⟩:=(kV hcg.b hfc).1 (by rw[ho]; exact hv);obtain⟨e1,k3,_,k4⟩:=col_rch hg h hf k2;obtain rfl:=k1.uniq k3;rw[k1.path,k2.path];exact⟨rfl,rfl,k4.symm⟩
      have key:∀(L:List Int) (x:EscA),(∀v∈L,v∈openP s f m)→L.foldl (escF (collectP s l) f m) x=L.foldl (escF s f m) x:=by
       intro L;induction L with
       | nil=>intro x _; rfl
       | cons v L ih =>
         intro x hL;rw[List.foldl_cons,List.foldl_cons];have e1:escF (collectP s l) f m x v=escF s f m x v:=by
          obtain⟨_,a,b⟩:=hpt v (hL v (List.mem_cons_self ..));unfold escF;rw[a,b]
         rw[e1];exact ih _ fun u hu=>hL u (List.mem_cons_of_mem _ hu)
      exact key _ _ fun v hv=>hv
     rw[h2,h4];refine⟨?_,rfl⟩;rw[e]at h3;exact col_off hg h hf h3 h1
 · have hgc : f ∉ (collectP s l).gone := fun hh => hgn (xa.1 hh).1
   rw[xf hfs hgn,xf hfc hgc];exact⟨rfl,rfl⟩
theorem col_reach {s:SrvL}(hg:GoodS s){l:List Int}{n:Int}(hn:n∈l):reachP (collectP s l).g n unlim=reachP s.g n unlim:=by
 by_cases hs:n∈s.g.vs
 · obtain ⟨J, h⟩ := col_i hg l
   have hcg:=zC hg l;have hf:=colV_self hg hn hs;refine xu (yh hcg.b.toGrOk _ (uV _)) (yh hg.b.toGrOk _ (uV _)) fun v=>?_
   show v∈reachP _ _ _↔v∈reachP _ _ _
   rw[zQ hcg.b (show n∈(collectP s l).g.vs from hf),zQ hg.b hs];constructor
   · rintro ⟨d, h1⟩
     obtain⟨d',h3,_⟩:=col_rch hg h hf h1;exact⟨d',h3⟩
   · rintro ⟨d', h1⟩
     obtain⟨h3,d,h4⟩:=rch_col hg h hf h1;exact⟨d,h4⟩
 · rw[reach_out hs,reach_out (fun h=>hs (ye hg h))]
theorem filter_self {α:Type}{p:α→Bool}{l:List α}(h:∀x∈l,p x=true):l.filter p=l:=List.filter_eq_self.2 h
theorem map_zip : ∀ Z : List LnkP, zipLP (Z.map (·.l)) (Z.map (·.p)) = Z
 | []=>rfl
 | z::Z=>by
   show LnkP.mk z.l z.p::zipLP (Z.map (·.l)) (Z.map (·.p))=_
   rw[map_zip Z]
theorem col_twice {s:SrvL}(hg:GoodS s)(l:List Int):collectP (collectP s l) l=collectP s l:=by
 have hv:colV (collectP s l) l=colV s l:=by
  unfold colV;have key:∀(L V:List Int),(∀n∈L,n∈l)→L.foldl (fun V n=>insAll V (reachP (collectP s l).g n unlim)) V=L.foldl (fun V n=>insAll V (reachP s.g n unlim)) V:=by
   intro L;induction L with
   | nil=>intro V _; rfl
   | cons n L ih =>
     intro V hL;rw[List.foldl_cons,List.foldl_cons,col_reach hg (hL n (List.mem_cons_self ..))];exact ih _ fun u hu=>hL u (List.mem_cons_of_mem _ hu)
  exact key _ _ fun n hn=>hn
 have hz:keepZ (colV s l) (zipLP (collectP s l).g.ls (collectP s l).ps)=keepZ (colV s l) (zipLP s.g.ls s.ps):=by
  show keepZ (colV s l) (zipLP ((keepZ (colV s l) (zipLP s.g.ls s.ps)).map (·.l)) ((keepZ (colV s l) (zipLP s.g.ls s.ps)).map (·.p)))=_
  rw[map_zip];refine filter_self fun x hx=>?_
  exact(List.mem_filter.1 hx).2
 have hg2:inG (colV s l) (collectP s l).gone=inG (colV s l) s.gone:=filter_self fun x hx=>uK (xa.1 hx).2
 show(⟨⟨colV (collectP s l) l,(keepZ (colV (collectP s l) l) (zipLP (collectP s l).g.ls (collectP s l).ps)).map (·.l)⟩,(keepZ (colV (collectP s l) l) (zipLP (collectP s l).g.ls (collectP s l).ps)).map (·.p),inG (colV (collectP s l) l) (collectP s l).gone,[]⟩:SrvL)=collectP s l
 rw[hv,hz,hg2]; rfl
/-! ### Adding -/
theorem fitsE_len {a b:LnkL}{p q:PatL}(hp:FitL a p)(hq:FitL b q):fitsE (endOf a p) (endOf b q)=true:=by
 unfold fitsE endOf;dsimp only;rw[hp.in_,hp.out,hq.in_,hq.out];by_cases h1:a.f=b.f <;> by_cases h2:a.t=b.t <;> by_cases h3:a.t=b.f <;> by_cases h4:a.f=b.t <;> simp[h1,h2,h3,h4] <;> simp_all
theorem zip_mem {s:SrvL}(hg:GoodS s){z:LnkP}(hz:z∈zipLP s.g.ls s.ps):FitL z.l z.p:=by
 obtain⟨i,hi⟩:=Qm.1 hz;have hl:=(uc.1 hi).1;rw[zb hg.pl]at hl;obtain⟨p,hp,hF⟩:=ps_at hg (xW hl);rw[zq (xW hl) hp]at hi;obtain rfl:=Option.some.inj hi;exact hF
end Go.Proofs.YtcajgkfgjpfmaaaGreat
