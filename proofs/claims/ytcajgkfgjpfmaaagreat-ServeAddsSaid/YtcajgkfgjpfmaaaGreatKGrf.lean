/- Cheapest ways in a graph, as plain Lean: two algorithms that end with the same ways. Conditions: costs are not negative. Cheapest ways in a graph: the ways by the nearest open version, as plain Lean. Conditions: costs are not negative. Cheapest ways in a graph: the ways by the nearest open version are the least ones. Conditions: costs are not negative. Cheapest ways in a graph: rounds over all links end with the same ways. Conditions: costs are not negative. Comparing ways, as plain Lean. Conditions: none. -/
import Derived.Test.YtcajgkfgjpfmaaaGreatAl
import Derived.Test.YtcajgkfgjpfmaaaGreatKCore
set_option linter.unusedSimpArgs false
set_option linter.unusedVariables false
namespace Go.Inl
open Go Go.RowKit
structure NeedL where
 s:Int
 u:Int
 r:Int
 e:Int
 o:Int
structure LnkL where
 f:Int
 t:Int
 c:Int
 n:NeedL
def fitN (n m:NeedL):Bool:=decide (n.s≤m.s) && (decide (n.u≤m.u) && (decide (n.r≤m.r) && (decide (n.e≤m.e) && decide (n.o≤m.o))))
structure GrL where
 vs:List Int
 ls:List LnkL
structure WayL where
 l:List Int
 c:Int
 is:Bool
def WayL.zero:WayL:=⟨[],0,false⟩
def WayL.src:WayL:=⟨[],0,true⟩
/-! ### The order of ways -/
def ltL : List Int → List Int → Bool
 | [],[]=>false
 | [],_::_=>true
 | _::_,[]=>false
 | a::x,b::y=>if a < b then true else if a=b then ltL x y else false
theorem ltL_irr : ∀ l : List Int, ltL l l = false
 | []=>rfl
 | a::x=>by unfold ltL; rw[ud (Int.lt_irrefl _),ui rfl,ltL_irr x]
theorem ltL_trans : ∀ {a b c : List Int}, ltL a b = true → ltL b c = true → ltL a c = true
 | [],[],_,h,_=>by simp[ltL]at h
 | [],b::y,[],_,h=>by simp[ltL]at h
 | [],b::y,c::z,_,_=>rfl
 | a::x,[],_,h,_=>by simp[ltL]at h
 | a::x,b::y,[],_,h=>by simp[ltL]at h
 | a::x,b::y,c::z,h1,h2=>by
   unfold ltL at h1 h2 ⊢;by_cases e1:a < b
   · by_cases e2 : b < c
     · rw[ui (by omega)]
     · by_cases e3 : b = c
       · rw[ui (by omega)]
       · rw[ud e2,ud e3]at h2; cases h2
   · by_cases e1' : a = b
     · rw [ud e1, ui e1'] at h1
       by_cases e2:b < c
       · rw[ui (by omega)]
       · by_cases e3 : b = c
         · rw [ud e2, ui e3] at h2
           rw[ud (by omega),ui (by omega)];exact ltL_trans h1 h2
         · rw[ud e2,ud e3]at h2; cases h2
     · rw[ud e1,ud e1']at h1; cases h1
theorem ltL_tri : ∀ {a b : List Int}, a.length = b.length → ltL a b = true ∨ a = b ∨ ltL b a = true
 | [],[],_=>.inr (.inl rfl)
 | [],_::_,h=>by simp at h
 | _::_,[],h=>by simp at h
 | a::x,b::y,h=>by
   unfold ltL;rcases Int.lt_trichotomy a b with e | e | e
   · left; rw[ui e]
   · subst e
     rcases ltL_tri (a:=x) (b:=y) (by simpa using h) with g | g | g
     · left; rw[ud (Int.lt_irrefl _),ui rfl,g]
     · right; left; rw[g]
     · right; right; rw[ud (Int.lt_irrefl _),ui rfl,g]
   · right; right; rw[ui e]
theorem ltL_snoc : ∀ {a b : List Int} (i : Int), a.length = b.length → ltL (a ++ [i]) (b ++ [i]) = ltL a b
 | [],[],i,_=>by
   show ltL [i] [i]=ltL [] []
   rw[ltL_irr]; rfl
 | [],_::_,_,h=>by simp at h
 | _::_,[],_,h=>by simp at h
 | a::x,b::y,i,h=>by
   show(if a < b then true else if a=b then ltL (x++[i]) (y++[i]) else false)=(if a < b then true else if a=b then ltL x y else false)
   rw[ltL_snoc i (by simpa using h)]
def keyLt (c1:Int)(l1:List Int)(c2:Int)(l2:List Int):Prop:=c1 < c2∨(c1=c2∧(l1.length < l2.length∨(l1.length=l2.length∧ltL l1 l2=true)))
theorem key_irr (c:Int)(l:List Int):¬keyLt c l c l:=by
 rintro(h | ⟨_,h | ⟨_,h⟩⟩)
 · omega
 · omega
 · rw[ltL_irr]at h; cases h
theorem key_trans {c1 c2 c3:Int}{l1 l2 l3:List Int}(h1:keyLt c1 l1 c2 l2)(h2:keyLt c2 l2 c3 l3):keyLt c1 l1 c3 l3:=by
 rcases h1 with h1 | ⟨e1,h1 | ⟨f1,h1⟩⟩ <;> rcases h2 with h2 | ⟨e2,h2 | ⟨f2,h2⟩⟩
 · left; omega
 · left; omega
 · left; omega
 · left; omega
 · right; exact⟨by omega,.inl (by omega)⟩
 · right; exact⟨by omega,.inl (by omega)⟩
 · left; omega
 · right; exact⟨by omega,.inl (by omega)⟩
 · right; exact⟨by omega,.inr ⟨by omega,ltL_trans h1 h2⟩⟩
theorem key_tri (c1:Int)(l1:List Int)(c2:Int)(l2:List Int):keyLt c1 l1 c2 l2∨(c1=c2∧l1=l2)∨keyLt c2 l2 c1 l1:=by
 rcases Int.lt_trichotomy c1 c2 with e | e | e
 · exact .inl (.inl e)
 · rcases Nat.lt_trichotomy l1.length l2.length with f | f | f
   · exact .inl (.inr ⟨e,.inl f⟩)
   · rcases ltL_tri f with g | g | g
     · exact .inl (.inr ⟨e,.inr ⟨f,g⟩⟩)
     · exact .inr (.inl ⟨e,g⟩)
     · exact .inr (.inr (.inr ⟨e.symm,.inr ⟨f.symm,g⟩⟩))
   · exact .inr (.inr (.inr ⟨e.symm,.inl f⟩))
 · exact .inr (.inr (.inl e))
theorem key_snoc {c1 c2:Int}{l1 l2:List Int}(d i:Int):keyLt (c1+d) (l1++[i]) (c2+d) (l2++[i])↔keyLt c1 l1 c2 l2:=by
 unfold keyLt;rw[ug,ug];constructor
 · rintro (h | ⟨e, h | ⟨f, h⟩⟩)
   · left; omega
   · right; exact⟨by omega,.inl (by simp at h; omega)⟩
   · have f' : l1.length = l2.length := by simpa using f
     right; exact⟨by omega,.inr ⟨f',by rwa [ltL_snoc i f']at h⟩⟩
 · rintro (h | ⟨e, h | ⟨f, h⟩⟩)
   · left; omega
   · right; exact⟨by omega,.inl (by simp; omega)⟩
   · right; exact⟨by omega,.inr ⟨by simp; omega,by rw[ltL_snoc i f]; exact h⟩⟩
def keyLe (c1:Int)(l1:List Int)(c2:Int)(l2:List Int):Prop:=¬keyLt c2 l2 c1 l1
theorem le_trans' {c1 c2 c3:Int}{l1 l2 l3:List Int}(h1:keyLe c1 l1 c2 l2)(h2:keyLe c2 l2 c3 l3):keyLe c1 l1 c3 l3:=fun h=>by
 rcases key_tri c1 l1 c2 l2 with g | ⟨g,g'⟩ | g
 · exact h2 (key_trans h g)
 · subst g g'; exact h2 h
 · exact h1 g
theorem le_refl' (c:Int)(l:List Int):keyLe c l c l:=key_irr c l
theorem le_of_lt {c1 c2:Int}{l1 l2:List Int}(h:keyLt c1 l1 c2 l2):keyLe c1 l1 c2 l2:=fun g=>key_irr _ _ (key_trans h g)
theorem le_snoc {c1 c2:Int}{l1 l2:List Int}(d i:Int)(h:keyLe c1 l1 c2 l2):keyLe (c1+d) (l1++[i]) (c2+d) (l2++[i]):=fun g=>h ((key_snoc d i).1 g)
theorem le_more {c d:Int}{l:List Int}{i:Int}(h:0≤d):keyLe c l (c+d) (l++[i]):=by
 apply le_of_lt
 rcases Int.lt_or_eq_of_le h with g | g
 · left; omega
 · right; exact⟨by omega,.inl (by simp)⟩
def ltW (a b:WayL):Bool:=if a.is=false∨b.is=false then a.is else if a.c=b.c then (if a.l.length=b.l.length then ltL a.l b.l else decide (a.l.length < b.l.length)) else decide (a.c < b.c)
theorem vX {a b:WayL}:ltW a b=true↔a.is=true∧(b.is=true→keyLt a.c a.l b.c b.l):=by
 unfold ltW;cases ha:a.is
 · simp
 · cases hb : b.is
   · simp
   · simp only [Bool.true_eq_false, or_self, if_false, true_and, forall_const]
     unfold keyLt;by_cases e:a.c=b.c
     · rw [ui e]
       by_cases f:a.l.length=b.l.length
       · rw [ui f]
         constructor
         · intro h; exact .inr ⟨e,.inr ⟨f,h⟩⟩
         · rintro (h | ⟨_, h | ⟨_, h⟩⟩)
           · omega
           · omega
           · exact h
       · rw [ud f, decide_eq_true_iff]
         constructor
         · intro h; exact .inr ⟨e,.inl h⟩
         · rintro (h | ⟨_, h | ⟨h, _⟩⟩)
           · omega
           · exact h
           · exact absurd h f
     · rw [ud e, decide_eq_true_iff]
       constructor
       · intro h; exact .inl h
       · rintro (h | ⟨h, _⟩)
         · exact h
         · exact absurd h e
theorem snocI {p : List Int → Prop} (h0 : p []) (h1 : ∀ l x, p l → p (l ++ [x])) : ∀ (n : Nat) (l : List Int), l.length = n → p l
 | 0,l,h=>by rw[Ql.1 h]; exact h0
 | n+1,l,h=>by
   have hne:l≠[]:=fun e=>by subst e; simp at h
   rw[← List.dropLast_concat_getLast hne];exact h1 _ _ (snocI h0 h1 n _ (by rw[List.length_dropLast]; omega))
/-! ### Walks -/
def stepW (g:GrL)(m:NeedL)(o:Option (Int×Int))(i:Int):Option (Int×Int) :=
 match o with
 | none=>none
 | some p=>match g.ls[i.toNat]? with
   | none=>none
   | some k=>if 0≤i∧k.f=p.1∧fitN k.n m=true then some (k.t,p.2+k.c) else none
def walkW (g:GrL)(m:NeedL)(s:Int)(l:List Int):Option (Int×Int):=l.foldl (stepW g m) (some (s,0))
theorem zv (g:GrL)(m:NeedL)(s:Int):walkW g m s []=some (s,0):=rfl
theorem kI {g:GrL}{m:NeedL}{s:Int}{l:List Int}{i v c:Int}(h:walkW g m s (l++[i])=some (v,c)):∃d k,walkW g m s l=some (k.f,d)∧0≤i∧g.ls[i.toNat]? = some k∧fitN k.n m=true∧v=k.t∧c=d+k.c:=by
 unfold walkW at h ⊢;rw[List.foldl_append]at h;show _
 replace h:stepW g m (l.foldl (stepW g m) (some (s,0))) i=some (v,c):=h;cases e:l.foldl (stepW g m) (some (s,0)) with
 | none=>rw[e]at h; simp[stepW]at h
 | some p =>
   rw[e]at h;cases f:g.ls[i.toNat]? with
   | none=>simp[stepW,f]at h
   | some k =>
     simp only[stepW,f]at h;split at h
     · rename_i hc
       obtain⟨h1,h2,h3⟩:=hc;cases h
       exact⟨p.2,k,by rw[h2],h1,rfl,h3,rfl,rfl⟩
     · cases h
theorem vg {g:GrL}{m:NeedL}{s:Int}{l:List Int}{d:Int}{i:Nat}{k:LnkL}(h:walkW g m s l=some (k.f,d))(hk:g.ls[i]? = some k)(hf:fitN k.n m=true):walkW g m s (l++[(i:Int)])=some (k.t,d+k.c):=by
 unfold walkW at h ⊢;rw[List.foldl_append,h];show stepW g m (some (k.f,d)) i=_
 simp only[stepW,Int.toNat_natCast,hk];rw[ui ⟨by omega,trivial,hf⟩]
structure GrOk (g : GrL) : Prop where
 inc:g.vs.Pairwise (· < ·)
 ends:∀k∈g.ls,k.f∈g.vs∧k.t∈g.vs
 cost:∀k∈g.ls,0≤k.c
theorem walk_cost {g:GrL}(hg:GrOk g){m:NeedL}{s:Int}:∀(n:Nat) (l:List Int),l.length=n→∀v c,walkW g m s l=some (v,c)→0≤c :=
 snocI (p:=fun l=>∀v c,walkW g m s l=some (v,c)→0≤c) (fun v c h=>by cases h; exact Int.le_refl _) fun l x ih v c h=>by
  obtain⟨d,k,h1,_,h2,_,_,rfl⟩:=kI h;have:=ih _ _ h1;have:=hg.cost k (uf h2);omega
def vIx (g:GrL)(v:Int):Nat:=g.vs.findIdx fun x=>decide (x=v)
theorem kF {g:GrL}{v:Int}(h:v∈g.vs):g.vs[vIx g v]? = some v:=by
 have hx:∃x∈g.vs,(fun x=>decide (x=v)) x=true:=⟨v,h,by simp⟩
 have hlt:vIx g v < g.vs.length:=List.findIdx_lt_length_of_exists hx;rw[xW hlt];have:=List.findIdx_getElem (xs:=g.vs) (p:=fun x=>decide (x=v)) (w:=hlt);simp only[xO]at this;exact congrArg some this
theorem jt {g:GrL}{v:Int}(h:v∈g.vs):vIx g v < g.vs.length:=(uc.1 (kF h)).1
theorem kR {g:GrL}(hg:GrOk g){v:Int}{j:Nat}(h:g.vs[j]? = some v):vIx g v=j:=by
 have h1:=kF (uf h);obtain⟨a1,a2⟩:=uc.1 h1;obtain⟨b1,b2⟩:=uc.1 h;have hp:=List.pairwise_iff_getElem.1 hg.inc;rcases Nat.lt_trichotomy (vIx g v) j with e | e | e
 · have:=hp _ _ a1 b1 e; omega
 · exact e
 · have:=hp _ _ b1 a1 e; omega
/-! ### Labels -/
def lab (D:List WayL)(j:Nat):WayL:=D.getD j WayL.zero
theorem ky {D:List WayL}{i j:Nat}{w:WayL}(h:i < D.length):lab (D.set i w) j=if i=j then w else lab D j:=by
 unfold lab;rw[uh,uh,List.getElem?_set];by_cases e:i=j
 · subst e; rw[ui rfl,ui h,ui rfl]; rfl
 · rw[ud e,ud e]
theorem lab_none {D:List WayL}{j:Nat}(h:D.length≤j):lab D j=WayL.zero:=by
 unfold lab; rw[uh,List.getElem?_eq_none h]; rfl
structure Lab (g : GrL) (m : NeedL) (s : Int) (D : List WayL) : Prop where
 len:D.length=g.vs.length
 real:∀j v,g.vs[j]? = some v→(lab D j).is=true→walkW g m s (lab D j).l=some (v,(lab D j).c)
 zero:∀j,(lab D j).is=false→lab D j=WayL.zero
def Best (g:GrL)(m:NeedL)(s v:Int)(d:WayL):Prop:=∀l c,walkW g m s l=some (v,c)→d.is=true∧keyLe d.c d.l c l
structure Opt (g : GrL) (m : NeedL) (s : Int) (D : List WayL) : Prop extends Lab g m s D where
 least:∀j v,g.vs[j]? = some v→Best g m s v (lab D j)
theorem way_eq {d e:WayL}(h0:d.is=e.is)(h1:d.c=e.c)(h2:d.l=e.l):d=e:=by cases d; cases e; simp_all
def extW (d:WayL)(i:Nat)(k:LnkL):WayL:=⟨d.l++[(i:Int)],d.c+k.c,true⟩
end Go.Inl
namespace Go.Inl
open Go Go.RowKit
def knB (kn:List Bool)(j:Nat):Bool:=kn.getD j false
theorem knB_set {kn:List Bool}{i j:Nat}(h:i < kn.length):knB (kn.set i true) j=if i=j then true else knB kn j:=by
 unfold knB;rw[uh,uh,List.getElem?_set];by_cases e:i=j
 · subst e; rw[ui rfl,ui h,ui rfl]; rfl
 · rw[ud e,ud e]
def relD (g:GrL)(m:NeedL)(j:Nat)(w:WayL)(kn:List Bool)(D:List WayL)(i:Nat)(k:LnkL):List WayL :=
 if k.f = g.vs.getD j 0 ∧ fitN k.n m = true then
  if knB kn (vIx g k.t)=false∧ltW (extW w i k) (lab D (vIx g k.t))=true then D.set (vIx g k.t) (extW w i k) else D
 else D
def relUp (g : GrL) (m : NeedL) (j : Nat) (w : WayL) (kn : List Bool) (D : List WayL) : Nat → List WayL
 | 0=>D
 | i+1=>match g.ls[i]? with
   | some k=>relD g m j w kn (relUp g m j w kn D i) i k
   | none=>relUp g m j w kn D i
def openL (D:List WayL)(kn:List Bool):List Nat:=(List.range D.length).filter fun j=>(lab D j).is && !knB kn j
def pickF (D:List WayL)(a x:Nat):Nat:=if ltW (lab D x) (lab D a)=true then x else a
def pickL (D : List WayL) : List Nat → Nat
 | []=>0
 | j::r=>r.foldl (pickF D) j
structure DjL where
 D:List WayL
 kn:List Bool
def roundD (g:GrL)(m:NeedL)(S:DjL):DjL :=
 ⟨relUp g m (pickL S.D (openL S.D S.kn)) (lab S.D (pickL S.D (openL S.D S.kn))) (S.kn.set (pickL S.D (openL S.D S.kn)) true) S.D g.ls.length,S.kn.set (pickL S.D (openL S.D S.kn)) true⟩
def dijk (g : GrL) (m : NeedL) : Nat → DjL → DjL
 | 0,S=>S
 | n+1,S=>if openL S.D S.kn=[] then S else dijk g m n (roundD g m S)
def zeroD (n:Nat):List WayL:=List.replicate n WayL.zero
def startL (g:GrL)(s:Int):List WayL:=if s∈g.vs then (zeroD g.vs.length).set (vIx g s) WayL.src else zeroD g.vs.length
def startD (g:GrL)(s:Int):DjL:=⟨startL g s,List.replicate g.vs.length false⟩
def waysP (g:GrL)(s:Int)(m:NeedL):List WayL:=(dijk g m g.vs.length (startD g s)).D
theorem yc (n j:Nat):lab (zeroD n) j=WayL.zero:=by
 unfold lab zeroD;rw[uh,List.getElem?_replicate];split <;> rfl
theorem zc (n:Nat):(zeroD n).length=n:=QW
theorem zj {g:GrL}{s:Int}{j:Nat}:lab (startL g s) j=if s∈g.vs∧vIx g s=j then WayL.src else WayL.zero:=by
 unfold startL;by_cases h:s∈g.vs
 · rw [ui h, ky (by rw [zc]; exact jt h)]
   by_cases e:vIx g s=j
   · rw[ui e,ui ⟨h,e⟩]
   · rw[ud e,ud (fun h2=>e h2.2),yc]
 · rw[ud h,ud (fun h2=>h h2.1),yc]
theorem kJ (g:GrL)(s:Int):(startL g s).length=g.vs.length:=by
 unfold startL;split
 · rw[QU,zc]
 · exact zc _
theorem kW {D:List WayL}{kn:List Bool}{j:Nat}:j∈openL D kn↔(lab D j).is=true∧knB kn j=false:=by
 unfold openL;rw[List.mem_filter,List.mem_range,xU,xT];constructor
 · rintro⟨_,h⟩; exact h
 · intro h
   refine⟨?_,h⟩;rcases Nat.lt_or_ge j D.length with g | g
   · exact g
   · have:=h.1; rw[lab_none g]at this; cases this
theorem pick_fold (D : List WayL) : ∀ (r : List Nat) (a : Nat), (lab D a).is = true → (∀ x ∈ r, (lab D x).is = true) →
 (r.foldl (pickF D) a=a∨r.foldl (pickF D) a∈r)∧∀x,x=a∨x∈r→keyLe (lab D (r.foldl (pickF D) a)).c (lab D (r.foldl (pickF D) a)).l (lab D x).c (lab D x).l
 | [],a,_,_=>⟨.inl rfl,fun x h=>by
   rcases h with rfl | h
   · exact le_refl' _ _
   · cases h⟩
 | y::r,a,ha,hr=>by
   rw[List.foldl_cons];have hy:=hr y (List.mem_cons_self ..);have hb:(lab D (pickF D a y)).is=true:=by unfold pickF; split <;> assumption
   obtain⟨h1,h2⟩:=pick_fold D r (pickF D a y) hb (fun x hx=>hr x (List.mem_cons_of_mem _ hx));have h3:=h2 _ (.inl rfl);have hle:keyLe (lab D (pickF D a y)).c (lab D (pickF D a y)).l (lab D a).c (lab D a).l∧keyLe (lab D (pickF D a y)).c (lab D (pickF D a y)).l (lab D y).c (lab D y).l:=by
    unfold pickF;split
    · rename_i h
      exact⟨le_of_lt ((vX.1 h).2 ha),le_refl' _ _⟩
    · rename_i h
      refine⟨le_refl' _ _,fun g=>h (vX.2 ⟨hy,fun _=>g⟩)⟩
   refine⟨?_,?_⟩
   · rcases h1 with h1 | h1
     · rw [h1]
       unfold pickF;split
       · exact .inr (List.mem_cons_self ..)
       · exact .inl rfl
     · exact .inr (List.mem_cons_of_mem _ h1)
   · rintro x (rfl | hx)
     · exact le_trans' h3 hle.1
     · rcases uq.1 hx with rfl | hx
       · exact le_trans' h3 hle.2
       · exact h2 x (.inr hx)
theorem pick_ok {D:List WayL}{kn:List Bool}(h:openL D kn≠[]):pickL D (openL D kn)∈openL D kn∧∀x∈openL D kn,keyLe (lab D (pickL D (openL D kn))).c (lab D (pickL D (openL D kn))).l (lab D x).c (lab D x).l:=by
 cases e:openL D kn with
 | nil=>exact absurd e h
 | cons j r =>
   have hm:∀x∈j::r,(lab D x).is=true:=fun x hx=>(kW.1 (by rw[e]; exact hx)).1
   obtain⟨h1,h2⟩:=pick_fold D r j (hm j (List.mem_cons_self ..)) (fun x hx=>hm x (List.mem_cons_of_mem _ hx));refine⟨?_,fun x hx=>h2 x (uq.1 hx)⟩;show r.foldl (pickF D) j∈_
   rcases h1 with h1 | h1
   · rw[h1]; exact List.mem_cons_self ..
   · exact List.mem_cons_of_mem _ h1
structure DInv (g : GrL) (m : NeedL) (s : Int) (S : DjL) (ord : List Nat) : Prop where
 lb:Lab g m s S.D
 klen:S.kn.length=g.vs.length
 kn:∀j,knB S.kn j=true↔j∈ord
 lt:∀j∈ord,j < g.vs.length
 src:s∈g.vs→lab S.D (vIx g s)=WayL.src
 least:∀j∈ord,∀v,g.vs[j]? = some v→(lab S.D j).is=true∧Best g m s v (lab S.D j)
 edge:∀j∈ord,∀(i:Nat) (k:LnkL),g.ls[i]? = some k→g.vs[j]? = some k.f→fitN k.n m=true→(lab S.D (vIx g k.t)).is=true∧keyLe (lab S.D (vIx g k.t)).c (lab S.D (vIx g k.t)).l (extW (lab S.D j) i k).c (extW (lab S.D j) i k).l
 pred:∀j,(lab S.D j).is=true→(lab S.D j=WayL.src)∨∃(q a i:Nat) (k:LnkL),ord[q]? = some a∧(∀p,ord[p]? = some j→q < p)∧g.ls[i]? = some k∧g.vs[a]? = some k.f∧g.vs[j]? = some k.t∧fitN k.n m=true∧lab S.D j=extW (lab S.D a) i k
theorem first_open {g:GrL}(hg:GrOk g){m:NeedL}{s:Int}{S:DjL}{ord:List Nat}(h:DInv g m s S ord)(hs:s∈g.vs):∀(n:Nat) (l:List Int),l.length=n→∀v c,walkW g m s l=some (v,c)→v∈g.vs∧(vIx g v∉ord→∃x,x∉ord∧(lab S.D x).is=true∧keyLe (lab S.D x).c (lab S.D x).l c l):=by
 refine snocI (p:=fun l=>∀v c,walkW g m s l=some (v,c)→v∈g.vs∧(vIx g v∉ord→∃x,x∉ord∧(lab S.D x).is=true∧keyLe (lab S.D x).c (lab S.D x).l c l)) ?_ ?_
 · intro v c h2
   rw[zv]at h2;cases h2
   refine⟨hs,fun hn=>⟨_,hn,?_,?_⟩⟩
   · rw[h.src hs]; rfl
   · rw[h.src hs]; exact le_refl' _ _
 · intro l i ih v c h2
   obtain⟨d,k,h3,h4,h5,h6,rfl,rfl⟩:=kI h2;obtain⟨hu,h7⟩:=ih _ _ h3;have hk:=uf h5;refine⟨(hg.ends k hk).2,fun hn=>?_⟩;have hi:((i.toNat:Nat):Int)=i:=Int.toNat_of_nonneg h4;by_cases hu2:vIx g k.f∈ord
   · have hv := kF hu
     obtain⟨h8,h9⟩:=h.edge _ hu2 i.toNat k h5 hv h6;obtain⟨h10,h11⟩:=(h.least _ hu2 _ hv).2 _ _ h3;refine⟨_,hn,h8,le_trans' h9 ?_⟩;show keyLe ((lab S.D (vIx g k.f)).c+k.c) ((lab S.D (vIx g k.f)).l++[((i.toNat:Nat):Int)]) _ _
     rw[hi];exact le_snoc k.c i h11
   · obtain ⟨x, h8, h9, h10⟩ := h7 hu2
     exact⟨x,h8,h9,le_trans' h10 (le_more (hg.cost k hk))⟩
end Go.Inl
namespace Go.Inl
open Go Go.RowKit
theorem key_src {c:Int}{l:List Int}(h:0≤c)(hl:l≠[]):keyLt 0 [] c l:=by
 rcases Int.lt_or_eq_of_le h with g | g
 · exact .inl g
 · exact .inr ⟨g,.inl (List.length_pos_iff.2 hl)⟩
structure RelI (g : GrL) (m : NeedL) (j : Nat) (w : WayL) (kn : List Bool) (D U : List WayL) (n : Nat) : Prop where
 len:U.length=D.length
 same:∀x,knB kn x=true→lab U x=lab D x
 form:∀x,lab U x=lab D x∨(knB kn x=false∧∃(i:Nat) (k:LnkL),g.ls[i]? = some k∧k.f=g.vs.getD j 0∧fitN k.n m=true∧vIx g k.t=x∧lab U x=extW w i k)
 le:∀x,(lab D x).is=true→(lab U x).is=true∧keyLe (lab U x).c (lab U x).l (lab D x).c (lab D x).l
 got:∀(i:Nat) (k:LnkL),i < n→g.ls[i]? = some k→k.f=g.vs.getD j 0→fitN k.n m=true→knB kn (vIx g k.t)=false→(lab U (vIx g k.t)).is=true∧keyLe (lab U (vIx g k.t)).c (lab U (vIx g k.t)).l (extW w i k).c (extW w i k).l
theorem rel_ok {g : GrL} (hg : GrOk g) {m : NeedL} {j : Nat} {w : WayL} {kn : List Bool} {D : List WayL} (hD : D.length = g.vs.length) : ∀ n, RelI g m j w kn D (relUp g m j w kn D n) n
 | 0=>⟨rfl,fun _ _=>rfl,fun _=>.inl rfl,fun x h=>⟨h,le_refl' _ _⟩,fun i k h=>by omega⟩
 | n+1=>by
   have ih:=rel_ok hg (m:=m) (j:=j) (w:=w) (kn:=kn) hD n;obtain⟨U,hU⟩:∃U,relUp g m j w kn D n=U:=⟨_,rfl⟩
   rw[hU]at ih;have stay:(∀k,g.ls[n]? = some k→k.f=g.vs.getD j 0→fitN k.n m=true→knB kn (vIx g k.t)=false→(lab U (vIx g k.t)).is=true∧keyLe (lab U (vIx g k.t)).c (lab U (vIx g k.t)).l (extW w n k).c (extW w n k).l)→RelI g m j w kn D U (n+1):=fun h=>by
    refine⟨ih.len,ih.same,ih.form,ih.le,fun i k hi h1 h2 h3 h4=>?_⟩;rcases Qk.1 hi with e | e
    · exact ih.got i k e h1 h2 h3 h4
    · subst e; exact h k h1 h2 h3 h4
   unfold relUp;rw[hU];cases hk:g.ls[n]? with
   | none =>
     dsimp only;exact stay fun k h=>by rw[hk]at h; cases h
   | some k =>
     dsimp only;unfold relD;by_cases hc:k.f=g.vs.getD j 0∧fitN k.n m=true
     · rw [ui hc]
       by_cases hd:knB kn (vIx g k.t)=false∧ltW (extW w n k) (lab U (vIx g k.t))=true
       · rw [ui hd]
         have hx:vIx g k.t < U.length:=by rw[ih.len,hD]; exact jt (hg.ends k (uf hk)).2
         have hlt:=(vX.1 hd.2).2;refine⟨by rw[QU]; exact ih.len,fun x h=>?_,fun x=>?_,fun x h=>?_,fun i k' hi h1 h2 h3 h4=>?_⟩
         · rw [ky hx, ud (fun e => by subst e; rw [hd.1] at h; cases h)]
           exact ih.same x h
         · rw [ky hx]
           by_cases e:vIx g k.t=x
           · rw [ui e]
             exact .inr ⟨by rw[← e]; exact hd.1,n,k,hk,hc.1,hc.2,e,rfl⟩
           · rw [ud e]
             exact ih.form x
         · rw [ky hx]
           obtain⟨h1,h2⟩:=ih.le x h;by_cases e:vIx g k.t=x
           · rw [ui e]
             subst e;exact⟨rfl,le_trans' (le_of_lt (hlt h1)) h2⟩
           · rw[ud e]; exact⟨h1,h2⟩
         · rw [ky hx]
           by_cases e:vIx g k.t=vIx g k'.t
           · rw [ui e]
             rcases Qk.1 hi with e' | e'
             · obtain ⟨h5, h6⟩ := ih.got i k' e' h1 h2 h3 h4
               rw[← e]at h5 h6;exact⟨rfl,le_trans' (le_of_lt (hlt h5)) h6⟩
             · subst e'
               rw[hk]at h1; cases h1
               exact⟨rfl,le_refl' _ _⟩
           · rw [ud e]
             rcases Qk.1 hi with e' | e'
             · exact ih.got i k' e' h1 h2 h3 h4
             · subst e'
               rw[hk]at h1; cases h1
               exact absurd rfl e
       · rw [ud hd]
         refine stay fun k' h1 h2 h3 h4=>?_
         rw[hk]at h1; cases h1
         have h5:¬ltW (extW w n k) (lab U (vIx g k.t))=true:=fun h=>hd ⟨h4,h⟩
         rw[vX]at h5;cases h6:(lab U (vIx g k.t)).is
         · exact absurd ⟨rfl,fun h=>by rw[h6]at h; cases h⟩ h5
         · exact⟨rfl,fun h=>h5 ⟨rfl,fun _=>h⟩⟩
     · rw [ud hc]
       refine stay fun k' h1 h2 h3 h4=>?_
       rw[hk]at h1; cases h1
       exact absurd ⟨h2,h3⟩ hc
theorem round_ok {g : GrL} (hg : GrOk g) {m : NeedL} {s : Int} {S : DjL} {ord : List Nat} (h : DInv g m s S ord) (hs : s ∈ g.vs) (ho : openL S.D S.kn ≠ []) :
 knB S.kn (pickL S.D (openL S.D S.kn))=false∧pickL S.D (openL S.D S.kn) < S.kn.length∧DInv g m s (roundD g m S) (ord++[pickL S.D (openL S.D S.kn)]):=by
 obtain⟨hp1,hp2⟩:=pick_ok ho;obtain⟨j,hj⟩:∃j,pickL S.D (openL S.D S.kn)=j:=⟨_,rfl⟩
 unfold roundD;rw[hj]at hp1 hp2 ⊢;obtain⟨hji,hjk⟩:=kW.1 hp1;have hjl:j < S.D.length:=by
  rcases Nat.lt_or_ge j S.D.length with e | e
  · exact e
  · rw[lab_none e]at hji; cases hji
 have hjn:j < g.vs.length:=by rw[← h.lb.len]; exact hjl
 have hjK:j < S.kn.length:=by rw[h.klen]; exact hjn
 obtain⟨v,hv⟩:∃v,g.vs[j]? = some v:=⟨_,xW hjn⟩
 have hvg:g.vs.getD j 0=v:=by rw[uh,hv]; rfl
 have hjo:j∉ord:=fun e=>by rw[(h.kn j).2 e]at hjk; cases hjk
 have hw:=h.lb.real j v hv hji;have R:=rel_ok hg (m:=m) (j:=j) (w:=lab S.D j) (kn:=S.kn.set j true) h.lb.len g.ls.length;obtain⟨U,hU⟩:∃U,relUp g m j (lab S.D j) (S.kn.set j true) S.D g.ls.length=U:=⟨_,rfl⟩
 rw[hU]at R ⊢;have hkn:∀x,knB (S.kn.set j true) x=true↔x∈ord++[j]:=fun x=>by
  rw[knB_set hjK,uX,uL];by_cases e:j=x
  · rw[ui e]; exact⟨fun _=>.inr e.symm,fun _=>rfl⟩
  · rw[ud e,h.kn x]; exact⟨.inl,fun h=>h.elim id fun h=>absurd h.symm e⟩
 have sameO:∀a∈ord++[j],lab U a=lab S.D a:=fun a ha=>R.same a ((hkn a).2 ha)
 have bestJ:Best g m s v (lab S.D j):=fun l c hl=>by
  obtain⟨_,h2⟩:=first_open hg h hs _ l rfl v c hl;obtain⟨x,h3,h4,h5⟩:=h2 (by rw[kR hg hv]; exact hjo);refine⟨hji,le_trans' (hp2 x (kW.2 ⟨h4,?_⟩)) h5⟩;cases e:knB S.kn x with
  | false=>rfl
  | true=>exact absurd ((h.kn x).1 e) h3
 have leastN:∀a∈ord++[j],∀u,g.vs[a]? = some u→(lab U a).is=true∧Best g m s u (lab U a):=fun a ha u hu=>by
  rw[sameO a ha];rcases uX.1 ha with h1 | h1
  · exact h.least a h1 u hu
  · rw [uL] at h1; subst h1
    rw[hv]at hu; cases hu
    exact⟨hji,bestJ⟩
 refine⟨hjk,hjK,⟨⟨R.len.trans h.lb.len,?_,?_⟩,by rw[QU]; exact h.klen,hkn,?_,?_,leastN,?_,?_⟩⟩
 · intro x u hu hx
   rcases R.form x with e | ⟨_,i,k,h1,h2,h3,h4,h5⟩
   · show walkW g m s (lab U x).l = some (u, (lab U x).c)
     rw[e];exact h.lb.real x u hu (by rw[← e]; exact hx)
   · show walkW g m s (lab U x).l = some (u, (lab U x).c)
     rw[h5];have h6:=kF (hg.ends k (uf h1)).2;rw[h4,hu]at h6;have h7:u=k.t:=Option.some.inj h6;rw[h7];exact vg (by rw[h2,hvg]; exact hw) h1 h3
 · intro x hx
   rcases R.form x with e | ⟨_,i,k,_,_,_,_,h5⟩
   · show lab U x = _
     rw[e];exact h.lb.zero x (by rw[← e]; exact hx)
   · have hx' : (lab U x).is = false := hx
     rw[h5]at hx'; cases hx'
 · intro a ha
   rcases uX.1 ha with h1 | h1
   · exact h.lt a h1
   · rw[uL]at h1; subst h1; exact hjn
 · intro _
   show lab U _=_
   have h1:=h.src hs;rcases R.form (vIx g s) with e | ⟨_,i,k,h2,h3,h4,h5,h6⟩
   · rw[e,h1]
   · obtain ⟨_, h7⟩ := R.le (vIx g s) (by rw [h1]; rfl)
     rw[h1,h6]at h7;have h8:=walk_cost hg _ _ rfl _ _ hw;have h9:=hg.cost k (uf h2);exact absurd (key_src (c:=(lab S.D j).c+k.c) (l:=(lab S.D j).l++[(i:Int)]) (by omega) (by simp)) h7
 · intro a ha i k h1 h2 h3
   show(lab U _).is=true∧keyLe (lab U _).c (lab U _).l (extW (lab U a) i k).c (extW (lab U a) i k).l
   rw[sameO a ha];rcases uX.1 ha with h4 | h4
   · obtain ⟨h5, h6⟩ := h.edge a h4 i k h1 h2 h3
     obtain⟨h7,h8⟩:=R.le _ h5;exact⟨h7,le_trans' h8 h6⟩
   · rw [uL] at h4; subst h4
     rw[hv]at h2;have h5:v=k.f:=Option.some.inj h2;cases e:knB (S.kn.set a true) (vIx g k.t) with
     | false=>exact R.got i k (uc.1 h1).1 h1 (by rw[hvg,h5]) h3 e
     | true =>
       have h6:=kF (hg.ends k (uf h1)).2;obtain⟨h7,h8⟩:=leastN _ ((hkn _).1 e) _ h6;have h9:=h8 _ _ (vg (g:=g) (m:=m) (s:=s) (l:=(lab S.D a).l) (d:=(lab S.D a).c) (by rw[hw,h5]) h1 h3);exact h9
 · intro x hx
   have hx':(lab U x).is=true:=hx;show lab U x=_∨∃(q a i:Nat) (k:LnkL),(ord++[j])[q]? = some a∧(∀p,(ord++[j])[p]? = some x→q < p)∧g.ls[i]? = some k∧g.vs[a]? = some k.f∧g.vs[x]? = some k.t∧fitN k.n m=true∧lab U x=extW (lab U a) i k
   rcases R.form x with e | ⟨h0,i,k,h1,h2,h3,h4,h5⟩
   · rw [e] at hx' ⊢
     rcases h.pred x hx' with h1 | ⟨q,a,i,k,h1,h2,h3,h4,h5,h6,h7⟩
     · exact .inl h1
     · have hq := (uc.1 h1).1
       refine .inr ⟨q,a,i,k,by rw[Qc hq]; exact h1,fun p hp=>?_,h3,h4,h5,h6,by rw[sameO a (List.mem_append_left _ (uf h1))]; exact h7⟩;by_cases hpl:p < ord.length
       · rw[Qc hpl]at hp; exact h2 p hp
       · omega
   · refine .inr ⟨ord.length, j, i, k, by rw [Qb (uV _), Nat.sub_self]; rfl, fun p hp => ?_, h1, by rw [h2, hvg]; exact hv, by rw [← h4]; exact kF (hg.ends k (uf h1)).2, h3, by rw [h5, sameO j (by simp)]⟩
     have:=(hkn x).2 (uf hp);rw[h0]at this; cases this
def cntF (kn:List Bool):Nat:=kn.count false
theorem cnt_set : ∀ {kn : List Bool} {j : Nat}, j < kn.length → knB kn j = false → cntF (kn.set j true) + 1 = cntF kn
 | [],j,h,_=>by simp at h
 | b::r,0,_,h=>by
   have hb:b=false:=h;subst hb;simp[cntF]
 | b::r,j+1,h,h2=>by
   have ih:=cnt_set (kn:=r) (j:=j) (by simpa using h) h2;unfold cntF at ih ⊢;rw[List.set_cons_succ,List.count_cons,List.count_cons];omega
theorem cnt_zero {kn:List Bool}{j:Nat}(h:cntF kn=0)(hj:j < kn.length):knB kn j=true:=by
 cases e:knB kn j with
 | true=>rfl
 | false=>have:=cnt_set hj e; omega
theorem dijk_ok {g : GrL} (hg : GrOk g) {m : NeedL} {s : Int} (hs : s ∈ g.vs) : ∀ (n : Nat) (S : DjL) (ord : List Nat), DInv g m s S ord → cntF S.kn ≤ n → ∃ ord', DInv g m s (dijk g m n S) ord' ∧ openL (dijk g m n S).D (dijk g m n S).kn = [] ∧ ord'.length + cntF (dijk g m n S).kn = ord.length + cntF S.kn
 | 0,S,ord,h,hn=>by
   refine⟨ord,h,?_,rfl⟩;show openL S.D S.kn=[]
   rw[List.eq_nil_iff_forall_not_mem];intro x hx;obtain⟨h1,h2⟩:=kW.1 hx;have hxl:x < S.kn.length:=by
    rw[h.klen,← h.lb.len];rcases Nat.lt_or_ge x S.D.length with e | e
    · exact e
    · rw[lab_none e]at h1; cases h1
   rw[cnt_zero (by omega) hxl]at h2; cases h2
 | n+1,S,ord,h,hn=>by
   unfold dijk;by_cases ho:openL S.D S.kn=[]
   · rw[ui ho]; exact⟨ord,h,ho,rfl⟩
   · rw [ud ho]
     obtain⟨h1,h2,h3⟩:=round_ok hg h hs ho;have hc:=cnt_set h2 h1;have hc2:cntF (roundD g m S).kn+1=cntF S.kn:=hc;obtain⟨ord',h4,h5,h6⟩:=dijk_ok hg hs n _ _ h3 (by omega);refine⟨ord',h4,h5,?_⟩;rw[ug,QH]at h6;omega
theorem vO {g:GrL}(hg:GrOk g)(m:NeedL){s:Int}(hs:s∈g.vs):DInv g m s (startD g s) []:=by
 have hk:∀j,knB (List.replicate g.vs.length false) j=false:=fun j=>by
  unfold knB;rw[uh,List.getElem?_replicate];split <;> rfl
 refine⟨⟨kJ g s,?_,?_⟩,QW,?_,fun j h=>(by cases h),?_,fun j h=>(by cases h),fun j h=>(by cases h),?_⟩
 · intro j v hv hi
   have hi':(lab (startL g s) j).is=true:=hi;show walkW g m s (lab (startL g s) j).l=some (v,(lab (startL g s) j).c)
   rw[zj]at hi' ⊢;split at hi'
   · rename_i hc
     rw[ui hc];have h1:=kF hs;rw[hc.2,hv]at h1;rw[Option.some.inj h1];exact zv g m s
   · cases hi'
 · intro j hi
   have hi':(lab (startL g s) j).is=false:=hi;show lab (startL g s) j=_
   rw[zj]at hi' ⊢;split at hi'
   · cases hi'
   · rename_i hc; rw[ud hc]
 · intro j
   show knB (List.replicate g.vs.length false) j=true↔j∈[]
   rw[hk]; simp
 · intro _
   show lab (startL g s) _=_
   rw[zj,ui ⟨hs,rfl⟩]
 · intro j hi
   have hi':(lab (startL g s) j).is=true:=hi;left
   show lab (startL g s) j=_
   rw[zj]at hi' ⊢;split at hi'
   · rename_i hc; rw[ui hc]
   · cases hi'
structure Ranked (g : GrL) (m : NeedL) (s : Int) (D : List WayL) (ord : List Nat) : Prop where
 opt:Opt g m s D
 few:ord.length≤g.vs.length
 all:∀j,(lab D j).is=true→j∈ord
 src:lab D (vIx g s)=WayL.src
 pred:∀j,(lab D j).is=true→(lab D j=WayL.src)∨∃(q a i:Nat) (k:LnkL),ord[q]? = some a∧(∀p,ord[p]? = some j→q < p)∧g.ls[i]? = some k∧g.vs[a]? = some k.f∧g.vs[j]? = some k.t∧fitN k.n m=true∧lab D j=extW (lab D a) i k
theorem zu {g:GrL}(hg:GrOk g)(m:NeedL){s:Int}(hs:s∈g.vs):∃ord,Ranked g m s (waysP g s m) ord:=by
 obtain⟨ord,h,ho,hc⟩:=dijk_ok hg (m:=m) hs g.vs.length (startD g s) [] (vO hg m hs) (by show cntF (List.replicate g.vs.length false)≤_; simp[cntF]);have hall:∀j,(lab (waysP g s m) j).is=true→j∈ord:=fun j hj=>by
  cases e:knB (dijk g m g.vs.length (startD g s)).kn j with
  | true=>exact(h.kn j).1 e
  | false =>
    have h9:j∈([]:List Nat):=by rw[← ho]; exact kW.2 ⟨hj,e⟩
    cases h9
 refine⟨ord,⟨h.lb,fun j v hv=>?_⟩,?_,hall,h.src hs,h.pred⟩
 · cases e:(lab (waysP g s m) j).is with
   | true=>exact(h.least j (hall j e) v hv).2
   | false =>
     intro l c hl;obtain⟨_,h1⟩:=first_open hg h hs _ l rfl v c hl;rw[kR hg hv]at h1;by_cases hj:j∈ord
     · have h2 := (h.least j hj v hv).1
       have h3:(lab (waysP g s m) j).is=true:=h2;rw[e]at h3; cases h3
     · obtain ⟨x, h2, h3, _⟩ := h1 hj
       exact absurd (hall x h3) h2
 · have h2 : cntF (startD g s).kn = g.vs.length := by show cntF (List.replicate g.vs.length false) = _; simp [cntF]
   rw[h2]at hc;simp at hc
   omega
end Go.Inl
namespace Go.Inl
open Go Go.RowKit
theorem vIx_no {g:GrL}{s:Int}(h:s∉g.vs)(n:Nat)(S:DjL)(hS:S=startD g s)(m:NeedL):dijk g m n S=S:=by
 subst hS;cases n with
 | zero=>rfl
 | succ n =>
   unfold dijk;rw[ui];rw[List.eq_nil_iff_forall_not_mem];intro x hx;have h1:=(kW.1 hx).1;have h2:(lab (startL g s) x).is=true:=h1;rw[zj,ud (fun h3=>h h3.1)]at h2;cases h2
theorem ways_no {g:GrL}{s:Int}(h:s∉g.vs)(m:NeedL):waysP g s m=zeroD g.vs.length:=by
 unfold waysP;rw[vIx_no h _ _ rfl];show startL g s=_
 unfold startL;rw[ud h]
end Go.Inl
namespace Go.Inl
open Go Go.RowKit
def cmpI (a b:Int):Int:=if a < b then -1 else if b < a then 1 else 0
def cmpL : List Int → List Int → Int
 | [],[]=>0
 | [],_::_=>-1
 | _::_,[]=>1
 | a::x,b::y=>if a < b then -1 else if b < a then 1 else cmpL x y
def orI (a b:Int):Int:=if a≠0 then a else b
def cmpW (d e:WayL):Int:=if d.is≠e.is then (if d.is=true then -1 else 1) else orI (cmpI d.c e.c) (orI (cmpI (d.l.length:Int) (e.l.length:Int)) (cmpL d.l e.l))
theorem cmpL_lt : ∀ {a b : List Int}, cmpL a b < 0 ↔ ltL a b = true
 | [],[]=>by simp[cmpL,ltL]
 | [],_::_=>by simp[cmpL,ltL]
 | _::_,[]=>by simp[cmpL,ltL]
 | a::x,b::y=>by
   unfold cmpL ltL;by_cases h:a < b
   · rw[ui h,ui h]; simp
   · by_cases h2 : b < a
     · rw[ud h,ui h2,ud h,ud (by omega)]; simp
     · rw[ud h,ud h2,ud h,ui (by omega)]; exact cmpL_lt
theorem cmpL_eq : ∀ {a b : List Int}, cmpL a b = 0 ↔ a = b
 | [],[]=>by simp[cmpL]
 | [],_::_=>by simp[cmpL]
 | _::_,[]=>by simp[cmpL]
 | a::x,b::y=>by
   unfold cmpL;by_cases h:a < b
   · rw [ui h]; constructor
     · intro h2; omega
     · intro h2; have:=(List.cons.inj h2).1; omega
   · by_cases h2 : b < a
     · rw [ud h, ui h2]; constructor
       · intro h2; omega
       · intro h2; have:=(List.cons.inj h2).1; omega
     · rw [ud h, ud h2, cmpL_eq]
       have e:a=b:=by omega
       subst e; simp
theorem cmpW_lt {d e:WayL}(h:d.is=true):cmpW d e < 0↔ltW d e=true:=by
 unfold cmpW ltW;rw[h];cases he:e.is
 · simp
 · rw [ud (by simp), ud (by simp)]
   have hz:=cmpL_lt (a:=d.l) (b:=e.l);unfold orI cmpI;rcases Int.lt_trichotomy d.c e.c with h1 | h1 | h1
   · have h2 : ¬ d.c = e.c := by omega
     simp[h1,h2]
   · have h2 : ¬ d.c < e.c := by omega
     have h3:¬e.c < d.c:=by omega
     simp only[h2,h3,h1,if_false,ne_eq,not_true_eq_false,if_true];rcases Nat.lt_trichotomy d.l.length e.l.length with h4 | h4 | h4
     · have h5 : ¬ d.l.length = e.l.length := by omega
       have h6:(d.l.length:Int) < (e.l.length:Int):=by omega
       simp[h4,h5,h6]
     · have h5 : ¬ (d.l.length : Int) < (e.l.length : Int) := by omega
       have h6:¬(e.l.length:Int) < (d.l.length:Int):=by omega
       simp only[h5,h6,h4,if_false,ne_eq,not_true_eq_false,if_true,Int.lt_irrefl];exact hz
     · have h5 : ¬ d.l.length = e.l.length := by omega
       have h6:¬(d.l.length:Int) < (e.l.length:Int):=by omega
       have h7:(e.l.length:Int) < (d.l.length:Int):=by omega
       have h8:¬d.l.length < e.l.length:=by omega
       simp[h5,h6,h7,h8]
   · have h2 : ¬ d.c = e.c := by omega
     have h3:¬d.c < e.c:=by omega
     simp[h1,h2,h3]
theorem cmpI_z {a b:Int}:cmpI a b=0↔a=b:=by
 unfold cmpI;constructor
 · intro h
   split at h
   · omega
   · split at h <;> omega
 · intro h; subst h; rw[ud (Int.lt_irrefl _),ud (Int.lt_irrefl _)]
theorem cmpW_eq {d e:WayL}:cmpW d e=0↔d=e:=by
 unfold cmpW orI;constructor
 · intro h
   by_cases h0:d.is=e.is
   · rw [ud (by simp [h0])] at h
     have h1:cmpI d.c e.c=0:=by
      by_cases g:cmpI d.c e.c=0
      · exact g
      · rw[ui g]at h; exact absurd h g
     rw[ud (by simp[h1])]at h;have h2:cmpI (d.l.length:Int) (e.l.length:Int)=0:=by
      by_cases g:cmpI (d.l.length:Int) (e.l.length:Int)=0
      · exact g
      · rw[ui g]at h; exact absurd h g
     rw[ud (by simp[h2])]at h;exact way_eq h0 (cmpI_z.1 h1) (cmpL_eq.1 h)
   · rw [ui h0] at h
     split at h <;> omega
 · intro h
   subst h;rw[ud (by simp),ud (by simp[cmpI_z]),ud (by simp[cmpI_z])];exact cmpL_eq.2 rfl
def minF (a:WayL)(l:List WayL):WayL:=l.foldl (fun m x=>if cmpW x m < 0 then x else m) a
theorem minF_snoc (a:WayL)(l:List WayL)(x:WayL):minF a (l++[x])=if cmpW x (minF a l) < 0 then x else minF a l:=by unfold minF; rw[List.foldl_append]; rfl
theorem minF_pick (D : List WayL) : ∀ (r : List Nat) (a : Nat), (lab D a).is = true → (∀ x ∈ r, (lab D x).is = true) → minF (lab D a) (r.map (lab D)) = lab D (r.foldl (pickF D) a)
 | [],a,_,_=>rfl
 | y::r,a,ha,hr=>by
   have hy:=hr y (List.mem_cons_self ..);have e:(if cmpW (lab D y) (lab D a) < 0 then lab D y else lab D a)=lab D (pickF D a y):=by
    unfold pickF;by_cases h:ltW (lab D y) (lab D a)=true
    · rw[ui h,ui ((cmpW_lt hy).2 h)]
    · rw[ud h,ud (fun g=>h ((cmpW_lt hy).1 g))]
   show minF (if cmpW (lab D y) (lab D a) < 0 then lab D y else lab D a) (r.map (lab D))=_
   rw[e,List.foldl_cons];refine minF_pick D r _ ?_ (fun x hx=>hr x (List.mem_cons_of_mem _ hx));unfold pickF;split <;> assumption
theorem lab_inj {g:GrL}(hg:GrOk g){m:NeedL}{s:Int}{D:List WayL}(h:Lab g m s D){a b:Nat}(ha:(lab D a).is=true)(hb:(lab D b).is=true)(e:lab D a=lab D b):a=b:=by
 have lt:∀ {j},(lab D j).is=true→j < g.vs.length:=fun {j} hj=>by
  rcases Nat.lt_or_ge j D.length with g | g
  · rw[← h.len]; exact g
  · rw[lab_none g]at hj; cases hj
 obtain⟨u,hu⟩:∃v,g.vs[a]? = some v:=⟨_,xW (lt ha)⟩
 obtain⟨v,hv⟩:∃v,g.vs[b]? = some v:=⟨_,xW (lt hb)⟩
 have h1:=h.real a u hu ha;have h2:=h.real b v hv hb;rw[e,h2]at h1;have h3:v=u:=(Prod.mk.inj (Option.some.inj h1)).1;subst h3;rw[← kR hg hu,kR hg hv]
theorem pick_found {g:GrL}(hg:GrOk g){m:NeedL}{s:Int}{D:List WayL}(h:Lab g m s D){kn:List Bool}{p j:Nat}(ho:openL D kn≠[])(hp:(openL D kn)[p]? = some j)(he:lab D j=lab D (pickL D (openL D kn))):j=pickL D (openL D kn) :=
 lab_inj hg h (kW.1 (uf hp)).1 (kW.1 (pick_ok ho).1).1 he
theorem min_open {D:List WayL}{kn:List Bool}{j:Nat}{r:List Nat}(h:openL D kn=j::r):minF (lab D j) (r.map (lab D))=lab D (pickL D (openL D kn)):=by
 have hm:∀x∈j::r,(lab D x).is=true:=fun x hx=>(kW.1 (by rw[h]; exact hx)).1
 rw[h];exact minF_pick D r j (hm j (List.mem_cons_self ..)) (fun x hx=>hm x (List.mem_cons_of_mem _ hx))
end Go.Inl
