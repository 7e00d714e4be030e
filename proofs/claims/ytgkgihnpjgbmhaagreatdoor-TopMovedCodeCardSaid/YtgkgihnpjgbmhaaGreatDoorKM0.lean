/- The automaton of all pieces of a text, in plain Lean. Conditions: none. The cheapest steps: what they are, and the two lists that keep the least places. Conditions: none. -/
import Derived.Test.YtgkgihnpjgbmhaaGreatDoorKCore2
set_option linter.unusedSimpArgs false
set_option linter.unusedVariables false
namespace Go.Inl
structure Sst where
 nx:Int→Option Nat
 lk:Option Nat
 ln:Nat
 en:Nat
def loA (f:Nat→Sst)(v:Nat):Nat:=match (f v).lk with | none=>0 | some u=>(f u).ln+1
def inC (f:Nat→Sst)(str:Nat→List Int)(v:Nat)(w:List Int):Prop:=w <:+ str v∧loA f v≤w.length
structure SaOk (f : Nat → Sst) (D : Nat → Prop) (str : Nat → List Int) (s : List Int) : Prop where
 len:D 0
 root:(f 0).lk=none
 str0:str 0=[]
 sl:∀v,D v→(str v).length=(f v).ln
 lk:∀v,D v→v≠0→∃u,(f v).lk=some u∧D u∧str u <:+ str v∧(f u).ln < (f v).ln
 en:∀v,D v→(f v).en≤s.length∧str v <:+ s.take (f v).en
 cov:∀w,w <:+: s→∃v,D v∧inC f str v w
 uni:∀v v' w,D v→D v'→inC f str v w→inC f str v' w→v=v'
 snd:∀v c u,D v→(f v).nx c=some u→D u∧∀w,inC f str v w→inC f str u (w++[c])
 cmp:∀v w c,D v→inC f str v w→w++[c] <:+: s→∃u,(f v).nx c=some u
theorem ju {x y s:List Int}(hx:x <:+ s)(hy:y <:+ s)(h:x.length≤y.length):x <:+ y:=List.suffix_of_suffix_length_le hx hy h
theorem jJ {x y:List Int}{c:Int}:x++[c] <:+ y++[c]↔x <:+ y:=by
 constructor
 · rintro ⟨p, hp⟩
   rw[← uh]at hp;exact⟨p,(List.append_inj' hp rfl).1⟩
 · rintro ⟨p, hp⟩
   exact⟨p,by rw[← uh,hp]⟩
theorem zi {x y:List Int}{c d:Int}(h:x++[c] <:+ y++[d]):c=d:=by
 obtain⟨p,hp⟩:=h;rw[← uh]at hp;have:=(List.append_inj' hp rfl).2;injection this
theorem inf_snoc {w s:List Int}{c:Int}(h:w <:+: s++[c]):w <:+: s∨w <:+ s++[c]:=by
 obtain⟨p,q,hq⟩:=h;rcases List.eq_nil_or_concat q with rfl | ⟨q,d,rfl⟩
 · exact .inr ⟨p,by simpa using hq⟩
 · rw [List.concat_eq_append, ← uh] at hq
   exact .inl ⟨p,q,(List.append_inj' hq rfl).1⟩
theorem yc {w s:List Int}{c:Int}(h:w <:+ s++[c]):w=[]∨∃t,w=t++[c]∧t <:+ s:=by
 rcases List.eq_nil_or_concat w with rfl | ⟨t,d,rfl⟩
 · exact .inl rfl
 · rw [List.concat_eq_append] at h ⊢
   obtain rfl:=zi h;exact .inr ⟨t,rfl,jJ.1 h⟩
theorem inf_init {w s:List Int}{c d:Int}(h:w++[d] <:+: s++[c]):w <:+: s:=by
 rcases inf_snoc h with h | h
 · exact(List.prefix_append w [d]).isInfix.trans h
 · obtain rfl := zi h
   exact(jJ.1 h).isInfix
theorem qY (x:List Int)(c:Int):(x++[c]).length=x.length+1:=by rw[xN]; rfl
section
variable {f:Nat→Sst} {D:Nat→Prop} {str:Nat→List Int} {s:List Int}
theorem SaOk.lo_le (h:SaOk f D str s){v:Nat}(hv:D v):loA f v≤(f v).ln:=by
 unfold loA;by_cases e:v=0
 · subst e; rw[h.root]; exact Nat.zero_le _
 · obtain ⟨u, h1, _, _, h4⟩ := h.lk v hv e
   rw[h1]; exact h4
theorem SaOk.self (h:SaOk f D str s){v:Nat}(hv:D v):inC f str v (str v):=⟨List.suffix_refl _,by rw[h.sl v hv]; exact h.lo_le hv⟩
theorem SaOk.infS (h:SaOk f D str s){v:Nat}(hv:D v):str v <:+: s:=((h.en v hv).2).isInfix.trans (List.take_prefix _ _).isInfix
theorem SaOk.inf (h:SaOk f D str s){v:Nat}(hv:D v){w:List Int}(hw:inC f str v w):w <:+: s:=hw.1.isInfix.trans (h.infS hv)
theorem SaOk.zero (h:SaOk f D str s){w:List Int}(hw:inC f str 0 w):w=[]:=by
 have:=hw.1;rw[h.str0]at this;exact List.suffix_nil.1 this
theorem SaOk.ln0 (h:SaOk f D str s):(f 0).ln=0:=by rw[← h.sl 0 h.len,h.str0]; rfl
theorem SaOk.nil (h:SaOk f D str s):inC f str 0 []:=by
 have:=h.self h.len;rwa [h.str0]at this
theorem SaOk.ne0 (h:SaOk f D str s){v:Nat}(hv:D v){x:List Int}{c:Int}(hx:inC f str v (x++[c])):v≠0:=fun e=>by
 subst e;have:=congrArg List.length (h.zero hx);simp at this
theorem inC.le (h:SaOk f D str s){v:Nat}(hv:D v){w:List Int}(hw:inC f str v w):w.length≤(f v).ln:=by rw[← h.sl v hv]; exact hw.1.length_le
theorem SaOk.chain (h:SaOk f D str s):∀(n v:Nat),(f v).ln≤n→D v→∀t,t <:+ str v→∃u,D u∧inC f str u t∧str u <:+ str v:=by
 intro n;induction n with
 | zero =>
   intro v hn hv t ht;have:loA f v≤t.length:=by have:=h.lo_le hv; omega
   exact⟨v,hv,⟨ht,this⟩,List.suffix_refl _⟩
 | succ n ih =>
   intro v hn hv t ht;by_cases hl:loA f v≤t.length
   · exact⟨v,hv,⟨ht,hl⟩,List.suffix_refl _⟩
   · have hv0 : v ≠ 0 := fun e => by subst e; unfold loA at hl; rw [h.root] at hl; exact hl (Nat.zero_le _)
     obtain⟨u,h1,h2,h3,h4⟩:=h.lk v hv hv0;have hl2:t.length≤(f u).ln:=by unfold loA at hl; rw[h1]at hl; dsimp only at hl; omega
     obtain⟨x,x1,x2,x3⟩:=ih u (by omega) h2 t (ju ht h3 (by rw[h.sl u h2]; exact hl2));exact⟨x,x1,x2,x3.trans h3⟩
theorem SaOk.inEnd (h:SaOk f D str s){last:Nat}(hl:D last)(hs:str last=s){t:List Int}(ht:t <:+ s):∃v,D v∧inC f str v t∧str v <:+ s:=by
 obtain⟨u,h1,h2,h3⟩:=h.chain _ last (uc _) hl t (by rw[hs]; exact ht);exact⟨u,h1,h2,by rw[← hs]; exact h3⟩
theorem SaOk.end_ (h:SaOk f D str s){last:Nat}(hl:D last)(hs:str last=s){v:Nat}(hv:D v){t:List Int}(ht:t <:+ s)(hc:inC f str v t):str v <:+ s:=by
 obtain⟨u,h1,h2,h3⟩:=h.inEnd hl hs ht;rw[h.uni v u t hv h1 hc h2]; exact h3
theorem inC_between {v:Nat}{x y z:List Int}(hx:inC f str v x)(hz:z <:+ str v)(h1:x <:+ y)(h2:y <:+ z):inC f str v y:=⟨h2.trans hz,Nat.le_trans hx.2 h1.length_le⟩
def atEnd (f:Nat→Sst)(str:Nat→List Int)(s:List Int)(m v:Nat):Prop:=∃t,t <:+ s∧m≤t.length∧inC f str v t
structure Grows (f : Nat → Sst) (D : Nat → Prop) (str : Nat → List Int) (s : List Int) (c : Int) (m q N : Nat) (g : Nat → Sst) : Prop where
 new:g N=⟨fun _=>none,some q,s.length+1,s.length+1⟩
 nx:∀v,D v→∀k,¬(k=c∧atEnd f str s m v)→(g v).nx k=(f v).nx k
 put:∀v,D v→atEnd f str s m v→(g v).nx c=some N
 lk:∀v,D v→(g v).lk=(f v).lk
 ln:∀v,D v→(g v).ln=(f v).ln
 en:∀v,D v→(g v).en=(f v).en
theorem Grows.ok {c : Int} {m q N last : Nat} {g : Nat → Sst} (h : SaOk f D str s) (hl : D last) (hs : str last = s) (r : Grows f D str s c m q N g) (hNn : ¬ D N) (hq : D q) (hqs : str q <:+ s ++ [c]) (hm : (f q).ln = m)
 (h1:∀t,t <:+ s→m≤t.length→¬t++[c] <:+: s) (h2:∀t,t <:+ s→t.length < m→t++[c] <:+: s) :
 SaOk g (fun v=>D v∨v=N) (fun v=>if v=N then s++[c] else str v) (s++[c]):=by
 have hne:∀v,D v→v≠N:=fun v hv e=>hNn (e▸hv)
 have hN:∀v,D v→(if v=N then s++[c] else str v)=str v:=fun v hv=>xP (hne v hv)
 have hms:m≤s.length:=by
  have h3:=hqs.length_le;rw[h.sl q hq,hm,qY]at h3;rcases Nat.lt_or_ge s.length m with e | e
  · have := (h2 s (List.suffix_refl _) e).length_le
    rw[qY]at this;omega
  · exact e
 have lo:∀v,D v→loA g v=loA f v:=fun v hv=>by
  unfold loA;rw[r.lk v hv];by_cases e:v=0
  · subst e; rw[h.root]
  · obtain ⟨u, u1, u2, _, _⟩ := h.lk v hv e
    rw[u1]; dsimp only; rw[r.ln u u2]
 have loN:loA g N=m+1:=by
  unfold loA; rw[r.new]; dsimp only; rw[r.ln q hq,hm]
 have C:∀v w,D v→(inC g (fun v=>if v=N then s++[c] else str v) v w↔inC f str v w):=fun v w hv=>by
  unfold inC; rw[lo v hv]; dsimp only; rw[hN v hv]
 have CN:∀w,inC g (fun v=>if v=N then s++[c] else str v) N w↔∃t,w=t++[c]∧t <:+ s∧m≤t.length:=fun w=>by
  unfold inC; rw[loN]; dsimp only; rw[xS rfl]
  constructor
  · rintro ⟨x1, x2⟩
    rcases yc x1 with rfl | ⟨t,rfl,ht⟩
    · simp at x2
    · exact⟨t,rfl,ht,by rw[qY]at x2; omega⟩
  · rintro ⟨t, rfl, ht, hm⟩
    exact⟨jJ.2 ht,by rw[qY]; omega⟩
 refine⟨.inl h.len,by rw[r.lk 0 h.len]; exact h.root,by rw[hN 0 h.len]; exact h.str0,?_,?_,?_,?_,?_,?_,?_⟩
 · rintro v (hv | rfl)
   · rw[hN v hv,r.ln v hv]; exact h.sl v hv
   · rw[xS rfl,r.new]; simp
 · rintro v (hv | rfl) h0
   · obtain ⟨u, u1, u2, u3, u4⟩ := h.lk v hv h0
     refine⟨u,by rw[r.lk v hv]; exact u1,.inl u2,?_,?_⟩
     · rw[hN u u2,hN v hv]; exact u3
     · rw[r.ln u u2,r.ln v hv]; exact u4
   · refine ⟨q, by rw [r.new], .inl hq, ?_, ?_⟩
     · rw[hN q hq,xS rfl]; exact hqs
     · rw[r.ln q hq,r.new,hm]; dsimp only; omega
 · rintro v (hv | rfl)
   · obtain ⟨e1, e2⟩ := h.en v hv
     rw[r.en v hv,hN v hv,qY];refine⟨by omega,?_⟩;rw[QK e1]; exact e2
   · rw [r.new]; dsimp only
     rw[xS rfl,qY];refine⟨uc _,?_⟩;rw[QC (by rw[qY]; exact uc _)]; exact List.suffix_refl _
 · intro w hw
   have old:w <:+: s→∃v,(D v∨v=N)∧inC g (fun v=>if v=N then s++[c] else str v) v w:=fun hw=>by
    obtain⟨v,hv,hc⟩:=h.cov w hw;exact⟨v,.inl hv,(C v w hv).2 hc⟩
   rcases inf_snoc hw with hw | hw
   · exact old hw
   · rcases yc hw with rfl | ⟨t, rfl, ht⟩
     · exact old ⟨[],s,rfl⟩
     · rcases Nat.lt_or_ge t.length m with e | e
       · exact old (h2 t ht e)
       · exact⟨N,.inr rfl,(CN _).2 ⟨t,rfl,ht,e⟩⟩
 · rintro v v' w (hv | rfl) (hv' | rfl) k k'
   · exact h.uni v v' w hv hv' ((C v w hv).1 k) ((C v' w hv').1 k')
   · obtain ⟨t, rfl, ht, hm⟩ := (CN w).1 k'
     exact absurd (h.inf hv ((C v _ hv).1 k)) (h1 t ht hm)
   · obtain ⟨t, rfl, ht, hm⟩ := (CN w).1 k
     exact absurd (h.inf hv' ((C v' _ hv').1 k')) (h1 t ht hm)
   · rfl
 · rintro v d u (hv | rfl) hn
   · by_cases hd : d = c ∧ atEnd f str s m v
     · obtain ⟨rfl, hE⟩ := hd
       rw[r.put v hv hE]at hn;obtain rfl:=Option.some.inj hn;refine⟨.inr rfl,fun w hw=>(CN _).2 ⟨w,rfl,?_,?_⟩⟩
       · obtain ⟨t, t1, _, t3⟩ := hE
         exact((C v w hv).1 hw).1.trans (h.end_ hl hs hv t1 t3)
       · obtain ⟨t, t1, t2, t3⟩ := hE
         have hw2:=(C v w hv).1 hw;rcases Nat.lt_or_ge w.length m with e2 | e2
         · have hws : w <:+ s := hw2.1.trans (h.end_ hl hs hv t1 t3)
           obtain⟨u,hu⟩:=h.cmp v w d hv hw2 (h2 w hws e2);exact absurd (h.inf (h.snd v d u hv hu).1 ((h.snd v d u hv hu).2 t t3)) (h1 t t1 t2)
         · exact e2
     · rw [r.nx v hv d hd] at hn
       obtain⟨u1,u2⟩:=h.snd v d u hv hn;exact⟨.inl u1,fun w hw=>(C u _ u1).2 (u2 w ((C v w hv).1 hw))⟩
   · rw[r.new]at hn; cases hn
 · rintro v w d (hv | rfl) hw hi
   · have hw2 := (C v w hv).1 hw
     by_cases hd:d=c∧atEnd f str s m v
     · rw[hd.1]; exact⟨_,r.put v hv hd.2⟩
     · rw [r.nx v hv d hd]
       refine h.cmp v w d hv hw2 ?_;rcases inf_snoc hi with hi | hi
       · exact hi
       · have e := zi hi
         rw[e]at hi ⊢;have ht:=jJ.1 hi;rcases Nat.lt_or_ge w.length m with e2 | e2
         · exact h2 w ht e2
         · exact absurd ⟨e,⟨w,ht,e2,hw2⟩⟩ hd
   · obtain ⟨t, rfl, ht, hm⟩ := (CN w).1 hw
     exact absurd (inf_init hi) (h1 t ht hm)
structure Split (f : Nat → Sst) (D : Nat → Prop) (q m N : Nat) (g : Nat → Sst) : Prop where
 new:g N=⟨(f q).nx,(f q).lk,m,(f q).en⟩
 nx:∀v,D v→∀k,¬((f v).nx k=some q∧(f v).ln < m)→(g v).nx k=(f v).nx k
 put:∀v,D v→∀k,(f v).nx k=some q→(f v).ln < m→(g v).nx k=some N
 lkq:(g q).lk=some N
 lk:∀v,D v→v≠q→(g v).lk=(f v).lk
 ln:∀v,D v→(g v).ln=(f v).ln
 en:∀v,D v→(g v).en=(f v).en
theorem SaOk.noSelf (h:SaOk f D str s){q:Nat}(hq:D q)(d:Int):(f q).nx d≠some q:=fun e=>by
 have:=inC.le h hq ((h.snd q d q hq e).2 _ (h.self hq));rw[qY,h.sl q hq]at this;omega
theorem Split.ok {q m N : Nat} {g : Nat → Sst} {x : List Int} (h : SaOk f D str s) (r : Split f D q m N g) (hNn : ¬ D N) (hq : D q) (hx : inC f str q x) (hxm : x.length = m) (hm : m < (f q).ln)
 (hp:∀v d w,D v→(f v).nx d=some q→inC f str v w→w.length < m→(f v).ln < m) :
 SaOk g (fun v=>D v∨v=N) (fun v=>if v=N then x else str v) s:=by
 have hne:∀v,D v→v≠N:=fun v hv e=>hNn (e▸hv)
 have hN:∀v,D v→(if v=N then x else str v)=str v:=fun v hv=>xP (hne v hv)
 have hq0:q≠0:=fun e=>by subst e; rw[h.ln0]at hm; omega
 obtain⟨k,k1,k2,k3,k4⟩:=h.lk q hq hq0;have hkx:(f k).ln < m:=by have:=hx.2; unfold loA at this; rw[k1]at this; dsimp only at this; omega
 have hkq:k≠q:=fun e=>by subst e; omega
 have lo:∀v,D v→v≠q→loA g v=loA f v:=fun v hv hvq=>by
  unfold loA;rw[r.lk v hv hvq];by_cases e:v=0
  · subst e; rw[h.root]
  · obtain ⟨u, u1, u2, _, _⟩ := h.lk v hv e
    rw[u1]; dsimp only; rw[r.ln u u2]
 have loq:loA g q=m+1:=by unfold loA; rw[r.lkq]; dsimp only; rw[r.new]
 have loN:loA g N=loA f q:=by
  unfold loA; rw[r.new]; dsimp only; rw[k1]; dsimp only; rw[r.ln k k2]
 have C:∀v w,D v→v≠q→(inC g (fun v=>if v=N then x else str v) v w↔inC f str v w):=fun v w hv hvq=>by
  unfold inC; rw[lo v hv hvq]; dsimp only; rw[hN v hv]
 have Cq:∀w,inC g (fun v=>if v=N then x else str v) q w↔inC f str q w∧m < w.length:=fun w=>by
  unfold inC; rw[loq]; dsimp only; rw[hN q hq]
  have:=hx.2;constructor
  · rintro⟨a1,a2⟩; exact⟨⟨a1,by omega⟩,a2⟩
  · rintro⟨⟨a1,_⟩,a2⟩; exact⟨a1,a2⟩
 have CN:∀w,inC g (fun v=>if v=N then x else str v) N w↔inC f str q w∧w.length≤m:=fun w=>by
  unfold inC; rw[loN]; dsimp only; rw[xS rfl]
  constructor
  · rintro⟨a1,a2⟩; exact⟨⟨a1.trans hx.1,a2⟩,by rw[← hxm]; exact a1.length_le⟩
  · rintro⟨⟨a1,a2⟩,a3⟩; exact⟨ju a1 hx.1 (by omega),a2⟩
 -- every class of the new automaton lies in one of the old
 have sub:∀v w,D v→inC g (fun v=>if v=N then x else str v) v w→inC f str v w:=fun v w hv hw=>by
  by_cases e:v=q
  · subst e; exact((Cq w).1 hw).1
  · exact(C v w hv e).1 hw
 refine⟨.inl h.len,by rw[r.lk 0 h.len (Ne.symm hq0)]; exact h.root,by rw[hN 0 h.len]; exact h.str0,?_,?_,?_,?_,?_,?_,?_⟩
 · rintro v (hv | rfl)
   · rw[hN v hv,r.ln v hv]; exact h.sl v hv
   · rw[xS rfl,r.new]; exact hxm
 · rintro v (hv | rfl) h0
   · by_cases e : v = q
     · subst e
       refine⟨N,r.lkq,.inr rfl,?_,?_⟩
       · rw[xS rfl,hN v hv]; exact hx.1
       · rw[r.new,r.ln v hv]; exact hm
     · obtain ⟨u, u1, u2, u3, u4⟩ := h.lk v hv h0
       refine⟨u,by rw[r.lk v hv e]; exact u1,.inl u2,?_,?_⟩
       · rw[hN u u2,hN v hv]; exact u3
       · rw[r.ln u u2,r.ln v hv]; exact u4
   · refine ⟨k, by rw [r.new]; exact k1, .inl k2, ?_, ?_⟩
     · rw[hN k k2,xS rfl]; exact ju k3 hx.1 (by rw[h.sl k k2]; omega)
     · rw[r.ln k k2,r.new]; exact hkx
 · rintro v (hv | rfl)
   · rw[r.en v hv,hN v hv]; exact h.en v hv
   · rw [r.new, xS rfl]
     exact⟨(h.en q hq).1,hx.1.trans (h.en q hq).2⟩
 · intro w hw
   obtain⟨v,hv,hc⟩:=h.cov w hw;by_cases e:v=q
   · subst e
     rcases Nat.lt_or_ge m w.length with e2 | e2
     · exact⟨v,.inl hv,(Cq w).2 ⟨hc,e2⟩⟩
     · exact⟨N,.inr rfl,(CN w).2 ⟨hc,e2⟩⟩
   · exact⟨v,.inl hv,(C v w hv e).2 hc⟩
 · rintro v v' w (hv | rfl) (hv' | rfl) a1 a2
   · exact h.uni v v' w hv hv' (sub v w hv a1) (sub v' w hv' a2)
   · obtain ⟨b1, b2⟩ := (CN w).1 a2
     have e:=h.uni v q w hv hq (sub v w hv a1) b1;subst e;have:=((Cq w).1 a1).2;omega
   · obtain ⟨b1, b2⟩ := (CN w).1 a1
     have e:=h.uni v' q w hv' hq (sub v' w hv' a2) b1;subst e;have:=((Cq w).1 a2).2;omega
   · rfl
 · rintro v d u (hv | rfl) hn
   · by_cases hd : (f v).nx d = some q ∧ (f v).ln < m
     · rw [r.put v hv d hd.1 hd.2] at hn
       obtain rfl:=Option.some.inj hn;refine⟨.inr rfl,fun w hw=>(CN _).2 ⟨(h.snd v d q hv hd.1).2 w (sub v w hv hw),?_⟩⟩;have:=inC.le h hv (sub v w hv hw);rw[qY]; omega
     · rw [r.nx v hv d hd] at hn
       obtain⟨u1,u2⟩:=h.snd v d u hv hn;refine⟨.inl u1,fun w hw=>?_⟩;by_cases e:u=q
       · subst e
         refine(Cq _).2 ⟨u2 w (sub v w hv hw),?_⟩;rw[qY];rcases Nat.lt_or_ge w.length m with e2 | e2
         · exact absurd ⟨hn,hp v d w hv hn (sub v w hv hw) e2⟩ hd
         · omega
       · exact(C u _ u1 e).2 (u2 w (sub v w hv hw))
   · rw [r.new] at hn
     obtain⟨u1,u2⟩:=h.snd q d u hq hn;refine⟨.inl u1,fun w hw=>?_⟩;have e:u≠q:=fun e=>h.noSelf hq d (e▸hn)
     exact(C u _ u1 e).2 (u2 w ((CN w).1 hw).1)
 · rintro v w d (hv | rfl) hw hi
   · obtain ⟨u, hu⟩ := h.cmp v w d hv (sub v w hv hw) hi
     by_cases hd:(f v).nx d=some q∧(f v).ln < m
     · exact⟨_,r.put v hv d hd.1 hd.2⟩
     · exact⟨u,by rw[r.nx v hv d hd]; exact hu⟩
   · obtain ⟨u, hu⟩ := h.cmp q w d hq ((CN w).1 hw).1 hi
     exact⟨u,by rw[r.new]; exact hu⟩
/-! ### The round for one byte -/
def mOf (f : Nat → Sst) : Option Nat → Nat
 | none=>0
 | some p=>(f p).ln+1
theorem kb (f:Nat→Sst)(p:Nat):mOf f (some p)=(f p).ln+1:=rfl
def setNx (g:Nat→Sst)(p:Nat)(c:Int)(u:Nat):Nat→Sst:=fun v=>if v=p then { g p with nx:=fun k=>if k=c then some u else (g p).nx k } else g v
structure StA (f : Nat → Sst) (D : Nat → Prop) (str : Nat → List Int) (s : List Int) (c : Int) (N : Nat) (g : Nat → Sst) (p : Option Nat) : Prop where
 cur:∀p0,p=some p0→D p0∧str p0 <:+ s
 new:g N=⟨fun _=>none,some 0,s.length+1,s.length+1⟩
 nx:∀v,D v→∀k,¬(k=c∧atEnd f str s (mOf f p) v)→(g v).nx k=(f v).nx k
 put:∀v,D v→atEnd f str s (mOf f p) v→(g v).nx c=some N
 lk:∀v,D v→(g v).lk=(f v).lk
 ln:∀v,D v→(g v).ln=(f v).ln
 en:∀v,D v→(g v).en=(f v).en
 non:∀v,D v→atEnd f str s (mOf f p) v→(f v).nx c=none
variable {c:Int} {N last:Nat} {g:Nat→Sst}
theorem StA.init (h:SaOk f D str s)(hl:D last)(hs:str last=s)(hn:g N=⟨fun _=>none,some 0,s.length+1,s.length+1⟩)(hg:∀v,D v→g v=f v):StA f D str s c N g (some last):=by
 have hno:∀v,¬atEnd f str s (mOf f (some last)) v:=fun v ⟨t,t1,t2,_⟩=>by
  have:=t1.length_le;rw[kb,← h.sl last hl,hs]at t2;omega
 exact⟨fun p0 e=>by obtain rfl:=Option.some.inj e; exact⟨hl,by rw[hs]; exact List.suffix_refl _⟩,hn,fun v hv k _=>by rw[hg v hv],fun v _ e=>absurd e (hno v),fun v hv=>by rw[hg v hv],fun v hv=>by rw[hg v hv],fun v hv=>by rw[hg v hv],fun v _ e=>absurd e (hno v)⟩
theorem StA.atp {p:Nat}(h:SaOk f D str s)(r:StA f D str s c N g (some p)):¬atEnd f str s (mOf f (some p)) p:=fun⟨t,_,t2,t3⟩=>by
 have:=inC.le h (r.cur p rfl).1 t3;rw[kb]at t2; omega
theorem StA.nxp {p:Nat}(h:SaOk f D str s)(r:StA f D str s c N g (some p)):(g p).nx c=(f p).nx c:=r.nx p (r.cur p rfl).1 c fun e=>r.atp h e.2
theorem vN (h:SaOk f D str s){p:Nat}(hp:D p):mOf f (f p).lk=loA f p:=by
 unfold mOf loA;cases (f p).lk <;> rfl
theorem atEnd_lk (h:SaOk f D str s){p:Nat}(hp:D p)(hps:str p <:+ s)(v:Nat)(hv:D v):atEnd f str s (mOf f (f p).lk) v↔atEnd f str s (mOf f (some p)) v∨v=p:=by
 rw[vN h hp];show _↔atEnd f str s ((f p).ln+1) v∨v=p
 constructor
 · rintro ⟨t, t1, t2, t3⟩
   rcases Nat.lt_or_ge (f p).ln t.length with e | e
   · exact .inl ⟨t,t1,e,t3⟩
   · refine .inr (h.uni v p t hv hp t3 ⟨ju t1 hps (by rw[h.sl p hp]; exact e),t2⟩)
 · rintro (⟨t, t1, t2, t3⟩ | rfl)
   · exact⟨t,t1,by have:=h.lo_le hp; omega,t3⟩
   · exact⟨str v,hps,(h.self hv).2,h.self hv⟩
theorem StA.step {p:Nat}(h:SaOk f D str s)(hNn:¬D N)(r:StA f D str s c N g (some p))(hn:(g p).nx c=none):StA f D str s c N (setNx g p c N) (g p).lk:=by
 obtain⟨hp,hps⟩:=r.cur p rfl;have hpN:p≠N:=fun e=>hNn (e▸hp)
 have hfn:(f p).nx c=none:=by rw[← r.nxp h]; exact hn
 rw[r.lk p hp];have sp:setNx g p c N p={ g p with nx:=fun k=>if k=c then some N else (g p).nx k }:=xS rfl;have sv:∀v,v≠p→setNx g p c N v=g v:=fun v e=>xP e
 refine⟨fun p0 e=>?_,by rw[sv N hpN.symm]; exact r.new,fun v hv k hk=>?_,fun v hv hE=>?_,fun v hv=>?_,fun v hv=>?_,fun v hv=>?_,fun v hv hE=>?_⟩
 · by_cases h0 : p = 0
   · subst h0; rw[h.root]at e; cases e
   · obtain ⟨u, u1, u2, u3, u4⟩ := h.lk p hp h0
     rw[u1]at e;obtain rfl:=Option.some.inj e;exact⟨u2,u3.trans hps⟩
 · rw [atEnd_lk h hp hps v hv] at hk
   by_cases e:v=p
   · subst e
     rw[sp]; dsimp only
     by_cases e2:k=c
     · exact absurd ⟨e2,.inr rfl⟩ hk
     · rw[xP e2]; exact r.nx v hv k fun e3=>e2 e3.1
   · rw[sv v e]; exact r.nx v hv k fun e3=>hk ⟨e3.1,.inl e3.2⟩
 · rcases (atEnd_lk h hp hps v hv).1 hE with hE | e
   · by_cases e : v = p
     · subst e; rw[sp]; exact xS rfl
     · rw[sv v e]; exact r.put v hv hE
   · subst e; rw[sp]; exact xS rfl
 · by_cases e : v = p
   · subst e; rw[sp]; exact r.lk v hv
   · rw[sv v e]; exact r.lk v hv
 · by_cases e : v = p
   · subst e; rw[sp]; exact r.ln v hv
   · rw[sv v e]; exact r.ln v hv
 · by_cases e : v = p
   · subst e; rw[sp]; exact r.en v hv
   · rw[sv v e]; exact r.en v hv
 · rcases (atEnd_lk h hp hps v hv).1 hE with hE | e
   · exact r.non v hv hE
   · subst e; exact hfn
theorem StA.h1 {p:Option Nat}(h:SaOk f D str s)(r:StA f D str s c N g p)(hl:D last)(hs:str last=s):∀t,t <:+ s→mOf f p≤t.length→¬t++[c] <:+: s:=fun t t1 t2 t3=>by
 obtain⟨v,v1,v2,_⟩:=h.inEnd hl hs t1;obtain⟨u,hu⟩:=h.cmp v t c v1 v2 t3;rw[r.non v v1 ⟨t,t1,t2,v2⟩]at hu;cases hu
theorem StA.done0 (h : SaOk f D str s) (hl : D last) (hs : str last = s) (hNn : ¬ D N) (r : StA f D str s c N g none) :
 SaOk g (fun v=>D v∨v=N) (fun v=>if v=N then s++[c] else str v) (s++[c]) :=
 Grows.ok (m:=0) (q:=0) h hl hs ⟨r.new,r.nx,r.put,r.lk,r.ln,r.en⟩ hNn h.len (by rw[h.str0]; exact List.nil_suffix) h.ln0 (r.h1 h hl hs) (fun t _ e=>absurd e (Nat.not_lt_zero _))
theorem StA.at_ {p q:Nat}(h:SaOk f D str s)(r:StA f D str s c N g (some p))(hq:(g p).nx c=some q):D q∧inC f str q (str p++[c])∧(f p).nx c=some q∧(g q).ln=(f q).ln∧(g p).ln=(f p).ln∧(f p).ln+1≤(f q).ln:=by
 obtain⟨hp,hps⟩:=r.cur p rfl;rw[r.nxp h]at hq;obtain⟨q1,q2⟩:=h.snd p c q hp hq;have q3:=q2 _ (h.self hp);refine⟨q1,q3,hq,r.ln q q1,r.ln p hp,?_⟩;have:=inC.le h q1 q3;rw[qY,h.sl p hp]at this;exact this
theorem StA.h2 {p q:Nat}(h:SaOk f D str s)(r:StA f D str s c N g (some p))(hq:(g p).nx c=some q):∀t,t <:+ s→t.length < mOf f (some p)→t++[c] <:+: s:=fun t t1 t2=>by
 obtain⟨hp,hps⟩:=r.cur p rfl;obtain⟨q1,q2,_⟩:=r.at_ h hq;have:t <:+ str p:=ju t1 hps (by rw[kb]at t2; rw[h.sl p hp]; omega);exact(jJ.2 this).isInfix.trans (h.inf q1 q2)
theorem StA.done1 {p q : Nat} {g' : Nat → Sst} (h : SaOk f D str s) (hl : D last) (hs : str last = s) (hNn : ¬ D N) (r : StA f D str s c N g (some p)) (hq : (g p).nx c = some q) (hln : (g q).ln = (g p).ln + 1)
 (hgN:g' N={ g N with lk:=some q }) (hg:∀v,D v→g' v=g v):SaOk g' (fun v=>D v∨v=N) (fun v=>if v=N then s++[c] else str v) (s++[c]):=by
 obtain⟨hp,hps⟩:=r.cur p rfl;obtain⟨q1,q2,q3,q4,q5,q6⟩:=r.at_ h hq;rw[q4,q5]at hln;have e:str p++[c]=str q:=q2.1.eq_of_length (by rw[qY,h.sl p hp,h.sl q q1]; omega);exact Grows.ok (m := mOf f (some p)) (q := q) h hl hs ⟨by rw [hgN, r.new], fun v hv k hk => by rw [hg v hv]; exact r.nx v hv k hk, fun v hv hE => by rw [hg v hv]; exact r.put v hv hE, fun v hv => by rw [hg v hv]; exact r.lk v hv, fun v hv => by rw [hg v hv]; exact r.ln v hv, fun v hv => by rw [hg v hv]; exact r.en v hv⟩
  hNn q1 (by rw[← e]; exact jJ.2 hps) hln (r.h1 h hl hs) (r.h2 h hq)
structure StB (f : Nat → Sst) (D : Nat → Prop) (str : Nat → List Int) (s : List Int) (c : Int) (N M q m : Nat) (g : Nat → Sst) (p : Option Nat) : Prop where
 cur:∀p0,p=some p0→D p0∧str p0 <:+ s∧(f p0).ln < m
 new:g N=⟨fun _=>none,some 0,s.length+1,s.length+1⟩
 two:(g M).lk=(f q).lk∧(g M).ln=m∧(g M).en=(f q).en∧(∀k,¬(k=c∧atEnd f str s m q)→(g M).nx k=(f q).nx k)∧(atEnd f str s m q→(g M).nx c=some N)
 oth:∀v,D v→∀k,k≠c→(g v).nx k=(f v).nx k
 put:∀v,D v→atEnd f str s m v→(g v).nx c=some N
 to:∀v,D v→¬atEnd f str s m v→(f v).nx c=some q→(f v).ln < m→mOf f p≤(f v).ln→(g v).nx c=some M
 nx:∀v,D v→¬atEnd f str s m v→¬((f v).nx c=some q∧(f v).ln < m∧mOf f p≤(f v).ln)→(g v).nx c=(f v).nx c
 lk:∀v,D v→(g v).lk=(f v).lk
 ln:∀v,D v→(g v).ln=(f v).ln
 en:∀v,D v→(g v).en=(f v).en
variable {M q m p:Nat}
theorem StA.two {g' : Nat → Sst} (h : SaOk f D str s) (hNn : ¬ D N) (r : StA f D str s c N g (some p)) (hq : (g p).nx c = some q) (hMN : M ≠ N)
 (hgM:g' M=⟨(g q).nx,(g q).lk,(g p).ln+1,(g q).en⟩) (hg:∀v,D v∨v=N→g' v=g v):StB f D str s c N M q ((f p).ln+1) g' (some p):=by
 obtain⟨hp,hps⟩:=r.cur p rfl;obtain⟨q1,q2,q3,q4,q5,q6⟩:=r.at_ h hq;refine ⟨fun p0 e => ?_, by rw [hg N (.inr rfl)]; exact r.new, ⟨by rw [hgM]; exact r.lk q q1, by rw [hgM, q5], by rw [hgM]; exact r.en q q1, fun k hk => by rw [hgM]; exact r.nx q q1 k hk, fun hE => by rw [hgM]; exact r.put q q1 hE⟩,
  fun v hv k hk=>by rw[hg v (.inl hv)]; exact r.nx v hv k fun e=>hk e.1,fun v hv hE=>by rw[hg v (.inl hv)]; exact r.put v hv hE,fun v hv _ _ h3 h4=>?_,fun v hv hE _=>by rw[hg v (.inl hv)]; exact r.nx v hv c fun e=>hE e.2,
  fun v hv=>by rw[hg v (.inl hv)]; exact r.lk v hv,fun v hv=>by rw[hg v (.inl hv)]; exact r.ln v hv,fun v hv=>by rw[hg v (.inl hv)]; exact r.en v hv⟩
 · obtain rfl := Option.some.inj e
   exact⟨hp,hps,by omega⟩
 · rw[kb]at h4; omega
theorem short_no (h:SaOk f D str s){v:Nat}(hv:D v)(hm:(f v).ln < m):¬atEnd f str s m v:=fun⟨t,_,t2,t3⟩=>by
 have:=inC.le h hv t3;omega
theorem StB.nxp (h:SaOk f D str s)(r:StB f D str s c N M q m g (some p)):(g p).nx c=(f p).nx c:=by
 obtain⟨hp,hps,hpm⟩:=r.cur p rfl;exact r.nx p hp (short_no h hp hpm) fun e=>by have:=e.2.2; rw[kb]at this; omega
theorem on_chain (h:SaOk f D str s)(hq:D q){x:List Int}(hx:inC f str q (x++[c]))(hxs:x <:+ s){v:Nat}(hv:D v)(hn:(f v).nx c=some q)(hl:(f v).ln≤x.length):str v <:+ x:=by
 have h2:=((h.snd v c q hv hn).2 _ (h.self hv)).1;exact jJ.1 (ju h2 hx.1 (by rw[qY,qY,h.sl v hv]; omega))
theorem StB.step {x : List Int} (h : SaOk f D str s) (hNn : ¬ D N) (hMn : ¬ D M) (hMN : M ≠ N) (hq : D q) (hx : inC f str q (x ++ [c])) (hxs : x <:+ s) (hxm : x.length + 1 = m)
 (r:StB f D str s c N M q m g (some p)) (hn:(g p).nx c=some q):StB f D str s c N M q m (setNx g p c M) (g p).lk:=by
 obtain⟨hp,hps,hpm⟩:=r.cur p rfl;have hpN:p≠N:=fun e=>hNn (e▸hp)
 have hpM:p≠M:=fun e=>hMn (e▸hp)
 have hfn:(f p).nx c=some q:=by rw[← r.nxp h]; exact hn
 rw[r.lk p hp];have sp:setNx g p c M p={ g p with nx:=fun k=>if k=c then some M else (g p).nx k }:=xS rfl;have sv:∀v,v≠p→setNx g p c M v=g v:=fun v e=>xP e
 have lnp:∀p0,(f p).lk=some p0→D p0∧str p0 <:+ str p∧(f p0).ln < (f p).ln:=fun p0 e=>by
  by_cases h0:p=0
  · subst h0; rw[h.root]at e; cases e
  · obtain ⟨u, u1, u2, u3, u4⟩ := h.lk p hp h0
    rw[u1]at e;obtain rfl:=Option.some.inj e;exact⟨u2,u3,u4⟩
 have key:∀v,D v→(f v).nx c=some q→(f v).ln < m→mOf f (f p).lk≤(f v).ln→v=p∨mOf f (some p)≤(f v).ln:=fun v hv h1 h2 h3=>by
  rcases Nat.lt_or_ge (f p).ln (f v).ln with e | e
  · exact .inr e
  · left
    have h4:=(on_chain h hq hx hxs hv h1 (by omega)).trans hxs;rw[vN h hp]at h3;exact h.uni v p (str v) hv hp (h.self hv) ⟨ju h4 hps (by rw[h.sl v hv,h.sl p hp]; exact e),by rw[h.sl v hv]; exact h3⟩
 refine⟨fun p0 e=>?_,by rw[sv N hpN.symm]; exact r.new,by rw[sv M hpM.symm]; exact r.two,fun v hv k hk=>?_,fun v hv hE=>?_,fun v hv hE h1 h2 h3=>?_,fun v hv hE hk=>?_,fun v hv=>?_,fun v hv=>?_,fun v hv=>?_⟩
 · obtain ⟨u2, u3, u4⟩ := lnp p0 e
   exact⟨u2,u3.trans hps,by omega⟩
 · by_cases e : v = p
   · subst e; rw[sp]; dsimp only; rw[xP hk]; exact r.oth v hv k hk
   · rw[sv v e]; exact r.oth v hv k hk
 · by_cases e : v = p
   · subst e; exact absurd hE (short_no h hp hpm)
   · rw[sv v e]; exact r.put v hv hE
 · by_cases e : v = p
   · subst e; rw[sp]; exact xS rfl
   · rw[sv v e]; exact r.to v hv hE h1 h2 ((key v hv h1 h2 h3).resolve_left e)
 · by_cases e : v = p
   · subst e
     exfalso
     refine hk ⟨hfn,hpm,?_⟩;rw[vN h hp]; exact h.lo_le hp
   · rw [sv v e]
     refine r.nx v hv hE fun h1=>hk ⟨h1.1,h1.2.1,?_⟩
     have h3:=h1.2.2;rw[vN h hp];have:=h.lo_le hp;rw[kb]at h3;omega
 · by_cases e : v = p
   · subst e; rw[sp]; exact r.lk v hv
   · rw[sv v e]; exact r.lk v hv
 · by_cases e : v = p
   · subst e; rw[sp]; exact r.ln v hv
   · rw[sv v e]; exact r.ln v hv
 · by_cases e : v = p
   · subst e; rw[sp]; exact r.en v hv
   · rw[sv v e]; exact r.en v hv
theorem StB.done {p : Option Nat} {x : List Int} {g' : Nat → Sst} (h : SaOk f D str s) (hl : D last) (hs : str last = s) (hNn : ¬ D N) (hMn : ¬ D M) (hMN : M ≠ N) (hq : D q) (hx : inC f str q (x ++ [c])) (hxs : x <:+ s) (hxm : x.length + 1 = m) (hmq : m < (f q).ln)
 (h1:∀t,t <:+ s→m≤t.length→¬t++[c] <:+: s) (h2:∀t,t <:+ s→t.length < m→t++[c] <:+: s)
 (r:StB f D str s c N M q m g p) (hn:∀p0,p=some p0→(g p0).nx c≠some q)
 (hgq:g' q={ g q with lk:=some M }) (hgN:g' N={ g N with lk:=some M }) (hg:∀v,v≠q→v≠N→g' v=g v) :
 ∃str',SaOk g' (fun v=>(D v∨v=M)∨v=N) str' (s++[c])∧str' N=s++[c]:=by
 have hqN:q≠N:=fun e=>hNn (e▸hq)
 have hqM:q≠M:=fun e=>hMn (e▸hq)
 have hvN:∀v,D v→v≠N:=fun v hv e=>hNn (e▸hv)
 have hvM:∀v,D v→v≠M:=fun v hv e=>hMn (e▸hv)
 have hxl:(x++[c]).length=m:=by rw[qY]; exact hxm
 -- only the byte itself leads to the state
 have onlyc:∀v,D v→∀k,(f v).nx k=some q→k=c:=fun v hv k hk=>by
  have h3:=((h.snd v k q hv hk).2 _ (h.self hv)).1;have h4:=hx.1;rcases Nat.le_total (str v++[k]).length (x++[c]).length with e | e
  · exact zi (ju h3 h4 e)
  · exact(zi (ju h4 h3 e)).symm
 -- all short ways to it have been turned
 have all:∀v,D v→(f v).nx c=some q→(f v).ln < m→mOf f p≤(f v).ln:=fun v hv e1 e2=>by
  rcases Nat.lt_or_ge (f v).ln (mOf f p) with e | e
  · exfalso
    cases hp:p with
    | none=>rw[hp]at e; exact Nat.not_lt_zero _ e
    | some p0 =>
      rw[hp]at r e;obtain⟨hp0,hps,hpm⟩:=r.cur p0 rfl;rw[kb]at e;have hvx:=on_chain h hq hx hxs hv e1 (by omega);have hvp:str v <:+ str p0:=ju (hvx.trans hxs) hps (by rw[h.sl v hv,h.sl p0 hp0]; omega);have hpx:str p0 <:+ x:=ju hps hxs (by rw[h.sl p0 hp0]; omega);have hin:=inC_between ((h.snd v c q hv e1).2 _ (h.self hv)) hx.1 (jJ.2 hvp) (jJ.2 hpx);obtain⟨u,hu⟩:=h.cmp p0 _ c hp0 (h.self hp0) (h.inf hq hin);obtain⟨u1,u2⟩:=h.snd p0 c u hp0 hu;have:=h.uni u q _ u1 hq (u2 _ (h.self hp0)) hin;subst this;exact hn p0 hp (by rw[r.nxp h]; exact hu)
  · exact e
 obtain⟨f2,hf2⟩:∃f2:Nat→Sst,f2=fun v=>if v=M then ⟨(f q).nx,(f q).lk,m,(f q).en⟩ else ⟨fun k=>if (f v).nx k=some q∧(f v).ln < m then some M else (f v).nx k,if v=q then some M else (f v).lk,(f v).ln,(f v).en⟩:=⟨_,rfl⟩
 have f2M:f2 M=⟨(f q).nx,(f q).lk,m,(f q).en⟩:=by rw[hf2]; exact xS rfl
 have f2v:∀v,D v→f2 v=⟨fun k=>if (f v).nx k=some q∧(f v).ln < m then some M else (f v).nx k,if v=q then some M else (f v).lk,(f v).ln,(f v).en⟩:=fun v hv=>by rw[hf2]; exact xP (hvM v hv)
 have sp:Split f D q m M f2:=by
  refine⟨f2M,fun v hv k hk=>?_,fun v hv k a1 a2=>?_,?_,fun v hv hvq=>?_,fun v hv=>?_,fun v hv=>?_⟩
  · rw[f2v v hv]; exact xP hk
  · rw[f2v v hv]; exact xS ⟨a1,a2⟩
  · rw[f2v q hq]; exact xS rfl
  · rw[f2v v hv]; exact xP hvq
  · rw[f2v v hv]
  · rw[f2v v hv]
 have ok2:=sp.ok h hMn hq hx hxl hmq (fun v d w hv e1 e2 e3=>by
  have ed:=onlyc v hv d e1;subst ed;have hw:w <:+ x:=jJ.1 (ju ((h.snd v d q hv e1).2 w e2).1 hx.1 (by rw[qY,qY]; omega));have hvs:=h.end_ hl hs hv (hw.trans hxs) e2;rcases Nat.lt_or_ge (f v).ln m with e | e
  · exact e
  · exfalso
    -- the piece x lies in the state, too; so does each longer end, which would have stood there
    have hxv:x <:+ str v:=ju hxs hvs (by rw[h.sl v hv]; omega);have:=h.inf hq ((h.snd v d q hv e1).2 _ (h.self hv));exact h1 _ hvs (by rw[h.sl v hv]; exact e) this)
 have lo2:∀w,inC f2 (fun v=>if v=M then x++[c] else str v) M w↔inC f str q w∧w.length≤m:=fun w=>by
  have:loA f2 M=loA f q:=by
   have hq0:q≠0:=h.ne0 hq hx;obtain⟨k,k1,k2,k3,k4⟩:=h.lk q hq hq0;unfold loA;rw[f2M]; dsimp only; rw[k1]; dsimp only; rw[f2v k k2]
  unfold inC; rw[this]; dsimp only; rw[xS rfl]
  constructor
  · rintro⟨a1,a2⟩; exact⟨⟨a1.trans hx.1,a2⟩,by rw[← hxl]; exact a1.length_le⟩
  · rintro⟨⟨a1,a2⟩,a3⟩; exact⟨ju a1 hx.1 (by omega),a2⟩
 have atv:∀v,D v→(atEnd f2 (fun v=>if v=M then x++[c] else str v) s m v↔atEnd f str s m v):=fun v hv=>by
  have s2:(fun v=>if v=M then x++[c] else str v) v=str v:=xP (hvM v hv);by_cases e:v=q
  · subst e
    have loq:loA f2 v=m+1:=by unfold loA; rw[f2v v hv]; dsimp only; rw[xS rfl]; dsimp only; rw[f2M]
    constructor
    · rintro ⟨t, t1, t2, t3⟩
      refine⟨t,t1,t2,?_⟩;have a1:=t3.1;have a2:=t3.2;rw[s2]at a1;rw[loq]at a2;exact⟨a1,by have:=hx.2; omega⟩
    · rintro ⟨t, t1, t2, t3⟩
      refine⟨str v,h.end_ hl hs hv t1 t3,by rw[h.sl v hv]; omega,?_,?_⟩
      · rw[s2]; exact List.suffix_refl _
      · rw[loq,h.sl v hv]; exact hmq
  · have lov:loA f2 v=loA f v:=by
     unfold loA;rw[f2v v hv]; dsimp only; rw[xP e]
     by_cases e0:v=0
     · subst e0; rw[h.root]
     · obtain ⟨u, u1, u2, _, _⟩ := h.lk v hv e0
       rw[u1]; dsimp only; rw[f2v u u2]
    unfold atEnd inC;rw[lov,s2]
 have atM:atEnd f2 (fun v=>if v=M then x++[c] else str v) s m M↔atEnd f str s m q:=by
  constructor
  · rintro ⟨t, t1, t2, t3⟩
    exact⟨t,t1,t2,((lo2 t).1 t3).1⟩
  · rintro ⟨t, t1, t2, t3⟩
    exact⟨x++[c],hx.1.trans (h.end_ hl hs hq t1 t3),by rw[hxl]; exact uc _,(lo2 _).2 ⟨hx,by rw[hxl]; exact uc _⟩⟩
 have hg':∀v,D v→(g' v).nx=(g v).nx∧(g' v).ln=(g v).ln∧(g' v).en=(g v).en∧(g' v).lk=(if v=q then some M else (f v).lk):=fun v hv=>by
  by_cases e:v=q
  · subst e; rw[hgq,xS rfl]; exact⟨rfl,rfl,rfl,rfl⟩
  · rw[hg v e (hvN v hv),xP e]; exact⟨rfl,rfl,rfl,r.lk v hv⟩
 have hgM:g' M=g M:=hg M (Ne.symm hqM) hMN;obtain⟨w1,w2,w3,w4,w5⟩:=r.two;have gr:Grows f2 (fun v=>D v∨v=M) (fun v=>if v=M then x++[c] else str v) s c m M N g':=by
  refine⟨by rw[hgN,r.new],?_,?_,?_,?_,?_⟩
  · rintro v (hv | rfl) k hk
    · rw [atv v hv] at hk
      rw[(hg' v hv).1,f2v v hv]; dsimp only
      by_cases ek:k=c
      · subst ek
        have hE:¬atEnd f str s m v:=fun e=>hk ⟨rfl,e⟩
        by_cases e:(f v).nx k=some q∧(f v).ln < m
        · rw[xS e]; exact r.to v hv hE e.1 e.2 (all v hv e.1 e.2)
        · rw[xP e]; exact r.nx v hv hE fun e2=>e ⟨e2.1,e2.2.1⟩
      · rw[xP fun e=>ek (onlyc v hv k e.1)]; exact r.oth v hv k ek
    · rw [atM] at hk
      rw[hgM,f2M]; exact w4 k hk
  · rintro v (hv | rfl) hE
    · rw [atv v hv] at hE
      rw[(hg' v hv).1]; exact r.put v hv hE
    · rw [atM] at hE
      rw[hgM]; exact w5 hE
  · rintro v (hv | rfl)
    · rw[(hg' v hv).2.2.2,f2v v hv]
    · rw[hgM,f2M]; exact w1
  · rintro v (hv | rfl)
    · rw[(hg' v hv).2.1,f2v v hv]; exact r.ln v hv
    · rw[hgM,f2M]; exact w2
  · rintro v (hv | rfl)
    · rw[(hg' v hv).2.2.1,f2v v hv]; exact r.en v hv
    · rw[hgM,f2M]; exact w3
 refine⟨_,gr.ok ok2 (.inl hl) ?_ ?_ (.inr rfl) ?_ ?_ h1 h2,?_⟩
 · rw[xP (hvM last hl)]; exact hs
 · rintro (e | e)
   · exact hNn e
   · exact hMN e.symm
 · rw[xS rfl]; exact jJ.2 hxs
 · rw[f2M]
 · exact xS rfl
end
section
variable {f:Nat→Sst} {D:Nat→Prop} {str:Nat→List Int} {s:List Int}
structure AtI (f : Nat → Sst) (D : Nat → Prop) (str : Nat → List Int) (s text : List Int) (at_ n : Nat) : Prop where
 dom:D at_
 wit:∃w,w <:+ text∧w.length=n∧inC f str at_ w
 max:∀t,t <:+ text→t <:+: s→t.length≤n
structure AtL (f : Nat → Sst) (D : Nat → Prop) (str : Nat → List Int) (s text : List Int) (c : Int) (at_ n : Nat) : Prop where
 dom:D at_
 wit:∃w,w <:+ text∧w.length=n∧inC f str at_ w
 max:∀t,t <:+ text→t++[c] <:+: s→t.length≤n
theorem AtI.init (h:SaOk f D str s):AtI f D str s [] 0 0:=⟨h.len,⟨[],List.nil_suffix,rfl,h.nil⟩,fun t ht _=>by have:=ht.length_le; exact this⟩
theorem AtI.to {text:List Int}{c:Int}{at_ n:Nat}(r:AtI f D str s text at_ n):AtL f D str s text c at_ n:=⟨r.dom,r.wit,fun t h1 h2=>r.max t h1 ((List.prefix_append t [c]).isInfix.trans h2)⟩
theorem AtL.step {text:List Int}{c:Int}{at_ n:Nat}(h:SaOk f D str s)(r:AtL f D str s text c at_ n)(h0:at_≠0)(hn:(f at_).nx c=none):∃u,(f at_).lk=some u∧(f u).ln < (f at_).ln∧AtL f D str s text c u (f u).ln:=by
 obtain⟨w,w1,w2,w3⟩:=r.wit;obtain⟨u,u1,u2,u3,u4⟩:=h.lk at_ r.dom h0;have hlo:(f u).ln+1≤w.length:=by have:=w3.2; unfold loA at this; rw[u1]at this; exact this
 refine⟨u,u1,u4,u2,⟨str u,(ju u3 w3.1 (by rw[h.sl u u2]; omega)).trans w1,h.sl u u2,h.self u2⟩,fun t t1 t2=>?_⟩;rcases Nat.lt_or_ge (f u).ln t.length with e | e
 · have h1 : t <:+ w := ju t1 w1 (by rw [w2]; exact r.max t t1 t2)
   obtain⟨x,hx⟩:=h.cmp at_ t c r.dom ⟨h1.trans w3.1,by unfold loA; rw[u1]; exact e⟩ t2;rw[hn]at hx; cases hx
 · exact e
theorem AtL.hit {text:List Int}{c:Int}{at_ n u:Nat}(h:SaOk f D str s)(r:AtL f D str s text c at_ n)(hn:(f at_).nx c=some u):AtI f D str s (text++[c]) u (n+1):=by
 obtain⟨w,w1,w2,w3⟩:=r.wit;obtain⟨u1,u2⟩:=h.snd at_ c u r.dom hn;refine⟨u1,⟨w++[c],jJ.2 w1,by rw[qY,w2],u2 w w3⟩,fun t t1 t2=>?_⟩;rcases yc t1 with rfl | ⟨t,rfl,ht⟩
 · exact Nat.zero_le _
 · rw[qY]; have:=r.max t ht t2; omega
theorem AtL.miss {text:List Int}{c:Int}{n:Nat}(h:SaOk f D str s)(r:AtL f D str s text c 0 n)(hn:(f 0).nx c=none):n=0∧AtI f D str s (text++[c]) 0 0:=by
 obtain⟨w,w1,w2,w3⟩:=r.wit;have hw:=h.zero w3;subst hw;refine⟨w2.symm,h.len,⟨[],List.nil_suffix,rfl,w3⟩,fun t t1 t2=>?_⟩;rcases yc t1 with rfl | ⟨t,rfl,ht⟩
 · exact uc _
 · have := r.max t ht t2
   rw[← w2]at this;have h0:t=[]:=Qs.1 (by simpa using this);subst h0;obtain⟨x,hx⟩:=h.cmp 0 [] c h.len h.nil t2;rw[hn]at hx; cases hx
structure FndOk (s text : List Int) (at_ n : Nat) : Prop where
 le:at_≤s.length
 wit:∃w,w <:+ text∧w.length=n∧w <:+ s.take at_
 max:∀t,t <:+ text→t <:+: s→t.length≤n
theorem AtI.found {text:List Int}{at_ n:Nat}(h:SaOk f D str s)(r:AtI f D str s text at_ n):FndOk s text (f at_).en n:=by
 obtain⟨w,w1,w2,w3⟩:=r.wit;obtain⟨e1,e2⟩:=h.en at_ r.dom;exact⟨e1,⟨w,w1,w2,w3.1.trans e2⟩,r.max⟩
theorem SaOk.congr {D':Nat→Prop}(h:SaOk f D str s)(e:∀v,D v↔D' v):SaOk f D' str s:=by
 have:D=D':=funext fun v=>propext (e v)
 rw[← this]; exact h
theorem SaOk.one {f:Nat→Sst}(h:f 0=⟨fun _=>none,none,0,0⟩):SaOk f (fun v=>v=0) (fun _=>[]) []:=by
 have hi:∀w,inC f (fun _=>[]) 0 w↔w=[]:=fun w=>by
  unfold inC loA;rw[h];exact⟨fun e=>List.suffix_nil.1 e.1,fun e=>by subst e; exact⟨List.suffix_refl _,Nat.zero_le _⟩⟩
 refine⟨rfl,by rw[h],rfl,?_,?_,?_,?_,?_,?_,?_⟩
 · rintro v rfl; rw[h]; rfl
 · rintro v rfl h0; exact absurd rfl h0
 · rintro v rfl; rw[h]; exact⟨uc _,List.nil_suffix⟩
 · intro w hw; exact⟨0,rfl,(hi w).2 (List.infix_nil.1 hw)⟩
 · rintro v v' w rfl rfl _ _; rfl
 · rintro v c u rfl hn; rw[h]at hn; cases hn
 · rintro v w c rfl _ hi2
   have:=List.infix_nil.1 hi2;simp at this
end
end Go.Inl
namespace Go.Inl
structure StepL where
 cost:Int
 from_:Nat
 op:OpL
def StepL.zero:StepL:=⟨0,0,⟨0,0,0,0,[]⟩⟩
def cst (S:List StepL)(i:Nat):Int:=match S[i]? with | some s=>s.cost | none=>0
theorem cst_of {S:List StepL}{i:Nat}{s:StepL}(h:S[i]? = some s):cst S i=s.cost:=by unfold cst; rw[h]
theorem cst_set {S:List StepL}{i j:Nat}{s:StepL}(h:j≠i):cst (S.set i s) j=cst S j:=by unfold cst; rw[List.getElem?_set_ne (fun e=>h e.symm)]
def pcs (l:List Int)(j i:Nat):List Int:=(l.take i).drop j
theorem jy {l:List Int}{j i:Nat}(h:i≤l.length):(pcs l j i).length=i - j:=by unfold pcs; rw[Qj,uo]; omega
inductive MakesOp (old new : List Int) (j i : Nat) (x : OpL) : Prop
 | lit (h:x=⟨4,0,(i:Int) - j,0,pcs new j i⟩)
 | run (b:Int) (h:x=⟨3,0,(i:Int) - j,b,[]⟩) (hc:pcs new j i=List.replicate (i - j) b) (hb:b∈new)
 | copy (p:Nat) (h:x=⟨1,(p:Int) - ((i:Int) - j),(i:Int) - j,0,[]⟩) (hp:i - j≤p) (hp2:p≤old.length) (hc:pcs old (p - (i - j)) p=pcs new j i)
structure StepOk (old new : List Int) (C : Nat → Int) (i : Nat) (s : StepL) : Prop where
 lt:s.from_ < i
 mks:MakesOp old new s.from_ i s.op
 cost:s.cost=C s.from_+costP s.op
structure OptAt (old new : List Int) (C : Nat → Int) (i : Nat) (c : Int) : Prop where
 lit:∀j,j < i→c≤C j+2+((i:Int) - j)
 run:∀j b,j < i→pcs new j i=List.replicate (i - j) b→c≤C j+4
 copy:∀j,j < i→pcs new j i <:+: old→c≤C j+4
structure DpOk (old new : List Int) (S : List StepL) (n : Nat) : Prop where
 zero:cst S 0=0
 bnd:∀i,i < n→0≤cst S i∧cst S i≤2+i
 ok:∀i s,0 < i→i < n→S[i]? = some s→StepOk old new (cst S) i s∧OptAt old new (cst S) i s.cost
theorem StepOk.congr {old new:List Int}{C D:Nat→Int}{i:Nat}{s:StepL}(h:StepOk old new C i s)(e:∀j,j < i→C j=D j):StepOk old new D i s:=⟨h.lt,h.mks,by rw[h.cost,e _ h.lt]⟩
theorem OptAt.congr {old new:List Int}{C D:Nat→Int}{i:Nat}{c:Int}(h:OptAt old new C i c)(e:∀j,j < i→C j=D j):OptAt old new D i c :=
 ⟨fun j hj=>by rw[← e j hj]; exact h.lit j hj,fun j b hj hb=>by rw[← e j hj]; exact h.run j b hj hb,fun j hj hc=>by rw[← e j hj]; exact h.copy j hj hc⟩
theorem MakesOp.cost0 {old new:List Int}{j i:Nat}{x:OpL}(h:MakesOp old new j i x)(hj:j < i):0≤costP x:=by
 rcases h with h | ⟨b,h,_⟩ | ⟨p,h,_⟩ <;> subst h <;> simp[costP] <;> omega
theorem DpOk.zero_ {old new:List Int}(N:Nat)(hN:0 < N):DpOk old new (List.replicate N StepL.zero) 1:=by
 have h0:cst (List.replicate N StepL.zero) 0=0:=by unfold cst; rw[List.getElem?_replicate,xS hN]; rfl
 refine⟨h0,fun i hi=>?_,fun i s h1 h2=>by omega⟩;obtain rfl:i=0:=by omega
 rw[h0]; omega
theorem DpOk.put {old new:List Int}{S:List StepL}{i:Nat}(h:DpOk old new S i)(hi:0 < i)(hl:i < S.length){s:StepL}(hs:StepOk old new (cst S) i s)(ho:OptAt old new (cst S) i s.cost):DpOk old new (S.set i s) (i+1):=by
 have e:∀j,j≠i→cst S j=cst (S.set i s) j:=fun j hj=>(cst_set hj).symm
 have hsi:(S.set i s)[i]? = some s:=by rw[List.getElem?_set_self hl]
 refine⟨by rw[← e 0 (by omega)]; exact h.zero,fun j hj=>?_,fun j t h0 hj ht=>?_⟩
 · by_cases he : j = i
   · subst he
     rw[cst_of hsi];have h1:=ho.lit 0 hi;rw[h.zero]at h1;have h2:=hs.cost;have h3:=(h.bnd s.from_ hs.lt).1;have h4:=hs.mks.cost0 hs.lt;constructor <;> omega
   · rw[← e j he]; exact h.bnd j (by omega)
 · by_cases he : j = i
   · subst he
     rw[hsi]at ht;obtain rfl:=Option.some.inj ht;exact⟨hs.congr fun k hk=>e k (by omega),ho.congr fun k hk=>e k (by omega)⟩
   · rw [List.getElem?_set_ne (fun e => he e.symm)] at ht
     obtain⟨h1,h2⟩:=h.ok j t h0 (by omega) ht;exact⟨h1.congr fun k hk=>e k (by omega),h2.congr fun k hk=>e k (by omega)⟩
structure AddAt (vs : List Int) (x : Int) (n : Nat) : Prop where
 le:n≤vs.length
 hi:∀j,n≤j→∀y,vs[j]? = some y→x≤y
 lo:∀y,0 < n→vs[n - 1]? = some y→y < x
structure LeastAt (ps vs P V : List Int) (from_ : Int) (k : Nat) : Prop where
 p:P=ps.drop k
 v:V=vs.drop k
 lt:∀j,j < k→∀y,ps[j]? = some y→y < from_
theorem LeastAt.cons {ps vs P V:List Int}{f:Int}{k:Nat}(h:LeastAt ps vs P V f k)(hl:ps.length=vs.length)(hex:∃(j:Nat) (y:Int),ps[j]? = some y∧f≤y):∃p pr v vr,P=p::pr∧V=v::vr:=by
 obtain⟨j,y,h1,h2⟩:=hex;have hj:=(xX.1 h1).1;have hk:k < ps.length:=by
  rcases Nat.lt_or_ge j k with e | e
  · have:=h.lt j e y h1; omega
  · omega
 refine⟨ps[k],ps.drop (k+1),vs[k],vs.drop (k+1),?_,?_⟩
 · rw[h.p]; exact List.drop_eq_getElem_cons hk
 · rw[h.v]; exact List.drop_eq_getElem_cons (by omega)
theorem LeastAt.step {ps vs pr vr:List Int}{f p v:Int}{k:Nat}(h:LeastAt ps vs (p::pr) (v::vr) f k)(hp:p < f):LeastAt ps vs pr vr f (k+1):=by
 have h1:=congrArg (List.drop 1) h.p;have h2:=congrArg (List.drop 1) h.v;rw[List.drop_drop]at h1 h2;refine⟨by simpa using h1,by simpa using h2,fun j hj y hy=>?_⟩;rcases Nat.lt_or_ge j k with e | e
 · exact h.lt j e y hy
 · obtain rfl : j = k := by omega
   have h3:=congrArg (fun l=>l[0]?) h.p;simp only[List.getElem?_cons_zero,List.getElem?_drop,Nat.add_zero]at h3;rw[hy]at h3;rw[← Option.some.inj h3]; exact hp
structure WinOk (C : Nat → Int) (i lo : Nat) (ps vs : List Int) : Prop where
 len:ps.length=vs.length
 val:∀(k:Nat) (p:Int),ps[k]? = some p→∃q:Nat,p=q∧q < i∧vs[k]? = some (C q)
 inc:∀(k l:Nat) (x y:Int),k < l→vs[k]? = some x→vs[l]? = some y→x < y
 dom:∀j,lo≤j→j < i→∃(k:Nat) (p v:Int),ps[k]? = some p∧vs[k]? = some v∧(j:Int)≤p∧v≤C j
 bnd:ps.length≤i
theorem WinOk.nil (C:Nat→Int):WinOk C 0 0 [] []:=⟨rfl,fun k p h=>by simp at h,fun k l x y _ h=>by simp at h,fun j _ h=>by omega,uc _⟩
theorem WinOk.congr {C D:Nat→Int}{i lo:Nat}{ps vs:List Int}(h:WinOk C i lo ps vs)(e:∀j,j < i→C j=D j):WinOk D i lo ps vs :=
 ⟨h.len,fun k p hp=>by obtain⟨q,q1,q2,q3⟩:=h.val k p hp; exact⟨q,q1,q2,by rw[← e q q2]; exact q3⟩,h.inc,fun j h1 h2=>by rw[← e j h2]; exact h.dom j h1 h2,h.bnd⟩
theorem WinOk.add {C:Nat→Int}{i lo n:Nat}{ps vs:List Int}(h:WinOk C i lo ps vs)(ha:AddAt vs (C i) n):WinOk C (i+1) lo (ps.take n++[(i:Int)]) (vs.take n++[C i]):=by
 have hn:n≤ps.length:=by rw[h.len]; exact ha.le
 have hlp:(ps.take n).length=n:=by rw[uo]; omega
 have hlv:(vs.take n).length=n:=by rw[uo]; have:=ha.le; omega
 have gp:∀(k:Nat) (p:Int),(ps.take n++[(i:Int)])[k]? = some p→(k < n∧ps[k]? = some p)∨(k=n∧p=i):=fun k p hp=>by
  rcases Nat.lt_or_ge k n with e | e
  · rw[ux (by omega),List.getElem?_take_of_lt e]at hp; exact .inl ⟨e,hp⟩
  · rw [uB (by omega), hlp] at hp
    have h1:=(xX.1 hp).1;simp at h1
    have:k=n:=by omega
    subst this;rw[Nat.sub_self]at hp;exact .inr ⟨rfl,(Option.some.inj hp).symm⟩
 have gv:∀(k:Nat) (p:Int),(vs.take n++[C i])[k]? = some p→(k < n∧vs[k]? = some p)∨(k=n∧p=C i):=fun k p hp=>by
  rcases Nat.lt_or_ge k n with e | e
  · rw[ux (by omega),List.getElem?_take_of_lt e]at hp; exact .inl ⟨e,hp⟩
  · rw [uB (by omega), hlv] at hp
    have h1:=(xX.1 hp).1;simp at h1
    have:k=n:=by omega
    subst this;rw[Nat.sub_self]at hp;exact .inr ⟨rfl,(Option.some.inj hp).symm⟩
 have np:(ps.take n++[(i:Int)])[n]? = some (i:Int):=by rw[uB (by omega),hlp,Nat.sub_self]; rfl
 have nv:(vs.take n++[C i])[n]? = some (C i):=by rw[uB (by omega),hlv,Nat.sub_self]; rfl
 have op:∀k,k < n→(ps.take n++[(i:Int)])[k]? = ps[k]? := fun k e=>by rw[ux (by omega),List.getElem?_take_of_lt e]
 have ov:∀k,k < n→(vs.take n++[C i])[k]? = vs[k]? := fun k e=>by rw[ux (by omega),List.getElem?_take_of_lt e]
 refine⟨by rw[xN,xN,hlp,hlv]; rfl,fun k p hp=>?_,fun k l x y hkl hx hy=>?_,fun j h1 h2=>?_,by rw[xN,hlp]; have:=h.bnd; simp; omega⟩
 · rcases gp k p hp with ⟨e, h1⟩ | ⟨rfl, rfl⟩
   · obtain ⟨q, q1, q2, q3⟩ := h.val k p h1
     exact⟨q,q1,by omega,by rw[ov k e]; exact q3⟩
   · exact⟨i,rfl,by omega,nv⟩
 · rcases gv k x hx with ⟨e, h1⟩ | ⟨rfl, rfl⟩ <;> rcases gv l y hy with ⟨e2, h2⟩ | ⟨rfl, rfl⟩
   · exact h.inc k l x y hkl h1 h2
   · obtain ⟨z, hz⟩ : ∃ z, vs[l - 1]? = some z := ⟨_, xI (by have := ha.le; omega)⟩
     have h3:=ha.lo z (by omega) hz;by_cases e3:k=l - 1
     · subst e3; rw[hz]at h1; obtain rfl:=Option.some.inj h1; exact h3
     · have:=h.inc k (l - 1) x z (by omega) h1 hz; omega
   · omega
   · omega
 · by_cases e : j = i
   · subst e; exact⟨n,_,_,np,nv,Int.le_refl _,Int.le_refl _⟩
   · obtain ⟨k, p, v, k1, k2, k3, k4⟩ := h.dom j h1 (by omega)
     rcases Nat.lt_or_ge k n with e2 | e2
     · exact⟨k,p,v,by rw[op k e2]; exact k1,by rw[ov k e2]; exact k2,k3,k4⟩
     · have := ha.hi k e2 v k2
       exact⟨n,_,_,np,nv,by omega,by omega⟩
theorem WinOk.ex {C:Nat→Int}{i lo f:Nat}{ps vs:List Int}(h:WinOk C i lo ps vs)(hlo:lo≤f)(hf:f < i):∃(j:Nat) (y:Int),ps[j]? = some y∧(f:Int)≤y:=by
 obtain⟨k,p,v,k1,_,k3,_⟩:=h.dom f hlo hf;exact⟨k,p,k1,k3⟩
theorem WinOk.least {C : Nat → Int} {i lo f k : Nat} {ps vs pr V : List Int} {p : Int} (h : WinOk C i lo ps vs) (hlo : lo ≤ f) (hl : LeastAt ps vs (p :: pr) V f k) (hp : (f : Int) ≤ p) :
 WinOk C i f (p::pr) V∧∃q:Nat,p=q∧f≤q∧q < i∧∀j,f≤j→j < i→C q≤C j:=by
 have gp:∀m:Nat,(p::pr)[m]? = ps[k+m]? := fun m=>by rw[hl.p,List.getElem?_drop]
 have gv:∀m:Nat,V[m]? = vs[k+m]? := fun m=>by rw[hl.v,List.getElem?_drop]
 have hlen:=h.len;have dom:∀j,f≤j→j < i→∃(m:Nat) (p' v:Int),(p::pr)[m]? = some p'∧V[m]? = some v∧(j:Int)≤p'∧v≤C j:=fun j h1 h2=>by
  obtain⟨m,p',v,m1,m2,m3,m4⟩:=h.dom j (by omega) h2;have hm:k≤m:=by
   rcases Nat.lt_or_ge m k with e | e
   · have:=hl.lt m e p' m1; omega
   · exact e
  exact⟨m - k,p',v,by rw[gp,show k+(m - k)=m by omega]; exact m1,by rw[gv,show k+(m - k)=m by omega]; exact m2,m3,m4⟩
 have hpl:=congrArg List.length hl.p;rw[Qj]at hpl;have hb:=h.bnd;refine⟨⟨by rw[hl.p,hl.v,Qj,Qj,hlen],fun m p' hm=>?_,fun a b x y hab hx hy=>?_,dom,by omega⟩,?_⟩
 · rw [gp] at hm
   obtain⟨q,q1,q2,q3⟩:=h.val _ p' hm;exact⟨q,q1,q2,by rw[gv]; exact q3⟩
 · rw[gv]at hx hy; exact h.inc _ _ x y (by omega) hx hy
 · have h0 := gp 0
   rw[List.getElem?_cons_zero]at h0;obtain⟨q,q1,q2,q3⟩:=h.val _ p h0.symm;refine⟨q,q1,by omega,q2,fun j h1 h2=>?_⟩;obtain⟨m,p',v,m1,m2,m3,m4⟩:=dom j h1 h2;by_cases e:m=0
   · subst e
     rw[gv,q3]at m2;obtain rfl:=Option.some.inj m2; exact m4
   · rw [gv] at m2
     have:=h.inc (k+0) (k+m) _ _ (by omega) q3 m2;omega
structure RunAt (new : List Int) (run i : Nat) : Prop where
 lt:run < i
 cst:∀j,run≤j→j < i→new[j]? = new[i - 1]?
 top:run=0∨new[run - 1]? ≠ new[run]?
theorem RunAt.one (new : List Int) : RunAt new 0 1 := ⟨Nat.one_pos, fun j _ h => by obtain rfl : j = 0 := by omega
                                                                                    rfl,.inl rfl⟩
theorem RunAt.same {new:List Int}{run i:Nat}(h:RunAt new run i)(e:new[i]? = new[i - 1]?):RunAt new run (i+1) :=
 ⟨by have:=h.lt; omega,fun j h1 h2=>by
   rw[Nat.add_sub_cancel];by_cases hj:j=i
   · rw[hj]
   · rw[h.cst j h1 (by omega),e],h.top⟩
theorem RunAt.new {new:List Int}{i:Nat}(hi:0 < i)(e:new[i]? ≠ new[i - 1]?):RunAt new i (i+1) :=
 ⟨by omega, fun j h1 h2 => by obtain rfl : j = i := by omega
                              rw[Nat.add_sub_cancel],.inr fun h=>e h.symm⟩
theorem kX {l:List Int}{j i m:Nat}(h:m < i - j):(pcs l j i)[m]? = l[j+m]? := by unfold pcs; rw[List.getElem?_drop,List.getElem?_take_of_lt (by omega)]
theorem RunAt.rep {new:List Int}{run i j:Nat}{b:Int}(h:RunAt new run i)(hi:i≤new.length)(hb:new[i - 1]? = some b)(hj:run≤j):pcs new j i=List.replicate (i - j) b:=by
 apply List.ext_getElem?
 intro m;rw[List.getElem?_replicate];by_cases hm:m < i - j
 · rw[xS hm,kX hm,h.cst _ (by omega) (by omega),hb]
 · rw[xP hm]; exact List.getElem?_eq_none (by rw[jy hi]; omega)
theorem RunAt.max {new:List Int}{run i j:Nat}{b:Int}(h:RunAt new run i)(hi:i≤new.length)(hj:j < i)(hc:pcs new j i=List.replicate (i - j) b):run≤j:=by
 rcases Nat.lt_or_ge j run with e | e
 · exfalso
   have g:∀m,j≤m→m < i→new[m]? = some b:=fun m h1 h2=>by
    have:=congrArg (fun l=>l[m - j]?) hc;simp only[List.getElem?_replicate]at this;rw[xS (by omega),kX (by omega),show j+(m - j)=m by omega]at this;exact this
   have hlt:=h.lt;rcases h.top with h1 | h1
   · omega
   · exact h1 (by rw[g (run - 1) (by omega) (by omega),g run (by omega) hlt])
 · exact e
theorem FndOk.next {s b:List Int}{i p n p' n':Nat}{y:Int}(h:FndOk s (b.take i) p n)(h':FndOk s (b.take (i+1)) p' n')(hy:b[i]? = some y):n'≤n+1:=by
 obtain⟨w,w1,w2,w3⟩:=h'.wit;rw[qz hy]at w1;rcases yc w1 with rfl | ⟨t,rfl,ht⟩
 · rw[List.length_nil]at w2; omega
 · rw [qY] at w2
   have:=h.max t ht (((List.prefix_append t [y]).isInfix.trans w3.isInfix).trans (List.take_prefix _ _).isInfix);omega
theorem FndOk.len {s b:List Int}{i p n:Nat}(h:FndOk s (b.take i) p n):n≤i∧n≤p:=by
 obtain⟨w,w1,w2,w3⟩:=h.wit;have h1:=w1.length_le;have h2:=w3.length_le;rw[uo]at h1 h2;omega
theorem FndOk.piece {s b:List Int}{i p n j:Nat}(h:FndOk s (b.take i) p n)(hi:i≤b.length)(hj:i - n≤j)(hji:j≤i):i - j≤p∧pcs s (p - (i - j)) p=pcs b j i:=by
 obtain⟨w,w1,w2,w3⟩:=h.wit;have hl:=h.len;have h1:(pcs b j i) <:+ w:=by
  refine ju (List.drop_suffix _ _) w1 ?_;rw[w2,jy hi];omega
 have h2:=h1.trans w3;have h3:=h.le;refine⟨by omega,?_⟩;have h4:=List.suffix_iff_eq_drop.1 h2;rw[jy hi,uo,Nat.min_eq_left h3]at h4;exact h4.symm
theorem FndOk.most {s b:List Int}{i p n j:Nat}(h:FndOk s (b.take i) p n)(hi:i≤b.length)(hji:j≤i)(hc:pcs b j i <:+: s):i - n≤j:=by
 have:=h.max _ (List.drop_suffix j _) hc;have h2:=jy (l:=b) (j:=j) hi;unfold pcs at h2;omega
end Go.Inl
