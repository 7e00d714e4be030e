/- Slices that stand still, known with all of their block, and taken back as own memory; slices that were appended to as blocks. Conditions: none. Guards that are known to be shut; append of slices whose elements hold slices. Conditions: none. Maps from numbers to numbers: made, written, asked. Conditions: none. A constant string as bytes that stand still; maps made known to frozen memory. Conditions: none. Arrays as blocks: a cell stored, sliced, indexed; an array and one cell built. Conditions: none. Maps from bytes to pointers: made, written, asked. Conditions: none. Calls that turn two resources of their caller. Conditions: none. A function that defers a call which finds nothing to recover. Conditions: it does not panic. Calls that may panic, functions that recover. Conditions: none. append of n zero values to a literal. Conditions: none. A region that draws its order and in which a call may panic. Conditions: none. Operations on bits of integers, cells of arrays that are values, calls of bound methods. Conditions: none. Own slices of ints: sorted, compacted (by the library's contracts, as hypotheses); a copy into an own block. Conditions: as said. A second loop over a function within a function, and the return behind it. Conditions: none. Elements of an own row of lists of cells: loads, stores; an element of an array of structs. Conditions: none. -/
import Derived.Test.YtgkgihnpjgbmhaaGreatDoorKCore2
import Derived.Laws.IdiomStrings
import Derived.RecoverIn
import Derived.Laws.Cover3
import Derived.Sort.Grow
import Derived.Lib.SlicesCompact
import Derived.Laws.CopyRow
import Derived.Laws.IdiomCopy
set_option linter.unusedSimpArgs false
set_option linter.unusedVariables false
namespace Go.Inl
open Go Go.RowKit
section
variable {X:List Nat} {w0 w w':World} {I0 I J:Imm} {L:List Res}
def RowI (I:Imm)(v:Value)(E:TypeId)(sz n:Nat)(xs:List Value):Prop :=
 xs.length=n*sz∧((v = .slice none 0 0∧n=0)∨∃g cap cur,v = .slice (some ⟨g,0,none⟩) n cap∧I g=some (.cells cur E (0,0))∧n≤cap∧cap≤maxLen∧cur.size=cap*sz∧cur.toList.take xs.length=xs)
theorem RowI.mono {v:Value}{E:TypeId}{sz n:Nat}{xs:List Value}(h:RowI I v E sz n xs)(hs:Sub I J):RowI J v E sz n xs:=by
 obtain⟨h1,h | ⟨g,cap,cur,h2,h3,h4⟩⟩:=h
 · exact⟨h1,.inl h⟩
 · exact⟨h1,.inr ⟨g,cap,cur,h2,hs _ _ h3,h4⟩⟩
theorem RowI.flat {α:Type}{enc:α→List Value}{sz n:Nat}{v:Value}{E:TypeId}{xs:List α}(he:∀x,(enc x).length=sz)(h:RowI I v E sz n (flat enc xs))(hn:n=xs.length):RFl I sz enc v xs:=by
 obtain⟨h1,⟨rfl,h0⟩ | ⟨g,cap,cur,rfl,h3,h4,h5,_,h7⟩⟩:=h
 · have hx := Qs.1 (hn.symm.trans h0)
   exact .inl ⟨⟨none,0,rfl,by simp,fun _=>rfl⟩,hx⟩
 · subst hn
   refine RFl.of_block he h3 (fun j v hj=>?_) h4 h5;rw[← h7,List.getElem?_take]at hj;split at hj
   · simpa using hj
   · cases hj
theorem RowI.own_some {v:Value}{E:TypeId}{sz n:Nat}{xs:List Value}(h:RowI I v E sz n xs){b:Nat}(hb:v.ownBlock=some b):∃o,I b=some o:=by
 obtain⟨_,⟨rfl,_⟩ | ⟨g,cap,cur,rfl,h3,_⟩⟩:=h
 · simp[Value.ownBlock]at hb
 · simp only[Value.ownBlock,Option.some.injEq]at hb; subst hb; exact⟨_,h3⟩
theorem St.freezeRowI {sz m : Nat} {E : TypeId} {u : Value} {xs : List Value} (h : St [] w0 I0 I w (.row u E sz m xs :: L)) :
 ∃I',St [] w0 I0 I' w L∧Sub I I'∧RowI I' u E sz m xs∧(∀b,u.ownBlock=some b→I b=none∧w0.heap.size≤b):=by
 have hh:w.ownsRow 0 E sz u m xs:=h.hold (.row u E sz m xs) (by simp);have hn:=h.new (.row u E sz m xs) (by simp);obtain⟨h1,h2,h3⟩:=h.freeze;refine⟨_,h1,h2,⟨hh.1,?_⟩,fun b hb=>?_⟩
 · rcases hh.2 with h | ⟨g, cap, cur, rfl, _, hg, h4, h5, h6, h7⟩
   · exact .inl h
   · exact .inr ⟨g,cap,cur,rfl,by rw[h3 g (by simp[Res.foot,Value.ownBlock]),hg],h4,h5,h6,by rw[hh.1]; exact h7⟩
 · obtain ⟨k1, k2⟩ := hn b (by simp [Res.foot, hb])
   exact⟨k1,k2.resolve_right (by simp)⟩
def Imm.del (I:Imm)(b:Nat):Imm:=fun c=>if c=b then none else I c
theorem Imm.del_sub (I:Imm)(b:Nat):Sub (I.del b) I:=fun c o h=>by unfold Imm.del at h; split at h; cases h; exact h
theorem Imm.sub_del {b:Nat}(h:Sub J I)(hb:J b=none):Sub J (I.del b):=fun c o hc=>by
 unfold Imm.del;rw[xP (fun e=>by subst e; rw[hb]at hc; cases hc)];exact h c o hc
theorem St.thaw {sz n : Nat} {E : TypeId} {v : Value} {xs : List Value} (h : St [] w0 I0 I w L) (hr : RowI I v E sz n xs) (hn : ∀ b, v.ownBlock = some b → I0 b = none ∧ w0.heap.size ≤ b) :
 ∃J,St [] w0 I0 J w (.row v E sz n xs::L)∧Sub J I∧(∀b,v.ownBlock≠some b→J b=I b):=by
 obtain⟨hl,⟨rfl,h0⟩ | ⟨g,cap,cur,rfl,h3,h4,h5,h6,h7⟩⟩:=hr
 · subst h0
   have:=Qs.1 (by simpa using hl);subst this;exact⟨I,h.nilRow E sz,Sub.refl _,fun _ _=>rfl⟩
 · obtain ⟨k1, k2⟩ := hn g rfl
   have hgL:∀r∈L,g∉r.foot:=fun r hr hg=>by have:=(h.new r hr g hg).1; rw[h3]at this; cases this
   refine⟨I.del g,⟨h.os,h.tape,h.output,h.size,h.block,fun b o hb=>h.imm b o (Imm.del_sub I g b o hb),?_,Imm.sub_del h.ext k1,?_,?_,?_⟩,Imm.del_sub I g,fun b hb=>by
    unfold Imm.del;rw[xP (fun e=>hb (by rw[e]; rfl))]⟩
   · intro b hb
     unfold Imm.del;rw[xP (by omega)]; exact h.old b hb
   · intro r hr
     rcases xV.1 hr with rfl | hr
     · exact⟨hl,.inr ⟨g,cap,cur,rfl,Nat.zero_le _,h.imm _ _ h3,h4,h5,h6,by rw[← hl]; exact h7⟩⟩
     · exact h.hold r hr
   · intro r hr b hb
     rcases xV.1 hr with rfl | hr
     · simp only [Res.foot, Value.ownBlock, Option.toList_some, uG] at hb
       subst hb;exact⟨by simp[Imm.del],.inl k2⟩
     · refine ⟨?_, (h.new r hr b hb).2⟩
       unfold Imm.del;split
       · rfl
       · exact(h.new r hr b hb).1
   · simp only [List.flatMap_cons, Res.foot, Value.ownBlock, Option.toList_some, List.singleton_append, List.nodup_cons]
     refine⟨fun hm=>?_,h.nodup⟩;obtain⟨r,hr,hb⟩:=List.mem_flatMap.1 hm;exact hgL r hr hb
theorem RFl.at_block {α:Type}{sz:Nat}{enc:α→List Value}{v:Value}{xs:List α}(h:RFl I sz enc v xs)(hJ:∀b,v.ownBlock=some b→J b=I b):RFl J sz enc v xs:=by
 rcases h with h | ⟨b,o,cap,h1,h2,h3,h4⟩
 · exact .inl h
 · refine .inr ⟨b, o, cap, h1, h2, h3, fun i x hx => ?_⟩
   obtain⟨cs,c1,⟨c2,c,T,fz,c3,c4⟩,c5⟩:=h4 i x hx;refine⟨cs,c1,⟨c2,c,T,fz,?_,c4⟩,c5⟩;rw[hJ b (by rw[h1]; rfl)]; exact c3
theorem RowI.at_block {sz n:Nat}{E:TypeId}{v:Value}{xs:List Value}(h:RowI I v E sz n xs)(hJ:∀b,v.ownBlock=some b→J b=I b):RowI J v E sz n xs:=by
 obtain⟨h1,h | ⟨g,cap,cur,h2,h3,h4⟩⟩:=h
 · exact⟨h1,.inl h⟩
 · exact⟨h1,.inr ⟨g,cap,cur,h2,by rw[hJ g (by rw[h2]; rfl)]; exact h3,h4⟩⟩
theorem St.rowCel (k : Nat) {sz n c : Nat} {E : TypeId} {a : Option Addr} {xs : List Value} (h : St X w0 I0 I w L) (hk : L[k]? = some (.row (.slice a n c) E sz n xs)) (hn : 0 < n) :
 ∃b rest,a=some ⟨b,0,none⟩∧n≤c∧c≤maxLen∧(xs++rest).length=c*sz∧xs.length=n*sz∧St X w0 I0 I w (L.set k (.cel b E (xs++rest))):=by
 have hh:w.ownsRow 0 E sz (.slice a n c) n xs:=h.hold _ (xR hk);obtain⟨hl,h0 | ⟨g,cap,cur,hv,_,hg,h4,h5,h6,h7⟩⟩:=hh
 · obtain⟨_,h0⟩:=h0; omega
 · simp only [Value.slice.injEq] at hv
   obtain⟨rfl,_,rfl⟩:=hv;have e:xs++cur.toList.drop xs.length=cur.toList:=by
    conv=>lhs; lhs; rw[← h7,← hl]
    exact List.take_append_drop _ _
   refine⟨g,cur.toList.drop xs.length,rfl,h4,h5,by rw[e]; simpa using h6,hl,?_⟩;rw[e];refine h.change hk (r':=.cel g E cur.toList) rfl rfl rfl (uc _) (fun _ _ _=>rfl) (fun c hc=>.inl (by simpa [Res.foot,Value.ownBlock] using hc)) (by simp[Res.foot]) ?_;show w.heap[g]? = _
   simpa using hg
theorem St.celRow (k : Nat) {sz n c b : Nat} {E : TypeId} {xs rest : List Value} (h : St X w0 I0 I w L) (hk : L[k]? = some (.cel b E (xs ++ rest))) (hl : xs.length = n * sz) (hn : n ≤ c) (hc : c ≤ maxLen) (hr : (xs ++ rest).length = c * sz) :
 St X w0 I0 I w (L.set k (.row (.slice (some ⟨b,0,none⟩) n c) E sz n xs)):=by
 have hh:w.heap[b]? = some (.cells (xs++rest).toArray E (0,0)):=h.hold _ (xR hk);refine h.change hk (r':=.row (.slice (some ⟨b,0,none⟩) n c) E sz n xs) rfl rfl rfl (uc _) (fun _ _ _=>rfl) (fun d hd=>.inl (by simpa [Res.foot,Value.ownBlock] using hd)) (by simp[Res.foot,Value.ownBlock]) ?_;exact⟨hl,.inr ⟨b,c,_,rfl,Nat.zero_le _,hh,hn,hc,by simpa using hr,by rw[← hl]; simp⟩⟩
end
section
variable {P:Program} {n:Nat} {σ:Nat→Value} {ty t:TypeId} {x y:Operand} {X:List Nat} {w0 w:World} {I0 I:Imm} {L:List Res}
theorem jS {α : Type} {enc : α → List Value} {sz by' : Nat} (he : ∀ x, (enc x).length = sz) (a : α) (N : Nat) {e : TypeId} {z : Value} {kl kc : IntKind} {m : Int} (Z : St X w0 I0 I w L) (hT : P.underlying t = some (.slice e)) (hi : Info P e z sz by') (hz : z.cells = (enc a).toArray) (hsz : Nat.blt 0 sz = true)
 (hx:ev n σ x = .int kl m) (hy:ev n σ y = .int kc m) (hm:m=N) (hN:N≤4294967296) (hb:Nat.ble by' 1024=true) :
 Does P (ev n σ) (.makeSlice t x y) ty w fun v w'=>∃b,v = .slice (some ⟨b,0,none⟩) N N∧St X w0 I0 I w' (.cel b e (flat enc (List.replicate N a))::L):=by
 subst hm;have hb':by'≤1024:=xH hb
 have h1:by'*N≤1024*4294967296:=Nat.mul_le_mul hb' hN
 refine(i_make Z hT hi hx hy (by omega) (Int.le_refl _) (by rw[← Int.natCast_mul]; omega) (by omega)).mono ?_;rintro v w' ⟨b,rfl,h⟩;refine⟨b,rfl,?_⟩;rw[hz,Int.toNat_natCast,madeCells_flat he (by simpa using hsz) N a]at h;exact h
end
theorem vI : ∀ (us vs : List Value), us.length = vs.length → putL us 0 vs = vs
 | [],[],_=>rfl
 | [],v::vs,h=>by simp at h
 | u::us,[],h=>by simp at h
 | u::us,v::vs,h=>by
   show v::putL us 0 vs=_
   rw[vI us vs (by simpa using h)]
theorem flat_focus {α:Type}{enc:α→List Value}{xs:List α}{i:Nat}{x:α}(rest:List Value)(h:xs[i]? = some x):flat enc xs++rest=flat enc (xs.take i)++(enc x++(flat enc (xs.drop (i+1))++rest)):=by
 obtain⟨hi,rfl⟩:=xX.1 h;have e:flat enc xs=flat enc (xs.take i)++(enc xs[i]++flat enc (xs.drop (i+1))):=by
  conv=>lhs; rw[← List.take_append_drop i xs,List.drop_eq_getElem_cons hi]
  rw[ql];simp only[flat,List.flatMap_cons]
 rw[e];simp only[uh]
theorem flat_unfocus {α:Type}{enc:α→List Value}{xs:List α}{i:Nat}(y:α)(rest:List Value)(hi:i < xs.length):flat enc (xs.take i)++(enc y++(flat enc (xs.drop (i+1))++rest))=flat enc (xs.set i y)++rest:=by
 rw[flat_focus (xs:=xs.set i y) (i:=i) (x:=y) rest (by simp[hi])];rw[List.take_set_of_le (uc i),List.drop_set_of_lt (by omega)]
section
variable {P:Program} {n:Nat} {σ:Nat→Value} {ty t:TypeId} {x y:Operand} {X:List Nat} {w0 w:World} {I0 I:Imm} {L:List Res}
theorem jd (k : Nat) {α : Type} {enc : α → List Value} {sz : Nat} (he : ∀ x, (enc x).length = sz) {xs : List α} {a : Option Addr} {N cap i c m : Nat} {E : TypeId} {x0 : α} (x1 : α) (Z : St X w0 I0 I w L) (hN : N = xs.length) (h0 : xs[i]? = some x0) (hm : ∀ w, (sizeOf t).run P w = .ok m w)
 (hL:L[k]? = some (.row (.slice a N cap) E sz N (flat enc xs))) (hx:ev n σ x = .pointer (some (elA (.slice a N cap) i sz c))) {v:Value} (hy:ev n σ y=v) {vs:List Value} (hv:v.cells.toList=vs) (hlen:vs.length=m) (h1:vs.all (·.oneCell')=true)
 (hl:Nat.ble (c+m) sz=true) (hc:putL (enc x0) c vs=enc x1):Does P (ev n σ) (.store t x y) ty w fun u w'=>u=undef∧St X w0 I0 I w' (L.set k (.row (.slice a N cap) E sz N (flat enc (xs.set i x1)))):=by
 have hi:=(xX.1 h0).1;have hl':c+m≤sz:=xH hl;obtain⟨b,rest,rfl,hnc,hcm,hrl,hxl,hS2⟩:=Z.rowCel k hL (by omega);have hk:=(xX.1 hL).1;have hfo:=flat_focus (enc:=enc) rest h0;rw[hfo]at hS2;have hx':ev n σ x = .pointer (some ⟨b,i*sz+c,none⟩):=by rw[hx]; simp[elA]
 have hpre:i*sz=(flat enc (xs.take i)).length:=by rw[qU he,uo,Nat.min_eq_left (by omega)]
 refine(jQ k (L:=L.set k (.cel b E (flat enc (xs.take i)++(enc x0++(flat enc (xs.drop (i+1))++rest))))) (row':=enc x1) hS2 hm (List.getElem?_set_self hk) hpre hx' hy hv hlen h1 (by rw[he]; omega) hc).mono ?_;rintro u w' ⟨rfl,hS3⟩;refine⟨rfl,?_⟩;rw[List.set_set,flat_unfocus x1 rest hi]at hS3;have hlen2:(flat enc (xs.set i x1)).length=(flat enc xs).length:=by rw[qU he,qU he,ud]
 have hS4:=hS3.celRow k (n:=N) (c:=cap) (xs:=flat enc (xs.set i x1)) (rest:=rest) (List.getElem?_set_self hk) (by rw[hlen2,hxl]) hnc hcm (by rw[xN,hlen2,← xN,hrl]);rwa [List.set_set]at hS4
end
end Go.Inl
namespace Go.Inl
open Go Go.RowKit
section
variable {P : Program} {n : Nat} {df : List Deferred} {ro : Option Nat} {σ : Nat → Value} {w : World} {Q : Exit → Act → World → Prop} {rest l : List Oper} {d : Option Tmp} {op : Op} {ty : TypeId} {p : String} {af : Array Edge}
 {X:List Nat} {w0:World} {I0 I:Imm} {L:List Res} {v:Value} {j t i:Nat} {g g':Bool} {r:Od} {S:World→Prop}
theorem qsf (hj' : dstAt l j = some t) (hv : ev n σ (.tmp t) = .bool g') (hne : g' = !g) (k : OL P l Q n df rest (updO σ d undef) w) :
 OL P l Q n df (⟨d,op,ty,p,af,some (j,g)⟩::rest) σ w:=⟨wl_gf (jZ hj') hv hne k.run⟩
theorem qsu (hj' : dstAt l j = some t) (hv : ev n σ (.tmp t) = undef) (k : OL P l Q n df rest (updO σ d undef) w) :
 OL P l Q n df (⟨d,op,ty,p,af,some (j,g)⟩::rest) σ w:=⟨by
 unfold wpL;rw[xP (by rw[wanted_undef (jZ hj') hv]; exact Bool.false_ne_true),jA];exact k.run⟩
theorem sgf (hi : l[i]? = some ⟨d, op, ty, p, af, some (j, g)⟩) (hj' : dstAt l j = some t) (hv : ev n σ (.tmp t) = .bool g') (hne : g' = !g) (Z : St X w0 I0 I w L) (k : OS P l Q n df r (KS X w0 I0 I L) (updO σ d undef) w) :
 OS P l Q n df (.cons i .eff r) (KS X w0 I0 I L) σ w:=⟨by
 unfold WS opR;rw[show l.toArray[i]? = some _ by simpa using hi];dsimp only;rw[xP (by rw[vg (yJ hj') hv hne]; exact Bool.false_ne_true)];exact⟨_,_,jA _ _ _ _ _,fun _ h=>h,Z,k.run⟩⟩
end
theorem RSl.cells {α : Type} {I : Imm} {sz : Nat} {R : List Value → α → Prop} {u : Value} {ys : List α} (h : RSl I sz R u ys) (h1 : ∀ cs x, R cs x → cs.all (·.oneCell') = true) :
 ∃css:List {cs:List Value // cs.length=sz∧cs.all (·.oneCell')=true},css.length=ys.length∧All2 R (css.map (·.1)) ys∧RFl I sz (·.1) u css:=by
 rcases h with ⟨h,rfl⟩ | ⟨b,o,cap,rfl,h2,h3,h4⟩
 · exact⟨[],rfl,All2.nil R,.inl ⟨h,rfl⟩⟩
 · have hall : ∀ (zs : List α) (o : Nat), (∀ i x, zs[i]? = some x → ∃ cs, cs.length = sz ∧ atI I ⟨b, o + i * sz, none⟩ cs ∧ R cs x) →
    ∃css:List {cs:List Value // cs.length=sz∧cs.all (·.oneCell')=true},css.length=zs.length∧All2 R (css.map (·.1)) zs∧∀i x,css[i]? = some x→∃cs,cs.length=sz∧atI I ⟨b,o+i*sz,none⟩ cs∧cs=x.1:=by
    intro zs;induction zs with
    | nil=>intro o _; exact⟨[],rfl,All2.nil R,fun i x hx=>by simp at hx⟩
    | cons z zs ih =>
      intro o hz;obtain⟨cs,c1,c2,c3⟩:=hz 0 z rfl;obtain⟨css,d1,d2,d3⟩:=ih (o+sz) (fun i x hx=>by
       obtain⟨c,e1,e2,e3⟩:=hz (i+1) x (by simpa using hx);exact⟨c,e1,by rw[Nat.add_mul,Nat.one_mul,Nat.add_comm (i*sz) sz,← Nat.add_assoc]at e2; exact e2,e3⟩)
      refine⟨⟨cs,c1,h1 _ _ c3⟩::css,by simp[d1],All2.cons c3 d2,fun i x hx=>?_⟩;cases i with
      | zero=>simp at hx; subst hx; exact⟨cs,c1,by simpa using c2,rfl⟩
      | succ i =>
        obtain⟨c,e1,e2,e3⟩:=d3 i x (by simpa using hx);exact⟨c,e1,by rw[Nat.add_mul,Nat.one_mul,Nat.add_comm (i*sz) sz,← Nat.add_assoc]; exact e2,e3⟩
   obtain⟨css,d1,d2,d3⟩:=hall ys o h4;exact⟨css,d1,d2,.inr ⟨b,o,cap,by rw[d1],by omega,h3,d3⟩⟩
theorem All2.append {α : Type} {R : List Value → α → Prop} : ∀ {a : List (List Value)} {x : List α} {b : List (List Value)} {y : List α}, All2 R a x → All2 R b y → All2 R (a ++ b) (x ++ y)
 | [],[],b,y,_,h=>h
 | [],_::_,_,_,h,_=>by simp[All2]at h
 | _::_,[],_,_,h,_=>by simp[All2]at h
 | c::a,z::x,b,y,h,k=>All2.cons (h.2 0 c z rfl rfl) (All2.append ⟨by simpa using h.1,fun i c' z' hc hz=>h.2 (i+1) c' z' (by simpa using hc) (by simpa using hz)⟩ k)
theorem ROp.one {I:Imm}(cs:List Value)(x:OpL)(h:ROp I cs x):cs.all (·.oneCell')=true:=by
 obtain⟨ad,m,cap,rfl,_⟩:=h; rfl
end Go.Inl
namespace Go.Inl
open Go Go.RowKit
def entL : Nat → List (Int × Int) → List MapEntry
 | _,[]=>[]
 | i,x::r=>{ key:=.ig x.1,val:=.ig x.2,born:=i }::entL (i+1) r
def mapO (l:List (Int×Int)):Obj:=.map (entL 0 l).toArray l.length
def lookI : List (Int × Int) → Int → Option Int
 | [],_=>none
 | x::r,k=>if k=x.1 then some x.2 else lookI r k
theorem entL_snoc : ∀ (l : List (Int × Int)) (b : Nat) (x : Int × Int), entL b (l ++ [x]) = entL b l ++ [{ key := .ig x.1, val := .ig x.2, born := b + l.length }]
 | [],b,x=>rfl
 | y::r,b,x=>by
   show _::entL (b+1) (r++[x])=_::(entL (b+1) r++_)
   rw[entL_snoc r (b+1) x,List.length_cons,show b+1+r.length=b+(r.length+1) by omega]
theorem lookI_snoc : ∀ (l : List (Int × Int)) (k v j : Int), lookI (l ++ [(k, v)]) j = match lookI l j with | some x => some x | none => if j = k then some v else none
 | [],k,v,j=>rfl
 | y::r,k,v,j=>by
   show(if j=y.1 then some y.2 else lookI (r++[(k,v)]) j)=_
   by_cases h:j=y.1
   · simp[lookI,h]
   · simp only[lookI,xP h]; exact lookI_snoc r k v j
theorem findNow_some (k v : Int) : ∀ (l : List (Int × Int)) (b i : Nat), lookI l k = some v → ∃ j, Instr.findNow (.int .i64) (.ig k) (entL b l) i = some (some (j, .ig v))
 | [],b,i,h=>by simp[lookI]at h
 | x::r,b,i,h=>by
   unfold lookI at h;unfold entL Instr.findNow;by_cases e:k=x.1
   · rw [xS e] at h
     obtain rfl:=Option.some.inj h;exact⟨i,by simp[Instr.sameNow,e]⟩
   · rw [xP e] at h
     obtain⟨j,hj⟩:=findNow_some k v r (b+1) (i+1) h;exact⟨j,by simpa [Instr.sameNow,beq_eq_false_iff_ne.2 e] using hj⟩
theorem zS (k : Int) : ∀ (l : List (Int × Int)) (b i : Nat), lookI l k = none → Instr.findNow (.int .i64) (.ig k) (entL b l) i = some none
 | [],b,i,h=>rfl
 | x::r,b,i,h=>by
   unfold lookI at h;unfold entL Instr.findNow;by_cases e:k=x.1
   · rw[xS e]at h; cases h
   · rw [xP e] at h
     simpa [Instr.sameNow,beq_eq_false_iff_ne.2 e] using zS k r (b+1) (i+1) h
theorem checkInt {P:Program}{w:World}{ky:TypeId}(hk:P.underlying ky=some (.int .i64))(e:Bool)(n:Nat)(k:Int):(Instr.checkKey e (n+1) ky (.ig k)).run P w = .ok () w:=by
 unfold Instr.checkKey;simp[Sem.run_bind,run_underlying hk,Result.andThen]
theorem findInt {P:Program}{w:World}{ky:TypeId}{k:Value}{l:List MapEntry}{a:Option (Nat×Value)}(hd:P.underlying ky=some (.int .i64))(h:Instr.findNow (.int .i64) k l 0=some a):(Instr.findKey ky k l).run P w = .ok a w:=by
 simp[Instr.findKey,run_underlying hd,Result.andThen,h]
theorem getMap {P:Program}{w:World}{r:Nat}{es:Array MapEntry}{c:Nat}(hb:w.heap[r]? = some (.map es c)):(getObj r).run P w = .ok (.map es c) w:=by
 simp[getObj,Sem.run,hb]
theorem setMap {P:Program}{w:World}{r:Nat}{es:Array MapEntry}{c:Nat}(o:Obj)(hb:w.heap[r]? = some (.map es c)):(setObj r o).run P w = .ok () { w with heap:=w.heap.setIfInBounds r o }:=by
 simp[setObj,Sem.run,hb]
theorem run_lookI {P : Program} {w : World} {t ky el : TypeId} {r : Nat} {l : List (Int × Int)} {k : Int} (hT : P.underlying t = some (.map ky el)) (hk : P.underlying ky = some (.int .i64)) (hz : ∀ w, (zeroValue el).run P w = .ok (.ig 0) w) (hb : w.heap[r]? = some (mapO l)) :
 (Instr.lookup t (.map (some r)) (.ig k) true).run P w = .ok (.tuple #[.ig ((lookI l k).getD 0),.bool (lookI l k).isSome]) w:=by
 unfold Instr.lookup;unfold mapO at hb;have hg:=getMap (P:=P) hb;cases h:lookI l k with
 | none =>
   have h2:=findInt (P:=P) (w:=w) hk (zS k l 0 0 h);simp[Sem.run_bind,run_underlying hT,Result.andThen,hg,checkInt hk,h2,hz]
 | some v =>
   obtain⟨j,hj⟩:=findNow_some k v l 0 0 h;have h2:=findInt (P:=P) (w:=w) hk hj;simp[Sem.run_bind,run_underlying hT,Result.andThen,hg,checkInt hk,h2]
section
variable {P:Program} {n:Nat} {σ:Nat→Value} {ty:TypeId} {X:List Nat} {w0 w:World} {I0 I:Imm} {L:List Res} {t ky el:TypeId} {x y z:Operand} {r:Nat} {l:List (Int×Int)} {k v:Int}
theorem g_lookF (hT : P.underlying t = some (.map ky el)) (hk : P.underlying ky = some (.int .i64)) (hz : ∀ w, (zeroValue el).run P w = .ok (.ig 0) w) (hI : I r = some (mapO l)) (hx : ev n σ x = .map (some r)) (hy : ev n σ y = .ig k) :
 Gives P (ev n σ) (KS X w0 I0 I L) (.lookup t x y true) ty (.tuple #[.ig ((lookI l k).getD 0),.bool (lookI l k).isSome]):=fun w hw=>by
 have h:=run_lookI (P:=P) (k:=k) hT hk hz (hw.imm r _ hI);simp only[execOp,hx,hy,Sem.run_bind,h,Result.andThen_ok]; rfl
theorem g_lookO (i : Nat) (hT : P.underlying t = some (.map ky el)) (hk : P.underlying ky = some (.int .i64)) (hz : ∀ w, (zeroValue el).run P w = .ok (.ig 0) w) (hL : L[i]? = some (.obj r (mapO l))) (hx : ev n σ x = .map (some r)) (hy : ev n σ y = .ig k) :
 Gives P (ev n σ) (KS X w0 I0 I L) (.lookup t x y true) ty (.tuple #[.ig ((lookI l k).getD 0),.bool (lookI l k).isSome]):=fun w hw=>by
 have h:=run_lookI (P:=P) (k:=k) hT hk hz (show w.heap[r]? = some (mapO l) from hw.hold _ (xR hL));simp only[execOp,hx,hy,Sem.run_bind,h,Result.andThen_ok]; rfl
theorem d_makeMap (Z:St X w0 I0 I w L):Does P (ev n σ) (.makeMap t none) ty w fun v w'=>∃b,v = .map (some b)∧St X w0 I0 I w' (.obj b (mapO [])::L):=by
 refine qP (v:=.map (some w.heap.size)) (w':=w.alloc (mapO [])) ?_ ⟨_,rfl,Z.newObj (mapO [])⟩;simp[execOp,Instr.makeMap,newObj,mapO,entL,Sem.run]
theorem d_mapPut (i : Nat) (Z : St X w0 I0 I w L) (hT : P.underlying t = some (.map ky el)) (hk : P.underlying ky = some (.int .i64)) (hL : L[i]? = some (.obj r (mapO l))) (hx : ev n σ x = .map (some r)) (hy : ev n σ y = .ig k) (hz : ev n σ z = .ig v) (hn : lookI l k = none) :
 Does P (ev n σ) (.mapUpdate t x y z) ty w fun u w'=>u=undef∧St X w0 I0 I w' (L.set i (.obj r (mapO (l++[(k,v)])))):=by
 have hb:w.heap[r]? = some (mapO l):=Z.hold _ (xR hL);have h2:=findInt (P:=P) (w:=w) hk (zS k l 0 0 hn);have e:mapO (l++[(k,v)]) = .map (entL 0 l++[({ key:=.ig k,val:=.ig v,born:=l.length }:MapEntry)]).toArray (l.length+1):=by
  unfold mapO;rw[entL_snoc]; simp
 have hP:=Z.putO (o':=mapO (l++[(k,v)])) hL;unfold mapO at hb;have hg:=getMap (P:=P) hb;have hr:(Instr.mapUpdate t (.map (some r)) (.ig k) (.ig v)).run P w = .ok () (w.putObj r (mapO (l++[(k,v)]))):=by
  unfold Instr.mapUpdate;rw[e];have hs:=setMap (P:=P) (.map (entL 0 l++[({ key:=.ig k,val:=.ig v,born:=l.length }:MapEntry)]).toArray (l.length+1)) hb;simp[Sem.run_bind,run_underlying hT,Result.andThen,hg,checkInt hk,h2,hs,World.putObj]
 refine zy (w':=w.putObj r (mapO (l++[(k,v)]))) ?_ ⟨rfl,hP⟩;simp only[execOp,hx,hy,hz,Sem.run_bind,hr,Result.andThen_ok]; rfl
end
end Go.Inl
namespace Go.Inl
open Go Go.RowKit
section
variable {P:Program} {n:Nat} {σ:Nat→Value} {ty:TypeId} {w0 w:World} {I0 I:Imm} {L:List Res} {t t' e:TypeId} {x:Operand}
theorem St.freezeO {b:Nat}{o:Obj}(h:St [] w0 I0 I w (.obj b o::L)):∃I',St [] w0 I0 I' w L∧Sub I I'∧I' b=some o:=by
 obtain⟨h1,h2,h3⟩:=h.freeze;exact⟨_,h1,h2,(h3 b (uG.2 rfl)).trans (h.hold _ (List.mem_cons_self ..))⟩
theorem freeze_own {b k:Nat}{T:TypeId}{cs:List Value}(hb:w.heap[b]? = some (.cells cs.toArray T (0,0))):w.freeze ⟨b,k,none⟩ 1=w.putObj b (.cells cs.toArray T (k,k+1)):=by
 have hlt:b < w.heap.size:=(Array.getElem?_eq_some_iff.1 hb).1;have hv:w.heap[b] = .cells cs.toArray T (0,0):=(Array.getElem?_eq_some_iff.1 hb).2;unfold World.freeze World.putObj;rw[xP (by decide)];congr 1
 apply Array.ext
 · simp
 · intro i h1 h2
   by_cases h:b=i
   · subst h; simp[Array.getElem_modify,hv]
   · rw[Array.getElem_modify,xP h,Array.getElem_setIfInBounds_ne _ h]
theorem d_markF {b k : Nat} {xs : List Int} (Z : St [] w0 I0 I w (.cel b e (flat byteC xs) :: L)) (ht : t = t') (hT : P.underlying t = some (.slice e)) (he : P.underlying e = some (.int .u8)) (hx : ev n σ x = .slice (some ⟨b, 0, none⟩) k k) (hk : k = xs.length) (hl : xs.length ≤ 1048576) :
 Does P (ev n σ) (.convert t t' x) ty w fun v w'=>∃I',v = .slice (some ⟨b,0,none⟩) k k∧St [] w0 I0 I' w' L∧Inl.Sub I I'∧RBytes I' v xs:=by
 subst ht; subst hk
 have hb:w.heap[b]? = some (.cells (flat byteC xs).toArray e (0,0)):=Z.hold _ (List.mem_cons_self ..);have hlen:(flat byteC xs).length=xs.length:=by rw[qU qA,Nat.mul_one]
 have hfz:=freeze_own (k:=xs.length) hb;have hsh:w.shape? b=some (e,xs.length):=by unfold World.shape?; rw[hb]; simp[hlen]
 have hS1:St [] w0 I0 I (w.putObj b (.cells (flat byteC xs).toArray e (xs.length,xs.length+1))) (.obj b (.cells (flat byteC xs).toArray e (xs.length,xs.length+1))::L):=by
  have hlt:=(Array.getElem?_eq_some_iff.1 hb).1;exact Z.change (k:=0) (r':=.obj b (.cells (flat byteC xs).toArray e (xs.length,xs.length+1))) rfl rfl rfl rfl (by simp) (fun c _ hc=>World.putObj_heap_other (fun e=>hc (by simp[Res.foot,e]))) (fun c hc=>.inl hc) (by simp[Res.foot]) (World.putObj_heap_same hlt)
 obtain⟨I',hS',hsub,hI⟩:=St.freezeO hS1;refine qP (v:=.slice (some ⟨b,0,none⟩) xs.length xs.length) (w':=w.putObj b (.cells (flat byteC xs).toArray e (xs.length,xs.length+1))) ?_ ⟨I',rfl,hS',hsub,?_⟩
 · simp[execOp,hx,convert,run_underlying hT,run_underlying he,Result.andThen,markStringish,hsh,hfz]
 · refine .inr ⟨b, 0, xs.length, rfl, uc _, by unfold maxLen; omega, fun i y hy => ⟨_, rfl, ⟨rfl, _, _, _, hI, fun j v hv => ?_⟩, rfl⟩⟩
   have:=qN qA xs i y hy j v hv;show(flat byteC xs).toArray[0+i*1+j]? = some v
   rw[Qv,List.getElem?_toArray]; exact this
end
end Go.Inl
namespace Go.Inl
open Go Go.RowKit
def u32C (b:Int):List Value:=[.int .u32 b]
theorem qW (b:Int):(u32C b).length=1:=rfl
def u32s (c:List Int):List Value:=c.map (Value.int .u32)
theorem jb (c:List Int):(u32s c).length=c.length:=Qb _
theorem u32s_set (c:List Int)(i:Nat)(v:Int):(u32s c).set i (.int .u32 v)=u32s (c.set i v):=by unfold u32s; rw[List.map_set]
theorem u32s_at {c:List Int}{i:Nat}{v:Int}(h:c[i]? = some v):(u32s c)[i]? = some (.int .u32 v):=by unfold u32s; rw[uW,h]; rfl
theorem u32s_one (c:List Int):(u32s c).all (·.oneCell')=true:=by rw[Ke]; intro v hv; obtain⟨x,_,rfl⟩:=Qu.1 hv; rfl
section
variable {P:Program} {n:Nat} {σ:Nat→Value} {ty t:TypeId} {X:List Nat} {w0 w:World} {I0 I:Imm} {L:List Res} {x y:Operand}
theorem zz (k : Nat) {b o : Nat} {T : TypeId} {cs : List Value} {v : Value} (Z : St X w0 I0 I w L) (hm : ∀ w, (sizeOf t).run P w = .ok 1 w) (hL : L[k]? = some (.cel b T cs)) (ho : o < cs.length)
 (hx:ev n σ x = .pointer (some ⟨b,o,none⟩)) (hy:ev n σ y=v) (hv:v.cells.toList=[v]) (h1:v.oneCell'=true):Does P (ev n σ) (.store t x y) ty w fun u w'=>u=undef∧St X w0 I0 I w' (L.set k (.cel b T (cs.set o v))):=by
 have e:cs=cs.take o++([cs[o]]++cs.drop (o+1)):=by
  rw[List.singleton_append,← List.drop_eq_getElem_cons ho,List.take_append_drop]
 have e2:cs.set o v=cs.take o++([v]++cs.drop (o+1)):=by
  rw[List.set_eq_take_append_cons_drop,xS ho]; rfl
 rw[e]at hL;rw[e2];refine jQ (k:=k) (c:=0) (row':=[v]) Z hm hL (by rw[uo]; omega) hx hy hv rfl (by simp[h1]) (by simp) rfl
theorem jx {S : World → Prop} {e : TypeId} {N : Nat} {K : IntKind} {i : Int} {cs : List Value} {v : Value} (hT : P.underlying t = some (.array N e)) (hs : ∀ w, (sizeOf e).run P w = .ok 1 w) (ha : ∀ w, (isAgg e).run P w = .ok false w)
 (hx:ev n σ x = .agg cs.toArray) (hi:ev n σ y = .int K i) (h0:0≤i) (h1:i < N) (hv:cs[i.toNat]? = some v):Gives P (ev n σ) S (.index t x y) ty v:=fun w _=>by
 simp[execOp,Instr.index,Sem.run_bind,run_underlying hT,hx,hi,asIntOf,h0,h1,hs,part,ha,hv]
end
end Go.Inl
namespace Go.Inl
open Go Go.RowKit
def ptrO : Option Nat → Value
 | some c=>.pointer (some ⟨c,0,none⟩)
 | none=>.pointer none
def entLB : Nat → List (Int × Nat) → List MapEntry
 | _,[]=>[]
 | i,x::r=>{ key:=.int .u8 x.1,val:=.pointer (some ⟨x.2,0,none⟩),born:=i }::entLB (i+1) r
def mapOB (l:List (Int×Nat)):Obj:=.map (entLB 0 l).toArray l.length
def lookIB : List (Int × Nat) → Int → Option Nat
 | [],_=>none
 | x::r,k=>if k=x.1 then some x.2 else lookIB r k
theorem entL_snocB : ∀ (l : List (Int × Nat)) (b : Nat) (x : Int × Nat), entLB b (l ++ [x]) = entLB b l ++ [{ key := .int .u8 x.1, val := .pointer (some ⟨x.2, 0, none⟩), born := b + l.length }]
 | [],b,x=>rfl
 | y::r,b,x=>by
   show _::entLB (b+1) (r++[x])=_::(entLB (b+1) r++_)
   rw[entL_snocB r (b+1) x,List.length_cons,show b+1+r.length=b+(r.length+1) by omega]
theorem kA : ∀ (l : List (Int × Nat)) (k : Int) (v : Nat) (j : Int), lookIB (l ++ [(k, v)]) j = match lookIB l j with | some x => some x | none => if j = k then some v else none
 | [],k,v,j=>rfl
 | y::r,k,v,j=>by
   show(if j=y.1 then some y.2 else lookIB (r++[(k,v)]) j)=_
   by_cases h:j=y.1
   · simp[lookIB,h]
   · simp only[lookIB,xP h]; exact kA r k v j
theorem findNow_someB (k : Int) (v : Nat) : ∀ (l : List (Int × Nat)) (b i : Nat), lookIB l k = some v → ∃ j, Instr.findNow (.int .u8) (.int .u8 k) (entLB b l) i = some (some (j, .pointer (some ⟨v, 0, none⟩)))
 | [],b,i,h=>by simp[lookIB]at h
 | x::r,b,i,h=>by
   unfold lookIB at h;unfold entLB Instr.findNow;by_cases e:k=x.1
   · rw [xS e] at h
     obtain rfl:=Option.some.inj h;exact⟨i,by simp[Instr.sameNow,e]⟩
   · rw [xP e] at h
     obtain⟨j,hj⟩:=findNow_someB k v r (b+1) (i+1) h;exact⟨j,by simpa [Instr.sameNow,beq_eq_false_iff_ne.2 e] using hj⟩
theorem zf (k : Int) : ∀ (l : List (Int × Nat)) (b i : Nat), lookIB l k = none → Instr.findNow (.int .u8) (.int .u8 k) (entLB b l) i = some none
 | [],b,i,h=>rfl
 | x::r,b,i,h=>by
   unfold lookIB at h;unfold entLB Instr.findNow;by_cases e:k=x.1
   · rw[xS e]at h; cases h
   · rw [xP e] at h
     simpa [Instr.sameNow,beq_eq_false_iff_ne.2 e] using zf k r (b+1) (i+1) h
theorem checkIntB {P:Program}{w:World}{ky:TypeId}(hk:P.underlying ky=some (.int .u8))(e:Bool)(n:Nat)(k:Int):(Instr.checkKey e (n+1) ky (.int .u8 k)).run P w = .ok () w:=by
 unfold Instr.checkKey;simp[Sem.run_bind,run_underlying hk,Result.andThen]
theorem findIntB {P:Program}{w:World}{ky:TypeId}{k:Value}{l:List MapEntry}{a:Option (Nat×Value)}(hd:P.underlying ky=some (.int .u8))(h:Instr.findNow (.int .u8) k l 0=some a):(Instr.findKey ky k l).run P w = .ok a w:=by
 simp[Instr.findKey,run_underlying hd,Result.andThen,h]
theorem run_lookIB {P : Program} {w : World} {t ky el : TypeId} {r : Nat} {l : List (Int × Nat)} {k : Int} (hT : P.underlying t = some (.map ky el)) (hk : P.underlying ky = some (.int .u8)) (hz : ∀ w, (zeroValue el).run P w = .ok (.pointer none) w) (hb : w.heap[r]? = some (mapOB l)) :
 (Instr.lookup t (.map (some r)) (.int .u8 k) true).run P w = .ok (.tuple #[ptrO (lookIB l k),.bool (lookIB l k).isSome]) w:=by
 unfold Instr.lookup;unfold mapOB at hb;have hg:=getMap (P:=P) hb;cases h:lookIB l k with
 | none =>
   have h2:=findIntB (P:=P) (w:=w) hk (zf k l 0 0 h);simp[Sem.run_bind,run_underlying hT,Result.andThen,hg,checkIntB hk,h2,hz,ptrO]
 | some v =>
   obtain⟨j,hj⟩:=findNow_someB k v l 0 0 h;have h2:=findIntB (P:=P) (w:=w) hk hj;simp[Sem.run_bind,run_underlying hT,Result.andThen,hg,checkIntB hk,h2,ptrO]
section
variable {P:Program} {n:Nat} {σ:Nat→Value} {ty:TypeId} {X:List Nat} {w0 w:World} {I0 I:Imm} {L:List Res} {t ky el:TypeId} {x y z:Operand} {r:Nat} {l:List (Int×Nat)} {k:Int} {v:Nat}
theorem g_lookOB (i : Nat) (hT : P.underlying t = some (.map ky el)) (hk : P.underlying ky = some (.int .u8)) (hz : ∀ w, (zeroValue el).run P w = .ok (.pointer none) w) (hL : L[i]? = some (.obj r (mapOB l))) (hx : ev n σ x = .map (some r)) (hy : ev n σ y = .int .u8 k) :
 Gives P (ev n σ) (KS X w0 I0 I L) (.lookup t x y true) ty (.tuple #[ptrO (lookIB l k),.bool (lookIB l k).isSome]):=fun w hw=>by
 have h:=run_lookIB (P:=P) (k:=k) hT hk hz (show w.heap[r]? = some (mapOB l) from hw.hold _ (xR hL));simp only[execOp,hx,hy,Sem.run_bind,h,Result.andThen_ok]; rfl
theorem d_makeMapB (Z:St X w0 I0 I w L):Does P (ev n σ) (.makeMap t none) ty w fun v w'=>∃b,v = .map (some b)∧St X w0 I0 I w' (.obj b (mapOB [])::L):=by
 refine qP (v:=.map (some w.heap.size)) (w':=w.alloc (mapOB [])) ?_ ⟨_,rfl,Z.newObj (mapOB [])⟩;simp[execOp,Instr.makeMap,newObj,mapOB,entLB,Sem.run]
theorem d_mapPutB (i : Nat) (Z : St X w0 I0 I w L) (hT : P.underlying t = some (.map ky el)) (hk : P.underlying ky = some (.int .u8)) (hL : L[i]? = some (.obj r (mapOB l))) (hx : ev n σ x = .map (some r)) (hy : ev n σ y = .int .u8 k) (hz : ev n σ z = .pointer (some ⟨v, 0, none⟩)) (hn : lookIB l k = none) :
 Does P (ev n σ) (.mapUpdate t x y z) ty w fun u w'=>u=undef∧St X w0 I0 I w' (L.set i (.obj r (mapOB (l++[(k,v)])))):=by
 have hb:w.heap[r]? = some (mapOB l):=Z.hold _ (xR hL);have h2:=findIntB (P:=P) (w:=w) hk (zf k l 0 0 hn);have e:mapOB (l++[(k,v)]) = .map (entLB 0 l++[({ key:=.int .u8 k,val:=.pointer (some ⟨v,0,none⟩),born:=l.length }:MapEntry)]).toArray (l.length+1):=by
  unfold mapOB;rw[entL_snocB]; simp
 have hP:=Z.putO (o':=mapOB (l++[(k,v)])) hL;unfold mapOB at hb;have hg:=getMap (P:=P) hb;have hr:(Instr.mapUpdate t (.map (some r)) (.int .u8 k) (.pointer (some ⟨v,0,none⟩))).run P w = .ok () (w.putObj r (mapOB (l++[(k,v)]))):=by
  unfold Instr.mapUpdate;rw[e];have hs:=setMap (P:=P) (.map (entLB 0 l++[({ key:=.int .u8 k,val:=.pointer (some ⟨v,0,none⟩),born:=l.length }:MapEntry)]).toArray (l.length+1)) hb;simp[Sem.run_bind,run_underlying hT,Result.andThen,hg,checkIntB hk,h2,hs,World.putObj]
 refine zy (w':=w.putObj r (mapOB (l++[(k,v)]))) ?_ ⟨rfl,hP⟩;simp only[execOp,hx,hy,hz,Sem.run_bind,hr,Result.andThen_ok]; rfl
end
end Go.Inl
namespace Go.Inl
open Go Go.RowKit
theorem mem2 {α:Type}{r r1 r2:α}{L:List α}(h:r∈[r1,r2]):r∈r1::r2::L:=by
 simp only[xV,xY,or_false]at h;rcases h with h | h
 · rw[h]; exact List.mem_cons_self ..
 · rw[h]; exact List.mem_cons_of_mem _ (List.mem_cons_self ..)
theorem St.ownL {X:List Nat}{w0 w:World}{I0 I:Imm}{r1 r2:Res}{L:List Res}(h:St X w0 I0 I w (r1::r2::L)):St (r1.foot++r2.foot) w I I w [r1,r2] :=
 ⟨rfl,rfl,rfl,uc _,fun _ _ _=>rfl,h.imm,fun _ _=>rfl,Inl.Sub.refl _,fun r hr=>h.hold r (mem2 hr),fun r hr b hb=>⟨(h.new r (mem2 hr) b hb).1,.inr (by
   simp only[xV,xY,or_false]at hr;rcases hr with rfl | rfl
   · exact List.mem_append_left _ hb
   · exact List.mem_append_right _ hb)⟩,by
   have:=h.nodup;simp only[List.flatMap_cons]at this;rw[← uh]at this;simpa using (List.nodup_append.1 this).1⟩
theorem St.callL {X:List Nat}{w0 w w':World}{I0 I I':Imm}{r1 r2:Res}{L A':List Res}(h:St X w0 I0 I w (r1::r2::L))(hE:St (r1.foot++r2.foot) w I I' w' A'):St X w0 I0 I' w' (A'++L):=by
 have hnd:=h.nodup;simp only[List.flatMap_cons]at hnd;rw[← uh]at hnd;obtain⟨n1,n2,n3⟩:=List.nodup_append.1 hnd;have hfoot:∀b∈r1.foot++r2.foot,I b=none∧(w0.heap.size≤b∨b∈X):=fun b hb=>by
  rcases uJ.1 hb with hb | hb
  · exact h.new r1 (by simp) b hb
  · exact h.new r2 (by simp) b hb
 have hL:∀r∈L,∀b∈r.foot,b < w.heap.size∧b∉r1.foot++r2.foot:=fun r hr b hb =>
  ⟨Res.foot_lt (h.hold r (by simp[hr])) b hb,fun hm=>n3 b hm b (List.mem_flatMap.2 ⟨r,hr,hb⟩) rfl⟩
 refine⟨hE.os.trans h.os,hE.tape.trans h.tape,hE.output.trans h.output,Nat.le_trans h.size hE.size,fun k hk hx=>?_,hE.imm,fun b hb=>(hE.old b (Nat.lt_of_lt_of_le hb h.size)).trans (h.old b hb),Inl.Sub.trans h.ext hE.ext,fun r hr=>?_,fun r hr b hb=>?_,?_⟩
 · refine (hE.block k (Nat.lt_of_lt_of_le hk h.size) fun hm => ?_).trans (h.block k hk hx)
   rcases(hfoot k hm).2 with h' | h'
   · omega
   · exact hx h'
 · rcases uJ.1 hr with hr | hr
   · exact hE.hold r hr
   · exact Res.holds_of (h.hold r (by simp[hr])) fun b hb=>hE.block b (hL r hr b hb).1 (hL r hr b hb).2
 · rcases uJ.1 hr with hr | hr
   · obtain ⟨h1, h2⟩ := hE.new r hr b hb
     refine⟨h1,?_⟩;rcases h2 with h2 | h2
     · exact .inl (Nat.le_trans h.size h2)
     · exact(hfoot b h2).2
   · have h1 := h.new r (by simp [hr]) b hb
     exact⟨(hE.old b (hL r hr b hb).1).trans h1.1,h1.2⟩
 · rw [List.flatMap_append]
   refine List.nodup_append.2 ⟨hE.nodup,n2,fun a ha b hb e=>?_⟩;subst e;obtain⟨r,hr,ha'⟩:=List.mem_flatMap.1 ha;obtain⟨r',hr',hb'⟩:=List.mem_flatMap.1 hb;obtain⟨h1,h2⟩:=hL r' hr' a hb';rcases(hE.new r hr a ha').2 with h | h
   · omega
   · exact h2 h
end Go.Inl
namespace Go.Inl
open Go Go.RowKit
theorem St.ownA {X:List Nat}{w0 w:World}{I0 I:Imm}(A:List Res){L:List Res}(h:St X w0 I0 I w (A++L)):St (A.flatMap Res.foot) w I I w A :=
 ⟨rfl, rfl, rfl, uc _, fun _ _ _ => rfl, h.imm, fun _ _ => rfl, Sub.refl _, fun r hr => h.hold r (List.mem_append_left _ hr),
  fun r hr b hb=>⟨(h.new r (List.mem_append_left _ hr) b hb).1,.inr (List.mem_flatMap.2 ⟨r,hr,hb⟩)⟩,by
   have:=h.nodup;rw[List.flatMap_append]at this;exact(List.nodup_append.1 this).1⟩
theorem St.callA {X:List Nat}{w0 w w':World}{I0 I I':Imm}(A:List Res){L A':List Res}(h:St X w0 I0 I w (A++L))(hE:St (A.flatMap Res.foot) w I I' w' A'):St X w0 I0 I' w' (A'++L):=by
 have hnd:=h.nodup;rw[List.flatMap_append]at hnd;obtain⟨n1,n2,n3⟩:=List.nodup_append.1 hnd;have hfoot:∀b∈A.flatMap Res.foot,I b=none∧(w0.heap.size≤b∨b∈X):=fun b hb=>by
  obtain⟨r,hr,hb⟩:=List.mem_flatMap.1 hb;exact h.new r (List.mem_append_left _ hr) b hb
 have hL:∀r∈L,∀b∈r.foot,b < w.heap.size∧b∉A.flatMap Res.foot:=fun r hr b hb =>
  ⟨Res.foot_lt (h.hold r (List.mem_append_right _ hr)) b hb,fun hm=>n3 b hm b (List.mem_flatMap.2 ⟨r,hr,hb⟩) rfl⟩
 refine⟨hE.os.trans h.os,hE.tape.trans h.tape,hE.output.trans h.output,Nat.le_trans h.size hE.size,fun k hk hx=>?_,hE.imm,fun b hb=>(hE.old b (Nat.lt_of_lt_of_le hb h.size)).trans (h.old b hb),Sub.trans h.ext hE.ext,fun r hr=>?_,fun r hr b hb=>?_,?_⟩
 · refine (hE.block k (Nat.lt_of_lt_of_le hk h.size) fun hm => ?_).trans (h.block k hk hx)
   rcases(hfoot k hm).2 with h' | h'
   · omega
   · exact hx h'
 · rcases uJ.1 hr with hr | hr
   · exact hE.hold r hr
   · exact Res.holds_of (h.hold r (List.mem_append_right _ hr)) fun b hb=>hE.block b (hL r hr b hb).1 (hL r hr b hb).2
 · rcases uJ.1 hr with hr | hr
   · obtain ⟨h1, h2⟩ := hE.new r hr b hb
     refine⟨h1,?_⟩;rcases h2 with h2 | h2
     · exact .inl (Nat.le_trans h.size h2)
     · exact(hfoot b h2).2
   · have h1 := h.new r (List.mem_append_right _ hr) b hb
     exact⟨(hE.old b (hL r hr b hb).1).trans h1.1,h1.2⟩
 · rw [List.flatMap_append]
   refine List.nodup_append.2 ⟨hE.nodup,n2,fun a ha b hb e=>?_⟩;subst e;obtain⟨r,hr,ha'⟩:=List.mem_flatMap.1 ha;obtain⟨r',hr',hb'⟩:=List.mem_flatMap.1 hb;obtain⟨h1,h2⟩:=hL r' hr' a hb';rcases(hE.new r hr a ha').2 with h | h
   · omega
   · exact h2 h
theorem g_eqSliceNil {P : Program} {n : Nat} {σ : Nat → Value} {S : World → Prop} {t t' ty e : TypeId} {x y : Operand} {a : Addr} {k c : Nat} (hT : P.underlying t = some (.slice e)) (hx : ev n σ x = .slice (some a) k c) (hy : ev n σ y = .slice none 0 0) :
 Gives P (ev n σ) S (.binOp .eql t x y t') ty (.bool false):=fun w _=>by
 have h0:=run_equal_slice_nil (P:=P) w t e (some a) k c hT;have h1:(binOp .eql t (.slice (some a) k c) (.slice none 0 0)).run P w = .ok (.bool false) w:=by
  simp only[binOp];simp[h0]
 simp only[execOp,hx,hy,Sem.run_bind,eqGuard,h1];simp[Result.andThen,h1]
section
variable {P:Program} {n:Nat} {df:List Deferred} {ro:Option Nat} {σ:Nat→Value} {w:World} {Q:Exit→Act→World→Prop}
theorem fnD {f : FuncId} {fn : Func} {c : Code} {l : List Value} {R' : Value → World → Prop} (hf : P.funcs[f]? = some fn) (hb : fn.body = some c) (hn : fn.ntmps = n) (hl : Nat.ble l.length n = true)
 (h:c.wpIn (fen none) 0 P (bodyPostDIn (fen none) 0 P fn fun e w'=>∃v,e = .returned v∧R' v w') (act n [] (args l)) w):Ctr P f l w R' :=
 ⟨(callsIn_wide (n:=0)).1 (callsIn_of_wp_defers (F:=fen none) hf hb trivial (by rw[hn,yM l n (xH hl)]; exact h) rfl)⟩
theorem reg_defer {id : Nat} {t : Tmp} {f : FuncId} {lc : List Operand} {cs : List Value} {ty1 ty2 : TypeId} {p1 p2 : String} {a1 a2 : Array Edge} {σ' : Nat → Value} (hc : lc.map (ev n σ) = cs) (hσ : updO (updO σ (some t) (.func (.func f) #[] cs.toArray)) none undef = σ')
 (ht:ev n (updO σ (some t) (.func (.func f) #[] cs.toArray)) (.tmp t) = .func (.func f) #[] cs.toArray)
 (h:Q .normal (act n [⟨.fn (.func f) cs.toArray,#[]⟩] σ') w) :
 (Code.region id [⟨some t,.makeFunc (.func f) [].toArray lc.toArray,ty1,p1,a1,none⟩,⟨none,.defer { callee:=.value (.tmp t),args := #[],argTypes := #[] },ty2,p2,a2,none⟩].toArray false).wpIn (fen none) 0 P Q (act n [] σ) w:=by
 subst hσ;refine wpIn_region_lit ?_;have h1:(execOp (act n [] σ).eval ⟨some t,.makeFunc (.func f) [].toArray lc.toArray,ty1,p1,a1,none⟩).run P w = .ok (.value (.func (.func f) #[] cs.toArray)) w:=by
  subst hc; rw[jT]; simp[execOp,Instr.makeFunc]
 have h2:(execOp (act n [] (updO σ (some t) (.func (.func f) #[] cs.toArray))).eval ⟨none,.defer { callee:=.value (.tmp t),args := #[],argTypes := #[] },ty2,p2,a2,none⟩).run P w = .ok (.defer ⟨.fn (.func f) cs.toArray,#[]⟩) w:=by
  rw[jT]; simp[execOp,resolve,ht,Deferred.ofValue]
 unfold wpListIn;rw[xS (by simp[Region.wanted])];refine⟨fun _ _=>trivial,?_⟩;rw[show(fen none).round=none from rfl,Oper.semAt_none,h1];show wpListIn _ _ _ _ _ _ ((act n [] σ).put (some t) _) w
 rw[jA];unfold wpListIn;rw[xS (by simp[Region.wanted])];refine⟨fun _ _=>trivial,?_⟩;rw[show(fen none).round=none from rfl,Oper.semAt_none,h2];exact h
theorem retDf2 {fn : Func} {f : FuncId} {cs aS : List Value} {a b : ResultVar} {va vb : Value} {R' : Value → World → Prop} (hi : ∀ w : World, (invoke (.fn (.func f) cs.toArray) #[]).run P w = .ok (.enter f aS.toArray) w)
 (hD:∀w,CallsDIn (fen none) 0 P f aS.toArray .returning w fun e u w'=>(∃v,e = .returned v)∧u = .returning∧w'=w)
 (hr:fn.results = #[a,b]) (h1:ResV P n σ w a va) (h2:ResV P n σ w b vb) (h:R' (.tuple #[va,vb]) w) :
 bodyPostDIn (fen none) 0 P fn (fun e w'=>∃v,e = .returned v∧R' v w') .ret (act n [⟨.fn (.func f) cs.toArray,#[]⟩] σ) w:=by
 show LeavesIn _ _ _ _ _ _ _ _ _
 unfold LeavesIn;refine⟨by simp[act],fun h=>(by cases h),.func f,cs.toArray,f,aS.toArray,rfl,hi w,fun _ _=>trivial,trivial,fun c cs' hc hroom=>?_⟩;obtain⟨e,u',w',fr,⟨⟨v,rfl⟩,rfl,rfl⟩,h4,h5,h6,h7⟩:=(hD w).2 c cs' hc hroom;refine⟨_,_,_,fr,?_,h4,h5,h6,h7⟩;show LeavesIn _ _ _ _ _ _ _ _ _
 unfold LeavesIn;refine⟨.tuple #[va,vb],?_,_,rfl,h⟩;have e1:=jU (df:=[⟨.fn (.func f) cs.toArray,#[]⟩]) h1;have e2:=jU (df:=[⟨.fn (.func f) cs.toArray,#[]⟩]) h2;rw[ke,hr]; simp[e1,e2]
end
end Go.Inl
namespace Go.Inl
open Go Go.RowKit
section
variable {P : Program} {n : Nat} {df : List Deferred} {ro : Option Nat} {σ : Nat → Value} {w : World} {ops : Array Oper} {Q : Exit → Act → World → Prop} {rest : List Oper} {d : Option Tmp} {op : Op} {ty : TypeId} {p : String} {af : Array Edge}
 {R:Value→World→Prop} {E:World→Prop} {v0:Value} {l:List Oper} {fn:Func}
theorem fnS {f : FuncId} {c : Code} {ls : List Value} {u : FrameMode} {R : Ending → FrameMode → World → Prop} (hf : P.funcs[f]? = some fn) (hb : fn.body = some c) (hn : fn.ntmps = n) (hl : Nat.ble ls.length n = true)
 (h:∀(c₀:Frame) (cs:List Frame),c₀.mode=u→c.wpSIn (fen none) 0 P (bodyPostS P fn c₀ cs R) (act n [] (args ls)) (c₀::cs) w):CallsDIn (fen none) 0 P f ls.toArray u w R:=by
 refine callsDIn_of_wpSIn hf hb trivial fun c₀ cs hu=>?_
 have e:({ tmps:=ls.toArray++Array.replicate (fn.ntmps - ls.toArray.size) undef,defers:=[] }:Act)=act n [] (args ls):=by rw[hn]; exact yM ls n (xH hl)
 rw[e];exact h c₀ cs hu
theorem wpS_rec {ops : Array Oper} {i : Nat} {rest : List Nat} {o : Oper} {a : Act} {cs cs' : List Frame} {v : Value} {QS : Exit → Act → List Frame → World → Prop} (ho : ops[i]? = some o) (hw : Region.wanted o (yielded ops a.tmps) = true) (h1 : (execOp a.eval o).run P w = .ok .recover w)
 (hr:recoverD cs=some (v,cs')∨(recoverD cs=none∧v = .nilIface∧cs'=cs)) (k:wpOpsSIn (fen none) 0 P ops QS rest (a.put o.dst v) cs' w):wpOpsSIn (fen none) 0 P ops QS (i::rest) a cs w:=by
 rcases hr with hr | ⟨hr,rfl,rfl⟩
 · simp only [wpOpsSIn, ho, hw, h1, hr, if_true]
   exact⟨fun _ _=>trivial,k⟩
 · simp only [wpOpsSIn, ho, hw, h1, hr, if_true]
   exact⟨fun _ _=>trivial,k⟩
theorem wpS_val {ops : Array Oper} {i : Nat} {rest : List Nat} {o : Oper} {a : Act} {cs : List Frame} {v : Value} {QS : Exit → Act → List Frame → World → Prop} (ho : ops[i]? = some o) (hw : Region.wanted o (yielded ops a.tmps) = true) (h1 : (execOp a.eval o).run P w = .ok (.value v) w)
 (k:wpOpsSIn (fen none) 0 P ops QS rest (a.put o.dst v) cs w):wpOpsSIn (fen none) 0 P ops QS (i::rest) a cs w:=by
 simp only[wpOpsSIn,ho,hw,h1,if_true];exact⟨fun _ _=>trivial,k⟩
theorem rec_reg {id t1 t2 : Nat} {ty1 ty2 : TypeId} {p1 p2 : String} {a1 a2 : Array Edge} {cs cs' : List Frame} {v : Value} {QS : Exit → Act → List Frame → World → Prop} (hv : ev n (updO σ (some t1) v) (.tmp t1) = v) (hr : recoverD cs = some (v, cs') ∨ (recoverD cs = none ∧ v = .nilIface ∧ cs' = cs)) (k : QS .normal (act n [] (updO (updO σ (some t1) v) (some t2) v)) cs' w) :
 (Code.region id #[⟨some t1,.call { callee:=.builtin .recover,args := #[],argTypes := #[] },ty1,p1,a1,none⟩,⟨some t2,.assign (.tmp t1),ty2,p2,a2,none⟩] false).wpSIn (fen none) 0 P QS (act n [] σ) cs w:=by
 refine wpSIn_region ?_;have h2:(execOp (act n [] (updO σ (some t1) v)).eval ⟨some t2,.assign (.tmp t1),ty2,p2,a2,none⟩).run P w = .ok (.value v) w:=by
  rw[jT];have:=qv (P:=P) (S:=fun _=>True) (ty:=ty2) hv w trivial;rw[← kU (ev n (updO σ (some t1) v)) (some t2) (.assign (.tmp t1)) ty2 p2 a2 none]at this;exact this
 refine wpS_rec (i:=0) (rest:=[1]) rfl (by simp[Region.wanted]) rfl hr ?_;rw[jA];refine wpS_val (i:=1) (rest:=[]) rfl (by simp[Region.wanted]) h2 ?_;rw[jA];exact k
end
end Go.Inl
namespace Go.Inl
open Go Go.RowKit
section
variable {P:Program} {n:Nat} {σ:Nat→Value} {w:World} {ty:TypeId} {X:List Nat} {w0:World} {I0 I:Imm} {L:List Res}
end
end Go.Inl
namespace Go.Inl
open Go Go.RowKit
section
variable {P:Program} {ops:Array Oper} {Q:Exit→Act→World→Prop} {PE:List PanicEntry→World→Prop}
variable {n:Nat} {df:List Deferred} {ro:Option Nat} {σ:Nat→Value} {w:World} {X:List Nat} {w0:World} {I0 I:Imm} {L:List Res} {l:List Oper} {id:Nat}
variable {i:Nat} {r:Od} {S:World→Prop} {d:Option Tmp} {op:Op} {ty:TypeId} {p:String} {af:Array Edge} {v:Value} {R:Value→World→Prop}
end
end Go.Inl
namespace Go.Inl
open Go Go.RowKit
theorem mod_mask (N:Nat)(a:Int)(m:Nat)(hm:m≤N):((BitVec.ofInt N a &&& BitVec.ofInt N ((2:Int) ^ m - 1)).toNat:Int)=a % 2 ^ m:=by
 have h1:(1:Int)≤2 ^ m:=by have:=Nat.one_le_two_pow (n:=m); exact_mod_cast this
 have e1:(2:Int) ^ m - 1=((2 ^ m - 1:Nat):Int):=by
  have:=Nat.one_le_two_pow (n:=m);rw[Int.ofNat_sub this]; simp
 have h2:2 ^ m - 1 < 2 ^ N:=by
  have h3:2 ^ m≤2 ^ N:=Nat.pow_le_pow_right (by omega) hm;have:=Nat.one_le_two_pow (n:=m);omega
 rw[e1,BitVec.toNat_and,BitVec.ofInt_natCast,BitVec.toNat_ofNat,Nat.mod_eq_of_lt h2,Nat.and_two_pow_sub_one_eq_mod,BitVec.toNat_ofInt];have h6:(1:Int)≤2 ^ N:=by have:=Nat.one_le_two_pow (n:=N); exact_mod_cast this
 have h4:(0:Int)≤a % (2:Int) ^ N:=Int.emod_nonneg _ (by omega);rw[Int.natCast_emod];have h5:(((a % ((2 ^ N:Nat):Int)).toNat:Nat):Int)=a % (2:Int) ^ N:=by
  rw[show((2 ^ N:Nat):Int)=(2:Int) ^ N by simp,Int.toNat_of_nonneg h4]
 rw[h5,show((2 ^ m:Nat):Int)=(2:Int) ^ m by simp];refine Int.emod_emod_of_dvd a ?_;have:=Int.natCast_dvd_natCast.2 (Nat.pow_dvd_pow 2 hm);simpa using this
section
variable {P:Program} {n:Nat} {σ:Nat→Value} {S:World→Prop} {t t' ty:TypeId} {x y:Operand} {k k':IntKind} {a b c:Int}
theorem jM {s:Nat}(hx:ev n σ x = .int k a)(hy:ev n σ y = .int k' b)(hb:b=(s:Int))(hs:Nat.ble s k.bits=true)(h:a / 2 ^ s=c):Gives P (ev n σ) S (.binOp .shr t x y t') ty (.int k c):=fun w _=>by
 subst h hb;have h1:¬(s:Int) < 0:=by omega
 have h2:min s k.bits=s:=Nat.min_eq_left (xH hs);have h3:(0:Int)≤2 ^ s:=by have:=Nat.one_le_two_pow (n:=s); exact_mod_cast (Nat.zero_le _)
 simp[execOp,hx,hy,Sem.run_bind,eqGuard,binOp,Op.shift,h1,h2,Result.andThen,Int.fdiv_eq_ediv_of_nonneg _ h3]
theorem qT {s:Nat}(hx:ev n σ x = .int k a)(hy:ev n σ y = .int k' b)(hb:b=(s:Int))(hs:Nat.ble s k.bits=true)(h:k.wrap (a*2 ^ s)=c):Gives P (ev n σ) S (.binOp .shl t x y t') ty (.int k c):=fun w _=>by
 subst h hb;have h1:¬(s:Int) < 0:=by omega
 have h2:min s k.bits=s:=Nat.min_eq_left (xH hs);simp[execOp,hx,hy,Sem.run_bind,eqGuard,binOp,Op.shift,h1,h2,Result.andThen]
theorem jh {m:Nat}(hx:ev n σ x = .int k a)(hy:ev n σ y = .int k b)(hb:b=2 ^ m - 1)(hm:Nat.ble m k.bits=true)(h:k.wrap (a % 2 ^ m)=c):Gives P (ev n σ) S (.binOp .and t x y t') ty (.int k c):=fun w _=>by
 subst h hb;have e:=mod_mask k.bits a m (xH hm);simp only[execOp,hx,hy,Sem.run_bind,eqGuard,binOp,Op.intBits,Result.andThen_ok,Sem.run_pure];rw[e];simp[Result.andThen]
theorem or_disj (N:Nat)(a b:Int)(m:Nat)(h0:0≤a)(h1:a < 2 ^ N)(h2:a % 2 ^ m=0)(h3:0≤b)(h4:b < 2 ^ m)(h5:b < 2 ^ N):((BitVec.ofInt N a ||| BitVec.ofInt N b).toNat:Int)=a+b:=by
 obtain⟨a,rfl⟩:=Int.eq_ofNat_of_zero_le h0;obtain⟨b,rfl⟩:=Int.eq_ofNat_of_zero_le h3;have h1':a < 2 ^ N:=by exact_mod_cast h1
 have h5':b < 2 ^ N:=by exact_mod_cast h5
 have h4':b < 2 ^ m:=by exact_mod_cast h4
 have h2':a % 2 ^ m=0:=by
  have:((a % 2 ^ m:Nat):Int)=0:=by rw[← h2]; simp
  exact_mod_cast this
 rw[BitVec.ofInt_natCast,BitVec.ofInt_natCast,BitVec.toNat_or,BitVec.toNat_ofNat,BitVec.toNat_ofNat,Nat.mod_eq_of_lt h1',Nat.mod_eq_of_lt h5'];have e:a=a / 2 ^ m*2 ^ m:=by have:=Nat.div_add_mod a (2 ^ m); rw[h2']at this; rw[Nat.mul_comm]; omega
 have:=Nat.shiftLeft_add_eq_or_of_lt (i:=m) (b:=b) h4' (a / 2 ^ m);rw[Nat.shiftLeft_eq,← e]at this;rw[← this]; simp
theorem g_orD {m : Nat} (hx : ev n σ x = .int k a) (hy : ev n σ y = .int k b) (h0 : 0 ≤ a) (h1 : a < 2 ^ k.bits) (h2 : a % 2 ^ m = 0) (h3 : 0 ≤ b) (h4 : b < 2 ^ m) (h5 : b < 2 ^ k.bits) (h : k.wrap (a + b) = c) :
 Gives P (ev n σ) S (.binOp .or t x y t') ty (.int k c):=fun w _=>by
 subst h;have e:=or_disj k.bits a b m h0 h1 h2 h3 h4 h5;simp only[execOp,hx,hy,Sem.run_bind,eqGuard,binOp,Op.intBits,Result.andThen_ok,Sem.run_pure];rw[e];simp[Result.andThen]
theorem g_orD' {m : Nat} (hx : ev n σ x = .int k a) (hy : ev n σ y = .int k b) (h0 : 0 ≤ b) (h1 : b < 2 ^ k.bits) (h2 : b % 2 ^ m = 0) (h3 : 0 ≤ a) (h4 : a < 2 ^ m) (h5 : a < 2 ^ k.bits) (h : k.wrap (a + b) = c) :
 Gives P (ev n σ) S (.binOp .or t x y t') ty (.int k c):=fun w _=>by
 subst h;have e:=or_disj k.bits b a m h0 h1 h2 h3 h4 h5;rw[BitVec.or_comm]at e;simp only[execOp,hx,hy,Sem.run_bind,eqGuard,binOp,Op.intBits,Result.andThen_ok,Sem.run_pure];rw[e,Int.add_comm b a];simp[Result.andThen]
theorem nat_or_mid (h l c p q:Nat)(hl:l < 2 ^ q)(hc:c*2 ^ q+l < 2 ^ p):(h*2 ^ p+l) ||| (c*2 ^ q)=h*2 ^ p+c*2 ^ q+l:=by
 have e1:=Nat.shiftLeft_add_eq_or_of_lt (i:=p) (b:=l) (by omega) h;have e2:=Nat.shiftLeft_add_eq_or_of_lt (i:=q) (b:=l) hl c;have e3:=Nat.shiftLeft_add_eq_or_of_lt (i:=p) (b:=c*2 ^ q+l) hc h;rw[Nat.shiftLeft_eq]at e1 e2 e3;rw[e1,Nat.or_assoc,Nat.or_comm l,← e2,← e3]; omega
theorem g_orM {h l d p q : Nat} {a b c : Int} (hx : ev n σ x = .int k a) (hy : ev n σ y = .int k b) (ha : a = ((h * 2 ^ p + l : Nat) : Int)) (hb : b = ((d * 2 ^ q : Nat) : Int)) (hl : l < 2 ^ q) (hc : d * 2 ^ q + l < 2 ^ p) (h1 : h * 2 ^ p + l < 2 ^ k.bits) (h2 : d * 2 ^ q < 2 ^ k.bits)
 (hw:k.wrap (a+b)=c):Gives P (ev n σ) S (.binOp .or t x y t') ty (.int k c):=fun w _=>by
 subst hw;have e:((BitVec.ofInt k.bits a ||| BitVec.ofInt k.bits b).toNat:Int)=a+b:=by
  subst ha hb;rw[BitVec.ofInt_natCast,BitVec.ofInt_natCast,BitVec.toNat_or,BitVec.toNat_ofNat,BitVec.toNat_ofNat,Nat.mod_eq_of_lt h1,Nat.mod_eq_of_lt h2,nat_or_mid h l d p q hl hc];rw[← Int.natCast_add]; congr 1; omega
 simp only[execOp,hx,hy,Sem.run_bind,eqGuard,binOp,Op.intBits,Result.andThen_ok,Sem.run_pure];rw[e];simp[Result.andThen]
theorem andnot_mask (N:Nat)(a:Int)(m:Nat)(hm:m≤N)(h0:0≤a)(h1:a < 2 ^ N):((BitVec.ofInt N a &&& ~~~BitVec.ofInt N ((2:Int) ^ m - 1)).toNat:Int)=a - a % 2 ^ m:=by
 have e1:=mod_mask N a m hm;have e2:BitVec.ofInt N a &&& ~~~BitVec.ofInt N ((2:Int) ^ m - 1)=BitVec.ofInt N a - (BitVec.ofInt N a &&& BitVec.ofInt N ((2:Int) ^ m - 1)):=by
  have h:∀(u v:BitVec N),u &&& ~~~v=u - (u &&& v):=by
   intro u v;have h1:(u &&& ~~~v)+(u &&& v)=(u &&& ~~~v) ||| (u &&& v):=by
    refine BitVec.add_eq_or_of_and_eq_zero _ _ ?_;ext i hi
    simp
    cases u[i] <;> cases v[i] <;> simp
   have h2:(u &&& ~~~v) ||| (u &&& v)=u:=by
    ext i hi
    simp
    cases u[i] <;> cases v[i] <;> simp
   rw[h2]at h1;exact BitVec.eq_sub_iff_add_eq.2 h1
  exact h _ _
 rw[e2];have h3:(BitVec.ofInt N a).toNat=a.toNat:=by
  rw[BitVec.toNat_ofInt,show((2 ^ N:Nat):Int)=(2:Int) ^ N by simp,Int.emod_eq_of_lt h0 h1]
 have h4:(BitVec.ofInt N a &&& BitVec.ofInt N ((2:Int) ^ m - 1)).toNat≤(BitVec.ofInt N a).toNat:=by
  rw[BitVec.toNat_and]; exact Nat.and_le_left
 rw[BitVec.toNat_sub_of_le h4,Int.ofNat_sub h4,e1,h3,Int.toNat_of_nonneg h0]
theorem g_andNotM {m:Nat}(hx:ev n σ x = .int k a)(hy:ev n σ y = .int k b)(hb:b=2 ^ m - 1)(hm:Nat.ble m k.bits=true)(h0:0≤a)(h1:a < 2 ^ k.bits)(h:k.wrap (a - a % 2 ^ m)=c):Gives P (ev n σ) S (.binOp .andNot t x y t') ty (.int k c):=fun w _=>by
 subst h hb;have e:=andnot_mask k.bits a m (xH hm) h0 h1;simp only[execOp,hx,hy,Sem.run_bind,eqGuard,binOp,Op.intBits,Result.andThen_ok,Sem.run_pure];rw[e];simp[Result.andThen]
theorem qH {d:TypeDesc}(hs:P.underlying t=some d)(hd:P.underlying t'=some (.int k'))(hx:ev n σ x = .int k a)(h:k'.wrap a=c):Gives P (ev n σ) S (.convert t t' x) ty (.int k' c):=by subst h; exact kT hs hd hx
theorem g_quoT (hx:ev n σ x = .ig a)(hy:ev n σ y = .ig b)(hb:0 < b)(h0:-9223372036854775807≤a)(h1:a≤9223372036854775807)(h:a.tdiv b=c):Gives P (ev n σ) S (.binOp .quo t x y t') ty (.ig c) :=
 fun _ _=>jz hx hy (by
  subst h;have h2:-9223372036854775807≤a.tdiv b∧a.tdiv b≤9223372036854775807:=by
   rcases Int.le_total 0 a with h | h
   · rw [Int.tdiv_eq_ediv_of_nonneg h]
     have:=Int.ediv_le_self b h;have:=Int.ediv_nonneg h (Int.le_of_lt hb);omega
   · obtain ⟨c, rfl⟩ : ∃ c, a = -c := ⟨-a, by omega⟩
     rw[Int.neg_tdiv,Int.tdiv_eq_ediv_of_nonneg (by omega)];have:=Int.ediv_le_self b (show 0≤c by omega);have:=Int.ediv_nonneg (show 0≤c by omega) (Int.le_of_lt hb);omega
  have e:IntKind.i64.wrap (a.tdiv b)=a.tdiv b:=by rw[IntKind.wrap_i64]; omega
  simp[binOp,Op.intDiv,show b≠0 by omega,e])
theorem ym {e : TypeId} {N sz : Nat} {K : IntKind} {i : Int} {pre cs post : List Value} (hT : P.underlying t = some (.array N e)) (hs : ∀ w, (sizeOf e).run P w = .ok sz w) (ha : ∀ w, (isAgg e).run P w = .ok true w)
 (hx:ev n σ x = .agg (pre++(cs++post)).toArray) (hi:ev n σ y = .int K i) (h0:0≤i) (h1:i < N) (ho:i.toNat*sz=pre.length) (hc:cs.length=sz):Gives P (ev n σ) S (.index t x y) ty (.agg cs.toArray):=fun w _=>by
 subst hc;have e:(pre++(cs++post)).toArray.extract (i.toNat*cs.length) (i.toNat*cs.length+cs.length)=cs.toArray:=by
  rw[ho];simp
 simp only[execOp,Instr.index,Sem.run_bind,run_underlying hT,hx,hi,asIntOf,h0,h1,hs,part,ha,Result.andThen_ok,Sem.run_pure,and_self,if_true];rw[e]
theorem zQ {e : TypeId} {N sz : Nat} {l : List (Nat × Operand)} {z : Value} {cs : List Value} {ps : List (Nat × Value)} (hz : ∀ w, (zeroValue t).run P w = .ok z w) (hT : P.underlying t = some (.array N e)) (hs : ∀ w, (sizeOf e).run P w = .ok sz w)
 (hps:(l.map fun p=>(p.1,ev n σ p.2))=ps) (hf:Instr.fill (fun i=>some (i*sz,sz)) z.cells ps=some cs.toArray):Gives P (ev n σ) S (.build t l.toArray) ty (.agg cs.toArray):=fun w _=>by
 subst hps;simp only[execOp,Instr.build,Sem.run_bind,hz,run_underlying hT,Result.andThen_ok,hs];simp[hf]
theorem fill3 (z0 z1 z2:Value)(a b c:Int):Instr.fill (fun i=>some (i*1,1)) #[z0,z1,z2] [(0,.ig a),(1,.ig b),(2,.ig c)]=some #[.ig a,.ig b,.ig c]:=by
 simp[Instr.fill,Value.cells,List.zipIdx]
theorem fillP3 (z0 z1 z2:Value)(a b c:Option Addr):Instr.fill (fun i=>some (i*1,1)) #[z0,z1,z2] [(0,.pointer a),(1,.pointer b),(2,.pointer c)]=some #[.pointer a,.pointer b,.pointer c]:=by
 simp[Instr.fill,Value.cells,List.zipIdx]
theorem xy {w : World} {R : Value → World → Prop} {f : FuncId} {l : List Operand} {aT : Array TypeId} {fs vs : List Value} (hc : ∀ args w, (callFunc f args).run P w = .ok (.enter f args) w) (hx : ev n σ x = .func (.func f) fs.toArray #[])
 (ha:fs++l.map (ev n σ)=vs) (hF:Ctr P f vs w R):Does P (ev n σ) (.call { callee:=.value x,args:=l.toArray,argTypes:=aT }) ty w R:=by
 refine⟨?_⟩
 have he : (execOp (ev n σ) ⟨none, .call { callee := .value x, args := l.toArray, argTypes := aT }, ty, "", #[], none⟩).run P w = .ok (.enter f vs.toArray) w := by
  subst ha;simp[execOp,resolve,Deferred.ofValue,hx,invoke,hc]
 rw[he];exact hF.calls
end
end Go.Inl
namespace Go.Inl
open Go Go.RowKit Go.Sort
theorem yE (l:List Int):flat intC l=l.map (Value.int .i64):=by
 unfold flat;induction l with
 | nil=>rfl
 | cons x l ih=>rw[List.flatMap_cons,Qt,ih]; rfl
theorem vj {α:Type}{L:List α}{k:Nat}{r:α}(h:L[k]? = some r):L.set k r=L:=by
 obtain⟨h1,rfl⟩:=xX.1 h;exact List.set_getElem_self ..
theorem ints_len (l:List Int):(flat intC l).length=l.length:=by rw[yE,Qb]
section
variable {X:List Nat} {w0 w:World} {I0 I:Imm} {L:List Res}
theorem St.turned {k b m : Nat} {T : TypeId} {l l' : List Int} {rest : List Value} {os : Array Obj} (Z : St X w0 I0 I w L) (hk : L[k]? = some (.cel b T (flat intC l ++ rest))) (hl : l'.length = l.length) :
 St X w0 I0 I (grow (putRow (Value.int .i64) (Sort.ahead w m) b 0 l'.toArray) os) (L.set k (.cel b T (flat intC l'++rest))):=by
 have hb:w.heap[b]? = some (.cells (flat intC l++rest).toArray T (0,0)):=Z.hold _ (xR hk);have hbs:b < w.heap.size:=(Array.getElem?_eq_some_iff.1 hb).1;refine Z.change hk rfl rfl rfl (by rw[size_grow,size_putRow]; exact Nat.le_add_right _ _) (fun c hc hcn=>?_) (fun c hc=>.inl hc) (by simp[Res.foot]) ?_
 · have hne : c ≠ b := fun e => hcn (by simp [Res.foot, e])
   rw[heap_grow_old _ _ (by rw[size_putRow]; exact hc)];simp[putRow,mapBlock,Array.getElem?_modify,Sort.ahead,Ne.symm hne]
 · show (grow _ os).heap[b]? = _
   rw[heap_grow_old _ _ (by rw[size_putRow]; exact hbs)];have e:putCells (Value.int .i64) 0 l'.toArray (flat intC l++rest).toArray=(flat intC l'++rest).toArray:=by
    apply Array.ext_getElem?
    intro i;rw[yE,yE];simp only[putCells,Array.getElem?_mapIdx,List.getElem?_toArray];by_cases hi:i < l'.length
    · rw [ux (by simpa using (by omega : i < l.length)), ux (by simpa using hi)]
      simp[hi,hl▸hi]
    · rw [uB (by simpa using (by omega : l.length ≤ i)), uB (by simpa using (by omega : l'.length ≤ i))]
      have hi':¬i < l.length:=by omega
      have e:i - l'.length=i - l.length:=by omega
      simp[hi',hl,e]
   simp[putRow,mapBlock,Array.getElem?_modify,Sort.ahead,hb,onCells,e]
theorem St.holdsRow {k b:Nat}{T:TypeId}{l:List Int}{rest:List Value}(Z:St X w0 I0 I w L)(hk:L[k]? = some (.cel b T (flat intC l++rest))):Holds (Value.int .i64) w b 0 l.toArray∧b < w.heap.size:=by
 have hb:w.heap[b]? = some (.cells (flat intC l++rest).toArray T (0,0)):=Z.hold _ (xR hk);refine⟨fun j hj=>?_,(Array.getElem?_eq_some_iff.1 hb).1⟩;have hj':j < l.length:=by simpa using hj
 refine⟨?_,?_⟩
 · rw [yE] at hb
   simp[World.cell?,hb,ux,hj']
 · simp[World.frozen?,hb]
end
structure SortOk (P : Program) (f : FuncId) : Prop where
 some_ : ∀ (b cap : Nat) (zs : List Int) (w : World), Holds (Value.int .i64) w b 0 zs.toArray → b < w.heap.size → zs.length < 4611686018427387904 →
  Calls P f #[.slice (some ⟨b,0,none⟩) zs.length cap] w fun e w'=>e = .returned (.tuple #[])∧∃n os,w'=grow (putRow (Value.int .i64) (Sort.ahead w n) b 0 (zs.mergeSort fun x y=>decide (x≤y)).toArray) os
 none_:∀(p:Option Addr) (cap:Nat) (w:World),Calls P f #[.slice p 0 cap] w fun e w'=>e = .returned (.tuple #[])∧w'=w
structure CompOk (P : Program) (f : FuncId) : Prop where
 some_ : ∀ (b cap : Nat) (zs : List Int) (w : World), Holds (Value.int .i64) w b 0 zs.toArray → zs.length ≤ 9223372036854775807 → zs.length ≤ cap →
  Calls P f #[.slice (some ⟨b, 0, none⟩) zs.length cap] w fun e w' => e = .returned (.slice (some ⟨b, 0, none⟩) (Lib.compact zs).length cap) ∧
   ∃q,w'=putRow (Value.int .i64) (Sort.ahead w q) b 0 (Lib.compact zs++List.replicate (zs.length - (Lib.compact zs).length) 0).toArray
 none_:∀(p:Option Addr) (cap:Nat) (w:World),Calls P f #[.slice p 0 cap] w fun e w'=>e = .returned (.slice p 0 cap)∧w'=w
theorem vf (zs:List Int):(Lib.compact zs).length≤zs.length:=by
 unfold Lib.compact Lib.compactUpTo;rw[Qb];exact Nat.le_trans (List.length_filter_le ..) (by simp)
section
variable {P:Program} {f:FuncId} {X:List Nat} {w0 w:World} {I0 I:Imm} {L:List Res}
theorem sort_row (k : Nat) {E : TypeId} {a : Option Addr} {n c : Nat} {l : List Int} (hf : SortOk P f) (Z : St X w0 I0 I w L) (hk : L[k]? = some (.row (.slice a n c) E 1 n (flat intC l))) (hn : n = l.length) (hb : n < 4611686018427387904) :
 Ctr P f [.slice a n c] w (fun v w'=>v = .tuple #[]∧St X w0 I0 I w' (L.set k (.row (.slice a n c) E 1 n (flat intC (l.mergeSort fun x y=>decide (x≤y)))))):=by
 subst hn;have hlen:(l.mergeSort fun x y=>decide (x≤y)).length=l.length:=List.length_mergeSort ..;by_cases h0:l.length=0
 · have hl : l = [] := Qs.1 h0
   subst hl;refine⟨Calls.mono (hf.none_ a c w) ?_⟩;rintro e w' ⟨rfl,rfl⟩;refine⟨_,rfl,rfl,?_⟩;rw[show([]:List Int).mergeSort (fun x y=>decide (x≤y))=[] by simp];rw[show L.set k (.row (.slice a ([]:List Int).length c) E 1 ([]:List Int).length (flat intC []))=L from vj hk];exact Z
 · obtain ⟨b, rest, rfl, h1, h2, h3, h4, h5⟩ := Z.rowCel k hk (by omega)
   have hkl:k < L.length:=(xX.1 hk).1;have hk5:(L.set k (.cel b E (flat intC l++rest)))[k]? = some (.cel b E (flat intC l++rest)):=by simp[hkl]
   obtain⟨g1,g2⟩:=h5.holdsRow hk5;refine⟨Calls.mono (hf.some_ b c l w g1 g2 hb) ?_⟩;rintro e w' ⟨rfl,m,os,rfl⟩;refine⟨_,rfl,rfl,?_⟩;have h6:=h5.turned (m:=m) (os:=os) hk5 hlen;rw[List.set_set]at h6;have h7:=h6.celRow (b:=b) (E:=E) (c:=c) (n:=l.length) (sz:=1) (xs:=flat intC (l.mergeSort fun x y=>decide (x≤y))) (rest:=rest) k (by simp[hkl]) (by rw[ints_len,hlen,Nat.mul_one]) h1 h2 (by
    rw[xN,ints_len,hlen];rw[xN,ints_len]at h3;exact h3)
   rw[List.set_set]at h7;exact h7
theorem compact_row (k : Nat) {E : TypeId} {a : Option Addr} {n c : Nat} {l : List Int} (hf : CompOk P f) (Z : St X w0 I0 I w L) (hk : L[k]? = some (.row (.slice a n c) E 1 n (flat intC l))) (hn : n = l.length) (hb : n ≤ 4611686018427387904) :
 Ctr P f [.slice a n c] w (fun v w'=>v = .slice a (Lib.compact l).length c∧St X w0 I0 I w' (L.set k (.row (.slice a (Lib.compact l).length c) E 1 (Lib.compact l).length (flat intC (Lib.compact l))))):=by
 subst hn;by_cases h0:l.length=0
 · have hl : l = [] := Qs.1 h0
   subst hl;have ec:Lib.compact ([]:List Int)=[]:=Qs.1 (by have:=vf []; simpa using this);refine⟨Calls.mono (hf.none_ a c w) ?_⟩;rintro e w' ⟨rfl,rfl⟩;rw[ec];refine⟨_,rfl,rfl,?_⟩;rw[show L.set k (.row (.slice a ([]:List Int).length c) E 1 ([]:List Int).length (flat intC []))=L from vj hk];exact Z
 · obtain ⟨b, rest, rfl, h1, h2, h3, h4, h5⟩ := Z.rowCel k hk (by omega)
   have hkl:k < L.length:=(xX.1 hk).1;have hk5:(L.set k (.cel b E (flat intC l++rest)))[k]? = some (.cel b E (flat intC l++rest)):=by simp[hkl]
   obtain⟨g1,g2⟩:=h5.holdsRow hk5;refine⟨Calls.mono (hf.some_ b c l w g1 (by omega) h1) ?_⟩;rintro e w' ⟨rfl,m,rfl⟩;refine⟨_,rfl,rfl,?_⟩;have hle:=vf l;have h6:=h5.turned (m:=m) (os := #[]) (l':=Lib.compact l++List.replicate (l.length - (Lib.compact l).length) 0) hk5 (by simp; omega);rw[List.set_set,grow_empty,ql,uh]at h6;have h7:=h6.celRow (b:=b) (E:=E) (c:=c) (n:=(Lib.compact l).length) (sz:=1) (xs:=flat intC (Lib.compact l)) (rest:=flat intC (List.replicate (l.length - (Lib.compact l).length) 0)++rest) k (by simp[hkl]) (by rw[ints_len,Nat.mul_one]) (by omega) h2 (by
    rw[xN,xN,ints_len,ints_len,uX];rw[xN,ints_len]at h3;omega)
   rw[List.set_set]at h7;exact h7
end
section
variable {P:Program} {n:Nat} {σ:Nat→Value} {ty:TypeId} {x y:Operand} {X:List Nat} {w0 w:World} {I0 I:Imm} {L:List Res}
theorem d_copyF (k : Nat) {α : Type} {enc : α → List Value} {b cap scap : Nat} {T dT sT e : TypeId} {xs ys : List α} {sad : Option Addr} {N : Nat} (he : ∀ x, (enc x).length = 1) (h1 : ∀ x, (enc x).all (·.oneCell') = true) (Z : St X w0 I0 I w L)
 (hT:P.underlying dT=some (.slice e)) {z:Value} {by':Nat} (hi:Info P e z 1 by') (hL:L[k]? = some (.cel b T (flat enc xs))) (hN:N=xs.length) (hlen:xs.length=ys.length) (hr:RFl I 1 enc (.slice sad ys.length scap) ys)
 (hx:ev n σ x = .slice (some ⟨b,0,none⟩) N cap) (hy:ev n σ y = .slice sad ys.length scap) :
 Does P (ev n σ) (.call { callee:=.builtin .copy,args := #[x,y],argTypes := #[dT,sT] }) ty w fun v w'=>v = .ig ys.length∧St X w0 I0 I w' (L.set k (.cel b T (flat enc ys))):=by
 subst hN;obtain⟨i,k1,k2,k3,k4⟩:=hi;have hs:(P.info? e).map (·.size)=some 1:=by rw[k1]; simp[k3]
 have hmin:Nat.min ys.length xs.length=ys.length:=by rw[hlen]; exact Nat.min_self _
 by_cases h0:ys.length=0
 · have hys : ys = [] := Qs.1 h0
   have hxs:xs=[]:=Qs.1 (by omega);have hrun:=run_copy_none (P:=P) w dT sT ty e (some ⟨b,0,none⟩) sad xs.length cap ys.length scap hT hs (by rw[hmin]; exact h0);refine qP (v:=goInt 0) (w':=w) ?_ ⟨by rw[h0]; rfl,?_⟩
   · simp only[execOp,resolve,invoke,builtin,List.map_toArray,Qt,List.map_nil,hx,hy,Sem.run_bind,Sem.run_pure,Result.andThen_ok,hrun]
   · subst hys hxs
     rw[vj hL]; exact Z
 · rcases hr with ⟨_, h⟩ | ⟨sb, so, sc, hv, h2, h3, h4⟩
   · rw[h]at h0; exact absurd rfl h0
   · simp only [Value.slice.injEq] at hv
     obtain⟨rfl,_,rfl⟩:=hv;have hb:w.heap[b]? = some (.cells (flat enc xs).toArray T (0,0)):=Z.hold _ (xR hL);have hfl:(flat enc ys).length=ys.length:=by rw[qU he,Nat.mul_one]
     have hfx:(flat enc xs).length=xs.length:=by rw[qU he,Nat.mul_one]
     have hrun := run_copy_row (P := P) w dT sT ty e b 0 xs.length cap ⟨sb, so, none⟩ ys.length scap (flat enc xs).toArray T (flat enc ys) hT hs hb (by rw [hmin, hfl]) (fun j v hv => by rw [qL]; exact yY he Z.imm ys so h4 j v hv) (by simp [hfl, hfx, hlen])
      (by simpa using flat_one' h1 ys)
     have e1:(flat enc xs).toArray.toList.take 0++flat enc ys++(flat enc xs).toArray.toList.drop (0+(flat enc ys).length)=flat enc ys:=by
      rw[List.take_zero,Ja,QV (by simp[hfl,hfx,hlen]),List.append_nil]
     rw[e1,hfl]at hrun;refine qP (v:=goInt ys.length) (w':=w.setRow b (flat enc ys).toArray) ?_ ⟨rfl,?_⟩
     · simp only[execOp,resolve,invoke,builtin,List.map_toArray,Qt,List.map_nil,hx,hy,Sem.run_bind,Sem.run_pure,Result.andThen_ok,hrun]
     · refine Z.change hL rfl rfl rfl (by simp [World.setRow]) (fun c _ hc => setRow_other w b c _ (fun e => hc (by simp [Res.foot, e]))) (fun c hc => .inl hc) (by simp [Res.foot]) ?_
       exact setRow_heap w b _ _ T (0,0) hb
end
end Go.Inl
namespace Go.Inl
open Go Go.RowKit
section
variable {P:Program} {n:Nat} {σ:Nat→Value} {w:World} {ty:TypeId} {X:List Nat} {w0:World} {I0 I:Imm} {L:List Res}
theorem range_wpG {df : List Deferred} {g : Operand} {ps : List Tmp} {assign body : Code} {Q : Exit → Act → World → Prop} {gf : FuncId} {lb : List Value} {arg : Nat → List Value} {N : Nat}
 (inv:Nat→Imm→List Res→Prop) (invx:Nat→Code→Imm→List Res→Prop)
 (Z:St X w0 I0 I w L) (hg:ev n σ g = .func (.func gf) #[] lb.toArray) (hc:∀args w,(callFunc gf args).run P w = .ok (.enter gf args) w) (hit:IterC P gf lb arg N I) (harg:∀k,(arg k).length=ps.length)
 (hmono:∀k I I' L,inv k I L→Sub I I'→inv k I' L) (h0:inv 0 I L)
 (hround : ∀ (k l D : Nat) (oR oB : Obj) (I1 : Imm) (w1 : World) (L1 : List Res) (X1 : List Nat), k < N → inv k I1 L1 → St X1 w1 I1 I1 w1 (Res.obj D (.deferred (some [])) :: Res.obj l oR :: L1) →
   assign.wpIn (fen (some l)) 0 P (Exit.then (fun a2 w2 => ∃ σ2 I2 L2, a2 = act n [] σ2 ∧ St X1 w1 I1 I2 w2 (Res.obj D (.deferred (some [])) :: Res.obj l oR :: L2) ∧
    ∀w3,St X1 w1 I1 I2 w3 (Res.obj D (.deferred (some []))::Res.obj l oB::L2)→body.wpIn (fen (some l)) 0 P (RP X1 w1 I1 D l oB inv invx k) (act n [] σ2) w3) (fun _ _ _=>False)) (act n [] (putA σ (ps.zip (arg k)))) w1)
 (hdone:∀(D:Nat) (I1:Imm) (w1:World) (L1:List Res),inv N I1 L1→St X w0 I0 I1 w1 (Res.obj D (.deferred (some []))::L1)→Q .normal (act n (⟨.collected D,#[]⟩::df) σ) w1)
 (hstop:∀(D k:Nat) (c:Code) (I1:Imm) (w1:World) (L1:List Res),k < N→invx k c I1 L1→St X w0 I0 I1 w1 (Res.obj D (.deferred (some []))::L1)→c.wpIn (fen none) 0 P Q (act n (⟨.collected D,#[]⟩::df) σ) w1) :
 (Code.rangeFunc g ps.toArray assign body).wpIn (fen none) 0 P Q (act n df σ) w:=by
 refine wpIn_rangeFunc (F:=fen none) (n:=0) ?_;intro fn hfn;obtain⟨rec,hrec⟩:∃rec:LoopState→Option Code→Loop,rec=fun st pe=>{ state:=st,pending:=pe,fn,tmps:=(act n [] σ).tmps,params:=ps.toArray,assign,body,defers:=w.heap.size }:=⟨_,rfl⟩
 obtain⟨D,hD⟩:∃D,w.heap.size=D:=⟨_,rfl⟩
 obtain⟨l,hl⟩:∃l,w.heap.size+1=l:=⟨_,rfl⟩
 obtain⟨W1,hW1⟩:∃W1,(w.alloc (.deferred (some []))).alloc (.loop (rec .ready none))=W1:=⟨_,rfl⟩
 have hS1:St X w0 I0 I W1 (Res.obj D (.deferred (some []))::Res.obj l (.loop (rec .ready none))::L):=by
  have h1:=(Z.newObj (.deferred (some []))).newObj (.loop (rec .ready none));rw[hW1]at h1;rw[show(w.alloc (.deferred (some []))).heap.size=w.heap.size+1 by simp,hl,hD]at h1;exact h1.perm (List.Perm.swap _ _ _)
 have hev:(act n df σ).eval g = .func (.func gf) #[] lb.toArray:=by rw[zC]; exact hg
 refine⟨l,[⟨.collected D,#[]⟩],W1,{ target:=.fn (.func gf) lb.toArray,args := #[.func (.yield l) #[] #[]] },W1,gf,#[.func (.yield l) #[] #[]]++lb.toArray,W1,?_,?_,?_,?_,fun h=>(by cases h),?_⟩
 · rw[← hW1,hrec,← hl,← hD]; exact run_enterLoop_outer _ _ _ _ _
 · simp only [resolve, hev]
   simp[go_sem]
 · intro f' hf'; exact trivial
 · simp[invoke,go_sem,hc]
 · -- the iterator's contract at what the loop keeps
   let J:Nat→Imm→World→Prop:=fun k I W=>∃L1,inv k I L1∧St X w0 I0 I W (Res.obj D (.deferred (some []))::Res.obj l (.loop (rec .ready none))::L1)
   let Jx:Nat→Imm→World→Prop:=fun k I W=>∃c L1,invx k c I L1∧St X w0 I0 I W (Res.obj D (.deferred (some []))::Res.obj l (.loop (rec .done (some c)))::L1)
   have hstab:Stab J:=by
    rintro k I W I' W' ⟨L1,h1,h2⟩hE;exact⟨L1,hmono k I I' L1 h1 hE.ext,h2.call hE⟩
   have hyc:YC P l J Jx arg N:=by
    rintro k I1 W hk hsat⟨L1,h1,h2⟩;have hlp:W.heap[l]? = some (.loop (rec .ready none)):=h2.hold (.obj l _) (by simp);have hy:=run_yield (P:=P) (args:=(arg k).toArray) hlp (by rw[hrec]; simpa using harg k);rw[hrec]at hy;refine⟨fn,_,assign,body,hy,roundIn_of_wpIn (F:=Fence.wide) (n:=0) trivial ?_⟩;have htm:((ps.toArray.zip (arg k).toArray).foldl (fun(tmps:Array Value) (x:Tmp×Value)=>tmps.setIfInBounds x.1 x.2) (act n [] σ).tmps)=(act n [] (putA σ (ps.zip (arg k)))).tmps:=by
     rw[← act_putA,← Array.foldl_toList]; simp
    have hb:=h2.rebase;have hr:=hround k l D (.loop (rec .ready none)) (.loop (rec .busy none)) I1 W L1 _ hk h1 hb;have ha:({ tmps:=(ps.toArray.zip (arg k).toArray).foldl (fun(tmps:Array Value) (x:Tmp×Value)=>tmps.setIfInBounds x.1 x.2) (act n [] σ).tmps,defers:=[] }:Act)=act n [] (putA σ (ps.zip (arg k))):=by
     rw[htm]; rfl
    show assign.wpIn (Fence.wide.inRound l) 0 P _ ({ tmps:=(ps.toArray.zip (arg k).toArray).foldl (fun(tmps:Array Value) (x:Tmp×Value)=>tmps.setIfInBounds x.1 x.2) (act n [] σ).tmps,defers:=[] }:Act) W
    rw[ha];refine wpIn_mono hr ?_;intro e a2 W2 q;cases e with
    | normal =>
      obtain⟨σ2,I2,L2,rfl,h3,h4⟩:=q;have hlp2:W2.heap[l]? = some (.loop (rec .ready none)):=h3.hold (.obj l _) (by simp);have hbg:=run_beginRound (P:=P) hlp2 (by rw[hrec]);have h5:=h3.putO (k:=1) (o':=.loop (rec .busy none)) rfl;have hbg':(Instr.beginRound l).run P W2 = .ok () (W2.putObj l (.loop (rec .busy none))):=by subst hrec; exact hbg
      refine⟨_,hbg',wpIn_mono (h4 _ h5) ?_⟩;intro e a3 W3 q;have fin : ∀ (jump : Option Code) (I4 : Imm) (L4 : List Res), St ((Res.obj D (.deferred (some [])) :: Res.obj l (.loop (rec .ready none)) :: L1).flatMap Res.foot) W I1 I4 W3 (Res.obj D (.deferred (some [])) :: Res.obj l (.loop (rec .busy none)) :: L4) →
       ∃W4,(Instr.endRound l jump).run P W3 = .ok (.bool jump.isNone) W4∧Sat I4 W4∧Sub I1 I4∧St X w0 I0 I4 W4 (Res.obj D (.deferred (some []))::Res.obj l (.loop (rec (if jump.isNone then .ready else .done) jump))::L4):=by
       intro jump I4 L4 h6;have hlp3:W3.heap[l]? = some (.loop (rec .busy none)):=h6.hold (.obj l _) (by simp);have her:=run_endRound (P:=P) jump hlp3;have h7:=h6.putO (o':=.loop (rec (if jump.isNone then .ready else .done) jump)) (k:=1) rfl;have her':(Instr.endRound l jump).run P W3 = .ok (.bool jump.isNone) (W3.putObj l (.loop (rec (if jump.isNone then .ready else .done) jump))):=by subst hrec; exact her
       exact⟨_,her',h7.imm,h7.ext,h2.unbase h7⟩
      cases e with
      | normal =>
        obtain⟨I4,L4,h6,h7⟩:=q;obtain⟨W4,g1,g2,g3,g4⟩:=fin none I4 L4 h6;exact⟨_,W4,g1,_,rfl,I4,g2,g3,.inl ⟨rfl,L4,h7,g4⟩⟩
      | ret =>
        obtain⟨I4,L4,h6,h7⟩:=q;obtain⟨W4,g1,g2,g3,g4⟩:=fin (some .ret) I4 L4 h6;exact⟨_,W4,g1,_,rfl,I4,g2,g3,.inr ⟨rfl,.ret,L4,h7,g4⟩⟩
      | exit id =>
        obtain⟨I4,L4,h6,h7⟩:=q;obtain⟨W4,g1,g2,g3,g4⟩:=fin (some (.exit id)) I4 L4 h6;exact⟨_,W4,g1,_,rfl,I4,g2,g3,.inr ⟨rfl,.exit id,L4,h7,g4⟩⟩
      | goto t=>exact q.elim
      | panic c=>exact q.elim
      | outgrown=>exact q.elim
    | _=>exact q
   have hctr:=hit l J Jx W1 I hstab hyc hS1.imm (Sub.refl _) ⟨L,h0,hS1⟩;refine callsIn_wide.2 ?_;have hcalls:=hctr.calls;rw[show(Value.func (.yield l) #[] #[]::lb).toArray = #[.func (.yield l) #[] #[]]++lb.toArray by simp]at hcalls;refine Calls.mono hcalls ?_;rintro e W2⟨v,rfl,I',hsat,hsub,hJ | ⟨k,hk,hJ⟩⟩
   · obtain ⟨L1, h1, h2⟩ := hJ
     have hlp:W2.heap[l]? = some (.loop (rec .ready none)):=h2.hold (.obj l _) (by simp);have hel:=run_endLoop (P:=P) hlp (by rw[hrec]; simp);have h3:=h2.putO (o':=.loop { rec .ready none with state:=.exhausted }) (k:=1) rfl;have h4:=h3.sub (L':=Res.obj D (.deferred (some []))::L1) (by simp);have hel':(Instr.endLoop l).run P W2 = .ok none (W2.putObj l (.loop { rec .ready none with state:=.exhausted })):=by subst hrec; exact hel
     exact⟨none,_,hel',hdone D I' _ L1 h1 h4⟩
   · obtain ⟨c, L1, h1, h2⟩ := hJ
     have hlp:W2.heap[l]? = some (.loop (rec .done (some c))):=h2.hold (.obj l _) (by simp);have hel:=run_endLoop (P:=P) hlp (by rw[hrec]; simp);have h3:=h2.putO (o':=.loop { rec .done (some c) with state:=.exhausted }) (k:=1) rfl;have h4:=h3.sub (L':=Res.obj D (.deferred (some []))::L1) (by simp);have hel':(Instr.endLoop l).run P W2 = .ok (some c) (W2.putObj l (.loop { rec .done (some c) with state:=.exhausted })):=by subst hrec; exact hel
     exact⟨some c,_,hel',hstop D k c I' _ L1 hk h1 h4⟩
theorem retDD2 {fn : Func} {a b : ResultVar} {R' : Value → World → Prop} {D D0 k k0 : Nat} (hr : fn.results = #[a, b]) (Z : St X w0 I0 I w L) (hk : L[k]? = some (.obj D (.deferred (some [])))) (hk0 : L[k0]? = some (.obj D0 (.deferred (some [])))) (hne : k ≠ k0)
 (h:∀w',St X w0 I0 I w' ((L.set k (.obj D (.deferred none))).set k0 (.obj D0 (.deferred none)))→∃va vb,ResV P n σ w' a va∧ResV P n σ w' b vb∧R' (.tuple #[va,vb]) w') :
 bodyPostM (fen none) 0 P fn (fun e w'=>∃v,e = .returned v∧R' v w') .ret (act n [⟨.collected D,#[]⟩,⟨.collected D0,#[]⟩] σ) w:=by
 have hD:w.heap[D]? = some (.deferred (some [])):=Z.hold _ (xR hk);have hS1:=Z.putO (o':=.deferred none) hk;have hk1:(L.set k (.obj D (.deferred none)))[k0]? = some (.obj D0 (.deferred (some []))):=by rw[List.getElem?_set_ne hne]; exact hk0
 have hD0:(w.putObj D (.deferred none)).heap[D0]? = some (.deferred (some [])):=hS1.hold _ (xR hk1);obtain⟨va,vb,h1,h2,h3⟩:=h _ (hS1.putO (o':=.deferred none) hk1);refine⟨by simp,.inl ⟨D,_,rfl,run_takeDeferred hD,by simp,.inl ⟨D0,_,rfl,run_takeDeferred hD0,.tuple #[va,vb],?_,_,rfl,h3⟩⟩⟩;have e1:=jU (df:=[⟨.collected D,#[]⟩,⟨.collected D0,#[]⟩]) h1;have e2:=jU (df:=[⟨.collected D,#[]⟩,⟨.collected D0,#[]⟩]) h2;rw[ke,hr]; simp[e1,e2]
end
end Go.Inl
namespace Go.Inl
open Go
theorem flatten_at {sz : Nat} {cs : List Value} {v : Value} {j : Nat} : ∀ {css : List (List Value)} {i : Nat}, (∀ c ∈ css, c.length = sz) → css[i]? = some cs → cs[j]? = some v → css.flatten[i * sz + j]? = some v
 | [],i,_,h,_=>by simp at h
 | c::css,0,hcl,h,hv=>by
   simp only[List.getElem?_cons_zero,Option.some.injEq]at h;subst h;have hj:=(xX.1 hv).1;rw[Nat.zero_mul,Qv,List.flatten_cons,ux hj];exact hv
 | c::css,i+1,hcl,h,hv=>by
   have hc:=hcl c (List.mem_cons_self ..);rw[List.flatten_cons,uB (by rw[hc,Nat.add_mul]; omega),hc,show(i+1)*sz+j - sz=i*sz+j by rw[Nat.add_mul]; omega];exact flatten_at (fun c hc=>hcl c (List.mem_cons_of_mem _ hc)) (by simpa using h) hv
section
variable {P:Program} {n:Nat} {σ:Nat→Value} {ty t:TypeId} {x y:Operand} {X:List Nat} {w0 w:World} {I0 I:Imm} {L:List Res}
theorem g_ldRowC (k : Nat) {u : Value} {E : TypeId} {i sz m : Nat} {css : List (List Value)} {cs : List Value} (hcl : ∀ c ∈ css, c.length = sz) (hc : css[i]? = some cs) (hm : ∀ w, (sizeOf t).run P w = .ok sz w) (ha : ∀ w, (isAgg t).run P w = .ok true w)
 (hL:L[k]? = some (.row u E sz m css.flatten)) (hx:ev n σ x = .pointer (some (elA u i sz 0))):Gives P (ev n σ) (KS X w0 I0 I L) (.load t x) ty (.agg cs.toArray) :=
 g_ldR k hm ha hL hx (fun j v hv=>by rw[Nat.add_zero]; exact flatten_at hcl hc hv) (hcl cs (xR hc))
theorem yq (k : Nat) {sz : Nat} {css : List (List Value)} {a : Option Addr} {N cap i : Nat} {E : TypeId} {cs0 : List Value} (hcl : ∀ c ∈ css, c.length = sz) (Z : St X w0 I0 I w L) (hN : N = css.length) (h0 : css[i]? = some cs0) (hm : ∀ w, (sizeOf t).run P w = .ok sz w)
 (hL:L[k]? = some (.row (.slice a N cap) E sz N css.flatten)) (hx:ev n σ x = .pointer (some (elA (.slice a N cap) i sz 0))) {vs:List Value} (hy:ev n σ y = .agg vs.toArray) (hlen:vs.length=sz) (h1:vs.all (·.oneCell')=true) :
 Does P (ev n σ) (.store t x y) ty w fun u w'=>u=undef∧St X w0 I0 I w' (L.set k (.row (.slice a N cap) E sz N (css.set i vs).flatten)):=by
 let xs:List {c:List Value // c.length=sz}:=css.attachWith (fun c=>c.length=sz) hcl
 have hmap:xs.map Subtype.val=css:=List.attachWith_map_subtype_val ..;have hfl:flat Subtype.val xs=css.flatten:=by
  unfold flat; rw[List.flatMap_def,hmap]
 have hxl:xs.length=css.length:=by rw[← hmap,Qb]
 have hx0:xs[i]? = some ⟨cs0,hcl cs0 (xR h0)⟩:=by
  have hi:=(xX.1 h0).1;have e:(xs.map Subtype.val)[i]? = some cs0:=by rw[hmap]; exact h0
  rw[uW]at e;obtain⟨z,hz,e⟩:=Option.map_eq_some_iff.1 e;rw[hz]; subst e; rfl
 have hL':L[k]? = some (.row (.slice a N cap) E sz N (flat Subtype.val xs)):=by rw[hfl]; exact hL
 refine(jd k (enc:=Subtype.val) (fun c=>c.2) (⟨vs,hlen⟩:{c:List Value // c.length=sz}) Z (by rw[hxl]; exact hN) hx0 hm hL' hx hy (vs:=vs) (by simp[Value.cells]) hlen h1 (Nat.ble_eq_true_of_le (by omega)) (vI _ _ ((hcl cs0 (xR h0)).trans hlen.symm))).mono ?_;rintro u w' ⟨rfl,h⟩;refine⟨rfl,?_⟩;have e:flat Subtype.val (xs.set i ⟨vs,hlen⟩)=(css.set i vs).flatten:=by
  unfold flat; rw[List.flatMap_def,List.map_set,hmap]
 rwa [e]at h
end
end Go.Inl
