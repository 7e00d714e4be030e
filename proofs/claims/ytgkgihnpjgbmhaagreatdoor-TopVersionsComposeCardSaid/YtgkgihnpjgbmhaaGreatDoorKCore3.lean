/- Slices that stand still, known with all of their block, and taken back as own memory; slices that were appended to as blocks. Conditions: none. Guards that are known to be shut; append of slices whose elements hold slices. Conditions: none. Maps from numbers to numbers: made, written, asked. Conditions: none. A constant string as bytes that stand still; maps made known to frozen memory. Conditions: none. Arrays as blocks: a cell stored, sliced, indexed; an array and one cell built. Conditions: none. Maps from bytes to pointers: made, written, asked. Conditions: none. Calls that turn two resources of their caller. Conditions: none. A function that defers a call which finds nothing to recover. Conditions: it does not panic. Calls that may panic, functions that recover. Conditions: none. append of n zero values to a literal. Conditions: none. A region that draws its order and in which a call may panic. Conditions: none. Operations on bits of integers, cells of arrays that are values, calls of bound methods. Conditions: none. Own slices of ints: sorted, compacted (by the library's contracts, as hypotheses); a copy into an own block. Conditions: as said. A second loop over a function within a function, and the return behind it. Conditions: none. Elements of an own row of lists of cells: loads, stores; an element of an array of structs. Conditions: none. -/
import Derived.Test.YtgkgihnpjgbmhaaGreatDoorKCore2
import Derived.Laws.IdiomStrings
import Derived.RecoverIn
import Derived.Laws.Cover3
import Derived.Sort.Grow
import Derived.Lib.SlicesCompact
import Derived.Laws.CopyRow
import Derived.Laws.IdiomCopy
set_option linter.unusedSimpArgs false
set_option linter.unusedVariables false
namespace Go.Inl
open Go Go.RowKit
section
variable {X:List Nat} {w0 w w':World} {I0 I J:Imm} {L:List Res}
def RowI (I:Imm)(v:Value)(E:TypeId)(sz n:Nat)(xs:List Value):Prop :=
 xs.length=n*sz∧((v = .slice none 0 0∧n=0)∨∃g cap cur,v = .slice (some ⟨g,0,none⟩) n cap∧I g=some (.cells cur E (0,0))∧n≤cap∧cap≤maxLen∧cur.size=cap*sz∧cur.toList.take xs.length=xs)
theorem RowI.mono {v:Value}{E:TypeId}{sz n:Nat}{xs:List Value}(h:RowI I v E sz n xs)(hs:Sub I J):RowI J v E sz n xs:=by
 obtain⟨h1,h | ⟨g,cap,cur,h2,h3,h4⟩⟩:=h
 · exact⟨h1,.inl h⟩
 · exact⟨h1,.inr ⟨g,cap,cur,h2,hs _ _ h3,h4⟩⟩
theorem RowI.flat {α:Type}{enc:α→List Value}{sz n:Nat}{v:Value}{E:TypeId}{xs:List α}(he:∀x,(enc x).length=sz)(h:RowI I v E sz n (flat enc xs))(hn:n=xs.length):RFl I sz enc v xs:=by
 obtain⟨h1,⟨rfl,h0⟩ | ⟨g,cap,cur,rfl,h3,h4,h5,_,h7⟩⟩:=h
 · have hx := uk.1 (hn.symm.trans h0)
   exact .inl ⟨⟨none,0,rfl,by simp,fun _=>rfl⟩,hx⟩
 · subst hn
   refine RFl.of_block he h3 (fun j v hj=>?_) h4 h5;rw[← h7,List.getElem?_take]at hj;split at hj
   · simpa using hj
   · cases hj
theorem RowI.own_some {v:Value}{E:TypeId}{sz n:Nat}{xs:List Value}(h:RowI I v E sz n xs){b:Nat}(hb:v.ownBlock=some b):∃o,I b=some o:=by
 obtain⟨_,⟨rfl,_⟩ | ⟨g,cap,cur,rfl,h3,_⟩⟩:=h
 · simp[Value.ownBlock]at hb
 · simp only[Value.ownBlock,Option.some.injEq]at hb; subst hb; exact⟨_,h3⟩
theorem St.freezeRowI {sz m : Nat} {E : TypeId} {u : Value} {xs : List Value} (h : St [] w0 I0 I w (.row u E sz m xs :: L)) :
 ∃I',St [] w0 I0 I' w L∧Sub I I'∧RowI I' u E sz m xs∧(∀b,u.ownBlock=some b→I b=none∧w0.heap.size≤b):=by
 have hh:w.ownsRow 0 E sz u m xs:=h.hold (.row u E sz m xs) (by simp);have hn:=h.new (.row u E sz m xs) (by simp);obtain⟨h1,h2,h3⟩:=h.freeze;refine⟨_,h1,h2,⟨hh.1,?_⟩,fun b hb=>?_⟩
 · rcases hh.2 with h | ⟨g, cap, cur, rfl, _, hg, h4, h5, h6, h7⟩
   · exact .inl h
   · exact .inr ⟨g,cap,cur,rfl,by rw[h3 g (by simp[Res.foot,Value.ownBlock]),hg],h4,h5,h6,by rw[hh.1]; exact h7⟩
 · obtain ⟨k1, k2⟩ := hn b (by simp [Res.foot, hb])
   exact⟨k1,k2.resolve_right (by simp)⟩
def Imm.del (I:Imm)(b:Nat):Imm:=fun c=>if c=b then none else I c
theorem Imm.del_sub (I:Imm)(b:Nat):Sub (I.del b) I:=fun c o h=>by unfold Imm.del at h; split at h; cases h; exact h
theorem Imm.sub_del {b:Nat}(h:Sub J I)(hb:J b=none):Sub J (I.del b):=fun c o hc=>by
 unfold Imm.del;rw[vG (fun e=>by subst e; rw[hb]at hc; cases hc)];exact h c o hc
theorem St.thaw {sz n : Nat} {E : TypeId} {v : Value} {xs : List Value} (h : St [] w0 I0 I w L) (hr : RowI I v E sz n xs) (hn : ∀ b, v.ownBlock = some b → I0 b = none ∧ w0.heap.size ≤ b) :
 ∃J,St [] w0 I0 J w (.row v E sz n xs::L)∧Sub J I∧(∀b,v.ownBlock≠some b→J b=I b):=by
 obtain⟨hl,⟨rfl,h0⟩ | ⟨g,cap,cur,rfl,h3,h4,h5,h6,h7⟩⟩:=hr
 · subst h0
   have:=uk.1 (by simpa using hl);subst this;exact⟨I,h.nilRow E sz,Sub.refl _,fun _ _=>rfl⟩
 · obtain ⟨k1, k2⟩ := hn g rfl
   have hgL:∀r∈L,g∉r.foot:=fun r hr hg=>by have:=(h.new r hr g hg).1; rw[h3]at this; cases this
   refine⟨I.del g,⟨h.os,h.tape,h.output,h.size,h.block,fun b o hb=>h.imm b o (Imm.del_sub I g b o hb),?_,Imm.sub_del h.ext k1,?_,?_,?_⟩,Imm.del_sub I g,fun b hb=>by
    unfold Imm.del;rw[vG (fun e=>hb (by rw[e]; rfl))]⟩
   · intro b hb
     unfold Imm.del;rw[vG (by omega)]; exact h.old b hb
   · intro r hr
     rcases vN.1 hr with rfl | hr
     · exact⟨hl,.inr ⟨g,cap,cur,rfl,Nat.zero_le _,h.imm _ _ h3,h4,h5,h6,by rw[← hl]; exact h7⟩⟩
     · exact h.hold r hr
   · intro r hr b hb
     rcases vN.1 hr with rfl | hr
     · simp only [Res.foot, Value.ownBlock, Option.toList_some, xi] at hb
       subst hb;exact⟨by simp[Imm.del],.inl k2⟩
     · refine ⟨?_, (h.new r hr b hb).2⟩
       unfold Imm.del;split
       · rfl
       · exact(h.new r hr b hb).1
   · simp only [List.flatMap_cons, Res.foot, Value.ownBlock, Option.toList_some, List.singleton_append, List.nodup_cons]
     refine⟨fun hm=>?_,h.nodup⟩;obtain⟨r,hr,hb⟩:=List.mem_flatMap.1 hm;exact hgL r hr hb
theorem RFl.at_block {α:Type}{sz:Nat}{enc:α→List Value}{v:Value}{xs:List α}(h:RFl I sz enc v xs)(hJ:∀b,v.ownBlock=some b→J b=I b):RFl J sz enc v xs:=by
 rcases h with h | ⟨b,o,cap,h1,h2,h3,h4⟩
 · exact .inl h
 · refine .inr ⟨b, o, cap, h1, h2, h3, fun i x hx => ?_⟩
   obtain⟨cs,c1,⟨c2,c,T,fz,c3,c4⟩,c5⟩:=h4 i x hx;refine⟨cs,c1,⟨c2,c,T,fz,?_,c4⟩,c5⟩;rw[hJ b (by rw[h1]; rfl)]; exact c3
theorem RowI.at_block {sz n:Nat}{E:TypeId}{v:Value}{xs:List Value}(h:RowI I v E sz n xs)(hJ:∀b,v.ownBlock=some b→J b=I b):RowI J v E sz n xs:=by
 obtain⟨h1,h | ⟨g,cap,cur,h2,h3,h4⟩⟩:=h
 · exact⟨h1,.inl h⟩
 · exact⟨h1,.inr ⟨g,cap,cur,h2,by rw[hJ g (by rw[h2]; rfl)]; exact h3,h4⟩⟩
theorem St.rowCel (k : Nat) {sz n c : Nat} {E : TypeId} {a : Option Addr} {xs : List Value} (h : St X w0 I0 I w L) (hk : L[k]? = some (.row (.slice a n c) E sz n xs)) (hn : 0 < n) :
 ∃b rest,a=some ⟨b,0,none⟩∧n≤c∧c≤maxLen∧(xs++rest).length=c*sz∧xs.length=n*sz∧St X w0 I0 I w (L.set k (.cel b E (xs++rest))):=by
 have hh:w.ownsRow 0 E sz (.slice a n c) n xs:=h.hold _ (vI hk);obtain⟨hl,h0 | ⟨g,cap,cur,hv,_,hg,h4,h5,h6,h7⟩⟩:=hh
 · obtain⟨_,h0⟩:=h0; omega
 · simp only [Value.slice.injEq] at hv
   obtain⟨rfl,_,rfl⟩:=hv;have e:xs++cur.toList.drop xs.length=cur.toList:=by
    conv=>lhs; lhs; rw[← h7,← hl]
    exact List.take_append_drop _ _
   refine⟨g,cur.toList.drop xs.length,rfl,h4,h5,by rw[e]; simpa using h6,hl,?_⟩;rw[e];refine h.change hk (r':=.cel g E cur.toList) rfl rfl rfl (vX _) (fun _ _ _=>rfl) (fun c hc=>.inl (by simpa [Res.foot,Value.ownBlock] using hc)) (by simp[Res.foot]) ?_;show w.heap[g]? = _
   simpa using hg
theorem St.celRow (k : Nat) {sz n c b : Nat} {E : TypeId} {xs rest : List Value} (h : St X w0 I0 I w L) (hk : L[k]? = some (.cel b E (xs ++ rest))) (hl : xs.length = n * sz) (hn : n ≤ c) (hc : c ≤ maxLen) (hr : (xs ++ rest).length = c * sz) :
 St X w0 I0 I w (L.set k (.row (.slice (some ⟨b,0,none⟩) n c) E sz n xs)):=by
 have hh:w.heap[b]? = some (.cells (xs++rest).toArray E (0,0)):=h.hold _ (vI hk);refine h.change hk (r':=.row (.slice (some ⟨b,0,none⟩) n c) E sz n xs) rfl rfl rfl (vX _) (fun _ _ _=>rfl) (fun d hd=>.inl (by simpa [Res.foot,Value.ownBlock] using hd)) (by simp[Res.foot,Value.ownBlock]) ?_;exact⟨hl,.inr ⟨b,c,_,rfl,Nat.zero_le _,hh,hn,hc,by simpa using hr,by rw[← hl]; simp⟩⟩
end
section
variable {P:Program} {n:Nat} {σ:Nat→Value} {ty t:TypeId} {x y:Operand} {X:List Nat} {w0 w:World} {I0 I:Imm} {L:List Res}
theorem vq {α : Type} {enc : α → List Value} {sz by' : Nat} (he : ∀ x, (enc x).length = sz) (a : α) (N : Nat) {e : TypeId} {z : Value} {kl kc : IntKind} {m : Int} (hS : St X w0 I0 I w L) (hT : P.underlying t = some (.slice e)) (hi : Info P e z sz by') (hz : z.cells = (enc a).toArray) (hsz : Nat.blt 0 sz = true)
 (hx:ev n σ x = .int kl m) (hy:ev n σ y = .int kc m) (hm:m=N) (hN:N≤4294967296) (hb:Nat.ble by' 1024=true) :
 Does P (ev n σ) (.makeSlice t x y) ty w fun v w'=>∃b,v = .slice (some ⟨b,0,none⟩) N N∧St X w0 I0 I w' (.cel b e (flat enc (List.replicate N a))::L):=by
 subst hm;have hb':by'≤1024:=vB hb
 have h1:by'*N≤1024*4294967296:=Nat.mul_le_mul hb' hN
 refine(i_make hS hT hi hx hy (by omega) (Int.le_refl _) (by rw[← Int.natCast_mul]; omega) (by omega)).mono ?_;rintro v w' ⟨b,rfl,h⟩;refine⟨b,rfl,?_⟩;rw[hz,Int.toNat_natCast,madeCells_flat he (by simpa using hsz) N a]at h;exact h
end
theorem zV : ∀ (us vs : List Value), us.length = vs.length → putL us 0 vs = vs
 | [],[],_=>rfl
 | [],v::vs,h=>by simp at h
 | u::us,[],h=>by simp at h
 | u::us,v::vs,h=>by
   show v::putL us 0 vs=_
   rw[zV us vs (by simpa using h)]
theorem flat_focus {α:Type}{enc:α→List Value}{xs:List α}{i:Nat}{x:α}(rest:List Value)(h:xs[i]? = some x):flat enc xs++rest=flat enc (xs.take i)++(enc x++(flat enc (xs.drop (i+1))++rest)):=by
 obtain⟨hi,rfl⟩:=vY.1 h;have e:flat enc xs=flat enc (xs.take i)++(enc xs[i]++flat enc (xs.drop (i+1))):=by
  conv=>lhs; rw[← List.take_append_drop i xs,List.drop_eq_getElem_cons hi]
  rw[ql];simp only[flat,List.flatMap_cons]
 rw[e];simp only[xa]
theorem flat_unfocus {α:Type}{enc:α→List Value}{xs:List α}{i:Nat}(y:α)(rest:List Value)(hi:i < xs.length):flat enc (xs.take i)++(enc y++(flat enc (xs.drop (i+1))++rest))=flat enc (xs.set i y)++rest:=by
 rw[flat_focus (xs:=xs.set i y) (i:=i) (x:=y) rest (by simp[hi])];rw[List.take_set_of_le (vX i),List.drop_set_of_lt (by omega)]
section
variable {P:Program} {n:Nat} {σ:Nat→Value} {ty t:TypeId} {x y:Operand} {X:List Nat} {w0 w:World} {I0 I:Imm} {L:List Res}
theorem jn (k : Nat) {α : Type} {enc : α → List Value} {sz : Nat} (he : ∀ x, (enc x).length = sz) {xs : List α} {a : Option Addr} {N cap i c m : Nat} {E : TypeId} {x0 : α} (x1 : α) (hS : St X w0 I0 I w L) (hN : N = xs.length) (h0 : xs[i]? = some x0) (hm : ∀ w, (sizeOf t).run P w = .ok m w)
 (hL:L[k]? = some (.row (.slice a N cap) E sz N (flat enc xs))) (hx:ev n σ x = .pointer (some (elA (.slice a N cap) i sz c))) {v:Value} (hy:ev n σ y=v) {vs:List Value} (hv:v.cells.toList=vs) (hlen:vs.length=m) (h1:vs.all (·.oneCell')=true)
 (hl:Nat.ble (c+m) sz=true) (hc:putL (enc x0) c vs=enc x1):Does P (ev n σ) (.store t x y) ty w fun u w'=>u=undef∧St X w0 I0 I w' (L.set k (.row (.slice a N cap) E sz N (flat enc (xs.set i x1)))):=by
 have hi:=(vY.1 h0).1;have hl':c+m≤sz:=vB hl;obtain⟨b,rest,rfl,hnc,hcm,hrl,hxl,hS2⟩:=hS.rowCel k hL (by omega);have hk:=(vY.1 hL).1;have hfo:=flat_focus (enc:=enc) rest h0;rw[hfo]at hS2;have hx':ev n σ x = .pointer (some ⟨b,i*sz+c,none⟩):=by rw[hx]; simp[elA]
 have hpre:i*sz=(flat enc (xs.take i)).length:=by rw[qT he,xc,Nat.min_eq_left (by omega)]
 refine(jv k (L:=L.set k (.cel b E (flat enc (xs.take i)++(enc x0++(flat enc (xs.drop (i+1))++rest))))) (row':=enc x1) hS2 hm (List.getElem?_set_self hk) hpre hx' hy hv hlen h1 (by rw[he]; omega) hc).mono ?_;rintro u w' ⟨rfl,hS3⟩;refine⟨rfl,?_⟩;rw[List.set_set,flat_unfocus x1 rest hi]at hS3;have hlen2:(flat enc (xs.set i x1)).length=(flat enc xs).length:=by rw[qT he,qT he,vR]
 have hS4:=hS3.celRow k (n:=N) (c:=cap) (xs:=flat enc (xs.set i x1)) (rest:=rest) (List.getElem?_set_self hk) (by rw[hlen2,hxl]) hnc hcm (by rw[vE,hlen2,← vE,hrl]);rwa [List.set_set]at hS4
end
end Go.Inl
namespace Go.Inl
open Go Go.RowKit
section
variable {P : Program} {n : Nat} {df : List Deferred} {ro : Option Nat} {σ : Nat → Value} {w : World} {Q : Exit → Act → World → Prop} {rest l : List Oper} {d : Option Tmp} {op : Op} {ty : TypeId} {p : String} {af : Array Edge}
 {X:List Nat} {w0:World} {I0 I:Imm} {L:List Res} {v:Value} {j t i:Nat} {g g':Bool} {r:Od} {S:World→Prop}
theorem qsf (hj' : dstAt l j = some t) (hv : ev n σ (.tmp t) = .bool g') (hne : g' = !g) (k : OL P l Q n df rest (updO σ d undef) w) :
 OL P l Q n df (⟨d,op,ty,p,af,some (j,g)⟩::rest) σ w:=⟨wl_gf (jS hj') hv hne k.run⟩
theorem sgf (hi : l[i]? = some ⟨d, op, ty, p, af, some (j, g)⟩) (hj' : dstAt l j = some t) (hv : ev n σ (.tmp t) = .bool g') (hne : g' = !g) (hS : St X w0 I0 I w L) (k : OS P l Q n df r (KS X w0 I0 I L) (updO σ d undef) w) :
 OS P l Q n df (.cons i .eff r) (KS X w0 I0 I L) σ w:=⟨by
 unfold WS opR;rw[show l.toArray[i]? = some _ by simpa using hi];dsimp only;rw[vG (by rw[zw (zj hj') hv hne]; exact Bool.false_ne_true)];exact⟨_,_,js _ _ _ _ _,fun _ h=>h,hS,k.run⟩⟩
end
theorem RSl.cells {α : Type} {I : Imm} {sz : Nat} {R : List Value → α → Prop} {u : Value} {ys : List α} (h : RSl I sz R u ys) (h1 : ∀ cs x, R cs x → cs.all (·.oneCell') = true) :
 ∃css:List {cs:List Value // cs.length=sz∧cs.all (·.oneCell')=true},css.length=ys.length∧All2 R (css.map (·.1)) ys∧RFl I sz (·.1) u css:=by
 rcases h with ⟨h,rfl⟩ | ⟨b,o,cap,rfl,h2,h3,h4⟩
 · exact⟨[],rfl,All2.nil R,.inl ⟨h,rfl⟩⟩
 · have hall : ∀ (zs : List α) (o : Nat), (∀ i x, zs[i]? = some x → ∃ cs, cs.length = sz ∧ atI I ⟨b, o + i * sz, none⟩ cs ∧ R cs x) →
    ∃css:List {cs:List Value // cs.length=sz∧cs.all (·.oneCell')=true},css.length=zs.length∧All2 R (css.map (·.1)) zs∧∀i x,css[i]? = some x→∃cs,cs.length=sz∧atI I ⟨b,o+i*sz,none⟩ cs∧cs=x.1:=by
    intro zs;induction zs with
    | nil=>intro o _; exact⟨[],rfl,All2.nil R,fun i x hx=>by simp at hx⟩
    | cons z zs ih =>
      intro o hz;obtain⟨cs,c1,c2,c3⟩:=hz 0 z rfl;obtain⟨css,d1,d2,d3⟩:=ih (o+sz) (fun i x hx=>by
       obtain⟨c,e1,e2,e3⟩:=hz (i+1) x (by simpa using hx);exact⟨c,e1,by rw[Nat.add_mul,Nat.one_mul,Nat.add_comm (i*sz) sz,← Nat.add_assoc]at e2; exact e2,e3⟩)
      refine⟨⟨cs,c1,h1 _ _ c3⟩::css,by simp[d1],All2.cons c3 d2,fun i x hx=>?_⟩;cases i with
      | zero=>simp at hx; subst hx; exact⟨cs,c1,by simpa using c2,rfl⟩
      | succ i =>
        obtain⟨c,e1,e2,e3⟩:=d3 i x (by simpa using hx);exact⟨c,e1,by rw[Nat.add_mul,Nat.one_mul,Nat.add_comm (i*sz) sz,← Nat.add_assoc]; exact e2,e3⟩
   obtain⟨css,d1,d2,d3⟩:=hall ys o h4;exact⟨css,d1,d2,.inr ⟨b,o,cap,by rw[d1],by omega,h3,d3⟩⟩
theorem All2.append {α : Type} {R : List Value → α → Prop} : ∀ {a : List (List Value)} {x : List α} {b : List (List Value)} {y : List α}, All2 R a x → All2 R b y → All2 R (a ++ b) (x ++ y)
 | [],[],b,y,_,h=>h
 | [],_::_,_,_,h,_=>by simp[All2]at h
 | _::_,[],_,_,h,_=>by simp[All2]at h
 | c::a,z::x,b,y,h,k=>All2.cons (h.2 0 c z rfl rfl) (All2.append ⟨by simpa using h.1,fun i c' z' hc hz=>h.2 (i+1) c' z' (by simpa using hc) (by simpa using hz)⟩ k)
theorem ROp.one {I:Imm}(cs:List Value)(x:OpL)(h:ROp I cs x):cs.all (·.oneCell')=true:=by
 obtain⟨ad,m,cap,rfl,_⟩:=h; rfl
end Go.Inl
namespace Go.Inl
open Go Go.RowKit
def entL : Nat → List (Int × Int) → List MapEntry
 | _,[]=>[]
 | i,x::r=>{ key:=.int .i64 x.1,val:=.int .i64 x.2,born:=i }::entL (i+1) r
def mapO (l:List (Int×Int)):Obj:=.map (entL 0 l).toArray l.length
def lookI : List (Int × Int) → Int → Option Int
 | [],_=>none
 | x::r,k=>if k=x.1 then some x.2 else lookI r k
theorem entL_snoc : ∀ (l : List (Int × Int)) (b : Nat) (x : Int × Int), entL b (l ++ [x]) = entL b l ++ [{ key := .int .i64 x.1, val := .int .i64 x.2, born := b + l.length }]
 | [],b,x=>rfl
 | y::r,b,x=>by
   show _::entL (b+1) (r++[x])=_::(entL (b+1) r++_)
   rw[entL_snoc r (b+1) x,List.length_cons,show b+1+r.length=b+(r.length+1) by omega]
theorem lookI_snoc : ∀ (l : List (Int × Int)) (k v j : Int), lookI (l ++ [(k, v)]) j = match lookI l j with | some x => some x | none => if j = k then some v else none
 | [],k,v,j=>rfl
 | y::r,k,v,j=>by
   show(if j=y.1 then some y.2 else lookI (r++[(k,v)]) j)=_
   by_cases h:j=y.1
   · simp[lookI,h]
   · simp only[lookI,vG h]; exact lookI_snoc r k v j
theorem findNow_some (k v : Int) : ∀ (l : List (Int × Int)) (b i : Nat), lookI l k = some v → ∃ j, Instr.findNow (.int .i64) (.int .i64 k) (entL b l) i = some (some (j, .int .i64 v))
 | [],b,i,h=>by simp[lookI]at h
 | x::r,b,i,h=>by
   unfold lookI at h;unfold entL Instr.findNow;by_cases e:k=x.1
   · rw [vJ e] at h
     obtain rfl:=Option.some.inj h;exact⟨i,by simp[Instr.sameNow,e]⟩
   · rw [vG e] at h
     obtain⟨j,hj⟩:=findNow_some k v r (b+1) (i+1) h;exact⟨j,by simpa [Instr.sameNow,beq_eq_false_iff_ne.2 e] using hj⟩
theorem kH (k : Int) : ∀ (l : List (Int × Int)) (b i : Nat), lookI l k = none → Instr.findNow (.int .i64) (.int .i64 k) (entL b l) i = some none
 | [],b,i,h=>rfl
 | x::r,b,i,h=>by
   unfold lookI at h;unfold entL Instr.findNow;by_cases e:k=x.1
   · rw[vJ e]at h; cases h
   · rw [vG e] at h
     simpa [Instr.sameNow,beq_eq_false_iff_ne.2 e] using kH k r (b+1) (i+1) h
theorem checkInt {P:Program}{w:World}{ky:TypeId}(hk:P.underlying ky=some (.int .i64))(e:Bool)(n:Nat)(k:Int):(Instr.checkKey e (n+1) ky (.int .i64 k)).run P w = .ok () w:=by
 unfold Instr.checkKey;simp[Sem.run_bind,run_underlying hk,Result.andThen]
theorem findInt {P:Program}{w:World}{ky:TypeId}{k:Value}{l:List MapEntry}{a:Option (Nat×Value)}(hd:P.underlying ky=some (.int .i64))(h:Instr.findNow (.int .i64) k l 0=some a):(Instr.findKey ky k l).run P w = .ok a w:=by
 simp[Instr.findKey,run_underlying hd,Result.andThen,h]
theorem getMap {P:Program}{w:World}{r:Nat}{es:Array MapEntry}{c:Nat}(hb:w.heap[r]? = some (.map es c)):(getObj r).run P w = .ok (.map es c) w:=by
 simp[getObj,Sem.run,hb]
theorem setMap {P:Program}{w:World}{r:Nat}{es:Array MapEntry}{c:Nat}(o:Obj)(hb:w.heap[r]? = some (.map es c)):(setObj r o).run P w = .ok () { w with heap:=w.heap.setIfInBounds r o }:=by
 simp[setObj,Sem.run,hb]
theorem run_lookI {P : Program} {w : World} {t ky el : TypeId} {r : Nat} {l : List (Int × Int)} {k : Int} (hT : P.underlying t = some (.map ky el)) (hk : P.underlying ky = some (.int .i64)) (hz : ∀ w, (zeroValue el).run P w = .ok (.int .i64 0) w) (hb : w.heap[r]? = some (mapO l)) :
 (Instr.lookup t (.map (some r)) (.int .i64 k) true).run P w = .ok (.tuple #[.int .i64 ((lookI l k).getD 0),.bool (lookI l k).isSome]) w:=by
 unfold Instr.lookup;unfold mapO at hb;have hg:=getMap (P:=P) hb;cases h:lookI l k with
 | none =>
   have h2:=findInt (P:=P) (w:=w) hk (kH k l 0 0 h);simp[Sem.run_bind,run_underlying hT,Result.andThen,hg,checkInt hk,h2,hz]
 | some v =>
   obtain⟨j,hj⟩:=findNow_some k v l 0 0 h;have h2:=findInt (P:=P) (w:=w) hk hj;simp[Sem.run_bind,run_underlying hT,Result.andThen,hg,checkInt hk,h2]
section
variable {P:Program} {n:Nat} {σ:Nat→Value} {ty:TypeId} {X:List Nat} {w0 w:World} {I0 I:Imm} {L:List Res} {t ky el:TypeId} {x y z:Operand} {r:Nat} {l:List (Int×Int)} {k v:Int}
theorem g_lookF (hT : P.underlying t = some (.map ky el)) (hk : P.underlying ky = some (.int .i64)) (hz : ∀ w, (zeroValue el).run P w = .ok (.int .i64 0) w) (hI : I r = some (mapO l)) (hx : ev n σ x = .map (some r)) (hy : ev n σ y = .int .i64 k) :
 Gives P (ev n σ) (KS X w0 I0 I L) (.lookup t x y true) ty (.tuple #[.int .i64 ((lookI l k).getD 0),.bool (lookI l k).isSome]):=fun w hw=>by
 have h:=run_lookI (P:=P) (k:=k) hT hk hz (hw.imm r _ hI);simp only[execOp,hx,hy,Sem.run_bind,h,Result.andThen_ok]; rfl
theorem g_lookO (i : Nat) (hT : P.underlying t = some (.map ky el)) (hk : P.underlying ky = some (.int .i64)) (hz : ∀ w, (zeroValue el).run P w = .ok (.int .i64 0) w) (hL : L[i]? = some (.obj r (mapO l))) (hx : ev n σ x = .map (some r)) (hy : ev n σ y = .int .i64 k) :
 Gives P (ev n σ) (KS X w0 I0 I L) (.lookup t x y true) ty (.tuple #[.int .i64 ((lookI l k).getD 0),.bool (lookI l k).isSome]):=fun w hw=>by
 have h:=run_lookI (P:=P) (k:=k) hT hk hz (show w.heap[r]? = some (mapO l) from hw.hold _ (vI hL));simp only[execOp,hx,hy,Sem.run_bind,h,Result.andThen_ok]; rfl
theorem d_makeMap (hS:St X w0 I0 I w L):Does P (ev n σ) (.makeMap t none) ty w fun v w'=>∃b,v = .map (some b)∧St X w0 I0 I w' (.obj b (mapO [])::L):=by
 refine qH (v:=.map (some w.heap.size)) (w':=w.alloc (mapO [])) ?_ ⟨_,rfl,hS.newObj (mapO [])⟩;simp[execOp,Instr.makeMap,newObj,mapO,entL,Sem.run]
theorem d_mapPut (i : Nat) (hS : St X w0 I0 I w L) (hT : P.underlying t = some (.map ky el)) (hk : P.underlying ky = some (.int .i64)) (hL : L[i]? = some (.obj r (mapO l))) (hx : ev n σ x = .map (some r)) (hy : ev n σ y = .int .i64 k) (hz : ev n σ z = .int .i64 v) (hn : lookI l k = none) :
 Does P (ev n σ) (.mapUpdate t x y z) ty w fun u w'=>u=undef∧St X w0 I0 I w' (L.set i (.obj r (mapO (l++[(k,v)])))):=by
 have hb:w.heap[r]? = some (mapO l):=hS.hold _ (vI hL);have h2:=findInt (P:=P) (w:=w) hk (kH k l 0 0 hn);have e:mapO (l++[(k,v)]) = .map (entL 0 l++[({ key:=.int .i64 k,val:=.int .i64 v,born:=l.length }:MapEntry)]).toArray (l.length+1):=by
  unfold mapO;rw[entL_snoc]; simp
 have hP:=hS.putO (o':=mapO (l++[(k,v)])) hL;unfold mapO at hb;have hg:=getMap (P:=P) hb;have hr:(Instr.mapUpdate t (.map (some r)) (.int .i64 k) (.int .i64 v)).run P w = .ok () (w.putObj r (mapO (l++[(k,v)]))):=by
  unfold Instr.mapUpdate;rw[e];have hs:=setMap (P:=P) (.map (entL 0 l++[({ key:=.int .i64 k,val:=.int .i64 v,born:=l.length }:MapEntry)]).toArray (l.length+1)) hb;simp[Sem.run_bind,run_underlying hT,Result.andThen,hg,checkInt hk,h2,hs,World.putObj]
 refine kx (w':=w.putObj r (mapO (l++[(k,v)]))) ?_ ⟨rfl,hP⟩;simp only[execOp,hx,hy,hz,Sem.run_bind,hr,Result.andThen_ok]; rfl
end
end Go.Inl
namespace Go.Inl
open Go Go.RowKit
section
variable {P:Program} {n:Nat} {σ:Nat→Value} {ty:TypeId} {w0 w:World} {I0 I:Imm} {L:List Res} {t t' e:TypeId} {x:Operand}
theorem St.freezeO {b:Nat}{o:Obj}(h:St [] w0 I0 I w (.obj b o::L)):∃I',St [] w0 I0 I' w L∧Sub I I'∧I' b=some o:=by
 obtain⟨h1,h2,h3⟩:=h.freeze;exact⟨_,h1,h2,(h3 b (xi.2 rfl)).trans (h.hold _ (List.mem_cons_self ..))⟩
theorem freeze_own {b k:Nat}{T:TypeId}{cs:List Value}(hb:w.heap[b]? = some (.cells cs.toArray T (0,0))):w.freeze ⟨b,k,none⟩ 1=w.putObj b (.cells cs.toArray T (k,k+1)):=by
 have hlt:b < w.heap.size:=(Array.getElem?_eq_some_iff.1 hb).1;have hv:w.heap[b] = .cells cs.toArray T (0,0):=(Array.getElem?_eq_some_iff.1 hb).2;unfold World.freeze World.putObj;rw[vG (by decide)];congr 1
 apply Array.ext
 · simp
 · intro i h1 h2
   by_cases h:b=i
   · subst h; simp[Array.getElem_modify,hv]
   · rw[Array.getElem_modify,vG h,Array.getElem_setIfInBounds_ne _ h]
theorem d_markF {b k : Nat} {xs : List Int} (hS : St [] w0 I0 I w (.cel b e (flat byteC xs) :: L)) (ht : t = t') (hT : P.underlying t = some (.slice e)) (he : P.underlying e = some (.int .u8)) (hx : ev n σ x = .slice (some ⟨b, 0, none⟩) k k) (hk : k = xs.length) (hl : xs.length ≤ 1048576) :
 Does P (ev n σ) (.convert t t' x) ty w fun v w'=>∃I',v = .slice (some ⟨b,0,none⟩) k k∧St [] w0 I0 I' w' L∧Inl.Sub I I'∧RBytes I' v xs:=by
 subst ht; subst hk
 have hb:w.heap[b]? = some (.cells (flat byteC xs).toArray e (0,0)):=hS.hold _ (List.mem_cons_self ..);have hlen:(flat byteC xs).length=xs.length:=by rw[qT qx,Nat.mul_one]
 have hfz:=freeze_own (k:=xs.length) hb;have hsh:w.shape? b=some (e,xs.length):=by unfold World.shape?; rw[hb]; simp[hlen]
 have hS1:St [] w0 I0 I (w.putObj b (.cells (flat byteC xs).toArray e (xs.length,xs.length+1))) (.obj b (.cells (flat byteC xs).toArray e (xs.length,xs.length+1))::L):=by
  have hlt:=(Array.getElem?_eq_some_iff.1 hb).1;exact hS.change (k:=0) (r':=.obj b (.cells (flat byteC xs).toArray e (xs.length,xs.length+1))) rfl rfl rfl rfl (by simp) (fun c _ hc=>World.putObj_heap_other (fun e=>hc (by simp[Res.foot,e]))) (fun c hc=>.inl hc) (by simp[Res.foot]) (World.putObj_heap_same hlt)
 obtain⟨I',hS',hsub,hI⟩:=St.freezeO hS1;refine qH (v:=.slice (some ⟨b,0,none⟩) xs.length xs.length) (w':=w.putObj b (.cells (flat byteC xs).toArray e (xs.length,xs.length+1))) ?_ ⟨I',rfl,hS',hsub,?_⟩
 · simp[execOp,hx,convert,run_underlying hT,run_underlying he,Result.andThen,markStringish,hsh,hfz]
 · refine .inr ⟨b, 0, xs.length, rfl, vX _, by unfold maxLen; omega, fun i y hy => ⟨_, rfl, ⟨rfl, _, _, _, hI, fun j v hv => ?_⟩, rfl⟩⟩
   have:=qG qx xs i y hy j v hv;show(flat byteC xs).toArray[0+i*1+j]? = some v
   rw[xV,List.getElem?_toArray]; exact this
end
end Go.Inl
namespace Go.Inl
open Go Go.RowKit
def u32C (b:Int):List Value:=[.int .u32 b]
def u32s (c:List Int):List Value:=c.map (Value.int .u32)
theorem qN (c:List Int):(u32s c).length=c.length:=xM _
theorem u32s_set (c:List Int)(i:Nat)(v:Int):(u32s c).set i (.int .u32 v)=u32s (c.set i v):=by unfold u32s; rw[List.map_set]
theorem yU {c:List Int}{i:Nat}{v:Int}(h:c[i]? = some v):(u32s c)[i]? = some (.int .u32 v):=by unfold u32s; rw[xN,h]; rfl
theorem u32s_one (c:List Int):(u32s c).all (·.oneCell')=true:=by rw[Qm]; intro v hv; obtain⟨x,_,rfl⟩:=uI.1 hv; rfl
section
variable {P:Program} {n:Nat} {σ:Nat→Value} {ty t:TypeId} {X:List Nat} {w0 w:World} {I0 I:Imm} {L:List Res} {x y:Operand}
theorem kz (k : Nat) {b o : Nat} {T : TypeId} {cs : List Value} {v : Value} (hS : St X w0 I0 I w L) (hm : ∀ w, (sizeOf t).run P w = .ok 1 w) (hL : L[k]? = some (.cel b T cs)) (ho : o < cs.length)
 (hx:ev n σ x = .pointer (some ⟨b,o,none⟩)) (hy:ev n σ y=v) (hv:v.cells.toList=[v]) (h1:v.oneCell'=true):Does P (ev n σ) (.store t x y) ty w fun u w'=>u=undef∧St X w0 I0 I w' (L.set k (.cel b T (cs.set o v))):=by
 have e:cs=cs.take o++([cs[o]]++cs.drop (o+1)):=by
  rw[List.singleton_append,← List.drop_eq_getElem_cons ho,List.take_append_drop]
 have e2:cs.set o v=cs.take o++([v]++cs.drop (o+1)):=by
  rw[List.set_eq_take_append_cons_drop,vJ ho]; rfl
 rw[e]at hL;rw[e2];refine jv (k:=k) (c:=0) (row':=[v]) hS hm hL (by rw[xc]; omega) hx hy hv rfl (by simp[h1]) (by simp) rfl
theorem g_indexAgg {S : World → Prop} {e : TypeId} {N : Nat} {K : IntKind} {i : Int} {cs : List Value} {v : Value} (hT : P.underlying t = some (.array N e)) (hs : ∀ w, (sizeOf e).run P w = .ok 1 w) (ha : ∀ w, (isAgg e).run P w = .ok false w)
 (hx:ev n σ x = .agg cs.toArray) (hi:ev n σ y = .int K i) (h0:0≤i) (h1:i < N) (hv:cs[i.toNat]? = some v):Gives P (ev n σ) S (.index t x y) ty v:=fun w _=>by
 simp[execOp,Instr.index,Sem.run_bind,run_underlying hT,hx,hi,asIntOf,h0,h1,hs,part,ha,hv]
end
end Go.Inl
namespace Go.Inl
open Go Go.RowKit
def ptrO : Option Nat → Value
 | some c=>.pointer (some ⟨c,0,none⟩)
 | none=>.pointer none
def entLB : Nat → List (Int × Nat) → List MapEntry
 | _,[]=>[]
 | i,x::r=>{ key:=.int .u8 x.1,val:=.pointer (some ⟨x.2,0,none⟩),born:=i }::entLB (i+1) r
def mapOB (l:List (Int×Nat)):Obj:=.map (entLB 0 l).toArray l.length
def lookIB : List (Int × Nat) → Int → Option Nat
 | [],_=>none
 | x::r,k=>if k=x.1 then some x.2 else lookIB r k
theorem entL_snocB : ∀ (l : List (Int × Nat)) (b : Nat) (x : Int × Nat), entLB b (l ++ [x]) = entLB b l ++ [{ key := .int .u8 x.1, val := .pointer (some ⟨x.2, 0, none⟩), born := b + l.length }]
 | [],b,x=>rfl
 | y::r,b,x=>by
   show _::entLB (b+1) (r++[x])=_::(entLB (b+1) r++_)
   rw[entL_snocB r (b+1) x,List.length_cons,show b+1+r.length=b+(r.length+1) by omega]
theorem jI : ∀ (l : List (Int × Nat)) (k : Int) (v : Nat) (j : Int), lookIB (l ++ [(k, v)]) j = match lookIB l j with | some x => some x | none => if j = k then some v else none
 | [],k,v,j=>rfl
 | y::r,k,v,j=>by
   show(if j=y.1 then some y.2 else lookIB (r++[(k,v)]) j)=_
   by_cases h:j=y.1
   · simp[lookIB,h]
   · simp only[lookIB,vG h]; exact jI r k v j
theorem findNow_someB (k : Int) (v : Nat) : ∀ (l : List (Int × Nat)) (b i : Nat), lookIB l k = some v → ∃ j, Instr.findNow (.int .u8) (.int .u8 k) (entLB b l) i = some (some (j, .pointer (some ⟨v, 0, none⟩)))
 | [],b,i,h=>by simp[lookIB]at h
 | x::r,b,i,h=>by
   unfold lookIB at h;unfold entLB Instr.findNow;by_cases e:k=x.1
   · rw [vJ e] at h
     obtain rfl:=Option.some.inj h;exact⟨i,by simp[Instr.sameNow,e]⟩
   · rw [vG e] at h
     obtain⟨j,hj⟩:=findNow_someB k v r (b+1) (i+1) h;exact⟨j,by simpa [Instr.sameNow,beq_eq_false_iff_ne.2 e] using hj⟩
theorem kk (k : Int) : ∀ (l : List (Int × Nat)) (b i : Nat), lookIB l k = none → Instr.findNow (.int .u8) (.int .u8 k) (entLB b l) i = some none
 | [],b,i,h=>rfl
 | x::r,b,i,h=>by
   unfold lookIB at h;unfold entLB Instr.findNow;by_cases e:k=x.1
   · rw[vJ e]at h; cases h
   · rw [vG e] at h
     simpa [Instr.sameNow,beq_eq_false_iff_ne.2 e] using kk k r (b+1) (i+1) h
theorem checkIntB {P:Program}{w:World}{ky:TypeId}(hk:P.underlying ky=some (.int .u8))(e:Bool)(n:Nat)(k:Int):(Instr.checkKey e (n+1) ky (.int .u8 k)).run P w = .ok () w:=by
 unfold Instr.checkKey;simp[Sem.run_bind,run_underlying hk,Result.andThen]
theorem findIntB {P:Program}{w:World}{ky:TypeId}{k:Value}{l:List MapEntry}{a:Option (Nat×Value)}(hd:P.underlying ky=some (.int .u8))(h:Instr.findNow (.int .u8) k l 0=some a):(Instr.findKey ky k l).run P w = .ok a w:=by
 simp[Instr.findKey,run_underlying hd,Result.andThen,h]
theorem run_lookIB {P : Program} {w : World} {t ky el : TypeId} {r : Nat} {l : List (Int × Nat)} {k : Int} (hT : P.underlying t = some (.map ky el)) (hk : P.underlying ky = some (.int .u8)) (hz : ∀ w, (zeroValue el).run P w = .ok (.pointer none) w) (hb : w.heap[r]? = some (mapOB l)) :
 (Instr.lookup t (.map (some r)) (.int .u8 k) true).run P w = .ok (.tuple #[ptrO (lookIB l k),.bool (lookIB l k).isSome]) w:=by
 unfold Instr.lookup;unfold mapOB at hb;have hg:=getMap (P:=P) hb;cases h:lookIB l k with
 | none =>
   have h2:=findIntB (P:=P) (w:=w) hk (kk k l 0 0 h);simp[Sem.run_bind,run_underlying hT,Result.andThen,hg,checkIntB hk,h2,hz,ptrO]
 | some v =>
   obtain⟨j,hj⟩:=findNow_someB k v l 0 0 h;have h2:=findIntB (P:=P) (w:=w) hk hj;simp[Sem.run_bind,run_underlying hT,Result.andThen,hg,checkIntB hk,h2,ptrO]
section
variable {P:Program} {n:Nat} {σ:Nat→Value} {ty:TypeId} {X:List Nat} {w0 w:World} {I0 I:Imm} {L:List Res} {t ky el:TypeId} {x y z:Operand} {r:Nat} {l:List (Int×Nat)} {k:Int} {v:Nat}
theorem g_lookOB (i : Nat) (hT : P.underlying t = some (.map ky el)) (hk : P.underlying ky = some (.int .u8)) (hz : ∀ w, (zeroValue el).run P w = .ok (.pointer none) w) (hL : L[i]? = some (.obj r (mapOB l))) (hx : ev n σ x = .map (some r)) (hy : ev n σ y = .int .u8 k) :
 Gives P (ev n σ) (KS X w0 I0 I L) (.lookup t x y true) ty (.tuple #[ptrO (lookIB l k),.bool (lookIB l k).isSome]):=fun w hw=>by
 have h:=run_lookIB (P:=P) (k:=k) hT hk hz (show w.heap[r]? = some (mapOB l) from hw.hold _ (vI hL));simp only[execOp,hx,hy,Sem.run_bind,h,Result.andThen_ok]; rfl
theorem d_makeMapB (hS:St X w0 I0 I w L):Does P (ev n σ) (.makeMap t none) ty w fun v w'=>∃b,v = .map (some b)∧St X w0 I0 I w' (.obj b (mapOB [])::L):=by
 refine qH (v:=.map (some w.heap.size)) (w':=w.alloc (mapOB [])) ?_ ⟨_,rfl,hS.newObj (mapOB [])⟩;simp[execOp,Instr.makeMap,newObj,mapOB,entLB,Sem.run]
theorem d_mapPutB (i : Nat) (hS : St X w0 I0 I w L) (hT : P.underlying t = some (.map ky el)) (hk : P.underlying ky = some (.int .u8)) (hL : L[i]? = some (.obj r (mapOB l))) (hx : ev n σ x = .map (some r)) (hy : ev n σ y = .int .u8 k) (hz : ev n σ z = .pointer (some ⟨v, 0, none⟩)) (hn : lookIB l k = none) :
 Does P (ev n σ) (.mapUpdate t x y z) ty w fun u w'=>u=undef∧St X w0 I0 I w' (L.set i (.obj r (mapOB (l++[(k,v)])))):=by
 have hb:w.heap[r]? = some (mapOB l):=hS.hold _ (vI hL);have h2:=findIntB (P:=P) (w:=w) hk (kk k l 0 0 hn);have e:mapOB (l++[(k,v)]) = .map (entLB 0 l++[({ key:=.int .u8 k,val:=.pointer (some ⟨v,0,none⟩),born:=l.length }:MapEntry)]).toArray (l.length+1):=by
  unfold mapOB;rw[entL_snocB]; simp
 have hP:=hS.putO (o':=mapOB (l++[(k,v)])) hL;unfold mapOB at hb;have hg:=getMap (P:=P) hb;have hr:(Instr.mapUpdate t (.map (some r)) (.int .u8 k) (.pointer (some ⟨v,0,none⟩))).run P w = .ok () (w.putObj r (mapOB (l++[(k,v)]))):=by
  unfold Instr.mapUpdate;rw[e];have hs:=setMap (P:=P) (.map (entLB 0 l++[({ key:=.int .u8 k,val:=.pointer (some ⟨v,0,none⟩),born:=l.length }:MapEntry)]).toArray (l.length+1)) hb;simp[Sem.run_bind,run_underlying hT,Result.andThen,hg,checkIntB hk,h2,hs,World.putObj]
 refine kx (w':=w.putObj r (mapOB (l++[(k,v)]))) ?_ ⟨rfl,hP⟩;simp only[execOp,hx,hy,hz,Sem.run_bind,hr,Result.andThen_ok]; rfl
end
end Go.Inl
namespace Go.Inl
open Go Go.RowKit
theorem mem2 {α:Type}{r r1 r2:α}{L:List α}(h:r∈[r1,r2]):r∈r1::r2::L:=by
 simp only[vN,vP,or_false]at h;rcases h with h | h
 · rw[h]; exact List.mem_cons_self ..
 · rw[h]; exact List.mem_cons_of_mem _ (List.mem_cons_self ..)
theorem St.ownL {X:List Nat}{w0 w:World}{I0 I:Imm}{r1 r2:Res}{L:List Res}(h:St X w0 I0 I w (r1::r2::L)):St (r1.foot++r2.foot) w I I w [r1,r2] :=
 ⟨rfl,rfl,rfl,vX _,fun _ _ _=>rfl,h.imm,fun _ _=>rfl,Inl.Sub.refl _,fun r hr=>h.hold r (mem2 hr),fun r hr b hb=>⟨(h.new r (mem2 hr) b hb).1,.inr (by
   simp only[vN,vP,or_false]at hr;rcases hr with rfl | rfl
   · exact List.mem_append_left _ hb
   · exact List.mem_append_right _ hb)⟩,by
   have:=h.nodup;simp only[List.flatMap_cons]at this;rw[← xa]at this;simpa using (List.nodup_append.1 this).1⟩
theorem St.callL {X:List Nat}{w0 w w':World}{I0 I I':Imm}{r1 r2:Res}{L A':List Res}(h:St X w0 I0 I w (r1::r2::L))(hE:St (r1.foot++r2.foot) w I I' w' A'):St X w0 I0 I' w' (A'++L):=by
 have hnd:=h.nodup;simp only[List.flatMap_cons]at hnd;rw[← xa]at hnd;obtain⟨n1,n2,n3⟩:=List.nodup_append.1 hnd;have hfoot:∀b∈r1.foot++r2.foot,I b=none∧(w0.heap.size≤b∨b∈X):=fun b hb=>by
  rcases xA.1 hb with hb | hb
  · exact h.new r1 (by simp) b hb
  · exact h.new r2 (by simp) b hb
 have hL:∀r∈L,∀b∈r.foot,b < w.heap.size∧b∉r1.foot++r2.foot:=fun r hr b hb =>
  ⟨Res.foot_lt (h.hold r (by simp[hr])) b hb,fun hm=>n3 b hm b (List.mem_flatMap.2 ⟨r,hr,hb⟩) rfl⟩
 refine⟨hE.os.trans h.os,hE.tape.trans h.tape,hE.output.trans h.output,Nat.le_trans h.size hE.size,fun k hk hx=>?_,hE.imm,fun b hb=>(hE.old b (Nat.lt_of_lt_of_le hb h.size)).trans (h.old b hb),Inl.Sub.trans h.ext hE.ext,fun r hr=>?_,fun r hr b hb=>?_,?_⟩
 · refine (hE.block k (Nat.lt_of_lt_of_le hk h.size) fun hm => ?_).trans (h.block k hk hx)
   rcases(hfoot k hm).2 with h' | h'
   · omega
   · exact hx h'
 · rcases xA.1 hr with hr | hr
   · exact hE.hold r hr
   · exact Res.holds_of (h.hold r (by simp[hr])) fun b hb=>hE.block b (hL r hr b hb).1 (hL r hr b hb).2
 · rcases xA.1 hr with hr | hr
   · obtain ⟨h1, h2⟩ := hE.new r hr b hb
     refine⟨h1,?_⟩;rcases h2 with h2 | h2
     · exact .inl (Nat.le_trans h.size h2)
     · exact(hfoot b h2).2
   · have h1 := h.new r (by simp [hr]) b hb
     exact⟨(hE.old b (hL r hr b hb).1).trans h1.1,h1.2⟩
 · rw [List.flatMap_append]
   refine List.nodup_append.2 ⟨hE.nodup,n2,fun a ha b hb e=>?_⟩;subst e;obtain⟨r,hr,ha'⟩:=List.mem_flatMap.1 ha;obtain⟨r',hr',hb'⟩:=List.mem_flatMap.1 hb;obtain⟨h1,h2⟩:=hL r' hr' a hb';rcases(hE.new r hr a ha').2 with h | h
   · omega
   · exact h2 h
end Go.Inl
namespace Go.Inl
open Go Go.RowKit
theorem St.ownA {X:List Nat}{w0 w:World}{I0 I:Imm}(A:List Res){L:List Res}(h:St X w0 I0 I w (A++L)):St (A.flatMap Res.foot) w I I w A :=
 ⟨rfl, rfl, rfl, vX _, fun _ _ _ => rfl, h.imm, fun _ _ => rfl, Sub.refl _, fun r hr => h.hold r (List.mem_append_left _ hr),
  fun r hr b hb=>⟨(h.new r (List.mem_append_left _ hr) b hb).1,.inr (List.mem_flatMap.2 ⟨r,hr,hb⟩)⟩,by
   have:=h.nodup;rw[List.flatMap_append]at this;exact(List.nodup_append.1 this).1⟩
theorem St.callA {X:List Nat}{w0 w w':World}{I0 I I':Imm}(A:List Res){L A':List Res}(h:St X w0 I0 I w (A++L))(hE:St (A.flatMap Res.foot) w I I' w' A'):St X w0 I0 I' w' (A'++L):=by
 have hnd:=h.nodup;rw[List.flatMap_append]at hnd;obtain⟨n1,n2,n3⟩:=List.nodup_append.1 hnd;have hfoot:∀b∈A.flatMap Res.foot,I b=none∧(w0.heap.size≤b∨b∈X):=fun b hb=>by
  obtain⟨r,hr,hb⟩:=List.mem_flatMap.1 hb;exact h.new r (List.mem_append_left _ hr) b hb
 have hL:∀r∈L,∀b∈r.foot,b < w.heap.size∧b∉A.flatMap Res.foot:=fun r hr b hb =>
  ⟨Res.foot_lt (h.hold r (List.mem_append_right _ hr)) b hb,fun hm=>n3 b hm b (List.mem_flatMap.2 ⟨r,hr,hb⟩) rfl⟩
 refine⟨hE.os.trans h.os,hE.tape.trans h.tape,hE.output.trans h.output,Nat.le_trans h.size hE.size,fun k hk hx=>?_,hE.imm,fun b hb=>(hE.old b (Nat.lt_of_lt_of_le hb h.size)).trans (h.old b hb),Sub.trans h.ext hE.ext,fun r hr=>?_,fun r hr b hb=>?_,?_⟩
 · refine (hE.block k (Nat.lt_of_lt_of_le hk h.size) fun hm => ?_).trans (h.block k hk hx)
   rcases(hfoot k hm).2 with h' | h'
   · omega
   · exact hx h'
 · rcases xA.1 hr with hr | hr
   · exact hE.hold r hr
   · exact Res.holds_of (h.hold r (List.mem_append_right _ hr)) fun b hb=>hE.block b (hL r hr b hb).1 (hL r hr b hb).2
 · rcases xA.1 hr with hr | hr
   · obtain ⟨h1, h2⟩ := hE.new r hr b hb
     refine⟨h1,?_⟩;rcases h2 with h2 | h2
     · exact .inl (Nat.le_trans h.size h2)
     · exact(hfoot b h2).2
   · have h1 := h.new r (List.mem_append_right _ hr) b hb
     exact⟨(hE.old b (hL r hr b hb).1).trans h1.1,h1.2⟩
 · rw [List.flatMap_append]
   refine List.nodup_append.2 ⟨hE.nodup,n2,fun a ha b hb e=>?_⟩;subst e;obtain⟨r,hr,ha'⟩:=List.mem_flatMap.1 ha;obtain⟨r',hr',hb'⟩:=List.mem_flatMap.1 hb;obtain⟨h1,h2⟩:=hL r' hr' a hb';rcases(hE.new r hr a ha').2 with h | h
   · omega
   · exact h2 h
theorem g_eqSliceNil {P : Program} {n : Nat} {σ : Nat → Value} {S : World → Prop} {t t' ty e : TypeId} {x y : Operand} {a : Addr} {k c : Nat} (hT : P.underlying t = some (.slice e)) (hx : ev n σ x = .slice (some a) k c) (hy : ev n σ y = .slice none 0 0) :
 Gives P (ev n σ) S (.binOp .eql t x y t') ty (.bool false):=fun w _=>by
 have h0:=run_equal_slice_nil (P:=P) w t e (some a) k c hT;have h1:(binOp .eql t (.slice (some a) k c) (.slice none 0 0)).run P w = .ok (.bool false) w:=by
  simp only[binOp];simp[h0]
 simp only[execOp,hx,hy,Sem.run_bind,eqGuard,h1];simp[Result.andThen,h1]
section
variable {P:Program} {n:Nat} {df:List Deferred} {ro:Option Nat} {σ:Nat→Value} {w:World} {Q:Exit→Act→World→Prop}
theorem fnD {f : FuncId} {fn : Func} {c : Code} {l : List Value} {R' : Value → World → Prop} (hf : P.funcs[f]? = some fn) (hb : fn.body = some c) (hn : fn.ntmps = n) (hl : Nat.ble l.length n = true)
 (h:c.wpIn (fen none) 0 P (bodyPostDIn (fen none) 0 P fn fun e w'=>∃v,e = .returned v∧R' v w') (act n [] (args l)) w):Ctr P f l w R' :=
 ⟨(callsIn_wide (n:=0)).1 (callsIn_of_wp_defers (F:=fen none) hf hb trivial (by rw[hn,yl l n (vB hl)]; exact h) rfl)⟩
theorem reg_defer {id : Nat} {t : Tmp} {f : FuncId} {lc : List Operand} {cs : List Value} {ty1 ty2 : TypeId} {p1 p2 : String} {a1 a2 : Array Edge} {σ' : Nat → Value} (hc : lc.map (ev n σ) = cs) (hσ : updO (updO σ (some t) (.func (.func f) #[] cs.toArray)) none undef = σ')
 (ht:ev n (updO σ (some t) (.func (.func f) #[] cs.toArray)) (.tmp t) = .func (.func f) #[] cs.toArray)
 (h:Q .normal (act n [⟨.fn (.func f) cs.toArray,#[]⟩] σ') w) :
 (Code.region id [⟨some t,.makeFunc (.func f) [].toArray lc.toArray,ty1,p1,a1,none⟩,⟨none,.defer { callee:=.value (.tmp t),args := #[],argTypes := #[] },ty2,p2,a2,none⟩].toArray false).wpIn (fen none) 0 P Q (act n [] σ) w:=by
 subst hσ;refine wpIn_region_lit ?_;have h1:(execOp (act n [] σ).eval ⟨some t,.makeFunc (.func f) [].toArray lc.toArray,ty1,p1,a1,none⟩).run P w = .ok (.value (.func (.func f) #[] cs.toArray)) w:=by
  subst hc; rw[jw]; simp[execOp,Instr.makeFunc]
 have h2:(execOp (act n [] (updO σ (some t) (.func (.func f) #[] cs.toArray))).eval ⟨none,.defer { callee:=.value (.tmp t),args := #[],argTypes := #[] },ty2,p2,a2,none⟩).run P w = .ok (.defer ⟨.fn (.func f) cs.toArray,#[]⟩) w:=by
  rw[jw]; simp[execOp,resolve,ht,Deferred.ofValue]
 unfold wpListIn;rw[vJ (by simp[Region.wanted])];refine⟨fun _ _=>trivial,?_⟩;rw[show(fen none).round=none from rfl,Oper.semAt_none,h1];show wpListIn _ _ _ _ _ _ ((act n [] σ).put (some t) _) w
 rw[js];unfold wpListIn;rw[vJ (by simp[Region.wanted])];refine⟨fun _ _=>trivial,?_⟩;rw[show(fen none).round=none from rfl,Oper.semAt_none,h2];exact h
theorem retDf2 {fn : Func} {f : FuncId} {cs aS : List Value} {a b : ResultVar} {va vb : Value} {R' : Value → World → Prop} (hi : ∀ w : World, (invoke (.fn (.func f) cs.toArray) #[]).run P w = .ok (.enter f aS.toArray) w)
 (hD:∀w,CallsDIn (fen none) 0 P f aS.toArray .returning w fun e u w'=>(∃v,e = .returned v)∧u = .returning∧w'=w)
 (hr:fn.results = #[a,b]) (h1:ResV P n σ w a va) (h2:ResV P n σ w b vb) (h:R' (.tuple #[va,vb]) w) :
 bodyPostDIn (fen none) 0 P fn (fun e w'=>∃v,e = .returned v∧R' v w') .ret (act n [⟨.fn (.func f) cs.toArray,#[]⟩] σ) w:=by
 show LeavesIn _ _ _ _ _ _ _ _ _
 unfold LeavesIn;refine⟨by simp[act],fun h=>(by cases h),.func f,cs.toArray,f,aS.toArray,rfl,hi w,fun _ _=>trivial,trivial,fun c cs' hc hroom=>?_⟩;obtain⟨e,u',w',fr,⟨⟨v,rfl⟩,rfl,rfl⟩,h4,h5,h6,h7⟩:=(hD w).2 c cs' hc hroom;refine⟨_,_,_,fr,?_,h4,h5,h6,h7⟩;show LeavesIn _ _ _ _ _ _ _ _ _
 unfold LeavesIn;refine⟨.tuple #[va,vb],?_,_,rfl,h⟩;have e1:=kN (df:=[⟨.fn (.func f) cs.toArray,#[]⟩]) h1;have e2:=kN (df:=[⟨.fn (.func f) cs.toArray,#[]⟩]) h2;rw[zo,hr]; simp[e1,e2]
end
end Go.Inl
namespace Go.Inl
open Go Go.RowKit
section
variable {P : Program} {n : Nat} {df : List Deferred} {ro : Option Nat} {σ : Nat → Value} {w : World} {ops : Array Oper} {Q : Exit → Act → World → Prop} {rest : List Oper} {d : Option Tmp} {op : Op} {ty : TypeId} {p : String} {af : Array Edge}
 {R:Value→World→Prop} {E:World→Prop} {v0:Value} {l:List Oper} {fn:Func}
theorem fnS {f : FuncId} {c : Code} {ls : List Value} {u : FrameMode} {R : Ending → FrameMode → World → Prop} (hf : P.funcs[f]? = some fn) (hb : fn.body = some c) (hn : fn.ntmps = n) (hl : Nat.ble ls.length n = true)
 (h:∀(c₀:Frame) (cs:List Frame),c₀.mode=u→c.wpSIn (fen none) 0 P (bodyPostS P fn c₀ cs R) (act n [] (args ls)) (c₀::cs) w):CallsDIn (fen none) 0 P f ls.toArray u w R:=by
 refine callsDIn_of_wpSIn hf hb trivial fun c₀ cs hu=>?_
 have e:({ tmps:=ls.toArray++Array.replicate (fn.ntmps - ls.toArray.size) undef,defers:=[] }:Act)=act n [] (args ls):=by rw[hn]; exact yl ls n (vB hl)
 rw[e];exact h c₀ cs hu
theorem wpS_rec {ops : Array Oper} {i : Nat} {rest : List Nat} {o : Oper} {a : Act} {cs cs' : List Frame} {v : Value} {QS : Exit → Act → List Frame → World → Prop} (ho : ops[i]? = some o) (hw : Region.wanted o (yielded ops a.tmps) = true) (h1 : (execOp a.eval o).run P w = .ok .recover w)
 (hr:recoverD cs=some (v,cs')∨(recoverD cs=none∧v = .nilIface∧cs'=cs)) (k:wpOpsSIn (fen none) 0 P ops QS rest (a.put o.dst v) cs' w):wpOpsSIn (fen none) 0 P ops QS (i::rest) a cs w:=by
 rcases hr with hr | ⟨hr,rfl,rfl⟩
 · simp only [wpOpsSIn, ho, hw, h1, hr, if_true]
   exact⟨fun _ _=>trivial,k⟩
 · simp only [wpOpsSIn, ho, hw, h1, hr, if_true]
   exact⟨fun _ _=>trivial,k⟩
theorem wpS_val {ops : Array Oper} {i : Nat} {rest : List Nat} {o : Oper} {a : Act} {cs : List Frame} {v : Value} {QS : Exit → Act → List Frame → World → Prop} (ho : ops[i]? = some o) (hw : Region.wanted o (yielded ops a.tmps) = true) (h1 : (execOp a.eval o).run P w = .ok (.value v) w)
 (k:wpOpsSIn (fen none) 0 P ops QS rest (a.put o.dst v) cs w):wpOpsSIn (fen none) 0 P ops QS (i::rest) a cs w:=by
 simp only[wpOpsSIn,ho,hw,h1,if_true];exact⟨fun _ _=>trivial,k⟩
theorem rec_reg {id t1 t2 : Nat} {ty1 ty2 : TypeId} {p1 p2 : String} {a1 a2 : Array Edge} {cs cs' : List Frame} {v : Value} {QS : Exit → Act → List Frame → World → Prop} (hv : ev n (updO σ (some t1) v) (.tmp t1) = v) (hr : recoverD cs = some (v, cs') ∨ (recoverD cs = none ∧ v = .nilIface ∧ cs' = cs)) (k : QS .normal (act n [] (updO (updO σ (some t1) v) (some t2) v)) cs' w) :
 (Code.region id #[⟨some t1,.call { callee:=.builtin .recover,args := #[],argTypes := #[] },ty1,p1,a1,none⟩,⟨some t2,.assign (.tmp t1),ty2,p2,a2,none⟩] false).wpSIn (fen none) 0 P QS (act n [] σ) cs w:=by
 refine wpSIn_region ?_;have h2:(execOp (act n [] (updO σ (some t1) v)).eval ⟨some t2,.assign (.tmp t1),ty2,p2,a2,none⟩).run P w = .ok (.value v) w:=by
  rw[jw];have:=qr (P:=P) (S:=fun _=>True) (ty:=ty2) hv w trivial;rw[← ka (ev n (updO σ (some t1) v)) (some t2) (.assign (.tmp t1)) ty2 p2 a2 none]at this;exact this
 refine wpS_rec (i:=0) (rest:=[1]) rfl (by simp[Region.wanted]) rfl hr ?_;rw[js];refine wpS_val (i:=1) (rest:=[]) rfl (by simp[Region.wanted]) h2 ?_;rw[js];exact k
end
end Go.Inl
namespace Go.Inl
open Go Go.RowKit
section
variable {P:Program} {n:Nat} {σ:Nat→Value} {w:World} {ty:TypeId} {X:List Nat} {w0:World} {I0 I:Imm} {L:List Res}
end
end Go.Inl
namespace Go.Inl
open Go Go.RowKit
section
variable {P:Program} {ops:Array Oper} {Q:Exit→Act→World→Prop} {PE:List PanicEntry→World→Prop}
variable {n:Nat} {df:List Deferred} {ro:Option Nat} {σ:Nat→Value} {w:World} {X:List Nat} {w0:World} {I0 I:Imm} {L:List Res} {l:List Oper} {id:Nat}
variable {i:Nat} {r:Od} {S:World→Prop} {d:Option Tmp} {op:Op} {ty:TypeId} {p:String} {af:Array Edge} {v:Value} {R:Value→World→Prop}
end
end Go.Inl
namespace Go.Inl
open Go Go.RowKit
section
variable {P:Program} {n:Nat} {σ:Nat→Value} {S:World→Prop} {t t' ty:TypeId} {x y:Operand} {k k':IntKind} {a b c:Int}
end
end Go.Inl
namespace Go.Inl
open Go Go.RowKit Go.Sort
theorem ints_flat (l:List Int):flat intC l=l.map (Value.int .i64):=by
 unfold flat;induction l with
 | nil=>rfl
 | cons x l ih=>rw[List.flatMap_cons,xS,ih]; rfl
theorem ints_len (l:List Int):(flat intC l).length=l.length:=by rw[ints_flat,xM]
section
variable {X:List Nat} {w0 w:World} {I0 I:Imm} {L:List Res}
end
section
variable {P:Program} {f:FuncId} {X:List Nat} {w0 w:World} {I0 I:Imm} {L:List Res}
end
section
variable {P:Program} {n:Nat} {σ:Nat→Value} {ty:TypeId} {x y:Operand} {X:List Nat} {w0 w:World} {I0 I:Imm} {L:List Res}
end
end Go.Inl
namespace Go.Inl
open Go Go.RowKit
section
variable {P:Program} {n:Nat} {σ:Nat→Value} {w:World} {ty:TypeId} {X:List Nat} {w0:World} {I0 I:Imm} {L:List Res}
end
end Go.Inl
namespace Go.Inl
open Go
theorem flatten_at {sz : Nat} {cs : List Value} {v : Value} {j : Nat} : ∀ {css : List (List Value)} {i : Nat}, (∀ c ∈ css, c.length = sz) → css[i]? = some cs → cs[j]? = some v → css.flatten[i * sz + j]? = some v
 | [],i,_,h,_=>by simp at h
 | c::css,0,hcl,h,hv=>by
   simp only[List.getElem?_cons_zero,Option.some.injEq]at h;subst h;have hj:=(vY.1 hv).1;rw[Nat.zero_mul,xV,List.flatten_cons,xg hj];exact hv
 | c::css,i+1,hcl,h,hv=>by
   have hc:=hcl c (List.mem_cons_self ..);rw[List.flatten_cons,xx (by rw[hc,Nat.add_mul]; omega),hc,show(i+1)*sz+j - sz=i*sz+j by rw[Nat.add_mul]; omega];exact flatten_at (fun c hc=>hcl c (List.mem_cons_of_mem _ hc)) (by simpa using h) hv
section
variable {P:Program} {n:Nat} {σ:Nat→Value} {ty t:TypeId} {x y:Operand} {X:List Nat} {w0 w:World} {I0 I:Imm} {L:List Res}
theorem g_ldRowC (k : Nat) {u : Value} {E : TypeId} {i sz m : Nat} {css : List (List Value)} {cs : List Value} (hcl : ∀ c ∈ css, c.length = sz) (hc : css[i]? = some cs) (hm : ∀ w, (sizeOf t).run P w = .ok sz w) (ha : ∀ w, (isAgg t).run P w = .ok true w)
 (hL:L[k]? = some (.row u E sz m css.flatten)) (hx:ev n σ x = .pointer (some (elA u i sz 0))):Gives P (ev n σ) (KS X w0 I0 I L) (.load t x) ty (.agg cs.toArray) :=
 g_ldR k hm ha hL hx (fun j v hv=>by rw[Nat.add_zero]; exact flatten_at hcl hc hv) (hcl cs (vI hc))
theorem kW (k : Nat) {sz : Nat} {css : List (List Value)} {a : Option Addr} {N cap i : Nat} {E : TypeId} {cs0 : List Value} (hcl : ∀ c ∈ css, c.length = sz) (hS : St X w0 I0 I w L) (hN : N = css.length) (h0 : css[i]? = some cs0) (hm : ∀ w, (sizeOf t).run P w = .ok sz w)
 (hL:L[k]? = some (.row (.slice a N cap) E sz N css.flatten)) (hx:ev n σ x = .pointer (some (elA (.slice a N cap) i sz 0))) {vs:List Value} (hy:ev n σ y = .agg vs.toArray) (hlen:vs.length=sz) (h1:vs.all (·.oneCell')=true) :
 Does P (ev n σ) (.store t x y) ty w fun u w'=>u=undef∧St X w0 I0 I w' (L.set k (.row (.slice a N cap) E sz N (css.set i vs).flatten)):=by
 let xs:List {c:List Value // c.length=sz}:=css.attachWith (fun c=>c.length=sz) hcl
 have hmap:xs.map Subtype.val=css:=List.attachWith_map_subtype_val ..;have hfl:flat Subtype.val xs=css.flatten:=by
  unfold flat; rw[List.flatMap_def,hmap]
 have hxl:xs.length=css.length:=by rw[← hmap,xM]
 have hx0:xs[i]? = some ⟨cs0,hcl cs0 (vI h0)⟩:=by
  have hi:=(vY.1 h0).1;have e:(xs.map Subtype.val)[i]? = some cs0:=by rw[hmap]; exact h0
  rw[xN]at e;obtain⟨z,hz,e⟩:=Option.map_eq_some_iff.1 e;rw[hz]; subst e; rfl
 have hL':L[k]? = some (.row (.slice a N cap) E sz N (flat Subtype.val xs)):=by rw[hfl]; exact hL
 refine(jn k (enc:=Subtype.val) (fun c=>c.2) (⟨vs,hlen⟩:{c:List Value // c.length=sz}) hS (by rw[hxl]; exact hN) hx0 hm hL' hx hy (vs:=vs) (by simp[Value.cells]) hlen h1 (Nat.ble_eq_true_of_le (by omega)) (zV _ _ ((hcl cs0 (vI h0)).trans hlen.symm))).mono ?_;rintro u w' ⟨rfl,h⟩;refine⟨rfl,?_⟩;have e:flat Subtype.val (xs.set i ⟨vs,hlen⟩)=(css.set i vs).flatten:=by
  unfold flat; rw[List.flatMap_def,List.map_set,hmap]
 rwa [e]at h
end
end Go.Inl
