/- Slices that stand still, known with all of their block, and taken back as own memory; slices that were appended to as blocks. Conditions: none. Guards that are known to be shut; append of slices whose elements hold slices. Conditions: none. Maps from numbers to numbers: made, written, asked. Conditions: none. A constant string as bytes that stand still; maps made known to frozen memory. Conditions: none. Arrays as blocks: a cell stored, sliced, indexed; an array and one cell built. Conditions: none. Maps from bytes to pointers: made, written, asked. Conditions: none. Calls that turn two resources of their caller. Conditions: none. A function that defers a call which finds nothing to recover. Conditions: it does not panic. Calls that may panic, functions that recover. Conditions: none. append of n zero values to a literal. Conditions: none. A region that draws its order and in which a call may panic. Conditions: none. Operations on bits of integers, cells of arrays that are values, calls of bound methods. Conditions: none. -/
import Derived.Test.YtdgnojckkjfhfaaDoorKCore2
import Derived.Laws.IdiomStrings
import Derived.RecoverIn
import Derived.Laws.Cover3
namespace Go.Inl
open Go Go.RowKit

section
variable {X : List Nat} {w0 w w' : World} {I0 I J : Imm} {L : List Res}

/-- A slice that stands still, with its whole block. -/
def RowI (I : Imm) (v : Value) (E : TypeId) (sz n : Nat) (xs : List Value) : Prop :=
  xs.length = n * sz ∧ ((v = .slice none 0 0 ∧ n = 0) ∨ ∃ g cap cur, v = .slice (some ⟨g, 0, none⟩) n cap ∧ I g = some (.cells cur E (0, 0)) ∧ n ≤ cap ∧ cap ≤ maxLen ∧ cur.size = cap * sz ∧ cur.toList.take xs.length = xs)
theorem RowI.mono {v : Value} {E : TypeId} {sz n : Nat} {xs : List Value} (h : RowI I v E sz n xs) (hs : Sub I J) : RowI J v E sz n xs := by
  obtain ⟨h1, h | ⟨g, cap, cur, h2, h3, h4⟩⟩ := h
  · exact ⟨h1, .inl h⟩
  · exact ⟨h1, .inr ⟨g, cap, cur, h2, hs _ _ h3, h4⟩⟩
theorem RowI.flat {α : Type} {enc : α → List Value} {sz n : Nat} {v : Value} {E : TypeId} {xs : List α} (he : ∀ x, (enc x).length = sz) (h : RowI I v E sz n (flat enc xs)) (hn : n = xs.length) : RFl I sz enc v xs := by
  obtain ⟨h1, ⟨rfl, h0⟩ | ⟨g, cap, cur, rfl, h3, h4, h5, _, h7⟩⟩ := h
  · have hx := List.length_eq_zero_iff.1 (hn.symm.trans h0)
    exact .inl ⟨⟨none, 0, rfl, by simp, fun _ => rfl⟩, hx⟩
  · subst hn
    refine RFl.of_block he h3 (fun j v hj => ?_) h4 h5
    rw [← h7, List.getElem?_take] at hj
    split at hj
    · simpa using hj
    · cases hj
theorem RowI.own_some {v : Value} {E : TypeId} {sz n : Nat} {xs : List Value} (h : RowI I v E sz n xs) {b : Nat} (hb : v.ownBlock = some b) : ∃ o, I b = some o := by
  obtain ⟨_, ⟨rfl, _⟩ | ⟨g, cap, cur, rfl, h3, _⟩⟩ := h
  · simp [Value.ownBlock] at hb
  · simp only [Value.ownBlock, Option.some.injEq] at hb; subst hb; exact ⟨_, h3⟩
/-- An own slice stands still from here on; its block is new to what stood still before. -/
theorem St.freezeRowI {sz m : Nat} {E : TypeId} {u : Value} {xs : List Value} (h : St [] w0 I0 I w (.row u E sz m xs :: L)) :
    ∃ I', St [] w0 I0 I' w L ∧ Sub I I' ∧ RowI I' u E sz m xs ∧ (∀ b, u.ownBlock = some b → I b = none ∧ w0.heap.size ≤ b) := by
  have hh : w.ownsRow 0 E sz u m xs := h.hold (.row u E sz m xs) (by simp)
  have hn := h.new (.row u E sz m xs) (by simp)
  obtain ⟨h1, h2, h3⟩ := h.freeze
  refine ⟨_, h1, h2, ⟨hh.1, ?_⟩, fun b hb => ?_⟩
  · rcases hh.2 with h | ⟨g, cap, cur, rfl, _, hg, h4, h5, h6, h7⟩
    · exact .inl h
    · exact .inr ⟨g, cap, cur, rfl, by rw [h3 g (by simp [Res.foot, Value.ownBlock]), hg], h4, h5, h6, by rw [hh.1]; exact h7⟩
  · obtain ⟨k1, k2⟩ := hn b (by simp [Res.foot, hb])
    exact ⟨k1, k2.resolve_right (by simp)⟩
/-- Without a block. -/
def Imm.del (I : Imm) (b : Nat) : Imm := fun c => if c = b then none else I c
theorem Imm.del_sub (I : Imm) (b : Nat) : Sub (I.del b) I := fun c o h => by unfold Imm.del at h; split at h; cases h; exact h
theorem Imm.sub_del {b : Nat} (h : Sub J I) (hb : J b = none) : Sub J (I.del b) := fun c o hc => by
  unfold Imm.del
  rw [if_neg (fun e => by subst e; rw [hb] at hc; cases hc)]
  exact h c o hc
/-- A slice that stands still is own memory again: what was known of its block is given up. -/
theorem St.thaw {sz n : Nat} {E : TypeId} {v : Value} {xs : List Value} (h : St [] w0 I0 I w L) (hr : RowI I v E sz n xs) (hn : ∀ b, v.ownBlock = some b → I0 b = none ∧ w0.heap.size ≤ b) :
    ∃ J, St [] w0 I0 J w (.row v E sz n xs :: L) ∧ Sub J I ∧ (∀ b, v.ownBlock ≠ some b → J b = I b) := by
  obtain ⟨hl, ⟨rfl, h0⟩ | ⟨g, cap, cur, rfl, h3, h4, h5, h6, h7⟩⟩ := hr
  · subst h0
    have := List.length_eq_zero_iff.1 (by simpa using hl)
    subst this
    exact ⟨I, h.nilRow E sz, Sub.refl _, fun _ _ => rfl⟩
  · obtain ⟨k1, k2⟩ := hn g rfl
    have hgL : ∀ r ∈ L, g ∉ r.foot := fun r hr hg => by have := (h.new r hr g hg).1; rw [h3] at this; cases this
    refine ⟨I.del g, ⟨h.os, h.tape, h.output, h.size, h.block, fun b o hb => h.imm b o (Imm.del_sub I g b o hb), ?_, Imm.sub_del h.ext k1, ?_, ?_, ?_⟩, Imm.del_sub I g, fun b hb => by
      unfold Imm.del
      rw [if_neg (fun e => hb (by rw [e]; rfl))]⟩
    · intro b hb
      unfold Imm.del
      rw [if_neg (by omega)]; exact h.old b hb
    · intro r hr
      rcases List.mem_cons.1 hr with rfl | hr
      · exact ⟨hl, .inr ⟨g, cap, cur, rfl, Nat.zero_le _, h.imm _ _ h3, h4, h5, h6, by rw [← hl]; exact h7⟩⟩
      · exact h.hold r hr
    · intro r hr b hb
      rcases List.mem_cons.1 hr with rfl | hr
      · simp only [Res.foot, Value.ownBlock, Option.toList_some, List.mem_singleton] at hb
        subst hb
        exact ⟨by simp [Imm.del], .inl k2⟩
      · refine ⟨?_, (h.new r hr b hb).2⟩
        unfold Imm.del
        split
        · rfl
        · exact (h.new r hr b hb).1
    · simp only [List.flatMap_cons, Res.foot, Value.ownBlock, Option.toList_some, List.singleton_append, List.nodup_cons]
      refine ⟨fun hm => ?_, h.nodup⟩
      obtain ⟨r, hr, hb⟩ := List.mem_flatMap.1 hm
      exact hgL r hr hb

/-- What is known of a slice, in another memory that has the same of its block. -/
theorem RFl.at_block {α : Type} {sz : Nat} {enc : α → List Value} {v : Value} {xs : List α} (h : RFl I sz enc v xs) (hJ : ∀ b, v.ownBlock = some b → J b = I b) : RFl J sz enc v xs := by
  rcases h with h | ⟨b, o, cap, h1, h2, h3, h4⟩
  · exact .inl h
  · refine .inr ⟨b, o, cap, h1, h2, h3, fun i x hx => ?_⟩
    obtain ⟨cs, c1, ⟨c2, c, T, fz, c3, c4⟩, c5⟩ := h4 i x hx
    refine ⟨cs, c1, ⟨c2, c, T, fz, ?_, c4⟩, c5⟩
    rw [hJ b (by rw [h1]; rfl)]; exact c3
theorem RowI.at_block {sz n : Nat} {E : TypeId} {v : Value} {xs : List Value} (h : RowI I v E sz n xs) (hJ : ∀ b, v.ownBlock = some b → J b = I b) : RowI J v E sz n xs := by
  obtain ⟨h1, h | ⟨g, cap, cur, h2, h3, h4⟩⟩ := h
  · exact ⟨h1, .inl h⟩
  · exact ⟨h1, .inr ⟨g, cap, cur, h2, by rw [hJ g (by rw [h2]; rfl)]; exact h3, h4⟩⟩
/-- A slice that was appended to, as a block. -/
theorem St.rowCel (k : Nat) {sz n c : Nat} {E : TypeId} {a : Option Addr} {xs : List Value} (h : St X w0 I0 I w L) (hk : L[k]? = some (.row (.slice a n c) E sz n xs)) (hn : 0 < n) :
    ∃ b rest, a = some ⟨b, 0, none⟩ ∧ n ≤ c ∧ c ≤ maxLen ∧ (xs ++ rest).length = c * sz ∧ xs.length = n * sz ∧ St X w0 I0 I w (L.set k (.cel b E (xs ++ rest))) := by
  have hh : w.ownsRow 0 E sz (.slice a n c) n xs := h.hold _ (List.mem_of_getElem? hk)
  obtain ⟨hl, h0 | ⟨g, cap, cur, hv, _, hg, h4, h5, h6, h7⟩⟩ := hh
  · obtain ⟨_, h0⟩ := h0; omega
  · simp only [Value.slice.injEq] at hv
    obtain ⟨rfl, _, rfl⟩ := hv
    have e : xs ++ cur.toList.drop xs.length = cur.toList := by
      conv => lhs; lhs; rw [← h7, ← hl]
      exact List.take_append_drop _ _
    refine ⟨g, cur.toList.drop xs.length, rfl, h4, h5, by rw [e]; simpa using h6, hl, ?_⟩
    rw [e]
    refine h.change hk (r' := .cel g E cur.toList) rfl rfl rfl (Nat.le_refl _) (fun _ _ _ => rfl) (fun c hc => .inl (by simpa [Res.foot, Value.ownBlock] using hc)) (by simp [Res.foot]) ?_
    show w.heap[g]? = _
    simpa using hg
theorem St.celRow (k : Nat) {sz n c b : Nat} {E : TypeId} {xs rest : List Value} (h : St X w0 I0 I w L) (hk : L[k]? = some (.cel b E (xs ++ rest))) (hl : xs.length = n * sz) (hn : n ≤ c) (hc : c ≤ maxLen) (hr : (xs ++ rest).length = c * sz) :
    St X w0 I0 I w (L.set k (.row (.slice (some ⟨b, 0, none⟩) n c) E sz n xs)) := by
  have hh : w.heap[b]? = some (.cells (xs ++ rest).toArray E (0, 0)) := h.hold _ (List.mem_of_getElem? hk)
  refine h.change hk (r' := .row (.slice (some ⟨b, 0, none⟩) n c) E sz n xs) rfl rfl rfl (Nat.le_refl _) (fun _ _ _ => rfl) (fun d hd => .inl (by simpa [Res.foot, Value.ownBlock] using hd)) (by simp [Res.foot, Value.ownBlock]) ?_
  exact ⟨hl, .inr ⟨b, c, _, rfl, Nat.zero_le _, hh, hn, hc, by simpa using hr, by rw [← hl]; simp⟩⟩
end

section
variable {P : Program} {n : Nat} {σ : Nat → Value} {ty t : TypeId} {x y : Operand} {X : List Nat} {w0 w : World} {I0 I : Imm} {L : List Res}
end

/-- One element of a flat block turns. -/
theorem putL_self : ∀ (us vs : List Value), us.length = vs.length → putL us 0 vs = vs
  | [], [], _ => rfl
  | [], v :: vs, h => by simp at h
  | u :: us, [], h => by simp at h
  | u :: us, v :: vs, h => by
    show v :: putL us 0 vs = _
    rw [putL_self us vs (by simpa using h)]
/-- The block around one element. -/
theorem flat_focus {α : Type} {enc : α → List Value} {xs : List α} {i : Nat} {x : α} (rest : List Value) (h : xs[i]? = some x) : flat enc xs ++ rest = flat enc (xs.take i) ++ (enc x ++ (flat enc (xs.drop (i + 1)) ++ rest)) := by
  obtain ⟨hi, rfl⟩ := List.getElem?_eq_some_iff.1 h
  have e : flat enc xs = flat enc (xs.take i) ++ (enc xs[i] ++ flat enc (xs.drop (i + 1))) := by
    conv => lhs; rw [← List.take_append_drop i xs, List.drop_eq_getElem_cons hi]
    rw [flat_append]
    simp only [flat, List.flatMap_cons]
  rw [e]
  simp only [List.append_assoc]
theorem flat_unfocus {α : Type} {enc : α → List Value} {xs : List α} {i : Nat} (y : α) (rest : List Value) (hi : i < xs.length) : flat enc (xs.take i) ++ (enc y ++ (flat enc (xs.drop (i + 1)) ++ rest)) = flat enc (xs.set i y) ++ rest := by
  rw [flat_focus (xs := xs.set i y) (i := i) (x := y) rest (by simp [hi])]
  rw [List.take_set_of_le (Nat.le_refl i), List.drop_set_of_lt (by omega)]
section
variable {P : Program} {n : Nat} {σ : Nat → Value} {ty t : TypeId} {x y : Operand} {X : List Nat} {w0 w : World} {I0 I : Imm} {L : List Res}
/-- A part of an element of an own slice turns. -/
theorem d_storeRow (k : Nat) {α : Type} {enc : α → List Value} {sz : Nat} (he : ∀ x, (enc x).length = sz) {xs : List α} {a : Option Addr} {N cap i c m : Nat} {E : TypeId} {x0 : α} (x1 : α) (hS : St X w0 I0 I w L) (hN : N = xs.length) (h0 : xs[i]? = some x0) (hm : ∀ w, (sizeOf t).run P w = .ok m w)
    (hL : L[k]? = some (.row (.slice a N cap) E sz N (flat enc xs))) (hx : ev n σ x = .pointer (some (elA (.slice a N cap) i sz c))) {v : Value} (hy : ev n σ y = v) {vs : List Value} (hv : v.cells.toList = vs) (hlen : vs.length = m) (h1 : vs.all (·.oneCell') = true)
    (hl : Nat.ble (c + m) sz = true) (hc : putL (enc x0) c vs = enc x1) : Does P (ev n σ) (.store t x y) ty w fun u w' => u = undef ∧ St X w0 I0 I w' (L.set k (.row (.slice a N cap) E sz N (flat enc (xs.set i x1)))) := by
  have hi := (List.getElem?_eq_some_iff.1 h0).1
  have hl' : c + m ≤ sz := Nat.le_of_ble_eq_true hl
  obtain ⟨b, rest, rfl, hnc, hcm, hrl, hxl, hS2⟩ := hS.rowCel k hL (by omega)
  have hk := (List.getElem?_eq_some_iff.1 hL).1
  have hfo := flat_focus (enc := enc) rest h0
  rw [hfo] at hS2
  have hx' : ev n σ x = .pointer (some ⟨b, i * sz + c, none⟩) := by rw [hx]; simp [elA]
  have hpre : i * sz = (flat enc (xs.take i)).length := by rw [flat_length he, List.length_take, Nat.min_eq_left (by omega)]
  refine (d_storeF k (L := L.set k (.cel b E (flat enc (xs.take i) ++ (enc x0 ++ (flat enc (xs.drop (i + 1)) ++ rest))))) (row' := enc x1) hS2 hm (List.getElem?_set_self hk) hpre hx' hy hv hlen h1 (by rw [he]; omega) hc).mono ?_
  rintro u w' ⟨rfl, hS3⟩
  refine ⟨rfl, ?_⟩
  rw [List.set_set, flat_unfocus x1 rest hi] at hS3
  have hlen2 : (flat enc (xs.set i x1)).length = (flat enc xs).length := by rw [flat_length he, flat_length he, List.length_set]
  have hS4 := hS3.celRow k (n := N) (c := cap) (xs := flat enc (xs.set i x1)) (rest := rest) (List.getElem?_set_self hk) (by rw [hlen2, hxl]) hnc hcm (by rw [List.length_append, hlen2, ← List.length_append, hrl])
  rwa [List.set_set] at hS4
end
end Go.Inl

namespace Go.Inl
open Go Go.RowKit

section
variable {P : Program} {n : Nat} {df : List Deferred} {ro : Option Nat} {σ : Nat → Value} {w : World} {Q : Exit → Act → World → Prop} {rest l : List Oper} {d : Option Tmp} {op : Op} {ty : TypeId} {p : String} {af : Array Edge}
  {X : List Nat} {w0 : World} {I0 I : Imm} {L : List Res} {v : Value} {j t i : Nat} {g g' : Bool} {r : Od} {S : World → Prop}
theorem qsf (hj' : dstAt l j = some t) (hv : ev n σ (.tmp t) = .bool g') (hne : g' = !g) (k : OL P l Q n df rest (updO σ d undef) w) :
    OL P l Q n df (⟨d, op, ty, p, af, some (j, g)⟩ :: rest) σ w := ⟨wl_gf (dstAt_arr hj') hv hne k.run⟩
theorem qsu (hj' : dstAt l j = some t) (hv : ev n σ (.tmp t) = undef) (k : OL P l Q n df rest (updO σ d undef) w) :
    OL P l Q n df (⟨d, op, ty, p, af, some (j, g)⟩ :: rest) σ w := ⟨by
  unfold wpL
  rw [if_neg (by rw [wanted_undef (dstAt_arr hj') hv]; exact Bool.false_ne_true), act_put]
  exact k.run⟩
theorem sgf (hi : l[i]? = some ⟨d, op, ty, p, af, some (j, g)⟩) (hj' : dstAt l j = some t) (hv : ev n σ (.tmp t) = .bool g') (hne : g' = !g) (hS : St X w0 I0 I w L) (k : OS P l Q n df r (KS X w0 I0 I L) (updO σ d undef) w) :
    OS P l Q n df (.cons i .eff r) (KS X w0 I0 I L) σ w := ⟨by
  unfold WS opR
  rw [show l.toArray[i]? = some _ by simpa using hi]
  dsimp only
  rw [if_neg (by rw [wanted_f (dstAt_lst hj') hv hne]; exact Bool.false_ne_true)]
  exact ⟨_, _, act_put _ _ _ _ _, fun _ h => h, hS, k.run⟩⟩
end
/-- The elements of a slice by their cells. -/
theorem RSl.cells {α : Type} {I : Imm} {sz : Nat} {R : List Value → α → Prop} {u : Value} {ys : List α} (h : RSl I sz R u ys) (h1 : ∀ cs x, R cs x → cs.all (·.oneCell') = true) :
    ∃ css : List {cs : List Value // cs.length = sz ∧ cs.all (·.oneCell') = true}, css.length = ys.length ∧ All2 R (css.map (·.1)) ys ∧ RFl I sz (·.1) u css := by
  rcases h with ⟨h, rfl⟩ | ⟨b, o, cap, rfl, h2, h3, h4⟩
  · exact ⟨[], rfl, All2.nil R, .inl ⟨h, rfl⟩⟩
  · have hall : ∀ (zs : List α) (o : Nat), (∀ i x, zs[i]? = some x → ∃ cs, cs.length = sz ∧ atI I ⟨b, o + i * sz, none⟩ cs ∧ R cs x) →
        ∃ css : List {cs : List Value // cs.length = sz ∧ cs.all (·.oneCell') = true}, css.length = zs.length ∧ All2 R (css.map (·.1)) zs ∧ ∀ i x, css[i]? = some x → ∃ cs, cs.length = sz ∧ atI I ⟨b, o + i * sz, none⟩ cs ∧ cs = x.1 := by
      intro zs
      induction zs with
      | nil => intro o _; exact ⟨[], rfl, All2.nil R, fun i x hx => by simp at hx⟩
      | cons z zs ih =>
        intro o hz
        obtain ⟨cs, c1, c2, c3⟩ := hz 0 z rfl
        obtain ⟨css, d1, d2, d3⟩ := ih (o + sz) (fun i x hx => by
          obtain ⟨c, e1, e2, e3⟩ := hz (i + 1) x (by simpa using hx)
          exact ⟨c, e1, by rw [Nat.add_mul, Nat.one_mul, Nat.add_comm (i * sz) sz, ← Nat.add_assoc] at e2; exact e2, e3⟩)
        refine ⟨⟨cs, c1, h1 _ _ c3⟩ :: css, by simp [d1], All2.cons c3 d2, fun i x hx => ?_⟩
        cases i with
        | zero => simp at hx; subst hx; exact ⟨cs, c1, by simpa using c2, rfl⟩
        | succ i =>
          obtain ⟨c, e1, e2, e3⟩ := d3 i x (by simpa using hx)
          exact ⟨c, e1, by rw [Nat.add_mul, Nat.one_mul, Nat.add_comm (i * sz) sz, ← Nat.add_assoc]; exact e2, e3⟩
    obtain ⟨css, d1, d2, d3⟩ := hall ys o h4
    exact ⟨css, d1, d2, .inr ⟨b, o, cap, by rw [d1], by omega, h3, d3⟩⟩
theorem All2.append {α : Type} {R : List Value → α → Prop} : ∀ {a : List (List Value)} {x : List α} {b : List (List Value)} {y : List α}, All2 R a x → All2 R b y → All2 R (a ++ b) (x ++ y)
  | [], [], b, y, _, h => h
  | [], _ :: _, _, _, h, _ => by simp [All2] at h
  | _ :: _, [], _, _, h, _ => by simp [All2] at h
  | c :: a, z :: x, b, y, h, k => All2.cons (h.2 0 c z rfl rfl) (All2.append ⟨by simpa using h.1, fun i c' z' hc hz => h.2 (i + 1) c' z' (by simpa using hc) (by simpa using hz)⟩ k)
theorem ROp.one {I : Imm} (cs : List Value) (x : OpL) (h : ROp I cs x) : cs.all (·.oneCell') = true := by
  obtain ⟨ad, m, cap, rfl, _⟩ := h; rfl
end Go.Inl

namespace Go.Inl
open Go Go.RowKit
theorem getMap {P : Program} {w : World} {r : Nat} {es : Array MapEntry} {c : Nat} (hb : w.heap[r]? = some (.map es c)) : (getObj r).run P w = .ok (.map es c) w := by
  simp [getObj, Sem.run, hb]
theorem setMap {P : Program} {w : World} {r : Nat} {es : Array MapEntry} {c : Nat} (o : Obj) (hb : w.heap[r]? = some (.map es c)) : (setObj r o).run P w = .ok () { w with heap := w.heap.setIfInBounds r o } := by
  simp [setObj, Sem.run, hb]
section
variable {P : Program} {n : Nat} {σ : Nat → Value} {ty : TypeId} {X : List Nat} {w0 w : World} {I0 I : Imm} {L : List Res} {t ky el : TypeId} {x y z : Operand} {r : Nat} {l : List (Int × Int)} {k v : Int}
end
end Go.Inl

namespace Go.Inl
open Go Go.RowKit
section
variable {P : Program} {n : Nat} {σ : Nat → Value} {ty : TypeId} {w0 w : World} {I0 I : Imm} {L : List Res} {t t' e : TypeId} {x : Operand}
/-- An object of its own is read only from here on. -/
theorem St.freezeO {b : Nat} {o : Obj} (h : St [] w0 I0 I w (.obj b o :: L)) : ∃ I', St [] w0 I0 I' w L ∧ Sub I I' ∧ I' b = some o := by
  obtain ⟨h1, h2, h3⟩ := h.freeze
  exact ⟨_, h1, h2, (h3 b (List.mem_singleton.2 rfl)).trans (h.hold _ (List.mem_cons_self ..))⟩
end
end Go.Inl

namespace Go.Inl
open Go Go.RowKit
def u32C (b : Int) : List Value := [.int .u32 b]
def u32s (c : List Int) : List Value := c.map (Value.int .u32)
theorem u32s_len (c : List Int) : (u32s c).length = c.length := List.length_map _
theorem u32s_set (c : List Int) (i : Nat) (v : Int) : (u32s c).set i (.int .u32 v) = u32s (c.set i v) := by unfold u32s; rw [List.map_set]
theorem u32s_at {c : List Int} {i : Nat} {v : Int} (h : c[i]? = some v) : (u32s c)[i]? = some (.int .u32 v) := by unfold u32s; rw [List.getElem?_map, h]; rfl
theorem u32s_one (c : List Int) : (u32s c).all (·.oneCell') = true := by rw [List.all_eq_true]; intro v hv; obtain ⟨x, _, rfl⟩ := List.mem_map.1 hv; rfl
section
variable {P : Program} {n : Nat} {σ : Nat → Value} {ty t : TypeId} {X : List Nat} {w0 w : World} {I0 I : Imm} {L : List Res} {x y : Operand}
/-- One cell of an own block is stored into. -/
theorem d_setCel (k : Nat) {b o : Nat} {T : TypeId} {cs : List Value} {v : Value} (hS : St X w0 I0 I w L) (hm : ∀ w, (sizeOf t).run P w = .ok 1 w) (hL : L[k]? = some (.cel b T cs)) (ho : o < cs.length)
    (hx : ev n σ x = .pointer (some ⟨b, o, none⟩)) (hy : ev n σ y = v) (hv : v.cells.toList = [v]) (h1 : v.oneCell' = true) : Does P (ev n σ) (.store t x y) ty w fun u w' => u = undef ∧ St X w0 I0 I w' (L.set k (.cel b T (cs.set o v))) := by
  have e : cs = cs.take o ++ ([cs[o]] ++ cs.drop (o + 1)) := by
    rw [List.singleton_append, ← List.drop_eq_getElem_cons ho, List.take_append_drop]
  have e2 : cs.set o v = cs.take o ++ ([v] ++ cs.drop (o + 1)) := by
    rw [List.set_eq_take_append_cons_drop, if_pos ho]; rfl
  rw [e] at hL
  rw [e2]
  refine d_storeF (k := k) (c := 0) (row' := [v]) hS hm hL (by rw [List.length_take]; omega) hx hy hv rfl (by simp [h1]) (by simp) rfl
/-- A cell of an array that is a value. -/
theorem g_indexAgg {S : World → Prop} {e : TypeId} {N : Nat} {K : IntKind} {i : Int} {cs : List Value} {v : Value} (hT : P.underlying t = some (.array N e)) (hs : ∀ w, (sizeOf e).run P w = .ok 1 w) (ha : ∀ w, (isAgg e).run P w = .ok false w)
    (hx : ev n σ x = .agg cs.toArray) (hi : ev n σ y = .int K i) (h0 : 0 ≤ i) (h1 : i < N) (hv : cs[i.toNat]? = some v) : Gives P (ev n σ) S (.index t x y) ty v := fun w _ => by
  simp [execOp, Instr.index, Sem.run_bind, run_underlying hT, hx, hi, asIntOf, h0, h1, hs, part, ha, hv]
end
end Go.Inl

namespace Go.Inl
open Go Go.RowKit
def ptrO : Option Nat → Value
  | some c => .pointer (some ⟨c, 0, none⟩)
  | none => .pointer none
def entLB : Nat → List (Int × Nat) → List MapEntry
  | _, [] => []
  | i, x :: r => { key := .int .u8 x.1, val := .pointer (some ⟨x.2, 0, none⟩), born := i } :: entLB (i + 1) r
def mapOB (l : List (Int × Nat)) : Obj := .map (entLB 0 l).toArray l.length
def lookIB : List (Int × Nat) → Int → Option Nat
  | [], _ => none
  | x :: r, k => if k = x.1 then some x.2 else lookIB r k
theorem entL_snocB : ∀ (l : List (Int × Nat)) (b : Nat) (x : Int × Nat), entLB b (l ++ [x]) = entLB b l ++ [{ key := .int .u8 x.1, val := .pointer (some ⟨x.2, 0, none⟩), born := b + l.length }]
  | [], b, x => rfl
  | y :: r, b, x => by
    show _ :: entLB (b + 1) (r ++ [x]) = _ :: (entLB (b + 1) r ++ _)
    rw [entL_snocB r (b + 1) x, List.length_cons, show b + 1 + r.length = b + (r.length + 1) by omega]
theorem lookI_snocB : ∀ (l : List (Int × Nat)) (k : Int) (v : Nat) (j : Int), lookIB (l ++ [(k, v)]) j = match lookIB l j with | some x => some x | none => if j = k then some v else none
  | [], k, v, j => rfl
  | y :: r, k, v, j => by
    show (if j = y.1 then some y.2 else lookIB (r ++ [(k, v)]) j) = _
    by_cases h : j = y.1
    · simp [lookIB, h]
    · simp only [lookIB, if_neg h]; exact lookI_snocB r k v j
theorem findNow_someB (k : Int) (v : Nat) : ∀ (l : List (Int × Nat)) (b i : Nat), lookIB l k = some v → ∃ j, Instr.findNow (.int .u8) (.int .u8 k) (entLB b l) i = some (some (j, .pointer (some ⟨v, 0, none⟩)))
  | [], b, i, h => by simp [lookIB] at h
  | x :: r, b, i, h => by
    unfold lookIB at h
    unfold entLB Instr.findNow
    by_cases e : k = x.1
    · rw [if_pos e] at h
      obtain rfl := Option.some.inj h
      exact ⟨i, by simp [Instr.sameNow, e]⟩
    · rw [if_neg e] at h
      obtain ⟨j, hj⟩ := findNow_someB k v r (b + 1) (i + 1) h
      exact ⟨j, by simpa [Instr.sameNow, beq_eq_false_iff_ne.2 e] using hj⟩
theorem findNow_noneB (k : Int) : ∀ (l : List (Int × Nat)) (b i : Nat), lookIB l k = none → Instr.findNow (.int .u8) (.int .u8 k) (entLB b l) i = some none
  | [], b, i, h => rfl
  | x :: r, b, i, h => by
    unfold lookIB at h
    unfold entLB Instr.findNow
    by_cases e : k = x.1
    · rw [if_pos e] at h; cases h
    · rw [if_neg e] at h
      simpa [Instr.sameNow, beq_eq_false_iff_ne.2 e] using findNow_noneB k r (b + 1) (i + 1) h
theorem checkIntB {P : Program} {w : World} {ky : TypeId} (hk : P.underlying ky = some (.int .u8)) (e : Bool) (n : Nat) (k : Int) : (Instr.checkKey e (n + 1) ky (.int .u8 k)).run P w = .ok () w := by
  unfold Instr.checkKey
  simp [Sem.run_bind, run_underlying hk, Result.andThen]
theorem findIntB {P : Program} {w : World} {ky : TypeId} {k : Value} {l : List MapEntry} {a : Option (Nat × Value)} (hd : P.underlying ky = some (.int .u8)) (h : Instr.findNow (.int .u8) k l 0 = some a) : (Instr.findKey ky k l).run P w = .ok a w := by
  simp [Instr.findKey, run_underlying hd, Result.andThen, h]
theorem run_lookIB {P : Program} {w : World} {t ky el : TypeId} {r : Nat} {l : List (Int × Nat)} {k : Int} (hT : P.underlying t = some (.map ky el)) (hk : P.underlying ky = some (.int .u8)) (hz : ∀ w, (zeroValue el).run P w = .ok (.pointer none) w) (hb : w.heap[r]? = some (mapOB l)) :
    (Instr.lookup t (.map (some r)) (.int .u8 k) true).run P w = .ok (.tuple #[ptrO (lookIB l k), .bool (lookIB l k).isSome]) w := by
  unfold Instr.lookup
  unfold mapOB at hb
  have hg := getMap (P := P) hb
  cases h : lookIB l k with
  | none =>
    have h2 := findIntB (P := P) (w := w) hk (findNow_noneB k l 0 0 h)
    simp [Sem.run_bind, run_underlying hT, Result.andThen, hg, checkIntB hk, h2, hz, ptrO]
  | some v =>
    obtain ⟨j, hj⟩ := findNow_someB k v l 0 0 h
    have h2 := findIntB (P := P) (w := w) hk hj
    simp [Sem.run_bind, run_underlying hT, Result.andThen, hg, checkIntB hk, h2, ptrO]
section
variable {P : Program} {n : Nat} {σ : Nat → Value} {ty : TypeId} {X : List Nat} {w0 w : World} {I0 I : Imm} {L : List Res} {t ky el : TypeId} {x y z : Operand} {r : Nat} {l : List (Int × Nat)} {k : Int} {v : Nat}
/-- Asking an own map. -/
theorem g_lookOB (i : Nat) (hT : P.underlying t = some (.map ky el)) (hk : P.underlying ky = some (.int .u8)) (hz : ∀ w, (zeroValue el).run P w = .ok (.pointer none) w) (hL : L[i]? = some (.obj r (mapOB l))) (hx : ev n σ x = .map (some r)) (hy : ev n σ y = .int .u8 k) :
    Gives P (ev n σ) (KS X w0 I0 I L) (.lookup t x y true) ty (.tuple #[ptrO (lookIB l k), .bool (lookIB l k).isSome]) := fun w hw => by
  have h := run_lookIB (P := P) (k := k) hT hk hz (show w.heap[r]? = some (mapOB l) from hw.hold _ (List.mem_of_getElem? hL))
  simp only [execOp, hx, hy, Sem.run_bind, h, Result.andThen_ok]; rfl
theorem d_makeMapB (hS : St X w0 I0 I w L) : Does P (ev n σ) (.makeMap t none) ty w fun v w' => ∃ b, v = .map (some b) ∧ St X w0 I0 I w' (.obj b (mapOB []) :: L) := by
  refine does_value (v := .map (some w.heap.size)) (w' := w.alloc (mapOB [])) ?_ ⟨_, rfl, hS.newObj (mapOB [])⟩
  simp [execOp, Instr.makeMap, newObj, mapOB, entLB, Sem.run]
theorem d_mapPutB (i : Nat) (hS : St X w0 I0 I w L) (hT : P.underlying t = some (.map ky el)) (hk : P.underlying ky = some (.int .u8)) (hL : L[i]? = some (.obj r (mapOB l))) (hx : ev n σ x = .map (some r)) (hy : ev n σ y = .int .u8 k) (hz : ev n σ z = .pointer (some ⟨v, 0, none⟩)) (hn : lookIB l k = none) :
    Does P (ev n σ) (.mapUpdate t x y z) ty w fun u w' => u = undef ∧ St X w0 I0 I w' (L.set i (.obj r (mapOB (l ++ [(k, v)])))) := by
  have hb : w.heap[r]? = some (mapOB l) := hS.hold _ (List.mem_of_getElem? hL)
  have h2 := findIntB (P := P) (w := w) hk (findNow_noneB k l 0 0 hn)
  have e : mapOB (l ++ [(k, v)]) = .map (entLB 0 l ++ [({ key := .int .u8 k, val := .pointer (some ⟨v, 0, none⟩), born := l.length } : MapEntry)]).toArray (l.length + 1) := by
    unfold mapOB
    rw [entL_snocB]; simp
  have hP := hS.putO (o' := mapOB (l ++ [(k, v)])) hL
  unfold mapOB at hb
  have hg := getMap (P := P) hb
  have hr : (Instr.mapUpdate t (.map (some r)) (.int .u8 k) (.pointer (some ⟨v, 0, none⟩))).run P w = .ok () (w.putObj r (mapOB (l ++ [(k, v)]))) := by
    unfold Instr.mapUpdate
    rw [e]
    have hs := setMap (P := P) (.map (entLB 0 l ++ [({ key := .int .u8 k, val := .pointer (some ⟨v, 0, none⟩), born := l.length } : MapEntry)]).toArray (l.length + 1)) hb
    simp [Sem.run_bind, run_underlying hT, Result.andThen, hg, checkIntB hk, h2, hs, World.putObj]
  refine does_skip (w' := w.putObj r (mapOB (l ++ [(k, v)]))) ?_ ⟨rfl, hP⟩
  simp only [execOp, hx, hy, hz, Sem.run_bind, hr, Result.andThen_ok]; rfl
end
end Go.Inl

namespace Go.Inl
open Go Go.RowKit
theorem mem2 {α : Type} {r r1 r2 : α} {L : List α} (h : r ∈ [r1, r2]) : r ∈ r1 :: r2 :: L := by
  simp only [List.mem_cons, List.not_mem_nil, or_false] at h
  rcases h with h | h
  · rw [h]; exact List.mem_cons_self ..
  · rw [h]; exact List.mem_cons_of_mem _ (List.mem_cons_self ..)
theorem St.ownL {X : List Nat} {w0 w : World} {I0 I : Imm} {r1 r2 : Res} {L : List Res} (h : St X w0 I0 I w (r1 :: r2 :: L)) : St (r1.foot ++ r2.foot) w I I w [r1, r2] :=
  ⟨rfl, rfl, rfl, Nat.le_refl _, fun _ _ _ => rfl, h.imm, fun _ _ => rfl, Inl.Sub.refl _, fun r hr => h.hold r (mem2 hr), fun r hr b hb => ⟨(h.new r (mem2 hr) b hb).1, .inr (by
    simp only [List.mem_cons, List.not_mem_nil, or_false] at hr
    rcases hr with rfl | rfl
    · exact List.mem_append_left _ hb
    · exact List.mem_append_right _ hb)⟩, by
    have := h.nodup
    simp only [List.flatMap_cons] at this
    rw [← List.append_assoc] at this
    simpa using (List.nodup_append.1 this).1⟩
theorem St.callL {X : List Nat} {w0 w w' : World} {I0 I I' : Imm} {r1 r2 : Res} {L A' : List Res} (h : St X w0 I0 I w (r1 :: r2 :: L)) (hE : St (r1.foot ++ r2.foot) w I I' w' A') : St X w0 I0 I' w' (A' ++ L) := by
  have hnd := h.nodup
  simp only [List.flatMap_cons] at hnd
  rw [← List.append_assoc] at hnd
  obtain ⟨n1, n2, n3⟩ := List.nodup_append.1 hnd
  have hfoot : ∀ b ∈ r1.foot ++ r2.foot, I b = none ∧ (w0.heap.size ≤ b ∨ b ∈ X) := fun b hb => by
    rcases List.mem_append.1 hb with hb | hb
    · exact h.new r1 (by simp) b hb
    · exact h.new r2 (by simp) b hb
  have hL : ∀ r ∈ L, ∀ b ∈ r.foot, b < w.heap.size ∧ b ∉ r1.foot ++ r2.foot := fun r hr b hb =>
    ⟨Res.foot_lt (h.hold r (by simp [hr])) b hb, fun hm => n3 b hm b (List.mem_flatMap.2 ⟨r, hr, hb⟩) rfl⟩
  refine ⟨hE.os.trans h.os, hE.tape.trans h.tape, hE.output.trans h.output, Nat.le_trans h.size hE.size, fun k hk hx => ?_, hE.imm, fun b hb => (hE.old b (Nat.lt_of_lt_of_le hb h.size)).trans (h.old b hb), Inl.Sub.trans h.ext hE.ext, fun r hr => ?_, fun r hr b hb => ?_, ?_⟩
  · refine (hE.block k (Nat.lt_of_lt_of_le hk h.size) fun hm => ?_).trans (h.block k hk hx)
    rcases (hfoot k hm).2 with h' | h'
    · omega
    · exact hx h'
  · rcases List.mem_append.1 hr with hr | hr
    · exact hE.hold r hr
    · exact Res.holds_of (h.hold r (by simp [hr])) fun b hb => hE.block b (hL r hr b hb).1 (hL r hr b hb).2
  · rcases List.mem_append.1 hr with hr | hr
    · obtain ⟨h1, h2⟩ := hE.new r hr b hb
      refine ⟨h1, ?_⟩
      rcases h2 with h2 | h2
      · exact .inl (Nat.le_trans h.size h2)
      · exact (hfoot b h2).2
    · have h1 := h.new r (by simp [hr]) b hb
      exact ⟨(hE.old b (hL r hr b hb).1).trans h1.1, h1.2⟩
  · rw [List.flatMap_append]
    refine List.nodup_append.2 ⟨hE.nodup, n2, fun a ha b hb e => ?_⟩
    subst e
    obtain ⟨r, hr, ha'⟩ := List.mem_flatMap.1 ha
    obtain ⟨r', hr', hb'⟩ := List.mem_flatMap.1 hb
    obtain ⟨h1, h2⟩ := hL r' hr' a hb'
    rcases (hE.new r hr a ha').2 with h | h
    · omega
    · exact h2 h
end Go.Inl

namespace Go.Inl
open Go Go.RowKit
theorem St.ownA {X : List Nat} {w0 w : World} {I0 I : Imm} (A : List Res) {L : List Res} (h : St X w0 I0 I w (A ++ L)) : St (A.flatMap Res.foot) w I I w A :=
  ⟨rfl, rfl, rfl, Nat.le_refl _, fun _ _ _ => rfl, h.imm, fun _ _ => rfl, Sub.refl _, fun r hr => h.hold r (List.mem_append_left _ hr),
   fun r hr b hb => ⟨(h.new r (List.mem_append_left _ hr) b hb).1, .inr (List.mem_flatMap.2 ⟨r, hr, hb⟩)⟩, by
    have := h.nodup
    rw [List.flatMap_append] at this
    exact (List.nodup_append.1 this).1⟩
/-- Behind a call that was handed some resources, and gives others back. -/
theorem St.callA {X : List Nat} {w0 w w' : World} {I0 I I' : Imm} (A : List Res) {L A' : List Res} (h : St X w0 I0 I w (A ++ L)) (hE : St (A.flatMap Res.foot) w I I' w' A') : St X w0 I0 I' w' (A' ++ L) := by
  have hnd := h.nodup
  rw [List.flatMap_append] at hnd
  obtain ⟨n1, n2, n3⟩ := List.nodup_append.1 hnd
  have hfoot : ∀ b ∈ A.flatMap Res.foot, I b = none ∧ (w0.heap.size ≤ b ∨ b ∈ X) := fun b hb => by
    obtain ⟨r, hr, hb⟩ := List.mem_flatMap.1 hb
    exact h.new r (List.mem_append_left _ hr) b hb
  have hL : ∀ r ∈ L, ∀ b ∈ r.foot, b < w.heap.size ∧ b ∉ A.flatMap Res.foot := fun r hr b hb =>
    ⟨Res.foot_lt (h.hold r (List.mem_append_right _ hr)) b hb, fun hm => n3 b hm b (List.mem_flatMap.2 ⟨r, hr, hb⟩) rfl⟩
  refine ⟨hE.os.trans h.os, hE.tape.trans h.tape, hE.output.trans h.output, Nat.le_trans h.size hE.size, fun k hk hx => ?_, hE.imm, fun b hb => (hE.old b (Nat.lt_of_lt_of_le hb h.size)).trans (h.old b hb), Sub.trans h.ext hE.ext, fun r hr => ?_, fun r hr b hb => ?_, ?_⟩
  · refine (hE.block k (Nat.lt_of_lt_of_le hk h.size) fun hm => ?_).trans (h.block k hk hx)
    rcases (hfoot k hm).2 with h' | h'
    · omega
    · exact hx h'
  · rcases List.mem_append.1 hr with hr | hr
    · exact hE.hold r hr
    · exact Res.holds_of (h.hold r (List.mem_append_right _ hr)) fun b hb => hE.block b (hL r hr b hb).1 (hL r hr b hb).2
  · rcases List.mem_append.1 hr with hr | hr
    · obtain ⟨h1, h2⟩ := hE.new r hr b hb
      refine ⟨h1, ?_⟩
      rcases h2 with h2 | h2
      · exact .inl (Nat.le_trans h.size h2)
      · exact (hfoot b h2).2
    · have h1 := h.new r (List.mem_append_right _ hr) b hb
      exact ⟨(hE.old b (hL r hr b hb).1).trans h1.1, h1.2⟩
  · rw [List.flatMap_append]
    refine List.nodup_append.2 ⟨hE.nodup, n2, fun a ha b hb e => ?_⟩
    subst e
    obtain ⟨r, hr, ha'⟩ := List.mem_flatMap.1 ha
    obtain ⟨r', hr', hb'⟩ := List.mem_flatMap.1 hb
    obtain ⟨h1, h2⟩ := hL r' hr' a hb'
    rcases (hE.new r hr a ha').2 with h | h
    · omega
    · exact h2 h
theorem g_eqSliceNil {P : Program} {n : Nat} {σ : Nat → Value} {S : World → Prop} {t t' ty e : TypeId} {x y : Operand} {a : Addr} {k c : Nat} (hT : P.underlying t = some (.slice e)) (hx : ev n σ x = .slice (some a) k c) (hy : ev n σ y = .slice none 0 0) :
    Gives P (ev n σ) S (.binOp .eql t x y t') ty (.bool false) := fun w _ => by
  have h0 := run_equal_slice_nil (P := P) w t e (some a) k c hT
  have h1 : (binOp .eql t (.slice (some a) k c) (.slice none 0 0)).run P w = .ok (.bool false) w := by
    simp only [binOp]
    simp [h0]
  simp only [execOp, hx, hy, Sem.run_bind, eqGuard, h1]
  simp [Result.andThen, h1]
section
variable {P : Program} {n : Nat} {df : List Deferred} {ro : Option Nat} {σ : Nat → Value} {w : World} {Q : Exit → Act → World → Prop}
theorem fnD {f : FuncId} {fn : Func} {c : Code} {l : List Value} {R' : Value → World → Prop} (hf : P.funcs[f]? = some fn) (hb : fn.body = some c) (hn : fn.ntmps = n) (hl : Nat.ble l.length n = true)
    (h : c.wpIn (fen none) 0 P (bodyPostDIn (fen none) 0 P fn fun e w' => ∃ v, e = .returned v ∧ R' v w') (act n [] (args l)) w) : Ctr P f l w R' :=
  ⟨(callsIn_wide (n := 0)).1 (callsIn_of_wp_defers (F := fen none) hf hb trivial (by rw [hn, act_enter l n (Nat.le_of_ble_eq_true hl)]; exact h) rfl)⟩
theorem reg_defer {id : Nat} {t : Tmp} {f : FuncId} {lc : List Operand} {cs : List Value} {ty1 ty2 : TypeId} {p1 p2 : String} {a1 a2 : Array Edge} {σ' : Nat → Value} (hc : lc.map (ev n σ) = cs) (hσ : updO (updO σ (some t) (.func (.func f) #[] cs.toArray)) none undef = σ')
    (ht : ev n (updO σ (some t) (.func (.func f) #[] cs.toArray)) (.tmp t) = .func (.func f) #[] cs.toArray)
    (h : Q .normal (act n [⟨.fn (.func f) cs.toArray, #[]⟩] σ') w) :
    (Code.region id [⟨some t, .makeFunc (.func f) [].toArray lc.toArray, ty1, p1, a1, none⟩, ⟨none, .defer { callee := .value (.tmp t), args := #[], argTypes := #[] }, ty2, p2, a2, none⟩].toArray false).wpIn (fen none) 0 P Q (act n [] σ) w := by
  subst hσ
  refine wpIn_region_lit ?_
  have h1 : (execOp (act n [] σ).eval ⟨some t, .makeFunc (.func f) [].toArray lc.toArray, ty1, p1, a1, none⟩).run P w = .ok (.value (.func (.func f) #[] cs.toArray)) w := by
    subst hc; rw [act_evals]; simp [execOp, Instr.makeFunc]
  have h2 : (execOp (act n [] (updO σ (some t) (.func (.func f) #[] cs.toArray))).eval ⟨none, .defer { callee := .value (.tmp t), args := #[], argTypes := #[] }, ty2, p2, a2, none⟩).run P w = .ok (.defer ⟨.fn (.func f) cs.toArray, #[]⟩) w := by
    rw [act_evals]; simp [execOp, resolve, ht, Deferred.ofValue]
  unfold wpListIn
  rw [if_pos (by simp [Region.wanted])]
  refine ⟨fun _ _ => trivial, ?_⟩
  rw [show (fen none).round = none from rfl, Oper.semAt_none, h1]
  show wpListIn _ _ _ _ _ _ ((act n [] σ).put (some t) _) w
  rw [act_put]
  unfold wpListIn
  rw [if_pos (by simp [Region.wanted])]
  refine ⟨fun _ _ => trivial, ?_⟩
  rw [show (fen none).round = none from rfl, Oper.semAt_none, h2]
  exact h
theorem retDf2 {fn : Func} {f : FuncId} {cs as : List Value} {a b : ResultVar} {va vb : Value} {R' : Value → World → Prop} (hi : ∀ w : World, (invoke (.fn (.func f) cs.toArray) #[]).run P w = .ok (.enter f as.toArray) w)
    (hD : ∀ w, CallsDIn (fen none) 0 P f as.toArray .returning w fun e u w' => (∃ v, e = .returned v) ∧ u = .returning ∧ w' = w)
    (hr : fn.results = #[a, b]) (h1 : ResV P n σ w a va) (h2 : ResV P n σ w b vb) (h : R' (.tuple #[va, vb]) w) :
    bodyPostDIn (fen none) 0 P fn (fun e w' => ∃ v, e = .returned v ∧ R' v w') .ret (act n [⟨.fn (.func f) cs.toArray, #[]⟩] σ) w := by
  show LeavesIn _ _ _ _ _ _ _ _ _
  unfold LeavesIn
  refine ⟨by simp [act], fun h => (by cases h), .func f, cs.toArray, f, as.toArray, rfl, hi w, fun _ _ => trivial, trivial, fun c cs' hc hroom => ?_⟩
  obtain ⟨e, u', w', fr, ⟨⟨v, rfl⟩, rfl, rfl⟩, h4, h5, h6, h7⟩ := (hD w).2 c cs' hc hroom
  refine ⟨_, _, _, fr, ?_, h4, h5, h6, h7⟩
  show LeavesIn _ _ _ _ _ _ _ _ _
  unfold LeavesIn
  refine ⟨.tuple #[va, vb], ?_, _, rfl, h⟩
  have e1 := resv_run (df := [⟨.fn (.func f) cs.toArray, #[]⟩]) h1
  have e2 := resv_run (df := [⟨.fn (.func f) cs.toArray, #[]⟩]) h2
  rw [results_eq, hr]; simp [e1, e2]
end
end Go.Inl

namespace Go.Inl
open Go Go.RowKit
/-- It returns (R), or panics with one value (E). -/
def EndE (v0 : Value) (R : Value → World → Prop) (E : World → Prop) (e : Ending) (w : World) : Prop := (∃ v, e = .returned v ∧ R v w) ∨ (e = .panicked [{ v := v0, recovered := false }] ∧ E w)
structure CtrE (P : Program) (f : FuncId) (l : List Value) (w : World) (v0 : Value) (R : Value → World → Prop) (E : World → Prop) : Prop where
  calls : Calls P f l.toArray w (EndE v0 R E)
theorem CtrE.mono {P : Program} {f : FuncId} {l : List Value} {w : World} {v0 : Value} {R R' : Value → World → Prop} {E E' : World → Prop} (h : CtrE P f l w v0 R E) (hr : ∀ v w', R v w' → R' v w') (he : ∀ w', E w' → E' w') : CtrE P f l w v0 R' E' :=
  ⟨Calls.mono h.calls fun _ _ h => h.elim (fun ⟨v, h1, h2⟩ => .inl ⟨v, h1, hr _ _ h2⟩) (fun ⟨h1, h2⟩ => .inr ⟨h1, he _ h2⟩)⟩
theorem CtrE.ofCtr {P : Program} {f : FuncId} {l : List Value} {w : World} {v0 : Value} {R : Value → World → Prop} (h : Ctr P f l w R) : CtrE P f l w v0 R (fun _ => False) := ⟨Calls.mono h.calls fun _ _ h => .inl h⟩
section
variable {P : Program} {n : Nat} {df : List Deferred} {ro : Option Nat} {σ : Nat → Value} {w : World} {ops : Array Oper} {Q : Exit → Act → World → Prop} {rest : List Oper} {d : Option Tmp} {op : Op} {ty : TypeId} {p : String} {af : Array Edge}
  {R : Value → World → Prop} {E : World → Prop} {v0 : Value} {l : List Oper} {fn : Func}
theorem fnE {f : FuncId} {c : Code} {ls : List Value} (hf : P.funcs[f]? = some fn) (hb : fn.body = some c) (hn : fn.ntmps = n) (hl : Nat.ble ls.length n = true)
    (h : c.wpIn (fen none) 0 P (bodyPost P fn (EndE v0 R E)) (act n [] (args ls)) w) : CtrE P f ls w v0 R E := ⟨Inl.calls hf hb n hn (Nat.le_of_ble_eq_true hl) h⟩
theorem retE {a : Act} (h : bodyPost P fn (fun e w' => ∃ v, e = .returned v ∧ R v w') .ret a w) : bodyPost P fn (EndE v0 R E) .ret a w := by
  obtain ⟨h1, v, h2, h3⟩ := h
  exact ⟨h1, v, h2, .inl h3⟩
theorem panE (h : E w) : bodyPost P fn (EndE v0 R E) (.panic [{ v := v0, recovered := false }]) (act n [] σ) w := ⟨rfl, .inr ⟨rfl, h⟩⟩
theorem thenP {next : Act → World → Prop} {ch : List PanicEntry} {a : Act} (h : Q (.panic ch) a w) : Exit.then next Q (.panic ch) a w := h
theorem blkP {id : Nat} {ch : List PanicEntry} {a : Act} (h : Q (.panic ch) a w) : Exit.inBlock id Q (.panic ch) a w := h
/-- The operations of a region from one on, of which some may panic. -/
structure OLX (ro : Option Nat) (P : Program) (l : List Oper) (Q : Exit → Act → World → Prop) (n : Nat) (df : List Deferred) (rest : List Oper) (σ : Nat → Value) (w : World) : Prop where
  run : wpListIn (fen ro) 0 P l.toArray Q rest (act n df σ) w
theorem regX {id : Nat} (h : OLX ro P l Q n df l σ w) : (Code.region id l.toArray false).wpIn (fen ro) 0 P Q (act n df σ) w := wpIn_region_lit h.run
theorem olx_nil (k : Q .normal (act n df σ) w) : OLX ro P l Q n df [] σ w := ⟨k⟩
theorem olx_op {o : Oper} (hg : o.guard = none) (h : o.wpIn (fen ro) 0 P (act n df σ) w (fun a w => wpListIn (fen ro) 0 P l.toArray Q rest a w) Q) : OLX ro P l Q n df (o :: rest) σ w := by
  refine ⟨?_⟩
  unfold wpListIn
  rw [if_pos (by simp [Region.wanted, hg])]
  exact h
theorem qqX {X : List Nat} {w0 : World} {I0 I : Imm} {L : List Res} {v : Value} (hS : St X w0 I0 I w L) (h : Gives P (ev n σ) (KS X w0 I0 I L) op ty v) (k : OLX ro P l Q n df rest (updO σ d v) w) :
    OLX ro P l Q n df (⟨d, op, ty, p, af, none⟩ :: rest) σ w := by
  refine olx_op rfl (opW.sound ?_)
  have h' := h w hS
  rw [← execOp_any (ev n σ) d op ty p af none] at h'
  unfold opW
  rw [act_evals, h']
  show wpListIn _ _ _ _ _ rest ((act n df σ).put d v) w
  rw [act_put]
  exact k.run
theorem qeX (h : Does P (ev n σ) op ty w R) (k : ∀ v w', R v w' → OLX ro P l Q n df rest (updO σ d v) w') : OLX ro P l Q n df (⟨d, op, ty, p, af, none⟩ :: rest) σ w := by
  refine olx_op rfl (opW.sound ?_)
  exact Does.opW (by rw [act_evals]; exact h) fun v w' hR => by rw [act_put]; exact (k v w' hR).run
theorem qcX {f : FuncId} {ls : List Operand} {aT : Array TypeId} {vs : List Value} (hc : ∀ args w, (callFunc f args).run P w = .ok (.enter f args) w) (ha : ls.map (ev n σ) = vs) (hF : CtrE P f vs w v0 R E)
    (kp : ∀ w', E w' → Q (.panic [{ v := v0, recovered := false }]) (act n df σ) w') (k : ∀ v w', R v w' → OLX ro P l Q n df rest (updO σ d v) w') :
    OLX ro P l Q n df (⟨d, .call { callee := .value (.func f), args := ls.toArray, argTypes := aT }, ty, p, af, none⟩ :: rest) σ w := by
  refine olx_op rfl ⟨fun _ _ => trivial, ?_⟩
  rw [Oper.semAt_eq _ _ _ (fun c => by intro h; cases h), act_evals]
  have he : (execOp (ev n σ) ⟨d, .call { callee := .value (.func f), args := ls.toArray, argTypes := aT }, ty, p, af, none⟩).run P w = .ok (.enter f vs.toArray) w := by
    subst ha
    simp [execOp, resolve, Deferred.ofValue, ev, invoke, hc]
  rw [he]
  refine ⟨fun h => (by cases h), callsIn_wide.2 (Calls.mono hF.calls fun e w'' hE => ?_)⟩
  rcases hE with ⟨v, rfl, hR⟩ | ⟨rfl, hE⟩
  · show wpListIn _ _ _ _ _ rest ((act n df σ).put d v) w''
    rw [act_put]
    exact (k v w'' hR).run
  · exact kp w'' hE
theorem qpX {x : Operand} {t : TypeId} {v : Value} (hx : ev n σ x = .iface t v) (k : Q (.panic [{ v := .iface t v, recovered := false }]) (act n df σ) w) : OLX ro P l Q n df (⟨d, .panic x, ty, p, af, none⟩ :: rest) σ w := by
  refine olx_op rfl ⟨fun _ _ => trivial, ?_⟩
  rw [Oper.semAt_eq _ _ _ (fun c => by intro h; cases h), act_evals]
  have he : (execOp (ev n σ) ⟨d, .panic x, ty, p, af, none⟩).run P w = .halt (.panic (.iface t v)) w := by
    simp [execOp, hx, Instr.panic, goPanic]
  rw [he]
  exact k
theorem panDf2 {f : FuncId} {cs as : List Value} {a b : ResultVar} {chain : List PanicEntry} {W : World → Prop} {R' : Value → World → Prop} (hi : ∀ w : World, (invoke (.fn (.func f) cs.toArray) #[]).run P w = .ok (.enter f as.toArray) w)
    (hD : CallsDIn (fen none) 0 P f as.toArray (.panicking chain) w fun e u w' => (∃ v, e = .returned v) ∧ settle u = .returning ∧ W w')
    (hr : fn.results = #[a, b]) (h : ∀ w', W w' → ∃ va vb, ResV P n σ w' a va ∧ ResV P n σ w' b vb ∧ R' (.tuple #[va, vb]) w') :
    bodyPostDIn (fen none) 0 P fn (fun e w' => ∃ v, e = .returned v ∧ R' v w') (.panic chain) (act n [⟨.fn (.func f) cs.toArray, #[]⟩] σ) w := by
  show LeavesIn _ _ _ _ _ _ _ _ _
  unfold LeavesIn
  refine ⟨by simp, fun h => (by cases h), .func f, cs.toArray, f, as.toArray, rfl, hi w, fun _ _ => trivial, trivial, fun c cs' hc hroom => ?_⟩
  obtain ⟨e, u', w', fr, ⟨⟨v, rfl⟩, hu, hW⟩, h4, h5, h6, h7⟩ := hD.2 c cs' hc hroom
  refine ⟨_, _, _, fr, ?_, h4, h5, h6, h7⟩
  obtain ⟨va, vb, h1, h2, h3⟩ := h w' hW
  dsimp only
  rw [hu]
  unfold LeavesIn
  refine ⟨.tuple #[va, vb], ?_, _, rfl, h3⟩
  have e1 := resv_run (df := [⟨.fn (.func f) cs.toArray, #[]⟩]) h1
  have e2 := resv_run (df := [⟨.fn (.func f) cs.toArray, #[]⟩]) h2
  rw [results_eq, hr]; simp [e1, e2]
theorem fnS {f : FuncId} {c : Code} {ls : List Value} {u : FrameMode} {R : Ending → FrameMode → World → Prop} (hf : P.funcs[f]? = some fn) (hb : fn.body = some c) (hn : fn.ntmps = n) (hl : Nat.ble ls.length n = true)
    (h : ∀ (c₀ : Frame) (cs : List Frame), c₀.mode = u → c.wpSIn (fen none) 0 P (bodyPostS P fn c₀ cs R) (act n [] (args ls)) (c₀ :: cs) w) : CallsDIn (fen none) 0 P f ls.toArray u w R := by
  refine callsDIn_of_wpSIn hf hb trivial fun c₀ cs hu => ?_
  have e : ({ tmps := ls.toArray ++ Array.replicate (fn.ntmps - ls.toArray.size) undef, defers := [] } : Act) = act n [] (args ls) := by rw [hn]; exact act_enter ls n (Nat.le_of_ble_eq_true hl)
  rw [e]
  exact h c₀ cs hu
theorem wpS_rec {ops : Array Oper} {i : Nat} {rest : List Nat} {o : Oper} {a : Act} {cs cs' : List Frame} {v : Value} {QS : Exit → Act → List Frame → World → Prop} (ho : ops[i]? = some o) (hw : Region.wanted o (yielded ops a.tmps) = true) (h1 : (execOp a.eval o).run P w = .ok .recover w)
    (hr : recoverD cs = some (v, cs') ∨ (recoverD cs = none ∧ v = .nilIface ∧ cs' = cs)) (k : wpOpsSIn (fen none) 0 P ops QS rest (a.put o.dst v) cs' w) : wpOpsSIn (fen none) 0 P ops QS (i :: rest) a cs w := by
  rcases hr with hr | ⟨hr, rfl, rfl⟩
  · simp only [wpOpsSIn, ho, hw, h1, hr, if_true]
    exact ⟨fun _ _ => trivial, k⟩
  · simp only [wpOpsSIn, ho, hw, h1, hr, if_true]
    exact ⟨fun _ _ => trivial, k⟩
theorem wpS_val {ops : Array Oper} {i : Nat} {rest : List Nat} {o : Oper} {a : Act} {cs : List Frame} {v : Value} {QS : Exit → Act → List Frame → World → Prop} (ho : ops[i]? = some o) (hw : Region.wanted o (yielded ops a.tmps) = true) (h1 : (execOp a.eval o).run P w = .ok (.value v) w)
    (k : wpOpsSIn (fen none) 0 P ops QS rest (a.put o.dst v) cs w) : wpOpsSIn (fen none) 0 P ops QS (i :: rest) a cs w := by
  simp only [wpOpsSIn, ho, hw, h1, if_true]
  exact ⟨fun _ _ => trivial, k⟩
theorem rec_reg {id t1 t2 : Nat} {ty1 ty2 : TypeId} {p1 p2 : String} {a1 a2 : Array Edge} {cs cs' : List Frame} {v : Value} {QS : Exit → Act → List Frame → World → Prop} (hv : ev n (updO σ (some t1) v) (.tmp t1) = v) (hr : recoverD cs = some (v, cs') ∨ (recoverD cs = none ∧ v = .nilIface ∧ cs' = cs)) (k : QS .normal (act n [] (updO (updO σ (some t1) v) (some t2) v)) cs' w) :
    (Code.region id #[⟨some t1, .call { callee := .builtin .recover, args := #[], argTypes := #[] }, ty1, p1, a1, none⟩, ⟨some t2, .assign (.tmp t1), ty2, p2, a2, none⟩] false).wpSIn (fen none) 0 P QS (act n [] σ) cs w := by
  refine wpSIn_region ?_
  have h2 : (execOp (act n [] (updO σ (some t1) v)).eval ⟨some t2, .assign (.tmp t1), ty2, p2, a2, none⟩).run P w = .ok (.value v) w := by
    rw [act_evals]
    have := g_assignv (P := P) (S := fun _ => True) (ty := ty2) hv w trivial
    rw [← execOp_any (ev n (updO σ (some t1) v)) (some t2) (.assign (.tmp t1)) ty2 p2 a2 none] at this
    exact this
  refine wpS_rec (i := 0) (rest := [1]) rfl (by simp [Region.wanted]) rfl hr ?_
  rw [act_put]
  refine wpS_val (i := 1) (rest := []) rfl (by simp [Region.wanted]) h2 ?_
  rw [act_put]
  exact k
end
end Go.Inl

namespace Go.Inl
open Go Go.RowKit
theorem run_append_grow_zeros {P : Program} (w : World) (t tn ty e : TypeId) (i : TypeInfo) (z : Value) (k kn : IntKind) (ht : P.underlying t = some (.slice e)) (htn : P.underlying tn = some (.int kn)) (hi : P.info? e = some i) (hz : i.zero = some z)
    (b : Addr) (sLen sCap : Nat) (olds : List Value) (hlo : olds.length = sLen * i.size) (holds : ∀ j v, olds[j]? = some v → w.cell? (b.add j) = some v)
    (n : Nat) (h0 : 0 < n) (hs : 0 < i.size) (hg : sCap < sLen + n) (h63 : ((sLen + n : Nat) : Int) ≤ 9223372036854775807) (h48 : n * i.bytes ≤ 281474976710656) (hfit : Builtin.nextslicecap (sLen + n) sCap * i.bytes ≤ 281474976710656) :
    (Builtin.append_ #[t, tn] ty #[.slice (some b) sLen sCap, .int k n]).run P w =
      .ok (.slice (some ⟨w.heap.size, 0, none⟩) (sLen + n) (grownCap w (sLen + n) sCap e)) (w.drew.alloc (.cells (olds.toArray ++ Builtin.zeroCells z.cells n ++ Builtin.zeroCells z.cells (grownCap w (sLen + n) sCap e - (sLen + n))) e)) := by
  have hn : ¬ (sLen + n ≤ sCap) := by omega
  have hw : IntKind.i64.wrap (n : Int) = n := by rw [IntKind.wrap_i64]; omega
  have h63' : ¬ (9223372036854775807 < ((sLen : Int) + (n : Int))) := by omega
  have h48' : ¬ (281474976710656 < Builtin.nextslicecap (sLen + n) sCap * i.bytes) := by omega
  have h48i : ¬ (281474976710656 < (n : Int) * (i.bytes : Int)) := by
    rw [← Int.natCast_mul]; omega
  have hneg : ¬ ((n : Int) < 0) := by omega
  have hns : ¬ (n * i.size = 0) := Nat.mul_ne_zero (by omega) (by omega)
  have hfo := run_firstCells_some (P := P) w.drew i.size sLen b sLen sCap olds hlo (by simpa using holds)
  simp [Builtin.append_, run_underlying ht, run_underlying htn, sizeOf, typeInfo, zeroValue, hi, hz, asInt, asIntOf, hw, hn, hneg, hns, h63', h48', h48i, Question.forced, hfo, newRow, grownCap]
section
variable {P : Program} {n : Nat} {σ : Nat → Value} {w : World} {ty : TypeId} {X : List Nat} {w0 : World} {I0 I : Imm} {L : List Res}
/-- append(s, make([]T, m)...), s a literal. -/
theorem d_appendZG (j : Nat) {t tn e T : TypeId} {sz by' : Nat} {z : Value} {x y : Operand} {kn k : IntKind} {b c0 m : Nat} {cs zs : List Value} (hS : St X w0 I0 I w L) {aT : Array TypeId} (ho : aT = #[t, tn]) (hT : P.underlying t = some (.slice e)) (hN : P.underlying tn = some (.int kn))
    (hi : Info P e z sz by') (hzs : z.cells.size = sz) (h0 : Nat.blt 0 sz = true) (hL : L[j]? = some (.cel b T cs)) (hx : ev n σ x = .slice (some ⟨b, 0, none⟩) c0 c0) (hl : cs.length = c0 * sz) (hy : ev n σ y = .int k m) (hm : 0 < m) (h63 : c0 + m ≤ 1048576) (hb : by' ≤ 1024) (hzz : (Builtin.zeroCells z.cells m).toList = zs) :
    Does P (ev n σ) (.call { callee := .builtin .append, args := #[x, y], argTypes := aT }) ty w fun v w' => ∃ b cap, v = .slice (some ⟨b, 0, none⟩) (c0 + m) cap ∧ St X w0 I0 I w' (.row (.slice (some ⟨b, 0, none⟩) (c0 + m) cap) e sz (c0 + m) (cs ++ zs) :: L) := by
  subst ho hzz
  obtain ⟨i, h1, h2, h3, h4⟩ := hi
  have h0' : 0 < sz := by simpa using h0
  have hmb : m * i.bytes ≤ 281474976710656 := by
    rw [h4]; have := Nat.mul_le_mul (show m ≤ 1048576 by omega) hb; omega
  have hfit : Builtin.nextslicecap (c0 + m) c0 * i.bytes ≤ 281474976710656 := by
    rw [h4]
    have h5 := growslice_fits (need := c0 + m) (old := c0) (bytes := by') (by omega) (by have := Nat.mul_le_mul (show c0 + m ≤ 1048576 by omega) hb; omega)
    exact h5
  have hr := run_append_grow_zeros w t tn ty e i z k kn hT hN h1 h2 ⟨b, 0, none⟩ c0 c0 cs (by rw [h3]; exact hl) (fun q v hq => by rw [addr_add, Nat.zero_add]; exact own_cell hS hL hq) m hm (by omega) (by omega) (by omega) hmb hfit
  have hge := grownCap_ge w (c0 + m) c0 e
  have hle := grownCap_le_maxLen w (c0 + m) c0 e (by unfold maxLen; omega)
  generalize grownCap w (c0 + m) c0 e = G at hr hge hle
  refine does_value (v := .slice (some ⟨w.heap.size, 0, none⟩) (c0 + m) G) (w' := w.drew.alloc (.cells (cs.toArray ++ Builtin.zeroCells z.cells m ++ Builtin.zeroCells z.cells (G - (c0 + m))) e)) ?_ ⟨_, _, rfl, ?_⟩
  · simp only [execOp, resolve, invoke, builtin, List.map_toArray, List.map_cons, List.map_nil, hx, hy, Sem.run_bind, Sem.run_pure, Result.andThen_ok, hr]
  · have hA := (hS.drew).alloc e (cs.toArray ++ Builtin.zeroCells z.cells m ++ Builtin.zeroCells z.cells (G - (c0 + m))).toList
    simp only [Array.toArray_toList] at hA
    have hz1 : (Builtin.zeroCells z.cells m).size = m * sz := by rw [size_zeroCells, hzs]
    have hsz : (cs.toArray ++ Builtin.zeroCells z.cells m ++ Builtin.zeroCells z.cells (G - (c0 + m))).size = G * sz := by
      rw [Array.size_append, Array.size_append, size_zeroCells, size_zeroCells, hzs, List.size_toArray, hl, ← Nat.add_mul, ← Nat.add_mul]
      congr 1; omega
    have htk : ((cs.toArray ++ Builtin.zeroCells z.cells m ++ Builtin.zeroCells z.cells (G - (c0 + m))).toList).take ((c0 + m) * sz) = cs ++ (Builtin.zeroCells z.cells m).toList := by
      rw [Array.toList_append, Array.toList_append, List.take_append_of_le_length (by simp [hl, hz1, Nat.add_mul]), List.take_of_length_le (by simp [hl, hz1, Nat.add_mul])]
    have hc := hA.change (k := 0) (r' := .row (.slice (some ⟨w.heap.size, 0, none⟩) (c0 + m) G) e sz (c0 + m) (cs ++ (Builtin.zeroCells z.cells m).toList)) rfl rfl rfl rfl (Nat.le_refl _) (fun _ _ _ => rfl) (fun b hb => .inl (by simpa [Res.foot, Value.ownBlock, eq_comm] using hb)) (by simp [Res.foot, Value.ownBlock])
      ⟨by simp [hl, hz1, Nat.add_mul], .inr ⟨w.heap.size, G, _, rfl, Nat.zero_le _, heap_alloc_new w.drew _, hge, hle, hsz, htk⟩⟩
    exact hc
end
end Go.Inl

namespace Go.Inl
open Go Go.RowKit
section
variable {P : Program} {ops : Array Oper} {Q : Exit → Act → World → Prop} {PE : List PanicEntry → World → Prop}
def DoesRE (P : Program) (PE : List PanicEntry → World → Prop) (R : Value → World → Prop) : Result Next → Prop
  | .ok (.value v) w' => R v w'
  | .ok .skip w' => R undef w'
  | .ok (.enter f args) w' => Calls P f args w' fun e w'' => (∃ v, e = .returned v ∧ R v w'') ∨ (∃ ch, e = .panicked ch ∧ PE ch w'')
  | .ok (.round l f tmps assign body) w' => RoundIn Fence.wide 0 P l f tmps assign body w' fun e w'' => ∃ v, e = .returned v ∧ R v w''
  | _ => False
theorem DoesRE.mono {R R' : Value → World → Prop} (hr : ∀ v w', R v w' → R' v w') : ∀ {r : Result Next}, DoesRE P PE R r → DoesRE P PE R' r := by
  intro r h
  cases r with
  | ok x w' =>
    cases x <;> simp only [DoesRE] at h ⊢ <;>
      first
        | exact hr _ _ h
        | exact Calls.mono h (fun e w'' h => h.elim (fun ⟨v, he, hv⟩ => .inl ⟨v, he, hr _ _ hv⟩) .inr)
        | exact RoundIn.mono h (fun e w'' ⟨v, he, hv⟩ => ⟨v, he, hr _ _ hv⟩)
        | exact h
  | halt x w' => exact h
def opWE (P : Program) (PE : List PanicEntry → World → Prop) (o : Oper) (a : Act) (w : World) (K : Act → World → Prop) : Prop := DoesRE P PE (fun v w' => K (a.put o.dst v) w') ((execOp a.eval o).run P w)
theorem opWE.mono {o : Oper} {a : Act} {w : World} {K K' : Act → World → Prop} (h : opWE P PE o a w K) (hk : ∀ v w, K (a.put o.dst v) w → K' (a.put o.dst v) w) : opWE P PE o a w K' := DoesRE.mono (fun _ _ => hk _ _) h
theorem opWE.sound {ro : Option Nat} {o : Oper} {a : Act} {w : World} {K : Act → World → Prop} (hQ : ∀ ch w', PE ch w' → Q (.panic ch) a w') (h : opWE P PE o a w K) : o.wpIn (fen ro) 0 P a w K Q := by
  refine ⟨fun _ _ => trivial, ?_⟩
  have hnd : ∀ c, o.op ≠ .defer c := by
    intro c hc
    unfold opWE at h
    have e : execOp a.eval o = (do let d ← resolve a.eval c o.type; pure (.defer d)) := by unfold execOp; rw [hc]
    rw [e, Sem.run_bind] at h
    cases hr : (resolve a.eval c o.type).run P w with
    | ok d w' => rw [hr] at h; exact h
    | halt x w' => rw [hr] at h; exact h
  rw [Oper.semAt_eq _ _ _ hnd]
  unfold opWE at h
  generalize (execOp a.eval o).run P w = r at h
  cases r with
  | ok x w' =>
    cases x <;> simp only [DoesRE] at h <;>
      first
        | exact h
        | exact ⟨fun h => (by cases h), callsIn_wide.2 (Calls.mono h (fun e w'' h => h.elim (fun ⟨v, he, hv⟩ => by subst he; exact hv) (fun ⟨ch, he, hp⟩ => by subst he; exact hQ ch w'' hp)))⟩
        | exact ⟨fun h => (by cases h), RoundIn.mono h (fun e w'' ⟨v, he, hv⟩ => by subst he; exact hv)⟩
        | exact h.elim
  | halt x w' => exact h.elim
theorem doesRE_of {R : Value → World → Prop} : ∀ {r : Result Next}, DoesR P R r → DoesRE P PE R r := by
  intro r h
  cases r with
  | ok x w' =>
    cases x <;> simp only [DoesR, DoesRE] at h ⊢ <;>
      first
        | exact h
        | exact Calls.mono h (fun e w'' ⟨v, he, hv⟩ => .inl ⟨v, he, hv⟩)
        | exact h.elim
  | halt x w' => exact h.elim
def opRE (P : Program) (PE : List PanicEntry → World → Prop) (ops : Array Oper) (i : Nat) (K : Act → World → Prop) (a : Act) (w : World) : Prop :=
  match ops[i]? with
  | none => K a w
  | some o => if Region.wanted o (yielded ops a.tmps) then opWE P PE o a w K else K (a.put o.dst undef) w
theorem opRE.mono {i : Nat} {a : Act} {w : World} {K K' : Act → World → Prop} (h : ∀ a w, K a w → K' a w) (hh : opRE P PE ops i K a w) : opRE P PE ops i K' a w := by
  unfold opRE at *
  split
  · exact h _ _ (by simpa [*] using hh)
  · rename_i o ho
    simp only [ho] at hh
    split
    · rename_i hw; simp only [hw, if_true] at hh; exact hh.mono fun _ _ => h _ _
    · rename_i hw; simp only [hw] at hh; exact h _ _ hh
theorem opRE.fam {Fam : Act → Prop} {i : Nat} {a : Act} {w : World} {K : Act → World → Prop} (hF : ∀ (o : Oper) v a, ops[i]? = some o → Fam a → Fam (a.put o.dst v)) (ha : Fam a) (hh : opRE P PE ops i K a w) : opRE P PE ops i (fun a w => K a w ∧ Fam a) a w := by
  unfold opRE at *
  split
  · exact ⟨by simpa [*] using hh, ha⟩
  · rename_i o ho
    simp only [ho] at hh
    split
    · rename_i hw; simp only [hw, if_true] at hh; exact hh.mono fun v w h => ⟨h, hF o v a ho ha⟩
    · rename_i hw; simp only [hw] at hh; exact ⟨hh, hF o undef a ho ha⟩
theorem opRE.sound {ro : Option Nat} {i : Nat} {a : Act} {w : World} {K : Act → World → Prop} (hQ : ∀ ch w', PE ch w' → Q (.panic ch) a w') (h : opRE P PE ops i K a w) : wpOpIn (fen ro) 0 P ops Q i K a w := by
  unfold opRE at h
  unfold wpOpIn
  split
  · rename_i ho
    simp only [ho] at h
    exact h
  · rename_i o ho
    simp only [ho] at h
    split
    · rename_i hw; rw [if_pos hw] at h; exact h.sound hQ
    · rename_i hw; rw [if_neg hw] at h; exact ⟨fun _ _ => trivial, h⟩
theorem yi_opRE {S : World → Prop} {i : Nat} {o : Oper} {v : Value} {a : Act} (hi : ops[i]? = some o) (hy : YieldsIf P ops S o v a) {K : Act → World → Prop} {w : World} (hS : S w) (h : K (a.put o.dst v) w) : opRE P PE ops i K a w := by
  unfold opRE
  simp only [hi]
  rcases hy with ⟨hw, hv⟩ | ⟨hw, rfl⟩
  · rw [if_pos hw]; unfold opWE; rw [hv w hS]; exact h
  · rw [if_neg (by rw [hw]; decide)]; exact h
theorem opRE_putIf {S : World → Prop} {j : Nat} {oi oj : Oper} {v : Value} (hj : ops[j]? = some oj) (hap : oi.apart ops oj = true)
    (hsi : ∀ cs b, oi.op ≠ .select cs b) (hsj : ∀ cs b, oj.op ≠ .select cs b) {K : Act → World → Prop} {a : Act} {w : World}
    (hy : YieldsIf P ops S oi v a) (h : opRE P PE ops j K (a.put oi.dst v) w) : opRE P PE ops j (fun a' w' => YieldsIf P ops S oi v a' ∧ K (a'.put oi.dst v) w') a w := by
  obtain ⟨h1, h2, h3⟩ := Oper.apart_spec hap
  have keep : ∀ (a : Act), YieldsIf P ops S oi v a → ∀ u, YieldsIf P ops S oi v (a.put oj.dst u) := fun a hy u =>
    hy.of_same (execOp_put oi hsi a oj.dst u h3) (wanted_put oi a oj.dst u h3)
  unfold opRE at *
  simp only [hj] at *
  rw [wanted_put oj a oi.dst v h1] at h
  split
  · rename_i hw
    rw [if_pos hw] at h
    unfold opWE at *
    rw [execOp_put oj hsj a oi.dst v h1] at h
    exact DoesRE.mono (fun u w' hk => ⟨keep a hy u, by rw [← Act.put_comm a v u h2]; exact hk⟩) h
  · rename_i hw
    rw [if_neg hw] at h
    exact ⟨keep a hy _, by rw [← Act.put_comm a v undef h2]; exact h⟩
def AnyGE (P : Program) (PE : List PanicEntry → World → Prop) (ops : Array Oper) (Q : Exit → Act → World → Prop) (G : Array Bool → World → Prop) : Nat → Array Bool → Act → World → Prop
  | 0, listed, a, w => Region.ready .any ops listed = [] ∧ Q .normal a w
  | fuel + 1, listed, a, w =>
    (Region.ready .any ops listed = [] → Q .normal a w) ∧
    ∀ i ∈ Region.ready .any ops listed, opRE P PE ops i (fun a' w' => G (listed.setIfInBounds i true) w' ∧ AnyGE P PE ops Q G fuel (listed.setIfInBounds i true) a' w') a w
theorem any_of_GE {ro : Option Nat} {G : Array Bool → World → Prop} {Fam : Act → Prop} (hF : ∀ (i : Nat) (o : Oper) v a, ops[i]? = some o → Fam a → Fam (a.put o.dst v)) (hQ : ∀ ch a w', Fam a → PE ch w' → Q (.panic ch) a w') :
    ∀ (fuel : Nat) (listed : Array Bool) (a : Act) (w : World), Fam a → AnyGE P PE ops Q G fuel listed a w → wpAnyIn (fen ro) 0 P .any ops Q fuel listed a w
  | 0, _, _, _, _, h => h
  | fuel + 1, _, a, _, ha, h => ⟨h.1, fun i hi => opRE.sound (fun ch w' hp => hQ ch a w' ha hp) (opRE.mono (fun a' w' h' => any_of_GE hF hQ fuel _ a' w' h'.2 h'.1.2) (opRE.fam (hF i) ha (h.2 i hi)))⟩
theorem AnyGE.mono {G G' : Array Bool → World → Prop} : ∀ (fuel : Nat) (listed : Array Bool) (a : Act) (w : World), (∀ l' w, Ge listed l' → G' l' w → G l' w) → AnyGE P PE ops Q G' fuel listed a w → AnyGE P PE ops Q G fuel listed a w
  | 0, _, _, _, _, h => h
  | fuel + 1, listed, _, _, hG, h => ⟨h.1, fun i hi => opRE.mono (fun a' w' h' => ⟨hG _ _ (Ge.set listed i) h'.1, AnyGE.mono fuel _ a' w' (fun l' w hl => hG l' w ((Ge.set listed i).trans hl)) h'.2⟩) (h.2 i hi)⟩
theorem AnyGE.first {G : Array Bool → World → Prop} {Si : World → Prop} {i : Nat} {oi : Oper} {v : Value} (hi : ops[i]? = some oi) (hsel : ∀ (j : Nat) (o : Oper) cs b, ops[j]? = some o → o.op ≠ .select cs b)
    (hG1 : ∀ l w, G l w → G (l.setIfInBounds i true) w) (hG2 : ∀ l w, G (l.setIfInBounds i true) w → G l w) :
    ∀ (fuel : Nat) (listed : Array Bool) (a : Act) (w : World), Closed ops listed → (∀ l w, Closed ops l → l.getD i true = false → G l w → Si w) →
      (∀ j oj, ops[j]? = some oj → j ≠ i → listed.getD j true = false → (∀ e ∈ oj.after, Region.binds .any e = true → e.on ≠ i) → oi.apart ops oj = true) →
      i ∈ Region.ready .any ops listed → YieldsIf P ops Si oi v a → G listed w →
      AnyGE P PE ops Q G fuel (listed.setIfInBounds i true) (a.put oi.dst v) w → AnyGE P PE ops Q G (fuel + 1) listed a w := by
  intro fuel
  induction fuel with
  | zero =>
    intro listed a w hcl hSi _ hr hy hS H
    refine ⟨fun h => (by rw [h] at hr; cases hr), fun j hj => ?_⟩
    by_cases hji : j = i
    · subst hji; exact yi_opRE hi hy (hSi listed w hcl (mem_ready.1 hr).1 hS) ⟨hG1 _ _ hS, H⟩
    · have := ready_mono hj hji
      rw [H.1] at this
      cases this
  | succ fuel ih =>
    intro listed a w hcl hSi hfree hr hy hS H
    refine ⟨fun h => (by rw [h] at hr; cases hr), fun j hj => ?_⟩
    by_cases hji : j = i
    · subst hji; exact yi_opRE hi hy (hSi listed w hcl (mem_ready.1 hr).1 hS) ⟨hG1 _ _ hS, H⟩
    · have h1 := H.2 j (ready_mono hj hji)
      obtain ⟨hjun, oj, hoj, hall⟩ := mem_ready.1 hj
      have hnot : ∀ e ∈ oj.after, Region.binds .any e = true → e.on ≠ i := fun e he hb heq => by
        have h1 := hall e he hb
        have h0 := (mem_ready.1 hr).1
        rw [heq] at h1
        rcases Nat.lt_or_ge i listed.size with h' | h'
        · simp [h'] at h0 h1; rw [h0] at h1; cases h1
        · simp [Array.getElem?_eq_none h'] at h1
      have h2 := opRE_putIf (S := Si) hoj (hfree j oj hoj hji hjun hnot) (fun cs b => hsel i oi cs b hi) (fun cs b => hsel j oj cs b hoj) hy h1
      have hfree' : ∀ k ok, ops[k]? = some ok → k ≠ i → (listed.setIfInBounds j true).getD k true = false →
          (∀ e ∈ ok.after, Region.binds .any e = true → e.on ≠ i) → oi.apart ops ok = true := fun k ok hk hki hun hno => by
        refine hfree k ok hk hki ?_ hno
        by_cases hjk : j = k
        · subst hjk; exact hjun
        · rw [getD_set_ne true hjk] at hun; exact hun
      refine opRE.mono (fun a' w' h3 => ?_) h2
      have hcomm : (listed.setIfInBounds i true).setIfInBounds j true = (listed.setIfInBounds j true).setIfInBounds i true := Array.setIfInBounds_comm _ _ (Ne.symm hji)
      have hGj : G (listed.setIfInBounds j true) w' := hG2 _ _ (hcomm ▸ h3.2.1)
      exact ⟨hGj, ih (listed.setIfInBounds j true) a' w' (hcl.set hj) hSi hfree' (ready_mono hr (Ne.symm hji)) h3.1 hGj (hcomm ▸ h3.2.2)⟩
def WSE (P : Program) (PE : List PanicEntry → World → Prop) (l : List Oper) (Q : Exit → Act → World → Prop) (n : Nat) (df : List Deferred) : Od → (World → Prop) → (Nat → Value) → World → Prop
  | .nil, _, σ, w => Q .normal (act n df σ) w
  | .cons i .pure r, S, σ, w => ∃ o v, l[i]? = some o ∧ YieldsIf P l.toArray (fun _ => True) o v (act n df σ) ∧ WSE P PE l Q n df r S (updO σ o.dst v) w
  | .cons i .held r, S, σ, w => ∃ o v, l[i]? = some o ∧ YieldsIf P l.toArray S o v (act n df σ) ∧ WSE P PE l Q n df r S (updO σ o.dst v) w
  | .cons i .eff r, S, σ, w => opRE P PE l.toArray i (fun a' w' => ∃ (σ' : Nat → Value) (S' : World → Prop), a' = act n df σ' ∧ (∀ w, S' w → S w) ∧ S' w' ∧ WSE P PE l Q n df r S' σ' w') (act n df σ) w
  | .cons i .bar r, _, σ, w => opRE P PE l.toArray i (fun a' w' => ∃ (σ' : Nat → Value) (S' : World → Prop), a' = act n df σ' ∧ S' w' ∧ WSE P PE l Q n df r S' σ' w') (act n df σ) w
  | _, _, _, _ => False
theorem AnyGE.done {G : Array Bool → World → Prop} {listed : Array Bool} {a : Act} {w : World} (hr : Region.ready .any ops listed = []) (h : Q .normal a w) : ∀ fuel, AnyGE P PE ops Q G fuel listed a w
  | 0 => ⟨hr, h⟩
  | _ + 1 => ⟨fun _ => h, by rw [hr]; simp⟩
theorem WSE.sound {n : Nat} {df : List Deferred} {l : List Oper} (hsel : ∀ (j : Nat) (o : Oper) cs b, l.toArray[j]? = some o → o.op ≠ .select cs b) : ∀ (order : Od) (fuel : Nat) (listed : Array Bool) (S : World → Prop) (σ : Nat → Value) (w : World),
    order.depth ≤ fuel → okO l order listed = true → Closed l.toArray listed → listed.size = l.length → S w → WSE P PE l Q n df order S σ w →
    AnyGE P PE l.toArray Q (GG (bars order) S) fuel listed (act n df σ) w
  | .fork i r j s, _, _, _, _, _, _, _, _, _, _, h => h.elim
  | .fork3 i r j s k t, _, _, _, _, _, _, _, _, _, _, h => h.elim
  | .nil, fuel, listed, S, σ, w, _, hok, _, _, _, h => AnyGE.done (by simpa [okO] using hok) h fuel
  | .cons i .pure r, 0, _, _, _, _, hf, _, _, _, _, _ => by simp [Od.depth] at hf
  | .cons i .pure r, fuel + 1, listed, S, σ, w, hf, hok, hcl, hsz, hS, h => by
    obtain ⟨o, v, ho, hy, h⟩ := h
    simp only [okO, Bool.and_eq_true, Bool.not_eq_true'] at hok
    obtain ⟨⟨⟨k1, k2⟩, k3⟩, k4⟩ := hok
    have ho' : l.toArray[i]? = some o := by simpa using ho
    have hr : i ∈ Region.ready .any l.toArray listed := by simpa using k2
    refine AnyGE.first (Si := fun _ => True) ho' hsel (fun L w => (GG_ne k3 L w).1) (fun L w => (GG_ne k3 L w).2) fuel listed (act n df σ) w hcl (fun _ _ _ _ _ => trivial)
      (Region.free_spec ho' k1) hr hy (fun _ => hS) ?_
    rw [act_put]
    exact WSE.sound hsel r fuel _ S _ w (by simpa [Od.depth] using hf) k4 (hcl.set hr) (by simpa using hsz) hS h
  | .cons i .held r, 0, _, _, _, _, hf, _, _, _, _, _ => by simp [Od.depth] at hf
  | .cons i .held r, fuel + 1, listed, S, σ, w, hf, hok, hcl, hsz, hS, h => by
    obtain ⟨o, v, ho, hy, h⟩ := h
    simp only [okO, Bool.and_eq_true, Bool.not_eq_true'] at hok
    obtain ⟨⟨⟨⟨k1, k2⟩, k3⟩, k5⟩, k4⟩ := hok
    have ho' : l.toArray[i]? = some o := by simpa using ho
    have hr : i ∈ Region.ready .any l.toArray listed := by simpa using k2
    refine AnyGE.first (Si := S) ho' hsel (fun L w => (GG_ne k3 L w).1) (fun L w => (GG_ne k3 L w).2) fuel listed (act n df σ) w hcl (fun L w hL hi hG => hG fun b hb => ?_)
      (Region.free_spec ho' k1) hr hy (fun _ => hS) ?_
    · cases hb' : L.getD b false with
      | false => rfl
      | true =>
        have := succs_spec (List.all_eq_true.1 k5 b hb) L hL hb'
        rw [getD_false_of hi] at this
        cases this
    · rw [act_put]
      exact WSE.sound hsel r fuel _ S _ w (by simpa [Od.depth] using hf) k4 (hcl.set hr) (by simpa using hsz) hS h
  | .cons i .eff r, 0, _, _, _, _, hf, _, _, _, _, _ => by simp [Od.depth] at hf
  | .cons i .eff r, fuel + 1, listed, S, σ, w, hf, hok, hcl, hsz, hS, h => by
    simp only [okO, Bool.and_eq_true, Bool.not_eq_true', beq_iff_eq] at hok
    obtain ⟨⟨k1, k3⟩, k4⟩ := hok
    refine ⟨fun h0 => (by rw [k1] at h0; cases h0), fun j hj => ?_⟩
    have hr := hj
    rw [k1] at hj
    simp only [List.mem_singleton] at hj
    subst hj
    refine opRE.mono ?_ h
    rintro a' w' ⟨σ', S', rfl, himp, hS', h⟩
    refine ⟨fun _ => himp _ hS', ?_⟩
    exact AnyGE.mono fuel _ _ _ (fun L w _ hG hb => himp _ (hG hb)) (WSE.sound hsel r fuel _ S' σ' w' (by simpa [Od.depth] using hf) k4 (hcl.set hr) (by simpa using hsz) hS' h)
  | .cons i .bar r, 0, _, _, _, _, hf, _, _, _, _, _ => by simp [Od.depth] at hf
  | .cons i .bar r, fuel + 1, listed, S, σ, w, hf, hok, hcl, hsz, hS, h => by
    simp only [okO, Bool.and_eq_true, Bool.not_eq_true', beq_iff_eq] at hok
    obtain ⟨⟨k1, k3⟩, k4⟩ := hok
    refine ⟨fun h0 => (by rw [k1] at h0; cases h0), fun j hj => ?_⟩
    have hr := hj
    rw [k1] at hj
    simp only [List.mem_singleton] at hj
    subst hj
    have hlt : j < listed.size := by
      obtain ⟨_, o, ho, _⟩ := mem_ready.1 hr
      have := (Array.getElem?_eq_some_iff.1 ho).1
      simpa [hsz] using this
    have hset : (listed.setIfInBounds j true).getD j false = true := by simp [hlt]
    refine opRE.mono ?_ h
    rintro a' w' ⟨σ', S', rfl, hS', h⟩
    refine ⟨fun hb => (by have := hb j (by simp [bars]); rw [hset] at this; cases this), ?_⟩
    exact AnyGE.mono fuel _ _ _ (fun L w hL _ hb => (by have := hb j (by simp [bars]); rw [hL j hset] at this; cases this))
      (WSE.sound hsel r fuel _ S' σ' w' (by simpa [Od.depth] using hf) k4 (hcl.set hr) (by simpa using hsz) hS' h)
/-- (A structure, so that nothing unfolds it.) -/
structure OSE (P : Program) (PE : List PanicEntry → World → Prop) (l : List Oper) (Q : Exit → Act → World → Prop) (n : Nat) (df : List Deferred) (r : Od) (S : World → Prop) (σ : Nat → Value) (w : World) : Prop where
  run : WSE P PE l Q n df r S σ w
variable {n : Nat} {df : List Deferred} {ro : Option Nat} {σ : Nat → Value} {w : World} {X : List Nat} {w0 : World} {I0 I : Imm} {L : List Res} {l : List Oper} {id : Nat}
def FamT (ts : List Nat) (a0 a : Act) : Prop := a.defers = a0.defers ∧ a.tmps.size = a0.tmps.size ∧ ∀ t ∈ ts, a.tmps.getD t undef = a0.tmps.getD t undef
def offT (ts : List Nat) (o : Oper) : Bool := match o.dst with | none => true | some d => !ts.contains d
theorem famT_put {ts : List Nat} {a0 a : Act} {o : Oper} {v : Value} (ho : offT ts o = true) (h : FamT ts a0 a) : FamT ts a0 (a.put o.dst v) := by
  obtain ⟨h1, h2, h3⟩ := h
  unfold offT at ho
  cases hd : o.dst with
  | none => exact ⟨h1, h2, h3⟩
  | some d =>
    rw [hd] at ho
    refine ⟨h1, by simpa [Act.put] using h2, fun t ht => ?_⟩
    rw [← h3 t ht]
    have hne : d ≠ t := fun e => by subst e; simp [ht] at ho
    simp only [Act.put, Array.getD_eq_getD_getElem?]
    rw [Array.getElem?_setIfInBounds_ne hne]
theorem act_of {a : Act} (h : a.tmps.size = n) : a = act n a.defers (fun i => a.tmps.getD i undef) := by
  cases a with
  | mk tmps defers =>
    simp only at h
    simp only [act, Act.mk.injEq, and_true]
    subst h
    apply Array.ext
    · simp
    · intro i h1 h2
      rw [Array.getElem_ofFn]
      simp [h1]
theorem drawE (ts : List Nat) (PE : List PanicEntry → World → Prop) (m : List Bool) (order : Od) (hm : P.follows .mixedOrders = true) (hok : okR l order = true) (hts : l.all (offT ts) = true) (hS : St X w0 I0 I w L)
    (hQ : ∀ (σ' : Nat → Value) ch w', (∀ t ∈ ts, ev n σ' (.tmp t) = ev n σ (.tmp t)) → PE ch w' → Q (.panic ch) (act n df σ') w')
    (h : ∀ w', St X w0 I0 I w' L → OSE P PE l Q n df order (KS X w0 I0 I (sel m L)) σ w') : (Code.region id l.toArray true).wpIn (fen ro) 0 P Q (act n df σ) w := by
  have hd : St X w0 I0 I { w with drawn := w.drawn + 1 } L := hS.alike rfl rfl rfl rfl
  simp only [okR, Bool.and_eq_true] at hok
  obtain ⟨⟨k1, k2⟩, k3⟩ := hok
  have hany := WSE.sound (P := P) (PE := PE) (Q := Q) (Region.noSelect_spec k2) order l.toArray.size (Array.replicate l.length false) (KS X w0 I0 I (sel m L)) σ _ (by simpa using Nat.le_of_ble_eq_true k3) k1
    (by intro j o _ hl; exfalso; rcases Nat.lt_or_ge j l.length with h' | h' <;> simp [h'] at hl) (by simp) (hd.sel m) (h _ hd).run
  have hput : ∀ (i : Nat) (o : Oper) v a, l.toArray[i]? = some o → FamT ts (act n df σ) a → FamT ts (act n df σ) (a.put o.dst v) := fun i o v a ho ha =>
    famT_put (List.all_eq_true.1 hts o (by simpa using Array.mem_of_getElem? ho)) ha
  have hq : ∀ ch a w', FamT ts (act n df σ) a → PE ch w' → Q (.panic ch) a w' := fun ch a w' ha hp => by
    obtain ⟨h1, h2, h3⟩ := ha
    have e := act_of (a := a) (n := n) (by rw [h2]; simp [act])
    rw [e, h1]
    refine hQ _ ch w' (fun t ht => ?_) hp
    have h4 := h3 t ht
    rw [act_getD] at h4
    show cond (Nat.blt t n) (a.tmps.getD t undef) undef = cond (Nat.blt t n) (σ t) undef
    rw [h4]
    cases Nat.blt t n <;> rfl
  exact wpIn_region_any hm (by simpa using any_of_GE hput hq _ _ _ _ ⟨rfl, rfl, fun _ _ => rfl⟩ hany)
variable {i : Nat} {r : Od} {S : World → Prop} {d : Option Tmp} {op : Op} {ty : TypeId} {p : String} {af : Array Edge} {v : Value} {R : Value → World → Prop}
theorem snE (k : Q .normal (act n df σ) w) : OSE P PE l Q n df .nil S σ w := ⟨k⟩
theorem spE (hi : l[i]? = some ⟨d, op, ty, p, af, none⟩) (h : Gives P (ev n σ) (fun _ => True) op ty v) (k : OSE P PE l Q n df r S (updO σ d v) w) : OSE P PE l Q n df (.cons i .pure r) S σ w :=
  ⟨⟨_, v, hi, yi rfl h, k.run⟩⟩
theorem shE (hi : l[i]? = some ⟨d, op, ty, p, af, none⟩) (h : Gives P (ev n σ) (KS X w0 I0 I L) op ty v) (k : OSE P PE l Q n df r (KS X w0 I0 I L) (updO σ d v) w) : OSE P PE l Q n df (.cons i .held r) (KS X w0 I0 I L) σ w :=
  ⟨⟨_, v, hi, yi rfl h, k.run⟩⟩
theorem op_doesE {ops : Array Oper} {K : Act → World → Prop} (hi : ops[i]? = some ⟨d, op, ty, p, af, none⟩)
    (h : Does P (ev n σ) op ty w R) (k : ∀ v w', R v w' → K (act n df (updO σ d v)) w') : opRE P PE ops i K (act n df σ) w := by
  unfold opRE
  simp only [hi]
  rw [if_pos (by simp [Region.wanted])]
  unfold opWE
  rw [act_evals, execOp_any]
  exact DoesRE.mono (fun v w' hR => by show K ((act n df σ).put d v) w'; rw [act_put]; exact k v w' hR) (doesRE_of h.run)
theorem op_call {ops : Array Oper} {K : Act → World → Prop} {f : FuncId} {ls : List Operand} {aT : Array TypeId} {vs : List Value} {v0 : Value} {E : World → Prop} (hi : ops[i]? = some ⟨d, .call { callee := .value (.func f), args := ls.toArray, argTypes := aT }, ty, p, af, none⟩)
    (hc : ∀ args w, (callFunc f args).run P w = .ok (.enter f args) w) (ha : ls.map (ev n σ) = vs) (hF : CtrE P f vs w v0 R E) (hE : ∀ w', E w' → PE [{ v := v0, recovered := false }] w') (k : ∀ v w', R v w' → K (act n df (updO σ d v)) w') : opRE P PE ops i K (act n df σ) w := by
  unfold opRE
  simp only [hi]
  rw [if_pos (by simp [Region.wanted])]
  unfold opWE
  rw [act_evals]
  have he : (execOp (ev n σ) ⟨d, .call { callee := .value (.func f), args := ls.toArray, argTypes := aT }, ty, p, af, none⟩).run P w = .ok (.enter f vs.toArray) w := by
    subst ha
    simp [execOp, resolve, Deferred.ofValue, ev, invoke, hc]
  rw [he]
  refine Calls.mono hF.calls fun e w'' h => ?_
  rcases h with ⟨v, rfl, hR⟩ | ⟨rfl, hE'⟩
  · exact .inl ⟨v, rfl, by show K ((act n df σ).put d v) w''; rw [act_put]; exact k v w'' hR⟩
  · exact .inr ⟨_, rfl, hE w'' hE'⟩
theorem scE {f : FuncId} {ls : List Operand} {aT : Array TypeId} {vs : List Value} {v0 : Value} {E : World → Prop} (hi : l[i]? = some ⟨d, .call { callee := .value (.func f), args := ls.toArray, argTypes := aT }, ty, p, af, none⟩)
    (hc : ∀ args w, (callFunc f args).run P w = .ok (.enter f args) w) (ha : ls.map (ev n σ) = vs) (hF : CtrE P f vs w v0 R E) (hE : ∀ w', E w' → PE [{ v := v0, recovered := false }] w')
    (k : ∀ v w', R v w' → ∃ I' L', (∀ w, St X w0 I0 I' w L' → St X w0 I0 I w L) ∧ St X w0 I0 I' w' L' ∧ OSE P PE l Q n df r (KS X w0 I0 I' L') (updO σ d v) w') : OSE P PE l Q n df (.cons i .eff r) (KS X w0 I0 I L) σ w :=
  ⟨op_call (by simpa using hi) hc ha hF hE fun v w' hR => let ⟨I', L', h1, h2, h3⟩ := k v w' hR; ⟨_, KS X w0 I0 I' L', rfl, h1, h2, h3.run⟩⟩
theorem seE (hi : l[i]? = some ⟨d, op, ty, p, af, none⟩) (h : Does P (ev n σ) op ty w R)
    (k : ∀ v w', R v w' → ∃ I' L', (∀ w, St X w0 I0 I' w L' → St X w0 I0 I w L) ∧ St X w0 I0 I' w' L' ∧ OSE P PE l Q n df r (KS X w0 I0 I' L') (updO σ d v) w') : OSE P PE l Q n df (.cons i .eff r) (KS X w0 I0 I L) σ w :=
  ⟨op_doesE (by simpa using hi) h fun v w' hR => let ⟨I', L', h1, h2, h3⟩ := k v w' hR; ⟨_, KS X w0 I0 I' L', rfl, h1, h2, h3.run⟩⟩
theorem sbE (hi : l[i]? = some ⟨d, op, ty, p, af, none⟩) (h : Does P (ev n σ) op ty w R)
    (k : ∀ v w', R v w' → ∃ I' L', St X w0 I0 I' w' L' ∧ OSE P PE l Q n df r (KS X w0 I0 I' L') (updO σ d v) w') : OSE P PE l Q n df (.cons i .bar r) (KS X w0 I0 I L) σ w :=
  ⟨op_doesE (by simpa using hi) h fun v w' hR => let ⟨I', L', h2, h3⟩ := k v w' hR; ⟨_, KS X w0 I0 I' L', rfl, h2, h3.run⟩⟩
end
end Go.Inl

namespace Go.Inl
open Go Go.RowKit
set_option linter.unusedSimpArgs false

section
variable {P : Program} {n : Nat} {σ : Nat → Value} {S : World → Prop} {t t' ty : TypeId} {x y : Operand} {k k' : IntKind} {a b c : Int}
theorem g_shlV {s : Nat} (hx : ev n σ x = .int k a) (hy : ev n σ y = .int k' b) (hb : b = (s : Int)) (hs : Nat.ble s k.bits = true) (h : k.wrap (a * 2 ^ s) = c) : Gives P (ev n σ) S (.binOp .shl t x y t') ty (.int k c) := fun w _ => by
  subst h hb
  have h1 : ¬ (s : Int) < 0 := by omega
  have h2 : min s k.bits = s := Nat.min_eq_left (Nat.le_of_ble_eq_true hs)
  simp [execOp, hx, hy, Sem.run_bind, eqGuard, binOp, Op.shift, h1, h2, Result.andThen]
theorem g_buildArr {e : TypeId} {N sz : Nat} {l : List (Nat × Operand)} {z : Value} {cs : List Value} {ps : List (Nat × Value)} (hz : ∀ w, (zeroValue t).run P w = .ok z w) (hT : P.underlying t = some (.array N e)) (hs : ∀ w, (sizeOf e).run P w = .ok sz w)
    (hps : (l.map fun p => (p.1, ev n σ p.2)) = ps) (hf : Instr.fill (fun i => some (i * sz, sz)) z.cells ps = some cs.toArray) : Gives P (ev n σ) S (.build t l.toArray) ty (.agg cs.toArray) := fun w _ => by
  subst hps
  simp only [execOp, Instr.build, Sem.run_bind, hz, run_underlying hT, Result.andThen_ok, hs]
  simp [hf]
end
end Go.Inl
