/- Slices that stand still, known with all of their block, and taken back as own memory; slices that were appended to as blocks. Conditions: none. -/
import Derived.Test.YtlhehhhpaebpoaaGreatKCore2
namespace Go.Inl
open Go Go.RowKit

section
variable {X : List Nat} {w0 w w' : World} {I0 I J : Imm} {L : List Res}

/-- A slice that stands still, with its whole block. -/
def RowI (I : Imm) (v : Value) (E : TypeId) (sz n : Nat) (xs : List Value) : Prop :=
  xs.length = n * sz ∧ ((v = .slice none 0 0 ∧ n = 0) ∨ ∃ g cap cur, v = .slice (some ⟨g, 0, none⟩) n cap ∧ I g = some (.cells cur E (0, 0)) ∧ n ≤ cap ∧ cap ≤ maxLen ∧ cur.size = cap * sz ∧ cur.toList.take xs.length = xs)
theorem RowI.mono {v : Value} {E : TypeId} {sz n : Nat} {xs : List Value} (h : RowI I v E sz n xs) (hs : Sub I J) : RowI J v E sz n xs := by
  obtain ⟨h1, h | ⟨g, cap, cur, h2, h3, h4⟩⟩ := h
  · exact ⟨h1, .inl h⟩
  · exact ⟨h1, .inr ⟨g, cap, cur, h2, hs _ _ h3, h4⟩⟩
theorem RowI.flat {α : Type} {enc : α → List Value} {sz n : Nat} {v : Value} {E : TypeId} {xs : List α} (he : ∀ x, (enc x).length = sz) (h : RowI I v E sz n (flat enc xs)) (hn : n = xs.length) : RFl I sz enc v xs := by
  obtain ⟨h1, ⟨rfl, h0⟩ | ⟨g, cap, cur, rfl, h3, h4, h5, _, h7⟩⟩ := h
  · have hx := List.length_eq_zero_iff.1 (hn.symm.trans h0)
    exact .inl ⟨⟨none, 0, rfl, by simp, fun _ => rfl⟩, hx⟩
  · subst hn
    refine RFl.of_block he h3 (fun j v hj => ?_) h4 h5
    rw [← h7, List.getElem?_take] at hj
    split at hj
    · simpa using hj
    · cases hj
theorem RowI.own_some {v : Value} {E : TypeId} {sz n : Nat} {xs : List Value} (h : RowI I v E sz n xs) {b : Nat} (hb : v.ownBlock = some b) : ∃ o, I b = some o := by
  obtain ⟨_, ⟨rfl, _⟩ | ⟨g, cap, cur, rfl, h3, _⟩⟩ := h
  · simp [Value.ownBlock] at hb
  · simp only [Value.ownBlock, Option.some.injEq] at hb; subst hb; exact ⟨_, h3⟩
/-- An own slice stands still from here on; its block is new to what stood still before. -/
theorem St.freezeRowI {sz m : Nat} {E : TypeId} {u : Value} {xs : List Value} (h : St [] w0 I0 I w (.row u E sz m xs :: L)) :
    ∃ I', St [] w0 I0 I' w L ∧ Sub I I' ∧ RowI I' u E sz m xs ∧ (∀ b, u.ownBlock = some b → I b = none ∧ w0.heap.size ≤ b) := by
  have hh : w.ownsRow 0 E sz u m xs := h.hold (.row u E sz m xs) (by simp)
  have hn := h.new (.row u E sz m xs) (by simp)
  obtain ⟨h1, h2, h3⟩ := h.freeze
  refine ⟨_, h1, h2, ⟨hh.1, ?_⟩, fun b hb => ?_⟩
  · rcases hh.2 with h | ⟨g, cap, cur, rfl, _, hg, h4, h5, h6, h7⟩
    · exact .inl h
    · exact .inr ⟨g, cap, cur, rfl, by rw [h3 g (by simp [Res.foot, Value.ownBlock]), hg], h4, h5, h6, by rw [hh.1]; exact h7⟩
  · obtain ⟨k1, k2⟩ := hn b (by simp [Res.foot, hb])
    exact ⟨k1, k2.resolve_right (by simp)⟩
theorem row_freezeI {sz m : Nat} {E : TypeId} {u : Value} {xs : List Value} (h : St [] w0 I0 I w [.row u E sz m xs]) :
    ∃ I', Ext w0 I0 w I' ∧ Sub I I' ∧ RowI I' u E sz m xs ∧ (∀ b, u.ownBlock = some b → I b = none ∧ w0.heap.size ≤ b) := St.freezeRowI h

/-- Without a block. -/
def Imm.del (I : Imm) (b : Nat) : Imm := fun c => if c = b then none else I c
theorem Imm.del_sub (I : Imm) (b : Nat) : Sub (I.del b) I := fun c o h => by unfold Imm.del at h; split at h; cases h; exact h
theorem Imm.sub_del {b : Nat} (h : Sub J I) (hb : J b = none) : Sub J (I.del b) := fun c o hc => by
  unfold Imm.del
  rw [if_neg (fun e => by subst e; rw [hb] at hc; cases hc)]
  exact h c o hc
/-- A slice that stands still is own memory again: what was known of its block is given up. -/
theorem St.thaw {sz n : Nat} {E : TypeId} {v : Value} {xs : List Value} (h : St [] w0 I0 I w L) (hr : RowI I v E sz n xs) (hn : ∀ b, v.ownBlock = some b → I0 b = none ∧ w0.heap.size ≤ b) :
    ∃ J, St [] w0 I0 J w (.row v E sz n xs :: L) ∧ Sub J I ∧ (∀ b, v.ownBlock ≠ some b → J b = I b) := by
  obtain ⟨hl, ⟨rfl, h0⟩ | ⟨g, cap, cur, rfl, h3, h4, h5, h6, h7⟩⟩ := hr
  · subst h0
    have := List.length_eq_zero_iff.1 (by simpa using hl)
    subst this
    exact ⟨I, h.nilRow E sz, Sub.refl _, fun _ _ => rfl⟩
  · obtain ⟨k1, k2⟩ := hn g rfl
    have hgL : ∀ r ∈ L, g ∉ r.foot := fun r hr hg => by have := (h.new r hr g hg).1; rw [h3] at this; cases this
    refine ⟨I.del g, ⟨h.os, h.tape, h.output, h.size, h.block, fun b o hb => h.imm b o (Imm.del_sub I g b o hb), ?_, Imm.sub_del h.ext k1, ?_, ?_, ?_⟩, Imm.del_sub I g, fun b hb => by
      unfold Imm.del
      rw [if_neg (fun e => hb (by rw [e]; rfl))]⟩
    · intro b hb
      unfold Imm.del
      rw [if_neg (by omega)]; exact h.old b hb
    · intro r hr
      rcases List.mem_cons.1 hr with rfl | hr
      · exact ⟨hl, .inr ⟨g, cap, cur, rfl, Nat.zero_le _, h.imm _ _ h3, h4, h5, h6, by rw [← hl]; exact h7⟩⟩
      · exact h.hold r hr
    · intro r hr b hb
      rcases List.mem_cons.1 hr with rfl | hr
      · simp only [Res.foot, Value.ownBlock, Option.toList_some, List.mem_singleton] at hb
        subst hb
        exact ⟨by simp [Imm.del], .inl k2⟩
      · refine ⟨?_, (h.new r hr b hb).2⟩
        unfold Imm.del
        split
        · rfl
        · exact (h.new r hr b hb).1
    · simp only [List.flatMap_cons, Res.foot, Value.ownBlock, Option.toList_some, List.singleton_append, List.nodup_cons]
      refine ⟨fun hm => ?_, h.nodup⟩
      obtain ⟨r, hr, hb⟩ := List.mem_flatMap.1 hm
      exact hgL r hr hb

/-- What is known of a slice, in another memory that has the same of its block. -/
theorem RFl.at_block {α : Type} {sz : Nat} {enc : α → List Value} {v : Value} {xs : List α} (h : RFl I sz enc v xs) (hJ : ∀ b, v.ownBlock = some b → J b = I b) : RFl J sz enc v xs := by
  rcases h with h | ⟨b, o, cap, h1, h2, h3, h4⟩
  · exact .inl h
  · refine .inr ⟨b, o, cap, h1, h2, h3, fun i x hx => ?_⟩
    obtain ⟨cs, c1, ⟨c2, c, T, fz, c3, c4⟩, c5⟩ := h4 i x hx
    refine ⟨cs, c1, ⟨c2, c, T, fz, ?_, c4⟩, c5⟩
    rw [hJ b (by rw [h1]; rfl)]; exact c3
theorem RowI.at_block {sz n : Nat} {E : TypeId} {v : Value} {xs : List Value} (h : RowI I v E sz n xs) (hJ : ∀ b, v.ownBlock = some b → J b = I b) : RowI J v E sz n xs := by
  obtain ⟨h1, h | ⟨g, cap, cur, h2, h3, h4⟩⟩ := h
  · exact ⟨h1, .inl h⟩
  · exact ⟨h1, .inr ⟨g, cap, cur, h2, by rw [hJ g (by rw [h2]; rfl)]; exact h3, h4⟩⟩
/-- A slice that was appended to, as a block. -/
theorem St.rowCel (k : Nat) {sz n c : Nat} {E : TypeId} {a : Option Addr} {xs : List Value} (h : St X w0 I0 I w L) (hk : L[k]? = some (.row (.slice a n c) E sz n xs)) (hn : 0 < n) :
    ∃ b rest, a = some ⟨b, 0, none⟩ ∧ n ≤ c ∧ c ≤ maxLen ∧ (xs ++ rest).length = c * sz ∧ xs.length = n * sz ∧ St X w0 I0 I w (L.set k (.cel b E (xs ++ rest))) := by
  have hh : w.ownsRow 0 E sz (.slice a n c) n xs := h.hold _ (List.mem_of_getElem? hk)
  obtain ⟨hl, h0 | ⟨g, cap, cur, hv, _, hg, h4, h5, h6, h7⟩⟩ := hh
  · obtain ⟨_, h0⟩ := h0; omega
  · simp only [Value.slice.injEq] at hv
    obtain ⟨rfl, _, rfl⟩ := hv
    have e : xs ++ cur.toList.drop xs.length = cur.toList := by
      conv => lhs; lhs; rw [← h7, ← hl]
      exact List.take_append_drop _ _
    refine ⟨g, cur.toList.drop xs.length, rfl, h4, h5, by rw [e]; simpa using h6, hl, ?_⟩
    rw [e]
    refine h.change hk (r' := .cel g E cur.toList) rfl rfl rfl (Nat.le_refl _) (fun _ _ _ => rfl) (fun c hc => .inl (by simpa [Res.foot, Value.ownBlock] using hc)) (by simp [Res.foot]) ?_
    show w.heap[g]? = _
    simpa using hg
theorem St.celRow (k : Nat) {sz n c b : Nat} {E : TypeId} {xs rest : List Value} (h : St X w0 I0 I w L) (hk : L[k]? = some (.cel b E (xs ++ rest))) (hl : xs.length = n * sz) (hn : n ≤ c) (hc : c ≤ maxLen) (hr : (xs ++ rest).length = c * sz) :
    St X w0 I0 I w (L.set k (.row (.slice (some ⟨b, 0, none⟩) n c) E sz n xs)) := by
  have hh : w.heap[b]? = some (.cells (xs ++ rest).toArray E (0, 0)) := h.hold _ (List.mem_of_getElem? hk)
  refine h.change hk (r' := .row (.slice (some ⟨b, 0, none⟩) n c) E sz n xs) rfl rfl rfl (Nat.le_refl _) (fun _ _ _ => rfl) (fun d hd => .inl (by simpa [Res.foot, Value.ownBlock] using hd)) (by simp [Res.foot, Value.ownBlock]) ?_
  exact ⟨hl, .inr ⟨b, c, _, rfl, Nat.zero_le _, hh, hn, hc, by simpa using hr, by rw [← hl]; simp⟩⟩
end

section
variable {P : Program} {n : Nat} {σ : Nat → Value} {ty t : TypeId} {x y : Operand} {X : List Nat} {w0 w : World} {I0 I : Imm} {L : List Res}
/-- make([]T, n): n times the zero value. -/
theorem d_makeF {α : Type} {enc : α → List Value} {sz by' : Nat} (he : ∀ x, (enc x).length = sz) (a : α) (N : Nat) {e : TypeId} {z : Value} {kl kc : IntKind} {m : Int} (hS : St X w0 I0 I w L) (hT : P.underlying t = some (.slice e)) (hi : Info P e z sz by') (hz : z.cells = (enc a).toArray) (hsz : Nat.blt 0 sz = true)
    (hx : ev n σ x = .int kl m) (hy : ev n σ y = .int kc m) (hm : m = N) (hN : N ≤ 4294967296) (hb : Nat.ble by' 1024 = true) :
    Does P (ev n σ) (.makeSlice t x y) ty w fun v w' => ∃ b, v = .slice (some ⟨b, 0, none⟩) N N ∧ St X w0 I0 I w' (.cel b e (flat enc (List.replicate N a)) :: L) := by
  subst hm
  have hb' : by' ≤ 1024 := Nat.le_of_ble_eq_true hb
  have h1 : by' * N ≤ 1024 * 4294967296 := Nat.mul_le_mul hb' hN
  refine (i_make hS hT hi hx hy (by omega) (Int.le_refl _) (by rw [← Int.natCast_mul]; omega) (by omega)).mono ?_
  rintro v w' ⟨b, rfl, h⟩
  refine ⟨b, rfl, ?_⟩
  rw [hz, Int.toNat_natCast, madeCells_flat he (by simpa using hsz) N a] at h
  exact h
end

/-- One element of a flat block turns. -/
theorem putL_self : ∀ (us vs : List Value), us.length = vs.length → putL us 0 vs = vs
  | [], [], _ => rfl
  | [], v :: vs, h => by simp at h
  | u :: us, [], h => by simp at h
  | u :: us, v :: vs, h => by
    show v :: putL us 0 vs = _
    rw [putL_self us vs (by simpa using h)]
theorem putL_flat {α : Type} {enc : α → List Value} {sz : Nat} (he : ∀ x, (enc x).length = sz) (x : α) (rest : List Value) : ∀ (xs : List α) (i : Nat), i < xs.length → putL (flat enc xs ++ rest) (i * sz) (enc x) = flat enc (xs.set i x) ++ rest
  | [], i, h => by simp at h
  | y :: xs, 0, _ => by
    simp only [flat, List.flatMap_cons, List.set_cons_zero, Nat.zero_mul, List.append_assoc]
    rw [putL_left (enc y) _ 0 (enc x) (by rw [he, he]; omega), putL_self _ _ (by rw [he, he])]
  | y :: xs, i + 1, h => by
    have := putL_flat he x rest xs i (by simpa using h)
    simp only [flat, List.flatMap_cons, List.set_cons_succ, List.append_assoc] at this ⊢
    rw [show (i + 1) * sz = (enc y).length + i * sz by rw [he, Nat.add_mul]; omega, putL_app, this]
theorem putL_flat0 {α : Type} {enc : α → List Value} {sz : Nat} (he : ∀ x, (enc x).length = sz) (x : α) (xs : List α) (i : Nat) (h : i < xs.length) : putL (flat enc xs) (i * sz) (enc x) = flat enc (xs.set i x) := by
  have := putL_flat he x [] xs i h
  simpa using this
/-- The block around one element. -/
theorem flat_focus {α : Type} {enc : α → List Value} {xs : List α} {i : Nat} {x : α} (rest : List Value) (h : xs[i]? = some x) : flat enc xs ++ rest = flat enc (xs.take i) ++ (enc x ++ (flat enc (xs.drop (i + 1)) ++ rest)) := by
  obtain ⟨hi, rfl⟩ := List.getElem?_eq_some_iff.1 h
  have e : flat enc xs = flat enc (xs.take i) ++ (enc xs[i] ++ flat enc (xs.drop (i + 1))) := by
    conv => lhs; rw [← List.take_append_drop i xs, List.drop_eq_getElem_cons hi]
    rw [flat_append]
    simp only [flat, List.flatMap_cons]
  rw [e]
  simp only [List.append_assoc]
theorem flat_unfocus {α : Type} {enc : α → List Value} {xs : List α} {i : Nat} (y : α) (rest : List Value) (hi : i < xs.length) : flat enc (xs.take i) ++ (enc y ++ (flat enc (xs.drop (i + 1)) ++ rest)) = flat enc (xs.set i y) ++ rest := by
  rw [flat_focus (xs := xs.set i y) (i := i) (x := y) rest (by simp [hi])]
  rw [List.take_set_of_le (Nat.le_refl i), List.drop_set_of_lt (by omega)]
section
variable {P : Program} {n : Nat} {σ : Nat → Value} {ty t : TypeId} {x y : Operand} {X : List Nat} {w0 w : World} {I0 I : Imm} {L : List Res}
/-- A part of an element of an own slice turns. -/
theorem d_storeRow (k : Nat) {α : Type} {enc : α → List Value} {sz : Nat} (he : ∀ x, (enc x).length = sz) {xs : List α} {a : Option Addr} {N cap i c m : Nat} {E : TypeId} {x0 : α} (x1 : α) (hS : St X w0 I0 I w L) (hN : N = xs.length) (h0 : xs[i]? = some x0) (hm : ∀ w, (sizeOf t).run P w = .ok m w)
    (hL : L[k]? = some (.row (.slice a N cap) E sz N (flat enc xs))) (hx : ev n σ x = .pointer (some (elA (.slice a N cap) i sz c))) {v : Value} (hy : ev n σ y = v) {vs : List Value} (hv : v.cells.toList = vs) (hlen : vs.length = m) (h1 : vs.all (·.oneCell') = true)
    (hl : Nat.ble (c + m) sz = true) (hc : putL (enc x0) c vs = enc x1) : Does P (ev n σ) (.store t x y) ty w fun u w' => u = undef ∧ St X w0 I0 I w' (L.set k (.row (.slice a N cap) E sz N (flat enc (xs.set i x1)))) := by
  have hi := (List.getElem?_eq_some_iff.1 h0).1
  have hl' : c + m ≤ sz := Nat.le_of_ble_eq_true hl
  obtain ⟨b, rest, rfl, hnc, hcm, hrl, hxl, hS2⟩ := hS.rowCel k hL (by omega)
  have hk := (List.getElem?_eq_some_iff.1 hL).1
  have hfo := flat_focus (enc := enc) rest h0
  rw [hfo] at hS2
  have hx' : ev n σ x = .pointer (some ⟨b, i * sz + c, none⟩) := by rw [hx]; simp [elA]
  have hpre : i * sz = (flat enc (xs.take i)).length := by rw [flat_length he, List.length_take, Nat.min_eq_left (by omega)]
  refine (d_storeF k (L := L.set k (.cel b E (flat enc (xs.take i) ++ (enc x0 ++ (flat enc (xs.drop (i + 1)) ++ rest))))) (row' := enc x1) hS2 hm (List.getElem?_set_self hk) hpre hx' hy hv hlen h1 (by rw [he]; omega) hc).mono ?_
  rintro u w' ⟨rfl, hS3⟩
  refine ⟨rfl, ?_⟩
  rw [List.set_set, flat_unfocus x1 rest hi] at hS3
  have hlen2 : (flat enc (xs.set i x1)).length = (flat enc xs).length := by rw [flat_length he, flat_length he, List.length_set]
  have hS4 := hS3.celRow k (n := N) (c := cap) (xs := flat enc (xs.set i x1)) (rest := rest) (List.getElem?_set_self hk) (by rw [hlen2, hxl]) hnc hcm (by rw [List.length_append, hlen2, ← List.length_append, hrl])
  rwa [List.set_set] at hS4
end
end Go.Inl
