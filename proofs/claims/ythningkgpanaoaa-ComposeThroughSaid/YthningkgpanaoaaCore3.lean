/- What is known of memory: a heap that stands still, and a list of own blocks; how each step turns it. Conditions: none. -/
import Derived.Test.YthningkgpanaoaaCore2
namespace Go.Inl
open Go Go.RowKit

abbrev Imm := Nat → Option Obj
def Sat (I : Imm) (w : World) : Prop := ∀ b o, I b = some o → w.heap[b]? = some o
def Sub (I J : Imm) : Prop := ∀ b o, I b = some o → J b = some o
theorem Sub.refl (I : Imm) : Sub I I := fun _ _ h => h
theorem Sub.trans {I J K : Imm} (h : Sub I J) (k : Sub J K) : Sub I K := fun b o e => k b o (h b o e)

/-- Own memory: a block known whole; a slice that is appended to; any other object. -/
inductive Res where
  | cel (b : Nat) (T : TypeId) (cs : List Value)
  | row (v : Value) (E : TypeId) (sz : Nat) (n : Nat) (xs : List Value)
  | obj (b : Nat) (o : Obj)
def Res.holds (w : World) : Res → Prop
  | .cel b T cs => w.heap[b]? = some (.cells cs.toArray T (0, 0))
  | .row v E sz n xs => w.ownsRow 0 E sz v n xs
  | .obj b o => w.heap[b]? = some o
def Res.foot : Res → List Nat
  | .cel b _ _ => [b]
  | .row v _ _ _ _ => v.ownBlock.toList
  | .obj b _ => [b]

theorem Res.foot_lt {w : World} {r : Res} (h : r.holds w) : ∀ b ∈ r.foot, b < w.heap.size := by
  intro b hb
  cases r with
  | cel b' T cs => simp only [Res.foot, List.mem_singleton] at hb; subst hb; exact (Array.getElem?_eq_some_iff.1 h).1
  | obj b' o => simp only [Res.foot, List.mem_singleton] at hb; subst hb; exact (Array.getElem?_eq_some_iff.1 h).1
  | row v E sz n xs =>
    simp only [Res.foot, Option.mem_toList] at hb
    exact (World.ownsRow.lt h b hb).2

theorem Res.holds_of {w w' : World} {r : Res} (h : r.holds w) (hb : ∀ b ∈ r.foot, w'.heap[b]? = w.heap[b]?) : r.holds w' := by
  cases r with
  | cel b' T cs => exact (hb b' (by simp [Res.foot])).trans h
  | obj b' o => exact (hb b' (by simp [Res.foot])).trans h
  | row v E sz n xs =>
    obtain ⟨h1, h2⟩ := h
    refine ⟨h1, ?_⟩
    rcases h2 with h2 | ⟨g, cap, cur, hv, hg, hh, r⟩
    · exact .inl h2
    · exact .inr ⟨g, cap, cur, hv, hg, (hb g (by simp [Res.foot, hv, Value.ownBlock])).trans hh, r⟩

structure St (X : List Nat) (w0 : World) (I0 I : Imm) (w : World) (L : List Res) : Prop where
  os : w.os = w0.os
  tape : w.tape = w0.tape
  output : w.output = w0.output
  size : w0.heap.size ≤ w.heap.size
  block : ∀ k, k < w0.heap.size → k ∉ X → w.heap[k]? = w0.heap[k]?
  imm : Sat I w
  old : ∀ b, b < w0.heap.size → I b = I0 b
  ext : Sub I0 I
  hold : ∀ r ∈ L, r.holds w
  new : ∀ r ∈ L, ∀ b ∈ r.foot, I b = none ∧ (w0.heap.size ≤ b ∨ b ∈ X)
  nodup : (L.flatMap Res.foot).Nodup

/-- The caller's view: nothing of what was there has turned, and what stands still has grown. -/
def Ext (w : World) (I : Imm) (w' : World) (I' : Imm) : Prop := St [] w I I' w' []

section
variable {X : List Nat} {w0 w w' : World} {I0 I I' : Imm} {L L' : List Res}

theorem St.start (h : Sat I w) : St [] w I I w [] :=
  ⟨rfl, rfl, rfl, Nat.le_refl _, fun _ _ _ => rfl, h, fun _ _ => rfl, Sub.refl _, by simp, by simp, by simp⟩

theorem St.none_of_size (h : St X w0 I0 I w L) {b : Nat} (hb : w.heap.size ≤ b) : I b = none := by
  cases hI : I b with
  | none => rfl
  | some o => have := (Array.getElem?_eq_some_iff.1 (h.imm b o hI)).1; omega

theorem St.foot_lt (h : St X w0 I0 I w L) : ∀ b ∈ L.flatMap Res.foot, b < w.heap.size := by
  intro b hb
  obtain ⟨r, hr, hb⟩ := List.mem_flatMap.1 hb
  exact Res.foot_lt (h.hold r hr) b hb

/-- A new block. -/
theorem St.alloc (h : St X w0 I0 I w L) (T : TypeId) (cs : List Value) : St X w0 I0 I (w.alloc (.cells cs.toArray T)) (.cel w.heap.size T cs :: L) := by
  have keep : ∀ k, k < w.heap.size → (w.alloc (.cells cs.toArray T)).heap[k]? = w.heap[k]? := fun k hk => Below.heap_alloc _ _ _ hk
  refine ⟨h.os, h.tape, h.output, Nat.le_trans h.size (by simp), fun k hk hx => (keep k (Nat.lt_of_lt_of_le hk h.size)).trans (h.block k hk hx), ?_, h.old, h.ext, ?_, ?_, ?_⟩
  · intro b o hb
    exact (keep b (Array.getElem?_eq_some_iff.1 (h.imm b o hb)).1).trans (h.imm b o hb)
  · intro r hr
    cases List.mem_cons.1 hr with
    | inl e => subst e; exact heap_alloc_new w _
    | inr hr => exact Res.holds_of (h.hold r hr) (fun b hb => keep b (Res.foot_lt (h.hold r hr) b hb))
  · intro r hr b hb
    cases List.mem_cons.1 hr with
    | inl e => subst e; simp only [Res.foot, List.mem_singleton] at hb; subst hb; exact ⟨h.none_of_size (Nat.le_refl _), .inl h.size⟩
    | inr hr => exact h.new r hr b hb
  · simp only [List.flatMap_cons, Res.foot, List.singleton_append, List.nodup_cons]
    exact ⟨fun hm => by have := h.foot_lt _ hm; omega, h.nodup⟩

/-- An own block turns, or grows into a new one. -/
theorem St.change (h : St X w0 I0 I w L) {k : Nat} {r r' : Res} (hk : L[k]? = some r) (hos : w'.os = w.os) (ht : w'.tape = w.tape) (ho : w'.output = w.output) (hs : w.heap.size ≤ w'.heap.size)
    (hb : ∀ b, b < w.heap.size → b ∉ r.foot → w'.heap[b]? = w.heap[b]?) (hf : ∀ b ∈ r'.foot, b ∈ r.foot ∨ w.heap.size ≤ b) (hn : r'.foot.Nodup) (hr : r'.holds w') : St X w0 I0 I w' (L.set k r') := by
  have hkl : k < L.length := (List.getElem?_eq_some_iff.1 hk).1
  have hrL : r ∈ L := List.mem_of_getElem? hk
  have hL : L = L.take k ++ r :: L.drop (k + 1) := by
    have := List.getElem?_eq_some_iff.1 hk
    rw [← this.2, ← List.drop_eq_getElem_cons this.1, List.take_append_drop]
  have hL' : L.set k r' = L.take k ++ r' :: L.drop (k + 1) := List.set_eq_take_append_cons_drop .. |>.trans (by simp [hkl])
  have hnd := h.nodup
  rw [hL] at hnd
  simp only [List.flatMap_append, List.flatMap_cons] at hnd
  obtain ⟨n1, n2, n3⟩ := List.nodup_append.1 hnd
  obtain ⟨n4, n5, n6⟩ := List.nodup_append.1 n2
  have other : ∀ s, s ∈ L.take k ∨ s ∈ L.drop (k + 1) → ∀ b ∈ s.foot, b ∉ r.foot := by
    intro s hs b hb hbr
    rcases hs with hs | hs
    · exact n3 b (List.mem_flatMap.2 ⟨s, hs, hb⟩) b (List.mem_append.2 (.inl hbr)) rfl
    · exact n6 b hbr b (List.mem_flatMap.2 ⟨s, hs, hb⟩) rfl
  have inL : ∀ s, s ∈ L.take k ∨ s ∈ L.drop (k + 1) → s ∈ L := fun s hs => hs.elim List.mem_of_mem_take List.mem_of_mem_drop
  have cases' : ∀ s ∈ L.set k r', s = r' ∨ (s ∈ L.take k ∨ s ∈ L.drop (k + 1)) := by
    intro s hs
    rw [hL'] at hs
    rcases List.mem_append.1 hs with hs | hs
    · exact .inr (.inl hs)
    · rcases List.mem_cons.1 hs with hs | hs
      · exact .inl hs
      · exact .inr (.inr hs)
  have out : ∀ b, b < w0.heap.size → b ∉ X → b ∉ r.foot := fun b hb hx hbr => by
    rcases (h.new r hrL b hbr).2 with h' | h'
    · omega
    · exact hx h'
  refine ⟨hos.trans h.os, ht.trans h.tape, ho.trans h.output, Nat.le_trans h.size hs, fun b hb' hx => (hb b (Nat.lt_of_lt_of_le hb' h.size) (out b hb' hx)).trans (h.block b hb' hx), ?_, h.old, h.ext, ?_, ?_, ?_⟩
  · intro b o hI
    have h1 := h.imm b o hI
    rw [hb b (Array.getElem?_eq_some_iff.1 h1).1 (fun hbr => by have := (h.new r hrL b hbr).1; rw [this] at hI; cases hI)]
    exact h1
  · intro s hs'
    rcases cases' s hs' with rfl | hs'
    · exact hr
    · exact Res.holds_of (h.hold s (inL s hs')) (fun b hb' => hb b (Res.foot_lt (h.hold s (inL s hs')) b hb') (other s hs' b hb'))
  · intro s hs' b hb'
    rcases cases' s hs' with rfl | hs'
    · rcases hf b hb' with hbr | hbr
      · exact h.new r hrL b hbr
      · exact ⟨h.none_of_size hbr, .inl (Nat.le_trans h.size hbr)⟩
    · exact h.new s (inL s hs') b hb'
  · rw [hL']
    simp only [List.flatMap_append, List.flatMap_cons]
    refine List.nodup_append.2 ⟨n1, List.nodup_append.2 ⟨hn, n5, ?_⟩, ?_⟩
    · intro a ha b hb' e
      subst e
      rcases hf a ha with hbr | hbr
      · exact n6 a hbr a hb' rfl
      · obtain ⟨s, hs', hb''⟩ := List.mem_flatMap.1 hb'
        have := Res.foot_lt (h.hold s (inL s (.inr hs'))) a hb''
        omega
    · intro a ha b hb' e
      subst e
      obtain ⟨s, hs', ha'⟩ := List.mem_flatMap.1 ha
      rcases List.mem_append.1 hb' with hb' | hb'
      · rcases hf a hb' with hbr | hbr
        · exact other s (.inl hs') a ha' hbr
        · have := Res.foot_lt (h.hold s (inL s (.inl hs'))) a ha'
          omega
      · exact n3 a ha a (List.mem_append.2 (.inr hb')) rfl

/-- A part of the own blocks is forgotten: a mask says which are kept. -/
def sel : List Bool → List Res → List Res
  | true :: m, r :: L => r :: sel m L
  | false :: m, _ :: L => sel m L
  | _, _ => []
theorem sel_sub : ∀ (m : List Bool) (L : List Res), (sel m L).Sublist L
  | [], L => by simp [sel]
  | true :: m, [] => by simp [sel]
  | false :: m, [] => by simp [sel]
  | true :: m, r :: L => by simpa [sel] using sel_sub m L
  | false :: m, r :: L => by simpa [sel] using (sel_sub m L).trans (List.sublist_cons_self r L)

theorem flatMap_sub {L' L : List Res} (h : L'.Sublist L) : (L'.flatMap Res.foot).Sublist (L.flatMap Res.foot) := by
  induction h with
  | slnil => simp
  | cons a _ ih => simp only [List.flatMap_cons]; exact ih.trans (List.sublist_append_right _ _)
  | cons_cons a _ ih => simp only [List.flatMap_cons]; exact (List.Sublist.refl _).append ih

theorem St.sub (h : St X w0 I0 I w L) (hs : L'.Sublist L) : St X w0 I0 I w L' :=
  ⟨h.os, h.tape, h.output, h.size, h.block, h.imm, h.old, h.ext, fun r hr => h.hold r (hs.subset hr), fun r hr => h.new r (hs.subset hr), (flatMap_sub hs).nodup h.nodup⟩
theorem St.sel (h : St X w0 I0 I w L) (m : List Bool) : St X w0 I0 I w (sel m L) := h.sub (sel_sub m L)
theorem St.nil (h : St X w0 I0 I w L) : St X w0 I0 I w [] := h.sub (List.nil_sublist L)

/-- Order does not matter. -/
theorem St.perm (h : St X w0 I0 I w L) (hp : L'.Perm L) : St X w0 I0 I w L' :=
  ⟨h.os, h.tape, h.output, h.size, h.block, h.imm, h.old, h.ext, fun r hr => h.hold r (hp.subset hr), fun r hr => h.new r (hp.subset hr), ((hp.flatMap_right Res.foot).nodup_iff).2 h.nodup⟩

/-- Only the count of draws has moved. -/
theorem St.alike (h : St X w0 I0 I w L) (ho : w'.os = w.os) (ht : w'.tape = w.tape) (hu : w'.output = w.output) (hh : w'.heap = w.heap) : St X w0 I0 I w' L :=
  ⟨ho.trans h.os, ht.trans h.tape, hu.trans h.output, by rw [hh]; exact h.size, fun k hk hx => by rw [hh]; exact h.block k hk hx, fun b o hI => by rw [hh]; exact h.imm b o hI, h.old, h.ext,
    fun r hr => Res.holds_of (h.hold r hr) (fun b _ => by rw [hh]), h.new, h.nodup⟩

/-- Behind a call. -/
theorem St.call (h : St X w0 I0 I w L) (h' : St [] w I I' w' L') : St X w0 I0 I' w' (L' ++ L) := by
  have keep : ∀ b, b < w.heap.size → w'.heap[b]? = w.heap[b]? := fun b hb => h'.block b hb (by simp)
  refine ⟨h'.os.trans h.os, h'.tape.trans h.tape, h'.output.trans h.output, Nat.le_trans h.size h'.size, fun k hk hx => (keep k (Nat.lt_of_lt_of_le hk h.size)).trans (h.block k hk hx), h'.imm,
    fun b hb => (h'.old b (Nat.lt_of_lt_of_le hb h.size)).trans (h.old b hb), h.ext.trans h'.ext, ?_, ?_, ?_⟩
  · intro r hr
    rcases List.mem_append.1 hr with hr | hr
    · exact h'.hold r hr
    · exact Res.holds_of (h.hold r hr) (fun b hb => keep b (Res.foot_lt (h.hold r hr) b hb))
  · intro r hr b hb
    rcases List.mem_append.1 hr with hr | hr
    · obtain ⟨h1, h2⟩ := h'.new r hr b hb
      refine ⟨h1, .inl ?_⟩
      rcases h2 with h2 | h2
      · exact Nat.le_trans h.size h2
      · simp at h2
    · obtain ⟨h1, h2⟩ := h.new r hr b hb
      exact ⟨(h'.old b (Res.foot_lt (h.hold r hr) b hb)).trans h1, h2⟩
  · rw [List.flatMap_append]
    refine List.nodup_append.2 ⟨h'.nodup, h.nodup, ?_⟩
    intro a ha b hb e
    subst e
    have h1 := h.foot_lt a hb
    obtain ⟨r, hr, ha'⟩ := List.mem_flatMap.1 ha
    rcases (h'.new r hr a ha').2 with h2 | h2
    · omega
    · simp at h2

/-- An own block stands still from here on. -/
def Imm.add (I : Imm) (w : World) (l : List Nat) : Imm := fun b => if b ∈ l then w.heap[b]? else I b
theorem St.freeze {r : Res} (h : St [] w0 I0 I w (r :: L)) : St [] w0 I0 (I.add w r.foot) w L ∧ Sub I (I.add w r.foot) ∧ (∀ b ∈ r.foot, (I.add w r.foot) b = w.heap[b]?) := by
  have hn : ∀ b ∈ r.foot, I b = none ∧ w0.heap.size ≤ b := fun b hb => by
    obtain ⟨h1, h2⟩ := h.new r (by simp) b hb
    exact ⟨h1, h2.resolve_right (by simp)⟩
  have hsub : Sub I (I.add w r.foot) := by
    intro b o hI
    unfold Imm.add
    by_cases hb : b ∈ r.foot
    · rw [(hn b hb).1] at hI; cases hI
    · simp [hb, hI]
  have hnd := h.nodup
  simp only [List.flatMap_cons] at hnd
  obtain ⟨n1, n2, n3⟩ := List.nodup_append.1 hnd
  refine ⟨⟨h.os, h.tape, h.output, h.size, h.block, ?_, ?_, h.ext.trans hsub, fun s hs => h.hold s (by simp [hs]), ?_, n2⟩, hsub, fun b hb => by simp [Imm.add, hb]⟩
  · intro b o hI
    unfold Imm.add at hI
    by_cases hb : b ∈ r.foot
    · simpa [hb] using hI
    · simp [hb] at hI; exact h.imm b o hI
  · intro b hb
    unfold Imm.add
    have : b ∉ r.foot := fun hbr => by have := (hn b hbr).2; omega
    simp [this, h.old b hb]
  · intro s hs b hb
    obtain ⟨h1, h2⟩ := h.new s (by simp [hs]) b hb
    have : b ∉ r.foot := fun hbr => n3 b hbr b (List.mem_flatMap.2 ⟨s, hs, hb⟩) rfl
    exact ⟨by simp [Imm.add, this, h1], h2⟩
end
end Go.Inl
