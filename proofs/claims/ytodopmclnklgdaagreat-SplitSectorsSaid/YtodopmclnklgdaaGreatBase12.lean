/- Sections as they are made here are named, apart and in order; joins of right patches. Conditions: none. -/
import Derived.Test.YtodopmclnklgdaaGreatSanity12
namespace Go.Proofs.YtodopmclnklgdaaGreat
open Go Go.RowKit Go.Inl
set_option linter.unusedSimpArgs false
set_option linter.unusedVariables false
theorem goS_spec {n : Int} : ∀ (l : List R1L), (∀ r ∈ l, r.wf) → ∀ (k : Nat) (a : Int) (i : Nat) (s : SecL), (goS n k a l)[i]? = some s →
    s.name = nameS (k + i) ∧ k + i < 8 ∧ (if i = 0 then a else ((goS n k a l).getD (i - 1) secZ).to) ≤ s.from_ ∧ s.from_ < s.to ∧ s.to ≤ n ∧ s.to ≤ a + 100 * ((i : Int) + 1) ∧ (s.code = true → s.from_ % 4 = 0 ∧ s.to % 4 = 0)
  | [], _, k, a, i, s, h => by simp [goS] at h
  | r :: l, hw, k, a, i, s, h => by
    by_cases h1 : 8 ≤ k
    · rw [goS_stop (.inr h1)] at h; simp at h
    · by_cases h2 : n < (stepS k a r).to
      · rw [goS_big h2] at h; simp at h
      · have e := goS_cons (l := l) (by omega : k < 8) h2
        rw [e] at h ⊢
        obtain ⟨b1, b2, b3, b4, b5⟩ := step_bd (k := k) (a := a) (hw r (by simp))
        cases i with
        | zero =>
          simp only [List.getElem?_cons_zero, Option.some.injEq] at h
          subst h
          exact ⟨by rw [b5, Nat.add_zero], by omega, by simpa using b1, b2, by omega, by simp; omega, b4⟩
        | succ i =>
          rw [List.getElem?_cons_succ] at h
          obtain ⟨c1, c2, c3, c4, c5, c6, c7⟩ := goS_spec l (fun r hr => hw r (by simp [hr])) (k + 1) (stepS k a r).to i s h
          refine ⟨by rw [c1]; congr 1; omega, by omega, ?_, c4, c5, by simp only [Int.natCast_add, Int.cast_ofNat_Int]; omega, c7⟩
          rw [if_neg (by omega)]
          cases i with
          | zero => simpa using c3
          | succ i => simpa using c3
theorem names_ne : ∀ k < 8, ∀ i < k, ((nameS i).toList == (nameS k).toList) = false := by
  intro k hk i hi
  rw [toList_data, toList_data]
  have h : ((List.range 8).all fun k => (List.range k).all fun i => !((nameS i).data.toList == (nameS k).data.toList)) = true := by kernel_rfl
  rw [List.all_eq_true] at h
  have h2 := h k (List.mem_range.2 hk)
  rw [List.all_eq_true] at h2
  simpa using h2 i (List.mem_range.2 hi)
def okName (s : ByteArray) : Bool := decide (1 ≤ s.size) && decide (s.size ≤ 12) && (List.range s.size).all fun i => alnum (s.get! i).toNat
theorem okName_s {s : ByteArray} (h : okName s = true) : NameOk s := by
  simp only [okName, Bool.and_eq_true, decide_eq_true_eq, List.all_eq_true, List.mem_range] at h
  refine ⟨h.1.1, h.1.2, fun i hi => ?_⟩
  have := h.2 i hi
  simp only [alnum, Bool.or_eq_true, Bool.and_eq_true, decide_eq_true_eq] at this
  omega
theorem names_ok : ∀ k < 8, NameOk (nameS k) := by
  intro k hk
  have h : ((List.range 8).all fun k => okName (nameS k)) = true := by kernel_rfl
  rw [List.all_eq_true] at h
  exact okName_s (h k (List.mem_range.2 hk))
theorem madeS_ok {l : List R1L} (n : Int) (hw : ∀ r ∈ l, r.wf) : SecsOk (madeS l n) := by
  have hs : ∀ (i : Nat) (s : SecL), (madeS l n)[i]? = some s → _ := fun i s h => goS_spec l hw 0 0 i s h
  refine ⟨?_, ?_, ?_⟩
  · apply Decidable.byContradiction
    intro h
    have hx : (madeS l n)[8]? = some (madeS l n)[8] := List.getElem?_eq_getElem (by omega)
    have := (hs 8 _ hx).2.1
    omega
  · intro k s h
    obtain ⟨c1, c2, c3, c4, c5, c6, c7⟩ := hs k s h
    rw [Nat.zero_add] at c1 c2
    refine ⟨by rw [c1]; exact names_ok k c2, c3, c4, by omega, c7⟩
  · intro i k s t hik h1 h2
    obtain ⟨c1, c2, _⟩ := hs i s h1
    obtain ⟨d1, d2, _⟩ := hs k t h2
    rw [Nat.zero_add] at c1 d1
    rw [c1, d1]
    exact names_ne k (by omega) i hik
theorem joinP_wf {l : List PatL} (hw : ∀ p ∈ l, p.wf) : (joinP l).1.wf := by
  unfold joinP
  split
  · exact zero_wf
  · split
    · exact zero_wf
    · rename_i h1
      split
      · exact zero_wf
      · split
        · exact zero_wf
        · dsimp only
          split
          · exact zero_wf
          · have hc : ∀ p ∈ l, (checkP p).2 = 0 := by
              intro p hp
              apply Decidable.byContradiction
              intro h
              exact h1 (List.any_eq_true.2 ⟨p, hp, by simpa using h⟩)
            have h := cheapP_wf (n := (firstP l).in_) (flat_wf hw hc)
            exact ⟨h.in_, h.out, h.ops, h.len⟩
theorem partsP_wf {p : PatL} (hp : p.wf) (hc : (checkP p).2 = 0) (rs : List (Int × Int)) : ∀ q ∈ partsP p rs, q.wf := by
  intro q hq
  obtain ⟨r, _, rfl⟩ := List.mem_map.1 hq
  exact cheapP_wf (partP_wf hp hc r)
theorem splitP_wf {p : PatL} (hp : p.wf) (l : List SecL) : ∀ q ∈ (splitP p l).1, q.wf := by
  unfold splitP
  split
  · simp
  · rename_i h
    split
    · simp
    · exact partsP_wf hp (plain_ok (by simpa using h)) _
theorem sectorsP_wf {p : PatL} (hp : p.wf) (size : Int) : ∀ q ∈ (sectorsP p size).1, q.wf := by
  unfold sectorsP
  split
  · simp
  · rename_i h
    split
    · simp
    · exact partsP_wf hp (plain_ok (by simpa using h)) _
theorem whole3_ok : (checkP (wholeP 3)).2 = 0 := by kernel_rfl
theorem many_ok {l : List RawL} {n : Nat} (hw : ∀ x ∈ l, x.wf) (hn : n ≤ 4) : (∀ p ∈ manyP l n, p.wf ∧ (checkP p).2 = 0 ∧ p.out ≤ 30 ∧ p.lifted = false) ∧ 1 ≤ (manyP l n).length ∧ (manyP l n).length ≤ 4 := by
  unfold manyP
  split
  · refine ⟨?_, by simp, by simp⟩
    intro p hp
    simp only [List.mem_singleton] at hp
    subst hp
    exact ⟨okPat_s (by kernel_rfl), whole3_ok, by decide, rfl⟩
  · rename_i h
    have hr : 0 ≤ (l.headD ⟨0, []⟩).r % 13 ∧ (l.headD ⟨0, []⟩).r % 13 ≤ 65536 := by omega
    refine ⟨?_, ?_, ?_⟩
    · intro p hp
      obtain ⟨x, hx, rfl⟩ := List.mem_map.1 hp
      have hxw := hw x (List.mem_of_mem_take hx)
      obtain ⟨h1, h2, h3⟩ := madeP_ok hxw.l hr
      exact ⟨madeP_wf hxw.l hr, h1, h2, rfl⟩
    · rw [List.length_map]; exact List.length_pos_iff.2 h
    · rw [List.length_map, List.length_take]; omega
theorem many_E (ad : Option Addr) (cap : Nat) (l : List RawL) (C : List PatL) (w0 : World) (I0 : Imm) (hI : Sat I0 w0) (hl : RRaws I0 (.slice ad l.length cap) l) (hw : ∀ x ∈ l, x.wf) (he : manyP l 4 = C) :
    Ctr Tryz.prog 41 [.slice ad l.length cap, .int .i64 4] w0 (fun v w' => ∃ I' a c, v = .slice a C.length c ∧ Ext w0 I0 w' I' ∧ RPats I' (.slice a C.length c) C) := by
  subst he; exact many_c ad cap l 4 w0 I0 hI hl hw (Nat.le_refl _)
theorem made1_E (ad : Option Addr) (cap : Nat) (l : List R1L) (n : Int) (C : List SecL) (w0 : World) (I0 : Imm) (hI : Sat I0 w0) (hl : RFl I0 4 r1C (.slice ad l.length cap) l) (hw : ∀ r ∈ l, r.wf) (hn : Mid n) (he : madeS l n = C) :
    Ctr Tryz.prog 42 [.slice ad l.length cap, .int .i64 n] w0 (fun v w' => ∃ I' a c, v = .slice a C.length c ∧ Ext w0 I0 w' I' ∧ RSecs I' (.slice a C.length c) C) := by
  subst he; exact made1_c ad cap l n w0 I0 hI hl hw hn
theorem tmod3 (v : Int) : -2 ≤ v.tmod 3 ∧ v.tmod 3 ≤ 2 := by
  rcases Int.le_total 0 v with h | h
  · rw [Int.tmod_eq_emod_of_nonneg h]; omega
  · have h1 : (-v).tmod 3 = -(v.tmod 3) := Int.neg_tmod v 3
    have h2 := Int.tmod_eq_emod_of_nonneg (a := -v) (b := 3) (by omega)
    omega

end Go.Proofs.YtodopmclnklgdaaGreat

