/- inlaylaw12.SplitLifted: its function answers true. Conditions: arguments are of their kinds. -/
import Derived.Test.YtodopmclnklgdaaGreatBase12
namespace Go.Proofs.YtodopmclnklgdaaGreat
open Go Go.RowKit Go.Inl
set_option linter.unusedSimpArgs false
set_option linter.unusedVariables false
theorem joinP_ok {l : List PatL} {b : Bool} {n : Int} (hn : l ≠ []) (hc : ∀ p ∈ l, (checkP p).2 = 0) (hl : ∀ p ∈ l, p.lifted = b) (hi : ∀ p ∈ l, p.in_ = n) (hs : sumO l ≤ 4096) : joinP l = (formOf b n (flatS l), 0) := by
  obtain ⟨f, r, rfl⟩ := List.exists_cons_of_ne_nil hn
  have hf : firstP (f :: r) = f := rfl
  rw [join_good hn hc, hf]
  have h1 := hl f (by simp)
  have h2 := hi f (by simp)
  rw [if_neg (by rw [all_eq fun p hp => by rw [hl p hp, h1]; simp]; decide), if_neg (by rw [all_eq fun p hp => by rw [hi p hp, h2]; simp]; simp; omega)]
  have h3 := checkP_ok (hc f (by simp))
  have h4 := flat_len hc
  have h5 : cheapP (flatS (f :: r)) n = (formOf false n (flatS (f :: r)), 0) := cheapP_ok (by omega) (by show ((flatS (f :: r)).length) ≤ 4096; unfold flatS; omega) (flat_ok hc hi)
  change cheapP ((f :: r).flatMap fun p => symsOf p.ops) n = _ at h5
  rw [h2, h5, h1]
  rfl
theorem joinP_kind {l : List PatL} (hn : l ≠ []) (hc : ∀ p ∈ l, (checkP p).2 = 0) {q : PatL} (hq : q ∈ l) (hl : q.lifted ≠ (firstP l).lifted) : joinP l = (PatL.zero, 62) := by
  rw [join_good hn hc, if_pos (List.any_eq_true.2 ⟨q, hq, by simpa using hl⟩)]
theorem two_mem {α : Type} {q : α → Prop} {a b : α} (h1 : q a) (h2 : q b) : ∀ x ∈ [a, b], q x := by
  intro x hx
  simp only [List.mem_cons, List.not_mem_nil, or_false] at hx
  rcases hx with rfl | rfl
  · exact h1
  · exact h2

end Go.Proofs.YtodopmclnklgdaaGreat

