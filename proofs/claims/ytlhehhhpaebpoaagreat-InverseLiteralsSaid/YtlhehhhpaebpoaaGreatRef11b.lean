/- inlayref11: Touched, Read, Clashes, Merge, Independent, Commute, In, Right; inlayref05.SameRanges: what they compute. Conditions: numbers within bounds. -/
import Derived.Test.YtlhehhhpaebpoaaGreatRef11
namespace Go.Proofs.YtlhehhhpaebpoaaGreat
open Go Go.RowKit Go.Inl
set_option linter.unusedSimpArgs false
set_option linter.unusedVariables false
structure Even1 (p : PatL) (S : List Sym) (N : Nat) : Prop where
  c : (checkP p).2 = 0
  s : symsP p = S
  n : S.length = N
  i : p.in_ = (N : Int)
  b : N ≤ 65536
theorem even_one {p : PatL} (h : checkM [p] = 0) : ∃ S N, Even1 p S N := by
  have hck := checkM_all h
  have hcp := hck.1 p (by simp)
  have h1 := symsP_len hcp
  have h2 := (hck.2.2 p (by simp)).1
  have h3 := checkP_ok hcp
  exact ⟨_, _, hcp, rfl, rfl, by omega, by omega⟩
theorem even_two {p q : PatL} (h : checkM [p, q] = 0) : ∃ S T N, Even1 p S N ∧ Even1 q T N ∧ q.lifted = p.lifted := by
  have hck := checkM_all h
  have hcp := hck.1 p (by simp)
  have hcq := hck.1 q (by simp)
  have h1 := symsP_len hcp
  have h1' := symsP_len hcq
  have h2 := (hck.2.2 p (by simp)).1
  have h2' := hck.2.2 q (by simp)
  have h3 := checkP_ok hcp
  have h4 : q.in_ = p.in_ := h2'.2
  exact ⟨_, _, (symsP p).length, ⟨hcp, rfl, rfl, by omega, by omega⟩, ⟨hcq, rfl, by omega, by omega, by omega⟩, hck.2.1 q (by simp)⟩
theorem cheapP_Z {l : List Sym} {n : Int} {C : PatL × Int} (h : cheapP l n = C) (h2 : C.2 ≠ 0) : C.1 = PatL.zero := by subst h; exact cheapP_zero h2
theorem all_no {f : Nat → Bool} {N : Nat} (h : ∀ i, i < N → f i = false) : (List.range N).any f = false := by
  rw [List.any_eq_false]; intro i hi; rw [h i (List.mem_range.1 hi)]; decide
theorem any_yes {f : Nat → Bool} {N i : Nat} (hi : i < N) (h : f i = true) : (List.range N).any f = true := List.any_eq_true.2 ⟨i, List.mem_range.2 hi, h⟩
theorem fill_two (z0 z1 z2 z3 z4 z5 z6 z7 z8 a0 a1 a2 a3 b0 b1 b2 b3 : Value) : Instr.fill ([(0, 4), (4, 4), (8, 1)][·]?) #[z0, z1, z2, z3, z4, z5, z6, z7, z8] [(0, .agg #[a0, a1, a2, a3]), (1, .agg #[b0, b1, b2, b3])] = some #[a0, a1, a2, a3, b0, b1, b2, b3, z8] := by
  simp [Instr.fill, Value.cells, List.zipIdx]
theorem fill_twoE (z0 z1 z2 z3 z4 z5 z6 z7 z8 a0 a1 a2 a3 b0 b1 b2 b3 : Value) (k : IntKind) (e : Int) : Instr.fill ([(0, 4), (4, 4), (8, 1)][·]?) #[z0, z1, z2, z3, z4, z5, z6, z7, z8] [(0, .agg #[a0, a1, a2, a3]), (1, .agg #[b0, b1, b2, b3]), (2, .int k e)] = some #[a0, a1, a2, a3, b0, b1, b2, b3, .int k e] := by
  simp [Instr.fill, Value.cells, List.zipIdx]
/-- Places in ranges; right ranges; equal ranges. -/
def inR (l : List (Int × Int)) (i : Int) : Bool := l.any fun r => inS i r.1 (r.2 - 1)
def rightAt (l : List (Int × Int)) (n : Int) (i : Nat) : Bool :=
  !(((decide ((l.getD i (0, 0)).1 < 0) || decide ((l.getD i (0, 0)).2 ≤ (l.getD i (0, 0)).1)) || decide (n < (l.getD i (0, 0)).2)) || (decide (0 < i) && decide ((l.getD i (0, 0)).1 ≤ (l.getD (i - 1) (0, 0)).2)))
def rightL (l : List (Int × Int)) (n : Int) : Bool := (List.range l.length).all (rightAt l n)
theorem getD_at {l : List (Int × Int)} {i : Nat} {r : Int × Int} (h : l[i]? = some r) : l.getD i (0, 0) = r := by rw [List.getD_eq_getElem?_getD, h]; rfl
theorem all_yes {f : Nat → Bool} {N : Nat} (h : ∀ i, i < N → f i = true) : (List.range N).all f = true := by
  rw [List.all_eq_true]; intro i hi; exact h i (List.mem_range.1 hi)
theorem all_not {f : Nat → Bool} {N i : Nat} (hi : i < N) (h : f i = false) : (List.range N).all f = false := by
  rw [List.all_eq_false]; exact ⟨i, List.mem_range.2 hi, by rw [h]; decide⟩
theorem rgMid {l : List (Int × Int)} {k : Nat} {r : Int × Int} (h : ∀ r ∈ l, Mid r.1 ∧ Mid r.2) (hk : l[k]? = some r) : (-1099511627776 ≤ r.1 ∧ r.1 ≤ 1099511627776) ∧ (-1099511627776 ≤ r.2 ∧ r.2 ≤ 1099511627776) := h r (List.mem_of_getElem? hk)

end Go.Proofs.YtlhehhhpaebpoaaGreat

