/- What package compose computes, as plain Lean, and its plain laws: through is associative, the whole patch changes nothing. Conditions: none. -/
import Derived.Test.YtaklmbhfmpdinaaGreatDoorKOpt
namespace Go.Inl
def z0 : Sym := ⟨false, 0, 0⟩
def badT (n : Nat) (s : Sym) : Bool := s.old && (decide (s.at_ < 0) || decide ((n : Int) ≤ s.at_))
theorem wrap8 (n : Int) : Go.IntKind.wrap .u8 n = n % 256 := Go.IntKind.wrap_u8 n
theorem badT_ok {n : Int} {b : List Sym} {k : Nat} (hb : okL n b) (h : n = k) : b.any (badT k) = false := by
  rw [List.any_eq_false]
  intro s hs
  have h1 := hb s hs
  unfold strange at h1
  unfold badT
  cases ho : s.old with
  | false => simp
  | true => simp [ho] at h1; simp; omega
end Go.Inl
