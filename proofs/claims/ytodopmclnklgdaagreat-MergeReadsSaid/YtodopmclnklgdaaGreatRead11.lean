/- The raw patches of the laws of chapter 11 read as plain data. Conditions: none. -/
import Derived.Test.YtodopmclnklgdaaGreatMade11
import Derived.Test.YtodopmclnklgdaaGreatRead6
namespace Go.Proofs.YtodopmclnklgdaaGreat
open Go Go.Inl Go.RowKit Go.ChangeShapes Go.WideShapes
section
variable {H : Type} {enc : TypeId × Value → H} {w : World}
theorem opens_raw11 : Opens enc Tryz.prog w 48 (fun cs => ∃ r a cap, ∃ l : List Q4, cs = [.int .u8 r, .slice a l.length cap] ∧ (0 ≤ r ∧ r ≤ 255) ∧ RFl (memI w) 4 q4C (.slice a l.length cap) l ∧ ∀ q ∈ l, q.wf) := by
  refine opens_mono (opens_struct2 (n0 := 1) (n1 := 1) Tryz.underlying48 (opens_int Tryz.underlying5) opens_q4s rfl rfl rfl rfl (by kernel_rfl) (by kernel_rfl) (by kernel_rfl)) ?_
  rintro cs ⟨c0, c1, rfl, ⟨r, rfl, hr⟩, ⟨a, cap, l, rfl, h1, h2⟩⟩
  exact ⟨r, a, cap, l, rfl, u8_of hr, h1, h2⟩
end

end Go.Proofs.YtodopmclnklgdaaGreat

