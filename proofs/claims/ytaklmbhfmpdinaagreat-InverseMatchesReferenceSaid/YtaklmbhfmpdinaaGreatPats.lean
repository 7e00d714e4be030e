/- Slices of patches and of raw patches, as they stand in memory. Conditions: none. -/
import Derived.Test.YtaklmbhfmpdinaaGreatKRef6
set_option linter.unusedSimpArgs false
set_option linter.unusedVariables false
namespace Go.Proofs.YtaklmbhfmpdinaaGreat
open Go Go.RowKit Go.Inl
def RPatC (I : Imm) (cs : List Value) (p : PatL) : Prop := ∃ ad m cap, cs = [.bool p.lifted, .int .i64 p.in_, .int .i64 p.out, .slice ad m cap] ∧ ROps I (.slice ad m cap) p.ops
theorem RPatC.mono {I J : Imm} {cs : List Value} {p : PatL} (h : RPatC I cs p) (hs : Inl.Sub I J) : RPatC J cs p := by
 obtain ⟨ad, m, cap, h1, h2⟩ := h
 exact ⟨ad, m, cap, h1, h2.mono hs⟩
def RPats (I : Imm) (v : Value) (l : List PatL) : Prop := RSl I 4 (RPatC I) v l
theorem RPats.mono {I J : Imm} {v : Value} {l : List PatL} (h : RPats I v l) (hs : Inl.Sub I J) : RPats J v l := RSl.mono h hs fun _ _ h => h.mono hs
end Go.Proofs.YtaklmbhfmpdinaaGreat
