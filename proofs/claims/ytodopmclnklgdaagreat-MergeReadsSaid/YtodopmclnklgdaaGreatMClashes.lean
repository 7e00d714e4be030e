/- inlaylaw11.MergeClashes: its function answers true. Conditions: arguments are of their kinds. -/
import Derived.Test.YtodopmclnklgdaaGreatPlain11
import Derived.Test.YtodopmclnklgdaaGreatBase11
namespace Go.Proofs.YtodopmclnklgdaaGreat
open Go Go.RowKit Go.Inl
set_option linter.unusedSimpArgs false
set_option linter.unusedVariables false
theorem right11_T (l : List (Int × Int)) (n : Int) (k : Nat) (ad : Option Addr) (cap : Nat) (w0 : World) (I0 : Imm) (hI : Sat I0 w0) (hl : RRgs I0 (.slice ad k cap) l) (hk : k = l.length) (h : rightL l n = true) :
    Ctr Tryz.prog 28 [.slice ad k cap, .int .i64 n] w0 (fun v w' => v = .bool true ∧ Ext w0 I0 w' I0) := by
  subst hk
  have h1 := right11_c l n ad cap w0 I0 hI hl
  rw [h] at h1; exact h1
theorem symbolsR_M (p : PatL) (S : List Sym) (N : Nat) (ad : Option Addr) (m cap : Nat) (w0 : World) (I0 : Imm) (hI : Sat I0 w0) (hp : p.wf) (hpo : ROps I0 (.slice ad m cap) p.ops) (hc : (checkP p).2 = 0) (hSy : symsP p = S) (hSN : S.length = N) :
    Ctr Tryz.prog 113 [.agg #[.bool p.lifted, .int .i64 p.in_, .int .i64 p.out, .slice ad m cap]] w0 (fun v w' => ∃ I' a c, v = .tuple #[.slice a N c, .int .i64 0] ∧ Ext w0 I0 w' I' ∧ RSyms I' (.slice a N c) S) := by
  subst hSN
  refine (symbolsR_oE p S ad m cap w0 I0 hI hpo hp hc hSy).mono fun v w' ⟨a, c, hv, hS⟩ => ?_
  obtain ⟨I1, hE, _, hr⟩ := row_freeze1 symC_len hS rfl
  exact ⟨I1, a, c, hv, hE, hr⟩

end Go.Proofs.YtodopmclnklgdaaGreat

