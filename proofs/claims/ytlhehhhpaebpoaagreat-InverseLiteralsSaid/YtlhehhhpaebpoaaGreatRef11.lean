/- inlayref11: Check, Touches, Reads, Ranges, Touched, Read, Clashes, Merge, Independent, Commute: what they compute. Conditions: numbers within bounds. -/
import Derived.Test.YtlhehhhpaebpoaaGreatMerge
import Derived.Test.YtlhehhhpaebpoaaGreatRefOf
import Derived.Test.YtlhehhhpaebpoaaGreatRef8
namespace Go.Proofs.YtlhehhhpaebpoaaGreat
open Go Go.RowKit Go.Inl
set_option linter.unusedSimpArgs false
set_option linter.unusedVariables false
def upF (f : Nat → Bool) (k j : Nat) : Bool := decide (j < k) && f j
theorem upF_all (f : Nat → Bool) (n : Nat) : marks n (upF f n) = marks n f := marks_congr fun j hj => by simp [upF, hj]
theorem upF_zero (f : Nat → Bool) (n : Nat) : marks n (upF f 0) = List.replicate n false := by
  rw [marks_rep]; exact marks_congr fun j _ => by simp [upF]
theorem upF_set (f : Nat → Bool) (n k : Nat) : (marks n (upF f k)).set k (f k) = marks n (upF f (k + 1)) := by
  rw [marks_set]
  refine marks_congr fun j _ => ?_
  unfold upF
  by_cases h : j = k
  · subst h; simp
  · rw [if_neg h]
    have : (j < k + 1) ↔ (j < k) := by omega
    simp [this]
theorem put_up {f : Nat → Bool} {N i : Nat} {b : Bool} (h : f i = b) (hi : i < N) : putL (flat boolC (marks N (upF f i))) i [.bool b] = flat boolC (marks N (upF f (i + 1))) := by
  have h1 := putL_flat0 boolC_len b (marks N (upF f i)) i (by rw [marks_len]; exact hi)
  rw [Nat.mul_one] at h1
  rw [← upF_set f N i, h]
  exact h1
theorem extR_set {R : List (Int × Int)} {k : Int} (h : 0 < R.length) (hk : (lastR R).2 = k) : extR R k = R.set (R.length - 1) ((lastR R).1, k + 1) ∧ R[R.length - 1]? = some (lastR R) := by
  obtain ⟨D, hD, hl⟩ := lastR_split h
  generalize lastR R = r at hD hk ⊢
  subst hD
  have e1 : (D ++ [r]).length - 1 = D.length := by simp
  rw [e1]
  constructor
  · rw [extR_same hk]; simp
  · simp
theorem rngs_end {f : Nat → Bool} {k : Nat} (h0 : 0 < k) (h : f (k - 1) = true) : 0 < (rngs k f).length ∧ (lastR (rngs k f)).2 = k := by
  have h1 : 0 < (rngs k f).length := by
    rcases Nat.eq_zero_or_pos (rngs k f).length with h2 | h2
    · have := rngs_none f k (List.length_eq_zero_iff.1 h2) (k - 1) (by omega)
      rw [h] at this; cases this
    · exact h2
  exact ⟨h1, (rngs_last f k _ (lastR_some h1)).2.2 ⟨h0, h⟩⟩
theorem rngs_new {f : Nat → Bool} {k : Nat} (h : ¬ (0 < k ∧ f (k - 1) = true)) : extR (rngs k f) k = rngs k f ++ [((k : Int), (k : Int) + 1)] := by
  refine extR_new fun ⟨h1, h2⟩ => h ?_
  exact (rngs_last f k _ (lastR_some h1)).2.1 h2
theorem rngs_le (f : Nat → Bool) (k : Nat) : (rngs k f).length ≤ k := by
  unfold rngs
  have := rngL_len (plc k f)
  have := plc_le k f
  omega
theorem symbolsR_oE (p : PatL) (A : List Sym) (ad : Option Addr) (m cap : Nat) (w0 : World) (I0 : Imm) (hI : Sat I0 w0) (hops : ROps I0 (.slice ad m cap) p.ops) (hp : p.wf) (hc : (checkP p).2 = 0) (he : symsP p = A) :
    Ctr Tryz.prog 22 [.agg #[.bool p.lifted, .int .i64 p.in_, .int .i64 p.out, .slice ad m cap]] w0 (fun v w' => ∃ a c, v = .tuple #[.slice a A.length c, .int .i64 0] ∧ St [] w0 I0 I0 w' [.row (.slice a A.length c) 60 3 A.length (flat symC A)]) := by
  subst he
  have h := symbolsR_o p ad m cap w0 I0 hI hops hp
  have e : symbolsR p = (symsP p, 0) := by rw [symbolsR_eq, symbolsP_ok hc]; rfl
  rw [e] at h
  exact h
theorem refCheap_M (ad : Option Addr) (m cap : Nat) (l : List Sym) (size : Int) (C : PatL × Int) (w0 : World) (I0 : Imm) (hI : Sat I0 w0) (hl : RSyms I0 (.slice ad m cap) l) (hm : m = l.length) (hw : ∀ s ∈ l, s.wf) (hs : Mid size) (he : cheapP l size = C) :
    Ctr Tryz.prog 36 [.slice ad m cap, .int .i64 size] w0 (fun v w' => ∃ I' a m c, v = .tuple #[.agg #[.bool C.1.lifted, .int .i64 C.1.in_, .int .i64 C.1.out, .slice a m c], .int .i64 C.2] ∧ Ext w0 I0 w' I' ∧ ROps I' (.slice a m c) C.1.ops) := by
  subst hm; subst he; exact refCheapest_c ad cap l size w0 I0 hI hl hw hs
theorem cheapP_zero {l : List Sym} {n : Int} (h : (cheapP l n).2 ≠ 0) : (cheapP l n).1 = PatL.zero := by
  unfold cheapP at h ⊢
  split
  · rfl
  · rename_i h1
    rw [if_neg h1] at h
    split
    · rfl
    · rename_i h2
      rw [if_neg h2] at h
      exact absurd rfl h
def indepAt (S T : List Sym) (N i : Nat) : Bool := (touched S i && (touched T i || readUp T N i)) || (readUp S N i && touched T i)
def indep (S T : List Sym) (N : Nat) : Bool := !((List.range N).any (indepAt S T N))
theorem indep_eq {S T : List Sym} {N : Nat} (hS : S.length = N) (hT : T.length = N) : indep S T N = !(disturbs S T || disturbs T S) := by
  unfold indep disturbs
  rw [hS, hT]
  congr 1
  rw [Bool.eq_iff_iff, Bool.or_eq_true, List.any_eq_true, List.any_eq_true, List.any_eq_true]
  constructor
  · rintro ⟨i, hi, h⟩
    unfold indepAt at h
    rw [Bool.or_eq_true] at h
    rcases h with h | h
    · exact .inl ⟨i, hi, h⟩
    · refine .inr ⟨i, hi, ?_⟩
      rw [Bool.and_eq_true] at h ⊢
      exact ⟨h.2, by rw [h.1, Bool.or_true]⟩
  · rintro (⟨i, hi, h⟩ | ⟨i, hi, h⟩)
    · exact ⟨i, hi, by unfold indepAt; rw [h, Bool.true_or]⟩
    · refine ⟨i, hi, ?_⟩
      unfold indepAt
      rw [Bool.and_eq_true, Bool.or_eq_true] at h
      obtain ⟨h1, h2 | h2⟩ := h
      · rw [h1, h2]; rfl
      · rw [h1, h2]; simp


end Go.Proofs.YtlhehhhpaebpoaaGreat

