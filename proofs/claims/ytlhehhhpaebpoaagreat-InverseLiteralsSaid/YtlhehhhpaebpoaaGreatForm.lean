/- normal.Form and normal.Same: what they compute. Conditions: numbers within bounds. -/
import Derived.Test.YtlhehhhpaebpoaaGreatNormal
namespace Go.Proofs.YtlhehhhpaebpoaaGreat
open Go Go.RowKit Go.Inl
set_option linter.unusedSimpArgs false
set_option linter.unusedVariables false
theorem symsOf_wf {p : PatL} (hp : p.wf) : ∀ s ∈ (symbolsP p).1, s.wf := by
  intro s hs
  unfold symbolsP at hs
  split at hs
  · rename_i h
    obtain ⟨h1, h2, h3, h4, h5, h6, h7⟩ := checkP_ok h
    simp only [symsOf, List.mem_flatMap, symsOp, List.mem_map, List.mem_range] at hs
    obtain ⟨x, hx, i, hi, rfl⟩ := hs
    obtain ⟨l1, l2⟩ := h1 x hx
    have hw := hp.ops x hx
    obtain ⟨⟨k1, k2⟩, ⟨f1, f2⟩, ⟨q1, q2⟩, ⟨b1, b2⟩, hdat⟩ := hw
    have hd : 0 ≤ x.data.getD i 0 ∧ x.data.getD i 0 ≤ 255 := by
      rw [List.getD_eq_getElem?_getD]
      cases e : x.data[i]? with
      | none => simp
      | some y => exact hdat y (List.mem_of_getElem? e)
    unfold rightP insideP at l2
    unfold symS
    split at l2
    · rename_i hk; simp only [Bool.and_eq_true, decide_eq_true_eq] at l2; rw [if_pos hk]; exact ⟨by dsimp only; omega, by dsimp only; omega, by dsimp only; omega, by dsimp only; omega⟩
    · rename_i hk; rw [if_neg hk]
      split at l2
      · rename_i hk; simp only [Bool.and_eq_true, decide_eq_true_eq] at l2; rw [if_pos hk]; exact ⟨by dsimp only; omega, by dsimp only; omega, hd.1, hd.2⟩
      · rename_i hk; rw [if_neg hk]
        split at l2
        · rename_i hk; rw [if_pos hk]; exact ⟨by dsimp only; omega, by dsimp only; omega, b1, b2⟩
        · rename_i hk; rw [if_neg hk]
          split at l2
          · rename_i hk; rw [if_pos hk]; exact ⟨by dsimp only; omega, by dsimp only; omega, hd.1, hd.2⟩
          · cases l2
  · simp at hs
theorem symbols_c (p : PatL) (ad : Option Addr) (m cap : Nat) (w0 : World) (I0 : Imm) (hI : Sat I0 w0) (hops : ROps I0 (.slice ad m cap) p.ops) (hp : p.wf) :
    Ctr Tryz.prog 31 [.agg #[.bool p.lifted, .int .i64 p.in_, .int .i64 p.out, .slice ad m cap]] w0 (fun v w' => ∃ I' a c, v = .tuple #[.slice a (symbolsP p).1.length c, .int .i64 (symbolsP p).2] ∧ Ext w0 I0 w' I' ∧ RSyms I' (.slice a (symbolsP p).1.length c) (symbolsP p).1) :=
  (symbols_o p ad m cap w0 I0 hI hops hp).mono fun v w' ⟨a, c, hv, hS⟩ => by
    obtain ⟨I1, hE, _, hr⟩ := row_freeze1 symC_len hS rfl
    exact ⟨I1, a, c, hv, hE, hr⟩
def shapeV (a : Bool) (n : Int) : Value := .agg #[.bool a, .int .i64 n]
theorem neqSym {n : Nat} {σ : Nat → Value} {S : World → Prop} {ty t' : TypeId} {x y : Operand} (a b : Sym) (hx : ev n σ x = symV a) (hy : ev n σ y = symV b) : Gives Tryz.prog (ev n σ) S (.binOp .neq 60 x y t') ty (.bool (!symEq a b)) := fun w _ => by
  have hg : (eqGuard .neq 60 x y (symV a) (symV b)).run Tryz.prog w = .ok () w := by simp [eqGuard, symV, go_sem, Tryz.eqGuardType60]
  have hb : (binOp .neq 60 (symV a) (symV b)).run Tryz.prog w = .ok (.bool (!symEq a b)) w := by
    simp [symV, go_sem, symEq]
    by_cases h1 : a.old = b.old <;> by_cases h2 : a.at_ = b.at_ <;> by_cases h3 : a.b = b.b <;> simp [h1, h2, h3]
  simp only [execOp, hx, hy, Sem.run_bind, hg, Result.andThen_ok, hb]; rfl
/-- Two lists of symbols are equal as far as a place. -/
def symsGo (a b : List Sym) (k : Nat) : Bool := ((a.zip b).drop k).all fun p => symEq p.1 p.2
theorem symsGo_step {a b : List Sym} {k : Nat} {x y : Sym} (hx : a[k]? = some x) (hy : b[k]? = some y) : symsGo a b k = (symEq x y && symsGo a b (k + 1)) := by
  have h : (a.zip b)[k]? = some (x, y) := List.getElem?_zip_eq_some.2 ⟨hx, hy⟩
  unfold symsGo
  rw [drop_cons h]; rfl
theorem symsGo_end {a b : List Sym} {k : Nat} (h : a.length ≤ k) : symsGo a b k = true := by
  unfold symsGo
  rw [List.drop_of_length_le (by rw [List.length_zip]; omega)]; rfl

end Go.Proofs.YtlhehhhpaebpoaaGreat

