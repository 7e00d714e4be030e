/- Contracts and facts that the laws which reach patch.Apply share. Conditions: none. -/
import Derived.Test.YtaklmbhfmpdinaaPParts
import Derived.Test.YtaklmbhfmpdinaaKLaw
namespace Go.Proofs.Ytaklmbhfmpdinaa
open Go Go.RowKit Go.Inl
set_option linter.unusedSimpArgs false
set_option linter.unusedVariables false
section
variable {P : Program} {n : Nat} {σ : Nat → Value} {S : World → Prop} {t t' ty : TypeId} {x y : Operand} {k : IntKind} {a b : Int}
theorem g_eqbK {a b : Bool} (ht : P.underlying t = some .bool) (hx : ev n σ x = .bool a) (hy : ev n σ y = .bool b) (hc : a = b) : Gives P (ev n σ) S (.binOp .eql t x y t') ty (.bool true) := by
  subst hc; have := g_eqlb (P := P) (S := S) (t' := t') (ty := ty) ht hx hy; rwa [beq_self_eq_true] at this
theorem g_neqTK (hx : ev n σ x = .int k a) (hy : ev n σ y = .int k b) (h : ¬ a = b) : Gives P (ev n σ) S (.binOp .neq t x y t') ty (.bool true) := by
  have := g_neq (P := P) (S := S) (t := t) (t' := t') (ty := ty) hx hy
  rw [decide_eq_false h] at this; exact this
theorem g_gtF (hx : ev n σ x = .int k a) (hy : ev n σ y = .int k b) (h : a ≤ b) : Gives P (ev n σ) S (.binOp .gtr t x y t') ty (.bool false) := by
  have := g_gtr (P := P) (S := S) (t := t) (t' := t') (ty := ty) hx hy
  rw [decide_eq_false (by omega)] at this; exact this
theorem g_strT {s : ByteArray} (hx : ev n σ x = .string s) (hy : ev n σ y = .string s) : Gives P (ev n σ) S (.binOp .eql t x y t') ty (.bool true) := by
  have := g_eqlStr (P := P) (S := S) (t := t) (t' := t') (ty := ty) hx hy
  rwa [beq_self_eq_true] at this
end
/-- What the form of a right patch is. -/
structure FormFor (p F : PatL) : Prop where
  form : formP p = (F, 0)
  chk : (checkP F).2 = 0
  wf : F.wf
  lif : F.lifted = p.lifted
  in_ : F.in_ = p.in_
  out : F.out = p.out
  syms : symsOf F.ops = symsOf p.ops
  cost : sumC F.ops ≤ sumC p.ops
  same : sameP p F = true
theorem form_for {p : PatL} (hw : p.wf) (hk : (checkP p).2 = 0) (ho : p.out ≤ 4096) : ∃ F, FormFor p F := by
  obtain ⟨k1, k2, k3, k4, k5, k6, k7⟩ := checkP_ok hk
  have hok := (ops_ok _ k1).1
  have hsw := symsOf_wf hw
  rw [symbolsP_ok hk] at hsw
  have hl : (symsOf p.ops).length ≤ 4096 := by omega
  have hc := formOf_check (b := p.lifted) ⟨k3, k4⟩ hl hok
  have hs := optL_spec hok
  refine ⟨formOf p.lifted p.in_ (symsOf p.ops), formP_ok hk ho, hc, formOf_wf ⟨k3, k4⟩ hl hok hsw, rfl, rfl, k2, hs.1, ?_, ?_⟩
  · show sumC (optL (symsOf p.ops)) ≤ _
    rw [hs.2.2.1]
    exact best_le (checkP_opsOk hk)
  · rw [sameP_iff hk hc]
    show (p.lifted == p.lifted && decide (p.in_ = p.in_) && symsEq (symsOf p.ops) (symsOf (optL (symsOf p.ops)))) = true
    rw [hs.1, symsEq_iff.2 rfl]; simp

end Go.Proofs.Ytaklmbhfmpdinaa

