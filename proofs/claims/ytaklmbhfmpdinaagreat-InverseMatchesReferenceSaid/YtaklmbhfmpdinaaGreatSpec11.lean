/- What package merge computes, as plain Lean. Conditions: none. -/
import Derived.Test.YtaklmbhfmpdinaaGreatKSpec
set_option linter.unusedSimpArgs false
set_option linter.unusedVariables false
namespace Go.Inl
theorem snoc_ind {α : Type} {p : List α → Prop} (h0 : p []) (h1 : ∀ l a, p l → p (l ++ [a])) (l : List α) : p l := by
 have h : ∀ l : List α, p l.reverse := by
  intro l
  induction l with
  | nil => exact h0
  | cons a l ih => rw [List.reverse_cons]; exact h1 _ _ ih
 have := h l.reverse
 rwa [List.reverse_reverse] at this
/-! ### Marks -/
def marks (n : Nat) (f : Nat → Bool) : List Bool := (List.range n).map f
/-! ### What a patch touches and reads -/
def sAt (l : List Sym) (k : Nat) : Sym := l.getD k z0
theorem yE {l : List Sym} {k : Nat} {s : Sym} (h : l[k]? = some s) : sAt l k = s := by unfold sAt; rw [List.getD_eq_getElem?_getD, h]; rfl
/-! ### Ranges -/
def extR (R : List (Int × Int)) (i : Int) : List (Int × Int) :=
 match R.getLast? with
 | some r => if r.2 = i then R.dropLast ++ [(r.1, i + 1)] else R ++ [(i, i + 1)]
 | none => [(i, i + 1)]
def plc (n : Nat) (f : Nat → Bool) : List Nat := (List.range n).filter f
def rngL (l : List Nat) : List (Int × Int) := l.foldl (fun R (i : Nat) => extR R (i : Int)) []
def rngs (n : Nat) (f : Nat → Bool) : List (Int × Int) := rngL (plc n f)
theorem ym (n : Nat) (f : Nat → Bool) : plc (n + 1) f = if f n then plc n f ++ [n] else plc n f := by
 unfold plc
 rw [List.range_succ, List.filter_append]
 cases h : f n <;> simp [h]
theorem rngL_snoc (l : List Nat) (i : Nat) : rngL (l ++ [i]) = extR (rngL l) i := by simp [rngL]
theorem yF (n : Nat) (f : Nat → Bool) : rngs (n + 1) f = if f n then extR (rngs n f) n else rngs n f := by
 unfold rngs
 rw [ym]
 split
 · rw [rngL_snoc]
 · rfl
theorem rngs_zero (f : Nat → Bool) : rngs 0 f = [] := rfl
theorem yL {R : List (Int × Int)} {r : Int × Int} (i : Int) (h : R.getLast? = some r) : extR R i = if r.2 = i then R.dropLast ++ [(r.1, i + 1)] else R ++ [(i, i + 1)] := by unfold extR; rw [h]
theorem extR_len (R : List (Int × Int)) (i : Int) : (extR R i).length ≤ R.length + 1 := by
 unfold extR
 split
 · split
   · simp only [List.length_append, List.length_dropLast, List.length_singleton]; omega
   · simp
 · simp
theorem rngL_len (l : List Nat) : (rngL l).length ≤ l.length := by
 refine snoc_ind (p := fun l => (rngL l).length ≤ l.length) (by simp [rngL]) ?_ l
 intro l i ih
 rw [rngL_snoc, List.length_append, List.length_singleton]; have := extR_len (rngL l) i; omega
end Go.Inl
