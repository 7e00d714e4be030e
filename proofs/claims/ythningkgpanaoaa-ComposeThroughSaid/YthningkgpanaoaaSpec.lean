/- What packages patch and normal compute, as plain Lean. Conditions: none. -/
import Derived.Test.YthningkgpanaoaaData
namespace Go.Inl

/-- Numbers that no sum here passes. -/
def Mid (n : Int) : Prop := -1099511627776 ≤ n ∧ n ≤ 1099511627776
structure OpL.wf (x : OpL) : Prop where
  kind : Mid x.kind
  from_ : Mid x.from_
  len : Mid x.len
  b : 0 ≤ x.b ∧ x.b ≤ 255
  data : ∀ y ∈ x.data, 0 ≤ y ∧ y ≤ 255
structure PatL.wf (p : PatL) : Prop where
  in_ : Mid p.in_
  out : Mid p.out
  ops : ∀ x ∈ p.ops, x.wf
  len : (p.ops.length : Int) ≤ 1099511627776
def inS (n lo hi : Int) : Bool := decide (lo ≤ n) && decide (n ≤ hi)
def insideP (x : OpL) (n : Int) : Bool := decide (0 ≤ x.from_) && decide (x.from_ ≤ n - x.len)
def rightP (x : OpL) (n : Int) : Bool :=
  if x.kind = 1 then insideP x n && decide (x.b = 0) && decide ((x.data.length : Int) = 0)
  else if x.kind = 2 then insideP x n && decide (x.b = 0) && decide ((x.data.length : Int) = x.len)
  else if x.kind = 3 then decide (x.from_ = 0) && decide ((x.data.length : Int) = 0)
  else if x.kind = 4 then decide (x.from_ = 0) && decide (x.b = 0) && decide ((x.data.length : Int) = x.len)
  else false
def symS (x : OpL) (i : Int) : Sym :=
  if x.kind = 1 then ⟨true, x.from_ + i, 0⟩
  else if x.kind = 2 then ⟨true, x.from_ + i, x.data.getD i.toNat 0⟩
  else if x.kind = 3 then ⟨false, 0, x.b⟩
  else if x.kind = 4 then ⟨false, 0, x.data.getD i.toNat 0⟩
  else ⟨false, 0, 0⟩
def costP (x : OpL) : Int := if x.kind = 1 then 4 else if x.kind = 2 then 4 + x.len else if x.kind = 3 then 4 else if x.kind = 4 then 2 + x.len else 0
/-- patch.Check, from an operation on. -/
def checkGo (n : Int) : List OpL → Int → Int → Int × Int
  | [], left, i => if 0 < left then (i, 60) else (i, 0)
  | x :: r, left, i => if decide (x.len < 1) || decide (left < x.len) || !rightP x n then (i, 60) else checkGo n r (left - x.len) (i + 1)
def badP (p : PatL) : Bool := decide ((if p.out < p.in_ then p.out else p.in_) < 0) || decide (65536 < (if p.out > p.in_ then p.out else p.in_)) || decide (4096 < (p.ops.length : Int))
def checkP (p : PatL) : Int × Int := if badP p then (-1, 60) else checkGo p.in_ p.ops p.out 0
def symsOp (x : OpL) : List Sym := (List.range x.len.toNat).map fun (i : Nat) => symS x (i : Int)
def symsOf (l : List OpL) : List Sym := l.flatMap symsOp
/-- patch.Symbols. -/
def symbolsP (p : PatL) : List Sym × Int := if (checkP p).2 = 0 then (symsOf p.ops, 0) else ([], (checkP p).2)

/-- inlayref06. -/
def rightR (x : OpL) (n : Int) : Bool :=
  inS x.len 1 65536 && (
  if x.kind = 1 then inS x.from_ 0 (n - x.len) && decide (x.b = 0) && decide ((x.data.length : Int) = 0)
  else if x.kind = 2 then inS x.from_ 0 (n - x.len) && decide (x.b = 0) && decide ((x.data.length : Int) = x.len)
  else if x.kind = 3 then decide (x.from_ = 0) && decide ((x.data.length : Int) = 0)
  else if x.kind = 4 then decide (x.from_ = 0) && decide (x.b = 0) && decide ((x.data.length : Int) = x.len)
  else false)
def checkRGo (n out : Int) : List OpL → Int → Int → Int × Int
  | [], sum, i => if sum = out then (i, 0) else (i, 60)
  | x :: r, sum, i => if !rightR x n || decide (out < sum + x.len) then (i, 60) else checkRGo n out r (sum + x.len) (i + 1)
def checkR (p : PatL) : Int × Int := if !inS p.in_ 0 65536 || !inS p.out 0 65536 || decide (4096 < (p.ops.length : Int)) then (-1, 60) else checkRGo p.in_ p.out p.ops 0 0
def symbolsR (p : PatL) : List Sym × Int := if (checkR p).2 = 0 then (symsOf p.ops, 0) else ([], 60)
def rightSymR (s : Sym) (n : Int) : Bool := if s.old then inS s.at_ 0 (n - 1) else decide (s.at_ = 0)
def sameOpS (a b : OpL) : Bool := decide (a.kind = b.kind) && decide (a.from_ = b.from_) && decide (a.len = b.len) && decide (a.b = b.b) && decide (a.data = b.data)
def sumS (f : OpL → Int) (l : List OpL) : Int := (l.map f).foldl (· + ·) 0

/-- normal.Cheapest. -/
def strange (n : Int) (s : Sym) : Bool := (s.old && (decide (s.at_ < 0) || decide (n ≤ s.at_))) || (!s.old && !decide (s.at_ = 0))
def opS (kind : Int) (l : List Sym) : OpL :=
  { kind, from_ := if kind = 1 ∨ kind = 2 then (l.headD ⟨false, 0, 0⟩).at_ else 0, len := l.length, b := if kind = 3 then (l.headD ⟨false, 0, 0⟩).b else 0, data := if kind = 2 ∨ kind = 4 then l.map (·.b) else [] }
/-- The operations that a table tells, from a place on. -/
def opsT (t : List Pl) (l : List Sym) : Nat → Nat → List OpL
  | 0, _ => []
  | fuel + 1, i => if i < l.length then
      let p := t.getD i Pl.zero
      opS p.kind ((l.take (i + p.length.toNat)).drop i) :: opsT t l fuel (i + p.length.toNat)
    else []
def cheapP (l : List Sym) (n : Int) : PatL × Int :=
  if decide (n < 0) || decide (65536 < n) || decide (65536 < (l.length : Int)) || l.any (strange n) then (PatL.zero, 60)
  else if 4096 < ((tab l).headD Pl.zero).best.ops then (PatL.zero, 2)
  else (⟨false, n, l.length, opsT (tab l) l (l.length + 1) 0⟩, 0)
def formP (p : PatL) : PatL × Int :=
  if (symbolsP p).2 = 0 then
    let q := cheapP (symbolsP p).1 p.in_
    if q.2 = 0 then ({ q.1 with lifted := p.lifted }, 0) else q
  else (PatL.zero, (symbolsP p).2)

theorem drop_cons {α : Type} {l : List α} {k : Nat} {x : α} (h : l[k]? = some x) : l.drop k = x :: l.drop (k + 1) := by
  have := List.getElem?_eq_some_iff.1 h
  rw [List.drop_eq_getElem_cons this.1, this.2]
theorem checkGo_bad {n left i : Int} {x : OpL} {r : List OpL} (h : (decide (x.len < 1) || decide (left < x.len) || !rightP x n) = true) : checkGo n (x :: r) left i = (i, 60) := by
  simp only [checkGo, h, if_true]
theorem checkGo_good {n left i : Int} {x : OpL} {r : List OpL} (h : (decide (x.len < 1) || decide (left < x.len) || !rightP x n) = false) : checkGo n (x :: r) left i = checkGo n r (left - x.len) (i + 1) := by
  simp [checkGo, h]
theorem take_snoc {α : Type} {l : List α} {k : Nat} {x : α} (h : l[k]? = some x) : l.take (k + 1) = l.take k ++ [x] := by
  have := List.getElem?_eq_some_iff.1 h
  rw [List.take_succ_eq_append_getElem this.1, this.2]

theorem symsOp_length (x : OpL) : (symsOp x).length = x.len.toNat := by simp [symsOp]
theorem symsOf_append (a b : List OpL) : symsOf (a ++ b) = symsOf a ++ symsOf b := by simp [symsOf]
theorem symsOf_one (x : OpL) : symsOf [x] = symsOp x := by simp [symsOf]
theorem symsOf_cons (x : OpL) (l : List OpL) : symsOf (x :: l) = symsOp x ++ symsOf l := by simp [symsOf]
theorem symsOf_snoc {l : List OpL} {k : Nat} {x : OpL} (h : l[k]? = some x) : symsOf (l.take k) ++ (List.range x.len.toNat).map (fun (i : Nat) => symS x (i : Int)) = symsOf (l.take (k + 1)) := by
  rw [take_snoc h, symsOf_append, symsOf_one]; rfl
theorem range_snoc (x : OpL) (i : Nat) (l : List Sym) : l ++ (List.range (i + 1)).map (fun (i : Nat) => symS x (i : Int)) = (l ++ (List.range i).map (fun (i : Nat) => symS x (i : Int))) ++ [symS x i] := by
  rw [List.range_succ, List.map_append, List.append_assoc]; rfl
theorem checkGo_ok {n : Int} : ∀ (l : List OpL) (left i : Int), 0 ≤ left → (checkGo n l left i).2 = 0 → (∀ x ∈ l, 1 ≤ x.len ∧ rightP x n = true) ∧ ((symsOf l).length : Int) = left
  | [], left, i, h0, h => by
    unfold checkGo at h
    split at h
    · simp at h
    · exact ⟨by simp, by simp [symsOf]; omega⟩
  | x :: l, left, i, h0, h => by
    by_cases hb : (decide (x.len < 1) || decide (left < x.len) || !rightP x n) = true
    · rw [checkGo_bad hb] at h; simp at h
    · have hb' : (decide (x.len < 1) || decide (left < x.len) || !rightP x n) = false := by simpa using hb
      rw [checkGo_good hb'] at h
      simp only [Bool.or_eq_false_iff, decide_eq_false_iff_not, Bool.not_eq_false'] at hb'
      obtain ⟨⟨h1, h2⟩, h3⟩ := hb'
      obtain ⟨h4, h5⟩ := checkGo_ok l _ _ (by omega) h
      refine ⟨fun y hy => ?_, ?_⟩
      · rcases List.mem_cons.1 hy with rfl | hy
        · exact ⟨by omega, h3⟩
        · exact h4 y hy
      · rw [symsOf_cons, List.length_append, symsOp_length]; omega
theorem checkP_ok {p : PatL} (h : (checkP p).2 = 0) : (∀ x ∈ p.ops, 1 ≤ x.len ∧ rightP x p.in_ = true) ∧ ((symsOf p.ops).length : Int) = p.out ∧ 0 ≤ p.in_ ∧ p.in_ ≤ 65536 ∧ 0 ≤ p.out ∧ p.out ≤ 65536 ∧ p.ops.length ≤ 4096 := by
  unfold checkP at h
  split at h
  · simp at h
  · rename_i hb
    simp only [badP, Bool.or_eq_true, decide_eq_true_eq, not_or] at hb
    obtain ⟨⟨h1, h2⟩, h3⟩ := hb
    have h4 : 0 ≤ p.in_ ∧ 0 ≤ p.out ∧ p.in_ ≤ 65536 ∧ p.out ≤ 65536 := by split at h1 <;> split at h2 <;> omega
    obtain ⟨h5, h6⟩ := checkGo_ok _ _ _ h4.2.1 h
    exact ⟨h5, h6, h4.1, h4.2.2.1, h4.2.1, h4.2.2.2, by omega⟩
theorem symsOf_take_le (l : List OpL) (k : Nat) : (symsOf (l.take k)).length ≤ (symsOf l).length := by
  conv => rhs; rw [← List.take_append_drop k l]
  rw [symsOf_append, List.length_append]; omega

theorem opsT_step {t : List Pl} {l : List Sym} {f i : Nat} {p : Pl} (hi : i < l.length) (hp : t[i]? = some p) : opsT t l (f + 1) i = opS p.kind ((l.take (i + p.length.toNat)).drop i) :: opsT t l f (i + p.length.toNat) := by
  simp only [opsT, hi, if_true, List.getD_eq_getElem?_getD, hp, Option.getD_some]
theorem opsT_end {t : List Pl} {l : List Sym} {f i : Nat} (hi : ¬ i < l.length) : opsT t l f i = [] := by
  cases f <;> simp [opsT, hi]
/-- slices.IndexFunc: what matters of the index. -/
theorem any_take {α : Type} {l : List α} {k : Nat} {x : α} {q : α → Bool} (hx : l[k]? = some x) (h : ∀ y ∈ l.take k, q y = false) (hq : q x = false) : ∀ y ∈ l.take (k + 1), q y = false := by
  intro y hy
  rw [take_snoc hx] at hy
  rcases List.mem_append.1 hy with hy | hy
  · exact h y hy
  · simp at hy; subst hy; exact hq
/-- normal.Same. -/
def symsEq (a b : List Sym) : Bool := decide (a.length = b.length) && (a.zip b).all fun p => symEq p.1 p.2
def sameP (p q : PatL) : Bool :=
  decide ((symbolsP p).2 = 0) && decide ((symbolsP q).2 = 0) && ((p.lifted == q.lifted) && decide (p.in_ = q.in_)) && symsEq (symbolsP p).1 (symbolsP q).1
end Go.Inl
