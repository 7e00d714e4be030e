/- The data of packages api and normal as plain Lean, and what values read as them. Conditions: none. -/
import Derived.Test.YthningkgpanaoaaCore8
namespace Go.Inl
open Go Go.RowKit

/-! ### Plain data -/
structure Sym where
  old : Bool
  at_ : Int
  b : Int
def symC (s : Sym) : List Value := [.bool s.old, .int .i64 s.at_, .int .u8 s.b]
def symV (s : Sym) : Value := .agg #[.bool s.old, .int .i64 s.at_, .int .u8 s.b]
theorem symC_len (s : Sym) : (symC s).length = 3 := rfl
/-- A symbol's numbers are within bounds that no sum passes. -/
def Sym.ok (s : Sym) : Prop := 0 ≤ s.at_ ∧ s.at_ ≤ 65536 ∧ 0 ≤ s.b ∧ s.b ≤ 255
def Sym.wf (s : Sym) : Prop := -1099511627776 ≤ s.at_ ∧ s.at_ ≤ 1099511627776 ∧ 0 ≤ s.b ∧ s.b ≤ 255
def symEq (a b : Sym) : Bool := (a.old == b.old) && (decide (a.at_ = b.at_) && decide (a.b = b.b))

def byteC (b : Int) : List Value := [.int .u8 b]
theorem byteC_len (b : Int) : (byteC b).length = 1 := rfl
def intC (b : Int) : List Value := [.int .i64 b]
theorem intC_len (b : Int) : (intC b).length = 1 := rfl
def boolC (b : Bool) : List Value := [.bool b]
theorem boolC_len (b : Bool) : (boolC b).length = 1 := rfl

structure OpL where
  kind : Int
  from_ : Int
  len : Int
  b : Int
  data : List Int
structure PatL where
  lifted : Bool
  in_ : Int
  out : Int
  ops : List OpL
def PatL.zero : PatL := ⟨false, 0, 0, []⟩

/-- The cells of an operation. -/
def ROp (I : Imm) (cs : List Value) (x : OpL) : Prop := ∃ ad m cap, cs = [.int .i64 x.kind, .int .i64 x.from_, .int .i64 x.len, .int .u8 x.b, .slice ad m cap] ∧ RFl I 1 byteC (.slice ad m cap) x.data
theorem ROp.mono {I J : Imm} {cs : List Value} {x : OpL} (h : ROp I cs x) (hs : Sub I J) : ROp J cs x := by
  obtain ⟨ad, m, cap, h1, h2⟩ := h
  exact ⟨ad, m, cap, h1, h2.mono hs⟩
def ROps (I : Imm) (v : Value) (l : List OpL) : Prop := RSl I 5 (ROp I) v l
theorem ROps.mono {I J : Imm} {v : Value} {l : List OpL} (h : ROps I v l) (hs : Sub I J) : ROps J v l := RSl.mono h hs fun _ _ h => h.mono hs
def RPat (I : Imm) (v : Value) (p : PatL) : Prop := ∃ ad m cap, v = .agg #[.bool p.lifted, .int .i64 p.in_, .int .i64 p.out, .slice ad m cap] ∧ ROps I (.slice ad m cap) p.ops
theorem RPat.mono {I J : Imm} {v : Value} {p : PatL} (h : RPat I v p) (hs : Sub I J) : RPat J v p := by
  obtain ⟨ad, m, cap, h1, h2⟩ := h
  exact ⟨ad, m, cap, h1, h2.mono hs⟩
def ROpV (I : Imm) (v : Value) (x : OpL) : Prop := ∃ cs, v = .agg cs.toArray ∧ ROp I cs x
abbrev RSyms (I : Imm) (v : Value) (l : List Sym) : Prop := RFl I 3 symC v l
abbrev RBytes (I : Imm) (v : Value) (l : List Int) : Prop := RFl I 1 byteC v l

theorem RFl.nil {α : Type} {I : Imm} {sz : Nat} {enc : α → List Value} : RFl I sz enc (.slice none 0 0) [] := .inl ⟨⟨none, 0, rfl, by simp, fun _ => rfl⟩, rfl⟩
theorem RPat.zero (I : Imm) : RPat I (.agg #[.bool false, .int .i64 0, .int .i64 0, .slice none 0 0]) PatL.zero := ⟨none, 0, 0, rfl, .inl ⟨⟨none, 0, rfl, by simp, fun _ => rfl⟩, rfl⟩⟩
theorem RSl.sl {α : Type} {I : Imm} {sz : Nat} {R : List Value → α → Prop} {v : Value} {xs : List α} (h : RSl I sz R v xs) : ∃ ad cap, v = .slice ad xs.length cap := by
  obtain ⟨ad, cap, h1, _⟩ := h.len
  exact ⟨ad, cap, h1⟩

/-! ### Slices whose elements hold slices -/
def All2 {α : Type} (R : List Value → α → Prop) (css : List (List Value)) (xs : List α) : Prop := css.length = xs.length ∧ ∀ (i : Nat) cs x, css[i]? = some cs → xs[i]? = some x → R cs x
theorem All2.nil {α : Type} (R : List Value → α → Prop) : All2 R [] ([] : List α) := ⟨rfl, by simp⟩
theorem All2.snoc {α : Type} {R : List Value → α → Prop} {css : List (List Value)} {xs : List α} {cs : List Value} {x : α} (h : All2 R css xs) (hx : R cs x) : All2 R (css ++ [cs]) (xs ++ [x]) := by
  refine ⟨by simp [h.1], fun i cs' x' h1 h2 => ?_⟩
  by_cases hi : i < css.length
  · rw [List.getElem?_append_left hi] at h1
    rw [List.getElem?_append_left (by rw [← h.1]; exact hi)] at h2
    exact h.2 i cs' x' h1 h2
  · have hi1 := (List.getElem?_eq_some_iff.1 h1).1
    have : i = css.length := by simp at hi1; omega
    subst this
    rw [List.getElem?_append_right (Nat.le_refl _)] at h1
    rw [h.1, List.getElem?_append_right (Nat.le_refl _)] at h2
    simp at h1 h2
    subst h1 h2
    exact hx
theorem All2.mono {α : Type} {R R' : List Value → α → Prop} {css : List (List Value)} {xs : List α} (h : All2 R css xs) (hR : ∀ cs x, R cs x → R' cs x) : All2 R' css xs := ⟨h.1, fun i cs x h1 h2 => hR _ _ (h.2 i cs x h1 h2)⟩

theorem flatten_get {sz : Nat} : ∀ (css : List (List Value)), (∀ cs ∈ css, cs.length = sz) → ∀ (i : Nat) (cs : List Value), css[i]? = some cs → ∀ (j : Nat) v, cs[j]? = some v → css.flatten[i * sz + j]? = some v
  | [], _, i, cs, h => by simp at h
  | c :: css, hl, 0, cs, h => by
    simp at h; subst h
    intro j v hv
    simp only [List.flatten_cons, Nat.zero_mul, Nat.zero_add]
    rw [List.getElem?_append_left (List.getElem?_eq_some_iff.1 hv).1]; exact hv
  | c :: css, hl, i + 1, cs, h => by
    intro j v hv
    have := flatten_get css (fun c hc => hl c (by simp [hc])) i cs (by simpa using h) j v hv
    have hc := hl c (by simp)
    simp only [List.flatten_cons]
    rw [List.getElem?_append_right (by rw [hc, Nat.add_mul]; omega), hc, show (i + 1) * sz + j - sz = i * sz + j by rw [Nat.add_mul]; omega]
    exact this
theorem St.freezeRowR {α : Type} {R : List Value → α → Prop} {sz m : Nat} {E : TypeId} {u : Value} {css : List (List Value)} {xs : List α} {w0 w : World} {I0 I : Imm} {L : List Res} (h : St [] w0 I0 I w (.row u E sz m css.flatten :: L)) (hm : m = xs.length)
    (hl : ∀ cs ∈ css, cs.length = sz) (hx : All2 R css xs) : ∃ I', St [] w0 I0 I' w L ∧ Sub I I' ∧ RSl I' sz R u xs := by
  have hh : w.ownsRow 0 E sz u m css.flatten := h.hold (.row u E sz m css.flatten) (by simp)
  obtain ⟨h1, h2, h3⟩ := h.freeze
  refine ⟨_, h1, h2, ?_⟩
  subst hm
  rcases hh.2 with ⟨rfl, h0⟩ | ⟨g, cap, cur, rfl, _, hg, h4, h5, _, h7⟩
  · exact .inl ⟨⟨none, 0, rfl, by simp, fun _ => rfl⟩, List.length_eq_zero_iff.1 h0⟩
  · have hI := h3 g (by simp [Res.foot, Value.ownBlock])
    rw [hg] at hI
    refine .inr ⟨g, 0, cap, rfl, h4, h5, fun i x hxi => ?_⟩
    have hi := (List.getElem?_eq_some_iff.1 hxi).1
    have hcs : css[i]? = some (css[i]'(by rw [hx.1]; exact hi)) := List.getElem?_eq_getElem _
    refine ⟨_, hl _ (List.mem_of_getElem? hcs), ⟨rfl, cur, E, (0, 0), hI, fun j v hv => ?_⟩, hx.2 i _ x hcs hxi⟩
    have := flatten_get css hl i _ hcs j v hv
    rw [← h7, List.getElem?_take] at this
    simp only [Nat.zero_add]
    split at this
    · simpa using this
    · cases this
theorem RSl.nilR {α : Type} {I : Imm} {sz : Nat} {R : List Value → α → Prop} : RSl I sz R (.slice none 0 0) [] := .inl ⟨⟨none, 0, rfl, by simp, fun _ => rfl⟩, rfl⟩

/-! ### Prices and places of package normal -/
structure Pr where
  cost : Int
  ops : Int
def prV (p : Pr) : Value := .agg #[.int .i64 p.cost, .int .i64 p.ops]
def Pr.less (p q : Pr) : Bool := decide (p.cost < q.cost) || (decide (p.cost = q.cost) && decide (p.ops < q.ops))
def Pr.plus (p : Pr) (c o : Int) : Pr := ⟨p.cost + c, p.ops + o⟩
def Pr.ok (B : Int) (p : Pr) : Prop := 0 ≤ p.cost ∧ p.cost ≤ B ∧ 0 ≤ p.ops ∧ p.ops ≤ B
structure Pl where
  best : Pr
  kind : Int
  length : Int
  diff : Pr
  diffLen : Int
  lit : Pr
  litLen : Int
  copyRun : Int
  equalRun : Int
def Pl.zero : Pl := ⟨⟨0, 0⟩, 0, 0, ⟨0, 0⟩, 0, ⟨0, 0⟩, 0, 0, 0⟩
def plC (p : Pl) : List Value := [.int .i64 p.best.cost, .int .i64 p.best.ops, .int .i64 p.kind, .int .i64 p.length, .int .i64 p.diff.cost, .int .i64 p.diff.ops, .int .i64 p.diffLen, .int .i64 p.lit.cost, .int .i64 p.lit.ops, .int .i64 p.litLen, .int .i64 p.copyRun, .int .i64 p.equalRun]
def plV (p : Pl) : Value := .agg #[.int .i64 p.best.cost, .int .i64 p.best.ops, .int .i64 p.kind, .int .i64 p.length, .int .i64 p.diff.cost, .int .i64 p.diff.ops, .int .i64 p.diffLen, .int .i64 p.lit.cost, .int .i64 p.lit.ops, .int .i64 p.litLen, .int .i64 p.copyRun, .int .i64 p.equalRun]
theorem plC_len (p : Pl) : (plC p).length = 12 := rfl
def goesOn (a b : Sym) : Bool := (a.old && b.old) && decide (b.at_ = a.at_ + 1)
def openS (rest : Pl) (more : Pr) (n : Int) (on : Bool) : Pr × Int :=
  if on && !(rest.best.plus 1 0).less (more.plus 1 0) then (more.plus 1 0, n + 1) else (rest.best.plus 1 0, 1)
def runsS (s next : Sym) (after : Pl) (last : Bool) : Int × Int :=
  (if s.old && decide (s.b = 0) then (if !last && goesOn s next then 1 + after.copyRun else 1) else 0,
   if !s.old then (if !last && symEq s next then 1 + after.equalRun else 1) else 0)
def tryS (p : Pl) (k len : Int) (c : Pr) : Pl := if (decide (p.kind = 0) || c.less p.best) = true then { p with kind := k, length := len, best := c } else p
/-- The place of a symbol, out of the places behind it. -/
def nthBest (later : List Pl) (r : Int) : Pr := (later.getD (r - 1).toNat Pl.zero).best
def mkPl (s next : Sym) (last : Bool) (later : List Pl) : Pl :=
  let rest := later.headD Pl.zero
  let r := runsS s next rest last
  let p0 : Pl := { Pl.zero with copyRun := r.1, equalRun := r.2 }
  let p1 := if 0 < r.1 then tryS p0 1 r.1 ((nthBest later r.1).plus 4 1) else p0
  if s.old then
    let o := openS rest rest.diff rest.diffLen (!last && goesOn s next)
    let p2 : Pl := { p1 with diff := o.1, diffLen := o.2 }
    tryS p2 2 p2.diffLen (p2.diff.plus 4 1)
  else
    let p2 := tryS p1 3 p1.equalRun ((nthBest later p1.equalRun).plus 4 1)
    let o := openS rest rest.lit rest.litLen (!last && !next.old)
    let p3 : Pl := { p2 with lit := o.1, litLen := o.2 }
    tryS p3 4 p3.litLen (p3.lit.plus 2 1)
def tab : List Sym → List Pl
  | [] => [Pl.zero]
  | s :: l => mkPl s (l.headD s) l.isEmpty (tab l) :: tab l
end Go.Inl
