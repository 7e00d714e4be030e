/- What package merge computes, as plain Lean. Conditions: none. -/
import Derived.Test.YtaklmbhfmpdinaaKSpec
namespace Go.Inl

theorem snoc_ind {α : Type} {p : List α → Prop} (h0 : p []) (h1 : ∀ l a, p l → p (l ++ [a])) (l : List α) : p l := by
  have h : ∀ l : List α, p l.reverse := by
    intro l
    induction l with
    | nil => exact h0
    | cons a l ih => rw [List.reverse_cons]; exact h1 _ _ ih
  have := h l.reverse
  rwa [List.reverse_reverse] at this
/-! ### Marks -/
def marks (n : Nat) (f : Nat → Bool) : List Bool := (List.range n).map f
theorem marks_len (n : Nat) (f : Nat → Bool) : (marks n f).length = n := by simp [marks]
theorem marks_at {n k : Nat} {f : Nat → Bool} (h : k < n) : (marks n f)[k]? = some (f k) := by simp [marks, h]
theorem marks_getD {n k : Nat} {f : Nat → Bool} (h : k < n) : (marks n f).getD k false = f k := by rw [List.getD_eq_getElem?_getD, marks_at h]; rfl
theorem marks_congr {n : Nat} {f g : Nat → Bool} (h : ∀ j, j < n → f j = g j) : marks n f = marks n g := by
  unfold marks
  exact List.map_congr_left fun j hj => h j (List.mem_range.1 hj)
theorem marks_set {n k : Nat} {f : Nat → Bool} {b : Bool} : (marks n f).set k b = marks n (fun j => if j = k then b else f j) := by
  apply List.ext_getElem?
  intro i
  rw [List.getElem?_set, marks_len]
  by_cases hi : i < n
  · rw [marks_at (f := fun j => if j = k then b else f j) hi]
    by_cases h : k = i
    · subst h; simp [hi]
    · rw [if_neg h, marks_at hi, if_neg (by omega)]
  · rw [List.getElem?_eq_none (l := marks n fun j => if j = k then b else f j) (by rw [marks_len]; omega)]
    split
    · split
      · omega
      · rfl
    · rw [List.getElem?_eq_none (by rw [marks_len]; omega)]
theorem marks_rep (n : Nat) : List.replicate n false = marks n (fun _ => false) := by
  apply List.ext_getElem?
  intro i
  by_cases hi : i < n
  · rw [marks_at hi]; simp [hi]
  · rw [List.getElem?_eq_none (by simp; omega), List.getElem?_eq_none (by rw [marks_len]; omega)]

/-! ### What a patch touches and reads -/
def sAt (l : List Sym) (k : Nat) : Sym := l.getD k z0
theorem sAt_of {l : List Sym} {k : Nat} {s : Sym} (h : l[k]? = some s) : sAt l k = s := by unfold sAt; rw [List.getD_eq_getElem?_getD, h]; rfl
def touched (l : List Sym) (k : Nat) : Bool := !symEq (sAt l k) ⟨true, k, 0⟩
def touchUp (l : List Sym) (k : Nat) (j : Nat) : Bool := decide (j < k) && touched l j
def readUp (l : List Sym) (k : Nat) (j : Nat) : Bool := (List.range k).any fun i => touched l i && (sAt l i).old && decide ((sAt l i).at_ = j)
def touchS (l : List Sym) : List Bool := marks l.length (touched l)
def readS (l : List Sym) : List Bool := marks l.length (readUp l l.length)
theorem touchUp_all (l : List Sym) (n : Nat) : marks n (touchUp l n) = marks n (touched l) := marks_congr fun j hj => by simp [touchUp, hj]
theorem touchUp_zero (l : List Sym) (n : Nat) : marks n (touchUp l 0) = List.replicate n false := by
  rw [marks_rep]; exact marks_congr fun j _ => by simp [touchUp]
theorem readUp_zero (l : List Sym) (n : Nat) : marks n (readUp l 0) = List.replicate n false := by
  rw [marks_rep]; exact marks_congr fun j _ => by simp [readUp]
theorem touchUp_set (l : List Sym) (n k : Nat) : (marks n (touchUp l k)).set k (touched l k) = marks n (touchUp l (k + 1)) := by
  rw [marks_set]
  refine marks_congr fun j _ => ?_
  unfold touchUp
  by_cases h : j = k
  · subst h; simp
  · rw [if_neg h]
    have : (j < k + 1) ↔ (j < k) := by omega
    simp [this]
theorem touchUp_skip {l : List Sym} {n k : Nat} (h : touched l k = false) : marks n (touchUp l k) = marks n (touchUp l (k + 1)) := by
  refine marks_congr fun j _ => ?_
  unfold touchUp
  by_cases hj : j = k
  · subst hj; simp [h]
  · have : (j < k + 1) ↔ (j < k) := by omega
    simp [this]
theorem readUp_set {l : List Sym} {n k : Nat} {at_ : Nat} (h : touched l k = true) (ho : (sAt l k).old = true) (ha : (sAt l k).at_ = at_) : (marks n (readUp l k)).set at_ true = marks n (readUp l (k + 1)) := by
  rw [marks_set]
  refine marks_congr fun j _ => ?_
  unfold readUp
  rw [List.range_succ, List.any_append, List.any_cons, List.any_nil, h, ho, ha]
  by_cases hj : j = at_
  · subst hj; simp
  · rw [if_neg hj]
    have : ¬ ((at_ : Int) = j) := by omega
    simp [this]
theorem readUp_skip {l : List Sym} {n k : Nat} (h : (touched l k && (sAt l k).old) = false) : marks n (readUp l k) = marks n (readUp l (k + 1)) := by
  refine marks_congr fun j _ => ?_
  unfold readUp
  rw [List.range_succ, List.any_append, List.any_cons, List.any_nil, h]
  simp

/-! ### Ranges -/
def extR (R : List (Int × Int)) (i : Int) : List (Int × Int) :=
  match R.getLast? with
  | some r => if r.2 = i then R.dropLast ++ [(r.1, i + 1)] else R ++ [(i, i + 1)]
  | none => [(i, i + 1)]
def plc (n : Nat) (f : Nat → Bool) : List Nat := (List.range n).filter f
def rngL (l : List Nat) : List (Int × Int) := l.foldl (fun R (i : Nat) => extR R (i : Int)) []
def rngs (n : Nat) (f : Nat → Bool) : List (Int × Int) := rngL (plc n f)
theorem plc_succ (n : Nat) (f : Nat → Bool) : plc (n + 1) f = if f n then plc n f ++ [n] else plc n f := by
  unfold plc
  rw [List.range_succ, List.filter_append]
  cases h : f n <;> simp [h]
theorem rngL_snoc (l : List Nat) (i : Nat) : rngL (l ++ [i]) = extR (rngL l) i := by simp [rngL]
theorem rngs_succ (n : Nat) (f : Nat → Bool) : rngs (n + 1) f = if f n then extR (rngs n f) n else rngs n f := by
  unfold rngs
  rw [plc_succ]
  split
  · rw [rngL_snoc]
  · rfl
theorem rngs_zero (f : Nat → Bool) : rngs 0 f = [] := rfl
theorem plc_congr {n : Nat} {f g : Nat → Bool} (h : ∀ j, j < n → f j = g j) : plc n f = plc n g := by
  unfold plc
  exact List.filter_congr fun j hj => h j (List.mem_range.1 hj)
theorem rngs_congr {n : Nat} {f g : Nat → Bool} (h : ∀ j, j < n → f j = g j) : rngs n f = rngs n g := by unfold rngs; rw [plc_congr h]
theorem mem_plc {n i : Nat} {f : Nat → Bool} : i ∈ plc n f ↔ i < n ∧ f i = true := by simp [plc, List.mem_filter]
theorem extR_nil (i : Int) : extR [] i = [(i, i + 1)] := rfl
theorem extR_last {R : List (Int × Int)} {r : Int × Int} (i : Int) (h : R.getLast? = some r) : extR R i = if r.2 = i then R.dropLast ++ [(r.1, i + 1)] else R ++ [(i, i + 1)] := by unfold extR; rw [h]
theorem extR_len (R : List (Int × Int)) (i : Int) : (extR R i).length ≤ R.length + 1 := by
  unfold extR
  split
  · split
    · simp only [List.length_append, List.length_dropLast, List.length_singleton]; omega
    · simp
  · simp
theorem rngL_len (l : List Nat) : (rngL l).length ≤ l.length := by
  refine snoc_ind (p := fun l => (rngL l).length ≤ l.length) (by simp [rngL]) ?_ l
  intro l i ih
  rw [rngL_snoc, List.length_append, List.length_singleton]; have := extR_len (rngL l) i; omega
/-- The last range ends where the last place was. -/
theorem extR_end (R : List (Int × Int)) (i : Int) : ∃ r, (extR R i).getLast? = some r ∧ r.2 = i + 1 := by
  unfold extR
  split
  · split
    · exact ⟨_, List.getLast?_concat, rfl⟩
    · exact ⟨_, List.getLast?_concat, rfl⟩
  · exact ⟨(i, i + 1), rfl, rfl⟩
theorem rngs_last (f : Nat → Bool) : ∀ (n : Nat) (r : Int × Int), (rngs n f).getLast? = some r → r.2 ≤ n ∧ (r.2 = n ↔ 0 < n ∧ f (n - 1) = true)
  | 0, r, h => by simp [rngs_zero] at h
  | n + 1, r, h => by
    rw [rngs_succ] at h
    cases hf : f n with
    | true =>
      rw [hf, if_pos rfl] at h
      obtain ⟨r', h1, h2⟩ := extR_end (rngs n f) n
      rw [h1] at h
      obtain rfl := Option.some.inj h
      refine ⟨by simp [h2], ?_⟩
      simp [hf, h2]
    | false =>
      rw [hf, if_neg (by simp)] at h
      obtain ⟨h1, _⟩ := rngs_last f n r h
      refine ⟨by omega, ?_⟩
      simp only [Nat.add_sub_cancel, hf]
      constructor
      · intro h2; omega
      · rintro ⟨_, h2⟩; cases h2
theorem rngs_none (f : Nat → Bool) : ∀ (n : Nat), (rngs n f) = [] → ∀ i, i < n → f i = false
  | 0, _ => by intro i hi; omega
  | n + 1, h => by
    rw [rngs_succ] at h
    cases hf : f n with
    | true =>
      rw [hf, if_pos rfl] at h
      obtain ⟨r', h1, _⟩ := extR_end (rngs n f) n
      rw [h] at h1; simp at h1
    | false =>
      rw [hf, if_neg (by simp)] at h
      intro i hi
      by_cases hin : i = n
      · subst hin; exact hf
      · exact rngs_none f n h i (by omega)
theorem rngs_empty {f : Nat → Bool} : ∀ {n : Nat}, (∀ i, i < n → f i = false) → rngs n f = []
  | 0, _ => rfl
  | n + 1, h => by rw [rngs_succ, h n (by omega), if_neg (by simp), rngs_empty fun i hi => h i (by omega)]

/-! ### Checks -/
def evenQ (f p : PatL) : Bool := decide (p.in_ ≠ p.out) || decide (p.in_ ≠ f.in_)
def checkM (l : List PatL) : Int :=
  if l.any (fun p => decide ((checkP p).2 ≠ 0)) then 60
  else if l.any (fun p => p.lifted != (l.headD PatL.zero).lifted) then 62
  else if l.any (evenQ (l.headD PatL.zero)) then 61
  else 0
def symsP (p : PatL) : List Sym := symsOf p.ops
def touchedP (p : PatL) : List (Int × Int) × Int := if checkM [p] ≠ 0 then ([], checkM [p]) else (rngs (symsP p).length (touched (symsP p)), 0)
def readP (p : PatL) : List (Int × Int) × Int := if checkM [p] ≠ 0 then ([], checkM [p]) else (rngs (symsP p).length (readUp (symsP p) (symsP p).length), 0)
def clashAt (s t : List Sym) (i : Nat) : Bool := (touched s i && touched t i) && !symEq (sAt s i) (sAt t i)
def clashL (s t : List Sym) : List (Int × Int) := rngs s.length (clashAt s t)
def clashP (p q : PatL) : List (Int × Int) × Int := if checkM [p, q] ≠ 0 then ([], checkM [p, q]) else (clashL (symsP p) (symsP q), 0)
def mergeUp (s t : List Sym) (k : Nat) : List Sym := (List.range t.length).map fun i => if decide (i < k) && touched s i then sAt s i else sAt t i
def mergeS (s t : List Sym) : List Sym := mergeUp s t t.length
def mergeP (p q : PatL) : PatL × Int :=
  if checkM [p, q] ≠ 0 then (PatL.zero, checkM [p, q])
  else if clashL (symsP p) (symsP q) ≠ [] then (PatL.zero, 110)
  else
    let C := cheapP (mergeS (symsP p) (symsP q)) p.in_
    if C.2 ≠ 0 then (PatL.zero, C.2) else ({ C.1 with lifted := p.lifted }, 0)
def disturbs (s t : List Sym) : Bool := (List.range s.length).any fun i => touched s i && (touched t i || readUp t t.length i)
structure ExcL where
  q : PatL
  p : PatL
  e : Int
def commuteP (p q : PatL) : ExcL :=
  if checkM [p, q] ≠ 0 then ⟨PatL.zero, PatL.zero, checkM [p, q]⟩
  else if disturbs (symsP p) (symsP q) || disturbs (symsP q) (symsP p) then ⟨PatL.zero, PatL.zero, 110⟩
  else if (formP q).2 ≠ 0 ∨ (formP p).2 ≠ 0 then ⟨PatL.zero, PatL.zero, 2⟩
  else ⟨(formP q).1, (formP p).1, 0⟩

theorem mergeUp_len (s t : List Sym) (k : Nat) : (mergeUp s t k).length = t.length := by simp [mergeUp]
theorem mergeUp_at {s t : List Sym} {k i : Nat} (h : i < t.length) : (mergeUp s t k)[i]? = some (if decide (i < k) && touched s i then sAt s i else sAt t i) := by simp [mergeUp, h]
theorem mergeUp_zero (s t : List Sym) : mergeUp s t 0 = t := by
  apply List.ext_getElem?
  intro i
  by_cases hi : i < t.length
  · rw [mergeUp_at hi]; simp [sAt, hi]
  · rw [List.getElem?_eq_none (by rw [mergeUp_len]; omega), List.getElem?_eq_none (by omega)]
theorem mergeUp_set {s t : List Sym} {k : Nat} (h : touched s k = true) : (mergeUp s t k).set k (sAt s k) = mergeUp s t (k + 1) := by
  apply List.ext_getElem?
  intro i
  rw [List.getElem?_set, mergeUp_len]
  by_cases hi : i < t.length
  · rw [mergeUp_at hi, mergeUp_at hi]
    by_cases hk : k = i
    · subst hk; simp [h, hi]
    · rw [if_neg hk]
      have : (i < k + 1) ↔ (i < k) := by omega
      simp [this]
  · rw [List.getElem?_eq_none (l := mergeUp s t (k + 1)) (by rw [mergeUp_len]; omega)]
    split
    · split
      · omega
      · rfl
    · rw [List.getElem?_eq_none (by rw [mergeUp_len]; omega)]
theorem mergeUp_skip {s t : List Sym} {k : Nat} (h : touched s k = false) : mergeUp s t k = mergeUp s t (k + 1) := by
  unfold mergeUp
  refine List.map_congr_left fun j _ => ?_
  by_cases hj : j = k
  · subst hj; simp [h]
  · have : (j < k + 1) ↔ (j < k) := by omega
    simp [this]
def mergeBy (s t : List Sym) (l : List Nat) : List Sym := l.foldl (fun u i => u.set i (sAt s i)) t
theorem mergeBy_snoc (s t : List Sym) (l : List Nat) (i : Nat) : mergeBy s t (l ++ [i]) = (mergeBy s t l).set i (sAt s i) := by simp [mergeBy]
theorem mergeBy_len (s t : List Sym) (l : List Nat) : (mergeBy s t l).length = t.length := by
  refine snoc_ind (p := fun l => (mergeBy s t l).length = t.length) rfl ?_ l
  intro l i ih
  rw [mergeBy_snoc, List.length_set, ih]
theorem mergeBy_plc (s t : List Sym) : ∀ n, mergeBy s t (plc n (touched s)) = mergeUp s t n
  | 0 => by rw [mergeUp_zero]; rfl
  | n + 1 => by
    rw [plc_succ]
    cases h : touched s n with
    | true => rw [if_pos rfl, mergeBy_snoc, mergeBy_plc s t n, mergeUp_set h]
    | false => rw [if_neg (by simp), mergeBy_plc s t n, mergeUp_skip h]
end Go.Inl
