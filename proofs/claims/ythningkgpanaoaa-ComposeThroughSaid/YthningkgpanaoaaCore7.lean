/- Guarded operations whose guard is open; new slices and append by one fact of the element's type; slices of plain structs. Conditions: none. -/
import Derived.Test.YthningkgpanaoaaCore6
namespace Go.Inl
open Go Go.RowKit

section
variable {P : Program} {n : Nat} {σ : Nat → Value} {w : World} {ops : Array Oper} {Q : Exit → Act → World → Prop} {rest : List Oper} {d : Option Tmp} {op : Op} {ty : TypeId} {p : String} {af : Array Edge}
  {X : List Nat} {w0 : World} {I0 I : Imm} {L : List Res} {v val : Value} {j t : Nat} {g g' : Bool} {C : Prop}

theorem not_of_ne {a b : Bool} (h : ¬ a = b) : a = !b := by cases a <;> cases b <;> simp_all

theorem wanted_undef {ops : Array Oper} (hj : (ops[j]?).bind (·.dst) = some t) (hv : ev n σ (.tmp t) = undef) : Region.wanted ⟨d, op, ty, p, af, some (j, g)⟩ (yielded ops (act n σ).tmps) = false := by
  have ht : (act n σ).tmps.getD t undef = undef := by rw [act_getD]; exact hv
  have : yielded ops (act n σ).tmps j = none := by
    unfold yielded
    rw [hj, Option.bind_some]
    rw [Array.getD_eq_getD_getElem?] at ht
    cases hh : (act n σ).tmps[t]? with
    | none => rfl
    | some v => rw [hh] at ht; simp at ht; subst ht; rfl
  simp [Region.wanted, this]

/-- Where operation number j of a list writes. -/
def dstAt : List Oper → Nat → Option Tmp
  | [], _ => none
  | o :: _, 0 => o.dst
  | _ :: l, j + 1 => dstAt l j
theorem dstAt_eq : ∀ (l : List Oper) (j : Nat), dstAt l j = (l[j]?).bind (·.dst)
  | [], j => by simp [dstAt]
  | o :: l, 0 => by simp [dstAt]
  | o :: l, j + 1 => by simp [dstAt, dstAt_eq l j]
theorem dstAt_arr {l : List Oper} {j : Nat} {t : Tmp} (h : dstAt l j = some t) : (l.toArray[j]?).bind (·.dst) = some t := by rw [dstAt_eq] at h; simpa using h
theorem dstAt_lst {l : List Oper} {j : Nat} {t : Tmp} (h : dstAt l j = some t) : (l[j]?).bind (·.dst) = some t := by rw [dstAt_eq] at h; exact h
variable {l : List Oper}
theorem qu (hj' : dstAt l j = some t) (hv : ev n σ (.tmp t) = .bool g') (hS : St X w0 I0 I w L) (h : g' = g → Gives P (ev n σ) (KS X w0 I0 I L) op ty v)
    (k : ∀ u, (g' = g → u = v) → (¬ g' = g → u = undef) → OL P l Q n rest (updO σ d u) w) : OL P l Q n (⟨d, op, ty, p, af, some (j, g)⟩ :: rest) σ w := by
  have hj := dstAt_arr hj'
  by_cases e : g' = g
  · subst e; exact ⟨wl_gt (S := KS X w0 I0 I L) hj hv hS (h rfl) (k v (fun _ => rfl) (fun h => absurd rfl h)).run⟩
  · exact ⟨wl_gf hj hv (not_of_ne e) (k undef (fun h => absurd h e) (fun _ => rfl)).run⟩
theorem qn (hj' : dstAt l j = some t) (hc : C → ev n σ (.tmp t) = .bool g') (hn : ¬ C → ev n σ (.tmp t) = undef) (hS : St X w0 I0 I w L) (h : C ∧ g' = g → Gives P (ev n σ) (KS X w0 I0 I L) op ty v)
    (k : ∀ u, (C ∧ g' = g → u = v) → (¬ (C ∧ g' = g) → u = undef) → OL P l Q n rest (updO σ d u) w) : OL P l Q n (⟨d, op, ty, p, af, some (j, g)⟩ :: rest) σ w := by
  have hj := dstAt_arr hj'
  by_cases hC : C
  · refine qu hj' (hc hC) hS (fun e => h ⟨hC, e⟩) fun u h1 h2 => k u (fun e => h1 e.2) (fun e => h2 fun e' => e ⟨hC, e'⟩)
  · refine ⟨wpList_step fun K hK => ?_⟩
    rw [if_neg (by rw [wanted_undef hj (hn hC)]; simp), act_put]
    exact hK _ _ (k undef (fun e => absurd e.1 hC) (fun _ => rfl)).run

/-- A call whose value is known, under a guard. -/
theorem cvu (hj' : dstAt l j = some t) (hv : ev n σ (.tmp t) = .bool g') (hS : St X w0 I0 I w L) (h : g' = g → Does P (ev n σ) op ty w fun v w' => v = val ∧ Ext w I w' I)
    (k : ∀ w' u, St X w0 I0 I w' L → (g' = g → u = val) → (¬ g' = g → u = undef) → OL P l Q n rest (updO σ d u) w') : OL P l Q n (⟨d, op, ty, p, af, some (j, g)⟩ :: rest) σ w := by
  have hj := dstAt_arr hj'
  by_cases e : g' = g
  · subst e
    refine ⟨wl_et hj hv (h rfl) ?_⟩
    rintro v w' ⟨rfl, hE⟩
    exact (k w' _ (hS.call hE) (fun _ => rfl) (fun h => absurd rfl h)).run
  · exact ⟨wl_gf hj hv (not_of_ne e) (k w undef hS (fun h => absurd h e) (fun _ => rfl)).run⟩
theorem cvn (hj' : dstAt l j = some t) (hc : C → ev n σ (.tmp t) = .bool g') (hn : ¬ C → ev n σ (.tmp t) = undef) (hS : St X w0 I0 I w L) (h : C ∧ g' = g → Does P (ev n σ) op ty w fun v w' => v = val ∧ Ext w I w' I)
    (k : ∀ w' u, St X w0 I0 I w' L → (C ∧ g' = g → u = val) → (¬ (C ∧ g' = g) → u = undef) → OL P l Q n rest (updO σ d u) w') : OL P l Q n (⟨d, op, ty, p, af, some (j, g)⟩ :: rest) σ w := by
  have hj := dstAt_arr hj'
  by_cases hC : C
  · refine cvu hj' (hc hC) hS (fun e => h ⟨hC, e⟩) fun w' u hS' h1 h2 => k w' u hS' (fun e => h1 e.2) (fun e => h2 fun e' => e ⟨hC, e'⟩)
  · refine ⟨wpList_step fun K hK => ?_⟩
    rw [if_neg (by rw [wanted_undef hj (hn hC)]; simp), act_put]
    exact hK _ _ (k w undef hS (fun e => absurd e.1 hC) (fun _ => rfl)).run

variable {i : Nat} {r : Od} {S : World → Prop}
theorem spu (hi : l[i]? = some ⟨d, op, ty, p, af, some (j, g)⟩) (hj' : dstAt l j = some t) (hv : ev n σ (.tmp t) = .bool g') (h : g' = g → Gives P (ev n σ) (fun _ => True) op ty v)
    (k : ∀ u, (g' = g → u = v) → (¬ g' = g → u = undef) → OS P l Q n r S (updO σ d u) w) : OS P l Q n (.cons i .pure r) S σ w := by
  have hj := dstAt_lst hj'
  by_cases e : g' = g
  · subst e; exact spt hi hj hv (h rfl) (k v (fun _ => rfl) (fun h => absurd rfl h))
  · exact spf hi hj hv (not_of_ne e) (k undef (fun h => absurd h e) (fun _ => rfl))
theorem shu (hi : l[i]? = some ⟨d, op, ty, p, af, some (j, g)⟩) (hj' : dstAt l j = some t) (hv : ev n σ (.tmp t) = .bool g') (h : g' = g → Gives P (ev n σ) (KS X w0 I0 I L) op ty v)
    (k : ∀ u, (g' = g → u = v) → (¬ g' = g → u = undef) → OS P l Q n r (KS X w0 I0 I L) (updO σ d u) w) : OS P l Q n (.cons i .held r) (KS X w0 I0 I L) σ w := by
  have hj := dstAt_lst hj'
  by_cases e : g' = g
  · subst e; exact sht hi hj hv (h rfl) (k v (fun _ => rfl) (fun h => absurd rfl h))
  · exact shf hi hj hv (not_of_ne e) (k undef (fun h => absurd h e) (fun _ => rfl))
theorem spn (hi : l[i]? = some ⟨d, op, ty, p, af, some (j, g)⟩) (hj' : dstAt l j = some t) (hc : C → ev n σ (.tmp t) = .bool g') (hn : ¬ C → ev n σ (.tmp t) = undef) (h : C ∧ g' = g → Gives P (ev n σ) (fun _ => True) op ty v)
    (k : ∀ u, (C ∧ g' = g → u = v) → (¬ (C ∧ g' = g) → u = undef) → OS P l Q n r S (updO σ d u) w) : OS P l Q n (.cons i .pure r) S σ w := by
  have hj := dstAt_lst hj'
  by_cases hC : C
  · exact spu hi hj' (hc hC) (fun e => h ⟨hC, e⟩) fun u h1 h2 => k u (fun e => h1 e.2) (fun e => h2 fun e' => e ⟨hC, e'⟩)
  · exact ⟨⟨_, undef, hi, yi_no (wanted_undef (by simpa using hj) (hn hC)), (k undef (fun e => absurd e.1 hC) (fun _ => rfl)).run⟩⟩
theorem shn (hi : l[i]? = some ⟨d, op, ty, p, af, some (j, g)⟩) (hj' : dstAt l j = some t) (hc : C → ev n σ (.tmp t) = .bool g') (hn : ¬ C → ev n σ (.tmp t) = undef) (h : C ∧ g' = g → Gives P (ev n σ) (KS X w0 I0 I L) op ty v)
    (k : ∀ u, (C ∧ g' = g → u = v) → (¬ (C ∧ g' = g) → u = undef) → OS P l Q n r (KS X w0 I0 I L) (updO σ d u) w) : OS P l Q n (.cons i .held r) (KS X w0 I0 I L) σ w := by
  have hj := dstAt_lst hj'
  by_cases hC : C
  · exact shu hi hj' (hc hC) (fun e => h ⟨hC, e⟩) fun u h1 h2 => k u (fun e => h1 e.2) (fun e => h2 fun e' => e ⟨hC, e'⟩)
  · exact ⟨⟨_, undef, hi, yi_no (wanted_undef (by simpa using hj) (hn hC)), (k undef (fun e => absurd e.1 hC) (fun _ => rfl)).run⟩⟩
theorem scu (hi : l[i]? = some ⟨d, op, ty, p, af, some (j, g)⟩) (hj' : dstAt l j = some t) (hv : ev n σ (.tmp t) = .bool g') (hS : St X w0 I0 I w L) (h : g' = g → Does P (ev n σ) op ty w fun v w' => v = val ∧ Ext w I w' I)
    (k : ∀ w' u, St X w0 I0 I w' L → (g' = g → u = val) → (¬ g' = g → u = undef) → OS P l Q n r (KS X w0 I0 I L) (updO σ d u) w') : OS P l Q n (.cons i .eff r) (KS X w0 I0 I L) σ w := by
  have hj := dstAt_lst hj'
  by_cases e : g' = g
  · subst e
    refine Inl.set hi hj hv (h rfl) ?_
    rintro v w' ⟨rfl, hE⟩
    exact ⟨_, _, fun _ h => h, hS.call hE, k w' _ (hS.call hE) (fun _ => rfl) (fun h => absurd rfl h)⟩
  · exact sef hi hj hv (not_of_ne e) hS (k w undef hS (fun h => absurd h e) (fun _ => rfl))
theorem scn (hi : l[i]? = some ⟨d, op, ty, p, af, some (j, g)⟩) (hj' : dstAt l j = some t) (hc : C → ev n σ (.tmp t) = .bool g') (hn : ¬ C → ev n σ (.tmp t) = undef) (hS : St X w0 I0 I w L)
    (h : C ∧ g' = g → Does P (ev n σ) op ty w fun v w' => v = val ∧ Ext w I w' I)
    (k : ∀ w' u, St X w0 I0 I w' L → (C ∧ g' = g → u = val) → (¬ (C ∧ g' = g) → u = undef) → OS P l Q n r (KS X w0 I0 I L) (updO σ d u) w') : OS P l Q n (.cons i .eff r) (KS X w0 I0 I L) σ w := by
  have hj := dstAt_lst hj'
  by_cases hC : C
  · exact scu hi hj' (hc hC) hS (fun e => h ⟨hC, e⟩) fun w' u hS' h1 h2 => k w' u hS' (fun e => h1 e.2) (fun e => h2 fun e' => e ⟨hC, e'⟩)
  · exact ⟨op_no (by simpa using hi) (wanted_undef (by simpa using hj) (hn hC)) ⟨_, KS X w0 I0 I L, rfl, fun _ h => h, hS, (k w undef hS (fun e => absurd e.1 hC) (fun _ => rfl)).run⟩⟩
end

/-! ### By one fact of the element's type -/
def Info (P : Program) (e : TypeId) (z : Value) (sz by' : Nat) : Prop := ∃ i, P.info? e = some i ∧ i.zero = some z ∧ i.size = sz ∧ i.bytes = by'
section
variable {P : Program} {n : Nat} {σ : Nat → Value} {w : World} {ty : TypeId} {X : List Nat} {w0 : World} {I0 I : Imm} {L : List Res}
theorem i_make {t e : TypeId} {sz by' : Nat} {z : Value} {x y : Operand} {kl kc : IntKind} {l c : Int} (hS : St X w0 I0 I w L) (hT : P.underlying t = some (.slice e)) (hi : Info P e z sz by') (hx : ev n σ x = .int kl l) (hy : ev n σ y = .int kc c)
    (h0 : 0 ≤ l) (hlc : l ≤ c) (hbytes : (by' : Int) * c ≤ 281474976710656) (h63 : c ≤ 9223372036854775807) :
    Does P (ev n σ) (.makeSlice t x y) ty w fun v w' => ∃ b, v = .slice (some ⟨b, 0, none⟩) l.toNat c.toNat ∧ St X w0 I0 I w' (.cel b e (madeCells z.cells (c.toNat * sz)).toList :: L) := by
  obtain ⟨i, h1, h2, h3, h4⟩ := hi
  exact d_make hS hT h1 h2 h3 h4 hx hy h0 hlc hbytes h63
theorem i_make0 {t e : TypeId} {sz by' : Nat} {z : Value} {x y : Operand} {kl kc : IntKind} {c : Int} (hS : St X w0 I0 I w L) (hT : P.underlying t = some (.slice e)) (hi : Info P e z sz by') (hx : ev n σ x = .int kl 0) (hy : ev n σ y = .int kc c)
    (hlc : 0 ≤ c) (hbytes : (by' : Int) * c ≤ 281474976710656) (h63 : c ≤ 9223372036854775807) :
    Does P (ev n σ) (.makeSlice t x y) ty w fun v w' => ∃ ad cap, v = .slice ad 0 cap ∧ St X w0 I0 I w' (.row (.slice ad 0 cap) e sz 0 [] :: L) := by
  obtain ⟨i, h1, h2, h3, h4⟩ := hi
  refine (d_make0 hS hT h1 h2 h3 h4 hx hy hlc hbytes h63).mono ?_
  rintro v w' ⟨h, _⟩
  obtain ⟨ad, cap, rfl⟩ := append_shape (k := 0) (L := .row v e sz 0 [] :: L) (by simp) (by simpa using h)
  exact ⟨ad, cap, rfl, h⟩
theorem i_append (k : Nat) {t e : TypeId} {sz by' : Nat} {z : Value} {x y : Operand} {aT : Array TypeId} {u : Value} {m m' c : Nat} {xs news : List Value} {ad : Addr} (hS : St X w0 I0 I w L) (ho : aT = #[t, t]) (hT : P.underlying t = some (.slice e))
    (hi : Info P e z sz by') (hzs : z.cells.size = sz) (h0 : Nat.blt 0 sz = true) (hL : L[k]? = some (.row u e sz m xs)) (hx : ev n σ x = u) (hy : ev n σ y = .slice (some ad) m' c) (hl : news.length = m' * sz)
    (hc : ∀ j v, news[j]? = some v → w.cell? (ad.add j) = some v) (h1 : news.all (·.oneCell') = true) (h63 : m + m' ≤ 9223372036854775807) (hbytes : (m + m') * by' ≤ 140737488355328) :
    Does P (ev n σ) (.call { callee := .builtin .append, args := #[x, y], argTypes := aT }) ty w fun v w' => ∃ ad cap, v = .slice ad (m + m') cap ∧ St X w0 I0 I w' (L.set k (.row (.slice ad (m + m') cap) e sz (m + m') (xs ++ news))) := by
  obtain ⟨i, k1, k2, k3, k4⟩ := hi
  refine (d_append k hS ho hT k1 k2 k3 k4 hzs h0 hL hx hy hl hc h1 h63 hbytes).mono ?_
  rintro v w' ⟨h, _⟩
  obtain ⟨ad, cap, rfl⟩ := append_shape (List.getElem?_eq_some_iff.1 hL).1 h
  exact ⟨ad, cap, rfl, h⟩
theorem i_appendO (k j : Nat) {t e T : TypeId} {sz by' : Nat} {z : Value} {x y : Operand} {aT : Array TypeId} {u : Value} {m m' c b : Nat} {xs news : List Value} (hS : St X w0 I0 I w L) (ho : aT = #[t, t]) (hT : P.underlying t = some (.slice e))
    (hi : Info P e z sz by') (hzs : z.cells.size = sz) (h0 : Nat.blt 0 sz = true) (hL : L[k]? = some (.row u e sz m xs)) (hJ : L[j]? = some (.cel b T news)) (hx : ev n σ x = u) (hy : ev n σ y = .slice (some ⟨b, 0, none⟩) m' c)
    (hl : news.length = m' * sz) (h1 : news.all (·.oneCell') = true) (h63 : m + m' ≤ 9223372036854775807) (hbytes : (m + m') * by' ≤ 140737488355328) :
    Does P (ev n σ) (.call { callee := .builtin .append, args := #[x, y], argTypes := aT }) ty w fun v w' => ∃ ad cap, v = .slice ad (m + m') cap ∧ St X w0 I0 I w' (L.set k (.row (.slice ad (m + m') cap) e sz (m + m') (xs ++ news))) := by
  obtain ⟨i, k1, k2, k3, k4⟩ := hi
  refine (d_appendO k j hS ho hT k1 k2 k3 k4 hzs h0 hL hJ hx hy hl h1 h63 hbytes).mono ?_
  rintro v w' ⟨h, _⟩
  obtain ⟨ad, cap, rfl⟩ := append_shape (List.getElem?_eq_some_iff.1 hL).1 h
  exact ⟨ad, cap, rfl, h⟩
end

/-! ### Slices of plain structs -/
def RFl {α : Type} (I : Imm) (sz : Nat) (enc : α → List Value) (v : Value) (xs : List α) : Prop := RSl I sz (fun cs x => cs = enc x) v xs
theorem RFl.at {α : Type} {I : Imm} {sz : Nat} {enc : α → List Value} {v : Value} {xs : List α} (h : RFl I sz enc v xs) {i : Nat} {x : α} (hx : xs[i]? = some x) : atI I (elA v i sz 0) (enc x) := by
  obtain ⟨cs, _, h2, rfl⟩ := RSl.at h hx
  exact h2
theorem RFl.mono {α : Type} {I J : Imm} {sz : Nat} {enc : α → List Value} {v : Value} {xs : List α} (h : RFl I sz enc v xs) (hs : Sub I J) : RFl J sz enc v xs := RSl.mono h hs fun _ _ h => h
theorem RFl.resl {α : Type} {I : Imm} {sz : Nat} {enc : α → List Value} {v : Value} {xs : List α} (hr : RFl I sz enc v xs) (l h : Nat) (hlh : l ≤ h) (hh : h ≤ xs.length) : RFl I sz enc (Inl.resl v l h h sz) ((xs.take h).drop l) := RSl.resl hr l h hlh hh

/-- The cells of a list, one element behind the other. -/
def flat {α : Type} (enc : α → List Value) (xs : List α) : List Value := xs.flatMap enc
theorem flat_length {α : Type} {enc : α → List Value} {sz : Nat} (he : ∀ x, (enc x).length = sz) (xs : List α) : (flat enc xs).length = xs.length * sz := by
  induction xs with
  | nil => simp [flat]
  | cons x xs ih => simp only [flat, List.flatMap_cons, List.length_append, he, List.length_cons] at ih ⊢; rw [ih, Nat.add_mul]; omega
theorem flat_get {α : Type} {enc : α → List Value} {sz : Nat} (he : ∀ x, (enc x).length = sz) : ∀ (xs : List α) (i : Nat) (x : α), xs[i]? = some x → ∀ j v, (enc x)[j]? = some v → (flat enc xs)[i * sz + j]? = some v
  | [], i, x, hx => by simp at hx
  | y :: xs, 0, x, hx => by
    simp only [List.length_cons, Nat.zero_lt_succ, List.getElem?_eq_getElem, List.getElem_cons_zero, Option.some.injEq] at hx
    subst hx
    intro j v hv
    have hj := (List.getElem?_eq_some_iff.1 hv).1
    simp only [flat, List.flatMap_cons, Nat.zero_mul, Nat.zero_add]
    rw [List.getElem?_append_left hj]; exact hv
  | y :: xs, i + 1, x, hx => by
    intro j v hv
    have := flat_get he xs i x (by simpa using hx) j v hv
    simp only [flat, List.flatMap_cons]
    rw [List.getElem?_append_right (by rw [he, Nat.add_mul]; omega), he, show (i + 1) * sz + j - sz = i * sz + j by rw [Nat.add_mul]; omega]
    exact this
theorem flat_append {α : Type} (enc : α → List Value) (xs ys : List α) : flat enc (xs ++ ys) = flat enc xs ++ flat enc ys := by simp [flat]
theorem flat_one {α : Type} (enc : α → List Value) (x : α) : flat enc [x] = enc x := by simp [flat]

/-- A block that stands still holds a slice. -/
theorem RFl.of_block {α : Type} {I : Imm} {sz : Nat} {enc : α → List Value} (he : ∀ x, (enc x).length = sz) {b : Nat} {T : TypeId} {fz : Nat × Nat} {c : Array Value} {xs : List α} {cap : Nat} (hI : I b = some (.cells c T fz))
    (hc : ∀ (j : Nat) v, (flat enc xs)[j]? = some v → c[j]? = some v) (h1 : xs.length ≤ cap) (h2 : cap ≤ maxLen) : RFl I sz enc (.slice (some ⟨b, 0, none⟩) xs.length cap) xs :=
  .inr ⟨b, 0, cap, rfl, h1, h2, fun i x hx => ⟨enc x, he x, ⟨rfl, c, T, fz, hI, fun j v hv => by
    simp only [Nat.zero_add]; exact hc _ v (flat_get he xs i x hx j v hv)⟩, rfl⟩⟩

section
variable {w0 w : World} {I0 I : Imm} {L : List Res}
/-- A slice that was appended to stands still from here on. -/
theorem St.freezeRow {α : Type} {enc : α → List Value} {sz m : Nat} {E : TypeId} {u : Value} {xs : List α} (he : ∀ x, (enc x).length = sz) (h : St [] w0 I0 I w (.row u E sz m (flat enc xs) :: L)) (hm : m = xs.length) :
    ∃ I', St [] w0 I0 I' w L ∧ Sub I I' ∧ RFl I' sz enc u xs := by
  have hh : w.ownsRow 0 E sz u m (flat enc xs) := h.hold (.row u E sz m (flat enc xs)) (by simp)
  obtain ⟨h1, h2, h3⟩ := h.freeze
  refine ⟨_, h1, h2, ?_⟩
  subst hm
  rcases hh.2 with ⟨rfl, h0⟩ | ⟨g, cap, cur, rfl, _, hg, h4, h5, _, h7⟩
  · have hx := List.length_eq_zero_iff.1 h0
    exact .inl ⟨⟨none, 0, rfl, by simp, fun _ => rfl⟩, hx⟩
  · have hI := h3 g (by simp [Res.foot, Value.ownBlock])
    rw [hg] at hI
    refine RFl.of_block he hI (fun j v hj => ?_) h4 h5
    rw [← h7, List.getElem?_take] at hj
    split at hj
    · simpa using hj
    · cases hj
/-- A block known whole, as a slice that stands still. -/
theorem St.freezeCel {α : Type} {enc : α → List Value} {sz : Nat} {T : TypeId} {b : Nat} {xs : List α} (he : ∀ x, (enc x).length = sz) (h : St [] w0 I0 I w (.cel b T (flat enc xs) :: L)) (hm : xs.length ≤ maxLen) :
    ∃ I', St [] w0 I0 I' w L ∧ Sub I I' ∧ RFl I' sz enc (.slice (some ⟨b, 0, none⟩) xs.length xs.length) xs := by
  have hh : w.heap[b]? = some (.cells (flat enc xs).toArray T (0, 0)) := h.hold (.cel b T (flat enc xs)) (by simp)
  obtain ⟨h1, h2, h3⟩ := h.freeze
  refine ⟨_, h1, h2, ?_⟩
  have hI := h3 b (by simp [Res.foot])
  rw [hh] at hI
  exact RFl.of_block he hI (fun j v hj => by simpa using hj) (Nat.le_refl _) hm
end
end Go.Inl
