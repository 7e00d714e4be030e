/- Guards that are known to be open; literals that are read only; append of what is read only. Conditions: none. -/
import Derived.Test.YthningkgpanaoaaCore9
import Derived.Test.YthningkgpanaoaaSpec
import Derived.Laws.OwnMore
namespace Go.Inl
open Go Go.RowKit

section
variable {P : Program} {n : Nat} {σ : Nat → Value} {w : World} {Q : Exit → Act → World → Prop} {rest l : List Oper} {d : Option Tmp} {op : Op} {ty : TypeId} {p : String} {af : Array Edge}
  {X : List Nat} {w0 : World} {I0 I : Imm} {L : List Res} {v : Value} {j t i : Nat} {g : Bool} {R : Value → World → Prop} {r : Od}
theorem qqs (hj' : dstAt l j = some t) (hv : ev n σ (.tmp t) = .bool g) (hS : St X w0 I0 I w L) (h : Gives P (ev n σ) (KS X w0 I0 I L) op ty v) (k : OL P l Q n rest (updO σ d v) w) :
    OL P l Q n (⟨d, op, ty, p, af, some (j, g)⟩ :: rest) σ w := ⟨wl_gt (S := KS X w0 I0 I L) (dstAt_arr hj') hv hS h k.run⟩
theorem qes (hj' : dstAt l j = some t) (hv : ev n σ (.tmp t) = .bool g) (h : Does P (ev n σ) op ty w R) (k : ∀ v w', R v w' → OL P l Q n rest (updO σ d v) w') :
    OL P l Q n (⟨d, op, ty, p, af, some (j, g)⟩ :: rest) σ w := ⟨wl_et (dstAt_arr hj') hv h fun v w' hR => (k v w' hR).run⟩
theorem sbt (hi : l[i]? = some ⟨d, op, ty, p, af, some (j, g)⟩) (hj : (l[j]?).bind (·.dst) = some t) (hv : ev n σ (.tmp t) = .bool g) (h : Does P (ev n σ) op ty w R)
    (k : ∀ v w', R v w' → ∃ I' L', St X w0 I0 I' w' L' ∧ OS P l Q n r (KS X w0 I0 I' L') (updO σ d v) w') : OS P l Q n (.cons i .bar r) (KS X w0 I0 I L) σ w :=
  ⟨op_does (by simpa using hi) (wanted_t hj hv) h fun v w' hR => let ⟨I', L', h2, h3⟩ := k v w' hR; ⟨_, KS X w0 I0 I' L', rfl, h2, h3.run⟩⟩
end

/-- A frozen block that holds elements, as a slice. -/
theorem RSl.ofAt {α : Type} {I : Imm} {sz b m : Nat} {R : List Value → α → Prop} {css : List (List Value)} {cs : List Value} {xs : List α} (h : atI I ⟨b, 0, none⟩ cs) (hc : cs = css.flatten) (hl : ∀ c ∈ css, c.length = sz) (hx : All2 R css xs) (hm : m = xs.length) (hb : xs.length ≤ maxLen) :
    RSl I sz R (.slice (some ⟨b, 0, none⟩) m m) xs := by
  subst hm hc
  refine .inr ⟨b, 0, _, rfl, Nat.le_refl _, hb, fun i x hxi => ?_⟩
  have hi := (List.getElem?_eq_some_iff.1 hxi).1
  have hcs : css[i]? = some (css[i]'(by rw [hx.1]; exact hi)) := List.getElem?_eq_getElem _
  exact ⟨_, hl _ (List.mem_of_getElem? hcs), h.part (i * sz) _ fun j v hv => flatten_get css hl i _ hcs j v hv, hx.2 i _ x hcs hxi⟩
theorem All2.ofMap {α : Type} {R : List Value → α → Prop} (f : α → List Value) (xs : List α) (h : ∀ x, R (f x) x) : All2 R (xs.map f) xs := by
  refine ⟨by simp, fun i cs x h1 h2 => ?_⟩
  rw [List.getElem?_map, h2] at h1
  simp at h1; subst h1; exact h x
theorem RFl.ofAt {α : Type} {I : Imm} {sz b : Nat} {enc : α → List Value} (he : ∀ x, (enc x).length = sz) (xs : List α) {cs : List Value} (h : atI I ⟨b, 0, none⟩ cs) (hc : cs = flat enc xs) (hb : xs.length ≤ maxLen) :
    RFl I sz enc (.slice (some ⟨b, 0, none⟩) xs.length xs.length) xs :=
  RSl.ofAt (css := xs.map enc) h (by rw [hc]; simp [flat, List.flatMap_def]) (fun c hc => by obtain ⟨x, _, rfl⟩ := List.mem_map.1 hc; exact he x) (All2.ofMap enc xs fun _ => rfl) rfl hb
theorem flat_one' {α : Type} {enc : α → List Value} (h : ∀ x, (enc x).all (·.oneCell') = true) (xs : List α) : (flat enc xs).all (·.oneCell') = true := by
  rw [List.all_eq_true]
  intro v hv
  obtain ⟨x, _, hx⟩ := List.mem_flatMap.1 hv
  exact List.all_eq_true.1 (h x) v hx
theorem flat_cells {α : Type} {I : Imm} {sz b : Nat} {enc : α → List Value} {w : World} (he : ∀ x, (enc x).length = sz) (hw : Sat I w) : ∀ (xs : List α) (o : Nat), (∀ i x, xs[i]? = some x → ∃ cs, cs.length = sz ∧ atI I ⟨b, o + i * sz, none⟩ cs ∧ cs = enc x) →
    ∀ j v, (flat enc xs)[j]? = some v → w.cell? ⟨b, o + j, none⟩ = some v
  | [], _, _, j, v, hv => by simp [flat] at hv
  | x :: xs, o, h, j, v, hv => by
    simp only [flat, List.flatMap_cons] at hv
    by_cases hj : j < sz
    · rw [List.getElem?_append_left (by rw [he]; exact hj)] at hv
      obtain ⟨cs, _, h2, rfl⟩ := h 0 x rfl
      have := h2.cell hw j v hv
      rw [addr_add] at this
      simpa using this
    · rw [List.getElem?_append_right (by rw [he]; omega), he] at hv
      have := flat_cells he hw xs (o + sz) (fun i y hy => by
        obtain ⟨cs, h1, h2, h3⟩ := h (i + 1) y (by simpa using hy)
        exact ⟨cs, h1, by rw [Nat.add_mul, Nat.one_mul, Nat.add_comm (i * sz) sz, ← Nat.add_assoc] at h2; exact h2, h3⟩) (j - sz) v hv
      rwa [show o + sz + (j - sz) = o + j by omega] at this
theorem i_appendF {P : Program} {n : Nat} {σ : Nat → Value} {w : World} {ty : TypeId} {X : List Nat} {w0 : World} {I0 I : Imm} {L : List Res} (k : Nat) {α : Type} {enc : α → List Value} {t e : TypeId} {sz by' : Nat} {z : Value} {x y : Operand} {aT : Array TypeId} {u u' : Value} {m : Nat} {xs : List Value} {ys : List α}
    (hS : St X w0 I0 I w L) (ho : aT = #[t, t]) (hT : P.underlying t = some (.slice e)) (hi : Info P e z sz by') (hzs : z.cells.size = sz) (h0 : Nat.blt 0 sz = true) (hL : L[k]? = some (.row u e sz m xs)) (hx : ev n σ x = u)
    (he : ∀ x, (enc x).length = sz) (h1 : ∀ x, (enc x).all (·.oneCell') = true) (hr : RFl I sz enc u' ys) (hy : ev n σ y = u') (h63 : m + ys.length ≤ 9223372036854775807) (hbytes : (m + ys.length) * by' ≤ 140737488355328) :
    Does P (ev n σ) (.call { callee := .builtin .append, args := #[x, y], argTypes := aT }) ty w fun v w' => ∃ ad cap, v = .slice ad (m + ys.length) cap ∧ St X w0 I0 I w' (L.set k (.row (.slice ad (m + ys.length) cap) e sz (m + ys.length) (xs ++ flat enc ys))) := by
  rcases hr with ⟨⟨a, cap, rfl, _, hcn⟩, rfl⟩ | ⟨b, o, cap, rfl, h2, h3, h4⟩
  · cases a with
    | some a => exact i_append k hS ho hT hi hzs h0 hL hx hy (flat_length he []) (fun j v hv => by simp [flat] at hv) (flat_one' h1 []) h63 hbytes
    | none =>
      obtain rfl := hcn rfl
      have hown : w.ownsRow 0 e sz u m xs := hS.hold _ (List.mem_of_getElem? hL)
      obtain ⟨i, k1, k2, k3, k4⟩ := hi
      subst ho
      have hrun := run_append_owned_none (P := P) w 0 t ty e i sz hT k1 u m xs hown
      have hset : L.set k (.row u e sz (m + ([] : List α).length) (xs ++ flat enc ([] : List α))) = L := by
        have h := List.getElem?_eq_some_iff.1 hL
        simp only [flat, List.flatMap_nil, List.append_nil, List.length_nil, Nat.add_zero]
        rw [← h.2]; exact List.set_getElem_self h.1
      refine does_value (v := u) (w' := w) ?_ ?_
      · simp only [execOp, resolve, invoke, builtin, List.map_toArray, List.map_cons, List.map_nil, hx, hy, Sem.run_bind, Sem.run_pure, Result.andThen_ok, hrun]
      · rcases row_shape hS hL with ⟨_, ⟨rfl, rfl⟩ | ⟨g, cap, rfl, _⟩⟩
        · exact ⟨none, 0, rfl, by rw [show (Value.slice none (0 + ([] : List α).length) 0) = .slice none 0 0 from rfl, hset]; exact hS⟩
        · exact ⟨_, cap, rfl, by rw [show (Value.slice (some ⟨g, 0, none⟩) (m + ([] : List α).length) cap) = .slice (some ⟨g, 0, none⟩) m cap from rfl, hset]; exact hS⟩
  · exact i_append k hS ho hT hi hzs h0 hL hx hy (flat_length he ys) (fun j v hv => by rw [addr_add]; exact flat_cells he hS.imm ys o h4 j v hv) (flat_one' h1 ys) h63 hbytes
theorem All2.one {α : Type} {R : List Value → α → Prop} {cs : List Value} {x : α} (h : R cs x) : All2 R [cs] [x] := (All2.nil R).snoc h
theorem All2.cons {α : Type} {R : List Value → α → Prop} {cs : List Value} {x : α} {css : List (List Value)} {xs : List α} (h : R cs x) (k : All2 R css xs) : All2 R (cs :: css) (x :: xs) := by
  refine ⟨by simp [k.1], fun i c y hc hy => ?_⟩
  cases i with
  | zero => simp at hc hy; subst hc; subst hy; exact h
  | succ i => exact k.2 i c y (by simpa using hc) (by simpa using hy)
theorem All2.two {α : Type} {R : List Value → α → Prop} {cs ds : List Value} {x y : α} (h : R cs x) (k : R ds y) : All2 R [cs, ds] [x, y] := (All2.one h).snoc k
end Go.Inl
