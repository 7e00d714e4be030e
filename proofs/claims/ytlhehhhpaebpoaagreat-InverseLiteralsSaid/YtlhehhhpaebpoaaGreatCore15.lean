/- Guards that are known to be shut; append of slices whose elements hold slices. Conditions: none. -/
import Derived.Test.YtlhehhhpaebpoaaGreatKCore2
namespace Go.Inl
open Go Go.RowKit

section
variable {P : Program} {n : Nat} {df : List Deferred} {ro : Option Nat} {σ : Nat → Value} {w : World} {Q : Exit → Act → World → Prop} {rest l : List Oper} {d : Option Tmp} {op : Op} {ty : TypeId} {p : String} {af : Array Edge}
  {X : List Nat} {w0 : World} {I0 I : Imm} {L : List Res} {v : Value} {j t i : Nat} {g g' : Bool} {r : Od} {S : World → Prop}
theorem qsf (hj' : dstAt l j = some t) (hv : ev n σ (.tmp t) = .bool g') (hne : g' = !g) (k : OL P l Q n df rest (updO σ d undef) w) :
    OL P l Q n df (⟨d, op, ty, p, af, some (j, g)⟩ :: rest) σ w := ⟨wl_gf (dstAt_arr hj') hv hne k.run⟩
theorem qsu (hj' : dstAt l j = some t) (hv : ev n σ (.tmp t) = undef) (k : OL P l Q n df rest (updO σ d undef) w) :
    OL P l Q n df (⟨d, op, ty, p, af, some (j, g)⟩ :: rest) σ w := ⟨by
  unfold wpL
  rw [if_neg (by rw [wanted_undef (dstAt_arr hj') hv]; exact Bool.false_ne_true), act_put]
  exact k.run⟩
theorem spx (hi : l[i]? = some ⟨d, op, ty, p, af, some (j, g)⟩) (hj' : dstAt l j = some t) (hv : ev n σ (.tmp t) = undef) (k : OS P l Q n df r S (updO σ d undef) w) :
    OS P l Q n df (.cons i .pure r) S σ w := ⟨⟨_, undef, hi, yi_no (wanted_undef (dstAt_arr hj') hv), k.run⟩⟩
theorem sgf (hi : l[i]? = some ⟨d, op, ty, p, af, some (j, g)⟩) (hj' : dstAt l j = some t) (hv : ev n σ (.tmp t) = .bool g') (hne : g' = !g) (hS : St X w0 I0 I w L) (k : OS P l Q n df r (KS X w0 I0 I L) (updO σ d undef) w) :
    OS P l Q n df (.cons i .eff r) (KS X w0 I0 I L) σ w := ⟨by
  unfold WS opR
  rw [show l.toArray[i]? = some _ by simpa using hi]
  dsimp only
  rw [if_neg (by rw [wanted_f (dstAt_lst hj') hv hne]; exact Bool.false_ne_true)]
  exact ⟨_, _, act_put _ _ _ _ _, fun _ h => h, hS, k.run⟩⟩
theorem sgx (hi : l[i]? = some ⟨d, op, ty, p, af, some (j, g)⟩) (hj' : dstAt l j = some t) (hv : ev n σ (.tmp t) = undef) (hS : St X w0 I0 I w L) (k : OS P l Q n df r (KS X w0 I0 I L) (updO σ d undef) w) :
    OS P l Q n df (.cons i .eff r) (KS X w0 I0 I L) σ w := ⟨by
  unfold WS opR
  rw [show l.toArray[i]? = some _ by simpa using hi]
  dsimp only
  rw [if_neg (by rw [wanted_undef (dstAt_arr hj') hv]; exact Bool.false_ne_true)]
  exact ⟨_, _, act_put _ _ _ _ _, fun _ h => h, hS, k.run⟩⟩
end
/-- The elements of a slice by their cells. -/
theorem RSl.cells {α : Type} {I : Imm} {sz : Nat} {R : List Value → α → Prop} {u : Value} {ys : List α} (h : RSl I sz R u ys) (h1 : ∀ cs x, R cs x → cs.all (·.oneCell') = true) :
    ∃ css : List {cs : List Value // cs.length = sz ∧ cs.all (·.oneCell') = true}, css.length = ys.length ∧ All2 R (css.map (·.1)) ys ∧ RFl I sz (·.1) u css := by
  rcases h with ⟨h, rfl⟩ | ⟨b, o, cap, rfl, h2, h3, h4⟩
  · exact ⟨[], rfl, All2.nil R, .inl ⟨h, rfl⟩⟩
  · have hall : ∀ (zs : List α) (o : Nat), (∀ i x, zs[i]? = some x → ∃ cs, cs.length = sz ∧ atI I ⟨b, o + i * sz, none⟩ cs ∧ R cs x) →
        ∃ css : List {cs : List Value // cs.length = sz ∧ cs.all (·.oneCell') = true}, css.length = zs.length ∧ All2 R (css.map (·.1)) zs ∧ ∀ i x, css[i]? = some x → ∃ cs, cs.length = sz ∧ atI I ⟨b, o + i * sz, none⟩ cs ∧ cs = x.1 := by
      intro zs
      induction zs with
      | nil => intro o _; exact ⟨[], rfl, All2.nil R, fun i x hx => by simp at hx⟩
      | cons z zs ih =>
        intro o hz
        obtain ⟨cs, c1, c2, c3⟩ := hz 0 z rfl
        obtain ⟨css, d1, d2, d3⟩ := ih (o + sz) (fun i x hx => by
          obtain ⟨c, e1, e2, e3⟩ := hz (i + 1) x (by simpa using hx)
          exact ⟨c, e1, by rw [Nat.add_mul, Nat.one_mul, Nat.add_comm (i * sz) sz, ← Nat.add_assoc] at e2; exact e2, e3⟩)
        refine ⟨⟨cs, c1, h1 _ _ c3⟩ :: css, by simp [d1], All2.cons c3 d2, fun i x hx => ?_⟩
        cases i with
        | zero => simp at hx; subst hx; exact ⟨cs, c1, by simpa using c2, rfl⟩
        | succ i =>
          obtain ⟨c, e1, e2, e3⟩ := d3 i x (by simpa using hx)
          exact ⟨c, e1, by rw [Nat.add_mul, Nat.one_mul, Nat.add_comm (i * sz) sz, ← Nat.add_assoc]; exact e2, e3⟩
    obtain ⟨css, d1, d2, d3⟩ := hall ys o h4
    exact ⟨css, d1, d2, .inr ⟨b, o, cap, by rw [d1], by omega, h3, d3⟩⟩
theorem i_appendR {P : Program} {n : Nat} {σ : Nat → Value} {w : World} {ty : TypeId} {X : List Nat} {w0 : World} {I0 I : Imm} {L : List Res} (k : Nat) {α : Type} {R : List Value → α → Prop} {t e : TypeId} {sz by' : Nat} {z : Value} {x y : Operand} {aT : Array TypeId} {u u' : Value} {m : Nat} {xs : List Value} {ys : List α}
    (hS : St X w0 I0 I w L) (ho : aT = #[t, t]) (hT : P.underlying t = some (.slice e)) (hi : Info P e z sz by') (hzs : z.cells.size = sz) (h0 : Nat.blt 0 sz = true) (hL : L[k]? = some (.row u e sz m xs)) (hx : ev n σ x = u)
    (h1 : ∀ cs x, R cs x → cs.all (·.oneCell') = true) (hr : RSl I sz R u' ys) (hy : ev n σ y = u') (h63 : m + ys.length ≤ 9223372036854775807) (hbytes : (m + ys.length) * by' ≤ 140737488355328) :
    Does P (ev n σ) (.call { callee := .builtin .append, args := #[x, y], argTypes := aT }) ty w fun v w' => ∃ ad cap css, v = .slice ad (m + ys.length) cap ∧ (∀ c ∈ css, c.length = sz) ∧ All2 R css ys ∧ St X w0 I0 I w' (L.set k (.row (.slice ad (m + ys.length) cap) e sz (m + ys.length) (xs ++ css.flatten))) := by
  obtain ⟨css, d1, d2, d3⟩ := hr.cells h1
  refine (i_appendF k hS ho hT hi hzs h0 hL hx (fun c => c.2.1) (fun c => c.2.2) d3 hy (by omega) (by rw [d1]; exact hbytes)).mono fun v w' ⟨ad, cap, h1, h2⟩ => ?_
  rw [d1] at h1 h2
  refine ⟨ad, cap, css.map (·.1), h1, fun c hc => ?_, d2, ?_⟩
  · obtain ⟨c', _, rfl⟩ := List.mem_map.1 hc; exact c'.2.1
  · rw [show (css.map (·.1)).flatten = flat (·.1) css from rfl]; exact h2
theorem All2.append {α : Type} {R : List Value → α → Prop} : ∀ {a : List (List Value)} {x : List α} {b : List (List Value)} {y : List α}, All2 R a x → All2 R b y → All2 R (a ++ b) (x ++ y)
  | [], [], b, y, _, h => h
  | [], _ :: _, _, _, h, _ => by simp [All2] at h
  | _ :: _, [], _, _, h, _ => by simp [All2] at h
  | c :: a, z :: x, b, y, h, k => All2.cons (h.2 0 c z rfl rfl) (All2.append ⟨by simpa using h.1, fun i c' z' hc hz => h.2 (i + 1) c' z' (by simpa using hc) (by simpa using hz)⟩ k)
theorem ROp.one {I : Imm} (cs : List Value) (x : OpL) (h : ROp I cs x) : cs.all (·.oneCell') = true := by
  obtain ⟨ad, m, cap, rfl, _⟩ := h; rfl
end Go.Inl
