/- The frame of a call as a function of slots; the rules of the walk over it; what is known of memory as a list of own blocks and a heap that stands still. Conditions: none. -/
import Derived.WalkKit
import Derived.Deep.MidRow
import Derived.OrdersHeld
namespace Go.Inl
open Go Go.RowKit

/-! ### The frame -/
def upd (σ : Nat → Value) (d : Nat) (v : Value) : Nat → Value := fun t => cond (Nat.beq t d) v (σ t)
def updO (σ : Nat → Value) : Option Tmp → Value → (Nat → Value)
  | some d, v => upd σ d v
  | none, _ => σ
def act (n : Nat) (σ : Nat → Value) : Act := ⟨Array.ofFn (n := n) fun i => σ i, []⟩
def ev (n : Nat) (σ : Nat → Value) : Operand → Value
  | .tmp t => cond (Nat.blt t n) (σ t) undef
  | .const v => v
  | .global g => .pointer (some ⟨g, 0, none⟩)
  | .func f => .func (.func f) #[] #[]

theorem act_getD (n : Nat) (σ : Nat → Value) (t : Nat) : (act n σ).tmps.getD t undef = cond (Nat.blt t n) (σ t) undef := by
  by_cases h : t < n
  · simp [act, h, show Nat.blt t n = true by simpa using h]
  · have h' : Nat.blt t n = false := by
      cases hb : Nat.blt t n with
      | false => rfl
      | true => exact absurd (by simpa using hb) h
    simp [act, h, h']

theorem act_eval (n : Nat) (σ : Nat → Value) (x : Operand) : (act n σ).eval x = ev n σ x := by
  cases x with
  | tmp t => exact act_getD n σ t
  | const v => rfl
  | global g => rfl
  | func f => rfl

theorem act_evals (n : Nat) (σ : Nat → Value) : (act n σ).eval = ev n σ := funext (act_eval n σ)

theorem act_put (n : Nat) (σ : Nat → Value) (d : Option Tmp) (v : Value) : (act n σ).put d v = act n (updO σ d v) := by
  cases d with
  | none => rfl
  | some d =>
    simp only [Act.put, act, updO, Act.mk.injEq, and_true]
    apply Array.ext
    · simp
    · intro i h1 h2
      have hn : i < n := by simpa using h2
      rw [Array.getElem_ofFn]
      by_cases h : d = i
      · subst h; simp [upd]
      · have hb : Nat.beq i d = false := by
          cases hb : Nat.beq i d with
          | false => rfl
          | true => exact absurd (Nat.eq_of_beq_eq_true hb).symm h
        rw [Array.getElem_setIfInBounds_ne (by simpa using hn) h]
        simp [upd, hb]

/-- The frame of a call at its beginning. -/
def args (l : List Value) : Nat → Value := fun i => l.getD i undef

theorem act_enter (l : List Value) (n : Nat) (h : l.length ≤ n) :
    ({ tmps := l.toArray ++ Array.replicate (n - l.toArray.size) undef, defers := [] } : Act) = act n (args l) := by
  simp only [act, Act.mk.injEq, and_true]
  apply Array.ext
  · simp; omega
  · intro i h1 h2
    simp only [Array.getElem_ofFn, args]
    by_cases hi : i < l.length
    · simp [hi]
    · rw [Array.getElem_append_right (by simpa using hi)]
      simp [hi]

theorem calls {P : Program} {f : FuncId} {fn : Func} {c : Code} {l : List Value} {w : World} {R : Ending → World → Prop} (hf : P.funcs[f]? = some fn) (hb : fn.body = some c)
    (n : Nat) (hn : fn.ntmps = n) (hl : l.length ≤ n) (h : c.wp P (bodyPost P fn R) (act n (args l)) w) : Calls P f l.toArray w R :=
  calls_of_wp hf hb (by rw [hn, act_enter l n hl]; exact h)

/-- Slots that are known. -/
def upds (σ : Nat → Value) : List (Nat × Value) → Nat → Value
  | [] => σ
  | p :: l => upds (upd σ p.1 p.2) l
def okS (σ : Nat → Value) : List (Nat × Value) → Prop
  | [] => True
  | p :: l => σ p.1 = p.2 ∧ okS σ l
theorem upd_self {σ : Nat → Value} {d : Nat} {v : Value} (h : σ d = v) : upd σ d v = σ := by
  funext t
  unfold upd
  cases hb : Nat.beq t d with
  | false => rfl
  | true => cases Nat.eq_of_beq_eq_true hb; exact h.symm
theorem upds_self {σ : Nat → Value} : ∀ {l : List (Nat × Value)}, okS σ l → upds σ l = σ
  | [], _ => rfl
  | p :: l, h => by
    unfold upds
    rw [upd_self h.1]
    exact upds_self h.2

/-! ### Code -/
section
variable {P : Program} {Q : Exit → Act → World → Prop} {a : Act} {w : World} {n : Nat} {σ : Nat → Value}

theorem thenN {next : Act → World → Prop} (h : next a w) : Exit.then next Q .normal a w := h
theorem thenX {next : Act → World → Prop} {e : Exit} (he : e ≠ .normal) (h : Q e a w) : Exit.then next Q e a w := by
  cases e <;> first | exact absurd rfl he | exact h
theorem thenE {next : Act → World → Prop} {i : Nat} (h : Q (.exit i) a w) : Exit.then next Q (.exit i) a w := h
theorem thenR {next : Act → World → Prop} (h : Q .ret a w) : Exit.then next Q .ret a w := h
theorem blkN {id : Nat} (h : Q .normal a w) : Exit.inBlock id Q .normal a w := h
theorem blkR {id : Nat} (h : Q .ret a w) : Exit.inBlock id Q .ret a w := h
theorem blkE {id : Nat} (h : Q .normal a w) : Exit.inBlock id Q (.exit id) a w := by simpa [Exit.inBlock] using h
theorem blkO {id j : Nat} (hj : Nat.beq j id = false) (h : Q (.exit j) a w) : Exit.inBlock id Q (.exit j) a w := by
  have : j ≠ id := fun e => by subst e; simp at hj
  simpa [Exit.inBlock, this] using h

theorem cond_t {c : Operand} {x y : Code} (hc : ev n σ c = .bool true) (h : x.wp P Q (act n σ) w) : (Code.cond c x y).wp P Q (act n σ) w :=
  wp_cond_true (by rw [act_eval]; exact hc) h
theorem cond_f {c : Operand} {x y : Code} (hc : ev n σ c = .bool false) (h : y.wp P Q (act n σ) w) : (Code.cond c x y).wp P Q (act n σ) w :=
  wp_cond_false (by rw [act_eval]; exact hc) h
theorem cond_s {c : Operand} {x y : Code} {t : Bool} (hc : ev n σ c = .bool t) (ht : t = true → x.wp P Q (act n σ) w) (hf : t = false → y.wp P Q (act n σ) w) : (Code.cond c x y).wp P Q (act n σ) w :=
  wp_cond_split (by rw [act_eval]; exact hc) ht hf

/-- A loop: what holds at the head of every round, indexed by whatever. -/
theorem loop {α : Type} {c : Code} (inv : α → (Nat → Value) → World → Prop) (μ : α → Nat) (x₀ : α) (h₀ : inv x₀ σ w)
    (round : ∀ x σ w, inv x σ w → c.wp P (Exit.then (fun a' w' => ∃ x' σ', a' = act n σ' ∧ inv x' σ' w' ∧ μ x' < μ x) Q) (act n σ) w) :
    (Code.loop c).wp P Q (act n σ) w := by
  classical
  let I : Act → World → Prop := fun a w => ∃ x σ, a = act n σ ∧ inv x σ w
  intro b k cs
  have key : ∀ m x σ w, μ x = m → inv x σ w → ∃ e a' w', Q e a' w' ∧ Arrives P (lone (b.at (act n σ) (.code c :: .inLoop c :: k)) cs w) b k cs e a' w' := by
    intro m
    induction m using Nat.strongRecOn with
    | _ m ih =>
      intro x σ w hm hI
      obtain ⟨e, a₁, w₁, hq, harr⟩ := round x σ w hI b (.inLoop c :: k) cs
      cases e with
      | normal =>
        obtain ⟨x', σ', rfl, hI', hlt⟩ := hq
        obtain ⟨e₂, a₂, w₂, hq₂, harr₂⟩ := ih (μ x') (hm ▸ hlt) x' σ' w₁ rfl hI'
        exact ⟨e₂, a₂, w₂, hq₂, .of_steps (Steps.trans harr (.one step_inLoop)) harr₂⟩
      | exit id => exact ⟨_, a₁, w₁, hq, .pass (x := .inLoop c) rfl (fun _ _ => .inl (by simp)) harr⟩
      | goto l => exact ⟨_, a₁, w₁, hq, .pass (x := .inLoop c) rfl (fun _ _ => .inl (by simp)) harr⟩
      | ret => exact ⟨_, a₁, w₁, hq, .pass (x := .inLoop c) rfl (fun _ _ => .inl (by simp)) harr⟩
      | panic ch => exact ⟨_, a₁, w₁, hq, .pass (x := .inLoop c) rfl (fun _ _ => .inl (by simp)) harr⟩
      | outgrown => exact ⟨_, a₁, w₁, hq, .pass (x := .inLoop c) rfl (fun _ _ => .inl (by simp)) harr⟩
  obtain ⟨e, a', w', hq, harr⟩ := key _ x₀ σ w rfl h₀
  exact ⟨e, a', w', hq, .of_steps (.one step_loop) harr⟩

/-- Where ways meet: what holds there. -/
theorem meet {x y : Code} (M : (Nat → Value) → World → Prop) (h : x.wp P (Exit.then (fun a' w' => ∃ σ', a' = act n σ' ∧ M σ' w') Q) (act n σ) w) (k : ∀ σ w, M σ w → y.wp P Q (act n σ) w) :
    (Code.seq x y).wp P Q (act n σ) w :=
  wp_seq (Code.wp_mono (fun e a w q => by
    cases e with
    | normal => obtain ⟨σ', rfl, hM⟩ := q; exact k σ' w hM
    | _ => exact q) h)
end

/-! ### An operation that only computes -/
section
variable {P : Program} {n : Nat} {σ : Nat → Value} {w : World}

/-- In every world that meets S the operation yields v and leaves the world as it is. -/
def Gives (P : Program) (ρ : Operand → Value) (S : World → Prop) (op : Op) (ty : TypeId) (v : Value) : Prop :=
  ∀ w, S w → (execOp ρ ⟨none, op, ty, "", #[], none⟩).run P w = .ok (.value v) w

theorem execOp_any (ρ : Operand → Value) (d : Option Tmp) (op : Op) (ty : TypeId) (p : String) (af : Array Edge) (g : Option (Nat × Bool)) :
    execOp ρ ⟨d, op, ty, p, af, g⟩ = execOp ρ ⟨none, op, ty, "", #[], none⟩ := by cases op <;> rfl

variable {ops : Array Oper} {Q : Exit → Act → World → Prop} {rest : List Oper} {d : Option Tmp} {op : Op} {ty : TypeId} {p : String} {af : Array Edge}

theorem wl_q {S : World → Prop} {v : Value} (hS : S w) (h : Gives P (ev n σ) S op ty v) (k : wpList P ops Q rest (act n (updO σ d v)) w) :
    wpList P ops Q (⟨d, op, ty, p, af, none⟩ :: rest) (act n σ) w :=
  wpList_plain rfl fun K hK => by
    have h' := h w hS
    rw [← execOp_any (ev n σ) d op ty p af none] at h'
    simp only [Oper.wp, act_evals, h', Oper.upon, act_put]
    exact hK _ _ k

theorem yielded_act {j : Nat} {t : Nat} {b : Bool} (hj : (ops[j]?).bind (·.dst) = some t) (hv : ev n σ (.tmp t) = .bool b) : yielded ops (act n σ).tmps j = some b := by
  have ht : (act n σ).tmps.getD t undef = .bool b := by rw [act_getD]; exact hv
  unfold yielded
  rw [hj, Option.bind_some]
  rw [Array.getD_eq_getD_getElem?] at ht
  cases hh : (act n σ).tmps[t]? with
  | none => rw [hh] at ht; simp [undef] at ht
  | some v => rw [hh] at ht; simp at ht; subst ht; rfl

theorem wl_gt {S : World → Prop} {v : Value} {j t : Nat} {g : Bool} (hj : (ops[j]?).bind (·.dst) = some t) (hv : ev n σ (.tmp t) = .bool g) (hS : S w) (h : Gives P (ev n σ) S op ty v)
    (k : wpList P ops Q rest (act n (updO σ d v)) w) : wpList P ops Q (⟨d, op, ty, p, af, some (j, g)⟩ :: rest) (act n σ) w :=
  wpList_step fun K hK => by
    rw [if_pos (by simp [Region.wanted, yielded_act hj hv])]
    have h' := h w hS
    rw [← execOp_any (ev n σ) d op ty p af (some (j, g))] at h'
    simp only [Oper.wp, act_evals, h', Oper.upon, act_put]
    exact hK _ _ k

theorem wl_gf {j t : Nat} {g g' : Bool} (hj : (ops[j]?).bind (·.dst) = some t) (hv : ev n σ (.tmp t) = .bool g') (hne : g' = !g)
    (k : wpList P ops Q rest (act n (updO σ d undef)) w) : wpList P ops Q (⟨d, op, ty, p, af, some (j, g)⟩ :: rest) (act n σ) w :=
  wpList_step fun K hK => by
    rw [if_neg (by subst hne; simp [Region.wanted, yielded_act hj hv])]
    rw [act_put]
    exact hK _ _ k

/-- A guarded operation whose guard is not decided: its value is known where the guard holds. -/
theorem wl_g {S : World → Prop} {v : Value} {j t : Nat} {g g' : Bool} (hj : (ops[j]?).bind (·.dst) = some t) (hv : ev n σ (.tmp t) = .bool g') (hS : S w) (h : g' = g → Gives P (ev n σ) S op ty v)
    (k : ∀ u, (g' = g → u = v) → wpList P ops Q rest (act n (updO σ d u)) w) : wpList P ops Q (⟨d, op, ty, p, af, some (j, g)⟩ :: rest) (act n σ) w := by
  by_cases e : g' = g
  · subst e
    exact wl_gt hj hv hS (h rfl) (k v fun _ => rfl)
  · refine wl_gf hj hv (by cases g <;> cases g' <;> simp_all) (k undef fun h => absurd h e)

theorem wl_nil (k : Q .normal (act n σ) w) : wpList P ops Q [] (act n σ) w := k

/-- The operations of a region from one on. (A structure, so that nothing unfolds it.) -/
structure OL (P : Program) (l : List Oper) (Q : Exit → Act → World → Prop) (n : Nat) (rest : List Oper) (σ : Nat → Value) (w : World) : Prop where
  run : wpList P l.toArray Q rest (act n σ) w
theorem reg {l : List Oper} {id : Nat} (h : OL P l Q n l σ w) : (Code.region id l.toArray false).wp P Q (act n σ) w := wp_region_lit h.run
theorem ol_nil {l : List Oper} (k : Q .normal (act n σ) w) : OL P l Q n [] σ w := ⟨k⟩
end
end Go.Inl
