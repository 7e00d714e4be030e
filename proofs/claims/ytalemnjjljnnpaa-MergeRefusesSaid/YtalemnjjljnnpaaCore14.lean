/- A region that draws its order, of which several operations that turn memory may come up at once: what only computes first, then an invariant over the listed operations. Conditions: none. -/
import Derived.Test.YtalemnjjljnnpaaCore13
namespace Go.Inl
open Go Go.RowKit

section
variable {P : Program} {Q : Exit → Act → World → Prop} {n : Nat} {df : List Deferred} {l : List Oper} {S : World → Prop}

def unl (L : Array Bool) : Nat := (L.toList.filter fun b => !b).length
theorem unl_set' : ∀ (l : List Bool) (i : Nat), l[i]? = some false → ((l.set i true).filter fun b => !b).length + 1 = (l.filter fun b => !b).length
  | [], i, h => by simp at h
  | b :: l, 0, h => by simp at h; subst h; simp
  | b :: l, i + 1, h => by
    have := unl_set' l i (by simpa using h)
    cases b <;> simp [this]
theorem unl_set {L : Array Bool} {i : Nat} (h : L.getD i true = false) : unl (L.setIfInBounds i true) + 1 = unl L := by
  unfold unl
  rw [Array.toList_setIfInBounds]
  refine unl_set' _ _ ?_
  rcases Nat.lt_or_ge i L.size with h' | h'
  · simp only [Array.getD_eq_getD_getElem?, Array.getElem?_eq_getElem h', Option.getD_some] at h
    rw [List.getElem?_eq_getElem (by simpa using h')]
    simp [h]
  · simp [Array.getElem?_eq_none h'] at h
theorem ready_of_unl {ops : Array Oper} {L : Array Bool} (h : unl L = 0) : Region.ready .any ops L = [] := by
  rw [List.eq_nil_iff_forall_not_mem]
  intro i hi
  have := unl_set (mem_ready.1 hi).1
  omega
/-- What is not listed though all before it is, may come up. -/
theorem ready_nil {ops : Array Oper} {L : Array Bool} (h : Region.ready .any ops L = []) {i : Nat} {o : Oper} (ho : ops[i]? = some o) (hs : i < L.size) (hd : ∀ e ∈ o.after, Region.binds .any e = true → L.getD e.on false = true) : L.getD i false = true := by
  cases hb : L.getD i false with
  | true => rfl
  | false =>
    have hm : i ∈ Region.ready .any ops L := mem_ready.2 ⟨by
      simp only [Array.getD_eq_getD_getElem?, Array.getElem?_eq_getElem hs, Option.getD_some] at hb ⊢
      exact hb, o, ho, hd⟩
    rw [h] at hm; cases hm

/-- The obligation behind what only computes. -/
structure FInv (P : Program) (l : List Oper) (Q : Exit → Act → World → Prop) (n : Nat) (df : List Deferred) (S : World → Prop) (Inv : Array Bool → (Nat → Value) → World → Prop) : Prop where
  keep : ∀ L σ w, Inv L σ w → S w
  done : ∀ L σ w, Inv L σ w → Region.ready .any l.toArray L = [] → Q .normal (act n df σ) w
  step : ∀ L σ w i, Inv L σ w → i ∈ Region.ready .any l.toArray L → opR P l.toArray i (fun a' w' => ∃ σ', a' = act n df σ' ∧ Inv (L.setIfInBounds i true) σ' w') (act n df σ) w
theorem inv_sound {Inv : Array Bool → (Nat → Value) → World → Prop} (h : FInv P l Q n df S Inv) : ∀ (fuel : Nat) (L : Array Bool) (σ : Nat → Value) (w : World), unl L ≤ fuel → Inv L σ w → AnyG P l.toArray Q (fun _ w => S w) fuel L (act n df σ) w
  | 0, L, σ, w, hu, hI => ⟨ready_of_unl (by omega), h.done L σ w hI (ready_of_unl (by omega))⟩
  | fuel + 1, L, σ, w, hu, hI => by
    refine ⟨h.done L σ w hI, fun i hi => opR.mono ?_ (h.step L σ w i hI hi)⟩
    rintro a' w' ⟨σ', rfl, hI'⟩
    have := unl_set (mem_ready.1 hi).1
    exact ⟨h.keep _ _ _ hI', inv_sound h fuel _ σ' w' (by omega) hI'⟩

def WF (P : Program) (l : List Oper) (Q : Exit → Act → World → Prop) (n : Nat) (df : List Deferred) (ld : List Bool) : List (Nat × Bool) → (World → Prop) → (Nat → Value) → World → Prop
  | [], S, σ, w => ∃ Inv, FInv P l Q n df S Inv ∧ Inv ld.toArray σ w
  | (i, held) :: r, S, σ, w => ∃ o v, l[i]? = some o ∧ YieldsIf P l.toArray (if held then S else fun _ => True) o v (act n df σ) ∧ WF P l Q n df ld r S (updO σ o.dst v) w
structure FS (P : Program) (l : List Oper) (Q : Exit → Act → World → Prop) (n : Nat) (df : List Deferred) (ld : List Bool) (r : List (Nat × Bool)) (S : World → Prop) (σ : Nat → Value) (w : World) : Prop where
  run : WF P l Q n df ld r S σ w
def okF (l : List Oper) (ld : List Bool) : List (Nat × Bool) → Array Bool → Bool
  | [], L => decide (L.toList = ld)
  | (i, _) :: r, L => Region.free .any l.toArray L i && (Region.ready .any l.toArray L).contains i && okF l ld r (L.setIfInBounds i true)
theorem WF.sound {ld : List Bool} (hsel : ∀ (j : Nat) (o : Oper) cs b, l.toArray[j]? = some o → o.op ≠ .select cs b) : ∀ (r : List (Nat × Bool)) (L : Array Bool) (σ : Nat → Value) (w : World),
    okF l ld r L = true → Closed l.toArray L → S w → WF P l Q n df ld r S σ w → AnyG P l.toArray Q (fun _ w => S w) (unl L) L (act n df σ) w
  | [], L, σ, w, hok, hcl, hS, ⟨Inv, h1, h2⟩ => by
    have : L = ld.toArray := by
      have := of_decide_eq_true hok
      rw [← this]
    subst this
    exact inv_sound h1 _ _ _ _ (Nat.le_refl _) h2
  | (i, held) :: r, L, σ, w, hok, hcl, hS, ⟨o, v, ho, hy, h⟩ => by
    simp only [okF, Bool.and_eq_true] at hok
    obtain ⟨⟨k1, k2⟩, k4⟩ := hok
    have ho' : l.toArray[i]? = some o := by simpa using ho
    have hr : i ∈ Region.ready .any l.toArray L := by simpa using k2
    have hu := unl_set (mem_ready.1 hr).1
    rw [← hu]
    refine AnyG.first (Si := if held then S else fun _ => True) ho' hsel (fun L w h => h) (fun L w h => h) _ L (act n df σ) w hcl (fun L w _ _ hG => by split; exact hG; trivial) (Region.free_spec ho' k1) hr hy hS ?_
    rw [act_put]
    exact WF.sound hsel r _ _ w k4 (hcl.set hr) hS h

variable {ro : Option Nat} {σ : Nat → Value} {w : World} {X : List Nat} {w0 : World} {I0 I : Imm} {L : List Res} {id : Nat}
def okFR (l : List Oper) (ld : List Bool) (r : List (Nat × Bool)) : Bool := okF l ld r (Array.replicate l.length false) && Region.noSelect l.toArray
theorem unl_rep (m : Nat) : unl (Array.replicate m false) = m := by
  unfold unl
  simp
/-- A region that draws its order. -/
theorem drawF (ld : List Bool) (r : List (Nat × Bool)) (hm : P.follows .mixedOrders = true) (hok : okFR l ld r = true) (hS : St X w0 I0 I w L)
    (h : ∀ w', St X w0 I0 I w' L → FS P l Q n df ld r (KS X w0 I0 I L) σ w') : (Code.region id l.toArray true).wpIn (fen ro) 0 P Q (act n df σ) w := by
  simp only [okFR, Bool.and_eq_true] at hok
  obtain ⟨k1, k2⟩ := hok
  have hS' : St X w0 I0 I { w with drawn := w.drawn + 1 } L := hS.alike rfl rfl rfl rfl
  have hany := WF.sound (P := P) (Q := Q) (Region.noSelect_spec k2) r (Array.replicate l.length false) σ _ k1
    (by intro j o _ hl; exfalso; rcases Nat.lt_or_ge j l.length with h' | h' <;> simp [h'] at hl) (S := KS X w0 I0 I L) hS' (h _ hS').run
  rw [unl_rep] at hany
  exact wpIn_region_any hm (by simpa using any_of_G _ _ _ _ hany)

variable {i : Nat} {r : List (Nat × Bool)} {ld : List Bool} {d : Option Tmp} {op : Op} {ty : TypeId} {p : String} {af : Array Edge} {v : Value}
theorem fp (hi : l[i]? = some ⟨d, op, ty, p, af, none⟩) (h : Gives P (ev n σ) (fun _ => True) op ty v) (k : FS P l Q n df ld r S (updO σ d v) w) : FS P l Q n df ld ((i, false) :: r) S σ w :=
  ⟨⟨_, v, hi, yi rfl h, k.run⟩⟩
theorem fh (hi : l[i]? = some ⟨d, op, ty, p, af, none⟩) (h : Gives P (ev n σ) (KS X w0 I0 I L) op ty v) (k : FS P l Q n df ld r (KS X w0 I0 I L) (updO σ d v) w) : FS P l Q n df ld ((i, true) :: r) (KS X w0 I0 I L) σ w :=
  ⟨⟨_, v, hi, yi rfl h, k.run⟩⟩
theorem fi {Inv : Array Bool → (Nat → Value) → World → Prop} (h : FInv P l Q n df S Inv) (h0 : Inv ld.toArray σ w) : FS P l Q n df ld [] S σ w := ⟨⟨Inv, h, h0⟩⟩
/-- One operation, where no guard is. -/
theorem opF {ops : Array Oper} {K : Act → World → Prop} {R : Value → World → Prop} (hi : ops[i]? = some ⟨d, op, ty, p, af, none⟩) (h : Does P (ev n σ) op ty w R) (k : ∀ v w', R v w' → K (act n df (updO σ d v)) w') : opR P ops i K (act n df σ) w :=
  op_does hi rfl h k
theorem opG {ops : Array Oper} {K : Act → World → Prop} (hi : ops[i]? = some ⟨d, op, ty, p, af, none⟩) {T : World → Prop} (h : Gives P (ev n σ) T op ty v) (hT : T w) (k : K (act n df (updO σ d v)) w) : opR P ops i K (act n df σ) w :=
  yi_opR hi (yi rfl h) hT (by rw [act_put]; exact k)
end
end Go.Inl
