/- A region that draws its order, taken in one order: what only computes first, what turns memory where it alone may come up. Conditions: none. -/
import Derived.Test.YthningkgpanaoaaCore5
namespace Go.Inl
open Go Go.RowKit

section
variable {P : Program} {ops : Array Oper} {Q : Exit → Act → World → Prop}

/-- Whatever order is picked from here on, and G holds behind every operation. -/
def AnyG (P : Program) (ops : Array Oper) (Q : Exit → Act → World → Prop) (G : Array Bool → World → Prop) : Nat → Array Bool → Act → World → Prop
  | 0, listed, a, w => Region.ready .any ops listed = [] ∧ Q .normal a w
  | fuel + 1, listed, a, w =>
    (Region.ready .any ops listed = [] → Q .normal a w) ∧
    ∀ i ∈ Region.ready .any ops listed, wpOp P ops Q i (fun a' w' => G (listed.setIfInBounds i true) w' ∧ AnyG P ops Q G fuel (listed.setIfInBounds i true) a' w') a w

theorem any_of_G {G : Array Bool → World → Prop} : ∀ (fuel : Nat) (listed : Array Bool) (a : Act) (w : World), AnyG P ops Q G fuel listed a w → wpAny P .any ops Q fuel listed a w
  | 0, _, _, _, h => h
  | fuel + 1, _, _, _, h => ⟨h.1, fun i hi => wpOp_mono (fun a' w' h' => any_of_G fuel _ a' w' h'.2) (h.2 i hi)⟩

def Ge (l l' : Array Bool) : Prop := ∀ b, l.getD b false = true → l'.getD b false = true
theorem Ge.refl (l : Array Bool) : Ge l l := fun _ h => h
theorem Ge.trans {a b c : Array Bool} (h : Ge a b) (k : Ge b c) : Ge a c := fun x hx => k x (h x hx)
theorem Ge.set (l : Array Bool) (i : Nat) : Ge l (l.setIfInBounds i true) := fun _ h => getD_set_true h

theorem AnyG.mono {G G' : Array Bool → World → Prop} : ∀ (fuel : Nat) (listed : Array Bool) (a : Act) (w : World), (∀ l' w, Ge listed l' → G' l' w → G l' w) → AnyG P ops Q G' fuel listed a w → AnyG P ops Q G fuel listed a w
  | 0, _, _, _, _, h => h
  | fuel + 1, listed, _, _, hG, h => ⟨h.1, fun i hi => wpOp_mono (fun a' w' h' => ⟨hG _ _ (Ge.set listed i) h'.1, AnyG.mono fuel _ a' w' (fun l' w hl => hG l' w ((Ge.set listed i).trans hl)) h'.2⟩) (h.2 i hi)⟩

def Closed (ops : Array Oper) (l : Array Bool) : Prop := ∀ j o, ops[j]? = some o → l.getD j false = true → ∀ e ∈ o.after, Region.binds .any e = true → l.getD e.on false = true
theorem Closed.set {l : Array Bool} (h : Closed ops l) {i : Nat} (hi : i ∈ Region.ready .any ops l) : Closed ops (l.setIfInBounds i true) := by
  intro j o ho hl e he hb
  by_cases hji : i = j
  · subst hji
    obtain ⟨_, o', ho', hall⟩ := mem_ready.1 hi
    rw [ho] at ho'
    cases ho'
    exact getD_set_true (hall e he hb)
  · rw [getD_set_ne false hji] at hl
    exact getD_set_true (h j o ho hl e he hb)

/-- An operation that only computes may be taken first. -/
theorem AnyG.first {G : Array Bool → World → Prop} {Si : World → Prop} {i : Nat} {oi : Oper} {v : Value} (hi : ops[i]? = some oi) (hsel : ∀ (j : Nat) (o : Oper) cs b, ops[j]? = some o → o.op ≠ .select cs b)
    (hQ : ∀ c a w, Q (.panic c) (a.put oi.dst v) w → Q (.panic c) a w) (hG1 : ∀ l w, G l w → G (l.setIfInBounds i true) w) (hG2 : ∀ l w, G (l.setIfInBounds i true) w → G l w) :
    ∀ (fuel : Nat) (listed : Array Bool) (a : Act) (w : World), Closed ops listed → (∀ l w, Closed ops l → l.getD i true = false → G l w → Si w) →
      (∀ j oj, ops[j]? = some oj → j ≠ i → listed.getD j true = false → (∀ e ∈ oj.after, Region.binds .any e = true → e.on ≠ i) → oi.apart ops oj = true) →
      i ∈ Region.ready .any ops listed → YieldsIf P ops Si oi v a → G listed w →
      AnyG P ops Q G fuel (listed.setIfInBounds i true) (a.put oi.dst v) w → AnyG P ops Q G (fuel + 1) listed a w := by
  intro fuel
  induction fuel with
  | zero =>
    intro listed a w hcl hSi _ hr hy hS H
    refine ⟨fun h => (by rw [h] at hr; cases hr), fun j hj => ?_⟩
    by_cases hji : j = i
    · subst hji; exact hy.wpOp hi (hSi listed w hcl (mem_ready.1 hr).1 hS) ⟨hG1 _ _ hS, H⟩
    · have := ready_mono hj hji
      rw [H.1] at this
      cases this
  | succ fuel ih =>
    intro listed a w hcl hSi hfree hr hy hS H
    refine ⟨fun h => (by rw [h] at hr; cases hr), fun j hj => ?_⟩
    by_cases hji : j = i
    · subst hji; exact hy.wpOp hi (hSi listed w hcl (mem_ready.1 hr).1 hS) ⟨hG1 _ _ hS, H⟩
    · have h1 := H.2 j (ready_mono hj hji)
      obtain ⟨hjun, oj, hoj, hall⟩ := mem_ready.1 hj
      have hnot : ∀ e ∈ oj.after, Region.binds .any e = true → e.on ≠ i := fun e he hb heq => by
        have h1 := hall e he hb
        have h0 := (mem_ready.1 hr).1
        rw [heq] at h1
        rcases Nat.lt_or_ge i listed.size with h' | h'
        · simp [h'] at h0 h1; rw [h0] at h1; cases h1
        · simp [Array.getElem?_eq_none h'] at h1
      have h2 := wpOp_putIf (S := Si) hoj (hfree j oj hoj hji hjun hnot) (fun cs b => hsel i oi cs b hi) (fun cs b => hsel j oj cs b hoj) hQ hy h1
      have hfree' : ∀ k ok, ops[k]? = some ok → k ≠ i → (listed.setIfInBounds j true).getD k true = false →
          (∀ e ∈ ok.after, Region.binds .any e = true → e.on ≠ i) → oi.apart ops ok = true := fun k ok hk hki hun hno => by
        refine hfree k ok hk hki ?_ hno
        by_cases hjk : j = k
        · subst hjk; exact hjun
        · rw [getD_set_ne true hjk] at hun; exact hun
      refine wpOp_mono (fun a' w' h3 => ?_) h2
      have hcomm : (listed.setIfInBounds i true).setIfInBounds j true = (listed.setIfInBounds j true).setIfInBounds i true := Array.setIfInBounds_comm _ _ (Ne.symm hji)
      have hGj : G (listed.setIfInBounds j true) w' := hG2 _ _ (hcomm ▸ h3.2.1)
      exact ⟨hGj, ih (listed.setIfInBounds j true) a' w' (hcl.set hj) hSi hfree' (ready_mono hr (Ne.symm hji)) h3.1 hGj (hcomm ▸ h3.2.2)⟩

/-! ### Who comes behind whom -/
def succF (i : Nat) (acc : Array Bool) (o : Oper) : Array Bool := acc.push (o.after.any fun e => Region.binds .any e && (Nat.beq e.on i || acc.getD e.on false))
def succs (i : Nat) (l : List Oper) : Array Bool := l.foldl (succF i) #[]
theorem succs_go (i : Nat) : ∀ (l : List Oper) (acc : Array Bool), (∀ j, l[j]? = ops[acc.size + j]?) →
    (∀ b, acc.getD b false = true → ∀ L, Closed ops L → L.getD b false = true → L.getD i false = true) →
    ∀ b, (l.foldl (succF i) acc).getD b false = true → ∀ L, Closed ops L → L.getD b false = true → L.getD i false = true
  | [], acc, _, h => h
  | o :: l, acc, hl, h => by
    refine succs_go i l (succF i acc o) (fun j => ?_) (fun b hb L hL hLb => ?_)
    · have := hl (j + 1)
      simpa [succF, Nat.add_assoc, Nat.add_comm 1 j] using this
    · have h0 : ops[acc.size]? = some o := by simpa using (hl 0).symm
      by_cases hbs : b = acc.size
      · subst hbs
        simp only [succF, Array.getD_eq_getD_getElem?, Array.getElem?_push_size, Option.getD_some] at hb
        obtain ⟨e, he, hb'⟩ := Array.any_eq_true'.1 hb
        simp only [Bool.and_eq_true, Bool.or_eq_true] at hb'
        have hon := hL _ o h0 hLb e he hb'.1
        rcases hb'.2 with h3 | h3
        · rw [← Nat.eq_of_beq_eq_true h3]; exact hon
        · exact h _ (by simpa [Array.getD_eq_getD_getElem?] using h3) L hL hon
      · refine h b ?_ L hL hLb
        simp only [succF, Array.getD_eq_getD_getElem?] at hb ⊢
        rwa [Array.getElem?_push, if_neg (fun e => hbs (by omega))] at hb
theorem succs_spec {l : List Oper} {i b : Nat} (h : (succs i l).getD b false = true) (L : Array Bool) (hL : Closed l.toArray L) (hb : L.getD b false = true) : L.getD i false = true :=
  succs_go (ops := l.toArray) i l #[] (by simp) (by simp) b h L hL hb

/-! ### The order that a proof takes -/
/-- pure: only computes, looks at no memory; held: only computes, looks at memory; eff: turns memory, what was known stays known; bar: turns memory. -/
inductive Kd where
  | pure | held | eff | bar

/-- An order: what is taken one behind the other; at a fork either of two may come up. -/
inductive Od where
  | nil
  | cons (i : Nat) (k : Kd) (r : Od)
  | fork (i : Nat) (r : Od) (j : Nat) (s : Od)
  | fork3 (i : Nat) (r : Od) (j : Nat) (s : Od) (k : Nat) (t : Od)
def Od.depth : Od → Nat
  | .nil => 0
  | .cons _ _ r => r.depth + 1
  | .fork _ r _ s => max r.depth s.depth + 1
  | .fork3 _ r _ s _ t => max (max r.depth s.depth) t.depth + 1

def bars : Od → List Nat
  | .nil => []
  | .cons i .bar r => i :: bars r
  | .cons _ _ r => bars r
  | .fork _ r _ s => bars r ++ bars s
  | .fork3 _ r _ s _ t => bars r ++ (bars s ++ bars t)

def okO (l : List Oper) : Od → Array Bool → Bool
  | .nil, listed => (Region.ready .any l.toArray listed).isEmpty
  | .fork i r j s, listed => (Region.ready .any l.toArray listed == [i, j]) && !(bars r).contains i && !(bars s).contains j && okO l r (listed.setIfInBounds i true) && okO l s (listed.setIfInBounds j true)
  | .fork3 i r j s k t, listed => (Region.ready .any l.toArray listed == [i, j, k]) && !(bars r).contains i && !(bars s).contains j && !(bars t).contains k && okO l r (listed.setIfInBounds i true) && okO l s (listed.setIfInBounds j true) && okO l t (listed.setIfInBounds k true)
  | .cons i .pure r, listed => Region.free .any l.toArray listed i && (Region.ready .any l.toArray listed).contains i && !(bars r).contains i && okO l r (listed.setIfInBounds i true)
  | .cons i .held r, listed => Region.free .any l.toArray listed i && (Region.ready .any l.toArray listed).contains i && !(bars r).contains i && (bars r).all (fun b => (succs i l).getD b false) && okO l r (listed.setIfInBounds i true)
  | .cons i .eff r, listed => (Region.ready .any l.toArray listed == [i]) && !(bars r).contains i && okO l r (listed.setIfInBounds i true)
  | .cons i .bar r, listed => (Region.ready .any l.toArray listed == [i]) && !(bars r).contains i && okO l r (listed.setIfInBounds i true)

def WS (P : Program) (l : List Oper) (Q : Exit → Act → World → Prop) (n : Nat) : Od → (World → Prop) → (Nat → Value) → World → Prop
  | .nil, _, σ, w => Q .normal (act n σ) w
  | .fork i r j s, S, σ, w => wpOp P l.toArray (fun e _ _ => e = .normal) i (fun a' w' => ∃ (σ' : Nat → Value) (S' : World → Prop), a' = act n σ' ∧ (∀ w, S' w → S w) ∧ S' w' ∧ WS P l Q n r S' σ' w') (act n σ) w ∧
    wpOp P l.toArray (fun e _ _ => e = .normal) j (fun a' w' => ∃ (σ' : Nat → Value) (S' : World → Prop), a' = act n σ' ∧ (∀ w, S' w → S w) ∧ S' w' ∧ WS P l Q n s S' σ' w') (act n σ) w
  | .fork3 i r j s k t, S, σ, w => wpOp P l.toArray (fun e _ _ => e = .normal) i (fun a' w' => ∃ (σ' : Nat → Value) (S' : World → Prop), a' = act n σ' ∧ (∀ w, S' w → S w) ∧ S' w' ∧ WS P l Q n r S' σ' w') (act n σ) w ∧
    wpOp P l.toArray (fun e _ _ => e = .normal) j (fun a' w' => ∃ (σ' : Nat → Value) (S' : World → Prop), a' = act n σ' ∧ (∀ w, S' w → S w) ∧ S' w' ∧ WS P l Q n s S' σ' w') (act n σ) w ∧
    wpOp P l.toArray (fun e _ _ => e = .normal) k (fun a' w' => ∃ (σ' : Nat → Value) (S' : World → Prop), a' = act n σ' ∧ (∀ w, S' w → S w) ∧ S' w' ∧ WS P l Q n t S' σ' w') (act n σ) w
  | .cons i .pure r, S, σ, w => ∃ o v, l[i]? = some o ∧ YieldsIf P l.toArray (fun _ => True) o v (act n σ) ∧ WS P l Q n r S (updO σ o.dst v) w
  | .cons i .held r, S, σ, w => ∃ o v, l[i]? = some o ∧ YieldsIf P l.toArray S o v (act n σ) ∧ WS P l Q n r S (updO σ o.dst v) w
  | .cons i .eff r, S, σ, w => wpOp P l.toArray (fun e _ _ => e = .normal) i (fun a' w' => ∃ (σ' : Nat → Value) (S' : World → Prop), a' = act n σ' ∧ (∀ w, S' w → S w) ∧ S' w' ∧ WS P l Q n r S' σ' w') (act n σ) w
  | .cons i .bar r, _, σ, w => wpOp P l.toArray (fun e _ _ => e = .normal) i (fun a' w' => ∃ (σ' : Nat → Value) (S' : World → Prop), a' = act n σ' ∧ S' w' ∧ WS P l Q n r S' σ' w') (act n σ) w

/-- (A structure, so that nothing unfolds it.) -/
structure OS (P : Program) (l : List Oper) (Q : Exit → Act → World → Prop) (n : Nat) (r : Od) (S : World → Prop) (σ : Nat → Value) (w : World) : Prop where
  run : WS P l Q n r S σ w

def GG (B : List Nat) (S : World → Prop) (listed : Array Bool) (w : World) : Prop := (∀ b ∈ B, listed.getD b false = false) → S w

theorem wpOp_Q {i : Nat} {K : Act → World → Prop} {a : Act} {w : World} (h : wpOp P ops (fun e _ _ => e = .normal) i K a w) : wpOp P ops (fun e a w => e = .normal ∧ Q .normal a w) i K a w := by
  unfold wpOp at *
  split
  · simpa [*] using h
  · rename_i o ho
    simp only [ho] at h
    split
    · rename_i hw
      simp only [hw, if_true] at h
      rcases h with h | ⟨_, a0, w0, h⟩
      · refine .inl ?_
        unfold Oper.wp at *
        generalize (execOp a.eval o).run P w = r at *
        cases r with
        | ok n w' =>
          cases n <;> simp only [Oper.upon] at h ⊢ <;>
            first
              | exact h
              | exact Calls.mono h (fun e w'' he => by
                  cases e with
                  | returned v => exact he
                  | panicked c => simp at he
                  | outgrown => obtain ⟨_, _, he⟩ := he; simp at he)
        | halt x w' => cases x <;> simp only [Oper.upon] at h ⊢ <;> simp at h
      · simp at h
    · rename_i hw; simp only [hw] at h; exact h

theorem GG_ne {B : List Nat} {S : World → Prop} {i : Nat} (hi : B.contains i = false) (l : Array Bool) (w : World) : GG B S l w ↔ GG B S (l.setIfInBounds i true) w := by
  have hne : ∀ b ∈ B, i ≠ b := fun b hb e => by subst e; simp [hb] at hi
  constructor <;> intro h hb
  · exact h fun b hb' => by have := hb b hb'; rwa [getD_set_ne false (hne b hb')] at this
  · exact h fun b hb' => by rw [getD_set_ne false (hne b hb')]; exact hb b hb'

theorem AnyG.done {G : Array Bool → World → Prop} {listed : Array Bool} {a : Act} {w : World} (hr : Region.ready .any ops listed = []) (h : Q .normal a w) : ∀ fuel, AnyG P ops Q G fuel listed a w
  | 0 => ⟨hr, h⟩
  | _ + 1 => ⟨fun _ => h, by rw [hr]; simp⟩

theorem getD_false_of {L : Array Bool} {i : Nat} (h : L.getD i true = false) : L.getD i false = false := by
  rcases Nat.lt_or_ge i L.size with h' | h'
  · simpa [h'] using h
  · simp [Array.getElem?_eq_none h'] at h

theorem WS.sound {n : Nat} {l : List Oper} (hsel : ∀ (j : Nat) (o : Oper) cs b, l.toArray[j]? = some o → o.op ≠ .select cs b) : ∀ (order : Od) (fuel : Nat) (listed : Array Bool) (S : World → Prop) (σ : Nat → Value) (w : World),
    order.depth ≤ fuel → okO l order listed = true → Closed l.toArray listed → listed.size = l.length → S w → WS P l Q n order S σ w →
    AnyG P l.toArray (fun e a w => e = .normal ∧ Q .normal a w) (GG (bars order) S) fuel listed (act n σ) w
  | .fork i r j s, 0, _, _, _, _, hf, _, _, _, _, _ => by simp [Od.depth] at hf
  | .fork i r j s, fuel + 1, listed, S, σ, w, hf, hok, hcl, hsz, hS, h => by
    obtain ⟨hi, hj⟩ := h
    simp only [okO, Bool.and_eq_true, Bool.not_eq_true', beq_iff_eq] at hok
    obtain ⟨⟨⟨⟨k1, k2⟩, k3⟩, k4⟩, k5⟩ := hok
    simp only [Od.depth] at hf
    refine ⟨fun h0 => (by rw [k1] at h0; cases h0), fun x hx => ?_⟩
    have hr := hx
    rw [k1] at hx
    simp only [List.mem_cons, List.not_mem_nil, or_false] at hx
    rcases hx with rfl | rfl
    · refine wpOp_mono ?_ (wpOp_Q hi)
      rintro a' w' ⟨σ', S', rfl, himp, hS', h⟩
      refine ⟨fun _ => himp _ hS', ?_⟩
      exact AnyG.mono fuel _ _ _ (fun L w _ hG hb => himp _ (hG fun b hb' => hb b (List.mem_append_left _ hb'))) (WS.sound hsel r fuel _ S' σ' w' (by omega) k4 (hcl.set hr) (by simpa using hsz) hS' h)
    · refine wpOp_mono ?_ (wpOp_Q hj)
      rintro a' w' ⟨σ', S', rfl, himp, hS', h⟩
      refine ⟨fun _ => himp _ hS', ?_⟩
      exact AnyG.mono fuel _ _ _ (fun L w _ hG hb => himp _ (hG fun b hb' => hb b (List.mem_append_right _ hb'))) (WS.sound hsel s fuel _ S' σ' w' (by omega) k5 (hcl.set hr) (by simpa using hsz) hS' h)
  | .fork3 i r j s k t, 0, _, _, _, _, hf, _, _, _, _, _ => by simp [Od.depth] at hf
  | .fork3 i r j s k t, fuel + 1, listed, S, σ, w, hf, hok, hcl, hsz, hS, h => by
    obtain ⟨hi, hj, hk⟩ := h
    simp only [okO, Bool.and_eq_true, Bool.not_eq_true', beq_iff_eq] at hok
    obtain ⟨⟨⟨⟨⟨⟨k1, k2⟩, k3⟩, k3'⟩, k4⟩, k5⟩, k6⟩ := hok
    simp only [Od.depth] at hf
    refine ⟨fun h0 => (by rw [k1] at h0; cases h0), fun x hx => ?_⟩
    have hr := hx
    rw [k1] at hx
    simp only [List.mem_cons, List.not_mem_nil, or_false] at hx
    rcases hx with rfl | rfl | rfl
    · refine wpOp_mono ?_ (wpOp_Q hi)
      rintro a' w' ⟨σ', S', rfl, himp, hS', h⟩
      refine ⟨fun _ => himp _ hS', ?_⟩
      exact AnyG.mono fuel _ _ _ (fun L w _ hG hb => himp _ (hG fun b hb' => hb b (List.mem_append_left _ hb'))) (WS.sound hsel r fuel _ S' σ' w' (by omega) k4 (hcl.set hr) (by simpa using hsz) hS' h)
    · refine wpOp_mono ?_ (wpOp_Q hj)
      rintro a' w' ⟨σ', S', rfl, himp, hS', h⟩
      refine ⟨fun _ => himp _ hS', ?_⟩
      exact AnyG.mono fuel _ _ _ (fun L w _ hG hb => himp _ (hG fun b hb' => hb b (List.mem_append_right _ (List.mem_append_left _ hb')))) (WS.sound hsel s fuel _ S' σ' w' (by omega) k5 (hcl.set hr) (by simpa using hsz) hS' h)
    · refine wpOp_mono ?_ (wpOp_Q hk)
      rintro a' w' ⟨σ', S', rfl, himp, hS', h⟩
      refine ⟨fun _ => himp _ hS', ?_⟩
      exact AnyG.mono fuel _ _ _ (fun L w _ hG hb => himp _ (hG fun b hb' => hb b (List.mem_append_right _ (List.mem_append_right _ hb')))) (WS.sound hsel t fuel _ S' σ' w' (by omega) k6 (hcl.set hr) (by simpa using hsz) hS' h)
  | .nil, fuel, listed, S, σ, w, _, hok, _, _, _, h => AnyG.done (by simpa [okO] using hok) ⟨rfl, h⟩ fuel
  | .cons i .pure r, 0, _, _, _, _, hf, _, _, _, _, _ => by simp [Od.depth] at hf
  | .cons i .pure r, fuel + 1, listed, S, σ, w, hf, hok, hcl, hsz, hS, h => by
    obtain ⟨o, v, ho, hy, h⟩ := h
    simp only [okO, Bool.and_eq_true, Bool.not_eq_true'] at hok
    obtain ⟨⟨⟨k1, k2⟩, k3⟩, k4⟩ := hok
    have ho' : l.toArray[i]? = some o := by simpa using ho
    have hr : i ∈ Region.ready .any l.toArray listed := by simpa using k2
    refine AnyG.first (Si := fun _ => True) ho' hsel (fun _ _ _ h => absurd h.1 (by simp)) (fun L w => (GG_ne k3 L w).1) (fun L w => (GG_ne k3 L w).2) fuel listed (act n σ) w hcl (fun _ _ _ _ _ => trivial)
      (Region.free_spec ho' k1) hr hy (fun _ => hS) ?_
    rw [act_put]
    exact WS.sound hsel r fuel _ S _ w (by simpa [Od.depth] using hf) k4 (hcl.set hr) (by simpa using hsz) hS h
  | .cons i .held r, 0, _, _, _, _, hf, _, _, _, _, _ => by simp [Od.depth] at hf
  | .cons i .held r, fuel + 1, listed, S, σ, w, hf, hok, hcl, hsz, hS, h => by
    obtain ⟨o, v, ho, hy, h⟩ := h
    simp only [okO, Bool.and_eq_true, Bool.not_eq_true'] at hok
    obtain ⟨⟨⟨⟨k1, k2⟩, k3⟩, k5⟩, k4⟩ := hok
    have ho' : l.toArray[i]? = some o := by simpa using ho
    have hr : i ∈ Region.ready .any l.toArray listed := by simpa using k2
    refine AnyG.first (Si := S) ho' hsel (fun _ _ _ h => absurd h.1 (by simp)) (fun L w => (GG_ne k3 L w).1) (fun L w => (GG_ne k3 L w).2) fuel listed (act n σ) w hcl (fun L w hL hi hG => hG fun b hb => ?_)
      (Region.free_spec ho' k1) hr hy (fun _ => hS) ?_
    · cases hb' : L.getD b false with
      | false => rfl
      | true =>
        have := succs_spec (List.all_eq_true.1 k5 b hb) L hL hb'
        rw [getD_false_of hi] at this
        cases this
    · rw [act_put]
      exact WS.sound hsel r fuel _ S _ w (by simpa [Od.depth] using hf) k4 (hcl.set hr) (by simpa using hsz) hS h
  | .cons i .eff r, 0, _, _, _, _, hf, _, _, _, _, _ => by simp [Od.depth] at hf
  | .cons i .eff r, fuel + 1, listed, S, σ, w, hf, hok, hcl, hsz, hS, h => by
    simp only [okO, Bool.and_eq_true, Bool.not_eq_true', beq_iff_eq] at hok
    obtain ⟨⟨k1, k3⟩, k4⟩ := hok
    refine ⟨fun h0 => (by rw [k1] at h0; cases h0), fun j hj => ?_⟩
    have hr := hj
    rw [k1] at hj
    simp only [List.mem_singleton] at hj
    subst hj
    refine wpOp_mono ?_ (wpOp_Q h)
    rintro a' w' ⟨σ', S', rfl, himp, hS', h⟩
    refine ⟨fun _ => himp _ hS', ?_⟩
    exact AnyG.mono fuel _ _ _ (fun L w _ hG hb => himp _ (hG hb)) (WS.sound hsel r fuel _ S' σ' w' (by simpa [Od.depth] using hf) k4 (hcl.set hr) (by simpa using hsz) hS' h)
  | .cons i .bar r, 0, _, _, _, _, hf, _, _, _, _, _ => by simp [Od.depth] at hf
  | .cons i .bar r, fuel + 1, listed, S, σ, w, hf, hok, hcl, hsz, hS, h => by
    simp only [okO, Bool.and_eq_true, Bool.not_eq_true', beq_iff_eq] at hok
    obtain ⟨⟨k1, k3⟩, k4⟩ := hok
    refine ⟨fun h0 => (by rw [k1] at h0; cases h0), fun j hj => ?_⟩
    have hr := hj
    rw [k1] at hj
    simp only [List.mem_singleton] at hj
    subst hj
    have hlt : j < listed.size := by
      obtain ⟨_, o, ho, _⟩ := mem_ready.1 hr
      have := (Array.getElem?_eq_some_iff.1 ho).1
      simpa [hsz] using this
    have hset : (listed.setIfInBounds j true).getD j false = true := by simp [hlt]
    refine wpOp_mono ?_ (wpOp_Q h)
    rintro a' w' ⟨σ', S', rfl, hS', h⟩
    refine ⟨fun hb => (by have := hb j (by simp [bars]); rw [hset] at this; cases this), ?_⟩
    exact AnyG.mono fuel _ _ _ (fun L w hL _ hb => (by have := hb j (by simp [bars]); rw [hL j hset] at this; cases this))
      (WS.sound hsel r fuel _ S' σ' w' (by simpa [Od.depth] using hf) k4 (hcl.set hr) (by simpa using hsz) hS' h)

variable {n : Nat} {σ : Nat → Value} {w : World} {X : List Nat} {w0 : World} {I0 I : Imm} {L : List Res} {l : List Oper} {id : Nat}

def okR (l : List Oper) (order : Od) : Bool := okO l order (Array.replicate l.length false) && Region.noSelect l.toArray && Nat.ble order.depth l.length

/-- A region that draws its order. -/
theorem draw (order : Od) (hm : P.follows .mixedOrders = true) (hok : okR l order = true) (hS : St X w0 I0 I w L)
    (h : ∀ w', St X w0 I0 I w' L → OS P l Q n order (KS X w0 I0 I L) σ w') : (Code.region id l.toArray true).wp P Q (act n σ) w := by
  simp only [okR, Bool.and_eq_true] at hok
  obtain ⟨⟨k1, k2⟩, k3⟩ := hok
  have hS' : St X w0 I0 I { w with drawn := w.drawn + 1 } L := hS.alike rfl rfl rfl rfl
  have hany := WS.sound (P := P) (Q := Q) (Region.noSelect_spec k2) order l.toArray.size (Array.replicate l.length false) (KS X w0 I0 I L) σ _ (by simpa using Nat.le_of_ble_eq_true k3) k1
    (by intro j o _ hl; exfalso; rcases Nat.lt_or_ge j l.length with h' | h' <;> simp [h'] at hl) (by simp) hS' (h _ hS').run
  have hc : (Code.region id l.toArray true).wp P (fun e a w => e = .normal ∧ Q .normal a w) (act n σ) w := wp_region_any hm (by simpa using any_of_G _ _ _ _ hany)
  exact Code.wp_mono (fun e a w h => by obtain ⟨rfl, h⟩ := h; exact h) hc

/-- The same, where only a part of the own blocks is held for those that look at memory. -/
theorem drawS (m : List Bool) (order : Od) (hm : P.follows .mixedOrders = true) (hok : okR l order = true) (hS : St X w0 I0 I w L)
    (h : ∀ w', St X w0 I0 I w' L → OS P l Q n order (KS X w0 I0 I (sel m L)) σ w') : (Code.region id l.toArray true).wp P Q (act n σ) w := by
  have hd : St X w0 I0 I { w with drawn := w.drawn + 1 } L := hS.alike rfl rfl rfl rfl
  simp only [okR, Bool.and_eq_true] at hok
  obtain ⟨⟨k1, k2⟩, k3⟩ := hok
  have hany := WS.sound (P := P) (Q := Q) (Region.noSelect_spec k2) order l.toArray.size (Array.replicate l.length false) (KS X w0 I0 I (sel m L)) σ _ (by simpa using Nat.le_of_ble_eq_true k3) k1
    (by intro j o _ hl; exfalso; rcases Nat.lt_or_ge j l.length with h' | h' <;> simp [h'] at hl) (by simp) (hd.sel m) (h _ hd).run
  have hc : (Code.region id l.toArray true).wp P (fun e a w => e = .normal ∧ Q .normal a w) (act n σ) w := wp_region_any hm (by simpa using any_of_G _ _ _ _ hany)
  exact Code.wp_mono (fun e a w h => by obtain ⟨rfl, h⟩ := h; exact h) hc

theorem St.le {I' : Imm} {L' : List Res} {w1 : World} (h0 : St X w0 I0 I w1 L) (hs : Sub I I') (hl : L.Sublist L') : ∀ w, St X w0 I0 I' w L' → St X w0 I0 I w L := fun w h =>
  ⟨h.os, h.tape, h.output, h.size, h.block, fun b o hI => h.imm b o (hs b o hI), h0.old, h0.ext, fun r hr => h.hold r (hl.subset hr), fun r hr b hb => (by
    obtain ⟨h1, h2⟩ := h.new r (hl.subset hr) b hb
    refine ⟨?_, h2⟩
    cases hI : I b with
    | none => rfl
    | some o => rw [hs b o hI] at h1; cases h1), (flatMap_sub hl).nodup h.nodup⟩

variable {i : Nat} {r : Od} {S : World → Prop} {d : Option Tmp} {op : Op} {ty : TypeId} {p : String} {af : Array Edge} {v : Value} {R : Value → World → Prop}

theorem yi {ops : Array Oper} {g : Option (Nat × Bool)} (hw : Region.wanted ⟨d, op, ty, p, af, g⟩ (yielded ops (act n σ).tmps) = true) (h : Gives P (ev n σ) S op ty v) : YieldsIf P ops S ⟨d, op, ty, p, af, g⟩ v (act n σ) :=
  .inl ⟨hw, fun w hS => by have h' := h w hS; rw [← execOp_any (ev n σ) d op ty p af g] at h'; rw [act_evals]; exact h'⟩
theorem yi_no {ops : Array Oper} {g : Option (Nat × Bool)} (hw : Region.wanted ⟨d, op, ty, p, af, g⟩ (yielded ops (act n σ).tmps) = false) : YieldsIf P ops S ⟨d, op, ty, p, af, g⟩ undef (act n σ) := .inr ⟨hw, rfl⟩

theorem sp (hi : l[i]? = some ⟨d, op, ty, p, af, none⟩) (h : Gives P (ev n σ) (fun _ => True) op ty v) (k : OS P l Q n r S (updO σ d v) w) : OS P l Q n (.cons i .pure r) S σ w :=
  ⟨⟨_, v, hi, yi rfl h, k.run⟩⟩
theorem sh (hi : l[i]? = some ⟨d, op, ty, p, af, none⟩) (h : Gives P (ev n σ) (KS X w0 I0 I L) op ty v) (k : OS P l Q n r (KS X w0 I0 I L) (updO σ d v) w) : OS P l Q n (.cons i .held r) (KS X w0 I0 I L) σ w :=
  ⟨⟨_, v, hi, yi rfl h, k.run⟩⟩
section
variable {j t : Nat} {g g' : Bool}
theorem wanted_t (hj : (l[j]?).bind (·.dst) = some t) (hv : ev n σ (.tmp t) = .bool g) : Region.wanted ⟨d, op, ty, p, af, some (j, g)⟩ (yielded l.toArray (act n σ).tmps) = true := by
  simp [Region.wanted, yielded_act (ops := l.toArray) (by simpa using hj) hv]
theorem wanted_f (hj : (l[j]?).bind (·.dst) = some t) (hv : ev n σ (.tmp t) = .bool g') (hne : g' = !g) : Region.wanted ⟨d, op, ty, p, af, some (j, g)⟩ (yielded l.toArray (act n σ).tmps) = false := by
  subst hne; simp [Region.wanted, yielded_act (ops := l.toArray) (by simpa using hj) hv]
theorem spt (hi : l[i]? = some ⟨d, op, ty, p, af, some (j, g)⟩) (hj : (l[j]?).bind (·.dst) = some t) (hv : ev n σ (.tmp t) = .bool g) (h : Gives P (ev n σ) (fun _ => True) op ty v) (k : OS P l Q n r S (updO σ d v) w) :
    OS P l Q n (.cons i .pure r) S σ w := ⟨⟨_, v, hi, yi (wanted_t hj hv) h, k.run⟩⟩
theorem sht (hi : l[i]? = some ⟨d, op, ty, p, af, some (j, g)⟩) (hj : (l[j]?).bind (·.dst) = some t) (hv : ev n σ (.tmp t) = .bool g) (h : Gives P (ev n σ) (KS X w0 I0 I L) op ty v) (k : OS P l Q n r (KS X w0 I0 I L) (updO σ d v) w) :
    OS P l Q n (.cons i .held r) (KS X w0 I0 I L) σ w := ⟨⟨_, v, hi, yi (wanted_t hj hv) h, k.run⟩⟩
theorem spf (hi : l[i]? = some ⟨d, op, ty, p, af, some (j, g)⟩) (hj : (l[j]?).bind (·.dst) = some t) (hv : ev n σ (.tmp t) = .bool g') (hne : g' = !g) (k : OS P l Q n r S (updO σ d undef) w) :
    OS P l Q n (.cons i .pure r) S σ w := ⟨⟨_, undef, hi, yi_no (wanted_f hj hv hne), k.run⟩⟩
theorem shf (hi : l[i]? = some ⟨d, op, ty, p, af, some (j, g)⟩) (hj : (l[j]?).bind (·.dst) = some t) (hv : ev n σ (.tmp t) = .bool g') (hne : g' = !g) (k : OS P l Q n r S (updO σ d undef) w) :
    OS P l Q n (.cons i .held r) S σ w := ⟨⟨_, undef, hi, yi_no (wanted_f hj hv hne), k.run⟩⟩
theorem spg (hi : l[i]? = some ⟨d, op, ty, p, af, some (j, g)⟩) (hj : (l[j]?).bind (·.dst) = some t) (hv : ev n σ (.tmp t) = .bool g') (h : g' = g → Gives P (ev n σ) (fun _ => True) op ty v)
    (k : ∀ u, (g' = g → u = v) → OS P l Q n r S (updO σ d u) w) : OS P l Q n (.cons i .pure r) S σ w := by
  by_cases e : g' = g
  · subst e; exact spt hi hj hv (h rfl) (k v fun _ => rfl)
  · exact spf hi hj hv (by cases g <;> cases g' <;> simp_all) (k undef fun h => absurd h e)
theorem shg (hi : l[i]? = some ⟨d, op, ty, p, af, some (j, g)⟩) (hj : (l[j]?).bind (·.dst) = some t) (hv : ev n σ (.tmp t) = .bool g') (h : g' = g → Gives P (ev n σ) (KS X w0 I0 I L) op ty v)
    (k : ∀ u, (g' = g → u = v) → OS P l Q n r (KS X w0 I0 I L) (updO σ d u) w) : OS P l Q n (.cons i .held r) (KS X w0 I0 I L) σ w := by
  by_cases e : g' = g
  · subst e; exact sht hi hj hv (h rfl) (k v fun _ => rfl)
  · exact shf hi hj hv (by cases g <;> cases g' <;> simp_all) (k undef fun h => absurd h e)
end

theorem op_does {ops : Array Oper} {g : Option (Nat × Bool)} {K : Act → World → Prop} (hi : ops[i]? = some ⟨d, op, ty, p, af, g⟩) (hw : Region.wanted ⟨d, op, ty, p, af, g⟩ (yielded ops (act n σ).tmps) = true)
    (h : Does P (ev n σ) op ty w R) (k : ∀ v w', R v w' → K (act n (updO σ d v)) w') : wpOp P ops (fun e _ _ => e = .normal) i K (act n σ) w := by
  unfold wpOp
  simp only [hi, hw, if_true]
  refine .inl ?_
  unfold Oper.wp
  rw [act_evals]
  exact h.run d p af g (act n σ) K _ (act_evals n σ) fun v w' hR => by rw [act_put]; exact k v w' hR

/-- What turns memory; what was known stays known. -/
theorem se (hi : l[i]? = some ⟨d, op, ty, p, af, none⟩) (h : Does P (ev n σ) op ty w R)
    (k : ∀ v w', R v w' → ∃ I' L', (∀ w, St X w0 I0 I' w L' → St X w0 I0 I w L) ∧ St X w0 I0 I' w' L' ∧ OS P l Q n r (KS X w0 I0 I' L') (updO σ d v) w') : OS P l Q n (.cons i .eff r) (KS X w0 I0 I L) σ w :=
  ⟨op_does (by simpa using hi) rfl h fun v w' hR => let ⟨I', L', h1, h2, h3⟩ := k v w' hR; ⟨_, KS X w0 I0 I' L', rfl, h1, h2, h3.run⟩⟩
theorem sb (hi : l[i]? = some ⟨d, op, ty, p, af, none⟩) (h : Does P (ev n σ) op ty w R)
    (k : ∀ v w', R v w' → ∃ I' L', St X w0 I0 I' w' L' ∧ OS P l Q n r (KS X w0 I0 I' L') (updO σ d v) w') : OS P l Q n (.cons i .bar r) (KS X w0 I0 I L) σ w :=
  ⟨op_does (by simpa using hi) rfl h fun v w' hR => let ⟨I', L', h2, h3⟩ := k v w' hR; ⟨_, KS X w0 I0 I' L', rfl, h2, h3.run⟩⟩
theorem set {j t : Nat} {g : Bool} (hi : l[i]? = some ⟨d, op, ty, p, af, some (j, g)⟩) (hj : (l[j]?).bind (·.dst) = some t) (hv : ev n σ (.tmp t) = .bool g) (h : Does P (ev n σ) op ty w R)
    (k : ∀ v w', R v w' → ∃ I' L', (∀ w, St X w0 I0 I' w L' → St X w0 I0 I w L) ∧ St X w0 I0 I' w' L' ∧ OS P l Q n r (KS X w0 I0 I' L') (updO σ d v) w') : OS P l Q n (.cons i .eff r) (KS X w0 I0 I L) σ w :=
  ⟨op_does (by simpa using hi) (wanted_t hj hv) h fun v w' hR => let ⟨I', L', h1, h2, h3⟩ := k v w' hR; ⟨_, KS X w0 I0 I' L', rfl, h1, h2, h3.run⟩⟩
theorem op_no {ops : Array Oper} {g : Option (Nat × Bool)} {K : Act → World → Prop} (hi : ops[i]? = some ⟨d, op, ty, p, af, g⟩) (hw : Region.wanted ⟨d, op, ty, p, af, g⟩ (yielded ops (act n σ).tmps) = false)
    (k : K (act n (updO σ d undef)) w) : wpOp P ops (fun e _ _ => e = .normal) i K (act n σ) w := by
  unfold wpOp
  simp only [hi, hw]
  rw [act_put]
  simpa using k
theorem sef {j t : Nat} {g g' : Bool} (hi : l[i]? = some ⟨d, op, ty, p, af, some (j, g)⟩) (hj : (l[j]?).bind (·.dst) = some t) (hv : ev n σ (.tmp t) = .bool g') (hne : g' = !g) (hS : St X w0 I0 I w L) (k : OS P l Q n r (KS X w0 I0 I L) (updO σ d undef) w) :
    OS P l Q n (.cons i .eff r) (KS X w0 I0 I L) σ w :=
  ⟨op_no (by simpa using hi) (wanted_f hj hv hne) ⟨_, KS X w0 I0 I L, rfl, fun _ h => h, hS, k.run⟩⟩
/-- Either of two may come up. -/
theorem sk {j : Nat} {s : Od} (h1 : OS P l Q n (.cons i .eff r) S σ w) (h2 : OS P l Q n (.cons j .eff s) S σ w) : OS P l Q n (.fork i r j s) S σ w := ⟨⟨h1.run, h2.run⟩⟩
theorem sk3 {j k : Nat} {s t : Od} (h1 : OS P l Q n (.cons i .eff r) S σ w) (h2 : OS P l Q n (.cons j .eff s) S σ w) (h3 : OS P l Q n (.cons k .eff t) S σ w) : OS P l Q n (.fork3 i r j s k t) S σ w := ⟨⟨h1.run, h2.run, h3.run⟩⟩
theorem sn (k : Q .normal (act n σ) w) : OS P l Q n .nil S σ w := ⟨k⟩
end
end Go.Inl
