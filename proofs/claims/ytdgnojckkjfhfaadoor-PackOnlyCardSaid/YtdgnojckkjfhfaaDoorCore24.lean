/- A region that draws its order and in which a call may panic. Conditions: none. -/
import Derived.Test.YtdgnojckkjfhfaaDoorKCore3
namespace Go.Inl
open Go Go.RowKit
section
variable {P : Program} {ops : Array Oper} {Q : Exit → Act → World → Prop} {PE : List PanicEntry → World → Prop}
def DoesRE (P : Program) (PE : List PanicEntry → World → Prop) (R : Value → World → Prop) : Result Next → Prop
  | .ok (.value v) w' => R v w'
  | .ok .skip w' => R undef w'
  | .ok (.enter f args) w' => Calls P f args w' fun e w'' => (∃ v, e = .returned v ∧ R v w'') ∨ (∃ ch, e = .panicked ch ∧ PE ch w'')
  | .ok (.round l f tmps assign body) w' => RoundIn Fence.wide 0 P l f tmps assign body w' fun e w'' => ∃ v, e = .returned v ∧ R v w''
  | _ => False
theorem DoesRE.mono {R R' : Value → World → Prop} (hr : ∀ v w', R v w' → R' v w') : ∀ {r : Result Next}, DoesRE P PE R r → DoesRE P PE R' r := by
  intro r h
  cases r with
  | ok x w' =>
    cases x <;> simp only [DoesRE] at h ⊢ <;>
      first
        | exact hr _ _ h
        | exact Calls.mono h (fun e w'' h => h.elim (fun ⟨v, he, hv⟩ => .inl ⟨v, he, hr _ _ hv⟩) .inr)
        | exact RoundIn.mono h (fun e w'' ⟨v, he, hv⟩ => ⟨v, he, hr _ _ hv⟩)
        | exact h
  | halt x w' => exact h
def opWE (P : Program) (PE : List PanicEntry → World → Prop) (o : Oper) (a : Act) (w : World) (K : Act → World → Prop) : Prop := DoesRE P PE (fun v w' => K (a.put o.dst v) w') ((execOp a.eval o).run P w)
theorem opWE.mono {o : Oper} {a : Act} {w : World} {K K' : Act → World → Prop} (h : opWE P PE o a w K) (hk : ∀ v w, K (a.put o.dst v) w → K' (a.put o.dst v) w) : opWE P PE o a w K' := DoesRE.mono (fun _ _ => hk _ _) h
theorem opWE.sound {ro : Option Nat} {o : Oper} {a : Act} {w : World} {K : Act → World → Prop} (hQ : ∀ ch w', PE ch w' → Q (.panic ch) a w') (h : opWE P PE o a w K) : o.wpIn (fen ro) 0 P a w K Q := by
  refine ⟨fun _ _ => trivial, ?_⟩
  have hnd : ∀ c, o.op ≠ .defer c := by
    intro c hc
    unfold opWE at h
    have e : execOp a.eval o = (do let d ← resolve a.eval c o.type; pure (.defer d)) := by unfold execOp; rw [hc]
    rw [e, Sem.run_bind] at h
    cases hr : (resolve a.eval c o.type).run P w with
    | ok d w' => rw [hr] at h; exact h
    | halt x w' => rw [hr] at h; exact h
  rw [Oper.semAt_eq _ _ _ hnd]
  unfold opWE at h
  generalize (execOp a.eval o).run P w = r at h
  cases r with
  | ok x w' =>
    cases x <;> simp only [DoesRE] at h <;>
      first
        | exact h
        | exact ⟨fun h => (by cases h), callsIn_wide.2 (Calls.mono h (fun e w'' h => h.elim (fun ⟨v, he, hv⟩ => by subst he; exact hv) (fun ⟨ch, he, hp⟩ => by subst he; exact hQ ch w'' hp)))⟩
        | exact ⟨fun h => (by cases h), RoundIn.mono h (fun e w'' ⟨v, he, hv⟩ => by subst he; exact hv)⟩
        | exact h.elim
  | halt x w' => exact h.elim
theorem doesRE_of {R : Value → World → Prop} : ∀ {r : Result Next}, DoesR P R r → DoesRE P PE R r := by
  intro r h
  cases r with
  | ok x w' =>
    cases x <;> simp only [DoesR, DoesRE] at h ⊢ <;>
      first
        | exact h
        | exact Calls.mono h (fun e w'' ⟨v, he, hv⟩ => .inl ⟨v, he, hv⟩)
        | exact h.elim
  | halt x w' => exact h.elim
def opRE (P : Program) (PE : List PanicEntry → World → Prop) (ops : Array Oper) (i : Nat) (K : Act → World → Prop) (a : Act) (w : World) : Prop :=
  match ops[i]? with
  | none => K a w
  | some o => if Region.wanted o (yielded ops a.tmps) then opWE P PE o a w K else K (a.put o.dst undef) w
theorem opRE.mono {i : Nat} {a : Act} {w : World} {K K' : Act → World → Prop} (h : ∀ a w, K a w → K' a w) (hh : opRE P PE ops i K a w) : opRE P PE ops i K' a w := by
  unfold opRE at *
  split
  · exact h _ _ (by simpa [*] using hh)
  · rename_i o ho
    simp only [ho] at hh
    split
    · rename_i hw; simp only [hw, if_true] at hh; exact hh.mono fun _ _ => h _ _
    · rename_i hw; simp only [hw] at hh; exact h _ _ hh
theorem opRE.fam {Fam : Act → Prop} {i : Nat} {a : Act} {w : World} {K : Act → World → Prop} (hF : ∀ (o : Oper) v a, ops[i]? = some o → Fam a → Fam (a.put o.dst v)) (ha : Fam a) (hh : opRE P PE ops i K a w) : opRE P PE ops i (fun a w => K a w ∧ Fam a) a w := by
  unfold opRE at *
  split
  · exact ⟨by simpa [*] using hh, ha⟩
  · rename_i o ho
    simp only [ho] at hh
    split
    · rename_i hw; simp only [hw, if_true] at hh; exact hh.mono fun v w h => ⟨h, hF o v a ho ha⟩
    · rename_i hw; simp only [hw] at hh; exact ⟨hh, hF o undef a ho ha⟩
theorem opRE.sound {ro : Option Nat} {i : Nat} {a : Act} {w : World} {K : Act → World → Prop} (hQ : ∀ ch w', PE ch w' → Q (.panic ch) a w') (h : opRE P PE ops i K a w) : wpOpIn (fen ro) 0 P ops Q i K a w := by
  unfold opRE at h
  unfold wpOpIn
  split
  · rename_i ho
    simp only [ho] at h
    exact h
  · rename_i o ho
    simp only [ho] at h
    split
    · rename_i hw; rw [if_pos hw] at h; exact h.sound hQ
    · rename_i hw; rw [if_neg hw] at h; exact ⟨fun _ _ => trivial, h⟩
theorem yi_opRE {S : World → Prop} {i : Nat} {o : Oper} {v : Value} {a : Act} (hi : ops[i]? = some o) (hy : YieldsIf P ops S o v a) {K : Act → World → Prop} {w : World} (hS : S w) (h : K (a.put o.dst v) w) : opRE P PE ops i K a w := by
  unfold opRE
  simp only [hi]
  rcases hy with ⟨hw, hv⟩ | ⟨hw, rfl⟩
  · rw [if_pos hw]; unfold opWE; rw [hv w hS]; exact h
  · rw [if_neg (by rw [hw]; decide)]; exact h
theorem opRE_putIf {S : World → Prop} {j : Nat} {oi oj : Oper} {v : Value} (hj : ops[j]? = some oj) (hap : oi.apart ops oj = true)
    (hsi : ∀ cs b, oi.op ≠ .select cs b) (hsj : ∀ cs b, oj.op ≠ .select cs b) {K : Act → World → Prop} {a : Act} {w : World}
    (hy : YieldsIf P ops S oi v a) (h : opRE P PE ops j K (a.put oi.dst v) w) : opRE P PE ops j (fun a' w' => YieldsIf P ops S oi v a' ∧ K (a'.put oi.dst v) w') a w := by
  obtain ⟨h1, h2, h3⟩ := Oper.apart_spec hap
  have keep : ∀ (a : Act), YieldsIf P ops S oi v a → ∀ u, YieldsIf P ops S oi v (a.put oj.dst u) := fun a hy u =>
    hy.of_same (execOp_put oi hsi a oj.dst u h3) (wanted_put oi a oj.dst u h3)
  unfold opRE at *
  simp only [hj] at *
  rw [wanted_put oj a oi.dst v h1] at h
  split
  · rename_i hw
    rw [if_pos hw] at h
    unfold opWE at *
    rw [execOp_put oj hsj a oi.dst v h1] at h
    exact DoesRE.mono (fun u w' hk => ⟨keep a hy u, by rw [← Act.put_comm a v u h2]; exact hk⟩) h
  · rename_i hw
    rw [if_neg hw] at h
    exact ⟨keep a hy _, by rw [← Act.put_comm a v undef h2]; exact h⟩
def AnyGE (P : Program) (PE : List PanicEntry → World → Prop) (ops : Array Oper) (Q : Exit → Act → World → Prop) (G : Array Bool → World → Prop) : Nat → Array Bool → Act → World → Prop
  | 0, listed, a, w => Region.ready .any ops listed = [] ∧ Q .normal a w
  | fuel + 1, listed, a, w =>
    (Region.ready .any ops listed = [] → Q .normal a w) ∧
    ∀ i ∈ Region.ready .any ops listed, opRE P PE ops i (fun a' w' => G (listed.setIfInBounds i true) w' ∧ AnyGE P PE ops Q G fuel (listed.setIfInBounds i true) a' w') a w
theorem any_of_GE {ro : Option Nat} {G : Array Bool → World → Prop} {Fam : Act → Prop} (hF : ∀ (i : Nat) (o : Oper) v a, ops[i]? = some o → Fam a → Fam (a.put o.dst v)) (hQ : ∀ ch a w', Fam a → PE ch w' → Q (.panic ch) a w') :
    ∀ (fuel : Nat) (listed : Array Bool) (a : Act) (w : World), Fam a → AnyGE P PE ops Q G fuel listed a w → wpAnyIn (fen ro) 0 P .any ops Q fuel listed a w
  | 0, _, _, _, _, h => h
  | fuel + 1, _, a, _, ha, h => ⟨h.1, fun i hi => opRE.sound (fun ch w' hp => hQ ch a w' ha hp) (opRE.mono (fun a' w' h' => any_of_GE hF hQ fuel _ a' w' h'.2 h'.1.2) (opRE.fam (hF i) ha (h.2 i hi)))⟩
theorem AnyGE.mono {G G' : Array Bool → World → Prop} : ∀ (fuel : Nat) (listed : Array Bool) (a : Act) (w : World), (∀ l' w, Ge listed l' → G' l' w → G l' w) → AnyGE P PE ops Q G' fuel listed a w → AnyGE P PE ops Q G fuel listed a w
  | 0, _, _, _, _, h => h
  | fuel + 1, listed, _, _, hG, h => ⟨h.1, fun i hi => opRE.mono (fun a' w' h' => ⟨hG _ _ (Ge.set listed i) h'.1, AnyGE.mono fuel _ a' w' (fun l' w hl => hG l' w ((Ge.set listed i).trans hl)) h'.2⟩) (h.2 i hi)⟩
theorem AnyGE.first {G : Array Bool → World → Prop} {Si : World → Prop} {i : Nat} {oi : Oper} {v : Value} (hi : ops[i]? = some oi) (hsel : ∀ (j : Nat) (o : Oper) cs b, ops[j]? = some o → o.op ≠ .select cs b)
    (hG1 : ∀ l w, G l w → G (l.setIfInBounds i true) w) (hG2 : ∀ l w, G (l.setIfInBounds i true) w → G l w) :
    ∀ (fuel : Nat) (listed : Array Bool) (a : Act) (w : World), Closed ops listed → (∀ l w, Closed ops l → l.getD i true = false → G l w → Si w) →
      (∀ j oj, ops[j]? = some oj → j ≠ i → listed.getD j true = false → (∀ e ∈ oj.after, Region.binds .any e = true → e.on ≠ i) → oi.apart ops oj = true) →
      i ∈ Region.ready .any ops listed → YieldsIf P ops Si oi v a → G listed w →
      AnyGE P PE ops Q G fuel (listed.setIfInBounds i true) (a.put oi.dst v) w → AnyGE P PE ops Q G (fuel + 1) listed a w := by
  intro fuel
  induction fuel with
  | zero =>
    intro listed a w hcl hSi _ hr hy hS H
    refine ⟨fun h => (by rw [h] at hr; cases hr), fun j hj => ?_⟩
    by_cases hji : j = i
    · subst hji; exact yi_opRE hi hy (hSi listed w hcl (mem_ready.1 hr).1 hS) ⟨hG1 _ _ hS, H⟩
    · have := ready_mono hj hji
      rw [H.1] at this
      cases this
  | succ fuel ih =>
    intro listed a w hcl hSi hfree hr hy hS H
    refine ⟨fun h => (by rw [h] at hr; cases hr), fun j hj => ?_⟩
    by_cases hji : j = i
    · subst hji; exact yi_opRE hi hy (hSi listed w hcl (mem_ready.1 hr).1 hS) ⟨hG1 _ _ hS, H⟩
    · have h1 := H.2 j (ready_mono hj hji)
      obtain ⟨hjun, oj, hoj, hall⟩ := mem_ready.1 hj
      have hnot : ∀ e ∈ oj.after, Region.binds .any e = true → e.on ≠ i := fun e he hb heq => by
        have h1 := hall e he hb
        have h0 := (mem_ready.1 hr).1
        rw [heq] at h1
        rcases Nat.lt_or_ge i listed.size with h' | h'
        · simp [h'] at h0 h1; rw [h0] at h1; cases h1
        · simp [Array.getElem?_eq_none h'] at h1
      have h2 := opRE_putIf (S := Si) hoj (hfree j oj hoj hji hjun hnot) (fun cs b => hsel i oi cs b hi) (fun cs b => hsel j oj cs b hoj) hy h1
      have hfree' : ∀ k ok, ops[k]? = some ok → k ≠ i → (listed.setIfInBounds j true).getD k true = false →
          (∀ e ∈ ok.after, Region.binds .any e = true → e.on ≠ i) → oi.apart ops ok = true := fun k ok hk hki hun hno => by
        refine hfree k ok hk hki ?_ hno
        by_cases hjk : j = k
        · subst hjk; exact hjun
        · rw [getD_set_ne true hjk] at hun; exact hun
      refine opRE.mono (fun a' w' h3 => ?_) h2
      have hcomm : (listed.setIfInBounds i true).setIfInBounds j true = (listed.setIfInBounds j true).setIfInBounds i true := Array.setIfInBounds_comm _ _ (Ne.symm hji)
      have hGj : G (listed.setIfInBounds j true) w' := hG2 _ _ (hcomm ▸ h3.2.1)
      exact ⟨hGj, ih (listed.setIfInBounds j true) a' w' (hcl.set hj) hSi hfree' (ready_mono hr (Ne.symm hji)) h3.1 hGj (hcomm ▸ h3.2.2)⟩
def WSE (P : Program) (PE : List PanicEntry → World → Prop) (l : List Oper) (Q : Exit → Act → World → Prop) (n : Nat) (df : List Deferred) : Od → (World → Prop) → (Nat → Value) → World → Prop
  | .nil, _, σ, w => Q .normal (act n df σ) w
  | .cons i .pure r, S, σ, w => ∃ o v, l[i]? = some o ∧ YieldsIf P l.toArray (fun _ => True) o v (act n df σ) ∧ WSE P PE l Q n df r S (updO σ o.dst v) w
  | .cons i .held r, S, σ, w => ∃ o v, l[i]? = some o ∧ YieldsIf P l.toArray S o v (act n df σ) ∧ WSE P PE l Q n df r S (updO σ o.dst v) w
  | .cons i .eff r, S, σ, w => opRE P PE l.toArray i (fun a' w' => ∃ (σ' : Nat → Value) (S' : World → Prop), a' = act n df σ' ∧ (∀ w, S' w → S w) ∧ S' w' ∧ WSE P PE l Q n df r S' σ' w') (act n df σ) w
  | .cons i .bar r, _, σ, w => opRE P PE l.toArray i (fun a' w' => ∃ (σ' : Nat → Value) (S' : World → Prop), a' = act n df σ' ∧ S' w' ∧ WSE P PE l Q n df r S' σ' w') (act n df σ) w
  | _, _, _, _ => False
theorem AnyGE.done {G : Array Bool → World → Prop} {listed : Array Bool} {a : Act} {w : World} (hr : Region.ready .any ops listed = []) (h : Q .normal a w) : ∀ fuel, AnyGE P PE ops Q G fuel listed a w
  | 0 => ⟨hr, h⟩
  | _ + 1 => ⟨fun _ => h, by rw [hr]; simp⟩
theorem WSE.sound {n : Nat} {df : List Deferred} {l : List Oper} (hsel : ∀ (j : Nat) (o : Oper) cs b, l.toArray[j]? = some o → o.op ≠ .select cs b) : ∀ (order : Od) (fuel : Nat) (listed : Array Bool) (S : World → Prop) (σ : Nat → Value) (w : World),
    order.depth ≤ fuel → okO l order listed = true → Closed l.toArray listed → listed.size = l.length → S w → WSE P PE l Q n df order S σ w →
    AnyGE P PE l.toArray Q (GG (bars order) S) fuel listed (act n df σ) w
  | .fork i r j s, _, _, _, _, _, _, _, _, _, _, h => h.elim
  | .fork3 i r j s k t, _, _, _, _, _, _, _, _, _, _, h => h.elim
  | .nil, fuel, listed, S, σ, w, _, hok, _, _, _, h => AnyGE.done (by simpa [okO] using hok) h fuel
  | .cons i .pure r, 0, _, _, _, _, hf, _, _, _, _, _ => by simp [Od.depth] at hf
  | .cons i .pure r, fuel + 1, listed, S, σ, w, hf, hok, hcl, hsz, hS, h => by
    obtain ⟨o, v, ho, hy, h⟩ := h
    simp only [okO, Bool.and_eq_true, Bool.not_eq_true'] at hok
    obtain ⟨⟨⟨k1, k2⟩, k3⟩, k4⟩ := hok
    have ho' : l.toArray[i]? = some o := by simpa using ho
    have hr : i ∈ Region.ready .any l.toArray listed := by simpa using k2
    refine AnyGE.first (Si := fun _ => True) ho' hsel (fun L w => (GG_ne k3 L w).1) (fun L w => (GG_ne k3 L w).2) fuel listed (act n df σ) w hcl (fun _ _ _ _ _ => trivial)
      (Region.free_spec ho' k1) hr hy (fun _ => hS) ?_
    rw [act_put]
    exact WSE.sound hsel r fuel _ S _ w (by simpa [Od.depth] using hf) k4 (hcl.set hr) (by simpa using hsz) hS h
  | .cons i .held r, 0, _, _, _, _, hf, _, _, _, _, _ => by simp [Od.depth] at hf
  | .cons i .held r, fuel + 1, listed, S, σ, w, hf, hok, hcl, hsz, hS, h => by
    obtain ⟨o, v, ho, hy, h⟩ := h
    simp only [okO, Bool.and_eq_true, Bool.not_eq_true'] at hok
    obtain ⟨⟨⟨⟨k1, k2⟩, k3⟩, k5⟩, k4⟩ := hok
    have ho' : l.toArray[i]? = some o := by simpa using ho
    have hr : i ∈ Region.ready .any l.toArray listed := by simpa using k2
    refine AnyGE.first (Si := S) ho' hsel (fun L w => (GG_ne k3 L w).1) (fun L w => (GG_ne k3 L w).2) fuel listed (act n df σ) w hcl (fun L w hL hi hG => hG fun b hb => ?_)
      (Region.free_spec ho' k1) hr hy (fun _ => hS) ?_
    · cases hb' : L.getD b false with
      | false => rfl
      | true =>
        have := succs_spec (List.all_eq_true.1 k5 b hb) L hL hb'
        rw [getD_false_of hi] at this
        cases this
    · rw [act_put]
      exact WSE.sound hsel r fuel _ S _ w (by simpa [Od.depth] using hf) k4 (hcl.set hr) (by simpa using hsz) hS h
  | .cons i .eff r, 0, _, _, _, _, hf, _, _, _, _, _ => by simp [Od.depth] at hf
  | .cons i .eff r, fuel + 1, listed, S, σ, w, hf, hok, hcl, hsz, hS, h => by
    simp only [okO, Bool.and_eq_true, Bool.not_eq_true', beq_iff_eq] at hok
    obtain ⟨⟨k1, k3⟩, k4⟩ := hok
    refine ⟨fun h0 => (by rw [k1] at h0; cases h0), fun j hj => ?_⟩
    have hr := hj
    rw [k1] at hj
    simp only [List.mem_singleton] at hj
    subst hj
    refine opRE.mono ?_ h
    rintro a' w' ⟨σ', S', rfl, himp, hS', h⟩
    refine ⟨fun _ => himp _ hS', ?_⟩
    exact AnyGE.mono fuel _ _ _ (fun L w _ hG hb => himp _ (hG hb)) (WSE.sound hsel r fuel _ S' σ' w' (by simpa [Od.depth] using hf) k4 (hcl.set hr) (by simpa using hsz) hS' h)
  | .cons i .bar r, 0, _, _, _, _, hf, _, _, _, _, _ => by simp [Od.depth] at hf
  | .cons i .bar r, fuel + 1, listed, S, σ, w, hf, hok, hcl, hsz, hS, h => by
    simp only [okO, Bool.and_eq_true, Bool.not_eq_true', beq_iff_eq] at hok
    obtain ⟨⟨k1, k3⟩, k4⟩ := hok
    refine ⟨fun h0 => (by rw [k1] at h0; cases h0), fun j hj => ?_⟩
    have hr := hj
    rw [k1] at hj
    simp only [List.mem_singleton] at hj
    subst hj
    have hlt : j < listed.size := by
      obtain ⟨_, o, ho, _⟩ := mem_ready.1 hr
      have := (Array.getElem?_eq_some_iff.1 ho).1
      simpa [hsz] using this
    have hset : (listed.setIfInBounds j true).getD j false = true := by simp [hlt]
    refine opRE.mono ?_ h
    rintro a' w' ⟨σ', S', rfl, hS', h⟩
    refine ⟨fun hb => (by have := hb j (by simp [bars]); rw [hset] at this; cases this), ?_⟩
    exact AnyGE.mono fuel _ _ _ (fun L w hL _ hb => (by have := hb j (by simp [bars]); rw [hL j hset] at this; cases this))
      (WSE.sound hsel r fuel _ S' σ' w' (by simpa [Od.depth] using hf) k4 (hcl.set hr) (by simpa using hsz) hS' h)
/-- (A structure, so that nothing unfolds it.) -/
structure OSE (P : Program) (PE : List PanicEntry → World → Prop) (l : List Oper) (Q : Exit → Act → World → Prop) (n : Nat) (df : List Deferred) (r : Od) (S : World → Prop) (σ : Nat → Value) (w : World) : Prop where
  run : WSE P PE l Q n df r S σ w
variable {n : Nat} {df : List Deferred} {ro : Option Nat} {σ : Nat → Value} {w : World} {X : List Nat} {w0 : World} {I0 I : Imm} {L : List Res} {l : List Oper} {id : Nat}
def FamT (ts : List Nat) (a0 a : Act) : Prop := a.defers = a0.defers ∧ a.tmps.size = a0.tmps.size ∧ ∀ t ∈ ts, a.tmps.getD t undef = a0.tmps.getD t undef
def offT (ts : List Nat) (o : Oper) : Bool := match o.dst with | none => true | some d => !ts.contains d
theorem famT_put {ts : List Nat} {a0 a : Act} {o : Oper} {v : Value} (ho : offT ts o = true) (h : FamT ts a0 a) : FamT ts a0 (a.put o.dst v) := by
  obtain ⟨h1, h2, h3⟩ := h
  unfold offT at ho
  cases hd : o.dst with
  | none => exact ⟨h1, h2, h3⟩
  | some d =>
    rw [hd] at ho
    refine ⟨h1, by simpa [Act.put] using h2, fun t ht => ?_⟩
    rw [← h3 t ht]
    have hne : d ≠ t := fun e => by subst e; simp [ht] at ho
    simp only [Act.put, Array.getD_eq_getD_getElem?]
    rw [Array.getElem?_setIfInBounds_ne hne]
theorem act_of {a : Act} (h : a.tmps.size = n) : a = act n a.defers (fun i => a.tmps.getD i undef) := by
  cases a with
  | mk tmps defers =>
    simp only at h
    simp only [act, Act.mk.injEq, and_true]
    subst h
    apply Array.ext
    · simp
    · intro i h1 h2
      rw [Array.getElem_ofFn]
      simp [h1]
theorem drawE (ts : List Nat) (PE : List PanicEntry → World → Prop) (m : List Bool) (order : Od) (hm : P.follows .mixedOrders = true) (hok : okR l order = true) (hts : l.all (offT ts) = true) (hS : St X w0 I0 I w L)
    (hQ : ∀ (σ' : Nat → Value) ch w', (∀ t ∈ ts, ev n σ' (.tmp t) = ev n σ (.tmp t)) → PE ch w' → Q (.panic ch) (act n df σ') w')
    (h : ∀ w', St X w0 I0 I w' L → OSE P PE l Q n df order (KS X w0 I0 I (sel m L)) σ w') : (Code.region id l.toArray true).wpIn (fen ro) 0 P Q (act n df σ) w := by
  have hd : St X w0 I0 I { w with drawn := w.drawn + 1 } L := hS.alike rfl rfl rfl rfl
  simp only [okR, Bool.and_eq_true] at hok
  obtain ⟨⟨k1, k2⟩, k3⟩ := hok
  have hany := WSE.sound (P := P) (PE := PE) (Q := Q) (Region.noSelect_spec k2) order l.toArray.size (Array.replicate l.length false) (KS X w0 I0 I (sel m L)) σ _ (by simpa using Nat.le_of_ble_eq_true k3) k1
    (by intro j o _ hl; exfalso; rcases Nat.lt_or_ge j l.length with h' | h' <;> simp [h'] at hl) (by simp) (hd.sel m) (h _ hd).run
  have hput : ∀ (i : Nat) (o : Oper) v a, l.toArray[i]? = some o → FamT ts (act n df σ) a → FamT ts (act n df σ) (a.put o.dst v) := fun i o v a ho ha =>
    famT_put (List.all_eq_true.1 hts o (by simpa using Array.mem_of_getElem? ho)) ha
  have hq : ∀ ch a w', FamT ts (act n df σ) a → PE ch w' → Q (.panic ch) a w' := fun ch a w' ha hp => by
    obtain ⟨h1, h2, h3⟩ := ha
    have e := act_of (a := a) (n := n) (by rw [h2]; simp [act])
    rw [e, h1]
    refine hQ _ ch w' (fun t ht => ?_) hp
    have h4 := h3 t ht
    rw [act_getD] at h4
    show cond (Nat.blt t n) (a.tmps.getD t undef) undef = cond (Nat.blt t n) (σ t) undef
    rw [h4]
    cases Nat.blt t n <;> rfl
  exact wpIn_region_any hm (by simpa using any_of_GE hput hq _ _ _ _ ⟨rfl, rfl, fun _ _ => rfl⟩ hany)
variable {i : Nat} {r : Od} {S : World → Prop} {d : Option Tmp} {op : Op} {ty : TypeId} {p : String} {af : Array Edge} {v : Value} {R : Value → World → Prop}
theorem snE (k : Q .normal (act n df σ) w) : OSE P PE l Q n df .nil S σ w := ⟨k⟩
theorem spE (hi : l[i]? = some ⟨d, op, ty, p, af, none⟩) (h : Gives P (ev n σ) (fun _ => True) op ty v) (k : OSE P PE l Q n df r S (updO σ d v) w) : OSE P PE l Q n df (.cons i .pure r) S σ w :=
  ⟨⟨_, v, hi, yi rfl h, k.run⟩⟩
theorem shE (hi : l[i]? = some ⟨d, op, ty, p, af, none⟩) (h : Gives P (ev n σ) (KS X w0 I0 I L) op ty v) (k : OSE P PE l Q n df r (KS X w0 I0 I L) (updO σ d v) w) : OSE P PE l Q n df (.cons i .held r) (KS X w0 I0 I L) σ w :=
  ⟨⟨_, v, hi, yi rfl h, k.run⟩⟩
theorem op_doesE {ops : Array Oper} {K : Act → World → Prop} (hi : ops[i]? = some ⟨d, op, ty, p, af, none⟩)
    (h : Does P (ev n σ) op ty w R) (k : ∀ v w', R v w' → K (act n df (updO σ d v)) w') : opRE P PE ops i K (act n df σ) w := by
  unfold opRE
  simp only [hi]
  rw [if_pos (by simp [Region.wanted])]
  unfold opWE
  rw [act_evals, execOp_any]
  exact DoesRE.mono (fun v w' hR => by show K ((act n df σ).put d v) w'; rw [act_put]; exact k v w' hR) (doesRE_of h.run)
theorem op_call {ops : Array Oper} {K : Act → World → Prop} {f : FuncId} {ls : List Operand} {aT : Array TypeId} {vs : List Value} {v0 : Value} {E : World → Prop} (hi : ops[i]? = some ⟨d, .call { callee := .value (.func f), args := ls.toArray, argTypes := aT }, ty, p, af, none⟩)
    (hc : ∀ args w, (callFunc f args).run P w = .ok (.enter f args) w) (ha : ls.map (ev n σ) = vs) (hF : CtrE P f vs w v0 R E) (hE : ∀ w', E w' → PE [{ v := v0, recovered := false }] w') (k : ∀ v w', R v w' → K (act n df (updO σ d v)) w') : opRE P PE ops i K (act n df σ) w := by
  unfold opRE
  simp only [hi]
  rw [if_pos (by simp [Region.wanted])]
  unfold opWE
  rw [act_evals]
  have he : (execOp (ev n σ) ⟨d, .call { callee := .value (.func f), args := ls.toArray, argTypes := aT }, ty, p, af, none⟩).run P w = .ok (.enter f vs.toArray) w := by
    subst ha
    simp [execOp, resolve, Deferred.ofValue, ev, invoke, hc]
  rw [he]
  refine Calls.mono hF.calls fun e w'' h => ?_
  rcases h with ⟨v, rfl, hR⟩ | ⟨rfl, hE'⟩
  · exact .inl ⟨v, rfl, by show K ((act n df σ).put d v) w''; rw [act_put]; exact k v w'' hR⟩
  · exact .inr ⟨_, rfl, hE w'' hE'⟩
theorem scE {f : FuncId} {ls : List Operand} {aT : Array TypeId} {vs : List Value} {v0 : Value} {E : World → Prop} (hi : l[i]? = some ⟨d, .call { callee := .value (.func f), args := ls.toArray, argTypes := aT }, ty, p, af, none⟩)
    (hc : ∀ args w, (callFunc f args).run P w = .ok (.enter f args) w) (ha : ls.map (ev n σ) = vs) (hF : CtrE P f vs w v0 R E) (hE : ∀ w', E w' → PE [{ v := v0, recovered := false }] w')
    (k : ∀ v w', R v w' → ∃ I' L', (∀ w, St X w0 I0 I' w L' → St X w0 I0 I w L) ∧ St X w0 I0 I' w' L' ∧ OSE P PE l Q n df r (KS X w0 I0 I' L') (updO σ d v) w') : OSE P PE l Q n df (.cons i .eff r) (KS X w0 I0 I L) σ w :=
  ⟨op_call (by simpa using hi) hc ha hF hE fun v w' hR => let ⟨I', L', h1, h2, h3⟩ := k v w' hR; ⟨_, KS X w0 I0 I' L', rfl, h1, h2, h3.run⟩⟩
theorem seE (hi : l[i]? = some ⟨d, op, ty, p, af, none⟩) (h : Does P (ev n σ) op ty w R)
    (k : ∀ v w', R v w' → ∃ I' L', (∀ w, St X w0 I0 I' w L' → St X w0 I0 I w L) ∧ St X w0 I0 I' w' L' ∧ OSE P PE l Q n df r (KS X w0 I0 I' L') (updO σ d v) w') : OSE P PE l Q n df (.cons i .eff r) (KS X w0 I0 I L) σ w :=
  ⟨op_doesE (by simpa using hi) h fun v w' hR => let ⟨I', L', h1, h2, h3⟩ := k v w' hR; ⟨_, KS X w0 I0 I' L', rfl, h1, h2, h3.run⟩⟩
theorem sbE (hi : l[i]? = some ⟨d, op, ty, p, af, none⟩) (h : Does P (ev n σ) op ty w R)
    (k : ∀ v w', R v w' → ∃ I' L', St X w0 I0 I' w' L' ∧ OSE P PE l Q n df r (KS X w0 I0 I' L') (updO σ d v) w') : OSE P PE l Q n df (.cons i .bar r) (KS X w0 I0 I L) σ w :=
  ⟨op_doesE (by simpa using hi) h fun v w' hR => let ⟨I', L', h2, h3⟩ := k v w' hR; ⟨_, KS X w0 I0 I' L', rfl, h2, h3.run⟩⟩
end
end Go.Inl
