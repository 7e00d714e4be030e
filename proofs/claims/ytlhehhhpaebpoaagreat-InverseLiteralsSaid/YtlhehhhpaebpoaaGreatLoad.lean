/- merge.load: it checks patches and marks what they touch and read. Conditions: numbers within bounds, at least one patch. -/
import Derived.Test.YtlhehhhpaebpoaaGreatPlaces
namespace Go.Proofs.YtlhehhhpaebpoaaGreat
open Go Go.RowKit Go.Inl
set_option linter.unusedSimpArgs false
set_option linter.unusedVariables false
structure EvL where
  p : PatL
  ao : Option Addr
  mo : Nat
  co : Nat
  vs : Value
  vt : Value
  vr : Value
def evC (e : EvL) : List Value := [.bool e.p.lifted, .int .i64 e.p.in_, .int .i64 e.p.out, .slice e.ao e.mo e.co, e.vs, e.vt, e.vr]
theorem evC_len (e : EvL) : (evC e).length = 7 := rfl
structure Ev1 (I : Imm) (e : EvL) : Prop where
  ops : ROps I (.slice e.ao e.mo e.co) e.p.ops
  syms : RowI I e.vs 60 3 (symsP e.p).length (flat symC (symsP e.p))
structure Ev2 (I : Imm) (e : EvL) : Prop where
  touches : RBools I e.vt (marks (symsP e.p).length (touched (symsP e.p)))
  reads : RBools I e.vr (marks (symsP e.p).length (readUp (symsP e.p) (symsP e.p).length))
theorem Ev1.mono {I J : Imm} {e : EvL} (h : Ev1 I e) (hs : Inl.Sub I J) : Ev1 J e := ⟨h.ops.mono hs, h.syms.mono hs⟩
theorem Ev2.mono {I J : Imm} {e : EvL} (h : Ev2 I e) (hs : Inl.Sub I J) : Ev2 J e := ⟨h.touches.mono hs, h.reads.mono hs⟩
theorem Ev1.rsyms {I : Imm} {e : EvL} (h : Ev1 I e) : RSyms I e.vs (symsP e.p) := h.syms.flat symC_len rfl
def NewB (I0 : Imm) (w0 : World) (v : Value) : Prop := ∀ b, v.ownBlock = some b → I0 b = none ∧ w0.heap.size ≤ b
def Apart (v u : Value) : Prop := ∀ b, v.ownBlock = some b → u.ownBlock ≠ some b
theorem newB_of {I0 I : Imm} {w0 : World} {v : Value} (hs : Inl.Sub I0 I) (h : ∀ b, v.ownBlock = some b → I b = none ∧ w0.heap.size ≤ b) : NewB I0 w0 v := fun b hb => by
  obtain ⟨h1, h2⟩ := h b hb
  refine ⟨?_, h2⟩
  cases hI : I0 b with
  | none => rfl
  | some o => rw [hs b o hI] at h1; cases h1
def SepE (evs : List EvL) : Prop := ∀ (i j : Nat) (e f : EvL), i ≠ j → evs[i]? = some e → evs[j]? = some f → Apart f.vs e.vs
def SepT (k : Nat) (evs : List EvL) : Prop := ∀ (i j : Nat) (e f : EvL), i < k → evs[i]? = some e → evs[j]? = some f → Apart f.vs e.vt ∧ Apart f.vs e.vr
theorem sepE_snoc {I : Imm} {evs : List EvL} {e : EvL} (h : SepE evs) (h1 : ∀ f ∈ evs, Ev1 I f) (hn : ∀ b, e.vs.ownBlock = some b → I b = none) : SepE (evs ++ [e]) := by
  have hold : ∀ f ∈ evs, ∀ b, f.vs.ownBlock = some b → e.vs.ownBlock ≠ some b := fun f hf b hb he => by
    obtain ⟨o, ho⟩ := (h1 f hf).syms.own_some hb
    rw [hn b he] at ho; cases ho
  intro i j f g hij hi hj b hb hb'
  by_cases h1 : i < evs.length
  · rw [List.getElem?_append_left h1] at hi
    by_cases h2 : j < evs.length
    · rw [List.getElem?_append_left h2] at hj
      exact h i j f g hij hi hj b hb hb'
    · rw [List.getElem?_append_right (by omega)] at hj
      have : j - evs.length = 0 := by
        have := (List.getElem?_eq_some_iff.1 hj).1
        simp at this; omega
      rw [this] at hj
      obtain rfl : e = g := by simpa using hj
      exact hold f (List.mem_of_getElem? hi) b hb' hb
  · rw [List.getElem?_append_right (by omega)] at hi
    have h0 : i - evs.length = 0 := by
      have := (List.getElem?_eq_some_iff.1 hi).1
      simp at this; omega
    rw [h0] at hi
    obtain rfl : e = f := by simpa using hi
    by_cases h2 : j < evs.length
    · rw [List.getElem?_append_left h2] at hj
      exact hold g (List.mem_of_getElem? hj) b hb hb'
    · rw [List.getElem?_append_right (by omega)] at hj
      have := (List.getElem?_eq_some_iff.1 hj).1
      simp at this
      omega
structure LdI (I0 : Imm) (w0 : World) (I : Imm) (k : Nat) (l : List PatL) (evs : List EvL) : Prop where
  ps : evs.map (·.p) = l
  one : ∀ e ∈ evs, Ev1 I e ∧ NewB I0 w0 e.vs
  two : ∀ (i : Nat) (e : EvL), i < k → evs[i]? = some e → Ev2 I e
  ss : SepE evs
  ts : SepT k evs
def evSet (e : EvL) (vt vr : Value) : EvL := ⟨e.p, e.ao, e.mo, e.co, e.vs, vt, vr⟩
theorem set_at {α : Type} {l : List α} {k i : Nat} {x y z : α} (hk : l[k]? = some x) (h : (l.set k y)[i]? = some z) : (i = k ∧ z = y) ∨ (i ≠ k ∧ l[i]? = some z) := by
  rw [List.getElem?_set] at h
  by_cases e : k = i
  · subst e
    rw [if_pos rfl, if_pos (List.getElem?_eq_some_iff.1 hk).1] at h
    exact .inl ⟨rfl, (Option.some.inj h).symm⟩
  · rw [if_neg e] at h
    exact .inr ⟨fun h => e h.symm, h⟩
theorem LdI.step {I0 I I' : Imm} {w0 : World} {k : Nat} {l : List PatL} {evs : List EvL} {ev : EvL} {vt vr : Value} (h : LdI I0 w0 I k l evs) (he : evs[k]? = some ev) (hs : Inl.Sub I I') (h2 : Ev2 I' (evSet ev vt vr))
    (ht : ∀ b, vt.ownBlock = some b → I b = none) (hr : ∀ b, vr.ownBlock = some b → I b = none) : LdI I0 w0 I' (k + 1) l (evs.set k (evSet ev vt vr)) := by
  have hmem := List.mem_of_getElem? he
  have vsat : ∀ (i : Nat) (f : EvL), (evs.set k (evSet ev vt vr))[i]? = some f → ∃ g, evs[i]? = some g ∧ g.vs = f.vs ∧ (i ≠ k → g = f) := by
    intro i f hi
    rcases set_at he hi with ⟨rfl, rfl⟩ | ⟨h1, h2⟩
    · exact ⟨ev, he, rfl, fun h => absurd rfl h⟩
    · exact ⟨f, h2, rfl, fun _ => rfl⟩
  have fresh : ∀ (v : Value), (∀ b, v.ownBlock = some b → I b = none) → ∀ g ∈ evs, Apart g.vs v := by
    intro v hv g hg b hb hb'
    obtain ⟨o, ho⟩ := (h.one g hg).1.syms.own_some hb
    rw [hv b hb'] at ho; cases ho
  refine ⟨?_, ?_, ?_, ?_, ?_⟩
  · rw [List.map_set, ← h.ps]
    apply List.ext_getElem?
    intro i
    rw [List.getElem?_set, List.length_map]
    split
    · rename_i e
      subst e
      rw [List.getElem?_map, he, if_pos (List.getElem?_eq_some_iff.1 he).1]; rfl
    · rfl
  · intro e hm
    rcases List.mem_or_eq_of_mem_set hm with hm | rfl
    · exact ⟨(h.one e hm).1.mono hs, (h.one e hm).2⟩
    · obtain ⟨k1, k2⟩ := h.one ev hmem
      exact ⟨⟨k1.ops.mono hs, k1.syms.mono hs⟩, k2⟩
  · intro i e hik hi
    rcases set_at he hi with ⟨rfl, rfl⟩ | ⟨h1, h3⟩
    · exact h2
    · exact (h.two i e (by omega) h3).mono hs
  · intro i j e f hij hi hj
    obtain ⟨g1, h1, e1, _⟩ := vsat i e hi
    obtain ⟨g2, h3, e2, _⟩ := vsat j f hj
    have := h.ss i j g1 g2 hij h1 h3
    rwa [e1, e2] at this
  · intro i j e f hik hi hj
    obtain ⟨g2, h3, e2, _⟩ := vsat j f hj
    rcases set_at he hi with ⟨rfl, rfl⟩ | ⟨h1, h4⟩
    · have a1 := fresh vt ht g2 (List.mem_of_getElem? h3)
      have a2 := fresh vr hr g2 (List.mem_of_getElem? h3)
      rw [e2] at a1 a2
      exact ⟨a1, a2⟩
    · have := h.ts i j e g2 (by omega) h4 h3
      rwa [e2] at this
structure LoadOk (I0 : Imm) (w0 : World) (I : Imm) (v : Value) (l : List PatL) (evs : List EvL) : Prop where
  row : RFl I 7 evC v evs
  ld : LdI I0 w0 I l.length l evs
  apart : ∀ e ∈ evs, Apart e.vs v
structure LdS where
  k : Nat
  evs : List EvL
  a : Option Addr
  c : Nat
structure LdT where
  k : Nat
  evs : List EvL
theorem syms_good {p : PatL} (h : (symbolsP p).2 = 0) : (checkP p).2 = 0 ∧ symbolsP p = (symsOf p.ops, 0) := by
  have hc : (checkP p).2 = 0 := by
    unfold symbolsP at h
    split at h
    · assumption
    · exact h
  exact ⟨hc, symbolsP_ok hc⟩
theorem checkGo_60m {n : Int} : ∀ (l : List OpL) (left i : Int), (checkGo n l left i).2 = 60 ∨ (checkGo n l left i).2 = 0
  | [], left, i => by unfold checkGo; split <;> simp
  | x :: l, left, i => by
    by_cases hb : (decide (x.len < 1) || decide (left < x.len) || !rightP x n) = true
    · rw [checkGo_bad hb]; exact .inl rfl
    · rw [checkGo_good (by simpa using hb)]; exact checkGo_60m l _ _
theorem check_60 {p : PatL} (h : (checkP p).2 ≠ 0) : (checkP p).2 = 60 := by
  unfold checkP at h ⊢
  split
  · rfl
  · rename_i hb
    rw [if_neg hb] at h
    rcases checkGo_60m p.ops p.out 0 (n := p.in_) with h1 | h1
    · exact h1
    · exact absurd h1 h
theorem syms_bad {p : PatL} (h : (symbolsP p).2 ≠ 0) : (checkP p).2 ≠ 0 ∧ (symbolsP p).2 = 60 := by
  unfold symbolsP at h ⊢
  split at h
  · exact absurd rfl h
  · rename_i hc
    rw [if_neg hc]
    exact ⟨hc, check_60 hc⟩
theorem checkM_op {l : List PatL} {p : PatL} (hp : p ∈ l) (h : (checkP p).2 ≠ 0) : checkM l = 60 := by
  unfold checkM; rw [if_pos (List.any_eq_true.2 ⟨p, hp, by simpa using h⟩)]
theorem checkM_ops {l : List PatL} (h : ∀ p ∈ l, (checkP p).2 = 0) : l.any (fun p => decide ((checkP p).2 ≠ 0)) = false := by
  rw [List.any_eq_false]; intro p hp; simp [h p hp]
theorem checkM_kind {l : List PatL} {p : PatL} (h : ∀ p ∈ l, (checkP p).2 = 0) (hp : p ∈ l) (hk : (p.lifted != (l.headD PatL.zero).lifted) = true) : checkM l = 62 := by
  unfold checkM; rw [if_neg (by rw [checkM_ops h]; decide), if_pos (List.any_eq_true.2 ⟨p, hp, hk⟩)]
theorem checkM_len {l : List PatL} {p : PatL} (h : ∀ p ∈ l, (checkP p).2 = 0) (hk : ∀ q ∈ l, (q.lifted != (l.headD PatL.zero).lifted) = false) (hp : p ∈ l) (he : evenQ (l.headD PatL.zero) p = true) : checkM l = 61 := by
  unfold checkM
  rw [if_neg (by rw [checkM_ops h]; decide), if_neg (by rw [List.any_eq_false.2 fun q hq => by rw [hk q hq]; decide]; decide), if_pos (List.any_eq_true.2 ⟨p, hp, he⟩)]
theorem checkM_good {l : List PatL} (h : ∀ p ∈ l, (checkP p).2 = 0) (hk : ∀ q ∈ l, (q.lifted != (l.headD PatL.zero).lifted) = false) (he : ∀ q ∈ l, evenQ (l.headD PatL.zero) q = false) : checkM l = 0 := by
  unfold checkM
  rw [if_neg (by rw [checkM_ops h]; decide), if_neg (by rw [List.any_eq_false.2 fun q hq => by rw [hk q hq]; decide]; decide), if_neg (by rw [List.any_eq_false.2 fun q hq => by rw [he q hq]; decide]; decide)]
theorem put_touch {S : List Sym} {N i : Nat} (h : touched S i = true) (hi : i < N) : putL (flat boolC (marks N (touchUp S i))) i [.bool true] = flat boolC (marks N (touchUp S (i + 1))) := by
  have h1 := putL_flat0 boolC_len true (marks N (touchUp S i)) i (by rw [marks_len]; exact hi)
  rw [Nat.mul_one] at h1
  rw [← touchUp_set S N i, h]
  exact h1
theorem put_read {S : List Sym} {N i a : Nat} (h : touched S i = true) (ho : (sAt S i).old = true) (ha : (sAt S i).at_ = a) (hi : a < N) : putL (flat boolC (marks N (readUp S i))) a [.bool true] = flat boolC (marks N (readUp S (i + 1))) := by
  have h1 := putL_flat0 boolC_len true (marks N (readUp S i)) a (by rw [marks_len]; exact hi)
  rw [Nat.mul_one] at h1
  rw [← readUp_set h ho ha]
  exact h1
theorem symbols_oE (p : PatL) (A : List Sym × Int) (ad : Option Addr) (m cap : Nat) (w0 : World) (I0 : Imm) (hI : Sat I0 w0) (hops : ROps I0 (.slice ad m cap) p.ops) (hp : p.wf) (he : symbolsP p = A) :
    Ctr Tryz.prog 31 [.agg #[.bool p.lifted, .int .i64 p.in_, .int .i64 p.out, .slice ad m cap]] w0 (fun v w' => ∃ a c, v = .tuple #[.slice a A.1.length c, .int .i64 A.2] ∧ St [] w0 I0 I0 w' [.row (.slice a A.1.length c) 60 3 A.1.length (flat symC A.1)]) := by
  subst he; exact symbols_o p ad m cap w0 I0 hI hops hp

end Go.Proofs.YtlhehhhpaebpoaaGreat

