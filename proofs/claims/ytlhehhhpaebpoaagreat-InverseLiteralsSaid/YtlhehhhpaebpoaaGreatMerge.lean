/- merge.Touched, Read, Clashes, Merge, Commute: what they compute. Conditions: numbers within bounds. -/
import Derived.Test.YtlhehhhpaebpoaaGreatLoad
import Derived.Test.YtlhehhhpaebpoaaGreatLaw1
namespace Go.Proofs.YtlhehhhpaebpoaaGreat
open Go Go.RowKit Go.Inl
set_option linter.unusedSimpArgs false
set_option linter.unusedVariables false
theorem evs_one {evs : List EvL} {p : PatL} (h : evs.map (·.p) = [p]) : ∃ e, evs = [e] ∧ e.p = p := by
  match evs, h with
  | [e], h => exact ⟨e, rfl, by simpa using h⟩
  | [], h => simp at h
  | _ :: _ :: _, h => simp at h
theorem evs_two {evs : List EvL} {p q : PatL} (h : evs.map (·.p) = [p, q]) : ∃ e f, evs = [e, f] ∧ e.p = p ∧ f.p = q := by
  match evs, h with
  | [e, f], h => simp at h; exact ⟨e, f, rfl, h.1, h.2⟩
  | [], h => simp at h
  | [_], h => simp at h
  | _ :: _ :: _ :: _, h => simp at h
theorem checkM_all {l : List PatL} (h : checkM l = 0) : (∀ p ∈ l, (checkP p).2 = 0) ∧ (∀ p ∈ l, p.lifted = (l.headD PatL.zero).lifted) ∧ ∀ p ∈ l, p.in_ = p.out ∧ p.in_ = (l.headD PatL.zero).in_ := by
  unfold checkM at h
  split at h
  · cases h
  · rename_i h1
    split at h
    · cases h
    · rename_i h2
      split at h
      · cases h
      · rename_i h3
        simp only [Bool.not_eq_true, List.any_eq_false] at h1 h2 h3
        refine ⟨fun p hp => by simpa using h1 p hp, fun p hp => by simpa using h2 p hp, fun p hp => ?_⟩
        have := h3 p hp
        unfold evenQ at this
        simpa using this
theorem symsP_len {p : PatL} (h : (checkP p).2 = 0) : ((symsP p).length : Int) = p.out := (checkP_ok h).2.1
theorem symsP_wf {p : PatL} (hp : p.wf) (h : (checkP p).2 = 0) : ∀ s ∈ symsP p, s.wf := by
  intro s hs
  refine symsOf_wf hp s ?_
  rw [symbolsP_ok h]; exact hs
theorem plc_bd {N : Nat} {f : Nat → Bool} (h : N ≤ 65536) : (∀ i ∈ plc N f, i < 65536) ∧ (plc N f).length ≤ 65536 := by
  refine ⟨fun i hi => ?_, ?_⟩
  · have := (mem_plc.1 hi).1; omega
  · have := plc_le N f; omega
theorem mergeS_wf {s t : List Sym} (hl : s.length = t.length) (hs : ∀ x ∈ s, x.wf) (ht : ∀ x ∈ t, x.wf) : ∀ x ∈ mergeS s t, x.wf := by
  intro x hx
  obtain ⟨i, hi, rfl⟩ := List.mem_map.1 hx
  have hit := List.mem_range.1 hi
  have k1 : sAt s i ∈ s := by
    unfold sAt
    rw [List.getD_eq_getElem?_getD, List.getElem?_eq_getElem (by omega)]
    exact List.getElem_mem _
  have k2 : sAt t i ∈ t := by
    unfold sAt
    rw [List.getD_eq_getElem?_getD, List.getElem?_eq_getElem hit]
    exact List.getElem_mem _
  split
  · exact hs _ k1
  · exact ht _ k2
theorem cheap_lift {b : Bool} {p : PatL} (h : p.wf) : PatL.wf { p with lifted := b } := ⟨h.in_, h.out, h.ops, h.len⟩
theorem two_wf {p q : PatL} (hp : p.wf) (hq : q.wf) : ∀ x ∈ [p, q], x.wf := by
  intro x hx
  simp only [List.mem_cons, List.not_mem_nil, or_false] at hx
  rcases hx with rfl | rfl
  · exact hp
  · exact hq
theorem slN {α : Type} {I : Imm} {sz : Nat} {enc : α → List Value} {v : Value} {xs : List α} {N : Nat} (h : RFl I sz enc v xs) (hn : xs.length = N) : ∃ a c, v = .slice a N c := by
  obtain ⟨a, c, e⟩ := RSl.sl h
  exact ⟨a, c, by rw [← hn]; exact e⟩
theorem newB_up {I0 I : Imm} {w0 w : World} {v : Value} (hs : Inl.Sub I0 I) (hz : w0.heap.size ≤ w.heap.size) (h : NewB I w v) : NewB I0 w0 v := newB_of hs fun b hb => ⟨(h b hb).1, Nat.le_trans hz (h b hb).2⟩
theorem disturbs_yes {S T : List Sym} {N i : Nat} (hS : S.length = N) (hT : T.length = N) (hi : i < N ∧ touched S i = true) (h : (touched T i || readUp T N i) = true) : disturbs S T = true := by
  unfold disturbs
  rw [hS, hT]
  exact List.any_eq_true.2 ⟨i, List.mem_range.2 hi.1, by rw [hi.2, Bool.true_and]; exact h⟩
theorem disturbs_no {S T : List Sym} {N : Nat} (hS : S.length = N) (hT : T.length = N) (h : ∀ i ∈ plc N (touched S), (touched T i || readUp T N i) = false) : disturbs S T = false := by
  unfold disturbs
  rw [hS, hT, List.any_eq_false]
  intro i hi
  cases hf : touched S i with
  | false => simp
  | true => rw [h i (mem_plc.2 ⟨List.mem_range.1 hi, hf⟩)]; decide
theorem form_wf {p : PatL} (hp : p.wf) : (formP p).1.wf := by
  unfold formP
  split
  · dsimp only
    split
    · have h := cheapP_wf (n := p.in_) (symsOf_wf hp)
      exact ⟨h.in_, h.out, h.ops, h.len⟩
    · exact cheapP_wf (symsOf_wf hp)
  · exact zero_wf

end Go.Proofs.YtlhehhhpaebpoaaGreat

