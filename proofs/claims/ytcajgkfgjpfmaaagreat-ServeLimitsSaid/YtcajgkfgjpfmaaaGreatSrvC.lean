/- Servers: the plain laws of collecting, withdrawing and adding. Conditions: good servers. -/
import Derived.Test.YtcajgkfgjpfmaaaGreatSrvP
set_option linter.unusedSimpArgs false
set_option linter.unusedVariables false
namespace Go.Proofs.YtcajgkfgjpfmaaaGreat
open Go Go.RowKit Go.Inl
theorem nodup_len {a b : List Int} (h : a.Pairwise (· < ·)) (hs : ∀ v ∈ a, v ∈ b) : a.length ≤ b.length :=
 List.Nodup.length_le_of_subset (h.imp fun h => by omega) hs
theorem incV_of : ∀ (b : Int) (l : List Int), l.Pairwise (· < ·) → (∀ v ∈ l, b ≤ v ∧ v ≤ 60000) → incV b l = true
 | _, [], _, _ => rfl
 | b, x :: l, h, hb => by
   rw [List.pairwise_cons] at h
   have h1 := hb x (List.mem_cons_self ..)
   unfold incV
   rw [decide_eq_true h1.1, decide_eq_true h1.2, Bool.true_and, Bool.true_and]
   refine incV_of _ l h.2 fun v hv => ⟨?_, (hb v (List.mem_cons_of_mem _ hv)).2⟩
   have := h.1 v hv
   omega
structure LnkG (vs : List Int) (k : LnkL) : Prop where
 f : k.f ∈ vs
 t : k.t ∈ vs
 ne : k.f ≠ k.t
 c0 : 0 ≤ k.c
 c1 : k.c ≤ 1000000
 n : rightN k.n = true
theorem lnk_iff {vs : List Int} {k : LnkL} : lnkOk vs k = true ↔ LnkG vs k := by
 unfold lnkOk
 simp only [Bool.not_eq_true', Bool.or_eq_false_iff, Bool.not_eq_false', decide_eq_true_eq, decide_eq_false_iff_not]
 constructor
 · rintro ⟨⟨⟨⟨⟨a, b⟩, c⟩, d⟩, e⟩, f⟩
   exact ⟨a, b, c, by omega, by omega, f⟩
 · rintro ⟨a, b, c, d, e, f⟩
   exact ⟨⟨⟨⟨⟨a, b⟩, c⟩, by omega⟩, by omega⟩, f⟩
structure ValG (g : GrL) : Prop where
 nv : g.vs.length ≤ 16
 nl : g.ls.length ≤ 64
 inc : g.vs.Pairwise (· < ·)
 vb : ∀ v ∈ g.vs, 0 ≤ v ∧ v ≤ 60000
 ls : ∀ k ∈ g.ls, LnkG g.vs k
theorem val_iff {g : GrL} : validG g = true ↔ ValG g := by
 unfold validG
 simp only [Bool.and_eq_true, decide_eq_true_eq, List.all_eq_true]
 constructor
 · rintro ⟨a, b, c, d⟩
   refine ⟨a, b, zt _ _ c, fun v hv => ?_, fun k hk => lnk_iff.1 (d k hk)⟩
   obtain ⟨i, hi⟩ := List.mem_iff_getElem?.1 hv
   exact ku _ _ _ _ c hi
 · rintro ⟨a, b, c, d, e⟩
   exact ⟨a, b, incV_of _ _ c d, fun k hk => lnk_iff.2 (e k hk)⟩
theorem openP_inc {s : SrvL} (hg : GoodS s) (f : Int) (m : NeedL) : (openP s f m).Pairwise (· < ·) := openUp_inc hg.b.toGrOk f m (Nat.le_refl _)
theorem best_last {s : SrvL} (hg : GoodS s) (hc : CacheOk s) {f : Int} {m : NeedL} (h : (bestP s f m).e = 0) : f ∈ s.g.vs ∧ openP s f m ≠ [] ∧ (bestP s f m).o.way ≠ [] ∧ lastI (bestP s f m).o.way = lastI (openP s f m) ∧ lastI (bestP s f m).o.way ∉ s.gone := by
 by_cases hf : f ∈ s.g.vs
 · by_cases h0 : openP s f m = []
   · rw [best_none hf h0] at h; cases h
   · obtain ⟨d, h1, h2, h3, h4⟩ := best_some hg hc hf h0
     rw [h4]
     have e : lastI (offO s f d.l d.c).way = lastI (openP s f m) := way_last h1.walk
     refine ⟨hf, h0, fun h => (by cases h), e, ?_⟩
     rw [show lastI (OffR.mk (keptS s d.l) (offO s f d.l d.c) 0).o.way = lastI (openP s f m) from e]
     exact h2
 · rw [best_no hf] at h; cases h
end Go.Proofs.YtcajgkfgjpfmaaaGreat
