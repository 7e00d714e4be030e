/- Equal literals are one Run or one Lit, bytes in order one Copy, with a number added one Diff. Conditions: none. -/
import Derived.Test.YthningkgpanaoaaOpt2
set_option linter.unusedVariables false
namespace Go.Inl
theorem opc_three {k : Int} {n : Int} (h : 1 ≤ n) : 3 ≤ opc k n := by
  unfold opc; repeat' split
  all_goals omega
theorem best_att {l : List Sym} (hg : Gd l) (hl : l ≠ []) : (bestP l).cost = opc (topP l).kind (topP l).length + (bestP (l.drop (topP l).length.toNat)).cost ∧ (bestP l).ops = 1 + (bestP (l.drop (topP l).length.toNat)).ops := by
  have hc := hg.core hl
  have h2 : bestP l = cand (topP l).kind l (topP l).length.toNat := hc.att
  have h0 := hc.n0
  have e : (((topP l).length.toNat : Nat) : Int) = (topP l).length := by omega
  constructor
  · conv => lhs; rw [h2]
    simp only [cand, Pr.plus, e]; omega
  · conv => lhs; rw [h2]
    simp only [cand, Pr.plus]; omega
theorem best_three {l : List Sym} (hg : Gd l) (hl : l ≠ []) : 3 ≤ (bestP l).cost := by
  have h1 := (best_att hg hl).1
  have h2 := opc_three (k := (topP l).kind) (hg.core hl).n0
  have h3 := seg_nonneg (seg_best _ (hg.drop (topP l).length.toNat))
  omega
theorem best_nil {l : List Sym} (hl : l = []) : (bestP l).cost = 0 ∧ (bestP l).ops = 0 := by subst hl; exact ⟨rfl, rfl⟩
theorem opt_one {n : Int} {l : List Sym} (ok : okL n l) (hl : l ≠ []) (h : (topP l).length = l.length) : optL l = [opS (topP l).kind l] := by
  have hp : 0 < l.length := List.length_pos_iff.2 hl
  have ht : (tab l)[0]? = some (topP l) := by
    have h2 := tab_getD l 0 (Nat.zero_le _)
    have h3 := tab_length l
    rw [List.getElem?_eq_getElem (by omega)]
    rw [List.getD_eq_getElem?_getD, List.getElem?_eq_getElem (by omega), Option.getD_some, List.drop_zero] at h2
    rw [h2]
  unfold optL
  rw [opsT_step hp ht, opsT_end (by rw [h]; omega), h]
  simp
theorem fits_head {k : Int} {l : List Sym} {s : Sym} {n : Nat} (h0 : l[0]? = some s) (h : ∀ j < n, ∃ t, l[j]? = some t ∧ relK k s j t) : n ≤ fitsN k l := by
  cases l with
  | nil => simp at h0
  | cons s' l => simp at h0; subst h0; exact (fits_iff l s' n).2 h
theorem fits_none {k : Int} {l : List Sym} {s : Sym} (h0 : l[0]? = some s) (h : startK k s = false) : fitsN k l = 0 := by
  cases l with
  | nil => simp at h0
  | cons s' l => simp at h0; subst h0; exact fitsN_start h
theorem core_kind {l : List Sym} {p : Pl} (hc : Core l p) {k : Int} (h : fitsN k l = 0) : p.kind ≠ k := by
  intro e; subst e
  have := hc.n0; have := hc.n1; omega
theorem core_len {l : List Sym} {p : Pl} (hc : Core l p) : p.length ≤ l.length := by
  have := hc.n1; have := fitsN_le p.kind l; omega
theorem cand_all {k : Int} {l : List Sym} : (cand k l l.length).cost = opc k l.length ∧ (cand k l l.length).ops = 1 := by
  unfold cand
  rw [List.drop_length]
  exact ⟨by show (0 : Int) + _ = _; omega, rfl⟩

theorem runs_equal (b : Int) (k : Nat) (hk : 1 ≤ k) : optL (List.replicate k ⟨false, 0, b⟩) = [if k = 1 then ⟨4, 0, 1, 0, [b]⟩ else ⟨3, 0, k, b, []⟩] := by
  generalize hl : List.replicate k (⟨false, 0, b⟩ : Sym) = l
  have hlen : l.length = k := by rw [← hl, List.length_replicate]
  have hget : ∀ j, j < k → l[j]? = some ⟨false, 0, b⟩ := fun j hj => by rw [← hl, List.getElem?_replicate, if_pos hj]
  have ok : okL 0 l := fun s hs => by rw [← hl] at hs; rw [List.eq_of_mem_replicate hs]; rfl
  have hne : l ≠ [] := by intro e; rw [e] at hlen; simp at hlen; omega
  have hc := ok.gd.core hne
  have h0 := hget 0 (by omega)
  have k1 := core_kind hc (fits_none (k := 1) h0 rfl)
  have k2 := core_kind hc (fits_none (k := 2) h0 rfl)
  have f3 : l.length ≤ fitsN 3 l := fits_head h0 fun j hj => ⟨_, hget j (by omega), by simp [relK]⟩
  have f4 : l.length ≤ fitsN 4 l := fits_head h0 fun j hj => ⟨_, hget j (by omega), by simp [relK]⟩
  have l3 := hc.low 3 l.length (by decide) (by decide) (by omega) f3
  have l4 := hc.low 4 l.length (by decide) (by decide) (by omega) f4
  obtain ⟨a1, a2⟩ := best_att ok.gd hne
  have hq := core_len hc
  have n0 := hc.n0
  have e : (topP l).best = bestP l := rfl
  rw [e] at l3 l4
  have c3 := cand_all (k := 3) (l := l)
  have c4 := cand_all (k := 4) (l := l)
  have hk0 := hc.k0
  have hk1 := hc.k1
  simp only [Pr.le, c3.1, c3.2, c4.1, c4.2] at l3 l4
  have hrest : (bestP (l.drop (topP l).length.toNat)).cost = 0 ∧ (topP l).length = l.length ∨ 3 ≤ (bestP (l.drop (topP l).length.toNat)).cost := by
    by_cases hd : l.drop (topP l).length.toNat = []
    · exact .inl ⟨(best_nil hd).1, by rw [List.drop_eq_nil_iff] at hd; omega⟩
    · exact .inr (best_three (ok.gd.drop _) hd)
  have o3 : opc 3 (l.length : Int) = 4 := rfl
  have o4 : opc 4 (l.length : Int) = 2 + l.length := rfl
  rw [o3] at l3; rw [o4] at l4
  have hopt : (topP l).length = l.length ∧ (topP l).kind = if k = 1 then 4 else 3 := by
    by_cases h3 : (topP l).kind = 3
    · rw [h3] at a1
      have : opc 3 (topP l).length = 4 := rfl
      rw [this] at a1
      refine ⟨by omega, ?_⟩
      rw [h3, if_neg (by omega)]
    · have h4 : (topP l).kind = 4 := by omega
      rw [h4] at a1
      have : opc 4 (topP l).length = 2 + (topP l).length := rfl
      rw [this] at a1
      refine ⟨by omega, ?_⟩
      rw [h4]
      split
      · rfl
      · have hf := hc.first 3 l.length (by decide) (by omega) (by omega) f3
        rw [e] at hf
        simp only [Pr.lt, c3.1, c3.2, o3] at hf
        have : (bestP (l.drop (topP l).length.toNat)).ops = 0 := by
          refine (best_nil ?_).2
          rw [List.drop_eq_nil_iff]; omega
        omega
  rw [opt_one ok hne hopt.1, hopt.2]
  have hhd : l.headD ⟨false, 0, 0⟩ = ⟨false, 0, b⟩ := by rw [List.headD_eq_head?_getD, List.head?_eq_getElem?, h0]; rfl
  split
  · rename_i h1
    subst h1
    rw [← hl]; rfl
  · unfold opS
    rw [hhd, hlen]; rfl
def rowS (f c : Int) (k : Nat) : List Sym := (List.range k).map fun (j : Nat) => (⟨true, f + j, c⟩ : Sym)
theorem rowS_len (f c : Int) (k : Nat) : (rowS f c k).length = k := by simp [rowS]
theorem rowS_get {f c : Int} {k j : Nat} (h : j < k) : (rowS f c k)[j]? = some ⟨true, f + j, c⟩ := by unfold rowS; rw [List.getElem?_map, List.getElem?_range h]; rfl
theorem rowS_snoc (f c : Int) (k : Nat) : rowS f c (k + 1) = rowS f c k ++ [⟨true, f + k, c⟩] := by unfold rowS; rw [List.range_succ, List.map_append]; rfl
theorem rowS_ok {f c : Int} {k : Nat} (h : 0 ≤ f) : okL (f + k) (rowS f c k) := fun s hs => by
  obtain ⟨j, hj, rfl⟩ := List.mem_map.1 hs
  have := List.mem_range.1 hj
  simp [strange]; omega
theorem runs_order (f : Int) (k : Nat) (hf : 0 ≤ f) (hk : 1 ≤ k) : optL (rowS f 0 k) = [⟨1, f, k, 0, []⟩] := by
  have hlen := rowS_len f 0 k
  have hget : ∀ j, j < k → (rowS f 0 k)[j]? = some ⟨true, f + j, 0⟩ := fun j hj => rowS_get hj
  have ok := rowS_ok (c := 0) (k := k) hf
  generalize rowS f 0 k = l at *
  have hne : l ≠ [] := by intro e; rw [e] at hlen; simp at hlen; omega
  have hc := ok.gd.core hne
  have h0 := hget 0 (by omega)
  have k3 := core_kind hc (fits_none (k := 3) h0 rfl)
  have k4 := core_kind hc (fits_none (k := 4) h0 rfl)
  have f1 : l.length ≤ fitsN 1 l := fits_head h0 fun j hj => ⟨_, hget j (by omega), by simp [relK]⟩
  have l1 := hc.low 1 l.length (by decide) (by decide) (by omega) f1
  obtain ⟨a1, a2⟩ := best_att ok.gd hne
  have hq := core_len hc
  have n0 := hc.n0
  have e : (topP l).best = bestP l := rfl
  rw [e] at l1
  have c1 := cand_all (k := 1) (l := l)
  have hk0 := hc.k0
  have hk1 := hc.k1
  simp only [Pr.le, c1.1, c1.2] at l1
  have hrest : (bestP (l.drop (topP l).length.toNat)).cost = 0 ∧ (topP l).length = l.length ∨ 3 ≤ (bestP (l.drop (topP l).length.toNat)).cost := by
    by_cases hd : l.drop (topP l).length.toNat = []
    · exact .inl ⟨(best_nil hd).1, by rw [List.drop_eq_nil_iff] at hd; omega⟩
    · exact .inr (best_three (ok.gd.drop _) hd)
  have o1 : opc 1 (l.length : Int) = 4 := rfl
  rw [o1] at l1
  have hopt : (topP l).length = l.length ∧ (topP l).kind = 1 := by
    by_cases h1 : (topP l).kind = 1
    · rw [h1] at a1
      have : opc 1 (topP l).length = 4 := rfl
      rw [this] at a1
      exact ⟨by omega, h1⟩
    · have h2 : (topP l).kind = 2 := by omega
      rw [h2] at a1
      have : opc 2 (topP l).length = 4 + (topP l).length := rfl
      rw [this] at a1
      omega
  rw [opt_one ok hne hopt.1, hopt.2]
  have hhd : l.headD ⟨false, 0, 0⟩ = ⟨true, f + (0 : Nat), 0⟩ := by rw [List.headD_eq_head?_getD, List.head?_eq_getElem?, h0]; rfl
  unfold opS
  rw [hhd, hlen]; simp
theorem seg_diff {l : List Sym} {c : Int} (h : Seg l c) : (∀ s ∈ l, s.old = true ∧ s.b ≠ 0) → l ≠ [] → 4 + (l.length : Int) ≤ c := by
  induction h with
  | nil => intro _ h; exact absurd rfl h
  | @cons k l n c h0 h1 h2 h3 h4 ih =>
    intro hs _
    have hle := fitsN_le k l
    obtain ⟨s, r, rfl⟩ : ∃ s r, l = s :: r := by
      cases l with
      | nil => simp at hle; omega
      | cons s r => exact ⟨s, r, rfl⟩
    have h5 := hs s (by simp)
    have hk : k = 2 := by
      by_cases e : startK k s = true
      · unfold startK at e
        simp only [h5.1] at e
        by_cases k1 : k = 1
        · simp [k1, h5.2] at e
        · by_cases k2 : k = 2
          · exact k2
          · simp [k1, k2] at e
      · rw [fitsN_start (by simpa using e)] at h3; omega
    subst hk
    have hn := seg_nonneg h4
    have ho : opc 2 (n : Int) = 4 + n := rfl
    rw [ho]
    by_cases hd : (s :: r).drop n = []
    · rw [List.drop_eq_nil_iff] at hd; omega
    · have := ih (fun t ht => hs t (List.mem_of_mem_drop ht)) hd
      rw [List.length_drop] at this; omega
theorem runs_more (f c : Int) (k : Nat) (hf : 0 ≤ f) (hc0 : c ≠ 0) (hk : 1 ≤ k) : optL (rowS f c k) = [⟨2, f, k, 0, List.replicate k c⟩] := by
  have hlen := rowS_len f c k
  have hget : ∀ j, j < k → (rowS f c k)[j]? = some ⟨true, f + j, c⟩ := fun j hj => rowS_get hj
  have ok := rowS_ok (c := c) (k := k) hf
  have hall : ∀ s ∈ rowS f c k, s.old = true ∧ s.b ≠ 0 := fun s hs => by
    obtain ⟨j, _, rfl⟩ := List.mem_map.1 hs
    exact ⟨rfl, hc0⟩
  have hmap : (rowS f c k).map (·.b) = List.replicate k c := by
    unfold rowS
    rw [List.map_map]
    exact List.ext_getElem? fun i => by
      by_cases hi : i < k
      · rw [List.getElem?_map, List.getElem?_range hi, List.getElem?_replicate, if_pos hi]; rfl
      · rw [List.getElem?_eq_none (by simp; omega), List.getElem?_eq_none (by simp; omega)]
  generalize rowS f c k = l at *
  have hne : l ≠ [] := by intro e; rw [e] at hlen; simp at hlen; omega
  have hc := ok.gd.core hne
  have h0 := hget 0 (by omega)
  have k3 := core_kind hc (fits_none (k := 3) h0 rfl)
  have k4 := core_kind hc (fits_none (k := 4) h0 rfl)
  have k1 := core_kind hc (fits_none (k := 1) h0 (by simp [startK, hc0]))
  have f2 : l.length ≤ fitsN 2 l := fits_head h0 fun j hj => ⟨_, hget j (by omega), by simp [relK]⟩
  have l2 := hc.low 2 l.length (by decide) (by decide) (by omega) f2
  obtain ⟨a1, a2⟩ := best_att ok.gd hne
  have hq := core_len hc
  have n0 := hc.n0
  have e : (topP l).best = bestP l := rfl
  rw [e] at l2
  have c2 := cand_all (k := 2) (l := l)
  have hk0 := hc.k0
  have hk1 := hc.k1
  simp only [Pr.le, c2.1, c2.2] at l2
  have o2 : opc 2 (l.length : Int) = 4 + l.length := rfl
  rw [o2] at l2
  have hkind : (topP l).kind = 2 := by omega
  rw [hkind] at a1
  have o2' : opc 2 (topP l).length = 4 + (topP l).length := rfl
  rw [o2'] at a1
  have hopt : (topP l).length = l.length := by
    by_cases hd : l.drop (topP l).length.toNat = []
    · rw [List.drop_eq_nil_iff] at hd; omega
    · have := seg_diff (seg_best _ (ok.gd.drop (topP l).length.toNat)) (fun s hs => hall s (List.mem_of_mem_drop hs)) hd
      rw [List.length_drop] at this
      omega
  rw [opt_one ok hne hopt, hkind]
  have hhd : l.headD ⟨false, 0, 0⟩ = ⟨true, f + (0 : Nat), c⟩ := by rw [List.headD_eq_head?_getD, List.head?_eq_getElem?, h0]; rfl
  unfold opS
  rw [hhd, hlen, hmap]; simp
end Go.Inl
