/- inlayref08.Least, patch.kind: what they compute. Conditions: symbols are right. -/
import Derived.Test.YthningkgpanaoaaFits
import Derived.Test.YthningkgpanaoaaCutB
namespace Go.Proofs.Ythningkgpanaoaa
open Go Go.RowKit Go.Inl
set_option linter.unusedSimpArgs false
set_option linter.unusedVariables false
/-- The least cost among the candidates that were looked at. -/
def LV (li : List Sym) (c : Int) (k : Int) (n : Nat) : Prop :=
  (c = -1 ∧ ∀ k' (m : Nat), 1 ≤ k' → k' ≤ 4 → 1 ≤ m → m ≤ fitsN k' li → ¬ (k' < k ∨ (k' = k ∧ m < n))) ∨
  (0 ≤ c ∧ (∃ k' m, 1 ≤ k' ∧ k' ≤ 4 ∧ 1 ≤ m ∧ m ≤ fitsN k' li ∧ c = (cand k' li m).cost) ∧ ∀ k' (m : Nat), 1 ≤ k' → k' ≤ 4 → 1 ≤ m → m ≤ fitsN k' li → (k' < k ∨ (k' = k ∧ m < n)) → c ≤ (cand k' li m).cost)
theorem LV.start (li : List Sym) : LV li (-1) 1 1 := .inl ⟨rfl, fun k' m h1 h2 h3 h4 h => by omega⟩
theorem LV.next {li : List Sym} {c k : Int} {n : Nat} (h : LV li c k n) (hn : fitsN k li < n) : LV li c (k + 1) 1 := by
  have key : ∀ k' (m : Nat), 1 ≤ m → m ≤ fitsN k' li → (k' < k + 1 ∨ (k' = k + 1 ∧ m < 1)) → (k' < k ∨ (k' = k ∧ m < n)) := by
    intro k' m h1 h2 h3
    by_cases e : k' = k
    · subst e; exact .inr ⟨rfl, by omega⟩
    · exact .inl (by omega)
  rcases h with ⟨h1, h2⟩ | ⟨h1, h2, h3⟩
  · exact .inl ⟨h1, fun k' m a b c d e => h2 k' m a b c d (key k' m c d e)⟩
  · exact .inr ⟨h1, h2, fun k' m a b c d e => h3 k' m a b c d (key k' m c d e)⟩
theorem LV.step {li : List Sym} {c k : Int} {n : Nat} (h : LV li c k n) (h0 : 1 ≤ k) (h1 : k ≤ 4) (hn : 1 ≤ n) (hf : n ≤ fitsN k li) (hc : 0 ≤ (cand k li n).cost) :
    LV li (if c < 0 ∨ (cand k li n).cost < c then (cand k li n).cost else c) k (n + 1) := by
  have key : ∀ k' (m : Nat), (k' < k ∨ (k' = k ∧ m < n + 1)) → (k' = k ∧ m = n) ∨ (k' < k ∨ (k' = k ∧ m < n)) := by
    intro k' m h
    rcases h with h | ⟨h, h'⟩
    · exact .inr (.inl h)
    · by_cases e : m = n
      · exact .inl ⟨h, e⟩
      · exact .inr (.inr ⟨h, by omega⟩)
  rcases h with ⟨h2, h3⟩ | ⟨h2, h3, h4⟩
  · rw [if_pos (.inl (by omega))]
    refine .inr ⟨hc, ⟨k, n, h0, h1, hn, hf, rfl⟩, fun k' m a b c' d e => ?_⟩
    rcases key k' m e with ⟨rfl, rfl⟩ | e
    · exact Int.le_refl _
    · exact absurd e (h3 k' m a b c' d)
  · split
    · rename_i hlt
      refine .inr ⟨hc, ⟨k, n, h0, h1, hn, hf, rfl⟩, fun k' m a b c' d e => ?_⟩
      rcases key k' m e with ⟨rfl, rfl⟩ | e
      · exact Int.le_refl _
      · have := h4 k' m a b c' d e; omega
    · rename_i hlt
      refine .inr ⟨h2, h3, fun k' m a b c' d e => ?_⟩
      rcases key k' m e with ⟨rfl, rfl⟩ | e
      · omega
      · exact h4 k' m a b c' d e
theorem LV.done {li : List Sym} {c : Int} {n : Nat} (h : LV li c 5 n) (hg : Gd li) (hl : li ≠ []) : c = (bestP li).cost := by
  have hc := hg.core hl
  have k0 := hc.k0; have k1 := hc.k1; have n0 := hc.n0; have n1 := hc.n1
  have hb : (topP li).best = bestP li := rfl
  rcases h with ⟨h2, h3⟩ | ⟨h2, ⟨k', m, a, b, d, e, g⟩, h4⟩
  · exact absurd (.inl (by omega)) (h3 (topP li).kind (topP li).length.toNat k0 k1 (by omega) (by omega))
  · have h5 := h4 (topP li).kind (topP li).length.toNat k0 k1 (by omega) (by omega) (.inl (by omega))
    rw [← hc.att, hb] at h5
    have h6 := hc.low k' m a b d e
    rw [hb] at h6
    simp only [Pr.le] at h6
    omega
def kindP (s : Sym) : Int := if s.old = false then 4 else if s.b ≠ 0 then 2 else 1

set_option maxHeartbeats 1000000 in
theorem least_step (N : Nat) (ih : ∀ (vl : Value) (l : List Sym) (w : World) (I : Imm), l.length < N → Sat I w → RSyms I vl l → (∀ s ∈ l, s.wf) → Gd l → l.length ≤ 65536 → Ctr Try.prog 30 [vl] w (fun v w' => v = .int .i64 (bestP l).cost ∧ Ext w I w' I))
    (ad : Option Addr) (cap : Nat) (l : List Sym) (w0 : World) (I0 : Imm) (hI : Sat I0 w0) (hN : l.length = N) (hl : RSyms I0 (.slice ad l.length cap) l) (hw : ∀ s ∈ l, s.wf) (hg : Gd l) (hn : l.length ≤ 65536) :
    Ctr Try.prog 30 [.slice ad l.length cap] w0 (fun v w' => v = .int .i64 (bestP l).cost ∧ Ext w0 I0 w' I0) := by
  refine fn (n := 38) Try.func30 rfl rfl rfl ?_
  have hS := St.start hI
  refine wp_seq ?_
  refine reg ?_
  refine qq hS (g_assignv (v := .int .i64 _) rfl) ?_
  refine ol_nil (thenN ?_)
  refine wp_seq ?_
  refine wp_seq ?_
  refine reg ?_
  refine qq hS (g_move _) ?_
  refine qq hS (g_lenI rfl Try.underlying37 hl rfl) ?_
  refine qq hS (g_eql rfl rfl) ?_
  refine ol_nil (thenN ?_)
  refine cond_s rfl ?_ ?_
  ·
    intro hc9
    try simp only [Bool.and_eq_true, Bool.or_eq_true, Bool.not_eq_true', Bool.and_eq_false_imp, Bool.or_eq_false_iff, Bool.not_eq_false', decide_eq_true_eq, decide_eq_false_iff_not] at hc9
    have e : (bestP l).cost = 0 := (best_nil (List.length_eq_zero_iff.1 (by omega))).1
    refine wp_seq ?_
    refine reg ?_
    refine qq hS (g_assignv (v := .int .i64 _) rfl) ?_
    refine ol_nil (thenN ?_)
    refine wp_ret ?_
    refine thenR ?_
    refine ret1 Try.results30 (rv_tmp (v := .int .i64 _) rfl) ?_
    rw [e]; exact ⟨rfl, hS.nil⟩
  ·
    intro hc9
    try simp only [Bool.and_eq_true, Bool.or_eq_true, Bool.not_eq_true', Bool.and_eq_false_imp, Bool.or_eq_false_iff, Bool.not_eq_false', decide_eq_true_eq, decide_eq_false_iff_not] at hc9
    have hne : l ≠ [] := by intro h; rw [h] at hc9; simp at hc9
    refine wp_skip ?_
    refine thenN ?_
    refine wp_seq ?_
    refine reg ?_
    refine qq hS (g_assignv (v := .int .i64 _) rfl) ?_
    refine ol_nil (thenN ?_)
    refine wp_seq ?_
    refine wp_seq ?_
    refine reg ?_
    refine qq hS (g_assignv (v := .int .i64 _) rfl) ?_
    refine ol_nil (thenN ?_)
    refine wp_block ?_
    refine loop (fun (x : Int × Int) σ w => okS σ [(0, .slice ad l.length cap), (3, .int .i64 x.2), (4, .int .i64 x.1)] ∧ St [] w0 I0 I0 w [] ∧ 1 ≤ x.1 ∧ x.1 ≤ 5 ∧ LV l x.2 x.1 1) (fun x => (5 - x.1).toNat) ((1, -1)) ?_ ?_
    ·
      exact ⟨⟨rfl, rfl, rfl, trivial⟩, hS.sel [], by decide, by decide, LV.start _⟩
    ·
      rintro ⟨k, c⟩ σ w_l ⟨hs, hS, hk1, hk5, hlv⟩
      dsimp only at hs hS hk1 hk5 hlv ⊢
      rw [← upds_self hs]; clear hs
      refine wp_seq ?_
      refine wp_seq ?_
      refine reg ?_
      refine qq hS (g_movev (v := .int .i64 _) rfl) ?_
      refine qq hS (g_leq rfl rfl) ?_
      refine ol_nil (thenN ?_)
      refine cond_s rfl ?_ ?_
      ·
        intro hc11
        try simp only [Bool.and_eq_true, Bool.or_eq_true, Bool.not_eq_true', Bool.and_eq_false_imp, Bool.or_eq_false_iff, Bool.not_eq_false', decide_eq_true_eq, decide_eq_false_iff_not] at hc11
        refine wp_skip ?_
        refine thenN ?_
        refine wp_seq ?_
        refine wp_block ?_
        refine wp_seq ?_
        refine reg ?_
        refine qq hS (g_assignv (v := .int .i64 _) rfl) ?_
        refine ol_nil (thenN ?_)
        refine wp_block ?_
        refine loop (fun (x : Nat × Int) σ w => okS σ [(0, .slice ad l.length cap), (3, .int .i64 x.2), (4, .int .i64 k), (5, .int .i64 x.1)] ∧ St [] w0 I0 I0 w [] ∧ 1 ≤ x.1 ∧ x.1 ≤ l.length + 1 ∧ LV l x.2 k x.1) (fun x => l.length + 1 - x.1) ((1, c)) ?_ ?_
        ·
          exact ⟨⟨rfl, rfl, rfl, rfl, trivial⟩, hS.sel [], by dsimp only; omega, by dsimp only; omega, hlv⟩
        ·
          rintro ⟨n, c⟩ σ w_l ⟨hs, hS, hn1, hn2, hlv⟩
          dsimp only at hs hS hn1 hn2 hlv ⊢
          rw [← upds_self hs]; clear hs
          refine wp_seq ?_
          refine wp_seq ?_
          refine reg ?_
          refine qq hS (g_movev (v := .int .i64 _) rfl) ?_
          refine qq hS (g_movev (v := .int .i64 _) rfl) ?_
          refine qq hS (g_move _) ?_
          refine qe (d_call Try.call56 rfl (fits_c k _ l _ I0 hS.imm hl (by omega) hn hw)) ?_
          rintro _ w_1 ⟨rfl, hE⟩
          replace hS := hS.callE hE
          refine qq hS (g_leq rfl rfl) ?_
          refine ol_nil (thenN ?_)
          refine cond_s rfl ?_ ?_
          ·
            intro hc18
            try simp only [Bool.and_eq_true, Bool.or_eq_true, Bool.not_eq_true', Bool.and_eq_false_imp, Bool.or_eq_false_iff, Bool.not_eq_false', decide_eq_true_eq, decide_eq_false_iff_not] at hc18
            have hfl := fitsN_le k l
            have hbc := best_bd (l.drop n)
            rw [List.length_drop] at hbc
            have ho1 := opc_pos (k := k) (n := (n : Int)) (by omega)
            have ho2 : opc k (n : Int) ≤ 4 + n := by
              unfold opc
              repeat' split
              all_goals omega
            have hcd : (cand k l n).cost = opc k n + (bestP (l.drop n)).cost := by unfold cand; simp only [Pr.plus]; omega
            have hst := hlv.step (by omega) (by omega) hn1 (by omega) (by omega)
            rw [hcd] at hst
            refine wp_skip ?_
            refine thenN ?_
            refine wp_seq ?_
            refine wp_block ?_
            refine wp_seq ?_
            refine draw (.cons 0 .pure (.cons 1 .pure (.cons 3 .pure (.cons 4 .pure (.cons 5 .pure (.cons 2 .eff (.cons 6 .eff (.cons 7 .pure (.cons 8 .pure .nil))))))))) mixed (by kernel_rfl) hS ?_
            intro w_2 hS
            refine sp rfl (g_movev (v := .int .i64 _) rfl) ?_
            refine sp rfl (g_movev (v := .int .i64 _) rfl) ?_
            refine sp rfl (g_move _) ?_
            refine sp rfl (g_movev (v := .int .i64 _) rfl) ?_
            refine sp rfl (g_sliceLN (l0 := n) Try.underlying37 Try.sizeOf54 rfl rfl (by omega) (by omega) rfl) ?_
            have hS0 := hS
            refine se rfl (d_call Try.call57 rfl (refPrice_c k n _ I0 hS.imm (by omega) (by omega))) ?_
            rintro _ w_3 ⟨rfl, hE⟩
            replace hS := hS.call hE
            refine ⟨_, _, hS0.le hE.ext (List.Sublist.refl _), hS, ?_⟩
            have hS0 := hS
            refine se rfl (d_call Try.call30 rfl (ih _ (l.drop n) _ I0 (by rw [List.length_drop]; omega) hS.imm (hl.slL n (by omega)) (fun s hs => hw s (List.mem_of_mem_drop hs)) (hg.drop n) (by rw [List.length_drop]; omega))) ?_
            rintro _ w_4 ⟨rfl, hE⟩
            replace hS := hS.call hE
            refine ⟨_, _, hS0.le hE.ext (List.Sublist.refl _), hS, ?_⟩
            refine sp rfl (g_add rfl rfl (by omega) (by omega)) ?_
            refine sp rfl (g_assignv (v := .int .i64 _) rfl) ?_
            refine sn (thenN ?_)
            refine wp_seq ?_
            refine reg ?_
            refine qq hS (g_movev (v := .int .i64 _) rfl) ?_
            refine qq hS (g_lss rfl rfl) ?_
            refine qq hS (g_movev (v := .bool _) rfl) ?_
            refine qu rfl rfl hS (fun hg => (g_movev (v := .int .i64 _) rfl)) ?_
            intro u32 hu32 hn32
            refine qu rfl rfl hS (fun hg => (g_movev (v := .int .i64 _) rfl)) ?_
            intro u33 hu33 hn33
            refine qu rfl rfl hS (fun hg => (g_lss (hu32 hg) (hu33 hg))) ?_
            intro u34 hu34 hn34
            refine qq hS (g_or rfl rfl (fun hq => hu34 hq)) ?_
            refine ol_nil (thenN ?_)
            refine cond_s rfl ?_ ?_
            ·
              intro hc35
              clear hu32 hn32 hu33 hn33 hu34 hn34
              try simp only [Bool.and_eq_true, Bool.or_eq_true, Bool.not_eq_true', Bool.and_eq_false_imp, Bool.or_eq_false_iff, Bool.not_eq_false', decide_eq_true_eq, decide_eq_false_iff_not] at hc35
              rw [if_pos hc35] at hst
              refine reg ?_
              refine qq hS (g_movev (v := .int .i64 _) rfl) ?_
              refine qq hS (g_assignv (v := .int .i64 _) rfl) ?_
              refine ol_nil (blkN (thenN ?_))
              refine reg ?_
              refine qq hS (g_movev (v := .int .i64 _) rfl) ?_
              refine qq hS (g_add rfl rfl (by omega) (by omega)) ?_
              refine qq hS (g_assignv (v := .int .i64 _) rfl) ?_
              refine ol_nil (thenN ?_)
              first
                | exact ⟨(n + 1, opc k n + (bestP (l.drop n)).cost), _, rfl, ⟨⟨rfl, rfl, rfl, rfl, trivial⟩, hS.sel [], by dsimp only; omega, by dsimp only; omega, hst⟩, by dsimp only; omega⟩
                | exact ⟨(n + 1, c), _, rfl, ⟨⟨rfl, rfl, rfl, rfl, trivial⟩, hS.sel [], by dsimp only; omega, by dsimp only; omega, hst⟩, by dsimp only; omega⟩
            ·
              intro hc35
              clear hu32 hn32 hu33 hn33 hu34 hn34
              try simp only [Bool.and_eq_true, Bool.or_eq_true, Bool.not_eq_true', Bool.and_eq_false_imp, Bool.or_eq_false_iff, Bool.not_eq_false', decide_eq_true_eq, decide_eq_false_iff_not] at hc35
              rw [if_neg (by omega)] at hst
              refine wp_skip ?_
              refine blkN (thenN ?_)
              refine reg ?_
              refine qq hS (g_movev (v := .int .i64 _) rfl) ?_
              refine qq hS (g_add rfl rfl (by omega) (by omega)) ?_
              refine qq hS (g_assignv (v := .int .i64 _) rfl) ?_
              refine ol_nil (thenN ?_)
              first
                | exact ⟨(n + 1, opc k n + (bestP (l.drop n)).cost), _, rfl, ⟨⟨rfl, rfl, rfl, rfl, trivial⟩, hS.sel [], by dsimp only; omega, by dsimp only; omega, hst⟩, by dsimp only; omega⟩
                | exact ⟨(n + 1, c), _, rfl, ⟨⟨rfl, rfl, rfl, rfl, trivial⟩, hS.sel [], by dsimp only; omega, by dsimp only; omega, hst⟩, by dsimp only; omega⟩
          ·
            intro hc18
            try simp only [Bool.and_eq_true, Bool.or_eq_true, Bool.not_eq_true', Bool.and_eq_false_imp, Bool.or_eq_false_iff, Bool.not_eq_false', decide_eq_true_eq, decide_eq_false_iff_not] at hc18
            refine wp_exit ?_
            refine thenE (thenE (blkE ?_))
            refine blkN (thenN ?_)
            refine reg ?_
            refine qq hS (g_movev (v := .int .i64 _) rfl) ?_
            refine qq hS (g_add rfl rfl (by omega) (by omega)) ?_
            refine qq hS (g_assignv (v := .int .i64 _) rfl) ?_
            refine ol_nil (thenN ?_)
            exact ⟨(k + 1, c), _, rfl, ⟨⟨rfl, rfl, rfl, trivial⟩, hS.sel [], by dsimp only; omega, by dsimp only; omega, hlv.next (by omega)⟩, by dsimp only; omega⟩
      ·
        intro hc11
        try simp only [Bool.and_eq_true, Bool.or_eq_true, Bool.not_eq_true', Bool.and_eq_false_imp, Bool.or_eq_false_iff, Bool.not_eq_false', decide_eq_true_eq, decide_eq_false_iff_not] at hc11
        obtain rfl : k = 5 := by omega
        have e : (bestP l).cost = c := (hlv.done hg hne).symm
        refine wp_exit ?_
        refine thenE (thenE (blkE ?_))
        refine thenN ?_
        refine wp_seq ?_
        refine reg ?_
        refine qq hS (g_movev (v := .int .i64 _) rfl) ?_
        refine qq hS (g_assignv (v := .int .i64 _) rfl) ?_
        refine ol_nil (thenN ?_)
        refine wp_ret ?_
        refine ret1 Try.results30 (rv_tmp (v := .int .i64 _) rfl) ?_
        rw [e]; exact ⟨rfl, hS.nil⟩

theorem least_all (N : Nat) : ∀ (vl : Value) (l : List Sym) (w : World) (I : Imm), l.length < N → Sat I w → RSyms I vl l → (∀ s ∈ l, s.wf) → Gd l → l.length ≤ 65536 → Ctr Try.prog 30 [vl] w (fun v w' => v = .int .i64 (bestP l).cost ∧ Ext w I w' I) := by
  induction N with
  | zero => intro vl l w I h; omega
  | succ N ih =>
    intro vl l w I h hI hl hw hg hn
    by_cases e : l.length = N
    · obtain ⟨ad, cap, rfl, _⟩ := hl.len
      exact least_step N ih ad cap l w I hI e hl hw hg hn
    · exact ih vl l w I (by omega) hI hl hw hg hn
theorem least_c (vl : Value) (l : List Sym) (w0 : World) (I0 : Imm) (hI : Sat I0 w0) (hl : RSyms I0 vl l) (hw : ∀ s ∈ l, s.wf) (hg : Gd l) (hn : l.length ≤ 65536) :
    Ctr Try.prog 30 [vl] w0 (fun v w' => v = .int .i64 (bestP l).cost ∧ Ext w0 I0 w' I0) := least_all (l.length + 1) vl l w0 I0 (by omega) hI hl hw hg hn

end Go.Proofs.Ythningkgpanaoaa

