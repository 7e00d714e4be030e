/- inlayref08.Least, patch.kind: what they compute. Conditions: symbols are right. -/
import Derived.Test.YtaklmbhfmpdinaaFits
import Derived.Test.YtaklmbhfmpdinaaKCut
namespace Go.Proofs.Ytaklmbhfmpdinaa
open Go Go.RowKit Go.Inl
set_option linter.unusedSimpArgs false
set_option linter.unusedVariables false
/-- The least cost among the candidates that were looked at. -/
def LV (li : List Sym) (c : Int) (k : Int) (n : Nat) : Prop :=
  (c = -1 ∧ ∀ k' (m : Nat), 1 ≤ k' → k' ≤ 4 → 1 ≤ m → m ≤ fitsN k' li → ¬ (k' < k ∨ (k' = k ∧ m < n))) ∨
  (0 ≤ c ∧ (∃ k' m, 1 ≤ k' ∧ k' ≤ 4 ∧ 1 ≤ m ∧ m ≤ fitsN k' li ∧ c = (cand k' li m).cost) ∧ ∀ k' (m : Nat), 1 ≤ k' → k' ≤ 4 → 1 ≤ m → m ≤ fitsN k' li → (k' < k ∨ (k' = k ∧ m < n)) → c ≤ (cand k' li m).cost)
theorem LV.start (li : List Sym) : LV li (-1) 1 1 := .inl ⟨rfl, fun k' m h1 h2 h3 h4 h => by omega⟩
theorem LV.next {li : List Sym} {c k : Int} {n : Nat} (h : LV li c k n) (hn : fitsN k li < n) : LV li c (k + 1) 1 := by
  have key : ∀ k' (m : Nat), 1 ≤ m → m ≤ fitsN k' li → (k' < k + 1 ∨ (k' = k + 1 ∧ m < 1)) → (k' < k ∨ (k' = k ∧ m < n)) := by
    intro k' m h1 h2 h3
    by_cases e : k' = k
    · subst e; exact .inr ⟨rfl, by omega⟩
    · exact .inl (by omega)
  rcases h with ⟨h1, h2⟩ | ⟨h1, h2, h3⟩
  · exact .inl ⟨h1, fun k' m a b c d e => h2 k' m a b c d (key k' m c d e)⟩
  · exact .inr ⟨h1, h2, fun k' m a b c d e => h3 k' m a b c d (key k' m c d e)⟩
theorem LV.step {li : List Sym} {c k : Int} {n : Nat} (h : LV li c k n) (h0 : 1 ≤ k) (h1 : k ≤ 4) (hn : 1 ≤ n) (hf : n ≤ fitsN k li) (hc : 0 ≤ (cand k li n).cost) :
    LV li (if c < 0 ∨ (cand k li n).cost < c then (cand k li n).cost else c) k (n + 1) := by
  have key : ∀ k' (m : Nat), (k' < k ∨ (k' = k ∧ m < n + 1)) → (k' = k ∧ m = n) ∨ (k' < k ∨ (k' = k ∧ m < n)) := by
    intro k' m h
    rcases h with h | ⟨h, h'⟩
    · exact .inr (.inl h)
    · by_cases e : m = n
      · exact .inl ⟨h, e⟩
      · exact .inr (.inr ⟨h, by omega⟩)
  rcases h with ⟨h2, h3⟩ | ⟨h2, h3, h4⟩
  · rw [if_pos (.inl (by omega))]
    refine .inr ⟨hc, ⟨k, n, h0, h1, hn, hf, rfl⟩, fun k' m a b c' d e => ?_⟩
    rcases key k' m e with ⟨rfl, rfl⟩ | e
    · exact Int.le_refl _
    · exact absurd e (h3 k' m a b c' d)
  · split
    · rename_i hlt
      refine .inr ⟨hc, ⟨k, n, h0, h1, hn, hf, rfl⟩, fun k' m a b c' d e => ?_⟩
      rcases key k' m e with ⟨rfl, rfl⟩ | e
      · exact Int.le_refl _
      · have := h4 k' m a b c' d e; omega
    · rename_i hlt
      refine .inr ⟨h2, h3, fun k' m a b c' d e => ?_⟩
      rcases key k' m e with ⟨rfl, rfl⟩ | e
      · omega
      · exact h4 k' m a b c' d e
theorem LV.done {li : List Sym} {c : Int} {n : Nat} (h : LV li c 5 n) (hg : Gd li) (hl : li ≠ []) : c = (bestP li).cost := by
  have hc := hg.core hl
  have k0 := hc.k0; have k1 := hc.k1; have n0 := hc.n0; have n1 := hc.n1
  have hb : (topP li).best = bestP li := rfl
  rcases h with ⟨h2, h3⟩ | ⟨h2, ⟨k', m, a, b, d, e, g⟩, h4⟩
  · exact absurd (.inl (by omega)) (h3 (topP li).kind (topP li).length.toNat k0 k1 (by omega) (by omega))
  · have h5 := h4 (topP li).kind (topP li).length.toNat k0 k1 (by omega) (by omega) (.inl (by omega))
    rw [← hc.att, hb] at h5
    have h6 := hc.low k' m a b d e
    rw [hb] at h6
    simp only [Pr.le] at h6
    omega
def kindP (s : Sym) : Int := if s.old = false then 4 else if s.b ≠ 0 then 2 else 1

theorem kindP_c (s : Sym) (w0 : World) (I0 : Imm) (hI : Sat I0 w0) : Ctr Try.prog 41 [symV s] w0 (fun v w' => v = .int .i64 (kindP s) ∧ Ext w0 I0 w' I0) := by
  refine fn (n := 11) Try.func41 rfl rfl rfl ?_
  have hS := St.start hI
  refine wpIn_seq ?_
  refine reg ?_
  refine qe (d_box (cs := [.bool _, .int .i64 _, .int .u8 _]) hS rfl) ?_
  clear hS
  rintro _ w_1 ⟨b1, rfl, hS⟩
  refine qq hS (g_assignv (v := .int .i64 _) rfl) ?_
  refine ol_nil (thenN ?_)
  refine wpIn_seq ?_
  refine wpIn_block ?_
  refine wpIn_seq ?_
  refine reg ?_
  refine qq hS (g_fieldAddr (o' := 0) Try.underlying64 rfl Try.sizeOf4 rfl rfl rfl) ?_
  refine qq hS (g_ldO1 0 Try.isAgg4 rfl rfl rfl) ?_
  refine qq hS (g_not rfl) ?_
  refine qq hS (g_assignv (v := .bool _) rfl) ?_
  refine ol_nil (thenN ?_)
  refine cond_s rfl ?_ ?_
  ·
    intro hc3
    simp only [Bool.not_eq_true', Bool.not_eq_false'] at hc3
    have e : kindP s = 4 := by unfold kindP; rw [if_pos hc3]
    refine wpIn_seq ?_
    refine reg ?_
    refine qq hS (g_assignv (v := .int .i64 _) rfl) ?_
    refine ol_nil (thenN ?_)
    refine wpIn_ret ?_
    refine blkR (thenR ?_)
    refine ret1 Try.results41 (rv_tmp (v := .int .i64 _) rfl) ?_
    rw [e]; exact ⟨rfl, hS.nil⟩
  ·
    intro hc3
    simp only [Bool.not_eq_true', Bool.not_eq_false'] at hc3
    refine wpIn_seq ?_
    refine reg ?_
    refine qq hS (g_fieldAddr (o' := 2) Try.underlying64 rfl Try.sizeOf5 rfl rfl rfl) ?_
    refine qq hS (g_ldO1 0 Try.isAgg5 rfl rfl rfl) ?_
    refine qq hS (g_neq rfl rfl) ?_
    refine qq hS (g_assignv (v := .bool _) rfl) ?_
    refine ol_nil (thenN ?_)
    refine cond_s rfl ?_ ?_
    ·
      intro hc7
      simp only [Bool.not_eq_true', Bool.not_eq_false', decide_eq_true_eq, decide_eq_false_iff_not] at hc7
      have e : kindP s = 2 := by unfold kindP; rw [if_neg (by rw [hc3]; decide), if_pos hc7]
      refine wpIn_seq ?_
      refine reg ?_
      refine qq hS (g_assignv (v := .int .i64 _) rfl) ?_
      refine ol_nil (thenN ?_)
      refine wpIn_ret ?_
      refine blkR (thenR ?_)
      refine ret1 Try.results41 (rv_tmp (v := .int .i64 _) rfl) ?_
      rw [e]; exact ⟨rfl, hS.nil⟩
    ·
      intro hc7
      simp only [Bool.not_eq_true', Bool.not_eq_false', decide_eq_true_eq, decide_eq_false_iff_not] at hc7
      have e : kindP s = 1 := by unfold kindP; rw [if_neg (by rw [hc3]; decide), if_neg (by simpa using hc7)]
      refine wpIn_skip ?_
      refine blkN (thenN ?_)
      refine wpIn_seq ?_
      refine reg ?_
      refine qq hS (g_assignv (v := .int .i64 _) rfl) ?_
      refine ol_nil (thenN ?_)
      refine wpIn_ret ?_
      refine ret1 Try.results41 (rv_tmp (v := .int .i64 _) rfl) ?_
      rw [e]; exact ⟨rfl, hS.nil⟩


end Go.Proofs.Ytaklmbhfmpdinaa

