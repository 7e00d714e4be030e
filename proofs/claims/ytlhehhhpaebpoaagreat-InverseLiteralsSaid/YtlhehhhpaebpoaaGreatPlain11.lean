/- Plain laws of merging: ranges, clashes, merged symbols. Conditions: none. -/
import Derived.Test.YtlhehhhpaebpoaaGreatMade11
import Derived.Test.YtlhehhhpaebpoaaGreatBase9
namespace Go.Proofs.YtlhehhhpaebpoaaGreat
open Go Go.RowKit Go.Inl
set_option linter.unusedSimpArgs false
set_option linter.unusedVariables false
/-! ### Ranges -/
structure RgOk (R : List (Int × Int)) (N : Int) : Prop where
  each : ∀ r ∈ R, 0 ≤ r.1 ∧ r.1 < r.2 ∧ r.2 ≤ N
  sep : ∀ (i : Nat) (r s : Int × Int), R[i]? = some r → R[i + 1]? = some s → r.2 < s.1
theorem rgOk_snoc {D : List (Int × Int)} {N : Int} {x : Int × Int} (h : RgOk D N) (h1 : 0 ≤ x.1 ∧ x.1 < x.2 ∧ x.2 ≤ N) (h2 : ∀ r, D.getLast? = some r → r.2 < x.1) : RgOk (D ++ [x]) N := by
  refine ⟨fun r hr => ?_, fun i r s hr hs => ?_⟩
  · rcases List.mem_append.1 hr with hr | hr
    · exact h.each r hr
    · simp only [List.mem_singleton] at hr; subst hr; exact h1
  · have hil : i + 1 < D.length + 1 := by have := (List.getElem?_eq_some_iff.1 hs).1; simpa using this
    rw [List.getElem?_append_left (by omega)] at hr
    by_cases hi : i + 1 < D.length
    · rw [List.getElem?_append_left hi] at hs
      exact h.sep i r s hr hs
    · rw [List.getElem?_append_right (by omega), show i + 1 - D.length = 0 by omega] at hs
      obtain rfl : x = s := by simpa using hs
      refine h2 r ?_
      rw [List.getLast?_eq_getElem?, show D.length - 1 = i by omega]; exact hr
theorem rgOk_mono {R : List (Int × Int)} {N M : Int} (h : RgOk R N) (hM : N ≤ M) : RgOk R M := ⟨fun r hr => by have := h.each r hr; omega, h.sep⟩
theorem rgOk_init {D : List (Int × Int)} {N : Int} {x : Int × Int} (h : RgOk (D ++ [x]) N) : RgOk D N := by
  refine ⟨fun r hr => h.each r (by simp [hr]), fun i r s hr hs => h.sep i r s ?_ ?_⟩
  · rw [List.getElem?_append_left (List.getElem?_eq_some_iff.1 hr).1]; exact hr
  · rw [List.getElem?_append_left (List.getElem?_eq_some_iff.1 hs).1]; exact hs
theorem rngs_ok (f : Nat → Bool) : ∀ N : Nat, RgOk (rngs N f) N
  | 0 => ⟨fun r hr => by simp [rngs_zero] at hr, fun i r s hr => by simp [rngs_zero] at hr⟩
  | N + 1 => by
    have ih := rngs_ok f N
    rw [rngs_succ]
    split
    · by_cases h : 0 < (rngs N f).length ∧ (lastR (rngs N f)).2 = N
      · obtain ⟨D, hD, _⟩ := lastR_split h.1
        generalize lastR (rngs N f) = r at hD h
        rw [hD] at ih ⊢
        rw [extR_same h.2]
        have hr := ih.each r (by simp)
        refine rgOk_snoc (rgOk_mono (rgOk_init ih) (by omega)) ⟨hr.1, by show r.1 < (N : Int) + 1; omega, by show (N : Int) + 1 ≤ _; omega⟩ ?_
        intro s hs
        have hl : D[D.length - 1]? = some s := by rw [← List.getLast?_eq_getElem?]; exact hs
        have hlt := (List.getElem?_eq_some_iff.1 hl).1
        refine ih.sep (D.length - 1) s r ?_ ?_
        · rw [List.getElem?_append_left (by omega)]; exact hl
        · rw [List.getElem?_append_right (by omega), show D.length - 1 + 1 - D.length = 0 by omega]; rfl
      · rw [extR_new h]
        refine rgOk_snoc (rgOk_mono ih (by omega)) ⟨by show (0 : Int) ≤ N; omega, by show (N : Int) < N + 1; omega, by show (N : Int) + 1 ≤ _; omega⟩ ?_
        intro s hs
        have h1 := (ih.each s (List.mem_of_getLast? hs)).2.2
        have h2 : 0 < (rngs N f).length := List.length_pos_iff.2 (fun e => by rw [e] at hs; simp at hs)
        have h3 := lastR_some h2
        rw [hs] at h3
        obtain rfl := Option.some.inj h3
        have : (lastR (rngs N f)).2 ≠ N := fun e => h ⟨h2, e⟩
        show _ < (N : Int)
        omega
    · exact rgOk_mono ih (by omega)
theorem inR_app (a b : List (Int × Int)) (i : Int) : inR (a ++ b) i = (inR a i || inR b i) := by simp [inR]
theorem inR_one (r : Int × Int) (i : Int) : inR [r] i = inS i r.1 (r.2 - 1) := by simp [inR]
theorem rngs_in (f : Nat → Bool) : ∀ (N i : Nat), i < N → inR (rngs N f) i = f i
  | 0, i, h => by omega
  | N + 1, i, h => by
    have ok := rngs_ok f N
    have hout : inR (rngs N f) N = false := by
      unfold inR
      rw [List.any_eq_false]
      intro r hr
      have := ok.each r hr
      simp [inS]; omega
    rw [rngs_succ]
    cases hf : f N with
    | false =>
      rw [if_neg (by simp)]
      by_cases hi : i = N
      · subst hi; rw [hout, hf]
      · exact rngs_in f N i (by omega)
    | true =>
      rw [if_pos rfl]
      by_cases h2 : 0 < (rngs N f).length ∧ (lastR (rngs N f)).2 = N
      · obtain ⟨D, hD, _⟩ := lastR_split h2.1
        have hr := ok.each (lastR (rngs N f)) (List.mem_of_getLast? (lastR_some h2.1))
        have ih := fun hi => rngs_in f N i hi
        generalize lastR (rngs N f) = r at hD h2 hr
        rw [hD] at ih hout ⊢
        rw [extR_same h2.2, inR_app, inR_one]
        by_cases hi : i = N
        · subst hi
          have : inS (i : Int) r.1 ((i : Int) + 1 - 1) = true := by simp [inS]; omega
          rw [hf]
          show (_ || inS (i : Int) r.1 ((i : Int) + 1 - 1)) = true
          rw [this, Bool.or_true]
        · rw [← ih (by omega), inR_app, inR_one]
          congr 1
          show inS (i : Int) r.1 ((N : Int) + 1 - 1) = inS (i : Int) r.1 (r.2 - 1)
          simp only [inS]
          congr 1
          rw [decide_eq_decide]; omega
      · rw [extR_new h2, inR_app, inR_one]
        by_cases hi : i = N
        · subst hi
          have : inS (i : Int) (i : Int) ((i : Int) + 1 - 1) = true := by simp [inS]
          rw [hf]
          show (_ || inS (i : Int) (i : Int) ((i : Int) + 1 - 1)) = true
          rw [this, Bool.or_true]
        · rw [rngs_in f N i (by omega)]
          have : inS (i : Int) (N : Int) ((N : Int) + 1 - 1) = false := by simp [inS]; omega
          show (f i || inS (i : Int) (N : Int) ((N : Int) + 1 - 1)) = _
          rw [this, Bool.or_false]
theorem rngs_right {f : Nat → Bool} {N : Nat} {n : Int} (h : (N : Int) ≤ n) : rightL (rngs N f) n = true := by
  have ok := rngs_ok f N
  refine all_yes fun i hi => ?_
  have hx : (rngs N f)[i]? = some ((rngs N f)[i]) := List.getElem?_eq_getElem hi
  have h1 := ok.each _ (List.mem_of_getElem? hx)
  unfold rightAt
  rw [getD_at hx]
  by_cases h0 : 0 < i
  · have hp : (rngs N f)[i - 1]? = some ((rngs N f)[i - 1]) := List.getElem?_eq_getElem (by omega)
    have h2 := ok.sep (i - 1) _ _ hp (by rw [show i - 1 + 1 = i by omega]; exact hx)
    rw [getD_at hp]
    simp [h0]; omega
  · simp [h0]; omega
theorem rngs_mid {f : Nat → Bool} {N : Nat} (h : N ≤ 65536) : ∀ r ∈ rngs N f, Mid r.1 ∧ Mid r.2 := by
  intro r hr
  have := (rngs_ok f N).each r hr
  unfold Mid; omega

/-! ### Clashes -/
theorem symEq_comm (a b : Sym) : symEq a b = symEq b a := by
  rw [Bool.eq_iff_iff, symEq_iff, symEq_iff]; exact eq_comm
theorem clashAt_comm (S T : List Sym) (i : Nat) : clashAt S T i = clashAt T S i := by
  unfold clashAt; rw [Bool.and_comm (touched S i), symEq_comm]
theorem clashL_comm {S T : List Sym} (h : S.length = T.length) : clashL T S = clashL S T := by
  unfold clashL; rw [h]; exact rngs_congr fun j _ => clashAt_comm T S j
theorem clash_no {S T : List Sym} : clashL S T = [] ↔ ∀ i, i < S.length → clashAt S T i = false := ⟨fun h => rngs_none _ _ h, rngs_empty⟩
theorem clash_self (S : List Sym) : clashL S S = [] := clash_no.2 fun i _ => by unfold clashAt; rw [symEq_iff.2 rfl]; simp

/-! ### Good patches -/
theorem good_checkM {p q : PatL} {n : Int} (hp : Good11 p n) (hq : Good11 q n) : checkM [p, q] = 0 := by
  refine checkM_good ?_ ?_ ?_
  · intro x hx
    simp only [List.mem_cons, List.not_mem_nil, or_false] at hx
    rcases hx with rfl | rfl
    · exact hp.ck
    · exact hq.ck
  · intro x hx
    simp only [List.mem_cons, List.not_mem_nil, or_false] at hx
    rcases hx with rfl | rfl
    · simp
    · simp [hp.lif, hq.lif]
  · intro x hx
    simp only [List.mem_cons, List.not_mem_nil, or_false] at hx
    rcases hx with rfl | rfl
    · simp [evenQ, hp.in_, hp.out]
    · simp [evenQ, hp.in_, hq.in_, hq.out]
theorem good_len {p : PatL} {n : Int} (hp : Good11 p n) : ((symsP p).length : Int) = n := by rw [symsP_len hp.ck, hp.out]
theorem good_okL {p : PatL} {n : Int} (hp : Good11 p n) : okL n (symsP p) := by
  have := (ops_ok _ (checkP_ok hp.ck).1).1
  rw [hp.in_] at this; exact this
theorem good_even {p : PatL} {n : Int} (hp : Good11 p n) (hn : n ≤ 65536) : Even1 p (symsP p) (symsP p).length := ⟨hp.ck, rfl, rfl, by rw [hp.in_, good_len hp], by have := good_len hp; omega⟩
theorem form_good {n : Int} {l : List Sym} (hn : 0 ≤ n ∧ n ≤ 4096) (hl : (l.length : Int) = n) (ok : okL n l) (hw : ∀ s ∈ l, s.wf) : Good11 (formOf false n l) n ∧ symsP (formOf false n l) = l ∧ cheapP l n = (formOf false n l, 0) := by
  have h1 : 0 ≤ n ∧ n ≤ 65536 := by omega
  have h2 : l.length ≤ 4096 := by omega
  have hc := cheapP_ok h1 h2 ok
  refine ⟨⟨?_, formOf_check h1 h2 ok, rfl, rfl, hl⟩, (optL_spec ok).1, hc⟩
  have := cheapP_wf (n := n) hw
  rw [hc] at this; exact this
theorem sAt_mem {S : List Sym} {i : Nat} (h : i < S.length) : sAt S i ∈ S := by
  unfold sAt
  rw [List.getD_eq_getElem?_getD, List.getElem?_eq_getElem h]
  exact List.getElem_mem _
theorem mergeS_len (S T : List Sym) : (mergeS S T).length = T.length := by unfold mergeS; exact mergeUp_len S T _
theorem mergeS_at {S T : List Sym} {i : Nat} (h : i < T.length) : sAt (mergeS S T) i = if touched S i then sAt S i else sAt T i := by
  refine (sAt_of (mergeUp_at (s := S) (k := T.length) h)).trans ?_
  rw [decide_eq_true h, Bool.true_and]
theorem syms_ext {S T : List Sym} (hl : S.length = T.length) (h : ∀ i, i < S.length → sAt S i = sAt T i) : S = T := by
  apply List.ext_getElem?
  intro i
  by_cases hi : i < S.length
  · have h1 : S[i]? = some S[i] := List.getElem?_eq_getElem hi
    have h2 : T[i]? = some T[i] := List.getElem?_eq_getElem (by omega)
    have := h i hi
    rw [sAt_of h1, sAt_of h2] at this
    rw [h1, h2, this]
  · rw [List.getElem?_eq_none (by omega), List.getElem?_eq_none (by omega)]
theorem untouched {S : List Sym} {i : Nat} (h : touched S i = false) : sAt S i = ⟨true, i, 0⟩ := by
  unfold touched at h
  exact symEq_iff.1 (by simpa using h)
theorem mergeS_okL {S T : List Sym} {n : Int} (hl : S.length = T.length) (hS : okL n S) (hT : okL n T) : okL n (mergeS S T) := by
  intro s hs
  obtain ⟨i, hi, rfl⟩ := List.mem_map.1 hs
  have hit := List.mem_range.1 hi
  split
  · exact hS _ (sAt_mem (by omega))
  · exact hT _ (sAt_mem hit)
theorem mergeS_touched {S T : List Sym} {i : Nat} (h : i < T.length) : touched (mergeS S T) i = (touched S i || touched T i) := by
  have h1 : touched (mergeS S T) i = !symEq (sAt (mergeS S T) i) ⟨true, i, 0⟩ := rfl
  rw [h1, mergeS_at h]
  cases hs : touched S i with
  | true => rw [if_pos rfl, Bool.true_or]; exact hs
  | false => rw [if_neg (by simp), Bool.false_or]; rfl
theorem mergeS_self (S : List Sym) : mergeS S S = S := syms_ext (mergeS_len S S) fun i hi => by
  rw [mergeS_len] at hi
  rw [mergeS_at hi]; split <;> rfl
theorem mergeS_assoc {S T R : List Sym} (h1 : S.length = T.length) (h2 : T.length = R.length) : mergeS (mergeS S T) R = mergeS S (mergeS T R) := by
  refine syms_ext (by rw [mergeS_len, mergeS_len, mergeS_len]) fun i hi => ?_
  rw [mergeS_len] at hi
  rw [mergeS_at (S := mergeS S T) hi, mergeS_at (S := S) (T := mergeS T R) (by rw [mergeS_len]; exact hi), mergeS_at (S := T) (T := R) hi, mergeS_touched (S := S) (T := T) (by omega), mergeS_at (S := S) (T := T) (by omega)]
  cases touched S i <;> cases touched T i <;> simp
theorem mergeS_comm {S T : List Sym} (h : S.length = T.length) (hc : clashL S T = []) : mergeS T S = mergeS S T := by
  refine syms_ext (by rw [mergeS_len, mergeS_len, h]) fun i hi => ?_
  rw [mergeS_len] at hi
  rw [mergeS_at hi, mergeS_at (by omega)]
  have hci := clash_no.1 hc i hi
  unfold clashAt at hci
  cases hs : touched S i with
  | true =>
    cases ht : touched T i with
    | true =>
      rw [hs, ht] at hci
      simp only [Bool.and_self, Bool.true_and, Bool.not_eq_false'] at hci
      rw [if_pos rfl, if_pos rfl, symEq_iff.1 hci]
    | false => rw [if_neg (by simp), if_pos rfl]
  | false =>
    cases ht : touched T i with
    | true => rw [if_pos rfl, if_neg (by simp)]
    | false => rw [if_neg (by simp), if_neg (by simp), untouched hs, untouched ht]
theorem clash_merge {S T R : List Sym} (h1 : S.length = T.length) (h2 : T.length = R.length) (a : clashL S R = []) (b : clashL T R = []) : clashL (mergeS S T) R = [] := by
  refine clash_no.2 fun i hi => ?_
  rw [mergeS_len] at hi
  have ha := clash_no.1 a i (by omega)
  have hb := clash_no.1 b i hi
  unfold clashAt at ha hb ⊢
  rw [mergeS_touched hi, mergeS_at hi]
  cases hs : touched S i with
  | true => rw [hs] at ha; simpa using ha
  | false => simpa using hb
theorem merge_good {p q : PatL} {n : Int} (hp : Good11 p n) (hq : Good11 q n) (hn : 0 ≤ n ∧ n ≤ 4096) (hc : clashL (symsP p) (symsP q) = []) :
    mergeP p q = (formOf false n (mergeS (symsP p) (symsP q)), 0) ∧ Good11 (formOf false n (mergeS (symsP p) (symsP q))) n ∧ symsP (formOf false n (mergeS (symsP p) (symsP q))) = mergeS (symsP p) (symsP q) := by
  have h1 := good_len hp
  have h2 := good_len hq
  obtain ⟨k1, k2, k3⟩ := form_good (l := mergeS (symsP p) (symsP q)) hn (by rw [mergeS_len]; exact h2) (mergeS_okL (by omega) (good_okL hp) (good_okL hq)) (mergeS_wf (by omega) (symsP_wf hp.wf hp.ck) (symsP_wf hq.wf hq.ck))
  refine ⟨?_, k1, k2⟩
  unfold mergeP
  rw [if_neg (by rw [good_checkM hp hq]; decide), if_neg (fun h => h hc), hp.in_, k3, hp.lif]
  rfl
theorem merge_bad {p q : PatL} {n : Int} (hp : Good11 p n) (hq : Good11 q n) (hc : clashL (symsP p) (symsP q) ≠ []) : mergeP p q = (PatL.zero, 110) := by
  unfold mergeP
  rw [if_neg (by rw [good_checkM hp hq]; decide), if_pos hc]
theorem merge_err {p q : PatL} {n : Int} (hp : Good11 p n) (hq : Good11 q n) (hn : 0 ≤ n ∧ n ≤ 4096) : (clashL (symsP p) (symsP q) = [] ∧ (mergeP p q).2 = 0) ∨ (clashL (symsP p) (symsP q) ≠ [] ∧ (mergeP p q).2 = 110) := by
  by_cases h : clashL (symsP p) (symsP q) = []
  · exact .inl ⟨h, by rw [(merge_good hp hq hn h).1]⟩
  · exact .inr ⟨h, by rw [merge_bad hp hq h]⟩
theorem merge_comm {p q : PatL} {n : Int} (hp : Good11 p n) (hq : Good11 q n) (hn : 0 ≤ n ∧ n ≤ 4096) : mergeP q p = mergeP p q := by
  have h1 := good_len hp
  have h2 := good_len hq
  have hl : (symsP p).length = (symsP q).length := by omega
  by_cases h : clashL (symsP p) (symsP q) = []
  · rw [(merge_good hp hq hn h).1, (merge_good hq hp hn (by rw [clashL_comm hl]; exact h)).1, mergeS_comm hl h]
  · rw [merge_bad hp hq h, merge_bad hq hp (by rw [clashL_comm hl]; exact h)]
theorem form_self {p : PatL} {n : Int} (hp : Good11 p n) (hn : 0 ≤ n ∧ n ≤ 4096) : formP p = (formOf false n (symsP p), 0) ∧ mergeP p p = (formOf false n (symsP p), 0) := by
  constructor
  · rw [formP_ok hp.ck (by rw [hp.out]; omega), hp.lif, hp.in_]; rfl
  · have := (merge_good hp hp hn (clash_self _)).1
    rwa [mergeS_self] at this
theorem whole_good {n : Int} (hn : 0 ≤ n ∧ n ≤ 4096) : Good11 (wholeP n) n := ⟨wholeP_wf (by omega), wholeP_check (by omega), rfl, rfl, rfl⟩
theorem whole_at {n : Int} (hn : 0 ≤ n) {i : Nat} (hi : (i : Int) < n) : sAt (symsP (wholeP n)) i = ⟨true, i, 0⟩ := by
  have e : symsP (wholeP n) = (List.range n.toNat).map fun (j : Nat) => (⟨true, 0 + j, 0⟩ : Sym) := wholeP_syms hn
  have h1 : (symsP (wholeP n))[i]? = some ⟨true, 0 + i, 0⟩ := by
    rw [e, List.getElem?_map, List.getElem?_range (by omega)]; rfl
  rw [sAt_of h1, Int.zero_add]
theorem whole_touched {n : Int} (hn : 0 ≤ n) {i : Nat} (hi : (i : Int) < n) : touched (symsP (wholeP n)) i = false := by
  unfold touched
  rw [whole_at hn hi, symEq_iff.2 rfl]; rfl
theorem merge_whole {p : PatL} {n : Int} (hp : Good11 p n) (hn : 0 ≤ n ∧ n ≤ 4096) : mergeP p (wholeP n) = (formOf false n (symsP p), 0) := by
  have hw := whole_good hn
  have h1 := good_len hp
  have h2 := good_len hw
  have hc : clashL (symsP p) (symsP (wholeP n)) = [] := clash_no.2 fun i hi => by
    unfold clashAt
    rw [whole_touched hn.1 (by omega)]; simp
  rw [(merge_good hp hw hn hc).1]
  have : mergeS (symsP p) (symsP (wholeP n)) = symsP p := syms_ext (by rw [mergeS_len]; omega) fun i hi => by
    rw [mergeS_len] at hi
    rw [mergeS_at hi]
    cases ht : touched (symsP p) i with
    | true => rw [if_pos rfl]
    | false => rw [if_neg (by simp), whole_at hn.1 (by omega), untouched ht]
  rw [this]
theorem merge_three {p q r : PatL} {n : Int} (hp : Good11 p n) (hq : Good11 q n) (hr : Good11 r n) (hn : 0 ≤ n ∧ n ≤ 4096) (h1 : (mergeP p q).2 = 0) (h2 : (mergeP q r).2 = 0) (h3 : (mergeP p r).2 = 0) :
    ∃ X, X.wf ∧ mergeP (mergeP p q).1 r = (X, 0) ∧ mergeP p (mergeP q r).1 = (X, 0) := by
  have l1 := good_len hp
  have l2 := good_len hq
  have l3 := good_len hr
  have c1 : clashL (symsP p) (symsP q) = [] := by rcases merge_err hp hq hn with h | h; exact h.1; rw [h1] at h; exact absurd h.2 (by decide)
  have c2 : clashL (symsP q) (symsP r) = [] := by rcases merge_err hq hr hn with h | h; exact h.1; rw [h2] at h; exact absurd h.2 (by decide)
  have c3 : clashL (symsP p) (symsP r) = [] := by rcases merge_err hp hr hn with h | h; exact h.1; rw [h3] at h; exact absurd h.2 (by decide)
  obtain ⟨a1, a2, a3⟩ := merge_good hp hq hn c1
  obtain ⟨b1, b2, b3⟩ := merge_good hq hr hn c2
  have d1 : clashL (symsP (formOf false n (mergeS (symsP p) (symsP q)))) (symsP r) = [] := by rw [a3]; exact clash_merge (by omega) (by omega) c3 c2
  have d2 : clashL (symsP p) (symsP (formOf false n (mergeS (symsP q) (symsP r)))) = [] := by
    rw [b3, ← clashL_comm (by rw [mergeS_len]; omega)]
    exact clash_merge (by omega) (by omega) (by rw [clashL_comm (by omega)]; exact c1) (by rw [clashL_comm (by omega)]; exact c3)
  obtain ⟨e1, e2, e3⟩ := merge_good a2 hr hn d1
  obtain ⟨f1, f2, f3⟩ := merge_good hp b2 hn d2
  rw [a3] at e1 e2
  rw [b3] at f1
  refine ⟨_, e2.wf, by rw [a1]; exact e1, ?_⟩
  rw [b1]
  rw [mergeS_assoc (by omega) (by omega)]
  exact f1
theorem mergeP_wf {p q : PatL} {n : Int} (hp : Good11 p n) (hq : Good11 q n) (hn : 0 ≤ n ∧ n ≤ 4096) : (mergeP p q).1.wf := by
  by_cases h : clashL (symsP p) (symsP q) = []
  · obtain ⟨a1, a2, _⟩ := merge_good hp hq hn h
    rw [a1]; exact a2.wf
  · rw [merge_bad hp hq h]; exact zero_wf

end Go.Proofs.YtlhehhhpaebpoaaGreat

