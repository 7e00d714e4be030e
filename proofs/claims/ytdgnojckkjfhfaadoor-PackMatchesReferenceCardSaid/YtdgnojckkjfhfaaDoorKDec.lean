/- coder.Decode of nothing. Conditions: none. What a code of the range coder says, read from its front: plain laws. Conditions: none. coder.Decode of a code: it gives the text. Conditions: none. -/
import Derived.Test.YtdgnojckkjfhfaaDoorPk14
import Derived.Test.YtdgnojckkjfhfaaDoorKLaw
namespace Go.Proofs.YtdgnojckkjfhfaaDoor
open Go Go.RowKit Go.Inl
set_option linter.unusedSimpArgs false
set_option linter.unusedVariables false
set_option maxHeartbeats 1000000 in
theorem equalB_c (a1 a2 : Option Addr) (c1 c2 : Nat) (x y : List Int) (w0 : World) (I0 : Imm) (hI : Sat I0 w0) (hx : RBytes I0 (.slice a1 x.length c1) x) (hy : RBytes I0 (.slice a2 y.length c2) y) :
    Ctr Tryd.prog 70 [.slice a1 x.length c1, .slice a2 y.length c2] w0 (fun v w' => v = .bool (decide (x = y)) ∧ Ext w0 I0 w' I0) := by
  have hxl := RSl.le hx
  have hyl := RSl.le hy
  simp only [maxLen] at hxl hyl
  refine fn (n := 26) Tryd.func70 rfl rfl rfl ?_
  have hS := St.start hI
  refine wpIn_seq ?_
  refine reg ?_
  refine qq hS (g_assignv (v := .bool _) rfl) ?_
  refine ol_nil (thenN ?_)
  refine wpIn_seq ?_
  refine wpIn_seq ?_
  refine reg ?_
  refine qq hS (g_move _) ?_
  refine qq hS (g_lenI rfl Tryd.underlying25 hx rfl) ?_
  refine qq hS (g_move _) ?_
  refine qq hS (g_lenI rfl Tryd.underlying25 hy rfl) ?_
  refine qq hS (g_neq rfl rfl) ?_
  refine ol_nil (thenN ?_)
  refine cond_s rfl ?_ ?_
  ·
    intro hc10
    try simp only [Bool.and_eq_true, Bool.or_eq_true, Bool.not_eq_true', Bool.and_eq_false_imp, Bool.or_eq_false_iff, Bool.not_eq_false', decide_eq_true_eq, decide_eq_false_iff_not] at hc10
    have hne : ¬ x = y := fun e => by subst e; omega
    refine wpIn_seq ?_
    refine reg ?_
    refine qq hS (g_assignv (v := .bool _) rfl) ?_
    refine ol_nil (thenN ?_)
    refine wpIn_ret ?_
    refine thenR ?_
    refine ret1 Tryd.results70 (rv_tmp (v := .bool _) rfl) ?_
    exact ⟨by rw [decide_eq_false hne], hS.nil⟩
  ·
    intro hc10
    try simp only [Bool.and_eq_true, Bool.or_eq_true, Bool.not_eq_true', Bool.and_eq_false_imp, Bool.or_eq_false_iff, Bool.not_eq_false', decide_eq_true_eq, decide_eq_false_iff_not] at hc10
    have hlen : x.length = y.length := by omega
    refine wpIn_skip ?_
    refine thenN ?_
    refine wpIn_seq ?_
    refine wpIn_seq ?_
    refine reg ?_
    refine qq hS (g_move _) ?_
    refine qq hS (g_lenI rfl Tryd.underlying25 hx rfl) ?_
    refine qq hS (g_movev (v := .int .i64 _) rfl) ?_
    refine ol_nil (thenN ?_)
    refine wpIn_block ?_
    refine loop (fun (k : Nat) σ w => okS σ [(0, .slice a1 x.length c1), (1, .slice a2 y.length c2), (12, .int .i64 x.length), (13, .int .i64 k)] ∧ St [] w0 I0 I0 w [] ∧ k ≤ x.length ∧ x.take k = y.take k) (fun k => x.length - k) (0) ?_ ?_
    ·
      exact ⟨⟨rfl, rfl, rfl, rfl, trivial⟩, hS.sel [], Nat.zero_le _, rfl⟩
    ·
      rintro k σ w_l ⟨hs, hS, hk0, htk⟩
      rw [← upds_self hs]; clear hs
      refine wpIn_seq ?_
      refine reg ?_
      refine qq hS (g_lss rfl rfl) ?_
      refine ol_nil (thenN ?_)
      refine wpIn_seq ?_
      refine cond_s rfl ?_ ?_
      ·
        intro hc14
        try simp only [Bool.and_eq_true, Bool.or_eq_true, Bool.not_eq_true', Bool.and_eq_false_imp, Bool.or_eq_false_iff, Bool.not_eq_false', decide_eq_true_eq, decide_eq_false_iff_not] at hc14
        obtain ⟨p, hp⟩ : ∃ p, x[k]? = some p := ⟨_, List.getElem?_eq_getElem (by omega)⟩
        obtain ⟨q, hq⟩ : ∃ q, y[k]? = some q := ⟨_, List.getElem?_eq_getElem (by omega)⟩
        have hpA := hx.at hp
        have hqA := hy.at hq
        refine wpIn_skip ?_
        refine thenN ?_
        refine wpIn_seq ?_
        refine wpIn_block ?_
        refine wpIn_seq ?_
        refine reg ?_
        refine qq hS (g_movev (v := .int .i64 _) rfl) ?_
        refine qq hS (g_assignv (v := .int .i64 _) rfl) ?_
        refine ol_nil (thenN ?_)
        refine wpIn_seq ?_
        refine draw (.cons 0 .pure (.cons 1 .pure (.cons 2 .pure (.cons 3 .held (.cons 4 .pure (.cons 5 .pure (.cons 6 .pure (.cons 7 .held (.cons 8 .pure .nil))))))))) mixed (by kernel_rfl) hS ?_
        intro w_1 hS
        refine sp rfl (g_move _) ?_
        refine sp rfl (g_movev (v := .int .i64 _) rfl) ?_
        refine sp rfl (g_ixI Tryd.underlying25 Tryd.sizeOf5 hx rfl rfl (by omega) (by omega)) ?_
        refine sh rfl (g_ldE1 Tryd.isAgg5 hpA rfl rfl) ?_
        refine sp rfl (g_move _) ?_
        refine sp rfl (g_movev (v := .int .i64 _) rfl) ?_
        refine sp rfl (g_ixI Tryd.underlying25 Tryd.sizeOf5 hy rfl rfl (by omega) (by omega)) ?_
        refine sh rfl (g_ldE1 Tryd.isAgg5 hqA rfl rfl) ?_
        refine sp rfl (g_neq rfl rfl) ?_
        refine sn (thenN ?_)
        refine cond_s rfl ?_ ?_
        ·
          intro hc24
          try simp only [Bool.and_eq_true, Bool.or_eq_true, Bool.not_eq_true', Bool.and_eq_false_imp, Bool.or_eq_false_iff, Bool.not_eq_false', decide_eq_true_eq, decide_eq_false_iff_not] at hc24
          have hne : ¬ x = y := fun e => by subst e; rw [hp] at hq; exact hc24 (Option.some.inj hq)
          refine wpIn_seq ?_
          refine reg ?_
          refine qq hS (g_assignv (v := .bool _) rfl) ?_
          refine ol_nil (thenN ?_)
          refine wpIn_ret ?_
          refine blkR (thenR (thenR (blkR (thenR ?_))))
          refine ret1 Tryd.results70 (rv_tmp (v := .bool _) rfl) ?_
          exact ⟨by rw [decide_eq_false hne], hS.nil⟩
        ·
          intro hc24
          try simp only [Bool.and_eq_true, Bool.or_eq_true, Bool.not_eq_true', Bool.and_eq_false_imp, Bool.or_eq_false_iff, Bool.not_eq_false', decide_eq_true_eq, decide_eq_false_iff_not] at hc24
          obtain rfl : p = q := by simpa using hc24
          have htk2 : x.take (k + 1) = y.take (k + 1) := by rw [take_snoc hp, take_snoc hq, htk]
          refine wpIn_skip ?_
          refine blkN (thenN ?_)
          refine reg ?_
          refine qq hS (g_add rfl rfl (by omega) (by omega)) ?_
          refine qq hS (g_movev (v := .int .i64 _) rfl) ?_
          exact ⟨k + 1, _, rfl, ⟨⟨rfl, rfl, rfl, rfl, trivial⟩, hS.sel [], by omega, htk2⟩, by omega⟩
      ·
        intro hc14
        try simp only [Bool.and_eq_true, Bool.or_eq_true, Bool.not_eq_true', Bool.and_eq_false_imp, Bool.or_eq_false_iff, Bool.not_eq_false', decide_eq_true_eq, decide_eq_false_iff_not] at hc14
        obtain rfl : k = x.length := by omega
        have heq : x = y := by rw [List.take_length, hlen, List.take_length] at htk; exact htk
        refine wpIn_exit ?_
        refine thenE (thenE (blkE ?_))
        refine thenN ?_
        refine wpIn_seq ?_
        refine reg ?_
        refine qq hS (g_assignv (v := .bool _) rfl) ?_
        refine ol_nil (thenN ?_)
        refine wpIn_ret ?_
        refine ret1 Tryd.results70 (rv_tmp (v := .bool _) rfl) ?_
        exact ⟨by rw [decide_eq_true heq], hS.nil⟩

end Go.Proofs.YtdgnojckkjfhfaaDoor


namespace Go.Proofs.YtdgnojckkjfhfaaDoor
open Go Go.RowKit Go.Inl
set_option linter.unusedSimpArgs false
set_option linter.unusedVariables false
def valS (s : Cs) : Int := 4294967296 * valC s.out + s.low
theorem put_val {s : Cs} (h : CsOk s) {r before cnt t : Int} (hr : 1 ≤ r) (hb : 0 ≤ before) (hc : 1 ≤ cnt) (ht : before + cnt ≤ t) (hrt : r * t ≤ s.size) :
    valS (putC s r before cnt) = valS s + r * before ∧ (putC s r before cnt).size = r * cnt ∧ (putC s r before cnt).out.length = s.out.length := by
  have e1 : r * before + r * cnt ≤ r * t := by rw [← Int.mul_add]; exact Int.mul_le_mul_of_nonneg_left ht (by omega)
  have e3 : 1 ≤ r * cnt := by have := Int.mul_le_mul hr hc (by omega) (by omega); omega
  have e2 : 0 ≤ r * before := Int.mul_nonneg (by omega) hb
  obtain ⟨rb, hrb⟩ : ∃ x, r * before = x := ⟨_, rfl⟩
  obtain ⟨rc, hrc⟩ : ∃ x, r * cnt = x := ⟨_, rfl⟩
  refine ⟨?_, ?_, put_len s r before cnt⟩
  · rw [hrb, hrc] at e1
    rw [hrb] at e2
    rw [hrc] at e3
    have hl := h.low
    have hs := h.size
    unfold putC
    rw [hrb, hrc]
    split
    · have hcv := CsOk.carry (s := s) (lo := s.low + rb) (si := rc) h.byt (by have := h.all; omega) (by omega) (by omega)
      obtain ⟨_, hv, _⟩ := carried_val h.byt hcv
      unfold valS
      dsimp only
      rw [hv]; omega
    · unfold valS; dsimp only; omega
  · unfold putC; split <;> rfl
theorem norm_val : ∀ (k : Nat) (s : Cs), ∃ j, valS (normC k s) = 256 ^ j * valS s ∧ (normC k s).size = 256 ^ j * s.size ∧ (normC k s).out.length = s.out.length + j
  | 0, s => ⟨0, by simp [normC], by simp [normC], rfl⟩
  | k + 1, s => by
    unfold normC
    split
    · obtain ⟨j, h1, h2, h3⟩ := norm_val k ⟨s.low % 16777216 * 256, s.size * 256, s.out ++ [s.low / 16777216]⟩
      have e : valS ⟨s.low % 16777216 * 256, s.size * 256, s.out ++ [s.low / 16777216]⟩ = 256 * valS s := by unfold valS; dsimp only; rw [valC_snoc]; omega
      refine ⟨j + 1, ?_, ?_, ?_⟩
      · rw [h1, e, Int.pow_succ, Int.mul_assoc]
      · rw [h2, Int.pow_succ, Int.mul_assoc]; dsimp only; rw [Int.mul_comm s.size]
      · rw [h3, List.length_append]; simp; omega
    · exact ⟨0, by simp, by simp, rfl⟩
/-- A state's interval holds a last one's. -/
def Nest (f t : Cs) : Prop := t.out.length ≤ f.out.length ∧ 256 ^ (f.out.length - t.out.length) * valS t ≤ valS f ∧ valS f + f.size ≤ 256 ^ (f.out.length - t.out.length) * (valS t + t.size)
theorem nest_norm {f t : Cs} (k : Nat) (h : Nest f (normC k t)) : Nest f t := by
  obtain ⟨j, h1, h2, h3⟩ := norm_val k t
  obtain ⟨g1, g2, g3⟩ := h
  rw [h3] at g1 g2 g3
  rw [h1] at g2
  rw [h1, h2, ← Int.mul_add, ← Int.mul_assoc, ← Int.pow_add] at g3
  rw [← Int.mul_assoc, ← Int.pow_add] at g2
  rw [show f.out.length - (t.out.length + j) + j = f.out.length - t.out.length by omega] at g2 g3
  exact ⟨by omega, g2, g3⟩
theorem nest_put {f s : Cs} (hs : CsOk s) {r before cnt t : Int} (hr : 1 ≤ r) (hb : 0 ≤ before) (hc : 1 ≤ cnt) (ht : before + cnt ≤ t) (hrt : r * t ≤ s.size) (h : Nest f (putC s r before cnt)) : Nest f s := by
  obtain ⟨h1, h2, h3⟩ := put_val hs hr hb hc ht hrt
  obtain ⟨g1, g2, g3⟩ := h
  rw [h3] at g1 g2 g3
  rw [h1] at g2
  rw [h1, h2] at g3
  have e2 : 0 ≤ r * before := Int.mul_nonneg (by omega) hb
  have e1 : r * before + r * cnt ≤ r * t := by rw [← Int.mul_add]; exact Int.mul_le_mul_of_nonneg_left ht (by omega)
  have hp : 0 ≤ (256 : Int) ^ (f.out.length - s.out.length) := Int.le_of_lt (pow_pos256 _)
  exact ⟨g1, Int.le_trans (Int.mul_le_mul_of_nonneg_left (by omega) hp) g2, Int.le_trans g3 (Int.mul_le_mul_of_nonneg_left (by omega) hp)⟩
theorem step_facts {s : Cs} {A : Ad} {x : Nat} (h : Good13 s) (hA : AdOk A) (hx : x < 256) : 1 ≤ s.size / A.t ∧ 0 ≤ (A.c.take x).sum ∧ 1 ≤ A.c.getD x 0 ∧ (A.c.take x).sum + A.c.getD x 0 ≤ A.t ∧ s.size / A.t * A.t ≤ s.size := by
  obtain ⟨q1, q2, q3⟩ := sum_take_le A.c x hA.pos (by rw [hA.len]; exact hx)
  rw [hA.sum] at q3
  obtain ⟨r1, r2⟩ := quo_facts h.big (show 1 ≤ A.t ∧ A.t ≤ 65536 from ⟨by omega, hA.top⟩)
  exact ⟨by omega, q1, q2, q3, r2⟩
theorem nest_step {f s : Cs} {A : Ad} {x : Nat} (h : Good13 s) (hA : AdOk A) (hx : x < 256) (hn : Nest f (stepC s A x)) : Nest f s := by
  obtain ⟨q1, q2, q3, q4, q5⟩ := step_facts h hA hx
  exact nest_put h.ok q1 q2 q3 q4 q5 (nest_norm 4 hn)
theorem nest_fold {M : Mdl} (hM : MdlOk M) : ∀ (ys : List Int) (p : Cs × M.S), Good13 p.1 → M.inv p.2 → Byt ys → Nest (ys.foldl (encF M) p).1 p.1
  | [], p, _, _, _ => ⟨Nat.le_refl _, by rw [List.foldl_nil, Nat.sub_self]; simp, by rw [List.foldl_nil, Nat.sub_self]; simp⟩
  | y :: ys, p, h1, h2, h3 => by
    have hy := h3 y (List.mem_cons_self ..)
    have hx : y.toNat < 256 := by omega
    have := nest_fold hM ys (encF M p y) (step_good h1 (hM.tab _ h2) hx) (hM.nxt _ _ h2 hx) (fun z hz => h3 z (List.mem_cons_of_mem _ hz))
    exact nest_step h1 (hM.tab _ h2) hx this
theorem nest_up {M : Mdl} (hM : MdlOk M) {s0 : M.S} (hs0 : M.inv s0) {x : List Int} (hx : Byt x) {k : Nat} (hk : k ≤ x.length) : Nest (encUp M s0 x x.length).1 (encUp M s0 x k).1 := by
  obtain ⟨h1, h2, _⟩ := encUp_good hM hs0 hx k hk
  have := nest_fold hM (x.drop k) (encUp M s0 x k) h1 h2 (fun y hy => hx y (List.mem_of_mem_drop hy))
  have e : (x.drop k).foldl (encF M) (encUp M s0 x k) = encUp M s0 x x.length := by
    unfold encUp
    rw [← List.foldl_append, List.take_append_drop, List.take_length]
  rwa [e] at this
/-- What the first bytes of a code say. -/
def strV (b : List Int) : Nat → Int
  | 0 => 0
  | m + 1 => 256 * strV b m + b.getD m 0
theorem trimZ_getD (l : List Int) (j : Nat) : (trimZ l).getD j 0 = l.getD j 0 := by
  refine snoc_ind (p := fun l => ∀ j, (trimZ l).getD j 0 = l.getD j 0) ?_ ?_ l j
  · intro j; rfl
  · intro l d ih j
    by_cases h : d = 0
    · subst h
      rw [trimZ_zero, ih]
      simp only [List.getD_eq_getElem?_getD]
      by_cases hj : j < l.length
      · rw [List.getElem?_append_left hj]
      · rw [List.getElem?_append_right (by omega), List.getElem?_eq_none (by omega)]
        cases h : j - l.length with
        | zero => rfl
        | succ n => rfl
    · rw [trimZ_ne l h]
theorem strV_take (l : List Int) : ∀ m, m ≤ l.length → strV (trimZ l) m = valC (l.take m)
  | 0, _ => rfl
  | m + 1, h => by
    obtain ⟨y, hy⟩ : ∃ y, l[m]? = some y := ⟨_, List.getElem?_eq_getElem (by omega)⟩
    rw [strV, strV_take l m (by omega), trimZ_getD, take_snoc hy, valC_snoc, List.getD_eq_getElem?_getD, hy]; rfl
theorem tail_val {s : Cs} (h : CsOk s) : valC (tailC s) = valS s := by
  have := h.low
  unfold tailC valS
  rw [valC_app]
  show 256 ^ 4 * valC s.out + (256 * (256 * (256 * (256 * 0 + s.low / 16777216) + s.low / 65536 % 256) + s.low / 256 % 256) + s.low % 256) = _
  omega
theorem dec_in {f t : Cs} (hf : CsOk f) (h : Nest f t) : valS t ≤ strV (trimZ (tailC f)) (4 + t.out.length) ∧ strV (trimZ (tailC f)) (4 + t.out.length) < valS t + t.size := by
  obtain ⟨g1, g2, g3⟩ := h
  have hl := tail_len f
  rw [strV_take _ _ (by omega)]
  have hv := tail_val hf
  conv at hv => lhs; rw [← List.take_append_drop (4 + t.out.length) (tailC f)]
  rw [valC_app] at hv
  obtain ⟨d1, d2⟩ := valC_bd ((tailC f).drop (4 + t.out.length)) (fun y hy => tail_byt hf y (List.mem_of_mem_drop hy))
  rw [List.length_drop, hl, show f.out.length + 4 - (4 + t.out.length) = f.out.length - t.out.length by omega] at hv d2
  have hs := hf.size
  obtain ⟨e, he⟩ : ∃ e : Int, 256 ^ (f.out.length - t.out.length) = e := ⟨_, rfl⟩
  have hp : 0 < e := by rw [← he]; exact pow_pos256 _
  rw [he] at hv d2 g2 g3
  obtain ⟨S, hS⟩ : ∃ S, valC ((tailC f).take (4 + t.out.length)) = S := ⟨_, rfl⟩
  rw [hS] at hv ⊢
  constructor
  · refine Int.le_of_lt_add_one (Int.lt_of_mul_lt_mul_left (a := e) ?_ (by omega))
    rw [Int.mul_add]; omega
  · refine Int.lt_of_mul_lt_mul_left (a := e) ?_ (by omega)
    omega

end Go.Proofs.YtdgnojckkjfhfaaDoor


namespace Go.Proofs.YtdgnojckkjfhfaaDoor
open Go Go.RowKit Go.Inl
set_option linter.unusedSimpArgs false
set_option linter.unusedVariables false
def ahd (b : List Int) (s : Cs) : Int := strV b (4 + s.out.length) - valS s
theorem getD_byt {b : List Int} (h : Byt b) (j : Nat) : 0 ≤ b.getD j 0 ∧ b.getD j 0 ≤ 255 := by
  rw [List.getD_eq_getElem?_getD]
  cases hj : b[j]? with
  | none => exact ⟨Int.le_refl _, by show (0 : Int) ≤ 255; decide⟩
  | some y => exact h y (List.mem_of_getElem? hj)
theorem strV4 {b : List Int} (h : Byt b) {k : Nat} (hk : k ≤ 4) : 0 ≤ strV b k ∧ strV b k ≤ 4294967295 := by
  have h0 := getD_byt h 0
  have h1 := getD_byt h 1
  have h2 := getD_byt h 2
  have h3 := getD_byt h 3
  match k, hk with
  | 0, _ => exact ⟨Int.le_refl _, by show (0 : Int) ≤ 4294967295; decide⟩
  | 1, _ => simp only [strV]; omega
  | 2, _ => simp only [strV]; omega
  | 3, _ => simp only [strV]; omega
  | 4, _ => simp only [strV]; omega
theorem drop_head (b : List Int) (k : Nat) : (b.drop k).headD 0 = b.getD k 0 := by
  rw [List.getD_eq_getElem?_getD, ← List.head?_drop]
  cases b.drop k <;> rfl
theorem ahd_step {b : List Int} {t : Cs} : ahd b ⟨t.low % 16777216 * 256, t.size * 256, t.out ++ [t.low / 16777216]⟩ = ahd b t * 256 + b.getD (4 + t.out.length) 0 := by
  unfold ahd
  have e : valS ⟨t.low % 16777216 * 256, t.size * 256, t.out ++ [t.low / 16777216]⟩ = 256 * valS t := by unfold valS; dsimp only; rw [valC_snoc]; omega
  rw [e]
  dsimp only
  rw [List.length_append, show 4 + (t.out.length + [t.low / 16777216].length) = (4 + t.out.length) + 1 from rfl, strV]
  omega
theorem ahd_put {b : List Int} {s : Cs} (h : CsOk s) {r before cnt t : Int} (hr : 1 ≤ r) (hb : 0 ≤ before) (hc : 1 ≤ cnt) (ht : before + cnt ≤ t) (hrt : r * t ≤ s.size) :
    ahd b (putC s r before cnt) = ahd b s - r * before ∧ (putC s r before cnt).size = r * cnt := by
  obtain ⟨h1, h2, h3⟩ := put_val h hr hb hc ht hrt
  unfold ahd
  rw [h1, h3]
  exact ⟨by omega, h2⟩
theorem ahd_in {b : List Int} {f t : Cs} (hf : CsOk f) (hb : trimZ (tailC f) = b) (h : Nest f t) : 0 ≤ ahd b t ∧ ahd b t < t.size := by
  have := dec_in hf h
  rw [hb] at this
  unfold ahd; omega
theorem sum_take_mono : ∀ (l : List Int) (i j : Nat), (∀ n ∈ l, 1 ≤ n) → i ≤ j → (l.take i).sum ≤ (l.take j).sum
  | l, 0, j, h, _ => by
    have := sum_ge (l.take j) (fun n hn => h n (List.mem_of_mem_take hn))
    rw [List.take_zero, List.sum_nil]; omega
  | [], i + 1, j, h, _ => by rw [List.take_nil, List.take_nil]; exact Int.le_refl _
  | x :: l, i + 1, 0, h, hij => by omega
  | x :: l, i + 1, j + 1, h, hij => by
    have := sum_take_mono l i j (fun n hn => h n (List.mem_cons_of_mem _ hn)) (by omega)
    rw [List.take_succ_cons, List.take_succ_cons, List.sum_cons, List.sum_cons]; omega
structure D0W where
  k : Nat
  a : Option Addr
  c : Nat
structure DecW (M : Mdl) where
  k : Nat
  cs : Cs
  s : M.S
  a : Option Addr
  c : Nat
  d : Option Addr
  e : Nat
theorem g_ltF13 {P : Program} {n : Nat} {σ : Nat → Value} {S : World → Prop} {t t' ty : TypeId} {x y : Operand} {k : IntKind} {a b : Int} (hx : ev n σ x = .int k a) (hy : ev n σ y = .int k b) (h : ¬ a < b) : Gives P (ev n σ) S (.binOp .lss t x y t') ty (.bool false) := by
  have := g_lss (P := P) (S := S) (t := t) (t' := t') (ty := ty) hx hy
  rwa [decide_eq_false h] at this
theorem g_gtF13 {P : Program} {n : Nat} {σ : Nat → Value} {S : World → Prop} {t t' ty : TypeId} {x y : Operand} {k : IntKind} {a b : Int} (hx : ev n σ x = .int k a) (hy : ev n σ y = .int k b) (h : ¬ b < a) : Gives P (ev n σ) S (.binOp .gtr t x y t') ty (.bool false) := by
  have := g_gtr (P := P) (S := S) (t := t) (t' := t') (ty := ty) hx hy
  rwa [decide_eq_false h] at this

theorem next_c (b : Nat) (ad : Option Addr) (cap : Nat) (l : List Int) (w0 : World) (I0 : Imm) (hI : Sat I0 w0) (hb : w0.heap[b]? = some (.cells [.slice ad l.length cap].toArray 25 (0, 0))) (hn : I0 b = none) (hl : RBytes I0 (.slice ad l.length cap) l) (hlb : Byt l) :
    Ctr Tryd.prog 69 [.pointer (some ⟨b, 0, none⟩)] w0 (fun v w' => v = .int .u64 (l.headD 0) ∧ ∃ a c, St [b] w0 I0 I0 w' [.cel b 25 [.slice a l.tail.length c]] ∧ ∀ J, RBytes J (.slice ad l.length cap) l → RBytes J (.slice a l.tail.length c) l.tail) := by
  have hll := RSl.le hl
  simp only [maxLen] at hll
  refine fn (n := 13) Tryd.func69 rfl rfl rfl ?_
  have hS : St [b] w0 I0 I0 w0 [.cel b 25 [.slice ad l.length cap]] := St.startX hI hb hn
  refine wpIn_seq ?_
  refine reg ?_
  refine qq hS (g_assignv (v := .int .u64 _) rfl) ?_
  refine ol_nil (thenN ?_)
  refine wpIn_seq ?_
  refine wpIn_seq ?_
  refine reg ?_
  refine qq hS (g_ldO1 0 Tryd.isAgg25 rfl rfl rfl) ?_
  refine qq hS (g_lenI rfl Tryd.underlying25 hl rfl) ?_
  refine qq hS (g_eql rfl rfl) ?_
  refine ol_nil (thenN ?_)
  refine cond_s rfl ?_ ?_
  ·
    intro hc5
    try simp only [Bool.and_eq_true, Bool.or_eq_true, Bool.not_eq_true', Bool.and_eq_false_imp, Bool.or_eq_false_iff, Bool.not_eq_false', decide_eq_true_eq, decide_eq_false_iff_not] at hc5
    obtain rfl : l = [] := List.length_eq_zero_iff.1 (by omega)
    refine wpIn_seq ?_
    refine reg ?_
    refine qq hS (g_assignv (v := .int .u64 _) rfl) ?_
    refine ol_nil (thenN ?_)
    refine wpIn_ret ?_
    refine thenR ?_
    refine ret1 Tryd.results69 (rv_tmp (v := .int .u64 _) rfl) ?_
    exact ⟨rfl, _, _, hS, fun J h => h⟩
  ·
    intro hc5
    try simp only [Bool.and_eq_true, Bool.or_eq_true, Bool.not_eq_true', Bool.and_eq_false_imp, Bool.or_eq_false_iff, Bool.not_eq_false', decide_eq_true_eq, decide_eq_false_iff_not] at hc5
    obtain ⟨y, l2, rfl⟩ : ∃ y l2, l = y :: l2 := by
      cases l with
      | nil => exact absurd rfl hc5
      | cons y l2 => exact ⟨y, l2, rfl⟩
    have hyb := hlb y (List.mem_cons_self ..)
    have hcv : IntKind.u64.wrap y = y := by rw [IntKind.wrap_u64]; omega
    have hyA := hl.at (show (y :: l2)[(0 : Int).toNat]? = some y from rfl)
    have hs2 := RSl.slL hl 1 (by simp)
    rw [List.drop_one] at hs2
    obtain ⟨a2, c2, hv2, _⟩ := hs2.len
    rw [hv2] at hs2
    refine wpIn_skip ?_
    refine thenN ?_
    refine wpIn_seq ?_
    refine reg ?_
    refine qq hS (g_ldO1 0 Tryd.isAgg25 rfl rfl rfl) ?_
    refine qq hS (g_ixI Tryd.underlying25 Tryd.sizeOf5 hl rfl rfl (by omega) (by omega)) ?_
    refine qq hS (g_ldE1 Tryd.isAgg5 hyA rfl rfl) ?_
    refine qq hS (g_assignv (v := .int .u8 _) rfl) ?_
    refine ol_nil (thenN ?_)
    refine wpIn_seq ?_
    refine reg ?_
    refine qq hS (g_ldO1 0 Tryd.isAgg25 rfl rfl rfl) ?_
    refine qq hS (g_castT (g_sliceLN (l0 := 1) Tryd.underlying25 Tryd.sizeOf5 rfl rfl (by omega) (by omega) rfl) hv2) ?_
    refine qe (d_store 0 hS Tryd.sizeOf25 rfl rfl rfl (vs := [.slice _ _ _]) rfl rfl rfl (Nat.le_of_ble_eq_true rfl) (cs' := [_]) rfl) ?_
    clear hS
    rintro _ w_1 ⟨rfl, hS⟩
    refine ol_nil (thenN ?_)
    refine wpIn_seq ?_
    refine reg ?_
    refine qq hS (g_movev (v := .int .u8 _) rfl) ?_
    refine qq hS (g_convu Tryd.underlying5 Tryd.underlying84 rfl hcv) ?_
    refine qq hS (g_assignv (v := .int .u64 _) rfl) ?_
    refine ol_nil (thenN ?_)
    refine wpIn_ret ?_
    refine ret1 Tryd.results69 (rv_tmp (v := .int .u64 _) rfl) ?_
    exact ⟨rfl, _, _, hS, fun J h => by
      have h2 := RSl.slL h 1 (by simp)
      rw [List.drop_one, hv2] at h2
      exact h2⟩

set_option maxRecDepth 20000 in
set_option maxHeartbeats 2000000 in
theorem dec_c (M : Mdl) (hM : MdlOk M) (s0 : M.S) (hs0 : M.inv s0) (n : Int) (hbeg : ∀ (w : World) (I : Imm), Sat I w → Ctr Tryd.prog 38 [.int .i64 n] w (fun v w' => ∃ I' F, Ext w I w' I' ∧ M.holds I' v s0 F ∧ ∀ c ∈ F, w.heap.size ≤ c))
    (x : List Int) (hx : Byt x) (hxl : x.length ≤ 65536) (ad : Option Addr) (cap : Nat) (b : List Int) (hbe : encP M s0 x = b) (w0 : World) (I0 : Imm) (hI : Sat I0 w0) (hb : RBytes I0 (.slice ad b.length cap) b) :
    Ctr Tryd.prog 64 [.int .i64 n, .slice ad b.length cap, .int .i64 x.length] w0 (fun v w' => ∃ I' a c, v = .tuple #[.slice a x.length c, .int .i64 0] ∧ Ext w0 I0 w' I' ∧ RBytes I' (.slice a x.length c) x) := by
  have hbb := (encP_ok hM hs0 hx).1
  rw [hbe] at hbb
  obtain ⟨hFg, _, _⟩ := encUp_good hM hs0 hx x.length (Nat.le_refl _)
  have hFb : trimZ (tailC (encUp M s0 x x.length).1) = b := hbe
  have hnest := fun k (hk : k ≤ x.length) => nest_up hM hs0 hx hk
  obtain ⟨Fin, hFin⟩ : ∃ f, (encUp M s0 x x.length).1 = f := ⟨_, rfl⟩
  rw [hFin] at hFg hFb hnest
  refine fn (n := 128) Tryd.func64 rfl rfl rfl ?_
  have hS := St.start hI
  refine wpIn_seq ?_
  refine reg ?_
  refine qq hS (g_assign _) ?_
  refine qq hS (g_assignv (v := .int .i64 _) rfl) ?_
  refine ol_nil (thenN ?_)
  refine wpIn_seq ?_
  refine reg ?_
  refine qq hS (g_movev (v := .int .i64 _) rfl) ?_
  refine qe (d_call Tryd.call38 rfl (hbeg _ _ hS.imm)) ?_
  rintro mv w_1 ⟨I1, F1, hE, hH1, hF1⟩
  replace hS := hS.callE hE
  obtain ⟨mT, mx, hmv⟩ := hM.iface _ _ _ _ hH1
  have hFn1 : ∀ c ∈ F1, w0.heap.size ≤ c := fun c hc => hF1 c hc
  refine qq hS (g_assign _) ?_
  refine ol_nil (thenN ?_)
  refine wpIn_seq ?_
  refine wpIn_seq ?_
  refine reg ?_
  refine qq hS (g_move _) ?_
  refine qq hS (g_ifaceNil model_ty hmv rfl) ?_
  refine qq hS (g_movev (v := .bool _) rfl) ?_
  refine qqs rfl rfl hS (g_movev (v := .int .i64 _) rfl) ?_
  refine qqs rfl rfl hS (g_ltF13 rfl rfl (by omega)) ?_
  refine qq hS (g_or rfl rfl (fun _ => rfl)) ?_
  refine qq hS (g_movev (v := .bool _) rfl) ?_
  refine qqs rfl rfl hS (g_movev (v := .int .i64 _) rfl) ?_
  refine qqs rfl rfl hS (g_gtF13 rfl rfl (by omega)) ?_
  refine qq hS (g_or rfl rfl (fun _ => rfl)) ?_
  refine ol_nil (thenN ?_)
  refine cond_f (rfl) ?_
  refine wpIn_skip ?_
  refine thenN ?_
  refine wpIn_seq ?_
  refine reg ?_
  refine qq hS (g_move _) ?_
  refine qe (d_alloc (cs := [.slice _ _ _]) hS Tryd.zeroValue25 rfl) ?_
  clear hS
  rintro _ w_2 ⟨b9, rfl, hS⟩
  refine qe (d_store 0 hS Tryd.sizeOf25 rfl rfl rfl (vs := [.slice _ _ _]) rfl rfl rfl (Nat.le_of_ble_eq_true rfl) (cs' := [_]) rfl) ?_
  clear hS
  rintro _ w_3 ⟨rfl, hS⟩
  refine ol_nil (thenN ?_)
  refine wpIn_seq ?_
  refine reg ?_
  refine qq hS (g_makeFuncL ml0 (ml rfl ml0)) ?_
  refine qq hS (g_assign _) ?_
  refine ol_nil (thenN ?_)
  refine wpIn_seq ?_
  refine reg ?_
  refine qq hS (g_assignv (v := .int .u64 _) rfl) ?_
  refine ol_nil (thenN ?_)
  refine wpIn_seq ?_
  refine wpIn_seq ?_
  refine reg ?_
  refine qq hS (g_movev (v := .int .i64 _) rfl) ?_
  refine ol_nil (thenN ?_)
  refine wpIn_block ?_
  refine loop (fun (z : D0W) σ w => okS σ [(0, .int .i64 n), (1, .slice ad b.length cap), (2, .int .i64 x.length), (8, mv), (10, .func (.func 69) #[] #[.pointer (some ⟨b9, 0, none⟩)]), (11, .int .u64 (strV b z.k)), (35, .int .i64 z.k)] ∧ St [] w0 I0 I1 w [.cel b9 25 [.slice z.a (b.drop (z.k)).length z.c]] ∧ z.k ≤ 4 ∧ RBytes I0 (.slice z.a (b.drop (z.k)).length z.c) (b.drop (z.k))) (fun z => 4 - z.k) (⟨0, ad, cap⟩) ?_ ?_
  ·
    exact ⟨⟨rfl, rfl, rfl, rfl, rfl, rfl, rfl, trivial⟩, hS.sel [true], Nat.zero_le _, hb⟩
  ·
    rintro ⟨k, a, c⟩ σ w_l ⟨hs, hS, hk0, hr⟩
    dsimp only at hs hS hk0 hr ⊢
    rw [← upds_self hs]; clear hs
    refine wpIn_seq ?_
    refine reg ?_
    refine qq hS (g_lss rfl rfl) ?_
    refine ol_nil (thenN ?_)
    refine wpIn_seq ?_
    refine cond_s rfl ?_ ?_
    ·
      intro hc36
      try simp only [Bool.and_eq_true, Bool.or_eq_true, Bool.not_eq_true', Bool.and_eq_false_imp, Bool.or_eq_false_iff, Bool.not_eq_false', decide_eq_true_eq, decide_eq_false_iff_not] at hc36
      have hv1 := strV4 hbb (k := k) (by omega)
      have hv2 := strV4 hbb (k := k + 1) (by omega)
      have hv3 := getD_byt hbb k
      rw [strV] at hv2
      have hw38 : IntKind.u64.wrap (strV b k * 256) = strV b k * 256 := by rw [IntKind.wrap_u64]; omega
      have hw41 : IntKind.u64.wrap (strV b k * 256 + (b.drop k).headD 0) = strV b (k + 1) := by rw [drop_head, strV, IntKind.wrap_u64]; omega
      refine wpIn_skip ?_
      refine thenN ?_
      refine wpIn_seq ?_
      refine wpIn_block ?_
      refine reg ?_
      refine qq hS (g_movev (v := .int .u64 _) rfl) ?_
      refine qq hS (g_mulu rfl rfl hw38) ?_
      refine qq hS (g_move _) ?_
      refine qe (d_callv Tryd.call69 rfl rfl (next_c b9 a c (b.drop (k)) _ _ hS.imm (own_heap hS (k := 0) rfl) (own_none hS (k := 0) rfl) (hr.mono hS.ext) (fun y hy => hbb y (List.mem_of_mem_drop hy)))) ?_
      rintro _ w_4 ⟨rfl, aN, cN, hE, hrN⟩
      replace hS := hS.callX (k := 0) rfl hE
      have hrM := hrN I0 hr
      rw [List.tail_drop] at hS hrM
      refine qq hS (g_addu rfl rfl hw41) ?_
      refine qq hS (g_assignv (v := .int .u64 _) rfl) ?_
      refine ol_nil (blkN (thenN ?_))
      refine reg ?_
      refine qq hS (g_add rfl rfl (by omega) (by omega)) ?_
      refine qq hS (g_movev (v := .int .i64 _) rfl) ?_
      exact ⟨⟨k + 1, aN, cN⟩, _, rfl, ⟨⟨rfl, rfl, rfl, rfl, rfl, rfl, rfl, trivial⟩, hS.sel [true], by dsimp only; omega, hrM⟩, by dsimp only; omega⟩
    ·
      intro hc36
      try simp only [Bool.and_eq_true, Bool.or_eq_true, Bool.not_eq_true', Bool.and_eq_false_imp, Bool.or_eq_false_iff, Bool.not_eq_false', decide_eq_true_eq, decide_eq_false_iff_not] at hc36
      obtain rfl : k = 4 := by omega
      refine wpIn_exit ?_
      refine thenE (thenE (blkE ?_))
      refine thenN ?_
      refine wpIn_seq ?_
      refine reg ?_
      refine qq hS (g_assignv (v := .int .u64 _) rfl) ?_
      refine ol_nil (thenN ?_)
      refine wpIn_seq ?_
      refine reg ?_
      refine qq hS (g_movev (v := .int .i64 _) rfl) ?_
      refine qe (i_make0 hS Tryd.underlying25 info5 rfl rfl (by omega) (by omega) (by omega)) ?_
      clear hS
      rintro _ w_5 ⟨a44, p44, rfl, hS⟩
      refine qq hS (g_assign _) ?_
      refine ol_nil (thenN ?_)
      refine wpIn_seq ?_
      refine wpIn_seq ?_
      refine reg ?_
      refine qq hS (g_movev (v := .int .i64 _) rfl) ?_
      refine qq hS (g_movev (v := .int .i64 _) rfl) ?_
      refine ol_nil (thenN ?_)
      refine wpIn_block ?_
      refine loop (fun (z : DecW M) σ w => okS σ [(0, .int .i64 n), (1, .slice ad b.length cap), (8, mv), (10, .func (.func 69) #[] #[.pointer (some ⟨b9, 0, none⟩)]), (11, .int .u64 (ahd b z.cs)), (12, .int .u64 z.cs.size), (13, .slice z.d z.k z.e), (45, .int .i64 x.length), (46, .int .i64 z.k)] ∧ ∃ I, St [] w0 I0 I w [.cel b9 25 [.slice z.a (b.drop (4 + z.cs.out.length)).length z.c], .row (.slice z.d z.k z.e) 5 1 z.k (flat byteC (x.take z.k))] ∧ z.k ≤ x.length ∧ encUp M s0 x z.k = (z.cs, z.s) ∧ Good13 z.cs ∧ M.inv z.s ∧ RBytes I0 (.slice z.a (b.drop (4 + z.cs.out.length)).length z.c) (b.drop (4 + z.cs.out.length)) ∧ ∃ F, M.holds I mv z.s F ∧ ∀ c ∈ F, w0.heap.size ≤ c) (fun z => x.length - z.k) (⟨0, startC, s0, a, c, a44, p44⟩) ?_ ?_
      ·
        exact ⟨⟨rfl, rfl, rfl, rfl, congrArg (Value.int .u64) (by show strV b 4 = strV b (4 + 0) - valS startC; show strV b 4 = strV b 4 - 0; omega), rfl, rfl, rfl, rfl, trivial⟩, _, hS.ord [1, 0], Nat.zero_le _, rfl, ⟨start_ok, by show (16777216 : Int) ≤ 4294967295; decide⟩, hs0, hr, F1, hH1, hFn1⟩
      ·
        rintro ⟨k, cs, s, a, c_, d, e⟩ σ w_l ⟨hs, I, hS, hk0, hup, hGd, hMi, hr, F, hH, hFn⟩
        dsimp only at hs hS hk0 hup hGd hMi hr hH ⊢
        rw [← upds_self hs]; clear hs
        refine wpIn_seq ?_
        refine reg ?_
        refine qq hS (g_lss rfl rfl) ?_
        refine ol_nil (thenN ?_)
        refine wpIn_seq ?_
        refine cond_s rfl ?_ ?_
        ·
          intro hc47
          try simp only [Bool.and_eq_true, Bool.or_eq_true, Bool.not_eq_true', Bool.and_eq_false_imp, Bool.or_eq_false_iff, Bool.not_eq_false', decide_eq_true_eq, decide_eq_false_iff_not] at hc47
          obtain ⟨y, hyi⟩ : ∃ y, x[k]? = some y := ⟨_, List.getElem?_eq_getElem (by omega)⟩
          have hyb := hx y (List.mem_of_getElem? hyi)
          have hnx := encUp_succ (M := M) (s0 := s0) hyi
          rw [hup] at hnx
          have hA := hM.tab s hMi
          obtain ⟨A, hAe⟩ : ∃ A, M.tab s = A := ⟨_, rfl⟩
          have hg2 := step_good hGd hA (show y.toNat < 256 by omega)
          have hMi2 := hM.nxt s y.toNat hMi (by omega)
          replace hnx : encUp M s0 x (k + 1) = (stepC cs A y.toNat, M.nxt s y.toNat) := by rw [hnx]; unfold encF; rw [hAe]
          rw [hAe] at hA hg2
          obtain ⟨q1, q2, q3⟩ := sum_take_le A.c y.toNat hA.pos (by rw [hA.len]; omega)
          rw [hA.sum] at q3
          have hAt : 1 ≤ A.t ∧ A.t ≤ 65536 := ⟨by omega, hA.top⟩
          obtain ⟨r1, r2⟩ := quo_facts hGd.big hAt
          obtain ⟨u1, u2⟩ := hGd.ok.low
          obtain ⟨u3, u4⟩ := hGd.ok.size
          have hpo := put_ok hGd.ok (r := cs.size / A.t) (before := (A.c.take y.toNat).sum) (cnt := A.c.getD y.toNat 0) (t := A.t) (by omega) q1 q2 q3 r2
          obtain ⟨before, hbf⟩ : ∃ x, (A.c.take y.toNat).sum = x := ⟨_, rfl⟩
          obtain ⟨cnt, hct⟩ : ∃ x, A.c.getD y.toNat 0 = x := ⟨_, rfl⟩
          obtain ⟨r, hrq⟩ : ∃ x, cs.size / A.t = x := ⟨_, rfl⟩
          have hcn : A.c[y.toNat]? = some cnt := by rw [← hct, List.getD_eq_getElem?_getD]; rw [List.getElem?_eq_getElem (show y.toNat < A.c.length by rw [hA.len]; omega)]; rfl
          rw [hbf] at q1 q3 hpo
          rw [hct] at q2 q3 hpo
          rw [hrq] at r1 r2 hpo
          have e1 : r * before + r * cnt ≤ r * A.t := by rw [← Int.mul_add]; exact Int.mul_le_mul_of_nonneg_left q3 (by omega)
          have e2 : 0 ≤ r * before := Int.mul_nonneg (by omega) q1
          have e3 : 1 ≤ r * cnt := by have := Int.mul_le_mul (show 1 ≤ r by omega) q2 (by omega) (by omega); omega
          have hrle : r ≤ cs.size := by rw [← hrq]; exact Int.ediv_le_self _ (by omega)
          obtain ⟨rb, hrb⟩ : ∃ x, r * before = x := ⟨_, rfl⟩
          obtain ⟨rc, hrc⟩ : ∃ x, r * cnt = x := ⟨_, rfl⟩
          rw [hrb] at e1 e2
          rw [hrc] at e1 e3
          have hrw : IntKind.u64.wrap (cs.size / A.t) = r := by rw [hrq, IntKind.wrap_u64]; omega
          have hcb : ∀ n ∈ A.c.take y.toNat, 0 ≤ n ∧ n ≤ 4294967295 := fun n hn => by
            have h0 := List.mem_of_mem_take hn
            obtain ⟨j, hj, hjn⟩ := List.getElem_of_mem h0
            have h2 := sum_take_le A.c j hA.pos hj
            rw [List.getD_eq_getElem?_getD, List.getElem?_eq_getElem hj, hA.sum] at h2
            simp at h2; omega
          have hty : y.toNat = (A.c.take y.toNat).length := by rw [List.length_take, hA.len]; omega
          have hm1 : IntKind.u64.wrap (r * (A.c.take y.toNat).sum) = rb := by rw [hbf, hrb, IntKind.wrap_u64]; omega
          have hm3 : IntKind.u64.wrap cnt = cnt := by rw [IntKind.wrap_u64]; omega
          have hm4 : IntKind.u64.wrap (r * cnt) = rc := by rw [hrc, IntKind.wrap_u64]; omega
          have hstep : stepC cs A y.toNat = normC 4 (putC cs r before cnt) := by unfold stepC; rw [hrq, hbf, hct]
          have hpl := put_len cs r before cnt
          obtain ⟨P1, hP1⟩ : ∃ P, putC cs r before cnt = P := ⟨_, rfl⟩
          rw [hP1] at hpo hstep hpl
          rw [hstep] at hnx hg2
          have hin := ahd_in hFg.ok hFb (t := cs) (by have := hnest k hk0; rw [hup] at this; exact this)
          have hnk := hnest (k + 1) (by omega)
          rw [hnx] at hnk
          have hP1n : Nest Fin P1 := nest_norm 4 hnk
          have hP1i := ahd_in hFg.ok hFb hP1n
          obtain ⟨hp1, hp2⟩ := ahd_put (b := b) hGd.ok (r := r) (before := before) (cnt := cnt) (t := A.t) (by omega) q1 q2 q3 r2
          rw [hP1, hrb] at hp1
          rw [hP1, hrc] at hp2
          rw [hp2] at hP1i
          have hw86 : IntKind.u64.wrap (ahd b cs - rb) = ahd b P1 := by rw [IntKind.wrap_u64]; omega
          have hcy : IntKind.u8.wrap (y.toNat : Int) = y := by rw [IntKind.wrap_u8]; omega
          have hyt : (y.toNat : Int) = y := by omega
          have hrct : r * (before + cnt) = rb + rc := by rw [Int.mul_add, hrb, hrc]
          have htk := take_snoc hyi
          refine wpIn_skip ?_
          refine thenN ?_
          refine wpIn_seq ?_
          refine wpIn_block ?_
          refine wpIn_seq ?_
          refine reg ?_
          refine qq hS (g_move _) ?_
          refine qe (hM.counts _ mv s F hS.imm hH hMi rfl) ?_
          rintro v50 w_6 ⟨I2, F2, tb, hv50, hC, hH2, hT2, hF2⟩
          rw [hAe] at hv50 hT2
          subst hv50
          have hsz0 := hS.size
          replace hS := St.chg hI hS (fun c hc => ⟨hM.foot _ _ _ _ hH c hc, hFn c hc⟩) hC
          have hFn2 : ∀ c ∈ F2, w0.heap.size ≤ c := fun c hc => (hF2 c hc).elim (hFn c) (fun h => Nat.le_trans hsz0 h)
          refine qq hS (g_move _) ?_
          refine qq hS (g_extract rfl rfl) ?_
          refine qq hS (g_extract (v := .int .u64 _) rfl rfl) ?_
          refine qq hS (g_assign _) ?_
          refine qq hS (g_assignv (v := .int .u64 _) rfl) ?_
          refine ol_nil (thenN ?_)
          refine wpIn_seq ?_
          refine reg ?_
          refine qq hS (g_movev (v := .int .u64 _) rfl) ?_
          refine qq hS (g_movev (v := .int .u64 _) rfl) ?_
          refine qq hS (g_quou13 rfl rfl (by omega) (by omega) hrw) ?_
          refine qq hS (g_assignv (v := .int .u64 _) rfl) ?_
          refine ol_nil (thenN ?_)
          refine wpIn_seq ?_
          refine reg ?_
          refine qq hS (g_assignv (v := .int .i64 _) rfl) ?_
          refine qq hS (g_assignv (v := .int .u64 _) rfl) ?_
          refine ol_nil (thenN ?_)
          refine wpIn_seq ?_
          refine wpIn_block ?_
          refine loop (fun (c : Nat) σ w => okS σ [(0, .int .i64 n), (1, .slice ad b.length cap), (8, mv), (10, .func (.func 69) #[] #[.pointer (some ⟨b9, 0, none⟩)]), (11, .int .u64 (ahd b cs)), (12, .int .u64 cs.size), (13, .slice d k e), (14, .pointer (some ⟨tb, 0, none⟩)), (15, .int .u64 A.t), (16, .int .u64 r), (17, .int .i64 c), (18, .int .u64 (A.c.take c).sum), (45, .int .i64 x.length), (46, .int .i64 k)] ∧ St [] w0 I0 I2 w [.cel b9 25 [.slice a (b.drop (4 + cs.out.length)).length c_], .row (.slice d k e) 5 1 k (flat byteC (x.take k))] ∧ c ≤ y.toNat) (fun c => y.toNat - c) (0) ?_ ?_
          ·
            exact ⟨⟨rfl, rfl, rfl, rfl, rfl, rfl, rfl, rfl, rfl, rfl, rfl, rfl, rfl, rfl, trivial⟩, hS.sel [true, true], Nat.zero_le _⟩
          ·
            rintro c σ w_l ⟨hs, hS, hcl⟩
            rw [← upds_self hs]; clear hs
            refine wpIn_seq ?_
            refine wpIn_seq ?_
            obtain ⟨lc, hlc⟩ : ∃ n, A.c[c]? = some n := ⟨_, List.getElem?_eq_getElem (by rw [hA.len]; omega)⟩
            have hlt := sum_take_le A.c c hA.pos (by rw [hA.len]; omega)
            rw [List.getD_eq_getElem?_getD, hlc, hA.sum] at hlt
            obtain ⟨lt1, lt2, lt3⟩ := hlt
            dsimp only [Option.getD_some] at lt2 lt3
            have hrl1 : r * ((A.c.take c).sum + lc) ≤ r * A.t := Int.mul_le_mul_of_nonneg_left lt3 (by omega)
            have hrl2 : 0 ≤ r * ((A.c.take c).sum + lc) := Int.mul_nonneg (by omega) (by omega)
            have hw66 : IntKind.u64.wrap lc = lc := by rw [IntKind.wrap_u64]; omega
            have hw67 : IntKind.u64.wrap ((A.c.take c).sum + lc) = (A.c.take c).sum + lc := by rw [IntKind.wrap_u64]; omega
            have hw68 : IntKind.u64.wrap (r * ((A.c.take c).sum + lc)) = r * ((A.c.take c).sum + lc) := by rw [IntKind.wrap_u64]; omega
            refine reg ?_
            refine qq hS (g_movev (v := .int .i64 _) rfl) ?_
            refine qq hS (g_lss rfl rfl) ?_
            refine qq hS (g_movev (v := .bool _) rfl) ?_
            refine qu rfl rfl hS (fun hg => (g_movev (v := .int .u64 _) rfl)) ?_
            intro u59 hu59 hn59
            refine qu rfl rfl hS (fun hg => (g_movev (v := .int .u64 _) rfl)) ?_
            intro u60 hu60 hn60
            refine qu rfl rfl hS (fun hg => (g_move _)) ?_
            intro u61 hu61 hn61
            refine qu rfl rfl hS (fun hg => (g_movev (v := .int .i64 _) rfl)) ?_
            intro u62 hu62 hn62
            refine qu rfl rfl hS (fun hg => (g_nilCheck (hu61 hg))) ?_
            intro u63 hu63 hn63
            refine qu rfl rfl hS (fun hg => (g_indexArr (o' := c) Tryd.underlying125 Tryd.sizeOf51 (hu63 hg) (hu62 hg) (by omega) (by omega) (by omega))) ?_
            intro u64 hu64 hn64
            refine qu rfl rfl hS (fun hg => (g_ldA1 Tryd.isAgg51 (atCell hT2.hold) (hu64 hg) (adL_at hlc))) ?_
            intro u65 hu65 hn65
            refine qu rfl rfl hS (fun hg => (g_convu Tryd.underlying51 Tryd.underlying84 (hu65 hg) hw66)) ?_
            intro u66 hu66 hn66
            refine qu rfl rfl hS (fun hg => (g_addu (hu60 hg) (hu66 hg) hw67)) ?_
            intro u67 hu67 hn67
            refine qu rfl rfl hS (fun hg => (g_mulu (hu59 hg) (hu67 hg) hw68)) ?_
            intro u68 hu68 hn68
            refine qu rfl rfl hS (fun hg => (g_movev (v := .int .u64 _) rfl)) ?_
            intro u69 hu69 hn69
            refine qu rfl rfl hS (fun hg => (g_leq (hu68 hg) (hu69 hg))) ?_
            intro u70 hu70 hn70
            refine qq hS (g_and rfl rfl (fun hq => hu70 hq)) ?_
            refine ol_nil (thenN ?_)
            refine cond_s rfl ?_ ?_
            ·
              intro hc71
              clear hu59 hn59 hu60 hn60 hu61 hn61 hu62 hn62 hu63 hn63 hu64 hn64 hu65 hn65 hu66 hn66 hu67 hn67 hu68 hn68 hu69 hn69 hu70 hn70
              have hc1 : c < y.toNat := by
                rw [Bool.and_eq_true, decide_eq_true_eq, decide_eq_true_eq] at hc71
                refine Nat.lt_of_le_of_ne hcl fun e => ?_
                subst e
                rw [hcn] at hlc
                obtain rfl := Option.some.inj hlc
                rw [hbf, hrct] at hc71
                omega
              have hlc256 : c < 255 := by omega
              have hw79 : IntKind.u64.wrap ((A.c.take c).sum + lc) = (A.c.take (c + 1)).sum := by rw [sum_snoc13 hlc, IntKind.wrap_u64]; omega
              refine wpIn_skip ?_
              refine thenN ?_
              refine wpIn_block ?_
              refine wpIn_seq ?_
              refine reg ?_
              refine qq hS (g_movev (v := .int .u64 _) rfl) ?_
              refine qq hS (g_move _) ?_
              refine qq hS (g_movev (v := .int .i64 _) rfl) ?_
              refine qq hS (g_nilCheck rfl) ?_
              refine qq hS (g_indexArr (o' := c) Tryd.underlying125 Tryd.sizeOf51 rfl rfl (by omega) (by omega) (by omega)) ?_
              refine qq hS (g_ldA1 Tryd.isAgg51 (atCell hT2.hold) rfl (adL_at hlc)) ?_
              refine qq hS (g_convu Tryd.underlying51 Tryd.underlying84 rfl hw66) ?_
              refine qq hS (g_addu rfl rfl hw79) ?_
              refine qq hS (g_assignv (v := .int .u64 _) rfl) ?_
              refine ol_nil (thenN ?_)
              refine reg ?_
              refine qq hS (g_movev (v := .int .i64 _) rfl) ?_
              refine qq hS (g_add rfl rfl (by omega) (by omega)) ?_
              refine qq hS (g_assignv (v := .int .i64 _) rfl) ?_
              exact ⟨c + 1, _, rfl, ⟨⟨rfl, rfl, rfl, rfl, rfl, rfl, rfl, rfl, rfl, rfl, rfl, rfl, rfl, rfl, trivial⟩, hS.sel [true, true], by omega⟩, by omega⟩
            ·
              intro hc71
              clear hu59 hn59 hu60 hn60 hu61 hn61 hu62 hn62 hu63 hn63 hu64 hn64 hu65 hn65 hu66 hn66 hu67 hn67 hu68 hn68 hu69 hn69 hu70 hn70
              obtain rfl : c = y.toNat := by
                refine Nat.le_antisymm hcl (Nat.le_of_not_lt fun hlt => ?_)
                have h1 := sum_take_mono A.c (c + 1) y.toNat hA.pos (by omega)
                rw [sum_snoc13 hlc, hbf] at h1
                have h2 : r * ((A.c.take c).sum + lc) ≤ rb := by rw [← hrb]; exact Int.mul_le_mul_of_nonneg_left h1 (by omega)
                rw [Bool.and_eq_false_iff, decide_eq_false_iff_not, decide_eq_false_iff_not] at hc71
                omega
              rw [hbf] at *
              refine wpIn_exit ?_
              refine thenE (thenE (blkE ?_))
              refine thenN ?_
              refine wpIn_seq ?_
              refine reg ?_
              refine qq hS (g_movev (v := .int .u64 _) rfl) ?_
              refine qq hS (g_movev (v := .int .u64 _) rfl) ?_
              refine qq hS (g_movev (v := .int .u64 _) rfl) ?_
              refine qq hS (g_mulu rfl rfl hm1) ?_
              refine qq hS (g_subu rfl rfl hw86) ?_
              refine qq hS (g_assignv (v := .int .u64 _) rfl) ?_
              refine ol_nil (thenN ?_)
              refine wpIn_seq ?_
              refine reg ?_
              refine qq hS (g_movev (v := .int .u64 _) rfl) ?_
              refine qq hS (g_move _) ?_
              refine qq hS (g_movev (v := .int .i64 _) rfl) ?_
              refine qq hS (g_nilCheck rfl) ?_
              refine qq hS (g_indexArr (o' := y.toNat) Tryd.underlying125 Tryd.sizeOf51 rfl rfl (by omega) (by omega) (by omega)) ?_
              refine qq hS (g_ldA1 Tryd.isAgg51 (atCell hT2.hold) rfl (adL_at hcn)) ?_
              refine qq hS (g_convu Tryd.underlying51 Tryd.underlying84 rfl hm3) ?_
              refine qq hS (g_mulu rfl rfl hm4) ?_
              refine qq hS (g_assignv (v := .int .u64 _) rfl) ?_
              refine ol_nil (thenN ?_)
              refine wpIn_seq ?_
              refine wpIn_seq ?_
              refine reg ?_
              refine qq hS (g_movev (v := .int .u64 _) rfl) ?_
              refine qq hS (g_movev (v := .int .u64 _) rfl) ?_
              refine qq hS (g_geq rfl rfl) ?_
              refine ol_nil (thenN ?_)
              refine cond_f (congrArg Value.bool (decide_eq_false (by omega))) ?_
              refine wpIn_skip ?_
              refine thenN ?_
              refine wpIn_seq ?_
              refine wpIn_block ?_
              refine loop (fun (z : NrmW) σ w => okS σ [(0, .int .i64 n), (1, .slice ad b.length cap), (8, mv), (10, .func (.func 69) #[] #[.pointer (some ⟨b9, 0, none⟩)]), (11, .int .u64 (ahd b z.s)), (12, .int .u64 z.s.size), (13, .slice d k e), (17, .int .i64 y.toNat), (45, .int .i64 x.length), (46, .int .i64 k)] ∧ St [] w0 I0 I2 w [.cel b9 25 [.slice z.a (b.drop (4 + z.s.out.length)).length z.c], .row (.slice d k e) 5 1 k (flat byteC (x.take k))] ∧ normC z.j z.s = normC 4 P1 ∧ CsOk z.s ∧ 16777216 ≤ z.s.size * 256 ^ z.j ∧ RBytes I0 (.slice z.a (b.drop (4 + z.s.out.length)).length z.c) (b.drop (4 + z.s.out.length))) (fun z => z.j) (⟨4, P1, a, c_⟩) ?_ ?_
              ·
                refine ⟨⟨rfl, rfl, rfl, rfl, rfl, ?_, rfl, rfl, rfl, rfl, trivial⟩, ?_, rfl, hpo, ?_, ?_⟩
                · exact congrArg (Value.int .u64) hp2.symm
                · dsimp only; rw [hpl]; exact hS.sel [true, true]
                · dsimp only
                  have := hpo.size.1
                  omega
                · dsimp only; rw [hpl]; exact hr
              ·
                rintro ⟨j, t, a, c⟩ σ w_l ⟨hs, hS, hne, hns, hnb, hr⟩
                dsimp only at hs hS hne hns hnb hr ⊢
                rw [← upds_self hs]; clear hs
                refine wpIn_seq ?_
                refine wpIn_seq ?_
                refine reg ?_
                refine qq hS (g_movev (v := .int .u64 _) rfl) ?_
                refine qq hS (g_lss rfl rfl) ?_
                refine ol_nil (thenN ?_)
                refine cond_s rfl ?_ ?_
                ·
                  intro hc99
                  try simp only [Bool.and_eq_true, Bool.or_eq_true, Bool.not_eq_true', Bool.and_eq_false_imp, Bool.or_eq_false_iff, Bool.not_eq_false', decide_eq_true_eq, decide_eq_false_iff_not] at hc99
                  obtain ⟨j', rfl⟩ : ∃ j', j = j' + 1 := by
                    cases j with
                    | zero => simp at hnb; omega
                    | succ j' => exact ⟨j', rfl⟩
                  have hno := norm_one hns hc99
                  have hti := ahd_in hFg.ok hFb (t := t) (nest_norm (j' + 1) (by rw [hne]; exact hnk))
                  have hgb := getD_byt hbb (4 + t.out.length)
                  have hstp := ahd_step (b := b) (t := t)
                  have hne2 : normC j' ⟨t.low % 16777216 * 256, t.size * 256, t.out ++ [t.low / 16777216]⟩ = normC 4 P1 := by
                    rw [← hne]
                    conv => rhs; unfold normC
                    rw [if_pos hc99]
                  obtain ⟨v3, v4⟩ := hns.size
                  have hn3 : IntKind.u64.wrap (ahd b t * 256) = ahd b t * 256 := by rw [IntKind.wrap_u64]; omega
                  have hn4 : IntKind.u64.wrap (t.size * 256) = t.size * 256 := by rw [IntKind.wrap_u64]; omega
                  have hn5 : IntKind.u64.wrap (ahd b t * 256 + (b.drop (4 + t.out.length)).headD 0) = ahd b ⟨t.low % 16777216 * 256, t.size * 256, t.out ++ [t.low / 16777216]⟩ := by rw [drop_head, hstp, IntKind.wrap_u64]; omega
                  have hnb2 : 16777216 ≤ t.size * 256 * 256 ^ j' := by rw [pow_succ256, ← Int.mul_assoc] at hnb; exact hnb
                  refine wpIn_skip ?_
                  refine thenN ?_
                  refine wpIn_seq ?_
                  refine wpIn_block ?_
                  refine reg ?_
                  refine qq hS (g_movev (v := .int .u64 _) rfl) ?_
                  refine qq hS (g_mulu rfl rfl hn3) ?_
                  refine qq hS (g_move _) ?_
                  refine qe (d_callv Tryd.call69 rfl rfl (next_c b9 a c (b.drop (4 + t.out.length)) _ _ hS.imm (own_heap hS (k := 0) rfl) (own_none hS (k := 0) rfl) (hr.mono hS.ext) (fun y hy => hbb y (List.mem_of_mem_drop hy)))) ?_
                  rintro _ w_7 ⟨rfl, aN, cN, hE, hrN⟩
                  replace hS := hS.callX (k := 0) rfl hE
                  have hrM := hrN I0 hr
                  rw [List.tail_drop] at hS hrM
                  refine qq hS (g_addu rfl rfl hn5) ?_
                  refine qq hS (g_assignv (v := .int .u64 _) rfl) ?_
                  refine ol_nil (blkN (thenN ?_))
                  refine reg ?_
                  refine qq hS (g_movev (v := .int .u64 _) rfl) ?_
                  refine qq hS (g_mulu rfl rfl hn4) ?_
                  refine qq hS (g_assignv (v := .int .u64 _) rfl) ?_
                  refine ⟨⟨j', ⟨t.low % 16777216 * 256, t.size * 256, t.out ++ [t.low / 16777216]⟩, aN, cN⟩, _, rfl, ⟨⟨rfl, rfl, rfl, rfl, rfl, rfl, rfl, rfl, rfl, rfl, trivial⟩, ?_, hne2, hno, hnb2, ?_⟩, by dsimp only; omega⟩
                  · dsimp only; rw [List.length_append]; exact hS.sel [true, true]
                  · dsimp only; rw [List.length_append]; exact hrM
                ·
                  intro hc99
                  try simp only [Bool.and_eq_true, Bool.or_eq_true, Bool.not_eq_true', Bool.and_eq_false_imp, Bool.or_eq_false_iff, Bool.not_eq_false', decide_eq_true_eq, decide_eq_false_iff_not] at hc99
                  have hte : t = normC 4 P1 := by
                    rw [← hne]
                    cases j with
                    | zero => rfl
                    | succ j' => unfold normC; rw [if_neg (by omega)]
                  refine wpIn_exit ?_
                  refine thenE (thenE (blkE ?_))
                  refine thenN ?_
                  refine wpIn_seq ?_
                  subst hte
                  refine reg ?_
                  refine qq hS (g_move _) ?_
                  refine qq hS (g_movev (v := .int .i64 _) rfl) ?_
                  refine qq hS (g_convu Tryd.underlying3 Tryd.underlying5 rfl hcy) ?_
                  refine qe (d_lit (vs := [.int .u8 _]) (cs := [.int .u8 _]) hS Tryd.underlying25 Tryd.sizeOf5 Tryd.zeroValue5 rfl rfl rfl rfl (fun v hv => by simp only [List.mem_cons, List.not_mem_nil, or_false] at hv; subst hv; rfl) rfl) ?_
                  clear hS
                  rintro _ w_8 ⟨b_8, rfl, hS⟩
                  refine qe (i_appendO 2 0 hS rfl Tryd.underlying25 info5 rfl rfl rfl rfl rfl rfl rfl rfl (by omega) (by omega)) ?_
                  clear hS
                  rintro _ w_9 ⟨a111, p111, rfl, hS⟩
                  refine qq hS (g_assign _) ?_
                  refine ol_nil (thenN ?_)
                  refine reg ?_
                  refine qq hS (g_move _) ?_
                  refine qq hS (g_movev (v := .int .i64 _) rfl) ?_
                  refine qq hS (g_convu Tryd.underlying3 Tryd.underlying5 rfl hcy) ?_
                  refine qe (hM.saw _ mv s F2 y.toNat (by omega) hS.imm hH2 hMi rfl (congrArg (Value.int .u8) hyt.symm)) ?_
                  rintro _ w_10 ⟨I3, F3, rfl, hC, hH3, hF3⟩
                  have hsz1 := hS.size
                  replace hS := St.chg hI hS (fun c hc => ⟨hM.foot _ _ _ _ hH2 c hc, hFn2 c hc⟩) hC
                  have hFn3 : ∀ c ∈ F3, w0.heap.size ≤ c := fun c hc => (hF3 c hc).elim (hFn2 c) (fun h => Nat.le_trans hsz1 h)
                  refine ol_nil (blkN (thenN ?_))
                  refine reg ?_
                  refine qq hS (g_add rfl rfl (by omega) (by omega)) ?_
                  refine qq hS (g_movev (v := .int .i64 _) rfl) ?_
                  refine ⟨⟨k + 1, normC 4 P1, M.nxt s y.toNat, a, c, a111, p111⟩, _, rfl, ⟨⟨rfl, rfl, rfl, rfl, rfl, rfl, rfl, rfl, rfl, trivial⟩, _, ?_, by dsimp only; omega, hnx, hg2, hMi2, hr, F3, hH3, hFn3⟩, by dsimp only; omega⟩
                  dsimp only
                  rw [htk, flat_append, flat_one]
                  exact hS.sel [false, true, true]
        ·
          intro hc47
          try simp only [Bool.and_eq_true, Bool.or_eq_true, Bool.not_eq_true', Bool.and_eq_false_imp, Bool.or_eq_false_iff, Bool.not_eq_false', decide_eq_true_eq, decide_eq_false_iff_not] at hc47
          obtain rfl : k = x.length := by omega
          rw [List.take_length] at hS
          refine wpIn_exit ?_
          refine thenE (thenE (blkE ?_))
          refine thenN ?_
          refine wpIn_seq ?_
          refine wpIn_seq ?_
          have hF := St.freezeRow (u := .slice d x.length e) (m := x.length) (xs := x) byteC_len (by exact hS.ord [1, 0]) (rfl)
          clear hS
          obtain ⟨I_hout, hS, hI_hout, hout⟩ := hF
          refine reg ?_
          refine qq hS (g_movev (v := .int .i64 _) rfl) ?_
          refine qq hS (g_move _) ?_
          refine qe (d_call Tryd.call24 rfl (enc_c M hM s0 hs0 n hbeg _ _ x _ _ hS.imm hout hx hxl)) ?_
          rintro _ w_11 ⟨I_f, a120, c120, rfl, hE, h120⟩
          replace hS := hS.callE hE
          replace hout := hout.mono hE.ext
          refine qq hS (g_move _) ?_
          refine qq hS (g_extract rfl rfl) ?_
          refine qq hS (g_extract (v := .int .i64 _) rfl rfl) ?_
          refine qq hS (g_assign _) ?_
          refine qq hS (g_assignv (v := .int .i64 _) rfl) ?_
          refine ol_nil (thenN ?_)
          refine wpIn_seq ?_
          refine reg ?_
          refine qq hS (g_move _) ?_
          refine qq hS (g_move _) ?_
          refine qe (d_call Tryd.call70 rfl (equalB_c _ _ _ _ (encP M s0 x) b _ _ hS.imm h120 (hb.mono hS.ext))) ?_
          rintro _ w_12 ⟨rfl, hE⟩
          replace hS := hS.callE hE
          refine qq hS (g_not rfl) ?_
          refine ol_nil (thenN ?_)
          refine cond_f (congrArg Value.bool (by rw [decide_eq_true hbe]; rfl)) ?_
          refine wpIn_skip ?_
          refine thenN ?_
          refine wpIn_seq ?_
          refine reg ?_
          refine qq hS (g_move _) ?_
          refine qq hS (g_assign _) ?_
          refine qq hS (g_assignv (v := .int .i64 _) rfl) ?_
          refine ol_nil (thenN ?_)
          refine wpIn_ret ?_
          refine ret2 Tryd.results64 (rv_tmp rfl) (rv_tmp (v := .int .i64 _) rfl) ?_
          exact ⟨_, _, _, rfl, hS.nil, hout⟩

end Go.Proofs.YtdgnojckkjfhfaaDoor

