/- Functions of package slices at frozen slices: Equal, BinarySearch, Chunk; a copy of words. Conditions: as said. -/
import Derived.Test.YtaklmbhfmpdinaaGreatDoorWords2
import Derived.Test.YtaklmbhfmpdinaaGreatDoorPlaces
namespace Go.Proofs.YtaklmbhfmpdinaaGreatDoor
open Go Go.RowKit Go.Inl
set_option linter.unusedSimpArgs false
set_option linter.unusedVariables false
theorem take_eq {α : Type} {a b : List α} {k : Nat} {x y : α} (hx : a[k]? = some x) (hy : b[k]? = some y) (h : a.take k = b.take k) (e : x = y) : a.take (k + 1) = b.take (k + 1) := by
  rw [take_snoc hx, take_snoc hy, h, e]
theorem dec_ne {α : Type} [DecidableEq α] {a b : List α} {k : Nat} {x y : α} (hx : a[k]? = some x) (hy : b[k]? = some y) (e : x ≠ y) : decide (a = b) = false := by
  rw [decide_eq_false_iff_not]; intro h; subst h; rw [hx] at hy; exact e (Option.some.inj hy)
theorem dec_take {α : Type} [DecidableEq α] {a b : List α} (hl : a.length = b.length) (h : a.take a.length = b.take a.length) : decide (a = b) = true := by
  rw [decide_eq_true_iff]; rw [List.take_length, hl, List.take_length] at h; exact h
/-- A place in a list that grows. -/
structure SrtAt (l : List Int) (n : Int) (i : Nat) : Prop where
  at_ : l[i]? = some n
  low : ∀ j x, l[j]? = some x → (x < n ↔ j < i)
theorem srt_at {l : List Int} (h : l.Pairwise (· < ·)) {n : Int} {i : Nat} (hi : l[i]? = some n) : SrtAt l n i := by
  refine ⟨hi, fun j x hj => ?_⟩
  have h1 := (List.getElem?_eq_some_iff.1 hi).1
  have h2 := (List.getElem?_eq_some_iff.1 hj).1
  have e1 := (List.getElem?_eq_some_iff.1 hi).2
  have e2 := (List.getElem?_eq_some_iff.1 hj).2
  have hp := List.pairwise_iff_getElem.1 h
  constructor
  · intro hx
    rcases Nat.lt_trichotomy j i with h | h | h
    · exact h
    · subst h; omega
    · have := hp i j h1 h2 h; omega
  · intro hji
    have := hp j i h2 h1 hji; omega
structure BsW where
  lo : Nat
  hi : Nat

set_option maxHeartbeats 1000000 in
theorem eqW_c (ad bd : Option Addr) (cap capb : Nat) (a b : List Int) (w0 : World) (I0 : Imm) (hI : Sat I0 w0) (ha : RFl I0 1 u32C (.slice ad a.length cap) a) (hb : RFl I0 1 u32C (.slice bd b.length capb) b) :
    Ctr Tryz.prog 124 [.slice ad a.length cap, .slice bd b.length capb] w0 (fun v w' => v = .bool (decide (a = b)) ∧ Ext w0 I0 w' I0) := by
  have hle := RSl.le ha
  simp only [maxLen] at hle
  refine fn (n := 26) Tryz.func124 rfl rfl rfl ?_
  have hS := St.start hI
  refine wpIn_seq ?_
  refine reg ?_
  refine qq hS (g_assignv (v := .bool _) rfl) ?_
  refine ol_nil (thenN ?_)
  refine wpIn_seq ?_
  refine wpIn_seq ?_
  refine reg ?_
  refine qq hS (g_move _) ?_
  refine qq hS (g_lenI rfl Tryz.underlying72 ha rfl) ?_
  refine qq hS (g_move _) ?_
  refine qq hS (g_lenI rfl Tryz.underlying72 hb rfl) ?_
  refine qq hS (g_neq rfl rfl) ?_
  refine ol_nil (thenN ?_)
  refine cond_s rfl ?_ ?_
  ·
    intro hc10
    simp only [Bool.not_eq_true', decide_eq_false_iff_not, Bool.not_eq_false', decide_eq_true_eq] at hc10
    have e : decide (a = b) = false := by rw [decide_eq_false_iff_not]; intro h; subst h; omega
    refine wpIn_seq ?_
    refine reg ?_
    refine qq hS (g_assignv (v := .bool _) rfl) ?_
    refine ol_nil (thenN ?_)
    refine wpIn_ret ?_
    refine thenR ?_
    refine ret1 Tryz.results124 (rv_tmp (v := .bool _) rfl) ?_
    exact ⟨by rw [e], hS.nil⟩
  ·
    intro hc10
    simp only [Bool.not_eq_true', decide_eq_false_iff_not, Bool.not_eq_false', decide_eq_true_eq] at hc10
    have hlen : a.length = b.length := by omega
    refine wpIn_skip ?_
    refine thenN ?_
    refine wpIn_seq ?_
    refine wpIn_seq ?_
    refine reg ?_
    refine qq hS (g_move _) ?_
    refine qq hS (g_lenI rfl Tryz.underlying72 ha rfl) ?_
    refine qq hS (g_movev (v := .int .i64 _) rfl) ?_
    refine ol_nil (thenN ?_)
    refine wpIn_block ?_
    refine loop (fun (k : Nat) σ w => okS σ [(0, .slice ad a.length cap), (1, .slice bd b.length capb), (12, .int .i64 a.length), (13, .int .i64 k)] ∧ St [] w0 I0 I0 w [] ∧ k ≤ a.length ∧ a.take k = b.take k) (fun k => a.length - k) (0) ?_ ?_
    ·
      exact ⟨⟨rfl, rfl, rfl, rfl, trivial⟩, hS.sel [], by omega, rfl⟩
    ·
      rintro k σ w_l ⟨hs, hS, hk0, heq⟩
      rw [← upds_self hs]; clear hs
      refine wpIn_seq ?_
      refine reg ?_
      refine qq hS (g_lss rfl rfl) ?_
      refine ol_nil (thenN ?_)
      refine wpIn_seq ?_
      refine cond_s rfl ?_ ?_
      ·
        intro hc14
        try simp only [Bool.and_eq_true, Bool.or_eq_true, Bool.not_eq_true', Bool.and_eq_false_imp, Bool.or_eq_false_iff, Bool.not_eq_false', decide_eq_true_eq, decide_eq_false_iff_not] at hc14
        obtain ⟨x, hxi⟩ : ∃ x, a[k]? = some x := ⟨_, List.getElem?_eq_getElem (by omega)⟩
        obtain ⟨y, hyi⟩ : ∃ y, b[k]? = some y := ⟨_, List.getElem?_eq_getElem (by omega)⟩
        have hxA := ha.at hxi
        have hyA := hb.at hyi
        refine wpIn_skip ?_
        refine thenN ?_
        refine wpIn_seq ?_
        refine wpIn_block ?_
        refine wpIn_seq ?_
        refine reg ?_
        refine qq hS (g_movev (v := .int .i64 _) rfl) ?_
        refine qq hS (g_assignv (v := .int .i64 _) rfl) ?_
        refine ol_nil (thenN ?_)
        refine wpIn_seq ?_
        refine draw (.cons 0 .pure (.cons 1 .pure (.cons 2 .pure (.cons 3 .held (.cons 4 .pure (.cons 5 .pure (.cons 6 .pure (.cons 7 .held (.cons 8 .pure .nil))))))))) mixed (by kernel_rfl) hS ?_
        intro w_1 hS
        refine sp rfl (g_move _) ?_
        refine sp rfl (g_movev (v := .int .i64 _) rfl) ?_
        refine sp rfl (g_ixI Tryz.underlying72 Tryz.sizeOf93 ha rfl rfl (by omega) (by omega)) ?_
        refine sh rfl (g_ldE1 Tryz.isAgg93 hxA rfl rfl) ?_
        refine sp rfl (g_move _) ?_
        refine sp rfl (g_movev (v := .int .i64 _) rfl) ?_
        refine sp rfl (g_ixI Tryz.underlying72 Tryz.sizeOf93 hb rfl rfl (by omega) (by omega)) ?_
        refine sh rfl (g_ldE1 Tryz.isAgg93 hyA rfl rfl) ?_
        refine sp rfl (g_neq rfl rfl) ?_
        refine sn (thenN ?_)
        refine cond_s rfl ?_ ?_
        ·
          intro hc24
          try simp only [Bool.and_eq_true, Bool.or_eq_true, Bool.not_eq_true', Bool.and_eq_false_imp, Bool.or_eq_false_iff, Bool.not_eq_false', decide_eq_true_eq, decide_eq_false_iff_not] at hc24
          have e := dec_ne hxi hyi hc24
          refine wpIn_seq ?_
          refine reg ?_
          refine qq hS (g_assignv (v := .bool _) rfl) ?_
          refine ol_nil (thenN ?_)
          refine wpIn_ret ?_
          refine blkR (thenR (thenR (blkR (thenR ?_))))
          refine ret1 Tryz.results124 (rv_tmp (v := .bool _) rfl) ?_
          exact ⟨by rw [e], hS.nil⟩
        ·
          intro hc24
          try simp only [Bool.and_eq_true, Bool.or_eq_true, Bool.not_eq_true', Bool.and_eq_false_imp, Bool.or_eq_false_iff, Bool.not_eq_false', decide_eq_true_eq, decide_eq_false_iff_not] at hc24
          have heq2 := take_eq hxi hyi heq hc24
          refine wpIn_skip ?_
          refine blkN (thenN ?_)
          refine reg ?_
          refine qq hS (g_add rfl rfl (by omega) (by omega)) ?_
          refine qq hS (g_movev (v := .int .i64 _) rfl) ?_
          exact ⟨k + 1, _, rfl, ⟨⟨rfl, rfl, rfl, rfl, trivial⟩, hS.sel [], by omega, heq2⟩, by omega⟩
      ·
        intro hc14
        try simp only [Bool.and_eq_true, Bool.or_eq_true, Bool.not_eq_true', Bool.and_eq_false_imp, Bool.or_eq_false_iff, Bool.not_eq_false', decide_eq_true_eq, decide_eq_false_iff_not] at hc14
        have hk : k = a.length := by omega
        subst hk
        have e := dec_take hlen heq
        refine wpIn_exit ?_
        refine thenE (thenE (blkE ?_))
        refine thenN ?_
        refine wpIn_seq ?_
        refine reg ?_
        refine qq hS (g_assignv (v := .bool _) rfl) ?_
        refine ol_nil (thenN ?_)
        refine wpIn_ret ?_
        refine ret1 Tryz.results124 (rv_tmp (v := .bool _) rfl) ?_
        exact ⟨by rw [e], hS.nil⟩

set_option maxHeartbeats 1000000 in
theorem eqB_c (ad bd : Option Addr) (cap capb : Nat) (a b : List Bool) (w0 : World) (I0 : Imm) (hI : Sat I0 w0) (ha : RFl I0 1 boolC (.slice ad a.length cap) a) (hb : RFl I0 1 boolC (.slice bd b.length capb) b) :
    Ctr Tryz.prog 125 [.slice ad a.length cap, .slice bd b.length capb] w0 (fun v w' => v = .bool (decide (a = b)) ∧ Ext w0 I0 w' I0) := by
  have hle := RSl.le ha
  simp only [maxLen] at hle
  refine fn (n := 26) Tryz.func125 rfl rfl rfl ?_
  have hS := St.start hI
  refine wpIn_seq ?_
  refine reg ?_
  refine qq hS (g_assignv (v := .bool _) rfl) ?_
  refine ol_nil (thenN ?_)
  refine wpIn_seq ?_
  refine wpIn_seq ?_
  refine reg ?_
  refine qq hS (g_move _) ?_
  refine qq hS (g_lenI rfl Tryz.underlying73 ha rfl) ?_
  refine qq hS (g_move _) ?_
  refine qq hS (g_lenI rfl Tryz.underlying73 hb rfl) ?_
  refine qq hS (g_neq rfl rfl) ?_
  refine ol_nil (thenN ?_)
  refine cond_s rfl ?_ ?_
  ·
    intro hc10
    simp only [Bool.not_eq_true', decide_eq_false_iff_not, Bool.not_eq_false', decide_eq_true_eq] at hc10
    have e : decide (a = b) = false := by rw [decide_eq_false_iff_not]; intro h; subst h; omega
    refine wpIn_seq ?_
    refine reg ?_
    refine qq hS (g_assignv (v := .bool _) rfl) ?_
    refine ol_nil (thenN ?_)
    refine wpIn_ret ?_
    refine thenR ?_
    refine ret1 Tryz.results125 (rv_tmp (v := .bool _) rfl) ?_
    exact ⟨by rw [e], hS.nil⟩
  ·
    intro hc10
    simp only [Bool.not_eq_true', decide_eq_false_iff_not, Bool.not_eq_false', decide_eq_true_eq] at hc10
    have hlen : a.length = b.length := by omega
    refine wpIn_skip ?_
    refine thenN ?_
    refine wpIn_seq ?_
    refine wpIn_seq ?_
    refine reg ?_
    refine qq hS (g_move _) ?_
    refine qq hS (g_lenI rfl Tryz.underlying73 ha rfl) ?_
    refine qq hS (g_movev (v := .int .i64 _) rfl) ?_
    refine ol_nil (thenN ?_)
    refine wpIn_block ?_
    refine loop (fun (k : Nat) σ w => okS σ [(0, .slice ad a.length cap), (1, .slice bd b.length capb), (12, .int .i64 a.length), (13, .int .i64 k)] ∧ St [] w0 I0 I0 w [] ∧ k ≤ a.length ∧ a.take k = b.take k) (fun k => a.length - k) (0) ?_ ?_
    ·
      exact ⟨⟨rfl, rfl, rfl, rfl, trivial⟩, hS.sel [], by omega, rfl⟩
    ·
      rintro k σ w_l ⟨hs, hS, hk0, heq⟩
      rw [← upds_self hs]; clear hs
      refine wpIn_seq ?_
      refine reg ?_
      refine qq hS (g_lss rfl rfl) ?_
      refine ol_nil (thenN ?_)
      refine wpIn_seq ?_
      refine cond_s rfl ?_ ?_
      ·
        intro hc14
        try simp only [Bool.and_eq_true, Bool.or_eq_true, Bool.not_eq_true', Bool.and_eq_false_imp, Bool.or_eq_false_iff, Bool.not_eq_false', decide_eq_true_eq, decide_eq_false_iff_not] at hc14
        obtain ⟨x, hxi⟩ : ∃ x, a[k]? = some x := ⟨_, List.getElem?_eq_getElem (by omega)⟩
        obtain ⟨y, hyi⟩ : ∃ y, b[k]? = some y := ⟨_, List.getElem?_eq_getElem (by omega)⟩
        have hxA := ha.at hxi
        have hyA := hb.at hyi
        refine wpIn_skip ?_
        refine thenN ?_
        refine wpIn_seq ?_
        refine wpIn_block ?_
        refine wpIn_seq ?_
        refine reg ?_
        refine qq hS (g_movev (v := .int .i64 _) rfl) ?_
        refine qq hS (g_assignv (v := .int .i64 _) rfl) ?_
        refine ol_nil (thenN ?_)
        refine wpIn_seq ?_
        refine draw (.cons 0 .pure (.cons 1 .pure (.cons 2 .pure (.cons 3 .held (.cons 4 .pure (.cons 5 .pure (.cons 6 .pure (.cons 7 .held (.cons 8 .pure .nil))))))))) mixed (by kernel_rfl) hS ?_
        intro w_1 hS
        refine sp rfl (g_move _) ?_
        refine sp rfl (g_movev (v := .int .i64 _) rfl) ?_
        refine sp rfl (g_ixI Tryz.underlying73 Tryz.sizeOf4 ha rfl rfl (by omega) (by omega)) ?_
        refine sh rfl (g_ldE1 Tryz.isAgg4 hxA rfl rfl) ?_
        refine sp rfl (g_move _) ?_
        refine sp rfl (g_movev (v := .int .i64 _) rfl) ?_
        refine sp rfl (g_ixI Tryz.underlying73 Tryz.sizeOf4 hb rfl rfl (by omega) (by omega)) ?_
        refine sh rfl (g_ldE1 Tryz.isAgg4 hyA rfl rfl) ?_
        refine sp rfl (g_neqb Tryz.underlying4 rfl rfl) ?_
        refine sn (thenN ?_)
        refine cond_s rfl ?_ ?_
        ·
          intro hc24
          have e := dec_ne hxi hyi (by simpa using hc24)
          refine wpIn_seq ?_
          refine reg ?_
          refine qq hS (g_assignv (v := .bool _) rfl) ?_
          refine ol_nil (thenN ?_)
          refine wpIn_ret ?_
          refine blkR (thenR (thenR (blkR (thenR ?_))))
          refine ret1 Tryz.results125 (rv_tmp (v := .bool _) rfl) ?_
          exact ⟨by rw [e], hS.nil⟩
        ·
          intro hc24
          have heq2 := take_eq hxi hyi heq (by simpa using hc24)
          refine wpIn_skip ?_
          refine blkN (thenN ?_)
          refine reg ?_
          refine qq hS (g_add rfl rfl (by omega) (by omega)) ?_
          refine qq hS (g_movev (v := .int .i64 _) rfl) ?_
          exact ⟨k + 1, _, rfl, ⟨⟨rfl, rfl, rfl, rfl, trivial⟩, hS.sel [], by omega, heq2⟩, by omega⟩
      ·
        intro hc14
        try simp only [Bool.and_eq_true, Bool.or_eq_true, Bool.not_eq_true', Bool.and_eq_false_imp, Bool.or_eq_false_iff, Bool.not_eq_false', decide_eq_true_eq, decide_eq_false_iff_not] at hc14
        have hk : k = a.length := by omega
        subst hk
        have e := dec_take hlen heq
        refine wpIn_exit ?_
        refine thenE (thenE (blkE ?_))
        refine thenN ?_
        refine wpIn_seq ?_
        refine reg ?_
        refine qq hS (g_assignv (v := .bool _) rfl) ?_
        refine ol_nil (thenN ?_)
        refine wpIn_ret ?_
        refine ret1 Tryz.results125 (rv_tmp (v := .bool _) rfl) ?_
        exact ⟨by rw [e], hS.nil⟩

set_option maxHeartbeats 1000000 in
theorem eqI_c (ad bd : Option Addr) (cap capb : Nat) (a b : List Int) (w0 : World) (I0 : Imm) (hI : Sat I0 w0) (ha : RFl I0 1 intC (.slice ad a.length cap) a) (hb : RFl I0 1 intC (.slice bd b.length capb) b) :
    Ctr Tryz.prog 126 [.slice ad a.length cap, .slice bd b.length capb] w0 (fun v w' => v = .bool (decide (a = b)) ∧ Ext w0 I0 w' I0) := by
  have hle := RSl.le ha
  simp only [maxLen] at hle
  refine fn (n := 26) Tryz.func126 rfl rfl rfl ?_
  have hS := St.start hI
  refine wpIn_seq ?_
  refine reg ?_
  refine qq hS (g_assignv (v := .bool _) rfl) ?_
  refine ol_nil (thenN ?_)
  refine wpIn_seq ?_
  refine wpIn_seq ?_
  refine reg ?_
  refine qq hS (g_move _) ?_
  refine qq hS (g_lenI rfl Tryz.underlying74 ha rfl) ?_
  refine qq hS (g_move _) ?_
  refine qq hS (g_lenI rfl Tryz.underlying74 hb rfl) ?_
  refine qq hS (g_neq rfl rfl) ?_
  refine ol_nil (thenN ?_)
  refine cond_s rfl ?_ ?_
  ·
    intro hc10
    simp only [Bool.not_eq_true', decide_eq_false_iff_not, Bool.not_eq_false', decide_eq_true_eq] at hc10
    have e : decide (a = b) = false := by rw [decide_eq_false_iff_not]; intro h; subst h; omega
    refine wpIn_seq ?_
    refine reg ?_
    refine qq hS (g_assignv (v := .bool _) rfl) ?_
    refine ol_nil (thenN ?_)
    refine wpIn_ret ?_
    refine thenR ?_
    refine ret1 Tryz.results126 (rv_tmp (v := .bool _) rfl) ?_
    exact ⟨by rw [e], hS.nil⟩
  ·
    intro hc10
    simp only [Bool.not_eq_true', decide_eq_false_iff_not, Bool.not_eq_false', decide_eq_true_eq] at hc10
    have hlen : a.length = b.length := by omega
    refine wpIn_skip ?_
    refine thenN ?_
    refine wpIn_seq ?_
    refine wpIn_seq ?_
    refine reg ?_
    refine qq hS (g_move _) ?_
    refine qq hS (g_lenI rfl Tryz.underlying74 ha rfl) ?_
    refine qq hS (g_movev (v := .int .i64 _) rfl) ?_
    refine ol_nil (thenN ?_)
    refine wpIn_block ?_
    refine loop (fun (k : Nat) σ w => okS σ [(0, .slice ad a.length cap), (1, .slice bd b.length capb), (12, .int .i64 a.length), (13, .int .i64 k)] ∧ St [] w0 I0 I0 w [] ∧ k ≤ a.length ∧ a.take k = b.take k) (fun k => a.length - k) (0) ?_ ?_
    ·
      exact ⟨⟨rfl, rfl, rfl, rfl, trivial⟩, hS.sel [], by omega, rfl⟩
    ·
      rintro k σ w_l ⟨hs, hS, hk0, heq⟩
      rw [← upds_self hs]; clear hs
      refine wpIn_seq ?_
      refine reg ?_
      refine qq hS (g_lss rfl rfl) ?_
      refine ol_nil (thenN ?_)
      refine wpIn_seq ?_
      refine cond_s rfl ?_ ?_
      ·
        intro hc14
        try simp only [Bool.and_eq_true, Bool.or_eq_true, Bool.not_eq_true', Bool.and_eq_false_imp, Bool.or_eq_false_iff, Bool.not_eq_false', decide_eq_true_eq, decide_eq_false_iff_not] at hc14
        obtain ⟨x, hxi⟩ : ∃ x, a[k]? = some x := ⟨_, List.getElem?_eq_getElem (by omega)⟩
        obtain ⟨y, hyi⟩ : ∃ y, b[k]? = some y := ⟨_, List.getElem?_eq_getElem (by omega)⟩
        have hxA := ha.at hxi
        have hyA := hb.at hyi
        refine wpIn_skip ?_
        refine thenN ?_
        refine wpIn_seq ?_
        refine wpIn_block ?_
        refine wpIn_seq ?_
        refine reg ?_
        refine qq hS (g_movev (v := .int .i64 _) rfl) ?_
        refine qq hS (g_assignv (v := .int .i64 _) rfl) ?_
        refine ol_nil (thenN ?_)
        refine wpIn_seq ?_
        refine draw (.cons 0 .pure (.cons 1 .pure (.cons 2 .pure (.cons 3 .held (.cons 4 .pure (.cons 5 .pure (.cons 6 .pure (.cons 7 .held (.cons 8 .pure .nil))))))))) mixed (by kernel_rfl) hS ?_
        intro w_1 hS
        refine sp rfl (g_move _) ?_
        refine sp rfl (g_movev (v := .int .i64 _) rfl) ?_
        refine sp rfl (g_ixI Tryz.underlying74 Tryz.sizeOf3 ha rfl rfl (by omega) (by omega)) ?_
        refine sh rfl (g_ldE1 Tryz.isAgg3 hxA rfl rfl) ?_
        refine sp rfl (g_move _) ?_
        refine sp rfl (g_movev (v := .int .i64 _) rfl) ?_
        refine sp rfl (g_ixI Tryz.underlying74 Tryz.sizeOf3 hb rfl rfl (by omega) (by omega)) ?_
        refine sh rfl (g_ldE1 Tryz.isAgg3 hyA rfl rfl) ?_
        refine sp rfl (g_neq rfl rfl) ?_
        refine sn (thenN ?_)
        refine cond_s rfl ?_ ?_
        ·
          intro hc24
          try simp only [Bool.and_eq_true, Bool.or_eq_true, Bool.not_eq_true', Bool.and_eq_false_imp, Bool.or_eq_false_iff, Bool.not_eq_false', decide_eq_true_eq, decide_eq_false_iff_not] at hc24
          have e := dec_ne hxi hyi hc24
          refine wpIn_seq ?_
          refine reg ?_
          refine qq hS (g_assignv (v := .bool _) rfl) ?_
          refine ol_nil (thenN ?_)
          refine wpIn_ret ?_
          refine blkR (thenR (thenR (blkR (thenR ?_))))
          refine ret1 Tryz.results126 (rv_tmp (v := .bool _) rfl) ?_
          exact ⟨by rw [e], hS.nil⟩
        ·
          intro hc24
          try simp only [Bool.and_eq_true, Bool.or_eq_true, Bool.not_eq_true', Bool.and_eq_false_imp, Bool.or_eq_false_iff, Bool.not_eq_false', decide_eq_true_eq, decide_eq_false_iff_not] at hc24
          have heq2 := take_eq hxi hyi heq hc24
          refine wpIn_skip ?_
          refine blkN (thenN ?_)
          refine reg ?_
          refine qq hS (g_add rfl rfl (by omega) (by omega)) ?_
          refine qq hS (g_movev (v := .int .i64 _) rfl) ?_
          exact ⟨k + 1, _, rfl, ⟨⟨rfl, rfl, rfl, rfl, trivial⟩, hS.sel [], by omega, heq2⟩, by omega⟩
      ·
        intro hc14
        try simp only [Bool.and_eq_true, Bool.or_eq_true, Bool.not_eq_true', Bool.and_eq_false_imp, Bool.or_eq_false_iff, Bool.not_eq_false', decide_eq_true_eq, decide_eq_false_iff_not] at hc14
        have hk : k = a.length := by omega
        subst hk
        have e := dec_take hlen heq
        refine wpIn_exit ?_
        refine thenE (thenE (blkE ?_))
        refine thenN ?_
        refine wpIn_seq ?_
        refine reg ?_
        refine qq hS (g_assignv (v := .bool _) rfl) ?_
        refine ol_nil (thenN ?_)
        refine wpIn_ret ?_
        refine ret1 Tryz.results126 (rv_tmp (v := .bool _) rfl) ?_
        exact ⟨by rw [e], hS.nil⟩

set_option maxHeartbeats 1000000 in
theorem eqY_c (ad bd : Option Addr) (cap capb : Nat) (a b : List Int) (w0 : World) (I0 : Imm) (hI : Sat I0 w0) (ha : RFl I0 1 byteC (.slice ad a.length cap) a) (hb : RFl I0 1 byteC (.slice bd b.length capb) b) :
    Ctr Tryz.prog 82 [.slice ad a.length cap, .slice bd b.length capb] w0 (fun v w' => v = .bool (decide (a = b)) ∧ Ext w0 I0 w' I0) := by
  have hle := RSl.le ha
  simp only [maxLen] at hle
  refine fn (n := 26) Tryz.func82 rfl rfl rfl ?_
  have hS := St.start hI
  refine wpIn_seq ?_
  refine reg ?_
  refine qq hS (g_assignv (v := .bool _) rfl) ?_
  refine ol_nil (thenN ?_)
  refine wpIn_seq ?_
  refine wpIn_seq ?_
  refine reg ?_
  refine qq hS (g_move _) ?_
  refine qq hS (g_lenI rfl Tryz.underlying22 ha rfl) ?_
  refine qq hS (g_move _) ?_
  refine qq hS (g_lenI rfl Tryz.underlying22 hb rfl) ?_
  refine qq hS (g_neq rfl rfl) ?_
  refine ol_nil (thenN ?_)
  refine cond_s rfl ?_ ?_
  ·
    intro hc10
    simp only [Bool.not_eq_true', decide_eq_false_iff_not, Bool.not_eq_false', decide_eq_true_eq] at hc10
    have e : decide (a = b) = false := by rw [decide_eq_false_iff_not]; intro h; subst h; omega
    refine wpIn_seq ?_
    refine reg ?_
    refine qq hS (g_assignv (v := .bool _) rfl) ?_
    refine ol_nil (thenN ?_)
    refine wpIn_ret ?_
    refine thenR ?_
    refine ret1 Tryz.results82 (rv_tmp (v := .bool _) rfl) ?_
    exact ⟨by rw [e], hS.nil⟩
  ·
    intro hc10
    simp only [Bool.not_eq_true', decide_eq_false_iff_not, Bool.not_eq_false', decide_eq_true_eq] at hc10
    have hlen : a.length = b.length := by omega
    refine wpIn_skip ?_
    refine thenN ?_
    refine wpIn_seq ?_
    refine wpIn_seq ?_
    refine reg ?_
    refine qq hS (g_move _) ?_
    refine qq hS (g_lenI rfl Tryz.underlying22 ha rfl) ?_
    refine qq hS (g_movev (v := .int .i64 _) rfl) ?_
    refine ol_nil (thenN ?_)
    refine wpIn_block ?_
    refine loop (fun (k : Nat) σ w => okS σ [(0, .slice ad a.length cap), (1, .slice bd b.length capb), (12, .int .i64 a.length), (13, .int .i64 k)] ∧ St [] w0 I0 I0 w [] ∧ k ≤ a.length ∧ a.take k = b.take k) (fun k => a.length - k) (0) ?_ ?_
    ·
      exact ⟨⟨rfl, rfl, rfl, rfl, trivial⟩, hS.sel [], by omega, rfl⟩
    ·
      rintro k σ w_l ⟨hs, hS, hk0, heq⟩
      rw [← upds_self hs]; clear hs
      refine wpIn_seq ?_
      refine reg ?_
      refine qq hS (g_lss rfl rfl) ?_
      refine ol_nil (thenN ?_)
      refine wpIn_seq ?_
      refine cond_s rfl ?_ ?_
      ·
        intro hc14
        try simp only [Bool.and_eq_true, Bool.or_eq_true, Bool.not_eq_true', Bool.and_eq_false_imp, Bool.or_eq_false_iff, Bool.not_eq_false', decide_eq_true_eq, decide_eq_false_iff_not] at hc14
        obtain ⟨x, hxi⟩ : ∃ x, a[k]? = some x := ⟨_, List.getElem?_eq_getElem (by omega)⟩
        obtain ⟨y, hyi⟩ : ∃ y, b[k]? = some y := ⟨_, List.getElem?_eq_getElem (by omega)⟩
        have hxA := ha.at hxi
        have hyA := hb.at hyi
        refine wpIn_skip ?_
        refine thenN ?_
        refine wpIn_seq ?_
        refine wpIn_block ?_
        refine wpIn_seq ?_
        refine reg ?_
        refine qq hS (g_movev (v := .int .i64 _) rfl) ?_
        refine qq hS (g_assignv (v := .int .i64 _) rfl) ?_
        refine ol_nil (thenN ?_)
        refine wpIn_seq ?_
        refine draw (.cons 0 .pure (.cons 1 .pure (.cons 2 .pure (.cons 3 .held (.cons 4 .pure (.cons 5 .pure (.cons 6 .pure (.cons 7 .held (.cons 8 .pure .nil))))))))) mixed (by kernel_rfl) hS ?_
        intro w_1 hS
        refine sp rfl (g_move _) ?_
        refine sp rfl (g_movev (v := .int .i64 _) rfl) ?_
        refine sp rfl (g_ixI Tryz.underlying22 Tryz.sizeOf5 ha rfl rfl (by omega) (by omega)) ?_
        refine sh rfl (g_ldE1 Tryz.isAgg5 hxA rfl rfl) ?_
        refine sp rfl (g_move _) ?_
        refine sp rfl (g_movev (v := .int .i64 _) rfl) ?_
        refine sp rfl (g_ixI Tryz.underlying22 Tryz.sizeOf5 hb rfl rfl (by omega) (by omega)) ?_
        refine sh rfl (g_ldE1 Tryz.isAgg5 hyA rfl rfl) ?_
        refine sp rfl (g_neq rfl rfl) ?_
        refine sn (thenN ?_)
        refine cond_s rfl ?_ ?_
        ·
          intro hc24
          try simp only [Bool.and_eq_true, Bool.or_eq_true, Bool.not_eq_true', Bool.and_eq_false_imp, Bool.or_eq_false_iff, Bool.not_eq_false', decide_eq_true_eq, decide_eq_false_iff_not] at hc24
          have e := dec_ne hxi hyi hc24
          refine wpIn_seq ?_
          refine reg ?_
          refine qq hS (g_assignv (v := .bool _) rfl) ?_
          refine ol_nil (thenN ?_)
          refine wpIn_ret ?_
          refine blkR (thenR (thenR (blkR (thenR ?_))))
          refine ret1 Tryz.results82 (rv_tmp (v := .bool _) rfl) ?_
          exact ⟨by rw [e], hS.nil⟩
        ·
          intro hc24
          try simp only [Bool.and_eq_true, Bool.or_eq_true, Bool.not_eq_true', Bool.and_eq_false_imp, Bool.or_eq_false_iff, Bool.not_eq_false', decide_eq_true_eq, decide_eq_false_iff_not] at hc24
          have heq2 := take_eq hxi hyi heq hc24
          refine wpIn_skip ?_
          refine blkN (thenN ?_)
          refine reg ?_
          refine qq hS (g_add rfl rfl (by omega) (by omega)) ?_
          refine qq hS (g_movev (v := .int .i64 _) rfl) ?_
          exact ⟨k + 1, _, rfl, ⟨⟨rfl, rfl, rfl, rfl, trivial⟩, hS.sel [], by omega, heq2⟩, by omega⟩
      ·
        intro hc14
        try simp only [Bool.and_eq_true, Bool.or_eq_true, Bool.not_eq_true', Bool.and_eq_false_imp, Bool.or_eq_false_iff, Bool.not_eq_false', decide_eq_true_eq, decide_eq_false_iff_not] at hc14
        have hk : k = a.length := by omega
        subst hk
        have e := dec_take hlen heq
        refine wpIn_exit ?_
        refine thenE (thenE (blkE ?_))
        refine thenN ?_
        refine wpIn_seq ?_
        refine reg ?_
        refine qq hS (g_assignv (v := .bool _) rfl) ?_
        refine ol_nil (thenN ?_)
        refine wpIn_ret ?_
        refine ret1 Tryz.results82 (rv_tmp (v := .bool _) rfl) ?_
        exact ⟨by rw [e], hS.nil⟩

theorem cnan_c (n : Int) (w0 : World) (I0 : Imm) (hI : Sat I0 w0) : Ctr Tryz.prog 148 [.int .i64 n] w0 (fun v w' => v = .bool false ∧ Ext w0 I0 w' I0) := by
  refine fn (n := 6) Tryz.func148 rfl rfl rfl ?_
  have hS := St.start hI
  refine wpIn_seq ?_
  refine reg ?_
  refine qq hS (g_assignv (v := .bool _) rfl) ?_
  refine ol_nil (thenN ?_)
  refine wpIn_seq ?_
  refine reg ?_
  refine qq hS (g_movev (v := .int .i64 _) rfl) ?_
  refine qq hS (g_movev (v := .int .i64 _) rfl) ?_
  refine qq hS (g_neqF rfl rfl rfl) ?_
  refine qq hS (g_assignv (v := .bool _) rfl) ?_
  refine ol_nil (thenN ?_)
  refine wpIn_ret ?_
  refine ret1 Tryz.results148 (rv_tmp (v := .bool _) rfl) ?_
  exact ⟨rfl, hS.nil⟩

theorem cless_c (a b : Int) (w0 : World) (I0 : Imm) (hI : Sat I0 w0) : Ctr Tryz.prog 119 [.int .i64 a, .int .i64 b] w0 (fun v w' => v = .bool (decide (a < b)) ∧ Ext w0 I0 w' I0) := by
  refine fn (n := 17) Tryz.func119 rfl rfl rfl ?_
  have hS := St.start hI
  refine wpIn_seq ?_
  refine reg ?_
  refine qq hS (g_assignv (v := .bool _) rfl) ?_
  refine ol_nil (thenN ?_)
  refine wpIn_seq ?_
  refine reg ?_
  refine qq hS (g_movev (v := .int .i64 _) rfl) ?_
  refine qe (d_call Tryz.call148 rfl (cnan_c a _ I0 hS.imm)) ?_
  rintro _ w_1 ⟨rfl, hE⟩
  replace hS := hS.callE hE
  refine qq hS (g_movev (v := .bool _) rfl) ?_
  refine qsf rfl rfl rfl ?_
  refine qsf rfl rfl rfl ?_
  refine qsf rfl rfl rfl ?_
  refine qq hS (g_and (b := false) rfl rfl (fun h => (by cases h))) ?_
  refine qq hS (g_movev (v := .bool _) rfl) ?_
  refine qqs rfl rfl hS (g_movev (v := .int .i64 _) rfl) ?_
  refine qqs rfl rfl hS (g_movev (v := .int .i64 _) rfl) ?_
  refine qqs rfl rfl hS (g_lss rfl rfl) ?_
  refine qq hS (g_or rfl rfl (fun _ => rfl)) ?_
  refine qq hS (g_assignv (v := .bool _) rfl) ?_
  refine ol_nil (thenN ?_)
  refine wpIn_ret ?_
  refine ret1 Tryz.results119 (rv_tmp (v := .bool _) rfl) ?_
  exact ⟨rfl, hS.nil⟩

set_option maxHeartbeats 1000000 in
theorem bsearch_c (ad : Option Addr) (cap i : Nat) (n : Int) (l : List Int) (w0 : World) (I0 : Imm) (hI : Sat I0 w0) (hl : RFl I0 1 intC (.slice ad l.length cap) l) (hs : SrtAt l n i) (hbig : l.length ≤ 4611686018427387903) :
    Ctr Tryz.prog 76 [.slice ad l.length cap, .int .i64 n] w0 (fun v w' => v = .tuple #[.int .i64 i, .bool true] ∧ Ext w0 I0 w' I0) := by
  have hle := RSl.le hl
  simp only [maxLen] at hle
  have hil := (List.getElem?_eq_some_iff.1 hs.at_).1
  have hiA := hl.at hs.at_
  have hbd : l.length ≤ 4611686018427387903 := hbig
  refine fn (n := 54) Tryz.func76 rfl rfl rfl ?_
  have hS := St.start hI
  refine wpIn_seq ?_
  refine reg ?_
  refine qq hS (g_assignv (v := .int .i64 _) rfl) ?_
  refine qq hS (g_assignv (v := .bool _) rfl) ?_
  refine ol_nil (thenN ?_)
  refine wpIn_seq ?_
  refine reg ?_
  refine qq hS (g_move _) ?_
  refine qq hS (g_lenI rfl Tryz.underlying74 hl rfl) ?_
  refine qq hS (g_assignv (v := .int .i64 _) rfl) ?_
  refine ol_nil (thenN ?_)
  refine wpIn_seq ?_
  refine reg ?_
  refine qq hS (g_movev (v := .int .i64 _) rfl) ?_
  refine qq hS (g_assignv (v := .int .i64 _) rfl) ?_
  refine qq hS (g_assignv (v := .int .i64 _) rfl) ?_
  refine ol_nil (thenN ?_)
  refine wpIn_seq ?_
  refine wpIn_block ?_
  refine loop (fun (x : BsW) σ w => okS σ [(0, .slice ad l.length cap), (1, .int .i64 n), (6, .int .i64 l.length), (7, .int .i64 x.lo), (8, .int .i64 x.hi)] ∧ St [] w0 I0 I0 w [] ∧ x.lo ≤ i ∧ i ≤ x.hi ∧ x.hi ≤ l.length) (fun x => x.hi - x.lo) (⟨0, l.length⟩) ?_ ?_
  ·
    exact ⟨⟨rfl, rfl, rfl, rfl, rfl, trivial⟩, hS.sel [], by dsimp only; omega, by dsimp only; omega, by dsimp only; omega⟩
  ·
    rintro ⟨lo, hi⟩ σ w_l ⟨hs, hS, h1, h2, h3⟩
    dsimp only at hs hS h1 h2 h3 ⊢
    rw [← upds_self hs]; clear hs
    refine wpIn_seq ?_
    refine wpIn_seq ?_
    refine reg ?_
    refine qq hS (g_movev (v := .int .i64 _) rfl) ?_
    refine qq hS (g_movev (v := .int .i64 _) rfl) ?_
    refine qq hS (g_lss rfl rfl) ?_
    refine ol_nil (thenN ?_)
    refine cond_s rfl ?_ ?_
    ·
      intro hc15
      try simp only [Bool.and_eq_true, Bool.or_eq_true, Bool.not_eq_true', Bool.and_eq_false_imp, Bool.or_eq_false_iff, Bool.not_eq_false', decide_eq_true_eq, decide_eq_false_iff_not] at hc15
      obtain ⟨x, hxi⟩ : ∃ x, l[(lo + hi) / 2]? = some x := ⟨_, List.getElem?_eq_getElem (by omega)⟩
      have hxA := hl.at hxi
      have hlow := hs.low _ _ hxi
      refine wpIn_skip ?_
      refine thenN ?_
      refine wpIn_block ?_
      refine wpIn_seq ?_
      refine reg ?_
      refine qq hS (g_movev (v := .int .i64 _) rfl) ?_
      refine qq hS (g_movev (v := .int .i64 _) rfl) ?_
      refine qq hS (g_add rfl rfl (by omega) (by omega)) ?_
      refine qq hS (g_convK (c := (lo : Int) + hi) Tryz.underlying3 Tryz.underlying155 rfl (by rw [IntKind.wrap_u64]; omega)) ?_
      refine qq hS (g_shrV (s := 1) (c := ((lo : Int) + hi) / 2) rfl rfl rfl rfl rfl) ?_
      refine qq hS (g_convK (c := (((lo + hi) / 2 : Nat) : Int)) Tryz.underlying155 Tryz.underlying3 rfl (by rw [IntKind.wrap_i64]; omega)) ?_
      refine qq hS (g_assignv (v := .int .i64 _) rfl) ?_
      refine ol_nil (thenN ?_)
      refine wpIn_seq ?_
      refine reg ?_
      refine qq hS (g_move _) ?_
      refine qq hS (g_movev (v := .int .i64 _) rfl) ?_
      refine qq hS (g_ixI Tryz.underlying74 Tryz.sizeOf3 hl rfl rfl (by omega) (by omega)) ?_
      refine qq hS (g_ldE1 Tryz.isAgg3 hxA rfl rfl) ?_
      refine qq hS (g_movev (v := .int .i64 _) rfl) ?_
      refine qe (d_call Tryz.call119 rfl (cless_c x n _ I0 hS.imm)) ?_
      rintro _ w_1 ⟨rfl, hE⟩
      replace hS := hS.callE hE
      refine ol_nil (thenN ?_)
      refine cond_s rfl ?_ ?_
      ·
        intro hc27
        try simp only [Bool.and_eq_true, Bool.or_eq_true, Bool.not_eq_true', Bool.and_eq_false_imp, Bool.or_eq_false_iff, Bool.not_eq_false', decide_eq_true_eq, decide_eq_false_iff_not] at hc27
        have hb1 : (lo + hi) / 2 < i := hlow.1 hc27
        refine reg ?_
        refine qq hS (g_movev (v := .int .i64 _) rfl) ?_
        refine qq hS (g_add rfl rfl (by omega) (by omega)) ?_
        refine qq hS (g_assignv (v := .int .i64 _) rfl) ?_
        first
          | exact ⟨⟨(lo + hi) / 2 + 1, hi⟩, _, rfl, ⟨⟨rfl, rfl, rfl, rfl, rfl, trivial⟩, hS.sel [], by dsimp only; omega, by dsimp only; omega, by dsimp only; omega⟩, by dsimp only; omega⟩
          | exact ⟨⟨lo, (lo + hi) / 2⟩, _, rfl, ⟨⟨rfl, rfl, rfl, rfl, rfl, trivial⟩, hS.sel [], by dsimp only; omega, by dsimp only; omega, by dsimp only; omega⟩, by dsimp only; omega⟩
      ·
        intro hc27
        try simp only [Bool.and_eq_true, Bool.or_eq_true, Bool.not_eq_true', Bool.and_eq_false_imp, Bool.or_eq_false_iff, Bool.not_eq_false', decide_eq_true_eq, decide_eq_false_iff_not] at hc27
        have hb1 : ¬ (lo + hi) / 2 < i := fun h => hc27 (hlow.2 h)
        refine reg ?_
        refine qq hS (g_movev (v := .int .i64 _) rfl) ?_
        refine qq hS (g_assignv (v := .int .i64 _) rfl) ?_
        first
          | exact ⟨⟨(lo + hi) / 2 + 1, hi⟩, _, rfl, ⟨⟨rfl, rfl, rfl, rfl, rfl, trivial⟩, hS.sel [], by dsimp only; omega, by dsimp only; omega, by dsimp only; omega⟩, by dsimp only; omega⟩
          | exact ⟨⟨lo, (lo + hi) / 2⟩, _, rfl, ⟨⟨rfl, rfl, rfl, rfl, rfl, trivial⟩, hS.sel [], by dsimp only; omega, by dsimp only; omega, by dsimp only; omega⟩, by dsimp only; omega⟩
    ·
      intro hc15
      try simp only [Bool.and_eq_true, Bool.or_eq_true, Bool.not_eq_true', Bool.and_eq_false_imp, Bool.or_eq_false_iff, Bool.not_eq_false', decide_eq_true_eq, decide_eq_false_iff_not] at hc15
      have hlo : lo = i := by omega
      subst hlo
      refine wpIn_exit ?_
      refine thenE (thenE (blkE ?_))
      refine thenN ?_
      refine wpIn_seq ?_
      refine reg ?_
      refine qq hS (g_movev (v := .int .i64 _) rfl) ?_
      refine qq hS (g_movev (v := .int .i64 _) rfl) ?_
      refine qq hS (g_movev (v := .int .i64 _) rfl) ?_
      refine qq hS (g_toV (g_lss rfl rfl) (congrArg Value.bool (decide_eq_true (by omega)))) ?_
      refine qq hS (g_movev (v := .bool _) rfl) ?_
      refine qqs rfl rfl hS (g_move _) ?_
      refine qqs rfl rfl hS (g_movev (v := .int .i64 _) rfl) ?_
      refine qqs rfl rfl hS (g_ixI Tryz.underlying74 Tryz.sizeOf3 hl rfl rfl (by omega) (by omega)) ?_
      refine qqs rfl rfl hS (g_ldE1 Tryz.isAgg3 hiA rfl rfl) ?_
      refine qqs rfl rfl hS (g_movev (v := .int .i64 _) rfl) ?_
      refine qqs rfl rfl hS (g_toV (g_eql rfl rfl) (congrArg Value.bool (decide_eq_true rfl))) ?_
      refine qqs rfl rfl hS (g_movev (v := .bool _) rfl) ?_
      refine qsf rfl rfl rfl ?_
      refine qsf rfl rfl rfl ?_
      refine qsf rfl rfl rfl ?_
      refine qsf rfl rfl rfl ?_
      refine qsf rfl rfl rfl ?_
      refine qsf rfl rfl rfl ?_
      refine qsu rfl rfl ?_
      refine qsu rfl rfl ?_
      refine qsf rfl rfl rfl ?_
      refine qqs rfl rfl hS (g_or (b := true) rfl rfl (fun h => (by cases h))) ?_
      refine qq hS (g_and (b := true) rfl rfl (fun _ => rfl)) ?_
      refine qq hS (g_assignv (v := .int .i64 _) rfl) ?_
      refine qq hS (g_assignv (v := .bool _) rfl) ?_
      refine ol_nil (thenN ?_)
      refine wpIn_ret ?_
      refine ret2 Tryz.results76 (rv_tmp (v := .int .i64 _) rfl) (rv_tmp (v := .bool _) rfl) ?_
      exact ⟨rfl, hS.nil⟩

/-- The chunks of a slice, each of at most 8 elements. -/
def chunkV (v : Value) (n k : Nat) : Value := resl v (8 * k) (if 8 * k + 8 ≤ n then 8 * k + 8 else n) (if 8 * k + 8 ≤ n then 8 * k + 8 else n) 1
def chunkA (v : Value) (n k : Nat) : List Value := [chunkV v n k]
def chunk {α : Type} (l : List α) (k : Nat) : List α := (l.take (if 8 * k + 8 ≤ l.length then 8 * k + 8 else l.length)).drop (8 * k)
theorem chunk_r {α : Type} {I : Imm} {enc : α → List Value} {v : Value} {l : List α} (h : RFl I 1 enc v l) {k : Nat} (hk : 8 * k < l.length) : RFl I 1 enc (chunkV v l.length k) (chunk l k) :=
  RFl.resl h (8 * k) _ (by split <;> omega) (by split <;> omega)
theorem chunk_len {α : Type} (l : List α) (k : Nat) : (chunk l k).length = (if 8 * k + 8 ≤ l.length then 8 * k + 8 else l.length) - 8 * k := by
  unfold chunk; rw [List.length_drop, List.length_take]; split <;> omega
theorem g_minI {P : Program} {n : Nat} {σ : Nat → Value} {S : World → Prop} {ty : TypeId} {x y : Operand} {K : IntKind} {a b c : Int} {aT : Array TypeId} (hx : ev n σ x = .int K a) (hy : ev n σ y = .int K b) (h : (if a ≤ b then a else b) = c) : Gives P (ev n σ) S (.call { callee := .builtin .min, args := #[x, y], argTypes := aT }) ty (.int K c) := by
  refine g_toV (g_min hx hy) ?_
  rw [← h]
  congr 1
  first | rfl | (split <;> split <;> omega)

theorem chunk_c (ad : Option Addr) (m cap : Nat) (w0 : World) (I0 : Imm) (hI : Sat I0 w0) :
    Ctr Tryz.prog 79 [.slice ad m cap, .int .i64 8] w0 (fun v w' => ∃ I' b c, v = .func (.func 121) #[] [.pointer (some ⟨b, 0, none⟩), .pointer (some ⟨c, 0, none⟩)].toArray ∧ Ext w0 I0 w' I' ∧ atI I' ⟨b, 0, none⟩ [.slice ad m cap] ∧ atI I' ⟨c, 0, none⟩ [.int .i64 8]) := by
  refine fn (n := 9) Tryz.func79 rfl rfl rfl ?_
  have hS := St.start hI
  refine wpIn_seq ?_
  refine reg ?_
  refine qe (d_box (cs := [.slice _ _ _]) hS rfl) ?_
  clear hS
  rintro _ w_1 ⟨b2, rfl, hS⟩
  refine qe (d_box (cs := [.int .i64 _]) hS rfl) ?_
  clear hS
  rintro _ w_2 ⟨b3, rfl, hS⟩
  refine qq hS (g_assign _) ?_
  refine ol_nil (thenN ?_)
  refine wpIn_seq ?_
  refine wpIn_seq ?_
  refine reg ?_
  refine qq hS (g_ldO1 0 Tryz.isAgg3 rfl rfl rfl) ?_
  refine qq hS (g_toV (g_lss rfl rfl) (congrArg Value.bool (decide_eq_false (by decide)))) ?_
  refine ol_nil (thenN ?_)
  refine cond_f (rfl) ?_
  refine wpIn_skip ?_
  refine thenN ?_
  refine wpIn_seq ?_
  refine reg ?_
  refine qq hS (g_makeFuncL ml0 (ml rfl (ml rfl ml0))) ?_
  refine qq hS (g_assign _) ?_
  refine ol_nil (thenN ?_)
  refine wpIn_ret ?_
  refine ret1 Tryz.results79 (rv_tmp rfl) ?_
  obtain ⟨I2, hS2, hI2, hb3⟩ := hS.freeze1
  obtain ⟨I3, hS3, hI3, hb2⟩ := hS2.freeze1
  exact ⟨I3, b2, b3, rfl, hS3, hb2, hb3.mono hI3⟩

set_option maxHeartbeats 1000000 in
theorem chunk1_it (l : List Bool) (b c cap : Nat) (ad : Option Addr) (I0 : Imm) (hb : atI I0 ⟨b, 0, none⟩ [.slice ad l.length cap]) (hc : atI I0 ⟨c, 0, none⟩ [.int .i64 8]) (hl : RFl I0 1 boolC (.slice ad l.length cap) l) (hn : l.length ≤ 1073741824) (hcap : l.length ≤ cap) :
    IterC Tryz.prog 121 [.pointer (some ⟨b, 0, none⟩), .pointer (some ⟨c, 0, none⟩)] (chunkA (.slice ad l.length cap) l.length) ((l.length + 7) / 8) I0 := by
  intro lp J Jx w1 I1 hst hyc hsat hsub hJ0
  replace hb := hb.mono hsub
  replace hc := hc.mono hsub
  replace hl := hl.mono hsub
  refine fn (n := 31) Tryz.func121 rfl rfl rfl ?_
  have hS := St.start hsat
  refine wpIn_seq ?_
  refine reg ?_
  refine qq hS (g_assignv (v := .int .i64 _) rfl) ?_
  refine ol_nil (thenN ?_)
  refine wpIn_block ?_
  refine loop (fun (k : Nat) σ w => okS σ [(0, .func (.yield lp) #[] #[]), (1, .pointer (some ⟨b, 0, none⟩)), (2, .pointer (some ⟨c, 0, none⟩)), (4, .int .i64 (8 * (k : Int)))] ∧ ∃ I, St [] w I I w [] ∧ k ≤ (l.length + 7) / 8 ∧ Inl.Sub I1 I ∧ J k I w) (fun k => (l.length + 7) / 8 - k) (0) ?_ ?_
  ·
    exact ⟨⟨rfl, rfl, rfl, rfl, trivial⟩, _, St.start hS.imm, by omega, Inl.Sub.refl _, hJ0⟩
  ·
    rintro k σ w_l ⟨hs, I, hS, hk0, hsub1, hJ⟩
    rw [← upds_self hs]; clear hs
    refine wpIn_seq ?_
    refine wpIn_seq ?_
    refine reg ?_
    refine qq hS (g_movev (v := .int .i64 _) rfl) ?_
    refine qq hS (g_ldB1 (c := 0) Tryz.isAgg73 (hb.mono hsub1) rfl rfl) ?_
    refine qq hS (g_lenI rfl Tryz.underlying73 (hl.mono hsub1) rfl) ?_
    refine qq hS (g_lss rfl rfl) ?_
    refine ol_nil (thenN ?_)
    refine cond_s rfl ?_ ?_
    ·
      intro hc9
      try simp only [Bool.and_eq_true, Bool.or_eq_true, Bool.not_eq_true', Bool.and_eq_false_imp, Bool.or_eq_false_iff, Bool.not_eq_false', decide_eq_true_eq, decide_eq_false_iff_not] at hc9
      obtain ⟨he1, he2⟩ : (if 8 * k + 8 ≤ l.length then 8 * k + 8 else l.length) ≤ l.length ∧ 8 * k < (if 8 * k + 8 ≤ l.length then 8 * k + 8 else l.length) := by split <;> omega
      refine wpIn_skip ?_
      refine thenN ?_
      refine wpIn_seq ?_
      refine wpIn_block ?_
      refine wpIn_seq ?_
      refine draw (.cons 0 .held (.cons 1 .held (.cons 2 .pure (.cons 3 .pure (.cons 4 .pure (.cons 5 .pure (.cons 6 .pure .nil))))))) mixed (by kernel_rfl) hS ?_
      intro w_1 hS
      refine sh rfl (g_ldB1 (c := 0) Tryz.isAgg3 (hc.mono hsub1) rfl rfl) ?_
      refine sh rfl (g_ldB1 (c := 0) Tryz.isAgg73 (hb.mono hsub1) rfl rfl) ?_
      refine sp rfl (g_movev (v := .int .i64 _) rfl) ?_
      refine sp rfl (g_sliceLN (l0 := 8 * k) Tryz.underlying73 Tryz.sizeOf4 rfl rfl (by omega) (by omega) (by omega)) ?_
      refine sp rfl (g_lenS rfl Tryz.underlying73 rfl) ?_
      refine sp rfl (g_minI (c := (((if 8 * k + 8 ≤ l.length then 8 * k + 8 else l.length) - 8 * k : Nat) : Int)) rfl rfl (by split <;> split <;> omega)) ?_
      refine sp rfl (g_assignv (v := .int .i64 _) rfl) ?_
      refine sn (thenN ?_)
      refine wpIn_seq ?_
      refine reg ?_
      refine qq hS (g_move _) ?_
      refine qq hS (g_ldB1 (c := 0) Tryz.isAgg73 (hb.mono hsub1) rfl rfl) ?_
      refine qq hS (g_movev (v := .int .i64 _) rfl) ?_
      refine qq hS (g_movev (v := .int .i64 _) rfl) ?_
      refine qq hS (g_movev (v := .int .i64 _) rfl) ?_
      refine qq hS (g_add rfl rfl (by omega) (by omega)) ?_
      refine qq hS (g_movev (v := .int .i64 _) rfl) ?_
      refine qq hS (g_movev (v := .int .i64 _) rfl) ?_
      refine qq hS (g_add rfl rfl (by omega) (by omega)) ?_
      refine qq hS (g_toV (g_slice3N (l0 := 8 * k) (h0 := if 8 * k + 8 ≤ l.length then 8 * k + 8 else l.length) (m0 := if 8 * k + 8 ≤ l.length then 8 * k + 8 else l.length) Tryz.underlying73 Tryz.sizeOf4 rfl rfl rfl rfl (by omega) (by split <;> omega) (by omega) (by split <;> omega) (by omega) (by split <;> omega) (by split <;> omega)) (rfl : _ = chunkV (.slice ad l.length cap) l.length k)) ?_
      refine qe (d_yieldC rfl rfl hyc (by omega) hS.imm (hst _ _ _ _ _ hJ hS.nil)) ?_
      rintro _ w_2 ⟨bb, I2, rfl, hsat2, hsub2, hyt, hyf⟩
      replace hS := St.start hsat2
      refine qq hS (g_not rfl) ?_
      refine ol_nil (thenN ?_)
      refine cond_s rfl ?_ ?_
      ·
        intro hc30
        simp only [Bool.not_eq_true', Bool.not_eq_false'] at hc30
        have hfin := hyf hc30
        refine wpIn_ret ?_
        refine blkR (thenR (thenR (blkR ?_)))
        refine ret0 Tryz.results121  ?_
        exact ⟨_, hS.imm, hsub1.trans hsub2, .inr ⟨k, by omega, hfin⟩⟩
      ·
        intro hc30
        simp only [Bool.not_eq_true', Bool.not_eq_false'] at hc30
        have hJ2 := hyt hc30
        have hsub3 := hsub1.trans hsub2
        refine wpIn_skip ?_
        refine blkN (thenN ?_)
        refine reg ?_
        refine qq hS (g_movev (v := .int .i64 _) rfl) ?_
        refine qq hS (g_ldB1 (c := 0) Tryz.isAgg3 (hc.mono hsub3) rfl rfl) ?_
        refine qq hS (g_add rfl rfl (by omega) (by omega)) ?_
        refine qq hS (g_assignv (v := .int .i64 _) rfl) ?_
        exact ⟨k + 1, _, rfl, ⟨⟨rfl, rfl, rfl, congrArg (Value.int .i64) (by omega), trivial⟩, _, hS.sel [], by omega, hsub1.trans hsub2, hJ2⟩, by omega⟩
    ·
      intro hc9
      try simp only [Bool.and_eq_true, Bool.or_eq_true, Bool.not_eq_true', Bool.and_eq_false_imp, Bool.or_eq_false_iff, Bool.not_eq_false', decide_eq_true_eq, decide_eq_false_iff_not] at hc9
      have hk : k = (l.length + 7) / 8 := by omega
      subst hk
      refine wpIn_exit ?_
      refine thenE (thenE (blkE ?_))
      refine end0 Tryz.results121  ?_
      exact ⟨_, hS.imm, hsub1, .inl hJ⟩

theorem cloneW_o (ad : Addr) (cap : Nat) (l : List Int) (w0 : World) (I0 : Imm) (hI : Sat I0 w0) (hl : RFl I0 1 u32C (.slice (some ad) l.length cap) l) (hn : l.length ≤ 1073741824) :
    Ctr Tryz.prog 83 [.slice (some ad) l.length cap] w0 (fun v w' => ∃ a c, v = .slice a l.length c ∧ St [] w0 I0 I0 w' [.row (.slice a l.length c) 93 1 l.length (flat u32C l)]) := by
  refine fn (n := 8) Tryz.func83 rfl rfl rfl ?_
  have hS := St.start hI
  refine wpIn_seq ?_
  refine reg ?_
  refine qq hS (g_assign _) ?_
  refine ol_nil (thenN ?_)
  refine wpIn_seq ?_
  refine wpIn_seq ?_
  refine reg ?_
  refine qq hS (g_move _) ?_
  refine qq hS (g_eqSliceNil Tryz.underlying72 rfl rfl) ?_
  refine ol_nil (thenN ?_)
  refine cond_f (rfl) ?_
  refine wpIn_skip ?_
  refine thenN ?_
  refine wpIn_seq ?_
  refine reg ?_
  refine qe (d_buildSlice0 hS Tryz.underlying72 Tryz.sizeOf93) ?_
  clear hS
  rintro _ w_1 ⟨hS, b5_, rfl⟩
  refine qq hS (g_move _) ?_
  refine qe (i_appendF 0 hS rfl Tryz.underlying72 info93 rfl rfl rfl rfl u32C_len (fun _ => rfl) hl rfl (by omega) (by omega)) ?_
  clear hS
  rintro _ w_2 ⟨a7, p7, rfl, hS⟩
  refine qq hS (g_assign _) ?_
  refine ol_nil (thenN ?_)
  refine wpIn_ret ?_
  refine ret1 Tryz.results83 (rv_tmp rfl) ?_
  rw [List.nil_append, Nat.zero_add] at hS
  exact ⟨a7, p7, by show Value.slice a7 (0 + l.length) p7 = _; rw [Nat.zero_add], hS.sel [true]⟩

end Go.Proofs.YtaklmbhfmpdinaaGreatDoor

