/- Lifted code by insertion of labels, as plain Lean: it is what package label makes. Conditions: none. inlayref03: IsCode, Linked, Index, Insert, numbered, Lift, Same; inlayref02.Words: what they compute. Conditions: bytes are bytes. inlayref03: unnumbered, Lower, two, Form, Read; inlayref02.Same: what they compute. Conditions: as said. -/
import Derived.Test.YtaklmbhfmpdinaaGreatRt3
import Derived.Test.YtaklmbhfmpdinaaGreatApplyL
import Derived.Test.YtaklmbhfmpdinaaGreatKRefC
namespace Go.Inl
open Go Go.RowKit
set_option linter.unusedSimpArgs false
set_option linter.unusedVariables false

/-- A number put into an increasing list. -/
def insI : List Int → Int → List Int
  | [], n => [n]
  | x :: l, n => if x < n then x :: insI l n else if x = n then x :: l else n :: x :: l
theorem insI_mem {n y : Int} : ∀ {l : List Int}, y ∈ insI l n ↔ y = n ∨ y ∈ l
  | [] => by simp [insI]
  | x :: l => by
    unfold insI
    split
    · rw [List.mem_cons, insI_mem, List.mem_cons]
      constructor
      · rintro (h | h | h)
        · exact .inr (.inl h)
        · exact .inl h
        · exact .inr (.inr h)
      · rintro (h | h | h)
        · exact .inr (.inl h)
        · exact .inl h
        · exact .inr (.inr h)
    · split
      · rename_i h
        subst h
        simp
      · simp
theorem insI_sorted {n : Int} : ∀ {l : List Int}, l.Pairwise (· < ·) → (insI l n).Pairwise (· < ·)
  | [], _ => by simp [insI]
  | x :: l, h => by
    rw [List.pairwise_cons] at h
    unfold insI
    split
    · rename_i hx
      rw [List.pairwise_cons]
      refine ⟨fun b hb => ?_, insI_sorted h.2⟩
      rcases insI_mem.1 hb with hb | hb
      · rw [hb]; exact hx
      · exact h.1 b hb
    · split
      · exact List.pairwise_cons.2 h
      · rename_i h1 h2
        refine List.pairwise_cons.2 ⟨fun b hb => ?_, List.pairwise_cons.2 h⟩
        rcases List.mem_cons.1 hb with hb | hb
        · rw [hb]; omega
        · have := h.1 b hb; omega
theorem insI_same {n : Int} : ∀ {l : List Int}, l.Pairwise (· < ·) → n ∈ l → insI l n = l
  | [], _, h => by cases h
  | x :: l, h, hn => by
    rw [List.pairwise_cons] at h
    unfold insI
    rcases List.mem_cons.1 hn with e | e
    · subst e; rw [if_neg (Int.lt_irrefl _), if_pos rfl]
    · have := h.1 n e
      rw [if_pos this, insI_same h.2 e]
theorem insI_new {n : Int} : ∀ {l : List Int} {k : Nat}, k ≤ l.length → n ∉ l → (∀ i, i < k → ∀ y, l[i]? = some y → y < n) → (∀ y, l[k]? = some y → n ≤ y) → insI l n = l.take k ++ n :: l.drop k
  | [], k, hk, _, _, _ => by simp [insI]
  | x :: l, 0, _, hn, _, h2 => by
    have h3 := h2 x rfl
    have h4 : x ≠ n := fun e => hn (by rw [e]; exact List.mem_cons_self ..)
    unfold insI
    rw [if_neg (by omega), if_neg h4]; rfl
  | x :: l, k + 1, hk, hn, h1, h2 => by
    have h3 := h1 0 (Nat.succ_pos k) x rfl
    unfold insI
    rw [if_pos h3, insI_new (k := k) (by simpa using hk) (fun h => hn (List.mem_cons_of_mem _ h)) (fun i hi y hy => h1 (i + 1) (by omega) y hy) (fun y hy => h2 y hy)]
    rfl
theorem insI_len (n : Int) : ∀ (l : List Int), (insI l n).length ≤ l.length + 1
  | [] => by simp [insI]
  | x :: l => by
    have := insI_len n l
    unfold insI
    split
    · rw [List.length_cons, List.length_cons]; omega
    · split <;> simp
theorem sorted_ext : ∀ {l m : List Int}, l.Pairwise (· < ·) → m.Pairwise (· < ·) → (∀ x, x ∈ l ↔ x ∈ m) → l = m
  | [], [], _, _, _ => rfl
  | [], b :: m, _, _, h => absurd ((h b).2 (List.mem_cons_self ..)) (by simp)
  | a :: l, [], _, _, h => absurd ((h a).1 (List.mem_cons_self ..)) (by simp)
  | a :: l, b :: m, h1, h2, h => by
    rw [List.pairwise_cons] at h1 h2
    have hab : a = b := by
      have ha := (h a).1 (List.mem_cons_self ..)
      have hb := (h b).2 (List.mem_cons_self ..)
      rcases List.mem_cons.1 ha with e | e
      · exact e
      · rcases List.mem_cons.1 hb with e' | e'
        · exact e'.symm
        · have := h2.1 a e; have := h1.1 b e'; omega
    subst hab
    rw [sorted_ext h1.2 h2.2 (fun x => ?_)]
    constructor
    · intro hx
      have hlt := h1.1 x hx
      rcases List.mem_cons.1 ((h x).1 (List.mem_cons_of_mem _ hx)) with e | e
      · omega
      · exact e
    · intro hx
      have hlt := h2.1 x hx
      rcases List.mem_cons.1 ((h x).2 (List.mem_cons_of_mem _ hx)) with e | e
      · omega
      · exact e
/-- The labels of the first words. -/
def labU (ws : List Int) : Nat → List Int
  | 0 => []
  | k + 1 => if lnk ws k = true then insI (labU ws k) (instAt ws k).n else labU ws k
theorem labU_sorted (ws : List Int) : ∀ k, (labU ws k).Pairwise (· < ·)
  | 0 => List.Pairwise.nil
  | k + 1 => by
    unfold labU
    split
    · exact insI_sorted (labU_sorted ws k)
    · exact labU_sorted ws k
theorem labU_mem {ws : List Int} {n : Int} : ∀ {k : Nat}, n ∈ labU ws k ↔ ∃ i, i < k ∧ lnk ws i = true ∧ (instAt ws i).n = n
  | 0 => by
    constructor
    · intro h; cases h
    · rintro ⟨i, h, _⟩; omega
  | k + 1 => by
    unfold labU
    split
    · rename_i hk
      rw [insI_mem, labU_mem]
      constructor
      · rintro (h | ⟨i, h1, h2⟩)
        · exact ⟨k, by omega, hk, h.symm⟩
        · exact ⟨i, by omega, h2⟩
      · rintro ⟨i, h1, h2, h3⟩
        by_cases e : i = k
        · subst e; exact .inl h3.symm
        · exact .inr ⟨i, by omega, h2, h3⟩
    · rename_i hk
      rw [labU_mem]
      constructor
      · rintro ⟨i, h1, h2⟩; exact ⟨i, by omega, h2⟩
      · rintro ⟨i, h1, h2, h3⟩
        by_cases e : i = k
        · subst e; exact absurd h2 hk
        · exact ⟨i, by omega, h2, h3⟩
theorem labU_all (ws : List Int) : labU ws ws.length = labelsP ws := by
  refine sorted_ext (labU_sorted ws _) (labelsP_sorted ws) fun n => ?_
  rw [labU_mem, labelsP_mem]
  unfold tgts
  rw [List.mem_map]
  constructor
  · rintro ⟨i, h1, h2, h3⟩; exact ⟨i, lks_mem.2 ⟨h1, h2⟩, h3⟩
  · rintro ⟨i, h1, h2⟩; obtain ⟨h3, h4⟩ := lks_mem.1 h1; exact ⟨i, h3, h4, h2⟩
theorem labU_len (ws : List Int) : ∀ k, (labU ws k).length ≤ k
  | 0 => Nat.le_refl _
  | k + 1 => by
    have := labU_len ws k
    unfold labU
    split
    · have := insI_len (instAt ws k).n (labU ws k); omega
    · omega
theorem lnk_n {ws : List Int} {i : Nat} (h : lnk ws i = true) : (5 ≤ (instAt ws i).op ∧ (instAt ws i).op ≤ 8) ∧ 0 ≤ (instAt ws i).n ∧ (instAt ws i).n < 4 * (ws.length : Int) := by
  unfold lnk linkedP at h
  simpa only [Bool.and_eq_true, decide_eq_true_eq] using h
theorem labU_b {ws : List Int} {k : Nat} : ∀ n ∈ labU ws k, 0 ≤ n ∧ n < 4 * (ws.length : Int) := fun n hn => by
  obtain ⟨i, _, h2, h3⟩ := labU_mem.1 hn
  rw [← h3]; exact (lnk_n h2).2
/-- A word of lifted code. -/
def wR (ws : List Int) (i : Nat) : Int := if lnk ws i = true then numAt ws (labelsP ws) i else ws.getD i 0
def wUp (ws : List Int) (k : Nat) : List Int := (List.range k).map (wR ws)
def mUp (ws : List Int) (k : Nat) : List Bool := (List.range k).map (lnk ws)
theorem wUp_succ (ws : List Int) (k : Nat) : wUp ws (k + 1) = wUp ws k ++ [wR ws k] := by unfold wUp; rw [List.range_succ, List.map_append]; rfl
theorem mUp_succ (ws : List Int) (k : Nat) : mUp ws (k + 1) = mUp ws k ++ [lnk ws k] := by unfold mUp; rw [List.range_succ, List.map_append]; rfl
theorem wUp_len (ws : List Int) (k : Nat) : (wUp ws k).length = k := by simp [wUp]
theorem mUp_len (ws : List Int) (k : Nat) : (mUp ws k).length = k := by simp [mUp]
theorem wUp_all (ws : List Int) : wUp ws ws.length = (liftP ws).words := by
  refine List.ext_getElem? fun i => ?_
  by_cases h : i < ws.length
  · have e : (liftP ws).words = liftW ws (labelsP ws) (lks ws) := rfl
    rw [e, Go.Proofs.YtaklmbhfmpdinaaGreat.liftW_get h]
    unfold wUp
    rw [List.getElem?_map, List.getElem?_range h]; rfl
  · have e : (liftP ws).words.length = ws.length := liftW_len ..
    rw [List.getElem?_eq_none (by rw [wUp_len]; omega), List.getElem?_eq_none (by omega)]
theorem mUp_all (ws : List Int) : mUp ws ws.length = (liftP ws).marks := by
  refine List.ext_getElem? fun i => ?_
  by_cases h : i < ws.length
  · have e : (liftP ws).marks = liftM ws.length (lks ws) := rfl
    rw [e, Go.Proofs.YtaklmbhfmpdinaaGreat.liftM_get h]
    unfold mUp
    rw [List.getElem?_map, List.getElem?_range h]; rfl
  · have e : (liftP ws).marks.length = ws.length := liftM_len ..
    rw [List.getElem?_eq_none (by rw [mUp_len]; omega), List.getElem?_eq_none (by omega)]
/-- The place of a number, or -1. -/
def idxM (l : List Int) (n : Int) : Int := if n ∈ l then (idxP l n : Int) else -1
theorem idxP_first {l : List Int} {n : Int} {k : Nat} (h : l[k]? = some n) (hb : ∀ i, i < k → l[i]? ≠ some n) : idxP l n = k := by
  have hm : n ∈ l := List.mem_of_getElem? h
  have h1 := idxP_at hm
  have hk := (List.getElem?_eq_some_iff.1 h).1
  have hle : idxP l n ≤ k := by
    unfold idxP
    have := List.findIdx_le_length (p := fun x => decide (x = n)) (xs := l)
    rcases Nat.lt_or_ge k (l.findIdx fun x => decide (x = n)) with g | g
    · have h3 := List.not_of_lt_findIdx g
      rw [(List.getElem?_eq_some_iff.1 h).2] at h3
      simp at h3
    · exact g
  rcases Nat.lt_or_ge (idxP l n) k with g | g
  · exact absurd h1 (hb _ g)
  · omega
theorem idxM_at {l : List Int} {n : Int} {k : Nat} (h : l[k]? = some n) (hb : ∀ i, i < k → l[i]? ≠ some n) : idxM l n = k := by
  unfold idxM
  rw [if_pos (List.mem_of_getElem? h), idxP_first h hb]
theorem idxM_no {l : List Int} {n : Int} (hb : ∀ i, i < l.length → l[i]? ≠ some n) : idxM l n = -1 := by
  unfold idxM
  rw [if_neg]
  intro h
  obtain ⟨i, hi⟩ := List.mem_iff_getElem?.1 h
  exact hb i (List.getElem?_eq_some_iff.1 hi).1 hi
theorem idxM_mem {l : List Int} {n : Int} (h : n ∈ l) : idxM l n = idxP l n := if_pos h
theorem idxM_neg {l : List Int} {n : Int} : 0 ≤ idxM l n ↔ n ∈ l := by
  unfold idxM
  split
  · rename_i h; exact ⟨fun _ => h, fun _ => by omega⟩
  · rename_i h; exact ⟨fun g => by omega, fun g => absurd g h⟩
section
variable {P : Program} {n : Nat} {σ : Nat → Value} {S : World → Prop} {t t' ty : TypeId} {x y : Operand} {k : IntKind} {a b c : Int}
/-- The upper bits of a number. -/
theorem g_andHi {m : Nat} (hx : ev n σ x = .int k a) (hy : ev n σ y = .int k b) (hb : BitVec.ofInt k.bits b = ~~~BitVec.ofInt k.bits ((2 : Int) ^ m - 1)) (hm : Nat.ble m k.bits = true) (h0 : 0 ≤ a) (h1 : a < 2 ^ k.bits) (h : k.wrap (a - a % 2 ^ m) = c) :
    Gives P (ev n σ) S (.binOp .and t x y t') ty (.int k c) := fun w _ => by
  subst h
  have e := andnot_mask k.bits a m (Nat.le_of_ble_eq_true hm) h0 h1
  rw [← hb] at e
  simp only [execOp, hx, hy, Sem.run_bind, eqGuard, binOp, Op.intBits, Result.andThen_ok, Sem.run_pure]
  rw [e]
  simp [Result.andThen]
end
end Go.Inl

namespace Go.Proofs.YtaklmbhfmpdinaaGreat
open Go Go.RowKit Go.Inl
set_option linter.unusedSimpArgs false
set_option linter.unusedVariables false
theorem decR_i {X : InstL} (wd at_ : Int) (w0 : World) (I0 : Imm) (hI : Sat I0 w0) (hX : decI wd at_ = X) (hw0 : 0 ≤ wd) (hw1 : wd < 4294967296) (ha0 : -1099511627776 ≤ at_) (ha1 : at_ ≤ 1099511627776) :
    Ctr Tryz.prog 44 [.int .u32 wd, .int .i64 at_] w0 (fun v w' => v = instV X ∧ Ext w0 I0 w' I0) := by
  subst hX; exact decR_c wd at_ w0 I0 hI hw0 hw1 ha0 ha1
theorem ext_step {α : Type} {l m : List α} {k : Nat} {x y : α} (h : ∀ i, i < k → l[i]? = m[i]?) (hx : l[k]? = some x) (hy : m[k]? = some y) (e : x = y) : ∀ i, i < k + 1 → l[i]? = m[i]? := fun i hi => by
  rcases Nat.lt_succ_iff_lt_or_eq.1 hi with g | g
  · exact h i g
  · subst g; rw [hx, hy, e]
theorem idxP_lt {l : List Int} {n : Int} (h : n ∈ l) : idxP l n < l.length := (List.getElem?_eq_some_iff.1 (idxP_at h)).1
theorem no_step {l : List Int} {n y : Int} {k : Nat} (h : ∀ i, i < k → l[i]? ≠ some n) (hy : l[k]? = some y) (e : y ≠ n) : ∀ i, i < k + 1 → l[i]? ≠ some n := fun i hi => by
  rcases Nat.lt_succ_iff_lt_or_eq.1 hi with g | g
  · exact h i g
  · subst g; rw [hy]; intro g; exact e (Option.some.inj g)
theorem lt_step {l : List Int} {n y : Int} {k : Nat} (h : ∀ i, i < k → ∀ z, l[i]? = some z → z < n) (hy : l[k]? = some y) (e : y < n) : ∀ i, i < k + 1 → ∀ z, l[i]? = some z → z < n := fun i hi z hz => by
  rcases Nat.lt_succ_iff_lt_or_eq.1 hi with g | g
  · exact h i g z hz
  · subst g; rw [hy] at hz; cases hz; exact e

theorem isCode_c (ad : Option Addr) (cap : Nat) (b : List Int) (w0 : World) (I0 : Imm) (hI : Sat I0 w0) (hl : RBytes I0 (.slice ad b.length cap) b) :
    Ctr Tryz.prog 45 [.slice ad b.length cap] w0 (fun v w' => v = .bool (!noCode b) ∧ Ext w0 I0 w' I0) := by
  have hle := RSl.le hl
  simp only [maxLen] at hle
  refine fn (n := 12) Tryz.func45 rfl rfl rfl ?_
  have hS := St.start hI
  refine wpIn_seq ?_
  refine reg ?_
  refine qq hS (g_assignv (v := .bool _) rfl) ?_
  refine ol_nil (thenN ?_)
  refine wpIn_seq ?_
  refine reg ?_
  refine qq hS (g_move _) ?_
  refine qq hS (g_lenI rfl Tryz.underlying25 hl rfl) ?_
  refine qq hS (g_rem rfl rfl (by omega) (by omega)) ?_
  refine qq hS (g_eql rfl rfl) ?_
  refine qq hS (g_movev (v := .bool _) rfl) ?_
  refine qu rfl rfl hS (fun hg => (g_move _)) ?_
  intro u8 hu8 hn8
  refine qu rfl rfl hS (fun hg => (g_lenI rfl Tryz.underlying25 hl (hu8 hg))) ?_
  intro u9 hu9 hn9
  refine qu rfl rfl hS (fun hg => (g_leq (hu9 hg) rfl)) ?_
  intro u10 hu10 hn10
  refine qq hS (g_and rfl rfl (fun hq => hu10 hq)) ?_
  refine qq hS (g_assignv (v := .bool _) rfl) ?_
  refine ol_nil (thenN ?_)
  refine wpIn_ret ?_
  refine ret1 Tryz.results45 (rv_tmp (v := .bool _) rfl) ?_
  refine ⟨congrArg Value.bool ?_, hS.nil⟩
  rw [Bool.eq_iff_iff]
  simp only [noCode, Bool.not_or, Bool.not_not, Bool.and_eq_true, decide_eq_true_eq, Bool.not_eq_true', decide_eq_false_iff_not]
  omega

theorem linkR_c (x : InstL) (n : Int) (w0 : World) (I0 : Imm) (hI : Sat I0 w0) : Ctr Tryz.prog 47 [instV x, .int .i64 n] w0 (fun v w' => v = .bool (linkedP x n) ∧ Ext w0 I0 w' I0) := by
  refine fn (n := 24) Tryz.func47 rfl rfl rfl ?_
  have hS := St.start hI
  refine wpIn_seq ?_
  refine reg ?_
  refine qe (d_box (cs := [.int .i64 _, .int .i64 _, .int .i64 _, .int .i64 _, .int .i64 _]) hS rfl) ?_
  clear hS
  rintro _ w_1 ⟨b2, rfl, hS⟩
  refine qq hS (g_assignv (v := .bool _) rfl) ?_
  refine ol_nil (thenN ?_)
  refine wpIn_seq ?_
  refine reg ?_
  refine qq hS (g_fieldAddr (o' := 0) Tryz.underlying63 rfl Tryz.sizeOf3 rfl rfl rfl) ?_
  refine qq hS (g_ldO1 0 Tryz.isAgg3 rfl rfl rfl) ?_
  refine qq hS (g_geq rfl rfl) ?_
  refine qq hS (g_movev (v := .bool _) rfl) ?_
  refine qu rfl rfl hS (fun hg => (g_fieldAddr (o' := 0) Tryz.underlying63 rfl Tryz.sizeOf3 rfl rfl rfl)) ?_
  intro u9 hu9 hn9
  refine qu rfl rfl hS (fun hg => (g_ldO1 0 Tryz.isAgg3 rfl (hu9 hg) rfl)) ?_
  intro u10 hu10 hn10
  refine qu rfl rfl hS (fun hg => (g_leq (hu10 hg) rfl)) ?_
  intro u11 hu11 hn11
  refine qq hS (g_and rfl rfl (fun hq => hu11 hq)) ?_
  refine qq hS (g_movev (v := .bool _) rfl) ?_
  refine qu rfl rfl hS (fun hg => (g_fieldAddr (o' := 4) Tryz.underlying63 rfl Tryz.sizeOf3 rfl rfl rfl)) ?_
  intro u14 hu14 hn14
  refine qu rfl rfl hS (fun hg => (g_ldO1 0 Tryz.isAgg3 rfl (hu14 hg) rfl)) ?_
  intro u15 hu15 hn15
  refine qu rfl rfl hS (fun hg => (g_geq (hu15 hg) rfl)) ?_
  intro u16 hu16 hn16
  refine qq hS (g_and rfl rfl (fun hq => hu16 hq)) ?_
  refine qq hS (g_movev (v := .bool _) rfl) ?_
  refine qu rfl rfl hS (fun hg => (g_fieldAddr (o' := 4) Tryz.underlying63 rfl Tryz.sizeOf3 rfl rfl rfl)) ?_
  intro u19 hu19 hn19
  refine qu rfl rfl hS (fun hg => (g_ldO1 0 Tryz.isAgg3 rfl (hu19 hg) rfl)) ?_
  intro u20 hu20 hn20
  refine qu rfl rfl hS (fun hg => (g_movev (v := .int .i64 _) rfl)) ?_
  intro u21 hu21 hn21
  refine qu rfl rfl hS (fun hg => (g_lss (hu20 hg) (hu21 hg))) ?_
  intro u22 hu22 hn22
  refine qq hS (g_and rfl rfl (fun hq => hu22 hq)) ?_
  refine qq hS (g_assignv (v := .bool _) rfl) ?_
  refine ol_nil (thenN ?_)
  refine wpIn_ret ?_
  refine ret1 Tryz.results47 (rv_tmp (v := .bool _) rfl) ?_
  refine ⟨congrArg Value.bool ?_, hS.nil⟩
  rw [Bool.eq_iff_iff]
  simp only [linkedP, Bool.and_eq_true, decide_eq_true_eq]
  omega

theorem idxR_c (ad : Option Addr) (cap : Nat) (l : List Int) (n : Int) (w0 : World) (I0 : Imm) (hI : Sat I0 w0) (hl : RFl I0 1 intC (.slice ad l.length cap) l) :
    Ctr Tryz.prog 50 [.slice ad l.length cap, .int .i64 n] w0 (fun v w' => v = .int .i64 (idxM l n) ∧ Ext w0 I0 w' I0) := by
  have hle := RSl.le hl
  simp only [maxLen] at hle
  refine fn (n := 19) Tryz.func50 rfl rfl rfl ?_
  have hS := St.start hI
  refine wpIn_seq ?_
  refine reg ?_
  refine qq hS (g_assignv (v := .int .i64 _) rfl) ?_
  refine ol_nil (thenN ?_)
  refine wpIn_seq ?_
  refine wpIn_seq ?_
  refine reg ?_
  refine qq hS (g_assignv (v := .int .i64 _) rfl) ?_
  refine ol_nil (thenN ?_)
  refine wpIn_block ?_
  refine loop (fun (k : Nat) σ w => okS σ [(0, .slice ad l.length cap), (1, .int .i64 n), (5, .int .i64 k)] ∧ St [] w0 I0 I0 w [] ∧ k ≤ l.length ∧ ∀ i, i < k → l[i]? ≠ some n) (fun k => l.length - k) (0) ?_ ?_
  ·
    exact ⟨⟨rfl, rfl, rfl, trivial⟩, hS.sel [], by omega, fun i hi => by omega⟩
  ·
    rintro k σ w_l ⟨hs, hS, hk, hno⟩
    rw [← upds_self hs]; clear hs
    refine wpIn_seq ?_
    refine wpIn_seq ?_
    refine reg ?_
    refine qq hS (g_movev (v := .int .i64 _) rfl) ?_
    refine qq hS (g_move _) ?_
    refine qq hS (g_lenI rfl Tryz.underlying68 hl rfl) ?_
    refine qq hS (g_lss rfl rfl) ?_
    refine ol_nil (thenN ?_)
    refine cond_s rfl ?_ ?_
    ·
      intro hc9
      try simp only [Bool.and_eq_true, Bool.or_eq_true, Bool.not_eq_true', Bool.and_eq_false_imp, Bool.or_eq_false_iff, Bool.not_eq_false', decide_eq_true_eq, decide_eq_false_iff_not] at hc9
      obtain ⟨y, hyi⟩ : ∃ y, l[k]? = some y := ⟨_, List.getElem?_eq_getElem (by omega)⟩
      have hsA := hl.at hyi
      refine wpIn_skip ?_
      refine thenN ?_
      refine wpIn_seq ?_
      refine wpIn_block ?_
      refine wpIn_seq ?_
      refine reg ?_
      refine qq hS (g_move _) ?_
      refine qq hS (g_movev (v := .int .i64 _) rfl) ?_
      refine qq hS (g_ixI Tryz.underlying68 Tryz.sizeOf3 hl rfl rfl (by omega) (by omega)) ?_
      refine qq hS (g_ldE1 Tryz.isAgg3 hsA rfl rfl) ?_
      refine qq hS (g_movev (v := .int .i64 _) rfl) ?_
      refine qq hS (g_eql rfl rfl) ?_
      refine ol_nil (thenN ?_)
      refine cond_s rfl ?_ ?_
      ·
        intro hc17
        try simp only [Bool.and_eq_true, Bool.or_eq_true, Bool.not_eq_true', Bool.and_eq_false_imp, Bool.or_eq_false_iff, Bool.not_eq_false', decide_eq_true_eq, decide_eq_false_iff_not] at hc17
        have hi := idxM_at (by rw [hyi, hc17]) hno
        refine wpIn_seq ?_
        refine reg ?_
        refine qq hS (g_movev (v := .int .i64 _) rfl) ?_
        refine qq hS (g_assignv (v := .int .i64 _) rfl) ?_
        refine ol_nil (thenN ?_)
        refine wpIn_ret ?_
        refine blkR (thenR (thenR (blkR (thenR ?_))))
        refine ret1 Tryz.results50 (rv_tmp (v := .int .i64 _) rfl) ?_
        first | exact ⟨by rw [hi], hS.nil⟩ | exact ⟨by rw [idxM_no hno], hS.nil⟩
      ·
        intro hc17
        try simp only [Bool.and_eq_true, Bool.or_eq_true, Bool.not_eq_true', Bool.and_eq_false_imp, Bool.or_eq_false_iff, Bool.not_eq_false', decide_eq_true_eq, decide_eq_false_iff_not] at hc17
        have hno2 := no_step hno hyi hc17
        refine wpIn_skip ?_
        refine blkN (thenN ?_)
        refine reg ?_
        refine qq hS (g_movev (v := .int .i64 _) rfl) ?_
        refine qq hS (g_add rfl rfl (by omega) (by omega)) ?_
        refine qq hS (g_assignv (v := .int .i64 _) rfl) ?_
        exact ⟨k + 1, _, rfl, ⟨⟨rfl, rfl, rfl, trivial⟩, hS.sel [], by omega, hno2⟩, by omega⟩
    ·
      intro hc9
      try simp only [Bool.and_eq_true, Bool.or_eq_true, Bool.not_eq_true', Bool.and_eq_false_imp, Bool.or_eq_false_iff, Bool.not_eq_false', decide_eq_true_eq, decide_eq_false_iff_not] at hc9
      have hkn : k = l.length := by omega
      subst hkn
      refine wpIn_exit ?_
      refine thenE (thenE (blkE ?_))
      refine thenN ?_
      refine wpIn_seq ?_
      refine reg ?_
      refine qq hS (g_assignv (v := .int .i64 _) rfl) ?_
      refine ol_nil (thenN ?_)
      refine wpIn_ret ?_
      refine ret1 Tryz.results50 (rv_tmp (v := .int .i64 _) rfl) ?_
      first | exact ⟨by rw [hi], hS.nil⟩ | exact ⟨by rw [idxM_no hno], hS.nil⟩

theorem insertR_c (ad : Option Addr) (cap : Nat) (l : List Int) (n : Int) (w0 : World) (I0 : Imm) (hI : Sat I0 w0) (hl : RFl I0 1 intC (.slice ad l.length cap) l) (hs : l.Pairwise (· < ·)) (hn : l.length ≤ 1073741824) :
    Ctr Tryz.prog 48 [.slice ad l.length cap, .int .i64 n] w0 (fun v w' => ∃ I' a c, v = .slice a (insI l n).length c ∧ Ext w0 I0 w' I' ∧ RFl I' 1 intC (.slice a (insI l n).length c) (insI l n)) := by
  have hle := RSl.le hl
  simp only [maxLen] at hle
  have hcap := rsl_cap hl
  refine fn (n := 40) Tryz.func48 rfl rfl rfl ?_
  have hS := St.start hI
  refine wpIn_seq ?_
  refine reg ?_
  refine qq hS (g_assign _) ?_
  refine ol_nil (thenN ?_)
  refine wpIn_seq ?_
  refine wpIn_seq ?_
  refine reg ?_
  refine qq hS (g_move _) ?_
  refine qq hS (g_movev (v := .int .i64 _) rfl) ?_
  refine qe (d_call Tryz.call50 rfl (idxR_c ad cap l n _ I0 hS.imm hl)) ?_
  rintro _ w_1 ⟨rfl, hE⟩
  replace hS := hS.callE hE
  refine qq hS (g_geq rfl rfl) ?_
  refine ol_nil (thenN ?_)
  refine cond_s rfl ?_ ?_
  ·
    intro hc10
    try simp only [Bool.and_eq_true, Bool.or_eq_true, Bool.not_eq_true', Bool.and_eq_false_imp, Bool.or_eq_false_iff, Bool.not_eq_false', decide_eq_true_eq, decide_eq_false_iff_not] at hc10
    have hm : n ∈ l := idxM_neg.1 hc10
    have e := insI_same hs hm
    refine wpIn_seq ?_
    refine reg ?_
    refine qq hS (g_move _) ?_
    refine qq hS (g_assign _) ?_
    refine ol_nil (thenN ?_)
    refine wpIn_ret ?_
    refine thenR ?_
    refine ret1 Tryz.results48 (rv_tmp rfl) ?_
    first
      | exact ⟨I0, ad, cap, by rw [e] <;> rfl, hS.nil, by rw [e]; exact hl⟩
      | (have e2 : insI l n = l.take k ++ ([n] ++ l.drop k) := e
         rw [e2]
         have hm2 : 0 + (l.take k).length + 1 + (l.drop k).length = (l.take k ++ ([n] ++ l.drop k)).length := by simp only [List.length_append, List.length_singleton]; omega
         obtain ⟨I1, hE1, hI1, hd1⟩ := row_freeze1 intC_len (xs := l.take k ++ ([n] ++ l.drop k)) (m := (l.take k ++ ([n] ++ l.drop k)).length) (by rw [← hm2, flat_append, flat_append, flat_one, ← List.append_assoc]; exact hS.sel []) rfl
         exact ⟨I1, a39, p39, by rw [← hm2] <;> rfl, hE1, by rw [← hm2]; exact hd1⟩)
  ·
    intro hc10
    try simp only [Bool.and_eq_true, Bool.or_eq_true, Bool.not_eq_true', Bool.and_eq_false_imp, Bool.or_eq_false_iff, Bool.not_eq_false', decide_eq_true_eq, decide_eq_false_iff_not] at hc10
    have hm : n ∉ l := fun h => hc10 (idxM_neg.2 h)
    refine wpIn_skip ?_
    refine thenN ?_
    refine wpIn_seq ?_
    refine reg ?_
    refine qq hS (g_assignv (v := .int .i64 _) rfl) ?_
    refine ol_nil (thenN ?_)
    refine wpIn_seq ?_
    refine wpIn_block ?_
    refine loop (fun (k : Nat) σ w => okS σ [(0, .slice ad l.length cap), (1, .int .i64 n), (5, .int .i64 k)] ∧ St [] w0 I0 I0 w [] ∧ k ≤ l.length ∧ ∀ i, i < k → ∀ z, l[i]? = some z → z < n) (fun k => l.length - k) (0) ?_ ?_
    ·
      exact ⟨⟨rfl, rfl, rfl, trivial⟩, hS.sel [], by omega, fun i hi => by omega⟩
    ·
      rintro k σ w_l ⟨hs, hS, hk, hlt⟩
      rw [← upds_self hs]; clear hs
      have hxA : k < l.length → atI I0 (elA (.slice ad l.length cap) k 1 0) [.int .i64 (l.getD k 0)] := fun h => hl.at (getD_get h)
      refine wpIn_seq ?_
      refine wpIn_seq ?_
      refine reg ?_
      refine qq hS (g_movev (v := .int .i64 _) rfl) ?_
      refine qq hS (g_move _) ?_
      refine qq hS (g_lenI rfl Tryz.underlying68 hl rfl) ?_
      refine qq hS (g_lss rfl rfl) ?_
      refine qq hS (g_movev (v := .bool _) rfl) ?_
      refine qu rfl rfl hS (fun hg => (g_move _)) ?_
      intro u17 hu17 hn17
      refine qu rfl rfl hS (fun hg => (g_movev (v := .int .i64 _) rfl)) ?_
      intro u18 hu18 hn18
      refine qu rfl rfl hS (fun hg => (g_ixI Tryz.underlying68 Tryz.sizeOf3 hl (hu17 hg) (hu18 hg) (by have := of_decide_eq_true hg; omega) (by have := of_decide_eq_true hg; omega))) ?_
      intro u19 hu19 hn19
      refine qu rfl rfl hS (fun hg => (g_ldE1 Tryz.isAgg3 (hxA (by have := of_decide_eq_true hg; omega)) (hu19 hg) rfl)) ?_
      intro u20 hu20 hn20
      refine qu rfl rfl hS (fun hg => (g_movev (v := .int .i64 _) rfl)) ?_
      intro u21 hu21 hn21
      refine qu rfl rfl hS (fun hg => (g_lss (hu20 hg) (hu21 hg))) ?_
      intro u22 hu22 hn22
      refine qq hS (g_and rfl rfl (fun hq => hu22 hq)) ?_
      refine ol_nil (thenN ?_)
      refine cond_s rfl ?_ ?_
      ·
        intro hc23
        clear hu17 hn17 hu18 hn18 hu19 hn19 hu20 hn20 hu21 hn21 hu22 hn22
        try simp only [Bool.and_eq_true, Bool.or_eq_true, Bool.not_eq_true', Bool.and_eq_false_imp, Bool.or_eq_false_iff, Bool.not_eq_false', decide_eq_true_eq, decide_eq_false_iff_not] at hc23
        have hkl : k < l.length := by have := hc23.1; omega
        obtain ⟨y, hyi⟩ : ∃ y, l[k]? = some y := ⟨_, List.getElem?_eq_getElem hkl⟩
        have hyn : l.getD k 0 < n := hc23.2
        rw [getN_at hyi] at hyn
        have hlt2 := lt_step hlt hyi hyn
        refine wpIn_skip ?_
        refine thenN ?_
        refine wpIn_block ?_
        refine reg ?_
        refine qq hS (g_movev (v := .int .i64 _) rfl) ?_
        refine qq hS (g_add rfl rfl (by omega) (by omega)) ?_
        refine qq hS (g_assignv (v := .int .i64 _) rfl) ?_
        exact ⟨k + 1, _, rfl, ⟨⟨rfl, rfl, rfl, trivial⟩, hS.sel [], by omega, hlt2⟩, by omega⟩
      ·
        intro hc23
        clear hu17 hn17 hu18 hn18 hu19 hn19 hu20 hn20 hu21 hn21 hu22 hn22
        try simp only [Bool.and_eq_true, Bool.or_eq_true, Bool.not_eq_true', Bool.and_eq_false_imp, Bool.or_eq_false_iff, Bool.not_eq_false', decide_eq_true_eq, decide_eq_false_iff_not] at hc23
        have hend : ∀ y, l[k]? = some y → n ≤ y := fun y hy => by
          have h1 := (List.getElem?_eq_some_iff.1 hy).1
          have h2 := getN_at (d := 0) hy
          have h3 := hc23 (by omega)
          omega
        have e := insI_new hk hm hlt hend
        refine wpIn_exit ?_
        refine thenE (thenE (blkE ?_))
        refine thenN ?_
        refine wpIn_seq ?_
        have hs29 := RSl.slH hl k hk
        have hs38 := RSl.slL hl k hk
        obtain ⟨a29, c29, hv29, _⟩ := hs29.len
        obtain ⟨a38, c38, hv38, _⟩ := hs38.len
        rw [hv29] at hs29
        rw [hv38] at hs38
        have hl29 : (l.take k).length = k := by rw [List.length_take]; omega
        have hl38 : (l.drop k).length = l.length - k := List.length_drop
        refine reg ?_
        refine qe (d_buildSlice0 hS Tryz.underlying68 Tryz.sizeOf3) ?_
        clear hS
        rintro _ w_2 ⟨hS, b26_, rfl⟩
        refine qq hS (g_move _) ?_
        refine qq hS (g_movev (v := .int .i64 _) rfl) ?_
        refine qq hS (g_toV (g_sliceHN (h0 := k) Tryz.underlying68 Tryz.sizeOf3 rfl rfl (by omega) (by omega) (by omega)) hv29) ?_
        refine qe (i_appendF 0 hS rfl Tryz.underlying68 info3 rfl rfl rfl rfl intC_len (fun _ => rfl) hs29 rfl (by omega) (by omega)) ?_
        clear hS
        rintro _ w_3 ⟨a30, p30, rfl, hS⟩
        refine qq hS (g_assign _) ?_
        refine ol_nil (thenN ?_)
        refine wpIn_seq ?_
        refine reg ?_
        refine qq hS (g_move _) ?_
        refine qq hS (g_movev (v := .int .i64 _) rfl) ?_
        refine qe (d_lit (vs := [.int .i64 _]) (cs := [.int .i64 _]) hS Tryz.underlying68 Tryz.sizeOf3 Tryz.zeroValue3 rfl rfl rfl rfl (fun v hv => by simp only [List.mem_cons, List.not_mem_nil, or_false] at hv; subst hv; rfl) rfl) ?_
        clear hS
        rintro _ w_4 ⟨b33, rfl, hS⟩
        refine qe (i_appendO 1 0 hS rfl Tryz.underlying68 info3 rfl rfl rfl rfl rfl rfl rfl rfl (by omega) (by omega)) ?_
        clear hS
        rintro _ w_5 ⟨a34, p34, rfl, hS⟩
        refine qq hS (g_assign _) ?_
        refine ol_nil (thenN ?_)
        refine wpIn_seq ?_
        refine reg ?_
        refine qq hS (g_move _) ?_
        refine qq hS (g_move _) ?_
        refine qq hS (g_movev (v := .int .i64 _) rfl) ?_
        refine qq hS (g_toV (g_sliceLN (l0 := k) Tryz.underlying68 Tryz.sizeOf3 rfl rfl (by omega) (by omega) (by omega)) hv38) ?_
        refine qe (i_appendF 1 hS rfl Tryz.underlying68 info3 rfl rfl rfl rfl intC_len (fun _ => rfl) hs38 rfl (by omega) (by omega)) ?_
        clear hS
        rintro _ w_6 ⟨a39, p39, rfl, hS⟩
        refine qq hS (g_assign _) ?_
        refine ol_nil (thenN ?_)
        refine wpIn_ret ?_
        refine ret1 Tryz.results48 (rv_tmp rfl) ?_
        first
          | exact ⟨I0, ad, cap, by rw [e] <;> rfl, hS.nil, by rw [e]; exact hl⟩
          | (have e2 : insI l n = l.take k ++ ([n] ++ l.drop k) := e
             rw [e2]
             have hm2 : 0 + (l.take k).length + 1 + (l.drop k).length = (l.take k ++ ([n] ++ l.drop k)).length := by simp only [List.length_append, List.length_singleton]; omega
             obtain ⟨I1, hE1, hI1, hd1⟩ := row_freeze1 intC_len (xs := l.take k ++ ([n] ++ l.drop k)) (m := (l.take k ++ ([n] ++ l.drop k)).length) (by rw [← hm2, flat_append, flat_append, flat_one, ← List.append_assoc]; exact hS.sel [false, true]) rfl
             exact ⟨I1, a39, p39, by rw [← hm2] <;> rfl, hE1, by rw [← hm2]; exact hd1⟩)

theorem numR_c (w op k : Int) (w0 : World) (I0 : Imm) (hI : Sat I0 w0) (hw0 : 0 ≤ w) (hw1 : w < 4294967296) (ho : 5 ≤ op ∧ op ≤ 8) (hk0 : 0 ≤ k) (hk1 : k ≤ 65535) :
    Ctr Tryz.prog 49 [.int .u32 w, .int .i64 op, .int .i64 k] w0 (fun v w' => v = .int .u32 (numP w op k) ∧ Ext w0 I0 w' I0) := by
  refine fn (n := 23) Tryz.func49 rfl rfl rfl ?_
  have hS := St.start hI
  refine wpIn_seq ?_
  refine reg ?_
  refine qq hS (g_assignv (v := .int .u32 _) rfl) ?_
  refine ol_nil (thenN ?_)
  refine wpIn_seq ?_
  refine wpIn_seq ?_
  refine reg ?_
  refine qq hS (g_movev (v := .int .i64 _) rfl) ?_
  refine qq hS (g_eql rfl rfl) ?_
  refine qq hS (g_movev (v := .bool _) rfl) ?_
  refine qu rfl rfl hS (fun hg => (g_movev (v := .int .i64 _) rfl)) ?_
  intro u10 hu10 hn10
  refine qu rfl rfl hS (fun hg => (g_eql (hu10 hg) rfl)) ?_
  intro u11 hu11 hn11
  refine qq hS (g_or rfl rfl (fun hq => hu11 hq)) ?_
  refine ol_nil (thenN ?_)
  refine cond_s rfl ?_ ?_
  ·
    intro hc12
    clear hu10 hn10 hu11 hn11
    try simp only [Bool.and_eq_true, Bool.or_eq_true, Bool.not_eq_true', Bool.and_eq_false_imp, Bool.or_eq_false_iff, Bool.not_eq_false', decide_eq_true_eq, decide_eq_false_iff_not] at hc12
    have e : numP w op k = w - w % 16777216 + k := by unfold numP fieldM; rw [if_pos hc12]; omega
    refine wpIn_seq ?_
    refine reg ?_
    refine qq hS (g_movev (v := .int .u32 _) rfl) ?_
    refine qq hS (g_andHi (m := 24) (c := w - w % 16777216) rfl rfl (by decide) rfl hw0 hw1 (by rw [IntKind.wrap_u32]; omega)) ?_
    refine qq hS (g_movev (v := .int .i64 _) rfl) ?_
    refine qq hS (g_convK (c := k) Tryz.underlying3 Tryz.underlying58 rfl (by rw [IntKind.wrap_u32]; omega)) ?_
    refine qq hS (g_orD (m := 24) (c := w - w % 16777216 + k) rfl rfl (by omega) (Int.lt_of_lt_of_le (show w - w % 16777216 < 4294967296 by omega) (Int.le_refl _)) (by omega) (by omega) (by omega) (Int.lt_of_lt_of_le (show k < 4294967296 by omega) (Int.le_refl _)) (by rw [IntKind.wrap_u32]; omega)) ?_
    refine qq hS (g_assignv (v := .int .u32 _) rfl) ?_
    refine ol_nil (thenN ?_)
    refine wpIn_ret ?_
    refine thenR ?_
    refine ret1 Tryz.results49 (rv_tmp (v := .int .u32 _) rfl) ?_
    exact ⟨by rw [e], hS.nil⟩
  ·
    intro hc12
    clear hu10 hn10 hu11 hn11
    try simp only [Bool.and_eq_true, Bool.or_eq_true, Bool.not_eq_true', Bool.and_eq_false_imp, Bool.or_eq_false_iff, Bool.not_eq_false', decide_eq_true_eq, decide_eq_false_iff_not] at hc12
    have e : numP w op k = w - w % 65536 + k := by unfold numP fieldM; rw [if_neg (by omega)]; omega
    refine wpIn_skip ?_
    refine thenN ?_
    refine wpIn_seq ?_
    refine reg ?_
    refine qq hS (g_movev (v := .int .u32 _) rfl) ?_
    refine qq hS (g_andHi (m := 16) (c := w - w % 65536) rfl rfl (by decide) rfl hw0 hw1 (by rw [IntKind.wrap_u32]; omega)) ?_
    refine qq hS (g_movev (v := .int .i64 _) rfl) ?_
    refine qq hS (g_convK (c := k) Tryz.underlying3 Tryz.underlying58 rfl (by rw [IntKind.wrap_u32]; omega)) ?_
    refine qq hS (g_orD (m := 16) (c := w - w % 65536 + k) rfl rfl (by omega) (Int.lt_of_lt_of_le (show w - w % 65536 < 4294967296 by omega) (Int.le_refl _)) (by omega) (by omega) (by omega) (Int.lt_of_lt_of_le (show k < 4294967296 by omega) (Int.le_refl _)) (by rw [IntKind.wrap_u32]; omega)) ?_
    refine qq hS (g_assignv (v := .int .u32 _) rfl) ?_
    refine ol_nil (thenN ?_)
    refine wpIn_ret ?_
    refine ret1 Tryz.results49 (rv_tmp (v := .int .u32 _) rfl) ?_
    exact ⟨by rw [e], hS.nil⟩

set_option maxHeartbeats 1000000 in
theorem wordsR_c (ad : Option Addr) (cap n : Nat) (b : List Int) (w0 : World) (I0 : Imm) (hI : Sat I0 w0) (hl : RBytes I0 (.slice ad b.length cap) b) (hb : Byts b) (hn : b.length = 4 * n) (hn1 : n ≤ 1073741824) :
    Ctr Tryz.prog 46 [.slice ad b.length cap] w0 (fun v w' => ∃ I' a c, v = .tuple #[.slice a n c, .int .i64 0] ∧ Ext w0 I0 w' I' ∧ RFl I' 1 u32C (.slice a n c) (wordsN b n)) := by
  have hle := RSl.le hl
  simp only [maxLen] at hle
  refine fn (n := 50) Tryz.func46 rfl rfl rfl ?_
  have hS := St.start hI
  refine wpIn_seq ?_
  refine reg ?_
  refine qq hS (g_assign _) ?_
  refine qq hS (g_assignv (v := .int .i64 _) rfl) ?_
  refine ol_nil (thenN ?_)
  refine wpIn_seq ?_
  refine wpIn_seq ?_
  refine reg ?_
  refine qq hS (g_move _) ?_
  refine qq hS (g_lenI rfl Tryz.underlying25 hl rfl) ?_
  refine qq hS (g_rem rfl rfl (by omega) (by omega)) ?_
  refine qq hS (g_neqF rfl rfl (by omega)) ?_
  refine ol_nil (thenN ?_)
  refine cond_f (rfl) ?_
  refine wpIn_skip ?_
  refine thenN ?_
  refine wpIn_seq ?_
  refine reg ?_
  refine qe (d_buildSlice0 hS Tryz.underlying57 Tryz.sizeOf58) ?_
  clear hS
  rintro _ w_1 ⟨hS, b10_, rfl⟩
  refine qq hS (g_assign _) ?_
  refine ol_nil (thenN ?_)
  refine wpIn_seq ?_
  refine wpIn_seq ?_
  refine reg ?_
  refine qq hS (g_assignv (v := .int .i64 _) rfl) ?_
  refine ol_nil (thenN ?_)
  refine wpIn_block ?_
  refine loop (fun (x : BtW) σ w => okS σ [(0, .slice ad b.length cap), (4, .slice x.a x.k x.c), (5, .int .i64 (4 * x.k : Nat))] ∧ St [] w0 I0 I0 w [.row (.slice x.a x.k x.c) 58 1 x.k (flat u32C (wordsN b x.k))] ∧ x.k ≤ n) (fun x => n - x.k) (⟨0, some ⟨b10_, 0, none⟩, 0⟩) ?_ ?_
  ·
    exact ⟨⟨rfl, rfl, rfl, trivial⟩, hS.sel [true], by dsimp only; omega⟩
  ·
    rintro ⟨k, a, c⟩ σ w_l ⟨hs, hS, hk⟩
    dsimp only at hs hS hk ⊢
    rw [← upds_self hs]; clear hs
    refine wpIn_seq ?_
    refine wpIn_seq ?_
    refine reg ?_
    refine qq hS (g_movev (v := .int .i64 _) rfl) ?_
    refine qq hS (g_move _) ?_
    refine qq hS (g_lenI rfl Tryz.underlying25 hl rfl) ?_
    refine qq hS (g_lss rfl rfl) ?_
    refine ol_nil (thenN ?_)
    refine cond_s rfl ?_ ?_
    ·
      intro hc14
      try simp only [Bool.and_eq_true, Bool.or_eq_true, Bool.not_eq_true', Bool.and_eq_false_imp, Bool.or_eq_false_iff, Bool.not_eq_false', decide_eq_true_eq, decide_eq_false_iff_not] at hc14
      have hA0 := hl.at (getD_get (l := b) (i := 4 * k + 0) (by omega))
      have hy0 := byts_getD hb (4 * k + 0)
      have hA1 := hl.at (getD_get (l := b) (i := 4 * k + 1) (by omega))
      have hy1 := byts_getD hb (4 * k + 1)
      have hA2 := hl.at (getD_get (l := b) (i := 4 * k + 2) (by omega))
      have hy2 := byts_getD hb (4 * k + 2)
      have hA3 := hl.at (getD_get (l := b) (i := 4 * k + 3) (by omega))
      have hy3 := byts_getD hb (4 * k + 3)
      have hw4 : word4 b k = b.getD (4 * k + 0) 0 * 16777216 + b.getD (4 * k + 1) 0 * 65536 + b.getD (4 * k + 2) 0 * 256 + b.getD (4 * k + 3) 0 := rfl
      have hwb := word4_b hb k
      refine wpIn_skip ?_
      refine thenN ?_
      refine wpIn_seq ?_
      refine wpIn_block ?_
      refine draw (.cons 0 .pure (.cons 1 .pure (.cons 2 .pure (.cons 3 .pure (.cons 4 .held (.cons 5 .pure (.cons 6 .pure (.cons 7 .pure (.cons 8 .pure (.cons 9 .pure (.cons 10 .pure (.cons 11 .held (.cons 12 .pure (.cons 13 .pure (.cons 14 .pure (.cons 15 .pure (.cons 16 .pure (.cons 17 .pure (.cons 18 .pure (.cons 19 .held (.cons 20 .pure (.cons 21 .pure (.cons 22 .pure (.cons 23 .pure (.cons 24 .pure (.cons 25 .pure (.cons 26 .pure (.cons 27 .held (.cons 28 .pure (.cons 29 .pure (.cons 30 .eff (.cons 31 .bar (.cons 32 .pure .nil))))))))))))))))))))))))))))))))) mixed (by kernel_rfl) hS ?_
      intro w_2 hS
      refine sp rfl (g_move _) ?_
      refine sp rfl (g_move _) ?_
      refine sp rfl (g_movev (v := .int .i64 _) rfl) ?_
      refine sp rfl (g_ixI Tryz.underlying25 Tryz.sizeOf5 hl rfl rfl (by omega) (by omega)) ?_
      refine sh rfl (g_ldE1 Tryz.isAgg5 hA0 rfl rfl) ?_
      refine sp rfl (g_convK (c := b.getD (4 * k + 0) 0) Tryz.underlying5 Tryz.underlying58 rfl (by rw [IntKind.wrap_u32]; omega)) ?_
      refine sp rfl (g_shlV (s := 24) (c := b.getD (4 * k + 0) 0 * 16777216) rfl rfl rfl rfl (by rw [IntKind.wrap_u32]; omega)) ?_
      refine sp rfl (g_move _) ?_
      refine sp rfl (g_movev (v := .int .i64 _) rfl) ?_
      refine sp rfl (g_add rfl rfl (by omega) (by omega)) ?_
      refine sp rfl (g_ixI Tryz.underlying25 Tryz.sizeOf5 hl rfl rfl (by omega) (by omega)) ?_
      refine sh rfl (g_ldE1 Tryz.isAgg5 hA1 rfl rfl) ?_
      refine sp rfl (g_convK (c := b.getD (4 * k + 1) 0) Tryz.underlying5 Tryz.underlying58 rfl (by rw [IntKind.wrap_u32]; omega)) ?_
      refine sp rfl (g_shlV (s := 16) (c := b.getD (4 * k + 1) 0 * 65536) rfl rfl rfl rfl (by rw [IntKind.wrap_u32]; omega)) ?_
      refine sp rfl (g_orD (m := 24) (c := b.getD (4 * k + 0) 0 * 16777216 + b.getD (4 * k + 1) 0 * 65536) rfl rfl (by omega) (Int.lt_of_lt_of_le (show b.getD (4 * k + 0) 0 * 16777216 < 4294967296 by omega) (Int.le_refl _)) (by omega) (by omega) (by omega) (Int.lt_of_lt_of_le (show b.getD (4 * k + 1) 0 * 65536 < 4294967296 by omega) (Int.le_refl _)) (by rw [IntKind.wrap_u32]; omega)) ?_
      refine sp rfl (g_move _) ?_
      refine sp rfl (g_movev (v := .int .i64 _) rfl) ?_
      refine sp rfl (g_add rfl rfl (by omega) (by omega)) ?_
      refine sp rfl (g_ixI Tryz.underlying25 Tryz.sizeOf5 hl rfl rfl (by omega) (by omega)) ?_
      refine sh rfl (g_ldE1 Tryz.isAgg5 hA2 rfl rfl) ?_
      refine sp rfl (g_convK (c := b.getD (4 * k + 2) 0) Tryz.underlying5 Tryz.underlying58 rfl (by rw [IntKind.wrap_u32]; omega)) ?_
      refine sp rfl (g_shlV (s := 8) (c := b.getD (4 * k + 2) 0 * 256) rfl rfl rfl rfl (by rw [IntKind.wrap_u32]; omega)) ?_
      refine sp rfl (g_orD (m := 16) (c := b.getD (4 * k + 0) 0 * 16777216 + b.getD (4 * k + 1) 0 * 65536 + b.getD (4 * k + 2) 0 * 256) rfl rfl (by omega) (Int.lt_of_lt_of_le (show b.getD (4 * k + 0) 0 * 16777216 + b.getD (4 * k + 1) 0 * 65536 < 4294967296 by omega) (Int.le_refl _)) (by omega) (by omega) (by omega) (Int.lt_of_lt_of_le (show b.getD (4 * k + 2) 0 * 256 < 4294967296 by omega) (Int.le_refl _)) (by rw [IntKind.wrap_u32]; omega)) ?_
      refine sp rfl (g_move _) ?_
      refine sp rfl (g_movev (v := .int .i64 _) rfl) ?_
      refine sp rfl (g_add rfl rfl (by omega) (by omega)) ?_
      refine sp rfl (g_ixI Tryz.underlying25 Tryz.sizeOf5 hl rfl rfl (by omega) (by omega)) ?_
      refine sh rfl (g_ldE1 Tryz.isAgg5 hA3 rfl rfl) ?_
      refine sp rfl (g_convK (c := b.getD (4 * k + 3) 0) Tryz.underlying5 Tryz.underlying58 rfl (by rw [IntKind.wrap_u32]; omega)) ?_
      refine sp rfl (g_orD (m := 8) (c := b.getD (4 * k + 0) 0 * 16777216 + b.getD (4 * k + 1) 0 * 65536 + b.getD (4 * k + 2) 0 * 256 + b.getD (4 * k + 3) 0) rfl rfl (by omega) (Int.lt_of_lt_of_le (show b.getD (4 * k + 0) 0 * 16777216 + b.getD (4 * k + 1) 0 * 65536 + b.getD (4 * k + 2) 0 * 256 < 4294967296 by omega) (Int.le_refl _)) (by omega) (by omega) (by omega) (Int.lt_of_lt_of_le (show b.getD (4 * k + 3) 0 < 4294967296 by omega) (Int.le_refl _)) (by rw [IntKind.wrap_u32]; omega)) ?_
      have hS0 := hS
      refine se rfl (d_lit (vs := [.int .u32 _]) (cs := [.int .u32 _]) hS Tryz.underlying57 Tryz.sizeOf58 Tryz.zeroValue58 rfl rfl rfl rfl (fun v hv => by simp only [List.mem_cons, List.not_mem_nil, or_false] at hv; subst hv; rfl) rfl) ?_
      rintro _ w_3 ⟨b47, rfl, hS⟩
      refine ⟨_, _, hS0.le (Sub.refl _) (List.sublist_cons_self _ _), hS, ?_⟩
      refine sb rfl (i_appendO 1 0 hS rfl Tryz.underlying57 info58 rfl rfl rfl rfl rfl rfl rfl rfl (by omega) (by omega)) ?_
      rintro _ w_4 ⟨a48, p48, rfl, hS⟩
      refine ⟨_, _, hS, ?_⟩
      refine sp rfl (g_assign _) ?_
      refine sn (blkN (thenN ?_))
      refine reg ?_
      refine qq hS (g_movev (v := .int .i64 _) rfl) ?_
      refine qq hS (g_add rfl rfl (by omega) (by omega)) ?_
      refine qq hS (g_assignv (v := .int .i64 _) rfl) ?_
      refine ⟨⟨k + 1, a48, p48⟩, _, rfl, ⟨⟨rfl, rfl, congrArg (Value.int .i64) (show ((4 * k : Nat) : Int) + 4 = ((4 * (k + 1) : Nat) : Int) by omega), trivial⟩, ?_, by dsimp only; omega⟩, by dsimp only; omega⟩
      dsimp only
      rw [wordsN_succ, flat_append, flat_one, hw4]
      exact hS.sel [false, true]
    ·
      intro hc14
      try simp only [Bool.and_eq_true, Bool.or_eq_true, Bool.not_eq_true', Bool.and_eq_false_imp, Bool.or_eq_false_iff, Bool.not_eq_false', decide_eq_true_eq, decide_eq_false_iff_not] at hc14
      have hkn : k = n := by omega
      subst hkn
      refine wpIn_exit ?_
      refine thenE (thenE (blkE ?_))
      refine thenN ?_
      refine wpIn_seq ?_
      refine reg ?_
      refine qq hS (g_move _) ?_
      refine qq hS (g_assign _) ?_
      refine qq hS (g_assignv (v := .int .i64 _) rfl) ?_
      refine ol_nil (thenN ?_)
      refine wpIn_ret ?_
      refine ret2 Tryz.results46 (rv_tmp rfl) (rv_tmp (v := .int .i64 _) rfl) ?_
      obtain ⟨I1, hE1, hI1, hd1⟩ := row_freeze1 u32C_len (xs := wordsN b k) (hS.sel [true]) (wordsN_len b k).symm
      exact ⟨I1, a, c, rfl, hE1, hd1⟩

set_option maxHeartbeats 2000000 in
theorem liftR_c (ad : Option Addr) (cap n : Nat) (b : List Int) (w0 : World) (I0 : Imm) (hI : Sat I0 w0) (hl : RBytes I0 (.slice ad b.length cap) b) (hb : Byts b) (hn : b.length = 4 * n) (hn1 : n ≤ 16384) :
    Ctr Tryz.prog 23 [.slice ad b.length cap] w0 (fun v w' => ∃ I' a0 c0 a1 c1 a2 c2, v = .tuple #[.agg #[.slice a0 n c0, .slice a1 n c1, .slice a2 (labelsP (wordsN b n)).length c2], .int .i64 0] ∧ Ext w0 I0 w' I' ∧
      RFl I' 1 u32C (.slice a0 n c0) (liftP (wordsN b n)).words ∧ RFl I' 1 boolC (.slice a1 n c1) (liftP (wordsN b n)).marks ∧ RFl I' 1 intC (.slice a2 (labelsP (wordsN b n)).length c2) (liftP (wordsN b n)).labels) := by
  have hwl := wordsN_len b n
  have hwr := wordsN_wrds hb n
  have hlen := labelsP_len (wordsN b n)
  rw [hwl] at hlen
  have hnc : noCode b = false := by unfold noCode; rw [decide_eq_true (by omega), decide_eq_false (by omega)]; rfl
  have hwa := wUp_all (wordsN b n)
  have hma := mUp_all (wordsN b n)
  have hla := labU_all (wordsN b n)
  rw [hwl] at hwa hma hla
  refine fn (n := 90) Tryz.func23 rfl rfl rfl ?_
  have hS := St.start hI
  refine wpIn_seq ?_
  refine reg ?_
  refine qe (d_alloc (cs := [.slice _ _ _, .slice _ _ _, .slice _ _ _]) hS Tryz.zeroValue70 rfl) ?_
  clear hS
  rintro _ w_1 ⟨b2, rfl, hS⟩
  refine qq hS (g_assignv (v := .int .i64 _) rfl) ?_
  refine ol_nil (thenN ?_)
  refine wpIn_seq ?_
  refine wpIn_seq ?_
  refine reg ?_
  refine qq hS (g_move _) ?_
  refine qe (d_call Tryz.call45 rfl (isCode_c ad cap b _ _ hS.imm hl)) ?_
  rintro _ w_2 ⟨rfl, hE⟩
  replace hS := hS.callE hE
  refine qq hS (g_toV (g_not rfl) (congrArg Value.bool (show (!!noCode b) = false by rw [hnc]; rfl))) ?_
  refine ol_nil (thenN ?_)
  refine cond_f (rfl) ?_
  refine wpIn_skip ?_
  refine thenN ?_
  refine wpIn_seq ?_
  refine reg ?_
  refine qq hS (g_move _) ?_
  refine qe (d_call Tryz.call46 rfl (wordsR_c ad cap n b _ _ hS.imm hl hb hn (by omega))) ?_
  rintro _ w_3 ⟨I_f, a19, c19, rfl, hE, h19⟩
  replace hS := hS.callE hE
  replace hl := hl.mono hE.ext
  refine qq hS (g_move _) ?_
  refine qq hS (g_extract rfl rfl) ?_
  refine qq hS (g_extract (v := .int .i64 _) rfl rfl) ?_
  refine qq hS (g_assign _) ?_
  refine qq hS (g_assignv (v := .int .i64 _) rfl) ?_
  refine ol_nil (thenN ?_)
  refine wpIn_seq ?_
  refine reg ?_
  refine qq hS (g_buildv (pl := [(0, 1), (1, 1), (2, 1)]) (cs := [.slice _ _ _, .slice _ _ _, .slice _ _ _]) Tryz.zeroValue70 Tryz.underlying70 (fun w => by simp [Tryz.sizeOf57, Tryz.sizeOf67, Tryz.sizeOf68]) mp0 rfl) ?_
  refine qe (d_alloc (cs := [.slice _ _ _, .slice _ _ _, .slice _ _ _]) hS Tryz.zeroValue70 rfl) ?_
  clear hS
  rintro _ w_4 ⟨b6, rfl, hS⟩
  refine qe (d_store 0 hS Tryz.sizeOf70 rfl rfl rfl (vs := [.slice _ _ _, .slice _ _ _, .slice _ _ _]) rfl rfl rfl (Nat.le_of_ble_eq_true rfl) (cs' := [_, _, _]) rfl) ?_
  clear hS
  rintro _ w_5 ⟨rfl, hS⟩
  refine ol_nil (thenN ?_)
  refine wpIn_seq ?_
  refine wpIn_seq ?_
  refine reg ?_
  refine qq hS (g_assignv (v := .int .i64 _) rfl) ?_
  refine ol_nil (thenN ?_)
  refine wpIn_block ?_
  refine loop (fun (x : BtW) σ w => okS σ [(0, .slice ad b.length cap), (2, .pointer (some ⟨b2, 0, none⟩)), (4, .slice a19 n c19), (6, .pointer (some ⟨b6, 0, none⟩)), (7, .int .i64 x.k)] ∧ ∃ I, St [] w0 I0 I w [.cel b6 70 [.slice none 0 0, .slice none 0 0, .slice x.a (labU (wordsN b n) x.k).length x.c], .cel b2 70 [.slice none 0 0, .slice none 0 0, .slice none 0 0]] ∧ x.k ≤ n ∧ RBytes I (.slice ad b.length cap) b ∧ RFl I 1 u32C (.slice a19 n c19) (wordsN b n) ∧ RFl I 1 intC (.slice x.a (labU (wordsN b n) x.k).length x.c) (labU (wordsN b n) x.k)) (fun x => n - x.k) (⟨0, none, 0⟩) ?_ ?_
  ·
    exact ⟨⟨rfl, rfl, rfl, rfl, rfl, trivial⟩, _, hS.sel [true, true], by dsimp only; omega, hl, h19, RFl.nil⟩
  ·
    rintro ⟨k, a, c⟩ σ w_l ⟨hs, I, hS, hk, hl, h19, hlb⟩
    dsimp only at hs hS hk hl h19 hlb ⊢
    rw [← upds_self hs]; clear hs
    refine wpIn_seq ?_
    refine wpIn_seq ?_
    refine reg ?_
    refine qq hS (g_movev (v := .int .i64 _) rfl) ?_
    refine qq hS (g_move _) ?_
    refine qq hS (g_lenI rfl Tryz.underlying57 h19 rfl) ?_
    refine qq hS (g_lss rfl rfl) ?_
    refine ol_nil (thenN ?_)
    refine cond_s rfl ?_ ?_
    ·
      intro hc26
      try simp only [Bool.and_eq_true, Bool.or_eq_true, Bool.not_eq_true', Bool.and_eq_false_imp, Bool.or_eq_false_iff, Bool.not_eq_false', decide_eq_true_eq, decide_eq_false_iff_not] at hc26
      obtain ⟨y, hyi⟩ : ∃ y, (wordsN b n)[k]? = some y := ⟨_, List.getElem?_eq_getElem (by rw [hwl]; omega)⟩
      have hyb := hwr y (List.mem_of_getElem? hyi)
      have hyA := h19.at hyi
      obtain ⟨X, hX⟩ : ∃ X, decI y (4 * (k : Int)) = X := ⟨_, rfl⟩
      have hXi : instAt (wordsN b n) k = X := by unfold instAt; rw [getN_at hyi, hX]
      have hlk : lnk (wordsN b n) k = linkedP X (b.length : Int) := by unfold lnk; rw [hXi, hwl, show (4 * (n : Int)) = (b.length : Int) by omega]
      have hul := labU_len (wordsN b n) k
      refine wpIn_skip ?_
      refine thenN ?_
      refine wpIn_seq ?_
      refine wpIn_block ?_
      refine wpIn_seq ?_
      refine reg ?_
      refine qq hS (g_move _) ?_
      refine qq hS (g_movev (v := .int .i64 _) rfl) ?_
      refine qq hS (g_ixI Tryz.underlying57 Tryz.sizeOf58 h19 rfl rfl (by omega) (by omega)) ?_
      refine qq hS (g_ldE1 Tryz.isAgg58 hyA rfl rfl) ?_
      refine qq hS (g_movev (v := .int .i64 _) rfl) ?_
      refine qq hS (g_mul rfl rfl (by omega) (by omega)) ?_
      refine qe (d_call Tryz.call44 rfl (decR_i y (4 * (k : Int)) _ _ hS.imm hX hyb.1 hyb.2 (by omega) (by omega))) ?_
      rintro _ w_6 ⟨rfl, hE⟩
      replace hS := hS.callE hE
      refine qe (d_alloc (cs := [.int .i64 _, .int .i64 _, .int .i64 _, .int .i64 _, .int .i64 _]) hS Tryz.zeroValue63 rfl) ?_
      clear hS
      rintro _ w_7 ⟨b8, rfl, hS⟩
      refine qe (d_store 0 hS Tryz.sizeOf63 rfl rfl rfl (vs := [.int .i64 _, .int .i64 _, .int .i64 _, .int .i64 _, .int .i64 _]) rfl rfl rfl (Nat.le_of_ble_eq_true rfl) (cs' := [_, _, _, _, _]) rfl) ?_
      clear hS
      rintro _ w_8 ⟨rfl, hS⟩
      refine ol_nil (thenN ?_)
      refine wpIn_seq ?_
      refine reg ?_
      refine qq hS (g_ldO 0 (vs := [.int .i64 _, .int .i64 _, .int .i64 _, .int .i64 _, .int .i64 _]) Tryz.sizeOf63 Tryz.isAgg63 rfl rfl rfl rfl) ?_
      refine qq hS (g_move _) ?_
      refine qq hS (g_lenI rfl Tryz.underlying25 hl rfl) ?_
      refine qe (d_call Tryz.call47 rfl (linkR_c X (b.length : Int) _ _ hS.imm)) ?_
      rintro _ w_9 ⟨rfl, hE⟩
      replace hS := hS.callE hE
      refine ol_nil (thenN ?_)
      refine cond_s rfl ?_ ?_
      ·
        intro hc39
        have e : labU (wordsN b n) (k + 1) = insI (labU (wordsN b n) k) X.n := by show (if _ then _ else _) = _; rw [if_pos (by rw [hlk]; exact hc39), hXi]
        refine reg ?_
        refine qq hS (g_fieldAddr (o' := 2) Tryz.underlying70 rfl Tryz.sizeOf68 rfl rfl rfl) ?_
        refine qq hS (g_ldO1 1 Tryz.isAgg68 rfl rfl rfl) ?_
        refine qq hS (g_fieldAddr (o' := 4) Tryz.underlying63 rfl Tryz.sizeOf3 rfl rfl rfl) ?_
        refine qq hS (g_ldO1 0 Tryz.isAgg3 rfl rfl rfl) ?_
        refine qe (d_call Tryz.call48 rfl (insertR_c a c (labU (wordsN b n) k) X.n _ _ hS.imm hlb (labU_sorted _ _) (by omega))) ?_
        rintro _ w_10 ⟨I_f, a44, c44, rfl, hE, h44⟩
        replace hS := hS.callE hE
        replace hl := hl.mono hE.ext
        replace h19 := h19.mono hE.ext
        replace hlb := hlb.mono hE.ext
        refine qq hS (g_fieldAddr (o' := 2) Tryz.underlying70 rfl Tryz.sizeOf68 rfl rfl rfl) ?_
        refine qe (d_store 1 hS Tryz.sizeOf68 rfl rfl rfl (vs := [.slice _ _ _]) rfl rfl rfl (Nat.le_of_ble_eq_true rfl) (cs' := [_, _, _]) rfl) ?_
        clear hS
        rintro _ w_11 ⟨rfl, hS⟩
        refine ol_nil (blkN (thenN ?_))
        refine reg ?_
        refine qq hS (g_movev (v := .int .i64 _) rfl) ?_
        refine qq hS (g_add rfl rfl (by omega) (by omega)) ?_
        refine qq hS (g_assignv (v := .int .i64 _) rfl) ?_
        first
          | (refine ⟨⟨k + 1, a, c⟩, _, rfl, ⟨⟨rfl, rfl, rfl, rfl, rfl, trivial⟩, _, ?_, by dsimp only; omega, hl, h19, by rw [e]; exact hlb⟩, by dsimp only; omega⟩
             dsimp only
             rw [e]
             exact hS.sel [false, true, true])
          | (refine ⟨⟨k + 1, a44, c44⟩, _, rfl, ⟨⟨rfl, rfl, rfl, rfl, rfl, trivial⟩, _, ?_, by dsimp only; omega, hl, h19, by rw [e]; exact h44⟩, by dsimp only; omega⟩
             dsimp only
             rw [e]
             exact hS.sel [false, true, true])
      ·
        intro hc39
        have e : labU (wordsN b n) (k + 1) = labU (wordsN b n) k := by show (if _ then _ else _) = _; rw [if_neg (by rw [hlk, hc39]; decide)]
        refine wpIn_skip ?_
        refine blkN (thenN ?_)
        refine reg ?_
        refine qq hS (g_movev (v := .int .i64 _) rfl) ?_
        refine qq hS (g_add rfl rfl (by omega) (by omega)) ?_
        refine qq hS (g_assignv (v := .int .i64 _) rfl) ?_
        first
          | (refine ⟨⟨k + 1, a, c⟩, _, rfl, ⟨⟨rfl, rfl, rfl, rfl, rfl, trivial⟩, _, ?_, by dsimp only; omega, hl, h19, by rw [e]; exact hlb⟩, by dsimp only; omega⟩
             dsimp only
             rw [e]
             exact hS.sel [false, true, true])
          | (refine ⟨⟨k + 1, a44, c44⟩, _, rfl, ⟨⟨rfl, rfl, rfl, rfl, rfl, trivial⟩, _, ?_, by dsimp only; omega, hl, h19, by rw [e]; exact h44⟩, by dsimp only; omega⟩
             dsimp only
             rw [e]
             exact hS.sel [false, true, true])
    ·
      intro hc26
      try simp only [Bool.and_eq_true, Bool.or_eq_true, Bool.not_eq_true', Bool.and_eq_false_imp, Bool.or_eq_false_iff, Bool.not_eq_false', decide_eq_true_eq, decide_eq_false_iff_not] at hc26
      have hkn : n = k := by omega
      subst hkn
      rw [hla] at hS hlb
      refine wpIn_exit ?_
      refine thenE (thenE (blkE ?_))
      refine thenN ?_
      refine wpIn_seq ?_
      refine wpIn_seq ?_
      obtain ⟨al, hal⟩ : ∃ z, z = a := ⟨_, rfl⟩
      obtain ⟨cl, hcl⟩ : ∃ z, z = c := ⟨_, rfl⟩
      obtain ⟨I1, hI1⟩ : ∃ z, z = I := ⟨_, rfl⟩
      subst hal hcl hI1
      refine reg ?_
      refine qq hS (g_assignv (v := .int .i64 _) rfl) ?_
      refine ol_nil (thenN ?_)
      refine wpIn_block ?_
      refine loop (fun (x : WdW) σ w => okS σ [(0, .slice ad b.length cap), (2, .pointer (some ⟨b2, 0, none⟩)), (4, .slice a19 n c19), (6, .pointer (some ⟨b6, 0, none⟩)), (9, .int .i64 x.k)] ∧ St [] w0 I0 I1 w [.row (.slice x.a x.k x.c) 4 1 x.k (flat boolC (mUp (wordsN b n) x.k)), .row (.slice x.ar x.k x.cr) 58 1 x.k (flat u32C (wUp (wordsN b n) x.k)), .cel b6 70 [.slice x.ar x.k x.cr, .slice x.a x.k x.c, .slice al (labelsP (wordsN b n)).length cl], .cel b2 70 [.slice none 0 0, .slice none 0 0, .slice none 0 0]] ∧ x.k ≤ n) (fun x => n - x.k) (⟨0, none, 0, none, 0⟩) ?_ ?_
      ·
        exact ⟨⟨rfl, rfl, rfl, rfl, rfl, trivial⟩, ((hS.sel [true, true]).nilRow _ _).nilRow _ _, by dsimp only; omega⟩
      ·
        rintro ⟨k, ar, cr, a, c⟩ σ w_l ⟨hs, hS, hk⟩
        dsimp only at hs hS hk ⊢
        rw [← upds_self hs]; clear hs
        refine wpIn_seq ?_
        refine wpIn_seq ?_
        refine reg ?_
        refine qq hS (g_movev (v := .int .i64 _) rfl) ?_
        refine qq hS (g_move _) ?_
        refine qq hS (g_lenI rfl Tryz.underlying57 h19 rfl) ?_
        refine qq hS (g_lss rfl rfl) ?_
        refine ol_nil (thenN ?_)
        refine cond_s rfl ?_ ?_
        ·
          intro hc49
          try simp only [Bool.and_eq_true, Bool.or_eq_true, Bool.not_eq_true', Bool.and_eq_false_imp, Bool.or_eq_false_iff, Bool.not_eq_false', decide_eq_true_eq, decide_eq_false_iff_not] at hc49
          obtain ⟨y, hyi⟩ : ∃ y, (wordsN b n)[k]? = some y := ⟨_, List.getElem?_eq_getElem (by rw [hwl]; omega)⟩
          have hyb := hwr y (List.mem_of_getElem? hyi)
          have hyA := h19.at hyi
          obtain ⟨X, hX⟩ : ∃ X, decI y (4 * (k : Int)) = X := ⟨_, rfl⟩
          have hXi : instAt (wordsN b n) k = X := by unfold instAt; rw [getN_at hyi, hX]
          have hlk : lnk (wordsN b n) k = linkedP X (b.length : Int) := by unfold lnk; rw [hXi, hwl, show (4 * (n : Int)) = (b.length : Int) by omega]
          refine wpIn_skip ?_
          refine thenN ?_
          refine wpIn_seq ?_
          refine wpIn_block ?_
          refine meet (fun σ w => ∃ b10, okS σ [(0, .slice ad b.length cap), (2, .pointer (some ⟨b2, 0, none⟩)), (4, .slice a19 n c19), (6, .pointer (some ⟨b6, 0, none⟩)), (9, .int .i64 k), (10, .pointer (some ⟨b10, 0, none⟩)), (11, .int .u32 y)] ∧ St [] w0 I0 I1 w [.cel b10 63 (instC X), .row (.slice a k c) 4 1 k (flat boolC (mUp (wordsN b n) k)), .row (.slice ar k cr) 58 1 k (flat u32C (wUp (wordsN b n) k)), .cel b6 70 [.slice ar k cr, .slice a k c, .slice al (labelsP (wordsN b n)).length cl], .cel b2 70 [.slice none 0 0, .slice none 0 0, .slice none 0 0]]) ?_ ?_
          ·
            refine drawS [true, true, true, true] (.cons 0 .pure (.cons 1 .pure (.cons 2 .pure (.cons 3 .held (.cons 4 .pure (.cons 5 .pure (.cons 7 .pure (.cons 8 .pure (.cons 9 .pure (.cons 10 .held (.fork 6 (.cons 11 .eff (.cons 12 .eff (.cons 13 .pure .nil))) 11 (.cons 6 .eff (.cons 12 .eff (.cons 13 .pure .nil)))))))))))))) mixed (by kernel_rfl) hS ?_
            intro w_12 hS
            refine sp rfl (g_move _) ?_
            refine sp rfl (g_movev (v := .int .i64 _) rfl) ?_
            refine sp rfl (g_ixI Tryz.underlying57 Tryz.sizeOf58 h19 rfl rfl (by omega) (by omega)) ?_
            refine sh rfl (g_ldE1 Tryz.isAgg58 hyA rfl rfl) ?_
            refine sp rfl (g_movev (v := .int .i64 _) rfl) ?_
            refine sp rfl (g_mul rfl rfl (by omega) (by omega)) ?_
            refine sp rfl (g_move _) ?_
            refine sp rfl (g_movev (v := .int .i64 _) rfl) ?_
            refine sp rfl (g_ixI Tryz.underlying57 Tryz.sizeOf58 h19 rfl rfl (by omega) (by omega)) ?_
            refine sh rfl (g_ldE1 Tryz.isAgg58 hyA rfl rfl) ?_
            refine sk ?_ ?_
            ·
              have hS0 := hS
              refine se rfl (d_call Tryz.call44 rfl (decR_i y (4 * (k : Int)) _ _ hS.imm hX hyb.1 hyb.2 (by omega) (by omega))) ?_
              rintro _ w_13 ⟨rfl, hE⟩
              replace hS := hS.call hE
              refine ⟨_, _, (hS0.sel [true, true, true, true]).le hE.ext (List.Sublist.refl _), hS.sel [true, true, true, true], ?_⟩
              have hS0 := hS
              refine se rfl (d_alloc (cs := [.int .i64 _, .int .i64 _, .int .i64 _, .int .i64 _, .int .i64 _]) hS Tryz.zeroValue63 rfl) ?_
              rintro _ w_14 ⟨b10, rfl, hS⟩
              refine ⟨_, _, fun _ h => h, hS.sel [false, true, true, true, true], ?_⟩
              have hS0 := hS
              refine se rfl (d_store 0 hS Tryz.sizeOf63 rfl rfl rfl (vs := [.int .i64 _, .int .i64 _, .int .i64 _, .int .i64 _, .int .i64 _]) rfl rfl rfl (Nat.le_of_ble_eq_true rfl) (cs' := [_, _, _, _, _]) rfl) ?_
              rintro _ w_15 ⟨rfl, hS⟩
              refine ⟨_, _, fun _ h => h, hS.sel [false, true, true, true, true], ?_⟩
              refine sp rfl (g_assignv (v := .int .u32 _) rfl) ?_
              refine sn (thenN ?_)
              exact ⟨_, rfl, b10, ⟨rfl, rfl, rfl, rfl, rfl, rfl, rfl, trivial⟩, hS⟩
            ·
              have hS0 := hS
              refine se rfl (d_alloc (cs := [.int .i64 _, .int .i64 _, .int .i64 _, .int .i64 _, .int .i64 _]) hS Tryz.zeroValue63 rfl) ?_
              rintro _ w_16 ⟨b10, rfl, hS⟩
              refine ⟨_, _, fun _ h => h, hS.sel [false, true, true, true, true], ?_⟩
              have hS0 := hS
              refine se rfl (d_call Tryz.call44 rfl (decR_i y (4 * (k : Int)) _ _ hS.imm hX hyb.1 hyb.2 (by omega) (by omega))) ?_
              rintro _ w_17 ⟨rfl, hE⟩
              replace hS := hS.call hE
              refine ⟨_, _, (hS0.sel [false, true, true, true, true]).le hE.ext (List.Sublist.refl _), hS.sel [false, true, true, true, true], ?_⟩
              have hS0 := hS
              refine se rfl (d_store 0 hS Tryz.sizeOf63 rfl rfl rfl (vs := [.int .i64 _, .int .i64 _, .int .i64 _, .int .i64 _, .int .i64 _]) rfl rfl rfl (Nat.le_of_ble_eq_true rfl) (cs' := [_, _, _, _, _]) rfl) ?_
              rintro _ w_18 ⟨rfl, hS⟩
              refine ⟨_, _, fun _ h => h, hS.sel [false, true, true, true, true], ?_⟩
              refine sp rfl (g_assignv (v := .int .u32 _) rfl) ?_
              refine sn (thenN ?_)
              exact ⟨_, rfl, b10, ⟨rfl, rfl, rfl, rfl, rfl, rfl, rfl, trivial⟩, hS⟩
          ·
            rintro σ w_j ⟨b10, hs, hS⟩
            rw [← upds_self hs]
            refine wpIn_seq ?_
            refine reg ?_
            refine qq hS (g_ldO 0 (vs := [.int .i64 _, .int .i64 _, .int .i64 _, .int .i64 _, .int .i64 _]) Tryz.sizeOf63 Tryz.isAgg63 rfl rfl rfl rfl) ?_
            refine qq hS (g_move _) ?_
            refine qq hS (g_lenI rfl Tryz.underlying25 hl rfl) ?_
            refine qe (d_call Tryz.call47 rfl (linkR_c X (b.length : Int) _ _ hS.imm)) ?_
            rintro _ w_19 ⟨rfl, hE⟩
            replace hS := hS.callE hE
            refine qq hS (g_assignv (v := .bool _) rfl) ?_
            refine ol_nil (thenN ?_)
            refine meet (fun σ w => okS σ [(0, .slice ad b.length cap), (2, .pointer (some ⟨b2, 0, none⟩)), (4, .slice a19 n c19), (6, .pointer (some ⟨b6, 0, none⟩)), (9, .int .i64 k), (11, .int .u32 (wR (wordsN b n) k)), (12, .bool (lnk (wordsN b n) k))] ∧ St [] w0 I0 I1 w [.row (.slice a k c) 4 1 k (flat boolC (mUp (wordsN b n) k)), .row (.slice ar k cr) 58 1 k (flat u32C (wUp (wordsN b n) k)), .cel b6 70 [.slice ar k cr, .slice a k c, .slice al (labelsP (wordsN b n)).length cl], .cel b2 70 [.slice none 0 0, .slice none 0 0, .slice none 0 0]]) ?_ ?_
            ·
              refine wpIn_seq ?_
              refine reg ?_
              refine qq hS (g_movev (v := .bool _) rfl) ?_
              refine ol_nil (thenN ?_)
              refine cond_s rfl ?_ ?_
              ·
                intro hc67
                have hlk2 : lnk (wordsN b n) k = true := by rw [hlk]; exact hc67
                have hmem : X.n ∈ (labelsP (wordsN b n)) := by rw [← hla]; exact labU_mem.2 ⟨k, by omega, hlk2, by rw [hXi]⟩
                have hidx := idxM_mem hmem
                have hil := idxP_lt hmem
                have hop := (lnk_n hlk2).1
                rw [hXi] at hop
                have e : wR (wordsN b n) k = numP y X.op (idxM (labelsP (wordsN b n)) X.n) := by unfold wR; rw [if_pos hlk2]; unfold numAt; rw [getN_at hyi, hXi, hidx]
                refine draw (.cons 0 .pure (.cons 1 .pure (.cons 2 .held (.cons 3 .pure (.cons 4 .held (.cons 5 .pure (.cons 6 .held (.cons 7 .eff (.cons 8 .eff (.cons 9 .pure .nil)))))))))) mixed (by kernel_rfl) hS ?_
                intro w_20 hS
                refine sp rfl (g_movev (v := .int .u32 _) rfl) ?_
                refine sp rfl (g_fieldAddr (o' := 0) Tryz.underlying63 rfl Tryz.sizeOf3 rfl rfl rfl) ?_
                refine sh rfl (g_ldO1 0 Tryz.isAgg3 rfl rfl rfl) ?_
                refine sp rfl (g_fieldAddr (o' := 2) Tryz.underlying70 rfl Tryz.sizeOf68 rfl rfl rfl) ?_
                refine sh rfl (g_ldO1 3 Tryz.isAgg68 rfl rfl rfl) ?_
                refine sp rfl (g_fieldAddr (o' := 4) Tryz.underlying63 rfl Tryz.sizeOf3 rfl rfl rfl) ?_
                refine sh rfl (g_ldO1 0 Tryz.isAgg3 rfl rfl rfl) ?_
                have hS0 := hS
                refine se rfl (d_call Tryz.call50 rfl (idxR_c al cl (labelsP (wordsN b n)) X.n _ _ hS.imm hlb)) ?_
                rintro _ w_21 ⟨rfl, hE⟩
                replace hS := hS.call hE
                refine ⟨_, _, hS0.le hE.ext (List.Sublist.refl _), hS, ?_⟩
                have hS0 := hS
                refine se rfl (d_call Tryz.call49 rfl (numR_c y X.op (idxM (labelsP (wordsN b n)) X.n) _ _ hS.imm hyb.1 hyb.2 hop (by omega) (by omega))) ?_
                rintro _ w_22 ⟨rfl, hE⟩
                replace hS := hS.call hE
                refine ⟨_, _, hS0.le hE.ext (List.Sublist.refl _), hS, ?_⟩
                refine sp rfl (g_assignv (v := .int .u32 _) rfl) ?_
                refine sn (thenN ?_)
                exact ⟨_, rfl, ⟨rfl, rfl, rfl, rfl, rfl, congrArg (Value.int .u32) e.symm, congrArg Value.bool hlk.symm, trivial⟩, hS.sel [false, true, true, true, true]⟩
              ·
                intro hc67
                have hlk2 : lnk (wordsN b n) k = false := by rw [hlk]; exact hc67
                have e : wR (wordsN b n) k = y := by unfold wR; rw [if_neg (by rw [hlk2]; decide), getN_at hyi]
                refine wpIn_skip ?_
                refine thenN ?_
                exact ⟨_, rfl, ⟨rfl, rfl, rfl, rfl, rfl, congrArg (Value.int .u32) e.symm, congrArg Value.bool hlk.symm, trivial⟩, hS.sel [false, true, true, true, true]⟩
            ·
              rintro σ w_k ⟨hs, hS⟩
              rw [← upds_self hs]
              refine wpIn_seq ?_
              refine reg ?_
              refine qq hS (g_fieldAddr (o' := 0) Tryz.underlying70 rfl Tryz.sizeOf57 rfl rfl rfl) ?_
              refine qq hS (g_ldO1 2 Tryz.isAgg57 rfl rfl rfl) ?_
              refine qq hS (g_movev (v := .int .u32 _) rfl) ?_
              refine qe (d_lit (vs := [.int .u32 _]) (cs := [.int .u32 _]) hS Tryz.underlying57 Tryz.sizeOf58 Tryz.zeroValue58 rfl rfl rfl rfl (fun v hv => by simp only [List.mem_cons, List.not_mem_nil, or_false] at hv; subst hv; rfl) rfl) ?_
              clear hS
              rintro _ w_23 ⟨b80, rfl, hS⟩
              refine qe (i_appendO 2 0 hS rfl Tryz.underlying57 info58 rfl rfl rfl rfl rfl rfl rfl rfl (by omega) (by omega)) ?_
              clear hS
              rintro _ w_24 ⟨a81, p81, rfl, hS⟩
              refine qq hS (g_fieldAddr (o' := 0) Tryz.underlying70 rfl Tryz.sizeOf57 rfl rfl rfl) ?_
              refine qe (d_store 3 hS Tryz.sizeOf57 rfl rfl rfl (vs := [.slice _ _ _]) rfl rfl rfl (Nat.le_of_ble_eq_true rfl) (cs' := [_, _, _]) rfl) ?_
              clear hS
              rintro _ w_25 ⟨rfl, hS⟩
              refine ol_nil (thenN ?_)
              refine reg ?_
              refine qq hS (g_fieldAddr (o' := 1) Tryz.underlying70 rfl Tryz.sizeOf67 rfl rfl rfl) ?_
              refine qq hS (g_ldO1 3 Tryz.isAgg67 rfl rfl rfl) ?_
              refine qq hS (g_movev (v := .bool _) rfl) ?_
              refine qe (d_lit (vs := [.bool _]) (cs := [.bool _]) hS Tryz.underlying67 Tryz.sizeOf4 Tryz.zeroValue4 rfl rfl rfl rfl (fun v hv => by simp only [List.mem_cons, List.not_mem_nil, or_false] at hv; subst hv; rfl) rfl) ?_
              clear hS
              rintro _ w_26 ⟨b86, rfl, hS⟩
              refine qe (i_appendO 2 0 hS rfl Tryz.underlying67 info4 rfl rfl rfl rfl rfl rfl rfl rfl (by omega) (by omega)) ?_
              clear hS
              rintro _ w_27 ⟨a87, p87, rfl, hS⟩
              refine qq hS (g_fieldAddr (o' := 1) Tryz.underlying70 rfl Tryz.sizeOf67 rfl rfl rfl) ?_
              refine qe (d_store 4 hS Tryz.sizeOf67 rfl rfl rfl (vs := [.slice _ _ _]) rfl rfl rfl (Nat.le_of_ble_eq_true rfl) (cs' := [_, _, _]) rfl) ?_
              clear hS
              rintro _ w_28 ⟨rfl, hS⟩
              refine ol_nil (blkN (thenN ?_))
              refine reg ?_
              refine qq hS (g_movev (v := .int .i64 _) rfl) ?_
              refine qq hS (g_add rfl rfl (by omega) (by omega)) ?_
              refine qq hS (g_assignv (v := .int .i64 _) rfl) ?_
              refine ⟨⟨k + 1, a81, p81, a87, p87⟩, _, rfl, ⟨⟨rfl, rfl, rfl, rfl, rfl, trivial⟩, ?_, by dsimp only; omega⟩, by dsimp only; omega⟩
              dsimp only
              rw [wUp_succ, mUp_succ, flat_append, flat_append, flat_one, flat_one]
              exact hS.sel [false, false, true, true, true, true]
        ·
          intro hc49
          try simp only [Bool.and_eq_true, Bool.or_eq_true, Bool.not_eq_true', Bool.and_eq_false_imp, Bool.or_eq_false_iff, Bool.not_eq_false', decide_eq_true_eq, decide_eq_false_iff_not] at hc49
          have hkn : n = k := by omega
          subst hkn
          refine wpIn_exit ?_
          refine thenE (thenE (blkE ?_))
          refine thenN ?_
          refine wpIn_seq ?_
          refine reg ?_
          refine qq hS (g_ldO 2 (vs := [.slice _ _ _, .slice _ _ _, .slice _ _ _]) Tryz.sizeOf70 Tryz.isAgg70 rfl rfl rfl rfl) ?_
          refine qe (d_store 3 hS Tryz.sizeOf70 rfl rfl rfl (vs := [.slice _ _ _, .slice _ _ _, .slice _ _ _]) rfl rfl rfl (Nat.le_of_ble_eq_true rfl) (cs' := [_, _, _]) rfl) ?_
          clear hS
          rintro _ w_29 ⟨rfl, hS⟩
          refine qq hS (g_assignv (v := .int .i64 _) rfl) ?_
          refine ol_nil (thenN ?_)
          refine wpIn_ret ?_
          refine ret2 Tryz.results23 (rv_cel 3 hS Tryz.sizeOf70 Tryz.isAgg70 rfl rfl rfl) (rv_tmp (v := .int .i64 _) rfl) ?_
          obtain ⟨I2, hS2, hI2, hd2⟩ := St.freezeRow u32C_len (xs := wUp (wordsN b n) n) (hS.ord [1, 0]) (wUp_len _ _).symm
          obtain ⟨I3, hS3, hI3, hd3⟩ := St.freezeRow boolC_len (xs := mUp (wordsN b n) n) hS2 (mUp_len _ _).symm
          rw [hwa] at hd2
          rw [hma] at hd3
          exact ⟨I3, ar, cr, a, c, al, cl, rfl, hS3.nil, hd2.mono hI3, hd3, (hlb.mono hI2).mono hI3⟩

end Go.Proofs.YtaklmbhfmpdinaaGreat


namespace Go.Proofs.YtaklmbhfmpdinaaGreat
open Go Go.RowKit Go.Inl
set_option linter.unusedSimpArgs false
set_option linter.unusedVariables false
theorem labelsP_b {ws : List Int} {n : Int} (h : n ∈ labelsP ws) : 0 ≤ n := by
  rw [← labU_all] at h
  exact (labU_b n h).1
def Rise (l : List Int) : Prop := ∀ k, k < l.length → 0 ≤ l.getD k 0 - lastL l k
theorem rise_lift (ws : List Int) : Rise (liftP ws).labels := fun k hk => (sorted_last (labelsP_sorted ws) (fun n hn => labelsP_b hn) hk).1
theorem chunk_at {m : List Bool} {k j : Nat} (hj : 8 * k + j < m.length) (h8 : j < 8) : (chunk m k).getD j false = m.getD (8 * k + j) false := by
  have h := chunk_getD hj
  rwa [show (8 * k + j) / 8 = k by omega, show (8 * k + j) % 8 = j by omega] at h

theorem twoR_o (n : Int) (w0 : World) (I0 : Imm) (hI : Sat I0 w0) (h0 : 0 ≤ n) (h1 : n ≤ 4611686018427387904) :
    Ctr Tryz.prog 51 [.int .i64 n] w0 (fun v w' => ∃ b, v = .slice (some ⟨b, 0, none⟩) 2 2 ∧ St [] w0 I0 I0 w' [.cel b 5 [.int .u8 (n / 256 % 256), .int .u8 (n % 256)]]) := by
  refine fn (n := 10) Tryz.func51 rfl rfl rfl ?_
  have hS := St.start hI
  refine wpIn_seq ?_
  refine reg ?_
  refine qq hS (g_assign _) ?_
  refine ol_nil (thenN ?_)
  refine wpIn_seq ?_
  refine reg ?_
  refine qq hS (g_movev (v := .int .i64 _) rfl) ?_
  refine qq hS (g_quo rfl rfl (by omega) (by omega) (by omega)) ?_
  refine qq hS (g_convK (c := n / 256 % 256) Tryz.underlying3 Tryz.underlying5 rfl (IntKind.wrap_u8 _)) ?_
  refine qq hS (g_movev (v := .int .i64 _) rfl) ?_
  refine qq hS (g_rem rfl rfl (by omega) (by omega)) ?_
  refine qq hS (g_convK (c := n % 256) Tryz.underlying3 Tryz.underlying5 rfl (by rw [IntKind.wrap_u8]; omega)) ?_
  refine qe (d_lit (vs := [.int .u8 _, .int .u8 _]) (cs := [.int .u8 _, .int .u8 _]) hS Tryz.underlying25 Tryz.sizeOf5 Tryz.zeroValue5 rfl rfl rfl rfl (fun v hv => by simp only [List.mem_cons, List.not_mem_nil, or_false] at hv; rcases hv with rfl | rfl <;> rfl) rfl) ?_
  clear hS
  rintro _ w_1 ⟨b9, rfl, hS⟩
  refine qq hS (g_assign _) ?_
  refine ol_nil (thenN ?_)
  refine wpIn_ret ?_
  refine ret1 Tryz.results51 (rv_tmp rfl) ?_
  exact ⟨b9, rfl, hS⟩

theorem twoR_r (n : Int) (w0 : World) (I0 : Imm) (hI : Sat I0 w0) (h0 : 0 ≤ n) (h1 : n ≤ 4611686018427387904) :
    Ctr Tryz.prog 51 [.int .i64 n] w0 (fun v w' => ∃ a c, v = .slice a 2 c ∧ St [] w0 I0 I0 w' [.row (.slice a 2 c) 5 1 2 (flat byteC (twoP n))]) :=
  (twoR_o n w0 I0 hI h0 h1).mono fun v w' ⟨b, hv, hS⟩ => ⟨_, _, hv, hS.asRow (k := 0) (sz := 1) (m := 2) rfl rfl (by decide)⟩

set_option maxHeartbeats 2000000 in
theorem lformR_c (x : LiftL) (a0 a1 a2 : Option Addr) (c0 c1 c2 : Nat) (w0 : World) (I0 : Imm) (hI : Sat I0 w0) (hx : RLf I0 a0 c0 a1 c1 a2 c2 x) (hw : Wrds x.words) (hlb : Labs x.labels) (hn0 : x.words.length ≤ 65536) (hn1 : x.marks.length = x.words.length) (hn2 : x.labels.length ≤ 65536) (hri : Rise x.labels) :
    Ctr Tryz.prog 24 [.agg #[.slice a0 x.words.length c0, .slice a1 x.marks.length c1, .slice a2 x.labels.length c2]] w0 (fun v w' => ∃ I' a c, v = .slice a (formP x).length c ∧ Ext w0 I0 w' I' ∧ RBytes I' (.slice a (formP x).length c) (formP x)) := by
  refine fn (n := 82) Tryz.func24 rfl rfl rfl ?_
  have hS := St.start hI
  refine wpIn_seq ?_
  refine reg ?_
  refine qe (d_box (cs := [.slice _ _ _, .slice _ _ _, .slice _ _ _]) hS rfl) ?_
  clear hS
  rintro _ w_1 ⟨b1, rfl, hS⟩
  refine qq hS (g_assign _) ?_
  refine ol_nil (thenN ?_)
  refine meet (fun σ w => ∃ a c, okS σ [(1, .pointer (some ⟨b1, 0, none⟩)), (3, .slice a 4 c)] ∧ St [] w0 I0 I0 w [.row (.slice a (4) c) 5 1 (4) (flat byteC (headP x)), .cel b1 70 [.slice a0 x.words.length c0, .slice a1 x.marks.length c1, .slice a2 x.labels.length c2]]) ?_ ?_
  ·
    refine drawS [true] (.cons 0 .pure (.cons 1 .held (.cons 2 .pure (.cons 4 .pure (.cons 5 .held (.cons 6 .pure (.cons 3 .eff (.cons 7 .eff (.cons 8 .eff (.cons 9 .pure .nil)))))))))) mixed (by kernel_rfl) hS ?_
    intro w_2 hS
    refine sp rfl (g_fieldAddr (o' := 0) Tryz.underlying70 rfl Tryz.sizeOf57 rfl rfl rfl) ?_
    refine sh rfl (g_ldO1 0 Tryz.isAgg57 rfl rfl rfl) ?_
    refine sp rfl (g_lenI rfl Tryz.underlying57 hx.w rfl) ?_
    refine sp rfl (g_fieldAddr (o' := 2) Tryz.underlying70 rfl Tryz.sizeOf68 rfl rfl rfl) ?_
    refine sh rfl (g_ldO1 0 Tryz.isAgg68 rfl rfl rfl) ?_
    refine sp rfl (g_lenI rfl Tryz.underlying68 hx.l rfl) ?_
    have hS0 := hS
    refine se rfl (d_call Tryz.call51 rfl (twoR_r (x.words.length : Int) _ _ hS.imm (by omega) (by omega))) ?_
    rintro _ w_3 ⟨a12, c12, rfl, hE⟩
    replace hS := hS.call hE
    refine ⟨_, _, (hS0.sel [true]).le hE.ext (List.Sublist.refl _), hS.sel [false, true], ?_⟩
    have hS0 := hS
    refine se rfl (d_call Tryz.call51 rfl (twoR_o (x.labels.length : Int) _ _ hS.imm (by omega) (by omega))) ?_
    rintro _ w_4 ⟨b16, rfl, hE⟩
    replace hS := hS.call hE
    refine ⟨_, _, (hS0.sel [false, true]).le hE.ext (List.Sublist.refl _), hS.sel [false, false, true], ?_⟩
    have hS0 := hS
    refine se rfl (i_appendO 1 0 (m' := 2) hS rfl Tryz.underlying25 info5 rfl rfl rfl rfl rfl rfl rfl rfl (by omega) (by omega)) ?_
    rintro _ w_5 ⟨a17, p17, rfl, hS⟩
    refine ⟨_, _, fun _ h => h, hS.sel [false, false, true], ?_⟩
    refine sp rfl (g_assign _) ?_
    refine sn (thenN ?_)
    exact ⟨_, rfl, a17, p17, ⟨rfl, rfl, trivial⟩, by have h := (hS.sel [false, true, true]); rw [headP, flat_append]; exact h⟩
  ·
    rintro σ w_j ⟨a, c, hs, hS⟩
    rw [← upds_self hs]
    refine wpIn_seq ?_
    refine reg ?_
    refine qq hS (g_assignv (v := .int .i64 _) rfl) ?_
    refine ol_nil (thenN ?_)
    refine wpIn_seq ?_
    refine wpIn_seq ?_
    refine reg ?_
    refine qq hS (g_assignv (v := .int .i64 _) rfl) ?_
    refine ol_nil (thenN ?_)
    refine wpIn_block ?_
    refine loop (fun (x1 : BtW) σ w => okS σ [(1, .pointer (some ⟨b1, 0, none⟩)), (3, .slice x1.a (4 + 2 * x1.k) x1.c), (4, .int .i64 (lastL x.labels x1.k)), (5, .int .i64 x1.k)] ∧ St [] w0 I0 I0 w [.row (.slice x1.a (4 + 2 * x1.k) x1.c) 5 1 (4 + 2 * x1.k) (flat byteC (headP x ++ formL x.labels x1.k)), .cel b1 70 [.slice a0 x.words.length c0, .slice a1 x.marks.length c1, .slice a2 x.labels.length c2]] ∧ x1.k ≤ x.labels.length) (fun x1 => x.labels.length - x1.k) (⟨0, a, c⟩) ?_ ?_
    ·
      refine ⟨⟨rfl, rfl, rfl, rfl, trivial⟩, ?_, by dsimp only; omega⟩
      dsimp only
      rw [show formL x.labels 0 = [] from rfl, List.append_nil]
      exact hS.sel [true, true]
    ·
      rintro ⟨k, a, c⟩ σ w_l ⟨hs, hS, hk⟩
      dsimp only at hs hS hk ⊢
      rw [← upds_self hs]; clear hs
      refine wpIn_seq ?_
      refine wpIn_seq ?_
      refine reg ?_
      refine qq hS (g_movev (v := .int .i64 _) rfl) ?_
      refine qq hS (g_fieldAddr (o' := 2) Tryz.underlying70 rfl Tryz.sizeOf68 rfl rfl rfl) ?_
      refine qq hS (g_ldO1 1 Tryz.isAgg68 rfl rfl rfl) ?_
      refine qq hS (g_lenI rfl Tryz.underlying68 hx.l rfl) ?_
      refine qq hS (g_lss rfl rfl) ?_
      refine ol_nil (thenN ?_)
      refine cond_s rfl ?_ ?_
      ·
        intro hc22
        try simp only [Bool.and_eq_true, Bool.or_eq_true, Bool.not_eq_true', Bool.and_eq_false_imp, Bool.or_eq_false_iff, Bool.not_eq_false', decide_eq_true_eq, decide_eq_false_iff_not] at hc22
        obtain ⟨n, hni⟩ : ∃ n, x.labels[k]? = some n := ⟨_, List.getElem?_eq_getElem (by omega)⟩
        have hlA := hx.l.at hni
        have hnb := hlb n (List.mem_of_getElem? hni)
        have hlst := lastL_b hlb k
        have hrk := hri k (by omega)
        rw [getN_at hni] at hrk
        have hdl : dltP x.labels k = twoP ((n - lastL x.labels k) / 4) := by unfold dltP; rw [getN_at hni, Int.tdiv_eq_ediv_of_nonneg hrk]
        have hln : lastL x.labels (k + 1) = n := by rw [lastL_succ, getN_at hni]
        refine wpIn_skip ?_
        refine thenN ?_
        refine wpIn_seq ?_
        refine wpIn_block ?_
        refine wpIn_seq ?_
        refine reg ?_
        refine qq hS (g_move _) ?_
        refine qq hS (g_fieldAddr (o' := 2) Tryz.underlying70 rfl Tryz.sizeOf68 rfl rfl rfl) ?_
        refine qq hS (g_ldO1 1 Tryz.isAgg68 rfl rfl rfl) ?_
        refine qq hS (g_movev (v := .int .i64 _) rfl) ?_
        refine qq hS (g_ixI Tryz.underlying68 Tryz.sizeOf3 hx.l rfl rfl (by omega) (by omega)) ?_
        refine qq hS (g_ldE1 Tryz.isAgg3 hlA rfl rfl) ?_
        refine qq hS (g_movev (v := .int .i64 _) rfl) ?_
        refine qq hS (g_sub rfl rfl (by omega) (by omega)) ?_
        refine qq hS (g_quo rfl rfl (by omega) (by omega) (by omega)) ?_
        refine qe (d_call Tryz.call51 rfl (twoR_o ((n - lastL x.labels k) / 4) _ _ hS.imm (by omega) (by omega))) ?_
        rintro _ w_6 ⟨b34, rfl, hE⟩
        replace hS := hS.call hE
        refine qe (i_appendO 1 0 (m' := 2) hS rfl Tryz.underlying25 info5 rfl rfl rfl rfl rfl rfl rfl rfl (by omega) (by omega)) ?_
        clear hS
        rintro _ w_7 ⟨a35, p35, rfl, hS⟩
        refine qq hS (g_assign _) ?_
        refine ol_nil (thenN ?_)
        refine reg ?_
        refine qq hS (g_fieldAddr (o' := 2) Tryz.underlying70 rfl Tryz.sizeOf68 rfl rfl rfl) ?_
        refine qq hS (g_ldO1 2 Tryz.isAgg68 rfl rfl rfl) ?_
        refine qq hS (g_movev (v := .int .i64 _) rfl) ?_
        refine qq hS (g_ixI Tryz.underlying68 Tryz.sizeOf3 hx.l rfl rfl (by omega) (by omega)) ?_
        refine qq hS (g_ldE1 Tryz.isAgg3 hlA rfl rfl) ?_
        refine qq hS (g_assignv (v := .int .i64 _) rfl) ?_
        refine ol_nil (blkN (thenN ?_))
        refine reg ?_
        refine qq hS (g_movev (v := .int .i64 _) rfl) ?_
        refine qq hS (g_add rfl rfl (by omega) (by omega)) ?_
        refine qq hS (g_assignv (v := .int .i64 _) rfl) ?_
        refine ⟨⟨k + 1, a35, p35⟩, _, rfl, ⟨⟨rfl, rfl, congrArg (Value.int .i64) hln.symm, rfl, trivial⟩, ?_, by dsimp only; omega⟩, by dsimp only; omega⟩
        dsimp only
        rw [show 4 + 2 * (k + 1) = 4 + 2 * k + 2 by omega, formL_succ, hdl, ← List.append_assoc, flat_append]
        exact hS.sel [false, true, true]
      ·
        intro hc22
        try simp only [Bool.and_eq_true, Bool.or_eq_true, Bool.not_eq_true', Bool.and_eq_false_imp, Bool.or_eq_false_iff, Bool.not_eq_false', decide_eq_true_eq, decide_eq_false_iff_not] at hc22
        have hk : k = x.labels.length := by omega
        subst hk
        refine wpIn_exit ?_
        refine thenE (thenE (blkE ?_))
        refine thenN ?_
        refine wpIn_seq ?_
        refine wpIn_seq ?_
        refine reg ?_
        refine qq hS (g_assignv (v := .int .i64 _) rfl) ?_
        refine ol_nil (thenN ?_)
        refine wpIn_block ?_
        refine loop (fun (x2 : BtW) σ w => okS σ [(1, .pointer (some ⟨b1, 0, none⟩)), (3, .slice x2.a (4 + 2 * x.labels.length + x2.k) x2.c), (6, .int .i64 (8 * x2.k : Nat))] ∧ St [] w0 I0 I0 w [.row (.slice x2.a (4 + 2 * x.labels.length + x2.k) x2.c) 5 1 (4 + 2 * x.labels.length + x2.k) (flat byteC (headP x ++ formL x.labels x.labels.length ++ marksB x.marks x2.k)), .cel b1 70 [.slice a0 x.words.length c0, .slice a1 x.marks.length c1, .slice a2 x.labels.length c2]] ∧ x2.k ≤ (x.marks.length + 7) / 8) (fun x2 => (x.marks.length + 7) / 8 - x2.k) (⟨0, a, c⟩) ?_ ?_
        ·
          refine ⟨⟨rfl, rfl, rfl, trivial⟩, ?_, by dsimp only; omega⟩
          dsimp only
          rw [show marksB x.marks 0 = [] from rfl, List.append_nil]
          exact hS.sel [true, true]
        ·
          rintro ⟨k, a, c⟩ σ w_l ⟨hs, hS, hk⟩
          dsimp only at hs hS hk ⊢
          rw [← upds_self hs]; clear hs
          refine wpIn_seq ?_
          refine wpIn_seq ?_
          refine reg ?_
          refine qq hS (g_movev (v := .int .i64 _) rfl) ?_
          refine qq hS (g_fieldAddr (o' := 0) Tryz.underlying70 rfl Tryz.sizeOf57 rfl rfl rfl) ?_
          refine qq hS (g_ldO1 1 Tryz.isAgg57 rfl rfl rfl) ?_
          refine qq hS (g_lenI rfl Tryz.underlying57 hx.w rfl) ?_
          refine qq hS (g_lss rfl rfl) ?_
          refine ol_nil (thenN ?_)
          refine cond_s rfl ?_ ?_
          ·
            intro hc45
            try simp only [Bool.and_eq_true, Bool.or_eq_true, Bool.not_eq_true', Bool.and_eq_false_imp, Bool.or_eq_false_iff, Bool.not_eq_false', decide_eq_true_eq, decide_eq_false_iff_not] at hc45
            have hcl := chunk_len x.marks k
            rw [hn1] at hcl
            refine wpIn_skip ?_
            refine thenN ?_
            refine wpIn_seq ?_
            refine wpIn_block ?_
            refine wpIn_seq ?_
            refine reg ?_
            refine qq hS (g_assignv (v := .int .i64 _) rfl) ?_
            refine ol_nil (thenN ?_)
            refine wpIn_seq ?_
            refine wpIn_seq ?_
            refine reg ?_
            refine qq hS (g_assignv (v := .int .i64 _) rfl) ?_
            refine ol_nil (thenN ?_)
            refine wpIn_block ?_
            refine loop (fun (j : Nat) σ w => okS σ [(1, .pointer (some ⟨b1, 0, none⟩)), (3, .slice a (4 + 2 * x.labels.length + k) c), (6, .int .i64 (8 * k : Nat)), (7, .int .i64 (bitsU (chunk x.marks k) j)), (8, .int .i64 j)] ∧ St [] w0 I0 I0 w [.row (.slice a (4 + 2 * x.labels.length + k) c) 5 1 (4 + 2 * x.labels.length + k) (flat byteC (headP x ++ formL x.labels x.labels.length ++ marksB x.marks k)), .cel b1 70 [.slice a0 x.words.length c0, .slice a1 x.marks.length c1, .slice a2 x.labels.length c2]] ∧ j ≤ (chunk x.marks k).length) (fun j => 8 - j) (0) ?_ ?_
            ·
              exact ⟨⟨rfl, rfl, rfl, rfl, rfl, trivial⟩, hS.sel [true, true], by omega⟩
            ·
              rintro j σ w_l ⟨hs, hS, hjc⟩
              rw [← upds_self hs]; clear hs
              refine wpIn_seq ?_
              refine wpIn_seq ?_
              refine reg ?_
              refine qq hS (g_movev (v := .int .i64 _) rfl) ?_
              refine qq hS (g_lss rfl rfl) ?_
              refine qq hS (g_movev (v := .bool _) rfl) ?_
              refine qu rfl rfl hS (fun hg => (g_movev (v := .int .i64 _) rfl)) ?_
              intro u51 hu51 hn51
              refine qu rfl rfl hS (fun hg => (g_movev (v := .int .i64 _) rfl)) ?_
              intro u52 hu52 hn52
              refine qu rfl rfl hS (fun hg => (g_add (hu51 hg) (hu52 hg) (by have := of_decide_eq_true hg; omega) (by have := of_decide_eq_true hg; omega))) ?_
              intro u53 hu53 hn53
              refine qu rfl rfl hS (fun hg => (g_fieldAddr (o' := 0) Tryz.underlying70 rfl Tryz.sizeOf57 rfl rfl rfl)) ?_
              intro u54 hu54 hn54
              refine qu rfl rfl hS (fun hg => (g_ldO1 1 Tryz.isAgg57 rfl (hu54 hg) rfl)) ?_
              intro u55 hu55 hn55
              refine qu rfl rfl hS (fun hg => (g_lenI rfl Tryz.underlying57 hx.w (hu55 hg))) ?_
              intro u56 hu56 hn56
              refine qu rfl rfl hS (fun hg => (g_lss (hu53 hg) (hu56 hg))) ?_
              intro u57 hu57 hn57
              refine qq hS (g_and rfl rfl (fun hq => hu57 hq)) ?_
              refine ol_nil (thenN ?_)
              refine cond_s rfl ?_ ?_
              ·
                intro hc58
                clear hu51 hn51 hu52 hn52 hu53 hn53 hu54 hn54 hu55 hn55 hu56 hn56 hu57 hn57
                try simp only [Bool.and_eq_true, Bool.or_eq_true, Bool.not_eq_true', Bool.and_eq_false_imp, Bool.or_eq_false_iff, Bool.not_eq_false', decide_eq_true_eq, decide_eq_false_iff_not] at hc58
                have hjl : j < 8 ∧ 8 * k + j < x.marks.length := by have h1 := hc58.1; have h2 := hc58.2; omega
                obtain ⟨m, hmi⟩ : ∃ m, x.marks[8 * k + j]? = some m := ⟨_, List.getElem?_eq_getElem hjl.2⟩
                have hmA := hx.m.at hmi
                have hmg : (chunk x.marks k).getD j false = m := by rw [chunk_at hjl.2 hjl.1]; exact getDb_at hmi
                have hj8 : j ≤ 7 := by omega
                have hp8 := pow_le8 hj8
                have hbb := bitsU_b (chunk x.marks k) j
                have hp0 : (0 : Int) < 2 ^ j := by omega
                have hjc2 : j + 1 ≤ (chunk x.marks k).length := by rw [hcl]; split <;> omega
                refine wpIn_skip ?_
                refine thenN ?_
                refine wpIn_seq ?_
                refine wpIn_block ?_
                refine wpIn_seq ?_
                refine reg ?_
                refine qq hS (g_fieldAddr (o' := 1) Tryz.underlying70 rfl Tryz.sizeOf67 rfl rfl rfl) ?_
                refine qq hS (g_ldO1 1 Tryz.isAgg67 rfl rfl rfl) ?_
                refine qq hS (g_movev (v := .int .i64 _) rfl) ?_
                refine qq hS (g_movev (v := .int .i64 _) rfl) ?_
                refine qq hS (g_add rfl rfl (by omega) (by omega)) ?_
                refine qq hS (g_ixI Tryz.underlying67 Tryz.sizeOf4 hx.m rfl rfl (by omega) (by omega)) ?_
                refine qq hS (g_ldE1 Tryz.isAgg4 hmA rfl rfl) ?_
                refine ol_nil (thenN ?_)
                refine cond_s rfl ?_ ?_
                ·
                  intro hc67
                  have hbs : bitsU (chunk x.marks k) (j + 1) = bitsU (chunk x.marks k) j + 2 ^ j := by show bitsU _ j + _ = _; rw [if_pos (by rw [hmg]; exact hc67)]
                  refine reg ?_
                  refine qq hS (g_movev (v := .int .i64 _) rfl) ?_
                  refine qq hS (g_movev (v := .int .i64 _) rfl) ?_
                  refine qq hS (g_shlV (s := j) (c := 2 ^ j) rfl rfl rfl (Nat.ble_eq_true_of_le (Nat.le_trans (show j ≤ 8 by omega) (by decide))) (by rw [IntKind.wrap_i64]; omega)) ?_
                  refine qq hS (g_add rfl rfl (by omega) (by omega)) ?_
                  refine qq hS (g_assignv (v := .int .i64 _) rfl) ?_
                  refine ol_nil (blkN (thenN ?_))
                  refine reg ?_
                  refine qq hS (g_movev (v := .int .i64 _) rfl) ?_
                  refine qq hS (g_add rfl rfl (by omega) (by omega)) ?_
                  refine qq hS (g_assignv (v := .int .i64 _) rfl) ?_
                  exact ⟨j + 1, _, rfl, ⟨⟨rfl, rfl, rfl, congrArg (Value.int .i64) hbs.symm, rfl, trivial⟩, hS.sel [true, true], hjc2⟩, by omega⟩
                ·
                  intro hc67
                  have hbs : bitsU (chunk x.marks k) (j + 1) = bitsU (chunk x.marks k) j := by show bitsU _ j + _ = _; rw [if_neg (by rw [hmg, hc67]; decide), Int.add_zero]
                  refine wpIn_skip ?_
                  refine blkN (thenN ?_)
                  refine reg ?_
                  refine qq hS (g_movev (v := .int .i64 _) rfl) ?_
                  refine qq hS (g_add rfl rfl (by omega) (by omega)) ?_
                  refine qq hS (g_assignv (v := .int .i64 _) rfl) ?_
                  exact ⟨j + 1, _, rfl, ⟨⟨rfl, rfl, rfl, congrArg (Value.int .i64) hbs.symm, rfl, trivial⟩, hS.sel [true, true], hjc2⟩, by omega⟩
              ·
                intro hc58
                clear hu51 hn51 hu52 hn52 hu53 hn53 hu54 hn54 hu55 hn55 hu56 hn56 hu57 hn57
                try simp only [Bool.and_eq_true, Bool.or_eq_true, Bool.not_eq_true', Bool.and_eq_false_imp, Bool.or_eq_false_iff, Bool.not_eq_false', decide_eq_true_eq, decide_eq_false_iff_not] at hc58
                have hj : j = (chunk x.marks k).length := by
                  by_cases h8 : j < 8
                  · have h9 := hc58 (by omega)
                    rw [hcl] at hjc ⊢
                    split at hjc <;> rename_i hs8
                    · rw [if_pos hs8]; omega
                    · rw [if_neg hs8]; omega
                  · rw [hcl] at hjc ⊢
                    split at hjc <;> rename_i hs8
                    · rw [if_pos hs8]; omega
                    · rw [if_neg hs8]; omega
                subst hj
                have hbb := bitsU_b (chunk x.marks k) (chunk x.marks k).length
                have hc8 : (chunk x.marks k).length ≤ 8 := by rw [hcl]; split <;> omega
                have hp8 : (2 : Int) ^ (chunk x.marks k).length ≤ 256 := by
                  obtain ⟨z, hz⟩ : ∃ z, (chunk x.marks k).length = z := ⟨_, rfl⟩
                  rw [hz] at hc8 ⊢
                  have h9 : z = 0 ∨ z = 1 ∨ z = 2 ∨ z = 3 ∨ z = 4 ∨ z = 5 ∨ z = 6 ∨ z = 7 ∨ z = 8 := by omega
                  rcases h9 with h | h | h | h | h | h | h | h | h <;> rw [h] <;> decide
                refine wpIn_exit ?_
                refine thenE (thenE (blkE ?_))
                refine thenN ?_
                refine reg ?_
                refine qq hS (g_move _) ?_
                refine qq hS (g_movev (v := .int .i64 _) rfl) ?_
                refine qq hS (g_convK (c := bitsU (chunk x.marks k) (chunk x.marks k).length) Tryz.underlying3 Tryz.underlying5 rfl (by rw [IntKind.wrap_u8]; omega)) ?_
                refine qe (d_lit (vs := [.int .u8 _]) (cs := [.int .u8 _]) hS Tryz.underlying25 Tryz.sizeOf5 Tryz.zeroValue5 rfl rfl rfl rfl (fun v hv => by simp only [List.mem_cons, List.not_mem_nil, or_false] at hv; subst hv; rfl) rfl) ?_
                clear hS
                rintro _ w_8 ⟨b75, rfl, hS⟩
                refine qe (i_appendO 1 0 hS rfl Tryz.underlying25 info5 rfl rfl rfl rfl rfl rfl rfl rfl (by omega) (by omega)) ?_
                clear hS
                rintro _ w_9 ⟨a76, p76, rfl, hS⟩
                refine qq hS (g_assign _) ?_
                refine ol_nil (blkN (thenN ?_))
                refine reg ?_
                refine qq hS (g_movev (v := .int .i64 _) rfl) ?_
                refine qq hS (g_add rfl rfl (by omega) (by omega)) ?_
                refine qq hS (g_assignv (v := .int .i64 _) rfl) ?_
                refine ⟨⟨k + 1, a76, p76⟩, _, rfl, ⟨⟨rfl, rfl, congrArg (Value.int .i64) (show ((8 * k : Nat) : Int) + 8 = ((8 * (k + 1) : Nat) : Int) by omega), trivial⟩, ?_, by dsimp only; omega⟩, by dsimp only; omega⟩
                dsimp only
                rw [marksB_succ, ← List.append_assoc, flat_append byteC (headP x ++ formL x.labels x.labels.length ++ marksB x.marks k), flat_one]
                exact hS.sel [false, true, true]
          ·
            intro hc45
            try simp only [Bool.and_eq_true, Bool.or_eq_true, Bool.not_eq_true', Bool.and_eq_false_imp, Bool.or_eq_false_iff, Bool.not_eq_false', decide_eq_true_eq, decide_eq_false_iff_not] at hc45
            have hk : k = (x.marks.length + 7) / 8 := by omega
            subst hk
            refine wpIn_exit ?_
            refine thenE (thenE (blkE ?_))
            refine thenN ?_
            refine wpIn_seq ?_
            have hbpl := bytesP_len x.words
            refine reg ?_
            refine qq hS (g_move _) ?_
            refine qq hS (g_fieldAddr (o' := 0) Tryz.underlying70 rfl Tryz.sizeOf57 rfl rfl rfl) ?_
            refine qq hS (g_ldO1 1 Tryz.isAgg57 rfl rfl rfl) ?_
            refine qe (d_call Tryz.call22 rfl (bytes2_c a0 c0 x.words _ _ hS.imm hx.w hw (by omega))) ?_
            rintro _ w_10 ⟨I_f, a80, c80, rfl, hE, h80⟩
            replace hS := hS.callE hE
            replace hx := hx.mono hE.ext
            refine qe (i_appendF 0 hS rfl Tryz.underlying25 info5 rfl rfl rfl rfl byteC_len (fun _ => rfl) h80 rfl (by omega) (by omega)) ?_
            clear hS
            rintro _ w_11 ⟨a81, p81, rfl, hS⟩
            refine qq hS (g_assign _) ?_
            refine ol_nil (thenN ?_)
            refine wpIn_ret ?_
            refine ret1 Tryz.results24 (rv_tmp rfl) ?_
            have hN : (formP x).length = (4 + 2 * x.labels.length + (x.marks.length + 7) / 8 + (bytesP x.words).length) := by rw [formP_len, bytesP_len]
            obtain ⟨I1_, hE1, hI1, hd1⟩ := row_freeze1 byteC_len (u := .slice a81 (4 + 2 * x.labels.length + (x.marks.length + 7) / 8 + (bytesP x.words).length) p81) (m := (4 + 2 * x.labels.length + (x.marks.length + 7) / 8 + (bytesP x.words).length)) (xs := formP x) (by rw [show formP x = (headP x ++ formL x.labels x.labels.length ++ marksB x.marks ((x.marks.length + 7) / 8)) ++ bytesP x.words from rfl, flat_append]; exact hS.sel [true, false]) hN.symm
            rw [hN]
            exact ⟨I1_, a81, p81, rfl, hE1, hd1⟩

end Go.Proofs.YtaklmbhfmpdinaaGreat

