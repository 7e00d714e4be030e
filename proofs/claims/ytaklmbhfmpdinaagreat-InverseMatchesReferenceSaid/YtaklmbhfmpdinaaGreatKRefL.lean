/- Lifted code by insertion of labels, as plain Lean: it is what package label makes. Conditions: none. inlayref03: IsCode, Linked, Index, Insert, numbered, Lift, Same; inlayref02.Words: what they compute. Conditions: bytes are bytes. inlayref03: unnumbered, Lower, two, Form, Read; inlayref02.Same: what they compute. Conditions: as said. -/
import Derived.Test.YtaklmbhfmpdinaaGreatRt3
import Derived.Test.YtaklmbhfmpdinaaGreatApplyL
import Derived.Test.YtaklmbhfmpdinaaGreatKRefC
set_option linter.unusedSimpArgs false
set_option linter.unusedVariables false
namespace Go.Inl
open Go Go.RowKit
def insI : List Int → Int → List Int
 | [], n => [n]
 | x :: l, n => if x < n then x :: insI l n else if x = n then x :: l else n :: x :: l
theorem vk {n y : Int} : ∀ {l : List Int}, y ∈ insI l n ↔ y = n ∨ y ∈ l
 | [] => by simp [insI]
 | x :: l => by
   unfold insI
   split
   · rw [List.mem_cons, vk, List.mem_cons]
     constructor
     · rintro (h | h | h)
       · exact .inr (.inl h)
       · exact .inl h
       · exact .inr (.inr h)
     · rintro (h | h | h)
       · exact .inr (.inl h)
       · exact .inl h
       · exact .inr (.inr h)
   · split
     · rename_i h
       subst h
       simp
     · simp
theorem insI_sorted {n : Int} : ∀ {l : List Int}, l.Pairwise (· < ·) → (insI l n).Pairwise (· < ·)
 | [], _ => by simp [insI]
 | x :: l, h => by
   rw [List.pairwise_cons] at h
   unfold insI
   split
   · rename_i hx
     rw [List.pairwise_cons]
     refine ⟨fun b hb => ?_, insI_sorted h.2⟩
     rcases vk.1 hb with hb | hb
     · rw [hb]; exact hx
     · exact h.1 b hb
   · split
     · exact List.pairwise_cons.2 h
     · rename_i h1 h2
       refine List.pairwise_cons.2 ⟨fun b hb => ?_, List.pairwise_cons.2 h⟩
       rcases List.mem_cons.1 hb with hb | hb
       · rw [hb]; omega
       · have := h.1 b hb; omega
theorem insI_same {n : Int} : ∀ {l : List Int}, l.Pairwise (· < ·) → n ∈ l → insI l n = l
 | [], _, h => by cases h
 | x :: l, h, hn => by
   rw [List.pairwise_cons] at h
   unfold insI
   rcases List.mem_cons.1 hn with e | e
   · subst e; rw [if_neg (Int.lt_irrefl _), if_pos rfl]
   · have := h.1 n e
     rw [if_pos this, insI_same h.2 e]
theorem insI_new {n : Int} : ∀ {l : List Int} {k : Nat}, k ≤ l.length → n ∉ l → (∀ i, i < k → ∀ y, l[i]? = some y → y < n) → (∀ y, l[k]? = some y → n ≤ y) → insI l n = l.take k ++ n :: l.drop k
 | [], k, hk, _, _, _ => by simp [insI]
 | x :: l, 0, _, hn, _, h2 => by
   have h3 := h2 x rfl
   have h4 : x ≠ n := fun e => hn (by rw [e]; exact List.mem_cons_self ..)
   unfold insI
   rw [if_neg (by omega), if_neg h4]; rfl
 | x :: l, k + 1, hk, hn, h1, h2 => by
   have h3 := h1 0 (Nat.succ_pos k) x rfl
   unfold insI
   rw [if_pos h3, insI_new (k := k) (by simpa using hk) (fun h => hn (List.mem_cons_of_mem _ h)) (fun i hi y hy => h1 (i + 1) (by omega) y hy) (fun y hy => h2 y hy)]
   rfl
theorem insI_len (n : Int) : ∀ (l : List Int), (insI l n).length ≤ l.length + 1
 | [] => by simp [insI]
 | x :: l => by
   have := insI_len n l
   unfold insI
   split
   · rw [List.length_cons, List.length_cons]; omega
   · split <;> simp
theorem sorted_ext : ∀ {l m : List Int}, l.Pairwise (· < ·) → m.Pairwise (· < ·) → (∀ x, x ∈ l ↔ x ∈ m) → l = m
 | [], [], _, _, _ => rfl
 | [], b :: m, _, _, h => absurd ((h b).2 (List.mem_cons_self ..)) (by simp)
 | a :: l, [], _, _, h => absurd ((h a).1 (List.mem_cons_self ..)) (by simp)
 | a :: l, b :: m, h1, h2, h => by
   rw [List.pairwise_cons] at h1 h2
   have hab : a = b := by
    have ha := (h a).1 (List.mem_cons_self ..)
    have hb := (h b).2 (List.mem_cons_self ..)
    rcases List.mem_cons.1 ha with e | e
    · exact e
    · rcases List.mem_cons.1 hb with e' | e'
      · exact e'.symm
      · have := h2.1 a e; have := h1.1 b e'; omega
   subst hab
   rw [sorted_ext h1.2 h2.2 (fun x => ?_)]
   constructor
   · intro hx
     have hlt := h1.1 x hx
     rcases List.mem_cons.1 ((h x).1 (List.mem_cons_of_mem _ hx)) with e | e
     · omega
     · exact e
   · intro hx
     have hlt := h2.1 x hx
     rcases List.mem_cons.1 ((h x).2 (List.mem_cons_of_mem _ hx)) with e | e
     · omega
     · exact e
def labU (ws : List Int) : Nat → List Int
 | 0 => []
 | k + 1 => if lnk ws k = true then insI (labU ws k) (instAt ws k).n else labU ws k
theorem kA (ws : List Int) : ∀ k, (labU ws k).Pairwise (· < ·)
 | 0 => List.Pairwise.nil
 | k + 1 => by
   unfold labU
   split
   · exact insI_sorted (kA ws k)
   · exact kA ws k
theorem zl {ws : List Int} {n : Int} : ∀ {k : Nat}, n ∈ labU ws k ↔ ∃ i, i < k ∧ lnk ws i = true ∧ (instAt ws i).n = n
 | 0 => by
   constructor
   · intro h; cases h
   · rintro ⟨i, h, _⟩; omega
 | k + 1 => by
   unfold labU
   split
   · rename_i hk
     rw [vk, zl]
     constructor
     · rintro (h | ⟨i, h1, h2⟩)
       · exact ⟨k, by omega, hk, h.symm⟩
       · exact ⟨i, by omega, h2⟩
     · rintro ⟨i, h1, h2, h3⟩
       by_cases e : i = k
       · subst e; exact .inl h3.symm
       · exact .inr ⟨i, by omega, h2, h3⟩
   · rename_i hk
     rw [zl]
     constructor
     · rintro ⟨i, h1, h2⟩; exact ⟨i, by omega, h2⟩
     · rintro ⟨i, h1, h2, h3⟩
       by_cases e : i = k
       · subst e; exact absurd h2 hk
       · exact ⟨i, by omega, h2, h3⟩
theorem labU_all (ws : List Int) : labU ws ws.length = labelsP ws := by
 refine sorted_ext (kA ws _) (kr ws) fun n => ?_
 rw [zl, kz]
 unfold tgts
 rw [List.mem_map]
 constructor
 · rintro ⟨i, h1, h2, h3⟩; exact ⟨i, kx.2 ⟨h1, h2⟩, h3⟩
 · rintro ⟨i, h1, h2⟩; obtain ⟨h3, h4⟩ := kx.1 h1; exact ⟨i, h3, h4, h2⟩
theorem labU_len (ws : List Int) : ∀ k, (labU ws k).length ≤ k
 | 0 => Nat.le_refl _
 | k + 1 => by
   have := labU_len ws k
   unfold labU
   split
   · have := insI_len (instAt ws k).n (labU ws k); omega
   · omega
theorem lnk_n {ws : List Int} {i : Nat} (h : lnk ws i = true) : (5 ≤ (instAt ws i).op ∧ (instAt ws i).op ≤ 8) ∧ 0 ≤ (instAt ws i).n ∧ (instAt ws i).n < 4 * (ws.length : Int) := by
 unfold lnk linkedP at h
 simpa only [Bool.and_eq_true, decide_eq_true_eq] using h
theorem labU_b {ws : List Int} {k : Nat} : ∀ n ∈ labU ws k, 0 ≤ n ∧ n < 4 * (ws.length : Int) := fun n hn => by
 obtain ⟨i, _, h2, h3⟩ := zl.1 hn
 rw [← h3]; exact (lnk_n h2).2
def wR (ws : List Int) (i : Nat) : Int := if lnk ws i = true then numAt ws (labelsP ws) i else ws.getD i 0
def wUp (ws : List Int) (k : Nat) : List Int := (List.range k).map (wR ws)
def mUp (ws : List Int) (k : Nat) : List Bool := (List.range k).map (lnk ws)
theorem wUp_succ (ws : List Int) (k : Nat) : wUp ws (k + 1) = wUp ws k ++ [wR ws k] := by unfold wUp; rw [List.range_succ, List.map_append]; rfl
theorem mUp_succ (ws : List Int) (k : Nat) : mUp ws (k + 1) = mUp ws k ++ [lnk ws k] := by unfold mUp; rw [List.range_succ, List.map_append]; rfl
theorem wUp_len (ws : List Int) (k : Nat) : (wUp ws k).length = k := by simp [wUp]
theorem mUp_len (ws : List Int) (k : Nat) : (mUp ws k).length = k := by simp [mUp]
theorem wUp_all (ws : List Int) : wUp ws ws.length = (liftP ws).words := by
 refine List.ext_getElem? fun i => ?_
 by_cases h : i < ws.length
 · have e : (liftP ws).words = liftW ws (labelsP ws) (lks ws) := rfl
   rw [e, Go.Proofs.YtaklmbhfmpdinaaGreat.liftW_get h]
   unfold wUp
   rw [List.getElem?_map, List.getElem?_range h]; rfl
 · have e : (liftP ws).words.length = ws.length := ji ..
   rw [List.getElem?_eq_none (by rw [wUp_len]; omega), List.getElem?_eq_none (by omega)]
theorem mUp_all (ws : List Int) : mUp ws ws.length = (liftP ws).marks := by
 refine List.ext_getElem? fun i => ?_
 by_cases h : i < ws.length
 · have e : (liftP ws).marks = liftM ws.length (lks ws) := rfl
   rw [e, Go.Proofs.YtaklmbhfmpdinaaGreat.liftM_get h]
   unfold mUp
   rw [List.getElem?_map, List.getElem?_range h]; rfl
 · have e : (liftP ws).marks.length = ws.length := jj ..
   rw [List.getElem?_eq_none (by rw [mUp_len]; omega), List.getElem?_eq_none (by omega)]
def idxM (l : List Int) (n : Int) : Int := if n ∈ l then (idxP l n : Int) else -1
theorem idxP_first {l : List Int} {n : Int} {k : Nat} (h : l[k]? = some n) (hb : ∀ i, i < k → l[i]? ≠ some n) : idxP l n = k := by
 have hm : n ∈ l := List.mem_of_getElem? h
 have h1 := yQ hm
 have hk := (List.getElem?_eq_some_iff.1 h).1
 have hle : idxP l n ≤ k := by
  unfold idxP
  have := List.findIdx_le_length (p := fun x => decide (x = n)) (xs := l)
  rcases Nat.lt_or_ge k (l.findIdx fun x => decide (x = n)) with g | g
  · have h3 := List.not_of_lt_findIdx g
    rw [(List.getElem?_eq_some_iff.1 h).2] at h3
    simp at h3
  · exact g
 rcases Nat.lt_or_ge (idxP l n) k with g | g
 · exact absurd h1 (hb _ g)
 · omega
theorem idxM_at {l : List Int} {n : Int} {k : Nat} (h : l[k]? = some n) (hb : ∀ i, i < k → l[i]? ≠ some n) : idxM l n = k := by
 unfold idxM
 rw [if_pos (List.mem_of_getElem? h), idxP_first h hb]
theorem idxM_no {l : List Int} {n : Int} (hb : ∀ i, i < l.length → l[i]? ≠ some n) : idxM l n = -1 := by
 unfold idxM
 rw [if_neg]
 intro h
 obtain ⟨i, hi⟩ := List.mem_iff_getElem?.1 h
 exact hb i (List.getElem?_eq_some_iff.1 hi).1 hi
theorem idxM_mem {l : List Int} {n : Int} (h : n ∈ l) : idxM l n = idxP l n := if_pos h
theorem idxM_neg {l : List Int} {n : Int} : 0 ≤ idxM l n ↔ n ∈ l := by
 unfold idxM
 split
 · rename_i h; exact ⟨fun _ => h, fun _ => by omega⟩
 · rename_i h; exact ⟨fun g => by omega, fun g => absurd g h⟩
section
variable {P : Program} {n : Nat} {σ : Nat → Value} {S : World → Prop} {t t' ty : TypeId} {x y : Operand} {k : IntKind} {a b c : Int}
theorem g_andHi {m : Nat} (hx : ev n σ x = .int k a) (hy : ev n σ y = .int k b) (hb : BitVec.ofInt k.bits b = ~~~BitVec.ofInt k.bits ((2 : Int) ^ m - 1)) (hm : Nat.ble m k.bits = true) (h0 : 0 ≤ a) (h1 : a < 2 ^ k.bits) (h : k.wrap (a - a % 2 ^ m) = c) :
 Gives P (ev n σ) S (.binOp .and t x y t') ty (.int k c) := fun w _ => by
 subst h
 have e := andnot_mask k.bits a m (Nat.le_of_ble_eq_true hm) h0 h1
 rw [← hb] at e
 simp only [execOp, hx, hy, Sem.run_bind, eqGuard, binOp, Op.intBits, Result.andThen_ok, Sem.run_pure]
 rw [e]
 simp [Result.andThen]
end
end Go.Inl
namespace Go.Proofs.YtaklmbhfmpdinaaGreat
open Tryz
open Go Go.RowKit Go.Inl
theorem vS {X : InstL} (wd at_ : Int) (w0 : World) (I0 : Imm) (hI : Sat I0 w0) (hX : decI wd at_ = X) (hw0 : 0 ≤ wd) (hw1 : wd < 4294967296) (ha0 : -1099511627776 ≤ at_) (ha1 : at_ ≤ 1099511627776) :
 Ctr prog 44 [.int .u32 wd, .int .i64 at_] w0 (fun v w' => v = instV X ∧ Ext w0 I0 w' I0) := by
 subst hX; exact decR_c wd at_ w0 I0 hI hw0 hw1 ha0 ha1
theorem yS {α : Type} {l m : List α} (hl : l.length = m.length) (h : ∀ i, i < l.length → l[i]? = m[i]?) : l = m := by
 refine List.ext_getElem? fun i => ?_
 by_cases hi : i < l.length
 · exact h i hi
 · rw [List.getElem?_eq_none (by omega), List.getElem?_eq_none (by omega)]
theorem zt {α : Type} {l m : List α} {k : Nat} {x y : α} (h : ∀ i, i < k → l[i]? = m[i]?) (hx : l[k]? = some x) (hy : m[k]? = some y) (e : x = y) : ∀ i, i < k + 1 → l[i]? = m[i]? := fun i hi => by
 rcases Nat.lt_succ_iff_lt_or_eq.1 hi with g | g
 · exact h i g
 · subst g; rw [hx, hy, e]
theorem yR {α : Type} {l m : List α} {k : Nat} {x y : α} (hx : l[k]? = some x) (hy : m[k]? = some y) (e : x ≠ y) : l ≠ m := fun h => by
 subst h; rw [hx] at hy; exact e (Option.some.inj hy)
theorem zC {x y : LiftL} (h : x.words ≠ y.words ∨ x.marks ≠ y.marks ∨ x.labels ≠ y.labels) : liftEq x y = false := by
 cases e : liftEq x y with
 | false => rfl
 | true => have := yb.1 e; subst this; simp at h
theorem liftEq_yes {x y : LiftL} (h0 : x.words = y.words) (h1 : x.marks = y.marks) (h2 : x.labels = y.labels) : liftEq x y = true := by
 rw [yb]; cases x; cases y; simp_all
theorem vC {α : Type} {l m : List α} (h : l.length ≠ m.length) : l ≠ m := fun e => h (by rw [e])
theorem idxP_lt {l : List Int} {n : Int} (h : n ∈ l) : idxP l n < l.length := (List.getElem?_eq_some_iff.1 (yQ h)).1
theorem no_step {l : List Int} {n y : Int} {k : Nat} (h : ∀ i, i < k → l[i]? ≠ some n) (hy : l[k]? = some y) (e : y ≠ n) : ∀ i, i < k + 1 → l[i]? ≠ some n := fun i hi => by
 rcases Nat.lt_succ_iff_lt_or_eq.1 hi with g | g
 · exact h i g
 · subst g; rw [hy]; intro g; exact e (Option.some.inj g)
theorem lt_step {l : List Int} {n y : Int} {k : Nat} (h : ∀ i, i < k → ∀ z, l[i]? = some z → z < n) (hy : l[k]? = some y) (e : y < n) : ∀ i, i < k + 1 → ∀ z, l[i]? = some z → z < n := fun i hi z hz => by
 rcases Nat.lt_succ_iff_lt_or_eq.1 hi with g | g
 · exact h i g z hz
 · subst g; rw [hy] at hz; cases hz; exact e
theorem isCode_c (ad : Option Addr) (cap : Nat) (b : List Int) (w0 : World) (I0 : Imm) (hI : Sat I0 w0) (hl : RBytes I0 (.slice ad b.length cap) b) :
 Ctr prog 45 [.slice ad b.length cap] w0 (fun v w' => v = .bool (!noCode b) ∧ Ext w0 I0 w' I0) := by
 have hle := RSl.le hl
 simp only [maxLen] at hle
 refine fn (n := 12) func45 rfl rfl rfl ?_
 have hS := St.start hI
 refine QwR (qq hS (Qab rfl) (QoR (qq hS (qb _) ?_)))
 refine qq hS (qo rfl underlying25 hl rfl) ?_
 refine qq hS (g_rem rfl rfl (by omega) (by omega)) ?_
 refine qq hS (g_eql rfl rfl) ?_
 refine qq hS (Qmb rfl) ?_
 refine qu rfl rfl hS (fun hg => (qb _)) ?_
 intro u8 hu8 hn8
 refine qu rfl rfl hS (fun hg => (qo rfl underlying25 hl (hu8 hg))) ?_
 intro u9 hu9 hn9
 refine qu rfl rfl hS (fun hg => (g_leq (hu9 hg) rfl)) ?_
 intro u10 hu10 hn10
 refine qq hS (g_and rfl rfl (fun hq => hu10 hq)) ?_
 refine qq hS (Qab rfl) (QoN (wpIn_ret ?_))
 refine ret1 results45 (qd (v := .bool _) rfl) ?_
 refine ⟨congrArg Value.bool ?_, hS.nil⟩
 rw [Bool.eq_iff_iff]
 simp only [noCode, Bool.not_or, Bool.not_not, Bool.and_eq_true, decide_eq_true_eq, Bool.not_eq_true', decide_eq_false_iff_not]
 omega
theorem linkR_c (x : InstL) (n : Int) (w0 : World) (I0 : Imm) (hI : Sat I0 w0) : Ctr prog 47 [instV x, .int .i64 n] w0 (fun v w' => v = .bool (linkedP x n) ∧ Ext w0 I0 w' I0) := by
 refine fn (n := 24) func47 rfl rfl rfl ?_
 have hS := St.start hI
 refine QwR ?_
 refine qe (d_box (cs := [.int .i64 _, .int .i64 _, .int .i64 _, .int .i64 _, .int .i64 _]) hS rfl) ?_
 clear hS
 rintro _ w_1 ⟨b2, rfl, hS⟩
 refine qq hS (Qab rfl) (QoR ?_)
 refine qq hS (qa (o' := 0) underlying63 rfl sizeOf3 rfl rfl rfl) ?_
 refine qq hS (qc 0 isAgg3 rfl rfl rfl) ?_
 refine qq hS (g_geq rfl rfl) ?_
 refine qq hS (Qmb rfl) ?_
 refine qu rfl rfl hS (fun hg => (qa (o' := 0) underlying63 rfl sizeOf3 rfl rfl rfl)) ?_
 intro u9 hu9 hn9
 refine qu rfl rfl hS (fun hg => (qc 0 isAgg3 rfl (hu9 hg) rfl)) ?_
 intro u10 hu10 hn10
 refine qu rfl rfl hS (fun hg => (g_leq (hu10 hg) rfl)) ?_
 intro u11 hu11 hn11
 refine qq hS (g_and rfl rfl (fun hq => hu11 hq)) ?_
 refine qq hS (Qmb rfl) ?_
 refine qu rfl rfl hS (fun hg => (qa (o' := 4) underlying63 rfl sizeOf3 rfl rfl rfl)) ?_
 intro u14 hu14 hn14
 refine qu rfl rfl hS (fun hg => (qc 0 isAgg3 rfl (hu14 hg) rfl)) ?_
 intro u15 hu15 hn15
 refine qu rfl rfl hS (fun hg => (g_geq (hu15 hg) rfl)) ?_
 intro u16 hu16 hn16
 refine qq hS (g_and rfl rfl (fun hq => hu16 hq)) ?_
 refine qq hS (Qmb rfl) ?_
 refine qu rfl rfl hS (fun hg => (qa (o' := 4) underlying63 rfl sizeOf3 rfl rfl rfl)) ?_
 intro u19 hu19 hn19
 refine qu rfl rfl hS (fun hg => (qc 0 isAgg3 rfl (hu19 hg) rfl)) ?_
 intro u20 hu20 hn20
 refine qu rfl rfl hS (fun hg => (Qmi rfl)) ?_
 intro u21 hu21 hn21
 refine qu rfl rfl hS (fun hg => (g_lss (hu20 hg) (hu21 hg))) ?_
 intro u22 hu22 hn22
 refine qq hS (g_and rfl rfl (fun hq => hu22 hq)) ?_
 refine qq hS (Qab rfl) (QoN (wpIn_ret ?_))
 refine ret1 results47 (qd (v := .bool _) rfl) ?_
 refine ⟨congrArg Value.bool ?_, hS.nil⟩
 rw [Bool.eq_iff_iff]
 simp only [linkedP, Bool.and_eq_true, decide_eq_true_eq]
 omega
theorem idxR_c (ad : Option Addr) (cap : Nat) (l : List Int) (n : Int) (w0 : World) (I0 : Imm) (hI : Sat I0 w0) (hl : RFl I0 1 intC (.slice ad l.length cap) l) :
 Ctr prog 50 [.slice ad l.length cap, .int .i64 n] w0 (fun v w' => v = .int .i64 (idxM l n) ∧ Ext w0 I0 w' I0) := by
 have hle := RSl.le hl
 simp only [maxLen] at hle
 refine fn (n := 19) func50 rfl rfl rfl ?_
 have hS := St.start hI
 refine QwR (qq hS (Qai rfl) (QoN (wpIn_seq (QwR (qq hS (Qai rfl) ?_)))))
 refine QoN (wpIn_block ?_)
 refine loop (fun (k : Nat) σ w => okS σ [(0, .slice ad l.length cap), (1, .int .i64 n), (5, .int .i64 k)] ∧ St [] w0 I0 I0 w [] ∧ k ≤ l.length ∧ ∀ i, i < k → l[i]? ≠ some n) (fun k => l.length - k) (0) ?_ ?_
 ·
  exact ⟨⟨rfl, rfl, rfl, trivial⟩, hS.sel [], by omega, fun i hi => by omega⟩
 ·
  rintro k σ w_l ⟨hs, hS, hk, hno⟩
  rw [← qj hs]; clear hs
  refine wpIn_seq (QwR (qq hS (Qmi rfl) (qq hS (qb _) ?_)))
  refine qq hS (qo rfl underlying68 hl rfl) ?_
  refine qq hS (g_lss rfl rfl) ?_
  refine QoN ?_
  refine qh rfl ?_ ?_
  ·
   intro hc9
   try simp only [zA, zO, zN, zI, zF, zM, zT, zU] at hc9
   obtain ⟨y, hyi⟩ : ∃ y, l[k]? = some y := ⟨_, List.getElem?_eq_getElem (by omega)⟩
   have hsA := hl.at hyi
   refine wpIn_skip (thenN (wpIn_seq (wpIn_block (QwR (qq hS (qb _) ?_)))))
   refine qq hS (Qmi rfl) ?_
   refine qq hS (g_ixI underlying68 sizeOf3 hl rfl rfl (by omega) (by omega)) ?_
   refine qq hS (qr isAgg3 hsA rfl rfl) ?_
   refine qq hS (Qmi rfl) ?_
   refine qq hS (g_eql rfl rfl) ?_
   refine QoN ?_
   refine qh rfl ?_ ?_
   ·
    intro hc17
    try simp only [zA, zO, zN, zI, zF, zM, zT, zU] at hc17
    have hi := idxM_at (by rw [hyi, hc17]) hno
    refine QwR (qq hS (Qmi rfl) (qq hS (Qai rfl) (QoN (wpIn_ret ?_))))
    refine blkR (thenR (thenR (blkR (thenR ?_))))
    refine ret1 results50 (qd (v := .int .i64 _) rfl) ?_
    first | exact ⟨by rw [hi], hS.nil⟩ | exact ⟨by rw [idxM_no hno], hS.nil⟩
   ·
    intro hc17
    try simp only [zA, zO, zN, zI, zF, zM, zT, zU] at hc17
    have hno2 := no_step hno hyi hc17
    refine wpIn_skip (blkN (thenN (reg (qq hS (Qmi rfl) ?_))))
    refine qq hS (g_add rfl rfl (by omega) (by omega)) ?_
    refine qq hS (Qai rfl) ?_
    exact ⟨k + 1, _, rfl, ⟨⟨rfl, rfl, rfl, trivial⟩, hS.sel [], by omega, hno2⟩, by omega⟩
  ·
   intro hc9
   try simp only [zA, zO, zN, zI, zF, zM, zT, zU] at hc9
   have hkn : k = l.length := by omega
   subst hkn
   refine wpIn_exit ?_
   refine thenE (thenE (blkE ?_))
   refine thenN (QwR (qq hS (Qai rfl) (QoN (wpIn_ret ?_))))
   refine ret1 results50 (qd (v := .int .i64 _) rfl) ?_
   first | exact ⟨by rw [hi], hS.nil⟩ | exact ⟨by rw [idxM_no hno], hS.nil⟩
theorem insertR_c (ad : Option Addr) (cap : Nat) (l : List Int) (n : Int) (w0 : World) (I0 : Imm) (hI : Sat I0 w0) (hl : RFl I0 1 intC (.slice ad l.length cap) l) (hs : l.Pairwise (· < ·)) (hn : l.length ≤ 1073741824) :
 Ctr prog 48 [.slice ad l.length cap, .int .i64 n] w0 (fun v w' => ∃ I' a c, v = .slice a (insI l n).length c ∧ Ext w0 I0 w' I' ∧ RFl I' 1 intC (.slice a (insI l n).length c) (insI l n)) := by
 have hle := RSl.le hl
 simp only [maxLen] at hle
 have hcap := vx hl
 refine fn (n := 40) func48 rfl rfl rfl ?_
 have hS := St.start hI
 refine QwR (qq hS (qf _) (QoN (wpIn_seq (QwR (qq hS (qb _) ?_)))))
 refine qq hS (Qmi rfl) ?_
 refine qe (qi call50 rfl (idxR_c ad cap l n _ I0 hS.imm hl)) ?_
 rintro _ w_1 ⟨rfl, hE⟩
 replace hS := hS.callE hE
 refine qq hS (g_geq rfl rfl) ?_
 refine QoN ?_
 refine qh rfl ?_ ?_
 ·
  intro hc10
  try simp only [zA, zO, zN, zI, zF, zM, zT, zU] at hc10
  have hm : n ∈ l := idxM_neg.1 hc10
  have e := insI_same hs hm
  refine QwR (qq hS (qb _) (qq hS (qf _) (QoN (wpIn_ret ?_))))
  refine thenR ?_
  refine ret1 results48 (qd rfl) ?_
  first
   | exact ⟨I0, ad, cap, by rw [e] <;> rfl, hS.nil, by rw [e]; exact hl⟩
   | (have e2 : insI l n = l.take k ++ ([n] ++ l.drop k) := e
      rw [e2]
      have hm2 : 0 + (l.take k).length + 1 + (l.drop k).length = (l.take k ++ ([n] ++ l.drop k)).length := by simp only [List.length_append, List.length_singleton]; omega
      obtain ⟨I1, hE1, hI1, hd1⟩ := qE jL (xs := l.take k ++ ([n] ++ l.drop k)) (m := (l.take k ++ ([n] ++ l.drop k)).length) (by rw [← hm2, qp, qp, qA, ← List.append_assoc]; exact hS.sel []) rfl
      exact ⟨I1, a39, p39, by rw [← hm2] <;> rfl, hE1, by rw [← hm2]; exact hd1⟩)
 ·
  intro hc10
  try simp only [zA, zO, zN, zI, zF, zM, zT, zU] at hc10
  have hm : n ∉ l := fun h => hc10 (idxM_neg.2 h)
  refine wpIn_skip (thenN (QwR (qq hS (Qai rfl) (QoN (wpIn_seq ?_)))))
  refine wpIn_block ?_
  refine loop (fun (k : Nat) σ w => okS σ [(0, .slice ad l.length cap), (1, .int .i64 n), (5, .int .i64 k)] ∧ St [] w0 I0 I0 w [] ∧ k ≤ l.length ∧ ∀ i, i < k → ∀ z, l[i]? = some z → z < n) (fun k => l.length - k) (0) ?_ ?_
  ·
   exact ⟨⟨rfl, rfl, rfl, trivial⟩, hS.sel [], by omega, fun i hi => by omega⟩
  ·
   rintro k σ w_l ⟨hs, hS, hk, hlt⟩
   rw [← qj hs]; clear hs
   have hxA : k < l.length → atI I0 (elA (.slice ad l.length cap) k 1 0) [.int .i64 (l.getD k 0)] := fun h => hl.at (qM h)
   refine wpIn_seq (QwR (qq hS (Qmi rfl) (qq hS (qb _) ?_)))
   refine qq hS (qo rfl underlying68 hl rfl) ?_
   refine qq hS (g_lss rfl rfl) ?_
   refine qq hS (Qmb rfl) ?_
   refine qu rfl rfl hS (fun hg => (qb _)) ?_
   intro u17 hu17 hn17
   refine qu rfl rfl hS (fun hg => (Qmi rfl)) ?_
   intro u18 hu18 hn18
   refine qu rfl rfl hS (fun hg => (g_ixI underlying68 sizeOf3 hl (hu17 hg) (hu18 hg) (by have := of_decide_eq_true hg; omega) (by have := of_decide_eq_true hg; omega))) ?_
   intro u19 hu19 hn19
   refine qu rfl rfl hS (fun hg => (qr isAgg3 (hxA (by have := of_decide_eq_true hg; omega)) (hu19 hg) rfl)) ?_
   intro u20 hu20 hn20
   refine qu rfl rfl hS (fun hg => (Qmi rfl)) ?_
   intro u21 hu21 hn21
   refine qu rfl rfl hS (fun hg => (g_lss (hu20 hg) (hu21 hg))) ?_
   intro u22 hu22 hn22
   refine qq hS (g_and rfl rfl (fun hq => hu22 hq)) ?_
   refine QoN ?_
   refine qh rfl ?_ ?_
   ·
    intro hc23
    clear hu17 hn17 hu18 hn18 hu19 hn19 hu20 hn20 hu21 hn21 hu22 hn22
    try simp only [zA, zO, zN, zI, zF, zM, zT, zU] at hc23
    have hkl : k < l.length := by have := hc23.1; omega
    obtain ⟨y, hyi⟩ : ∃ y, l[k]? = some y := ⟨_, List.getElem?_eq_getElem hkl⟩
    have hyn : l.getD k 0 < n := hc23.2
    rw [jn hyi] at hyn
    have hlt2 := lt_step hlt hyi hyn
    refine wpIn_skip (thenN (wpIn_block (reg (qq hS (Qmi rfl) ?_))))
    refine qq hS (g_add rfl rfl (by omega) (by omega)) ?_
    refine qq hS (Qai rfl) ?_
    exact ⟨k + 1, _, rfl, ⟨⟨rfl, rfl, rfl, trivial⟩, hS.sel [], by omega, hlt2⟩, by omega⟩
   ·
    intro hc23
    clear hu17 hn17 hu18 hn18 hu19 hn19 hu20 hn20 hu21 hn21 hu22 hn22
    try simp only [zA, zO, zN, zI, zF, zM, zT, zU] at hc23
    have hend : ∀ y, l[k]? = some y → n ≤ y := fun y hy => by
     have h1 := (List.getElem?_eq_some_iff.1 hy).1
     have h2 := jn (d := 0) hy
     have h3 := hc23 (by omega)
     omega
    have e := insI_new hk hm hlt hend
    refine wpIn_exit ?_
    refine thenE (thenE (blkE ?_))
    refine thenN (wpIn_seq ?_)
    have hs29 := RSl.slH hl k hk
    have hs38 := RSl.slL hl k hk
    obtain ⟨a29, c29, hv29, _⟩ := hs29.len
    obtain ⟨a38, c38, hv38, _⟩ := hs38.len
    rw [hv29] at hs29
    rw [hv38] at hs38
    have hl29 : (l.take k).length = k := by rw [List.length_take]; omega
    have hl38 : (l.drop k).length = l.length - k := List.length_drop
    refine reg ?_
    refine qe (qI hS underlying68 sizeOf3) ?_
    clear hS
    rintro _ w_2 ⟨hS, b26_, rfl⟩
    refine qq hS (qb _) (qq hS (Qmi rfl) ?_)
    refine qq hS (g_toV (g_sliceHN (h0 := k) underlying68 sizeOf3 rfl rfl (by omega) (by omega) (by omega)) hv29) ?_
    refine qe (kM 0 hS rfl underlying68 info3 rfl rfl rfl rfl jL (fun _ => rfl) hs29 rfl (by omega) (by omega)) ?_
    clear hS
    rintro _ w_3 ⟨a30, p30, rfl, hS⟩
    refine qq hS (qf _) (QoR (qq hS (qb _) (qq hS (Qmi rfl) ?_)))
    refine qe (d_lit (vs := [.int .i64 _]) (cs := [.int .i64 _]) hS underlying68 sizeOf3 zeroValue3 rfl rfl rfl rfl (fun v hv => by simp only [List.mem_cons, List.not_mem_nil, or_false] at hv; subst hv; rfl) rfl) ?_
    clear hS
    rintro _ w_4 ⟨b33, rfl, hS⟩
    refine qe (qt 1 0 hS rfl underlying68 info3 rfl rfl rfl rfl rfl rfl rfl rfl (by omega) (by omega)) ?_
    clear hS
    rintro _ w_5 ⟨a34, p34, rfl, hS⟩
    refine qq hS (qf _) (QoR (qq hS (qb _) (qq hS (qb _) (qq hS (Qmi rfl) ?_))))
    refine qq hS (g_toV (jF (l0 := k) underlying68 sizeOf3 rfl rfl (by omega) (by omega) (by omega)) hv38) ?_
    refine qe (kM 1 hS rfl underlying68 info3 rfl rfl rfl rfl jL (fun _ => rfl) hs38 rfl (by omega) (by omega)) ?_
    clear hS
    rintro _ w_6 ⟨a39, p39, rfl, hS⟩
    refine qq hS (qf _) (QoN (wpIn_ret ?_))
    refine ret1 results48 (qd rfl) ?_
    first
     | exact ⟨I0, ad, cap, by rw [e] <;> rfl, hS.nil, by rw [e]; exact hl⟩
     | (have e2 : insI l n = l.take k ++ ([n] ++ l.drop k) := e
        rw [e2]
        have hm2 : 0 + (l.take k).length + 1 + (l.drop k).length = (l.take k ++ ([n] ++ l.drop k)).length := by simp only [List.length_append, List.length_singleton]; omega
        obtain ⟨I1, hE1, hI1, hd1⟩ := qE jL (xs := l.take k ++ ([n] ++ l.drop k)) (m := (l.take k ++ ([n] ++ l.drop k)).length) (by rw [← hm2, qp, qp, qA, ← List.append_assoc]; exact hS.sel [false, true]) rfl
        exact ⟨I1, a39, p39, by rw [← hm2] <;> rfl, hE1, by rw [← hm2]; exact hd1⟩)
theorem numR_c (w op k : Int) (w0 : World) (I0 : Imm) (hI : Sat I0 w0) (hw0 : 0 ≤ w) (hw1 : w < 4294967296) (ho : 5 ≤ op ∧ op ≤ 8) (hk0 : 0 ≤ k) (hk1 : k ≤ 65535) :
 Ctr prog 49 [.int .u32 w, .int .i64 op, .int .i64 k] w0 (fun v w' => v = .int .u32 (numP w op k) ∧ Ext w0 I0 w' I0) := by
 refine fn (n := 23) func49 rfl rfl rfl ?_
 have hS := St.start hI
 refine QwR (qq hS (Qaw rfl) (QoN (wpIn_seq (QwR (qq hS (Qmi rfl) ?_)))))
 refine qq hS (g_eql rfl rfl) ?_
 refine qq hS (Qmb rfl) ?_
 refine qu rfl rfl hS (fun hg => (Qmi rfl)) ?_
 intro u10 hu10 hn10
 refine qu rfl rfl hS (fun hg => (g_eql (hu10 hg) rfl)) ?_
 intro u11 hu11 hn11
 refine qq hS (g_or rfl rfl (fun hq => hu11 hq)) ?_
 refine QoN ?_
 refine qh rfl ?_ ?_
 ·
  intro hc12
  clear hu10 hn10 hu11 hn11
  try simp only [zA, zO, zN, zI, zF, zM, zT, zU] at hc12
  have e : numP w op k = w - w % 16777216 + k := by unfold numP fieldM; rw [if_pos hc12]; omega
  refine QwR (qq hS (Qmw rfl) ?_)
  refine qq hS (g_andHi (m := 24) (c := w - w % 16777216) rfl rfl (by decide) rfl hw0 hw1 (by rw [IntKind.wrap_u32]; omega)) ?_
  refine qq hS (Qmi rfl) ?_
  refine qq hS (qz (c := k) underlying3 underlying58 rfl (by rw [IntKind.wrap_u32]; omega)) ?_
  refine qq hS (g_orD (m := 24) (c := w - w % 16777216 + k) rfl rfl (by omega) (Int.lt_of_lt_of_le (show w - w % 16777216 < 4294967296 by omega) (Int.le_refl _)) (by omega) (by omega) (by omega) (Int.lt_of_lt_of_le (show k < 4294967296 by omega) (Int.le_refl _)) (by rw [IntKind.wrap_u32]; omega)) ?_
  refine qq hS (Qaw rfl) (QoN (wpIn_ret ?_))
  refine thenR ?_
  refine ret1 results49 (qd (v := .int .u32 _) rfl) ?_
  exact ⟨by rw [e], hS.nil⟩
 ·
  intro hc12
  clear hu10 hn10 hu11 hn11
  try simp only [zA, zO, zN, zI, zF, zM, zT, zU] at hc12
  have e : numP w op k = w - w % 65536 + k := by unfold numP fieldM; rw [if_neg (by omega)]; omega
  refine wpIn_skip (thenN (QwR (qq hS (Qmw rfl) ?_)))
  refine qq hS (g_andHi (m := 16) (c := w - w % 65536) rfl rfl (by decide) rfl hw0 hw1 (by rw [IntKind.wrap_u32]; omega)) ?_
  refine qq hS (Qmi rfl) ?_
  refine qq hS (qz (c := k) underlying3 underlying58 rfl (by rw [IntKind.wrap_u32]; omega)) ?_
  refine qq hS (g_orD (m := 16) (c := w - w % 65536 + k) rfl rfl (by omega) (Int.lt_of_lt_of_le (show w - w % 65536 < 4294967296 by omega) (Int.le_refl _)) (by omega) (by omega) (by omega) (Int.lt_of_lt_of_le (show k < 4294967296 by omega) (Int.le_refl _)) (by rw [IntKind.wrap_u32]; omega)) ?_
  refine qq hS (Qaw rfl) (QoN (wpIn_ret ?_))
  refine ret1 results49 (qd (v := .int .u32 _) rfl) ?_
  exact ⟨by rw [e], hS.nil⟩
set_option maxHeartbeats 1000000 in
theorem wordsR_c (ad : Option Addr) (cap n : Nat) (b : List Int) (w0 : World) (I0 : Imm) (hI : Sat I0 w0) (hl : RBytes I0 (.slice ad b.length cap) b) (hb : Byts b) (hn : b.length = 4 * n) (hn1 : n ≤ 1073741824) :
 Ctr prog 46 [.slice ad b.length cap] w0 (fun v w' => ∃ I' a c, v = .tuple #[.slice a n c, .int .i64 0] ∧ Ext w0 I0 w' I' ∧ RFl I' 1 u32C (.slice a n c) (wordsN b n)) := by
 have hle := RSl.le hl
 simp only [maxLen] at hle
 refine fn (n := 50) func46 rfl rfl rfl ?_
 have hS := St.start hI
 refine QwR (qq hS (qf _) (qq hS (Qai rfl) (QoN (wpIn_seq (QwR ?_)))))
 refine qq hS (qb _) ?_
 refine qq hS (qo rfl underlying25 hl rfl) ?_
 refine qq hS (g_rem rfl rfl (by omega) (by omega)) ?_
 refine qq hS (g_neqF rfl rfl (by omega)) ?_
 refine QoN ?_
 refine jb (rfl) ?_
 refine wpIn_skip (thenN (QwR ?_))
 refine qe (qI hS underlying57 sizeOf58) ?_
 clear hS
 rintro _ w_1 ⟨hS, b10_, rfl⟩
 refine qq hS (qf _) (QoN (wpIn_seq (QwR (qq hS (Qai rfl) (QoN ?_)))))
 refine wpIn_block ?_
 refine loop (fun (x : BtW) σ w => okS σ [(0, .slice ad b.length cap), (4, .slice x.a x.k x.c), (5, .int .i64 (4 * x.k : Nat))] ∧ St [] w0 I0 I0 w [.row (.slice x.a x.k x.c) 58 1 x.k (flat u32C (wordsN b x.k))] ∧ x.k ≤ n) (fun x => n - x.k) (⟨0, some ⟨b10_, 0, none⟩, 0⟩) ?_ ?_
 ·
  exact ⟨⟨rfl, rfl, rfl, trivial⟩, hS.sel [true], by dsimp only; omega⟩
 ·
  rintro ⟨k, a, c⟩ σ w_l ⟨hs, hS, hk⟩
  dsimp only at hs hS hk ⊢
  rw [← qj hs]; clear hs
  refine wpIn_seq (QwR (qq hS (Qmi rfl) (qq hS (qb _) ?_)))
  refine qq hS (qo rfl underlying25 hl rfl) ?_
  refine qq hS (g_lss rfl rfl) ?_
  refine QoN ?_
  refine qh rfl ?_ ?_
  ·
   intro hc14
   try simp only [zA, zO, zN, zI, zF, zM, zT, zU] at hc14
   have hA0 := hl.at (qM (l := b) (i := 4 * k + 0) (by omega))
   have hy0 := qF hb (4 * k + 0)
   have hA1 := hl.at (qM (l := b) (i := 4 * k + 1) (by omega))
   have hy1 := qF hb (4 * k + 1)
   have hA2 := hl.at (qM (l := b) (i := 4 * k + 2) (by omega))
   have hy2 := qF hb (4 * k + 2)
   have hA3 := hl.at (qM (l := b) (i := 4 * k + 3) (by omega))
   have hy3 := qF hb (4 * k + 3)
   have hw4 : word4 b k = b.getD (4 * k + 0) 0 * 16777216 + b.getD (4 * k + 1) 0 * 65536 + b.getD (4 * k + 2) 0 * 256 + b.getD (4 * k + 3) 0 := rfl
   have hwb := vu hb k
   refine wpIn_skip (thenN (wpIn_seq (wpIn_block ?_)))
   refine draw (.cons 0 .pure (.cons 1 .pure (.cons 2 .pure (.cons 3 .pure (.cons 4 .held (.cons 5 .pure (.cons 6 .pure (.cons 7 .pure (.cons 8 .pure (.cons 9 .pure (.cons 10 .pure (.cons 11 .held (.cons 12 .pure (.cons 13 .pure (.cons 14 .pure (.cons 15 .pure (.cons 16 .pure (.cons 17 .pure (.cons 18 .pure (.cons 19 .held (.cons 20 .pure (.cons 21 .pure (.cons 22 .pure (.cons 23 .pure (.cons 24 .pure (.cons 25 .pure (.cons 26 .pure (.cons 27 .held (.cons 28 .pure (.cons 29 .pure (.cons 30 .eff (.cons 31 .bar (.cons 32 .pure .nil))))))))))))))))))))))))))))))))) mixed (by kernel_rfl) hS ?_
   intro w_2 hS
   refine sp rfl (qb _) ?_
   refine sp rfl (qb _) ?_
   refine sp rfl (Qmi rfl) ?_
   refine sp rfl (g_ixI underlying25 sizeOf5 hl rfl rfl (by omega) (by omega)) ?_
   refine sh rfl (qr isAgg5 hA0 rfl rfl) ?_
   refine sp rfl (qz (c := b.getD (4 * k + 0) 0) underlying5 underlying58 rfl (by rw [IntKind.wrap_u32]; omega)) ?_
   refine sp rfl (qH (s := 24) (c := b.getD (4 * k + 0) 0 * 16777216) rfl rfl rfl rfl (by rw [IntKind.wrap_u32]; omega)) ?_
   refine sp rfl (qb _) ?_
   refine sp rfl (Qmi rfl) ?_
   refine sp rfl (g_add rfl rfl (by omega) (by omega)) ?_
   refine sp rfl (g_ixI underlying25 sizeOf5 hl rfl rfl (by omega) (by omega)) ?_
   refine sh rfl (qr isAgg5 hA1 rfl rfl) ?_
   refine sp rfl (qz (c := b.getD (4 * k + 1) 0) underlying5 underlying58 rfl (by rw [IntKind.wrap_u32]; omega)) ?_
   refine sp rfl (qH (s := 16) (c := b.getD (4 * k + 1) 0 * 65536) rfl rfl rfl rfl (by rw [IntKind.wrap_u32]; omega)) ?_
   refine sp rfl (g_orD (m := 24) (c := b.getD (4 * k + 0) 0 * 16777216 + b.getD (4 * k + 1) 0 * 65536) rfl rfl (by omega) (Int.lt_of_lt_of_le (show b.getD (4 * k + 0) 0 * 16777216 < 4294967296 by omega) (Int.le_refl _)) (by omega) (by omega) (by omega) (Int.lt_of_lt_of_le (show b.getD (4 * k + 1) 0 * 65536 < 4294967296 by omega) (Int.le_refl _)) (by rw [IntKind.wrap_u32]; omega)) ?_
   refine sp rfl (qb _) ?_
   refine sp rfl (Qmi rfl) ?_
   refine sp rfl (g_add rfl rfl (by omega) (by omega)) ?_
   refine sp rfl (g_ixI underlying25 sizeOf5 hl rfl rfl (by omega) (by omega)) ?_
   refine sh rfl (qr isAgg5 hA2 rfl rfl) ?_
   refine sp rfl (qz (c := b.getD (4 * k + 2) 0) underlying5 underlying58 rfl (by rw [IntKind.wrap_u32]; omega)) ?_
   refine sp rfl (qH (s := 8) (c := b.getD (4 * k + 2) 0 * 256) rfl rfl rfl rfl (by rw [IntKind.wrap_u32]; omega)) ?_
   refine sp rfl (g_orD (m := 16) (c := b.getD (4 * k + 0) 0 * 16777216 + b.getD (4 * k + 1) 0 * 65536 + b.getD (4 * k + 2) 0 * 256) rfl rfl (by omega) (Int.lt_of_lt_of_le (show b.getD (4 * k + 0) 0 * 16777216 + b.getD (4 * k + 1) 0 * 65536 < 4294967296 by omega) (Int.le_refl _)) (by omega) (by omega) (by omega) (Int.lt_of_lt_of_le (show b.getD (4 * k + 2) 0 * 256 < 4294967296 by omega) (Int.le_refl _)) (by rw [IntKind.wrap_u32]; omega)) ?_
   refine sp rfl (qb _) ?_
   refine sp rfl (Qmi rfl) ?_
   refine sp rfl (g_add rfl rfl (by omega) (by omega)) ?_
   refine sp rfl (g_ixI underlying25 sizeOf5 hl rfl rfl (by omega) (by omega)) ?_
   refine sh rfl (qr isAgg5 hA3 rfl rfl) ?_
   refine sp rfl (qz (c := b.getD (4 * k + 3) 0) underlying5 underlying58 rfl (by rw [IntKind.wrap_u32]; omega)) ?_
   refine sp rfl (g_orD (m := 8) (c := b.getD (4 * k + 0) 0 * 16777216 + b.getD (4 * k + 1) 0 * 65536 + b.getD (4 * k + 2) 0 * 256 + b.getD (4 * k + 3) 0) rfl rfl (by omega) (Int.lt_of_lt_of_le (show b.getD (4 * k + 0) 0 * 16777216 + b.getD (4 * k + 1) 0 * 65536 + b.getD (4 * k + 2) 0 * 256 < 4294967296 by omega) (Int.le_refl _)) (by omega) (by omega) (by omega) (Int.lt_of_lt_of_le (show b.getD (4 * k + 3) 0 < 4294967296 by omega) (Int.le_refl _)) (by rw [IntKind.wrap_u32]; omega)) ?_
   have hS0 := hS
   refine se rfl (d_lit (vs := [.int .u32 _]) (cs := [.int .u32 _]) hS underlying57 sizeOf58 zeroValue58 rfl rfl rfl rfl (fun v hv => by simp only [List.mem_cons, List.not_mem_nil, or_false] at hv; subst hv; rfl) rfl) ?_
   rintro _ w_3 ⟨b47, rfl, hS⟩
   refine ⟨_, _, hS0.le (Sub.refl _) (List.sublist_cons_self _ _), hS, ?_⟩
   refine sb rfl (qt 1 0 hS rfl underlying57 info58 rfl rfl rfl rfl rfl rfl rfl rfl (by omega) (by omega)) ?_
   rintro _ w_4 ⟨a48, p48, rfl, hS⟩
   refine ⟨_, _, hS, ?_⟩
   refine sp rfl (qf _) ?_
   refine sn (blkN (thenN ?_))
   refine reg (qq hS (Qmi rfl) ?_)
   refine qq hS (g_add rfl rfl (by omega) (by omega)) ?_
   refine qq hS (Qai rfl) ?_
   refine ⟨⟨k + 1, a48, p48⟩, _, rfl, ⟨⟨rfl, rfl, congrArg (Value.int .i64) (show ((4 * k : Nat) : Int) + 4 = ((4 * (k + 1) : Nat) : Int) by omega), trivial⟩, ?_, by dsimp only; omega⟩, by dsimp only; omega⟩
   dsimp only
   rw [wordsN_succ, qp, qA, hw4]
   exact hS.sel [false, true]
  ·
   intro hc14
   try simp only [zA, zO, zN, zI, zF, zM, zT, zU] at hc14
   have hkn : k = n := by omega
   subst hkn
   refine wpIn_exit ?_
   refine thenE (thenE (blkE ?_))
   refine thenN (QwR (qq hS (qb _) (qq hS (qf _) (qq hS (Qai rfl) (QoN ?_)))))
   refine wpIn_ret ?_
   refine ret2 results46 (qd rfl) (qd (v := .int .i64 _) rfl) ?_
   obtain ⟨I1, hE1, hI1, hd1⟩ := qE qN (xs := wordsN b k) (hS.sel [true]) (qX b k).symm
   exact ⟨I1, a, c, rfl, hE1, hd1⟩
set_option maxHeartbeats 2000000 in
theorem liftR_c (ad : Option Addr) (cap n : Nat) (b : List Int) (w0 : World) (I0 : Imm) (hI : Sat I0 w0) (hl : RBytes I0 (.slice ad b.length cap) b) (hb : Byts b) (hn : b.length = 4 * n) (hn1 : n ≤ 16384) :
 Ctr prog 23 [.slice ad b.length cap] w0 (fun v w' => ∃ I' a0 c0 a1 c1 a2 c2, v = .tuple #[.agg #[.slice a0 n c0, .slice a1 n c1, .slice a2 (labelsP (wordsN b n)).length c2], .int .i64 0] ∧ Ext w0 I0 w' I' ∧
  RFl I' 1 u32C (.slice a0 n c0) (liftP (wordsN b n)).words ∧ RFl I' 1 boolC (.slice a1 n c1) (liftP (wordsN b n)).marks ∧ RFl I' 1 intC (.slice a2 (labelsP (wordsN b n)).length c2) (liftP (wordsN b n)).labels) := by
 have hwl := qX b n
 have hwr := jU hb n
 have hlen := jE (wordsN b n)
 rw [hwl] at hlen
 have hnc : noCode b = false := by unfold noCode; rw [decide_eq_true (by omega), decide_eq_false (by omega)]; rfl
 have hwa := wUp_all (wordsN b n)
 have hma := mUp_all (wordsN b n)
 have hla := labU_all (wordsN b n)
 rw [hwl] at hwa hma hla
 refine fn (n := 90) func23 rfl rfl rfl ?_
 have hS := St.start hI
 refine QwR ?_
 refine qe (qk (cs := [.slice _ _ _, .slice _ _ _, .slice _ _ _]) hS zeroValue70 rfl) ?_
 clear hS
 rintro _ w_1 ⟨b2, rfl, hS⟩
 refine qq hS (Qai rfl) (QoN (wpIn_seq (QwR (qq hS (qb _) ?_))))
 refine qe (qi call45 rfl (isCode_c ad cap b _ _ hS.imm hl)) ?_
 rintro _ w_2 ⟨rfl, hE⟩
 replace hS := hS.callE hE
 refine qq hS (g_toV (g_not rfl) (congrArg Value.bool (show (!!noCode b) = false by rw [hnc]; rfl))) ?_
 refine QoN ?_
 refine jb (rfl) ?_
 refine wpIn_skip (thenN (QwR (qq hS (qb _) ?_)))
 refine qe (qi call46 rfl (wordsR_c ad cap n b _ _ hS.imm hl hb hn (by omega))) ?_
 rintro _ w_3 ⟨I_f, a19, c19, rfl, hE, h19⟩
 replace hS := hS.callE hE
 replace hl := hl.mono hE.ext
 refine qq hS (qb _) ?_
 refine qq hS (ql rfl rfl) ?_
 refine qq hS (Qxi rfl rfl) ?_
 refine qq hS (qf _) (qq hS (Qai rfl) (QoR ?_))
 refine qq hS (qm (pl := [(0, 1), (1, 1), (2, 1)]) (cs := [.slice _ _ _, .slice _ _ _, .slice _ _ _]) zeroValue70 underlying70 (fun w => by simp [sizeOf57, sizeOf67, sizeOf68]) mp0 rfl) ?_
 refine qe (qk (cs := [.slice _ _ _, .slice _ _ _, .slice _ _ _]) hS zeroValue70 rfl) ?_
 clear hS
 rintro _ w_4 ⟨b6, rfl, hS⟩
 refine qe (qg 0 hS sizeOf70 rfl rfl rfl (vs := [.slice _ _ _, .slice _ _ _, .slice _ _ _]) rfl rfl rfl (Nat.le_of_ble_eq_true rfl) (cs' := [_, _, _]) rfl) ?_
 clear hS
 rintro _ w_5 ⟨rfl, hS⟩
 refine QoN (wpIn_seq (QwR (qq hS (Qai rfl) (QoN (wpIn_block ?_)))))
 refine loop (fun (x : BtW) σ w => okS σ [(0, .slice ad b.length cap), (2, .pointer (some ⟨b2, 0, none⟩)), (4, .slice a19 n c19), (6, .pointer (some ⟨b6, 0, none⟩)), (7, .int .i64 x.k)] ∧ ∃ I, St [] w0 I0 I w [.cel b6 70 [.slice none 0 0, .slice none 0 0, .slice x.a (labU (wordsN b n) x.k).length x.c], .cel b2 70 [.slice none 0 0, .slice none 0 0, .slice none 0 0]] ∧ x.k ≤ n ∧ RBytes I (.slice ad b.length cap) b ∧ RFl I 1 u32C (.slice a19 n c19) (wordsN b n) ∧ RFl I 1 intC (.slice x.a (labU (wordsN b n) x.k).length x.c) (labU (wordsN b n) x.k)) (fun x => n - x.k) (⟨0, none, 0⟩) ?_ ?_
 ·
  exact ⟨⟨rfl, rfl, rfl, rfl, rfl, trivial⟩, _, hS.sel [true, true], by dsimp only; omega, hl, h19, RFl.nil⟩
 ·
  rintro ⟨k, a, c⟩ σ w_l ⟨hs, I, hS, hk, hl, h19, hlb⟩
  dsimp only at hs hS hk hl h19 hlb ⊢
  rw [← qj hs]; clear hs
  refine wpIn_seq (QwR (qq hS (Qmi rfl) (qq hS (qb _) ?_)))
  refine qq hS (qo rfl underlying57 h19 rfl) ?_
  refine qq hS (g_lss rfl rfl) ?_
  refine QoN ?_
  refine qh rfl ?_ ?_
  ·
   intro hc26
   try simp only [zA, zO, zN, zI, zF, zM, zT, zU] at hc26
   obtain ⟨y, hyi⟩ : ∃ y, (wordsN b n)[k]? = some y := ⟨_, List.getElem?_eq_getElem (by rw [hwl]; omega)⟩
   have hyb := hwr y (List.mem_of_getElem? hyi)
   have hyA := h19.at hyi
   obtain ⟨X, hX⟩ : ∃ X, decI y (4 * (k : Int)) = X := ⟨_, rfl⟩
   have hXi : instAt (wordsN b n) k = X := by unfold instAt; rw [jn hyi, hX]
   have hlk : lnk (wordsN b n) k = linkedP X (b.length : Int) := by unfold lnk; rw [hXi, hwl, show (4 * (n : Int)) = (b.length : Int) by omega]
   have hul := labU_len (wordsN b n) k
   refine wpIn_skip (thenN (wpIn_seq (wpIn_block (QwR (qq hS (qb _) ?_)))))
   refine qq hS (Qmi rfl) ?_
   refine qq hS (g_ixI underlying57 sizeOf58 h19 rfl rfl (by omega) (by omega)) ?_
   refine qq hS (qr isAgg58 hyA rfl rfl) ?_
   refine qq hS (Qmi rfl) ?_
   refine qq hS (g_mul rfl rfl (by omega) (by omega)) ?_
   refine qe (qi call44 rfl (vS y (4 * (k : Int)) _ _ hS.imm hX hyb.1 hyb.2 (by omega) (by omega))) ?_
   rintro _ w_6 ⟨rfl, hE⟩
   replace hS := hS.callE hE
   refine qe (qk (cs := [.int .i64 _, .int .i64 _, .int .i64 _, .int .i64 _, .int .i64 _]) hS zeroValue63 rfl) ?_
   clear hS
   rintro _ w_7 ⟨b8, rfl, hS⟩
   refine qe (qg 0 hS sizeOf63 rfl rfl rfl (vs := [.int .i64 _, .int .i64 _, .int .i64 _, .int .i64 _, .int .i64 _]) rfl rfl rfl (Nat.le_of_ble_eq_true rfl) (cs' := [_, _, _, _, _]) rfl) ?_
   clear hS
   rintro _ w_8 ⟨rfl, hS⟩
   refine QoR ?_
   refine qq hS (g_ldO 0 (vs := [.int .i64 _, .int .i64 _, .int .i64 _, .int .i64 _, .int .i64 _]) sizeOf63 isAgg63 rfl rfl rfl rfl) ?_
   refine qq hS (qb _) ?_
   refine qq hS (qo rfl underlying25 hl rfl) ?_
   refine qe (qi call47 rfl (linkR_c X (b.length : Int) _ _ hS.imm)) ?_
   rintro _ w_9 ⟨rfl, hE⟩
   replace hS := hS.callE hE
   refine QoN ?_
   refine qh rfl ?_ ?_
   ·
    intro hc39
    have e : labU (wordsN b n) (k + 1) = insI (labU (wordsN b n) k) X.n := by show (if _ then _ else _) = _; rw [if_pos (by rw [hlk]; exact hc39), hXi]
    refine reg ?_
    refine qq hS (qa (o' := 2) underlying70 rfl sizeOf68 rfl rfl rfl) ?_
    refine qq hS (qc 1 isAgg68 rfl rfl rfl) ?_
    refine qq hS (qa (o' := 4) underlying63 rfl sizeOf3 rfl rfl rfl) ?_
    refine qq hS (qc 0 isAgg3 rfl rfl rfl) ?_
    refine qe (qi call48 rfl (insertR_c a c (labU (wordsN b n) k) X.n _ _ hS.imm hlb (kA _ _) (by omega))) ?_
    rintro _ w_10 ⟨I_f, a44, c44, rfl, hE, h44⟩
    replace hS := hS.callE hE
    replace hl := hl.mono hE.ext
    replace h19 := h19.mono hE.ext
    replace hlb := hlb.mono hE.ext
    refine qq hS (qa (o' := 2) underlying70 rfl sizeOf68 rfl rfl rfl) ?_
    refine qe (qg 1 hS sizeOf68 rfl rfl rfl (vs := [.slice _ _ _]) rfl rfl rfl (Nat.le_of_ble_eq_true rfl) (cs' := [_, _, _]) rfl) ?_
    clear hS
    rintro _ w_11 ⟨rfl, hS⟩
    refine qx (blkN (thenN ?_))
    refine reg (qq hS (Qmi rfl) ?_)
    refine qq hS (g_add rfl rfl (by omega) (by omega)) ?_
    refine qq hS (Qai rfl) ?_
    first
     | (refine ⟨⟨k + 1, a, c⟩, _, rfl, ⟨⟨rfl, rfl, rfl, rfl, rfl, trivial⟩, _, ?_, by dsimp only; omega, hl, h19, by rw [e]; exact hlb⟩, by dsimp only; omega⟩
        dsimp only
        rw [e]
        exact hS.sel [false, true, true])
     | (refine ⟨⟨k + 1, a44, c44⟩, _, rfl, ⟨⟨rfl, rfl, rfl, rfl, rfl, trivial⟩, _, ?_, by dsimp only; omega, hl, h19, by rw [e]; exact h44⟩, by dsimp only; omega⟩
        dsimp only
        rw [e]
        exact hS.sel [false, true, true])
   ·
    intro hc39
    have e : labU (wordsN b n) (k + 1) = labU (wordsN b n) k := by show (if _ then _ else _) = _; rw [if_neg (by rw [hlk, hc39]; decide)]
    refine wpIn_skip (blkN (thenN (reg (qq hS (Qmi rfl) ?_))))
    refine qq hS (g_add rfl rfl (by omega) (by omega)) ?_
    refine qq hS (Qai rfl) ?_
    first
     | (refine ⟨⟨k + 1, a, c⟩, _, rfl, ⟨⟨rfl, rfl, rfl, rfl, rfl, trivial⟩, _, ?_, by dsimp only; omega, hl, h19, by rw [e]; exact hlb⟩, by dsimp only; omega⟩
        dsimp only
        rw [e]
        exact hS.sel [false, true, true])
     | (refine ⟨⟨k + 1, a44, c44⟩, _, rfl, ⟨⟨rfl, rfl, rfl, rfl, rfl, trivial⟩, _, ?_, by dsimp only; omega, hl, h19, by rw [e]; exact h44⟩, by dsimp only; omega⟩
        dsimp only
        rw [e]
        exact hS.sel [false, true, true])
  ·
   intro hc26
   try simp only [zA, zO, zN, zI, zF, zM, zT, zU] at hc26
   have hkn : n = k := by omega
   subst hkn
   rw [hla] at hS hlb
   refine wpIn_exit ?_
   refine thenE (thenE (blkE ?_))
   refine thenN (wpIn_seq (wpIn_seq ?_))
   obtain ⟨al, hal⟩ : ∃ z, z = a := ⟨_, rfl⟩
   obtain ⟨cl, hcl⟩ : ∃ z, z = c := ⟨_, rfl⟩
   obtain ⟨I1, hI1⟩ : ∃ z, z = I := ⟨_, rfl⟩
   subst hal hcl hI1
   refine reg (qq hS (Qai rfl) (QoN (wpIn_block ?_)))
   refine loop (fun (x : WdW) σ w => okS σ [(0, .slice ad b.length cap), (2, .pointer (some ⟨b2, 0, none⟩)), (4, .slice a19 n c19), (6, .pointer (some ⟨b6, 0, none⟩)), (9, .int .i64 x.k)] ∧ St [] w0 I0 I1 w [.row (.slice x.a x.k x.c) 4 1 x.k (flat boolC (mUp (wordsN b n) x.k)), .row (.slice x.ar x.k x.cr) 58 1 x.k (flat u32C (wUp (wordsN b n) x.k)), .cel b6 70 [.slice x.ar x.k x.cr, .slice x.a x.k x.c, .slice al (labelsP (wordsN b n)).length cl], .cel b2 70 [.slice none 0 0, .slice none 0 0, .slice none 0 0]] ∧ x.k ≤ n) (fun x => n - x.k) (⟨0, none, 0, none, 0⟩) ?_ ?_
   ·
    exact ⟨⟨rfl, rfl, rfl, rfl, rfl, trivial⟩, ((hS.sel [true, true]).nilRow _ _).nilRow _ _, by dsimp only; omega⟩
   ·
    rintro ⟨k, ar, cr, a, c⟩ σ w_l ⟨hs, hS, hk⟩
    dsimp only at hs hS hk ⊢
    rw [← qj hs]; clear hs
    refine wpIn_seq (QwR (qq hS (Qmi rfl) (qq hS (qb _) ?_)))
    refine qq hS (qo rfl underlying57 h19 rfl) ?_
    refine qq hS (g_lss rfl rfl) ?_
    refine QoN ?_
    refine qh rfl ?_ ?_
    ·
     intro hc49
     try simp only [zA, zO, zN, zI, zF, zM, zT, zU] at hc49
     obtain ⟨y, hyi⟩ : ∃ y, (wordsN b n)[k]? = some y := ⟨_, List.getElem?_eq_getElem (by rw [hwl]; omega)⟩
     have hyb := hwr y (List.mem_of_getElem? hyi)
     have hyA := h19.at hyi
     obtain ⟨X, hX⟩ : ∃ X, decI y (4 * (k : Int)) = X := ⟨_, rfl⟩
     have hXi : instAt (wordsN b n) k = X := by unfold instAt; rw [jn hyi, hX]
     have hlk : lnk (wordsN b n) k = linkedP X (b.length : Int) := by unfold lnk; rw [hXi, hwl, show (4 * (n : Int)) = (b.length : Int) by omega]
     refine wpIn_skip (thenN (wpIn_seq (wpIn_block ?_)))
     refine meet (fun σ w => ∃ b10, okS σ [(0, .slice ad b.length cap), (2, .pointer (some ⟨b2, 0, none⟩)), (4, .slice a19 n c19), (6, .pointer (some ⟨b6, 0, none⟩)), (9, .int .i64 k), (10, .pointer (some ⟨b10, 0, none⟩)), (11, .int .u32 y)] ∧ St [] w0 I0 I1 w [.cel b10 63 (instC X), .row (.slice a k c) 4 1 k (flat boolC (mUp (wordsN b n) k)), .row (.slice ar k cr) 58 1 k (flat u32C (wUp (wordsN b n) k)), .cel b6 70 [.slice ar k cr, .slice a k c, .slice al (labelsP (wordsN b n)).length cl], .cel b2 70 [.slice none 0 0, .slice none 0 0, .slice none 0 0]]) ?_ ?_
     ·
      refine drawS [true, true, true, true] (.cons 0 .pure (.cons 1 .pure (.cons 2 .pure (.cons 3 .held (.cons 4 .pure (.cons 5 .pure (.cons 7 .pure (.cons 8 .pure (.cons 9 .pure (.cons 10 .held (.fork 6 (.cons 11 .eff (.cons 12 .eff (.cons 13 .pure .nil))) 11 (.cons 6 .eff (.cons 12 .eff (.cons 13 .pure .nil)))))))))))))) mixed (by kernel_rfl) hS ?_
      intro w_12 hS
      refine sp rfl (qb _) ?_
      refine sp rfl (Qmi rfl) ?_
      refine sp rfl (g_ixI underlying57 sizeOf58 h19 rfl rfl (by omega) (by omega)) ?_
      refine sh rfl (qr isAgg58 hyA rfl rfl) ?_
      refine sp rfl (Qmi rfl) ?_
      refine sp rfl (g_mul rfl rfl (by omega) (by omega)) ?_
      refine sp rfl (qb _) ?_
      refine sp rfl (Qmi rfl) ?_
      refine sp rfl (g_ixI underlying57 sizeOf58 h19 rfl rfl (by omega) (by omega)) ?_
      refine sh rfl (qr isAgg58 hyA rfl rfl) ?_
      refine sk ?_ ?_
      ·
       have hS0 := hS
       refine se rfl (qi call44 rfl (vS y (4 * (k : Int)) _ _ hS.imm hX hyb.1 hyb.2 (by omega) (by omega))) ?_
       rintro _ w_13 ⟨rfl, hE⟩
       replace hS := hS.call hE
       refine ⟨_, _, (hS0.sel [true, true, true, true]).le hE.ext (List.Sublist.refl _), hS.sel [true, true, true, true], ?_⟩
       have hS0 := hS
       refine se rfl (qk (cs := [.int .i64 _, .int .i64 _, .int .i64 _, .int .i64 _, .int .i64 _]) hS zeroValue63 rfl) ?_
       rintro _ w_14 ⟨b10, rfl, hS⟩
       refine ⟨_, _, fun _ h => h, hS.sel [false, true, true, true, true], ?_⟩
       have hS0 := hS
       refine se rfl (qg 0 hS sizeOf63 rfl rfl rfl (vs := [.int .i64 _, .int .i64 _, .int .i64 _, .int .i64 _, .int .i64 _]) rfl rfl rfl (Nat.le_of_ble_eq_true rfl) (cs' := [_, _, _, _, _]) rfl) ?_
       rintro _ w_15 ⟨rfl, hS⟩
       refine ⟨_, _, fun _ h => h, hS.sel [false, true, true, true, true], ?_⟩
       refine sp rfl (Qaw rfl) ?_
       refine sn (thenN ?_)
       exact ⟨_, rfl, b10, ⟨rfl, rfl, rfl, rfl, rfl, rfl, rfl, trivial⟩, hS⟩
      ·
       have hS0 := hS
       refine se rfl (qk (cs := [.int .i64 _, .int .i64 _, .int .i64 _, .int .i64 _, .int .i64 _]) hS zeroValue63 rfl) ?_
       rintro _ w_16 ⟨b10, rfl, hS⟩
       refine ⟨_, _, fun _ h => h, hS.sel [false, true, true, true, true], ?_⟩
       have hS0 := hS
       refine se rfl (qi call44 rfl (vS y (4 * (k : Int)) _ _ hS.imm hX hyb.1 hyb.2 (by omega) (by omega))) ?_
       rintro _ w_17 ⟨rfl, hE⟩
       replace hS := hS.call hE
       refine ⟨_, _, (hS0.sel [false, true, true, true, true]).le hE.ext (List.Sublist.refl _), hS.sel [false, true, true, true, true], ?_⟩
       have hS0 := hS
       refine se rfl (qg 0 hS sizeOf63 rfl rfl rfl (vs := [.int .i64 _, .int .i64 _, .int .i64 _, .int .i64 _, .int .i64 _]) rfl rfl rfl (Nat.le_of_ble_eq_true rfl) (cs' := [_, _, _, _, _]) rfl) ?_
       rintro _ w_18 ⟨rfl, hS⟩
       refine ⟨_, _, fun _ h => h, hS.sel [false, true, true, true, true], ?_⟩
       refine sp rfl (Qaw rfl) ?_
       refine sn (thenN ?_)
       exact ⟨_, rfl, b10, ⟨rfl, rfl, rfl, rfl, rfl, rfl, rfl, trivial⟩, hS⟩
     ·
      rintro σ w_j ⟨b10, hs, hS⟩
      rw [← qj hs]
      refine QwR ?_
      refine qq hS (g_ldO 0 (vs := [.int .i64 _, .int .i64 _, .int .i64 _, .int .i64 _, .int .i64 _]) sizeOf63 isAgg63 rfl rfl rfl rfl) ?_
      refine qq hS (qb _) ?_
      refine qq hS (qo rfl underlying25 hl rfl) ?_
      refine qe (qi call47 rfl (linkR_c X (b.length : Int) _ _ hS.imm)) ?_
      rintro _ w_19 ⟨rfl, hE⟩
      replace hS := hS.callE hE
      refine qq hS (Qab rfl) (QoN ?_)
      refine meet (fun σ w => okS σ [(0, .slice ad b.length cap), (2, .pointer (some ⟨b2, 0, none⟩)), (4, .slice a19 n c19), (6, .pointer (some ⟨b6, 0, none⟩)), (9, .int .i64 k), (11, .int .u32 (wR (wordsN b n) k)), (12, .bool (lnk (wordsN b n) k))] ∧ St [] w0 I0 I1 w [.row (.slice a k c) 4 1 k (flat boolC (mUp (wordsN b n) k)), .row (.slice ar k cr) 58 1 k (flat u32C (wUp (wordsN b n) k)), .cel b6 70 [.slice ar k cr, .slice a k c, .slice al (labelsP (wordsN b n)).length cl], .cel b2 70 [.slice none 0 0, .slice none 0 0, .slice none 0 0]]) ?_ ?_
      ·
       refine QwR (qq hS (Qmb rfl) (QoN ?_))
       refine qh rfl ?_ ?_
       ·
        intro hc67
        have hlk2 : lnk (wordsN b n) k = true := by rw [hlk]; exact hc67
        have hmem : X.n ∈ (labelsP (wordsN b n)) := by rw [← hla]; exact zl.2 ⟨k, by omega, hlk2, by rw [hXi]⟩
        have hidx := idxM_mem hmem
        have hil := idxP_lt hmem
        have hop := (lnk_n hlk2).1
        rw [hXi] at hop
        have e : wR (wordsN b n) k = numP y X.op (idxM (labelsP (wordsN b n)) X.n) := by unfold wR; rw [if_pos hlk2]; unfold numAt; rw [jn hyi, hXi, hidx]
        refine draw (.cons 0 .pure (.cons 1 .pure (.cons 2 .held (.cons 3 .pure (.cons 4 .held (.cons 5 .pure (.cons 6 .held (.cons 7 .eff (.cons 8 .eff (.cons 9 .pure .nil)))))))))) mixed (by kernel_rfl) hS ?_
        intro w_20 hS
        refine sp rfl (Qmw rfl) ?_
        refine sp rfl (qa (o' := 0) underlying63 rfl sizeOf3 rfl rfl rfl) ?_
        refine sh rfl (qc 0 isAgg3 rfl rfl rfl) ?_
        refine sp rfl (qa (o' := 2) underlying70 rfl sizeOf68 rfl rfl rfl) ?_
        refine sh rfl (qc 3 isAgg68 rfl rfl rfl) ?_
        refine sp rfl (qa (o' := 4) underlying63 rfl sizeOf3 rfl rfl rfl) ?_
        refine sh rfl (qc 0 isAgg3 rfl rfl rfl) ?_
        have hS0 := hS
        refine se rfl (qi call50 rfl (idxR_c al cl (labelsP (wordsN b n)) X.n _ _ hS.imm hlb)) ?_
        rintro _ w_21 ⟨rfl, hE⟩
        replace hS := hS.call hE
        refine ⟨_, _, hS0.le hE.ext (List.Sublist.refl _), hS, ?_⟩
        have hS0 := hS
        refine se rfl (qi call49 rfl (numR_c y X.op (idxM (labelsP (wordsN b n)) X.n) _ _ hS.imm hyb.1 hyb.2 hop (by omega) (by omega))) ?_
        rintro _ w_22 ⟨rfl, hE⟩
        replace hS := hS.call hE
        refine ⟨_, _, hS0.le hE.ext (List.Sublist.refl _), hS, ?_⟩
        refine sp rfl (Qaw rfl) ?_
        refine sn (thenN ?_)
        exact ⟨_, rfl, ⟨rfl, rfl, rfl, rfl, rfl, congrArg (Value.int .u32) e.symm, congrArg Value.bool hlk.symm, trivial⟩, hS.sel [false, true, true, true, true]⟩
       ·
        intro hc67
        have hlk2 : lnk (wordsN b n) k = false := by rw [hlk]; exact hc67
        have e : wR (wordsN b n) k = y := by unfold wR; rw [if_neg (by rw [hlk2]; decide), jn hyi]
        refine wpIn_skip (thenN ?_)
        exact ⟨_, rfl, ⟨rfl, rfl, rfl, rfl, rfl, congrArg (Value.int .u32) e.symm, congrArg Value.bool hlk.symm, trivial⟩, hS.sel [false, true, true, true, true]⟩
      ·
       rintro σ w_k ⟨hs, hS⟩
       rw [← qj hs]
       refine QwR ?_
       refine qq hS (qa (o' := 0) underlying70 rfl sizeOf57 rfl rfl rfl) ?_
       refine qq hS (qc 2 isAgg57 rfl rfl rfl) ?_
       refine qq hS (Qmw rfl) ?_
       refine qe (d_lit (vs := [.int .u32 _]) (cs := [.int .u32 _]) hS underlying57 sizeOf58 zeroValue58 rfl rfl rfl rfl (fun v hv => by simp only [List.mem_cons, List.not_mem_nil, or_false] at hv; subst hv; rfl) rfl) ?_
       clear hS
       rintro _ w_23 ⟨b80, rfl, hS⟩
       refine qe (qt 2 0 hS rfl underlying57 info58 rfl rfl rfl rfl rfl rfl rfl rfl (by omega) (by omega)) ?_
       clear hS
       rintro _ w_24 ⟨a81, p81, rfl, hS⟩
       refine qq hS (qa (o' := 0) underlying70 rfl sizeOf57 rfl rfl rfl) ?_
       refine qe (qg 3 hS sizeOf57 rfl rfl rfl (vs := [.slice _ _ _]) rfl rfl rfl (Nat.le_of_ble_eq_true rfl) (cs' := [_, _, _]) rfl) ?_
       clear hS
       rintro _ w_25 ⟨rfl, hS⟩
       refine QoN (reg ?_)
       refine qq hS (qa (o' := 1) underlying70 rfl sizeOf67 rfl rfl rfl) ?_
       refine qq hS (qc 3 isAgg67 rfl rfl rfl) ?_
       refine qq hS (Qmb rfl) ?_
       refine qe (d_lit (vs := [.bool _]) (cs := [.bool _]) hS underlying67 sizeOf4 zeroValue4 rfl rfl rfl rfl (fun v hv => by simp only [List.mem_cons, List.not_mem_nil, or_false] at hv; subst hv; rfl) rfl) ?_
       clear hS
       rintro _ w_26 ⟨b86, rfl, hS⟩
       refine qe (qt 2 0 hS rfl underlying67 info4 rfl rfl rfl rfl rfl rfl rfl rfl (by omega) (by omega)) ?_
       clear hS
       rintro _ w_27 ⟨a87, p87, rfl, hS⟩
       refine qq hS (qa (o' := 1) underlying70 rfl sizeOf67 rfl rfl rfl) ?_
       refine qe (qg 4 hS sizeOf67 rfl rfl rfl (vs := [.slice _ _ _]) rfl rfl rfl (Nat.le_of_ble_eq_true rfl) (cs' := [_, _, _]) rfl) ?_
       clear hS
       rintro _ w_28 ⟨rfl, hS⟩
       refine qx (blkN (thenN ?_))
       refine reg (qq hS (Qmi rfl) ?_)
       refine qq hS (g_add rfl rfl (by omega) (by omega)) ?_
       refine qq hS (Qai rfl) ?_
       refine ⟨⟨k + 1, a81, p81, a87, p87⟩, _, rfl, ⟨⟨rfl, rfl, rfl, rfl, rfl, trivial⟩, ?_, by dsimp only; omega⟩, by dsimp only; omega⟩
       dsimp only
       rw [wUp_succ, mUp_succ, qp, qp, qA, qA]
       exact hS.sel [false, false, true, true, true, true]
    ·
     intro hc49
     try simp only [zA, zO, zN, zI, zF, zM, zT, zU] at hc49
     have hkn : n = k := by omega
     subst hkn
     refine wpIn_exit ?_
     refine thenE (thenE (blkE ?_))
     refine thenN (QwR ?_)
     refine qq hS (g_ldO 2 (vs := [.slice _ _ _, .slice _ _ _, .slice _ _ _]) sizeOf70 isAgg70 rfl rfl rfl rfl) ?_
     refine qe (qg 3 hS sizeOf70 rfl rfl rfl (vs := [.slice _ _ _, .slice _ _ _, .slice _ _ _]) rfl rfl rfl (Nat.le_of_ble_eq_true rfl) (cs' := [_, _, _]) rfl) ?_
     clear hS
     rintro _ w_29 ⟨rfl, hS⟩
     refine qq hS (Qai rfl) (QoN (wpIn_ret ?_))
     refine ret2 results23 (qs 3 hS sizeOf70 isAgg70 rfl rfl rfl) (qd (v := .int .i64 _) rfl) ?_
     obtain ⟨I2, hS2, hI2, hd2⟩ := St.freezeRow qN (xs := wUp (wordsN b n) n) (hS.ord [1, 0]) (wUp_len _ _).symm
     obtain ⟨I3, hS3, hI3, hd3⟩ := St.freezeRow jd (xs := mUp (wordsN b n) n) hS2 (mUp_len _ _).symm
     rw [hwa] at hd2
     rw [hma] at hd3
     exact ⟨I3, ar, cr, a, c, al, cl, rfl, hS3.nil, hd2.mono hI3, hd3, (hlb.mono hI2).mono hI3⟩
set_option maxHeartbeats 1000000 in
theorem lfeqR_c (x y : LiftL) (a0 a1 a2 a0y a1y a2y : Option Addr) (c0 c1 c2 c0y c1y c2y : Nat) (w0 : World) (I0 : Imm) (hI : Sat I0 w0) (hx : RLf I0 a0 c0 a1 c1 a2 c2 x) (hy : RLf I0 a0y c0y a1y c1y a2y c2y y) :
 Ctr prog 102 [.agg #[.slice a0 x.words.length c0, .slice a1 x.marks.length c1, .slice a2 x.labels.length c2], .agg #[.slice a0y y.words.length c0y, .slice a1y y.marks.length c1y, .slice a2y y.labels.length c2y]] w0 (fun v w' => v = .bool (liftEq x y) ∧ Ext w0 I0 w' I0) := by
 have hl0 := RSl.le hx.w
 have hl1 := RSl.le hx.m
 have hl2 := RSl.le hx.l
 simp only [maxLen] at hl0 hl1 hl2
 refine fn (n := 87) func102 rfl rfl rfl ?_
 have hS := St.start hI
 refine QwR ?_
 refine qe (d_box (cs := [.slice _ _ _, .slice _ _ _, .slice _ _ _]) hS rfl) ?_
 clear hS
 rintro _ w_1 ⟨b2, rfl, hS⟩
 refine qe (d_box (cs := [.slice _ _ _, .slice _ _ _, .slice _ _ _]) hS rfl) ?_
 clear hS
 rintro _ w_2 ⟨b3, rfl, hS⟩
 refine qq hS (Qab rfl) (QoN (wpIn_seq (QwR ?_)))
 refine qq hS (qa (o' := 0) underlying70 rfl sizeOf57 rfl rfl rfl) ?_
 refine qq hS (qc 1 isAgg57 rfl rfl rfl) ?_
 refine qq hS (qo rfl underlying57 hx.w rfl) ?_
 refine qq hS (qa (o' := 0) underlying70 rfl sizeOf57 rfl rfl rfl) ?_
 refine qq hS (qc 0 isAgg57 rfl rfl rfl) ?_
 refine qq hS (qo rfl underlying57 hy.w rfl) ?_
 refine qq hS (g_neq rfl rfl) ?_
 refine qq hS (Qmb rfl) ?_
 refine qu rfl rfl hS (fun hg => (qa (o' := 1) underlying70 rfl sizeOf67 rfl rfl rfl)) ?_
 intro u16 hu16 hn16
 refine qu rfl rfl hS (fun hg => (qc 1 isAgg67 rfl (hu16 hg) rfl)) ?_
 intro u17 hu17 hn17
 refine qu rfl rfl hS (fun hg => (qo rfl underlying67 hx.m (hu17 hg))) ?_
 intro u18 hu18 hn18
 refine qu rfl rfl hS (fun hg => (qa (o' := 1) underlying70 rfl sizeOf67 rfl rfl rfl)) ?_
 intro u19 hu19 hn19
 refine qu rfl rfl hS (fun hg => (qc 0 isAgg67 rfl (hu19 hg) rfl)) ?_
 intro u20 hu20 hn20
 refine qu rfl rfl hS (fun hg => (qo rfl underlying67 hy.m (hu20 hg))) ?_
 intro u21 hu21 hn21
 refine qu rfl rfl hS (fun hg => (g_neq (hu18 hg) (hu21 hg))) ?_
 intro u22 hu22 hn22
 refine qq hS (g_or rfl rfl (fun hq => hu22 hq)) ?_
 refine qq hS (Qmb rfl) ?_
 refine qu rfl rfl hS (fun hg => (qa (o' := 2) underlying70 rfl sizeOf68 rfl rfl rfl)) ?_
 intro u25 hu25 hn25
 refine qu rfl rfl hS (fun hg => (qc 1 isAgg68 rfl (hu25 hg) rfl)) ?_
 intro u26 hu26 hn26
 refine qu rfl rfl hS (fun hg => (qo rfl underlying68 hx.l (hu26 hg))) ?_
 intro u27 hu27 hn27
 refine qu rfl rfl hS (fun hg => (qa (o' := 2) underlying70 rfl sizeOf68 rfl rfl rfl)) ?_
 intro u28 hu28 hn28
 refine qu rfl rfl hS (fun hg => (qc 0 isAgg68 rfl (hu28 hg) rfl)) ?_
 intro u29 hu29 hn29
 refine qu rfl rfl hS (fun hg => (qo rfl underlying68 hy.l (hu29 hg))) ?_
 intro u30 hu30 hn30
 refine qu rfl rfl hS (fun hg => (g_neq (hu27 hg) (hu30 hg))) ?_
 intro u31 hu31 hn31
 refine qq hS (g_or rfl rfl (fun hq => hu31 hq)) ?_
 refine QoN ?_
 refine qh rfl ?_ ?_
 ·
  intro hc32
  clear hu16 hn16 hu17 hn17 hu18 hn18 hu19 hn19 hu20 hn20 hu21 hn21 hu22 hn22 hu25 hn25 hu26 hn26 hu27 hn27 hu28 hn28 hu29 hn29 hu30 hn30 hu31 hn31
  try simp only [zA, zO, zN, zI, zF, zM, zT, zU] at hc32
  have hq : liftEq x y = false := zC (by
   by_cases h1 : x.words.length = y.words.length
   · by_cases h2 : x.marks.length = y.marks.length
     · exact .inr (.inr (vC (by omega)))
     · exact .inr (.inl (vC h2))
   · exact .inl (vC h1))
  refine QwR (qq hS (Qab rfl) (QoN (wpIn_ret ?_)))
  refine thenR ?_
  refine ret1 results102 (qd (v := .bool _) rfl) ?_
  exact ⟨by rw [hq], hS.nil⟩
 ·
  intro hc32
  clear hu16 hn16 hu17 hn17 hu18 hn18 hu19 hn19 hu20 hn20 hu21 hn21 hu22 hn22 hu25 hn25 hu26 hn26 hu27 hn27 hu28 hn28 hu29 hn29 hu30 hn30 hu31 hn31
  try simp only [zA, zO, zN, zI, zF, zM, zT, zU] at hc32
  have hw1 : x.words.length = y.words.length := by omega
  have hw2 : x.marks.length = y.marks.length := by omega
  have hw3 : x.labels.length = y.labels.length := by omega
  refine wpIn_skip (thenN (wpIn_seq (QwR (qq hS (Qai rfl) (QoN ?_)))))
  refine wpIn_block ?_
  refine loop (fun (k : Nat) σ w => okS σ [(2, .pointer (some ⟨b2, 0, none⟩)), (3, .pointer (some ⟨b3, 0, none⟩)), (5, .int .i64 k)] ∧ St [] w0 I0 I0 w [.cel b3 70 [.slice a0y y.words.length c0y, .slice a1y y.marks.length c1y, .slice a2y y.labels.length c2y], .cel b2 70 [.slice a0 x.words.length c0, .slice a1 x.marks.length c1, .slice a2 x.labels.length c2]] ∧ k ≤ x.words.length ∧ ∀ i, i < k → x.words[i]? = y.words[i]?) (fun k => x.words.length - k) (0) ?_ ?_
  ·
   exact ⟨⟨rfl, rfl, rfl, trivial⟩, hS.sel [true, true], by omega, fun i hi => by omega⟩
  ·
   rintro k σ w_l ⟨hs, hS, hk, hsame⟩
   rw [← qj hs]; clear hs
   refine wpIn_seq (QwR (qq hS (Qmi rfl) ?_))
   refine qq hS (qa (o' := 0) underlying70 rfl sizeOf57 rfl rfl rfl) ?_
   refine qq hS (qc 1 isAgg57 rfl rfl rfl) ?_
   refine qq hS (qo rfl underlying57 hx.w rfl) ?_
   refine qq hS (g_lss rfl rfl) ?_
   refine QoN ?_
   refine qh rfl ?_ ?_
   ·
    intro hc37
    try simp only [zA, zO, zN, zI, zF, zM, zT, zU] at hc37
    obtain ⟨u, hui⟩ : ∃ u, x.words[k]? = some u := ⟨_, List.getElem?_eq_getElem (by omega)⟩
    obtain ⟨v, hvi⟩ : ∃ v, y.words[k]? = some v := ⟨_, List.getElem?_eq_getElem (by omega)⟩
    have huA := hx.w.at hui
    have hvA := hy.w.at hvi
    refine wpIn_skip (thenN (wpIn_seq (wpIn_block (wpIn_seq ?_))))
    refine draw (.cons 0 .pure (.cons 1 .held (.cons 2 .pure (.cons 3 .pure (.cons 4 .held (.cons 5 .pure (.cons 6 .held (.cons 7 .pure (.cons 8 .pure (.cons 9 .held (.cons 10 .pure .nil))))))))))) mixed (by kernel_rfl) hS ?_
    intro w_3 hS
    refine sp rfl (qa (o' := 0) underlying70 rfl sizeOf57 rfl rfl rfl) ?_
    refine sh rfl (qc 1 isAgg57 rfl rfl rfl) ?_
    refine sp rfl (Qmi rfl) ?_
    refine sp rfl (g_ixI underlying57 sizeOf58 hx.w rfl rfl (by omega) (by omega)) ?_
    refine sh rfl (qr isAgg58 huA rfl rfl) ?_
    refine sp rfl (qa (o' := 0) underlying70 rfl sizeOf57 rfl rfl rfl) ?_
    refine sh rfl (qc 0 isAgg57 rfl rfl rfl) ?_
    refine sp rfl (Qmi rfl) ?_
    refine sp rfl (g_ixI underlying57 sizeOf58 hy.w rfl rfl (by omega) (by omega)) ?_
    refine sh rfl (qr isAgg58 hvA rfl rfl) ?_
    refine sp rfl (g_neq rfl rfl) ?_
    refine sn (thenN ?_)
    refine qh rfl ?_ ?_
    ·
     intro hc50
     simp only [Bool.not_eq_true', decide_eq_false_iff_not, Bool.not_eq_false', decide_eq_true_eq] at hc50
     have hq : liftEq x y = false := zC (.inl (yR hui hvi hc50))
     refine QwR (qq hS (Qab rfl) (QoN (wpIn_ret ?_)))
     refine blkR (thenR (thenR (blkR (thenR ?_))))
     refine ret1 results102 (qd (v := .bool _) rfl) ?_
     exact ⟨by rw [hq], hS.nil⟩
    ·
     intro hc50
     simp only [Bool.not_eq_true', decide_eq_false_iff_not, Bool.not_eq_false', decide_eq_true_eq] at hc50
     have hst := zt hsame hui hvi hc50
     refine wpIn_skip (blkN (thenN (reg (qq hS (Qmi rfl) ?_))))
     refine qq hS (g_add rfl rfl (by omega) (by omega)) ?_
     refine qq hS (Qai rfl) ?_
     exact ⟨k + 1, _, rfl, ⟨⟨rfl, rfl, rfl, trivial⟩, hS.sel [true, true], by omega, hst⟩, by omega⟩
   ·
    intro hc37
    try simp only [zA, zO, zN, zI, zF, zM, zT, zU] at hc37
    have e0 : x.words = y.words := yS hw1 (fun i hi => hsame i (by omega))
    refine wpIn_exit ?_
    refine thenE (thenE (blkE ?_))
    refine thenN (wpIn_seq (QwR (qq hS (Qai rfl) (QoN (wpIn_block ?_)))))
    refine loop (fun (k : Nat) σ w => okS σ [(2, .pointer (some ⟨b2, 0, none⟩)), (3, .pointer (some ⟨b3, 0, none⟩)), (6, .int .i64 k)] ∧ St [] w0 I0 I0 w [.cel b3 70 [.slice a0y y.words.length c0y, .slice a1y y.marks.length c1y, .slice a2y y.labels.length c2y], .cel b2 70 [.slice a0 x.words.length c0, .slice a1 x.marks.length c1, .slice a2 x.labels.length c2]] ∧ k ≤ x.marks.length ∧ ∀ i, i < k → x.marks[i]? = y.marks[i]?) (fun k => x.marks.length - k) (0) ?_ ?_
    ·
     exact ⟨⟨rfl, rfl, rfl, trivial⟩, hS.sel [true, true], by omega, fun i hi => by omega⟩
    ·
     rintro k σ w_l ⟨hs, hS, hk, hsame⟩
     rw [← qj hs]; clear hs
     refine wpIn_seq (QwR (qq hS (Qmi rfl) ?_))
     refine qq hS (qa (o' := 1) underlying70 rfl sizeOf67 rfl rfl rfl) ?_
     refine qq hS (qc 1 isAgg67 rfl rfl rfl) ?_
     refine qq hS (qo rfl underlying67 hx.m rfl) ?_
     refine qq hS (g_lss rfl rfl) ?_
     refine QoN ?_
     refine qh rfl ?_ ?_
     ·
      intro hc55
      try simp only [zA, zO, zN, zI, zF, zM, zT, zU] at hc55
      obtain ⟨u, hui⟩ : ∃ u, x.marks[k]? = some u := ⟨_, List.getElem?_eq_getElem (by omega)⟩
      obtain ⟨v, hvi⟩ : ∃ v, y.marks[k]? = some v := ⟨_, List.getElem?_eq_getElem (by omega)⟩
      have huA := hx.m.at hui
      have hvA := hy.m.at hvi
      refine wpIn_skip (thenN (wpIn_seq (wpIn_block (wpIn_seq ?_))))
      refine draw (.cons 0 .pure (.cons 1 .held (.cons 2 .pure (.cons 3 .pure (.cons 4 .held (.cons 5 .pure (.cons 6 .held (.cons 7 .pure (.cons 8 .pure (.cons 9 .held (.cons 10 .pure .nil))))))))))) mixed (by kernel_rfl) hS ?_
      intro w_4 hS
      refine sp rfl (qa (o' := 1) underlying70 rfl sizeOf67 rfl rfl rfl) ?_
      refine sh rfl (qc 1 isAgg67 rfl rfl rfl) ?_
      refine sp rfl (Qmi rfl) ?_
      refine sp rfl (g_ixI underlying67 sizeOf4 hx.m rfl rfl (by omega) (by omega)) ?_
      refine sh rfl (qr isAgg4 huA rfl rfl) ?_
      refine sp rfl (qa (o' := 1) underlying70 rfl sizeOf67 rfl rfl rfl) ?_
      refine sh rfl (qc 0 isAgg67 rfl rfl rfl) ?_
      refine sp rfl (Qmi rfl) ?_
      refine sp rfl (g_ixI underlying67 sizeOf4 hy.m rfl rfl (by omega) (by omega)) ?_
      refine sh rfl (qr isAgg4 hvA rfl rfl) ?_
      refine sp rfl (vN underlying4 rfl rfl) ?_
      refine sn (thenN ?_)
      refine qh rfl ?_ ?_
      ·
       intro hc68
       have hq : liftEq x y = false := zC (.inr (.inl (yR hui hvi (fun h => by subst h; simp at hc68))))
       refine QwR (qq hS (Qab rfl) (QoN (wpIn_ret ?_)))
       refine blkR (thenR (thenR (blkR (thenR ?_))))
       refine ret1 results102 (qd (v := .bool _) rfl) ?_
       exact ⟨by rw [hq], hS.nil⟩
      ·
       intro hc68
       have hst := zt hsame hui hvi (by simpa using hc68)
       refine wpIn_skip (blkN (thenN (reg (qq hS (Qmi rfl) ?_))))
       refine qq hS (g_add rfl rfl (by omega) (by omega)) ?_
       refine qq hS (Qai rfl) ?_
       exact ⟨k + 1, _, rfl, ⟨⟨rfl, rfl, rfl, trivial⟩, hS.sel [true, true], by omega, hst⟩, by omega⟩
     ·
      intro hc55
      try simp only [zA, zO, zN, zI, zF, zM, zT, zU] at hc55
      have e1 : x.marks = y.marks := yS hw2 (fun i hi => hsame i (by omega))
      refine wpIn_exit ?_
      refine thenE (thenE (blkE ?_))
      refine thenN (wpIn_seq (QwR (qq hS (Qai rfl) (QoN (wpIn_block ?_)))))
      refine loop (fun (k : Nat) σ w => okS σ [(2, .pointer (some ⟨b2, 0, none⟩)), (3, .pointer (some ⟨b3, 0, none⟩)), (7, .int .i64 k)] ∧ St [] w0 I0 I0 w [.cel b3 70 [.slice a0y y.words.length c0y, .slice a1y y.marks.length c1y, .slice a2y y.labels.length c2y], .cel b2 70 [.slice a0 x.words.length c0, .slice a1 x.marks.length c1, .slice a2 x.labels.length c2]] ∧ k ≤ x.labels.length ∧ ∀ i, i < k → x.labels[i]? = y.labels[i]?) (fun k => x.labels.length - k) (0) ?_ ?_
      ·
       exact ⟨⟨rfl, rfl, rfl, trivial⟩, hS.sel [true, true], by omega, fun i hi => by omega⟩
      ·
       rintro k σ w_l ⟨hs, hS, hk, hsame⟩
       rw [← qj hs]; clear hs
       refine wpIn_seq (QwR (qq hS (Qmi rfl) ?_))
       refine qq hS (qa (o' := 2) underlying70 rfl sizeOf68 rfl rfl rfl) ?_
       refine qq hS (qc 1 isAgg68 rfl rfl rfl) ?_
       refine qq hS (qo rfl underlying68 hx.l rfl) ?_
       refine qq hS (g_lss rfl rfl) ?_
       refine QoN ?_
       refine qh rfl ?_ ?_
       ·
        intro hc73
        try simp only [zA, zO, zN, zI, zF, zM, zT, zU] at hc73
        obtain ⟨u, hui⟩ : ∃ u, x.labels[k]? = some u := ⟨_, List.getElem?_eq_getElem (by omega)⟩
        obtain ⟨v, hvi⟩ : ∃ v, y.labels[k]? = some v := ⟨_, List.getElem?_eq_getElem (by omega)⟩
        have huA := hx.l.at hui
        have hvA := hy.l.at hvi
        refine wpIn_skip (thenN (wpIn_seq (wpIn_block (wpIn_seq ?_))))
        refine draw (.cons 0 .pure (.cons 1 .held (.cons 2 .pure (.cons 3 .pure (.cons 4 .held (.cons 5 .pure (.cons 6 .held (.cons 7 .pure (.cons 8 .pure (.cons 9 .held (.cons 10 .pure .nil))))))))))) mixed (by kernel_rfl) hS ?_
        intro w_5 hS
        refine sp rfl (qa (o' := 2) underlying70 rfl sizeOf68 rfl rfl rfl) ?_
        refine sh rfl (qc 1 isAgg68 rfl rfl rfl) ?_
        refine sp rfl (Qmi rfl) ?_
        refine sp rfl (g_ixI underlying68 sizeOf3 hx.l rfl rfl (by omega) (by omega)) ?_
        refine sh rfl (qr isAgg3 huA rfl rfl) ?_
        refine sp rfl (qa (o' := 2) underlying70 rfl sizeOf68 rfl rfl rfl) ?_
        refine sh rfl (qc 0 isAgg68 rfl rfl rfl) ?_
        refine sp rfl (Qmi rfl) ?_
        refine sp rfl (g_ixI underlying68 sizeOf3 hy.l rfl rfl (by omega) (by omega)) ?_
        refine sh rfl (qr isAgg3 hvA rfl rfl) ?_
        refine sp rfl (g_neq rfl rfl) ?_
        refine sn (thenN ?_)
        refine qh rfl ?_ ?_
        ·
         intro hc86
         simp only [Bool.not_eq_true', decide_eq_false_iff_not, Bool.not_eq_false', decide_eq_true_eq] at hc86
         have hq : liftEq x y = false := zC (.inr (.inr (yR hui hvi hc86)))
         refine QwR (qq hS (Qab rfl) (QoN (wpIn_ret ?_)))
         refine blkR (thenR (thenR (blkR (thenR ?_))))
         refine ret1 results102 (qd (v := .bool _) rfl) ?_
         exact ⟨by rw [hq], hS.nil⟩
        ·
         intro hc86
         simp only [Bool.not_eq_true', decide_eq_false_iff_not, Bool.not_eq_false', decide_eq_true_eq] at hc86
         have hst := zt hsame hui hvi hc86
         refine wpIn_skip (blkN (thenN (reg (qq hS (Qmi rfl) ?_))))
         refine qq hS (g_add rfl rfl (by omega) (by omega)) ?_
         refine qq hS (Qai rfl) ?_
         exact ⟨k + 1, _, rfl, ⟨⟨rfl, rfl, rfl, trivial⟩, hS.sel [true, true], by omega, hst⟩, by omega⟩
       ·
        intro hc73
        try simp only [zA, zO, zN, zI, zF, zM, zT, zU] at hc73
        have e2 : x.labels = y.labels := yS hw3 (fun i hi => hsame i (by omega))
        have hq := liftEq_yes e0 e1 e2
        refine wpIn_exit ?_
        refine thenE (thenE (blkE ?_))
        refine thenN (QwR (qq hS (Qab rfl) (QoN (wpIn_ret ?_))))
        refine ret1 results102 (qd (v := .bool _) rfl) ?_
        exact ⟨by rw [hq], hS.nil⟩
end Go.Proofs.YtaklmbhfmpdinaaGreat
namespace Go.Proofs.YtaklmbhfmpdinaaGreat
open Tryz
open Go Go.RowKit Go.Inl
theorem liftR_e (ad : Option Addr) (cap : Nat) (ws : List Int) (w0 : World) (I0 : Imm) (hI : Sat I0 w0) (hl : RBytes I0 (.slice ad (bytesP ws).length cap) (bytesP ws)) (hw : Wrds ws) (hn1 : ws.length ≤ 16384) :
 Ctr prog 23 [.slice ad (bytesP ws).length cap] w0 (fun v w' => ∃ I' a0 c0 a1 c1 a2 c2, v = .tuple #[.agg #[.slice a0 (liftP ws).words.length c0, .slice a1 (liftP ws).marks.length c1, .slice a2 (liftP ws).labels.length c2], .int .i64 0] ∧ Ext w0 I0 w' I' ∧ RLf I' a0 c0 a1 c1 a2 c2 (liftP ws)) := by
 refine (liftR_c ad cap ws.length (bytesP ws) w0 I0 hI hl (jI ws) (qv ws) hn1).mono ?_
 rintro v w' ⟨I', a0, c0, a1, c1, a2, c2, hv, hE, h1, h2, h3⟩
 rw [kR hw] at hv h1 h2 h3
 have e1 : (liftP ws).words.length = ws.length := ji _ _ _
 have e2 : (liftP ws).marks.length = ws.length := jj _ _
 have e3 : (liftP ws).labels.length = (labelsP ws).length := rfl
 refine ⟨I', a0, c0, a1, c1, a2, c2, ?_, hE, ?_, ?_, ?_⟩
 · rw [e1, e2, e3]; exact hv
 · rw [e1]; exact h1
 · rw [e2]; exact h2
 · rw [e3]; exact h3
theorem lowR_lift {x : LiftL} (h : (lowR x).2 = 0) : liftP (lowW x) = x := by
 unfold lowR at h
 cases e : lowerP x with
 | none => rw [e] at h; cases h
 | some B =>
   unfold lowerP at e
   split at e
   · cases e
   · split at e
     · cases e
     · split at e
       · rename_i h3; exact yb.1 h3
       · cases e
theorem labelsP_b {ws : List Int} {n : Int} (h : n ∈ labelsP ws) : 0 ≤ n := by
 rw [← labU_all] at h
 exact (labU_b n h).1
def Rise (l : List Int) : Prop := ∀ k, k < l.length → 0 ≤ l.getD k 0 - lastL l k
theorem kH (ws : List Int) : Rise (liftP ws).labels := fun k hk => (sorted_last (kr ws) (fun n hn => labelsP_b hn) hk).1
theorem rise_low {x : LiftL} (h : (lowR x).2 = 0) : Rise x.labels := by rw [← lowR_lift h]; exact kH _
theorem chunk_at {m : List Bool} {k j : Nat} (hj : 8 * k + j < m.length) (h8 : j < 8) : (chunk m k).getD j false = m.getD (8 * k + j) false := by
 have h := chunk_getD hj
 rwa [show (8 * k + j) / 8 = k by omega, show (8 * k + j) % 8 = j by omega] at h
set_option maxHeartbeats 1000000 in
theorem unnumR_c (x : LiftL) (i : Nat) (wd : Int) (ad : Option Addr) (cap : Nat) (w0 : World) (I0 : Imm) (hI : Sat I0 w0) (hl : RFl I0 1 intC (.slice ad x.labels.length cap) x.labels) (hlb : Labs x.labels) (hw0 : 0 ≤ wd) (hw1 : wd < 4294967296) (hi : i ≤ 65536) :
 Ctr prog 101 [.int .u32 wd, .int .i64 (4 * (i : Int)), .slice ad x.labels.length cap] w0 (fun v w' => v = .tuple #[.int .u32 ((unnum x i wd).getD 0), .bool (unnum x i wd).isSome] ∧ Ext w0 I0 w' I0) := by
 have hle := RSl.le hl
 simp only [maxLen] at hle
 have hib := idxOf_b wd
 have hop : 0 ≤ opOf wd ∧ opOf wd ≤ 255 := by unfold opOf; omega
 refine fn (n := 61) func101 rfl rfl rfl ?_
 have hS := St.start hI
 refine QwR (qq hS (Qaw rfl) (qq hS (Qab rfl) (QoR (qq hS (Qmw rfl) ?_))))
 refine qq hS (jo (s := 24) (c := opOf wd) rfl rfl rfl rfl rfl) ?_
 refine qq hS (qD underlying58 underlying3 rfl (by omega) (by omega)) ?_
 refine qq hS (Qmw rfl) ?_
 refine qq hS (jo (s := 16) (c := wd / 65536) rfl rfl rfl rfl rfl) ?_
 refine qq hS (qQ (m := 8) (c := wd / 65536 % 256) rfl rfl rfl rfl (by rw [IntKind.wrap_u32]; omega)) ?_
 refine qq hS (qD underlying58 underlying3 rfl (by omega) (by omega)) ?_
 refine qq hS (Qmw rfl) ?_
 refine qq hS (qQ (m := 24) (c := wd % 16777216) rfl rfl rfl rfl (by rw [IntKind.wrap_u32]; omega)) ?_
 refine qq hS (qD underlying58 underlying3 rfl (by omega) (by omega)) ?_
 refine qq hS (Qai rfl) (qq hS (Qai rfl) (qq hS (Qai rfl) (QoN (wpIn_seq (QwR ?_)))))
 refine qq hS (Qmi rfl) ?_
 refine qq hS (g_lss rfl rfl) ?_
 refine qq hS (Qmb rfl) ?_
 refine qu rfl rfl hS (fun hg => (Qmi rfl)) ?_
 intro u27 hu27 hn27
 refine qu rfl rfl hS (fun hg => (g_gtr (hu27 hg) rfl)) ?_
 intro u28 hu28 hn28
 refine qq hS (g_or rfl rfl (fun hq => hu28 hq)) ?_
 refine QoN ?_
 refine qh rfl ?_ ?_
 ·
  intro hc29
  clear hu27 hn27 hu28 hn28
  try simp only [zA, zO, zN, zI, zF, zM, zT, zU] at hc29
  have hu : unnum x i wd = none := yB (vT (by omega))
  refine QwR (qq hS (Qaw rfl) (qq hS (Qab rfl) (QoN (wpIn_ret ?_))))
  refine thenR ?_
  refine ret2 results101 (qd (v := .int .u32 _) rfl) (qd (v := .bool _) rfl) ?_
  exact ⟨by rw [hu] <;> rfl, hS.nil⟩
 ·
  intro hc29
  clear hu27 hn27 hu28 hn28
  try simp only [zA, zO, zN, zI, zF, zM, zT, zU] at hc29
  refine wpIn_skip (thenN (QwR (qq hS (Qmi rfl) ?_)))
  refine qq hS (qm (pl := [(0, 1), (1, 1), (2, 1), (3, 1), (4, 1)]) (cs := [.int .i64 _, .int .i64 _, .int .i64 _, .int .i64 _, .int .i64 _]) zeroValue63 underlying63 (fun w => by simp [sizeOf3]) (mp (v := .int .i64 _) rfl mp0) rfl) ?_
  refine qe (qk (cs := [.int .i64 _, .int .i64 _, .int .i64 _, .int .i64 _, .int .i64 _]) hS zeroValue63 rfl) ?_
  clear hS
  rintro _ w_1 ⟨b11, rfl, hS⟩
  refine qe (qg 0 hS sizeOf63 rfl rfl rfl (vs := [.int .i64 _, .int .i64 _, .int .i64 _, .int .i64 _, .int .i64 _]) rfl rfl rfl (Nat.le_of_ble_eq_true rfl) (cs' := [_, _, _, _, _]) rfl) ?_
  clear hS
  rintro _ w_2 ⟨rfl, hS⟩
  refine QoN ?_
  refine meet (fun σ w => ∃ A J : Int, okS σ [(0, .int .u32 wd), (1, .int .i64 (4 * (i : Int))), (2, .slice ad x.labels.length cap), (10, .int .i64 J), (11, .pointer (some ⟨b11, 0, none⟩))] ∧ St [] w0 I0 I0 w [.cel b11 63 [.int .i64 (opOf wd), .int .i64 A, .int .i64 0, .int .i64 0, .int .i64 0]] ∧ A = (if 7 ≤ opOf wd then wd / 65536 % 256 else 0) ∧ J = idxOf wd) ?_ ?_
  ·
   refine QwR (qq hS (Qmi rfl) ?_)
   refine qq hS (g_eql rfl rfl) ?_
   refine qq hS (Qmb rfl) ?_
   refine qu rfl rfl hS (fun hg => (Qmi rfl)) ?_
   intro u35 hu35 hn35
   refine qu rfl rfl hS (fun hg => (g_eql (hu35 hg) rfl)) ?_
   intro u36 hu36 hn36
   refine qq hS (g_or rfl rfl (fun hq => hu36 hq)) ?_
   refine QoN ?_
   refine qh rfl ?_ ?_
   ·
    intro hc37
    clear hu35 hn35 hu36 hn36
    try simp only [zA, zO, zN, zI, zF, zM, zT, zU] at hc37
    have hA : wd / 65536 % 256 = (if 7 ≤ opOf wd then wd / 65536 % 256 else 0) := by rw [if_pos (by omega)]
    have hJ : wd % 65536 = idxOf wd := by unfold idxOf fieldM; rw [if_neg (by omega)]; omega
    refine QwR (qq hS (Qmi rfl) ?_)
    refine qq hS (qa (o' := 1) underlying63 rfl sizeOf3 rfl rfl rfl) ?_
    refine qe (qg 0 hS sizeOf3 rfl rfl rfl (vs := [.int .i64 _]) rfl rfl rfl (Nat.le_of_ble_eq_true rfl) (cs' := [_, _, _, _, _]) rfl) ?_
    clear hS
    rintro _ w_3 ⟨rfl, hS⟩
    refine QoN (reg (qq hS (Qmw rfl) ?_))
    refine qq hS (qQ (m := 16) (c := wd % 65536) rfl rfl rfl rfl (by rw [IntKind.wrap_u32]; omega)) ?_
    refine qq hS (qD underlying58 underlying3 rfl (by omega) (by omega)) ?_
    refine qq hS (Qai rfl) (QoN ?_)
    exact ⟨_, rfl, _, _, ⟨rfl, rfl, rfl, rfl, rfl, trivial⟩, hS.sel [true], hA, hJ⟩
   ·
    intro hc37
    clear hu35 hn35 hu36 hn36
    try simp only [zA, zO, zN, zI, zF, zM, zT, zU] at hc37
    have hA : (0 : Int) = (if 7 ≤ opOf wd then wd / 65536 % 256 else 0) := by rw [if_neg (by omega)]
    have hJ : wd % 16777216 = idxOf wd := by unfold idxOf fieldM; rw [if_pos (by omega)]; omega
    refine wpIn_skip (thenN ?_)
    exact ⟨_, rfl, _, _, ⟨rfl, rfl, rfl, rfl, rfl, trivial⟩, hS.sel [true], hA, hJ⟩
  ·
   rintro σ w_j ⟨A, J, hs, hS, rfl, rfl⟩
   rw [← qj hs]
   refine wpIn_seq (QwR (qq hS (Qmi rfl) (qq hS (qb _) ?_)))
   refine qq hS (qo rfl underlying68 hl rfl) ?_
   refine qq hS (g_geq rfl rfl) ?_
   refine QoN ?_
   refine qh rfl ?_ ?_
   ·
    intro hc46
    try simp only [zA, zO, zN, zI, zF, zM, zT, zU] at hc46
    have hu : unnum x i wd = none := yB (vT (by omega))
    refine QwR (qq hS (Qaw rfl) (qq hS (Qab rfl) (QoN (wpIn_ret ?_))))
    refine thenR ?_
    refine ret2 results101 (qd (v := .int .u32 _) rfl) (qd (v := .bool _) rfl) ?_
    exact ⟨by rw [hu] <;> rfl, hS.nil⟩
   ·
    intro hc46
    try simp only [zA, zO, zN, zI, zF, zM, zT, zU] at hc46
    have hbn : badN x wd = false := badN_f (by omega) (by omega) (by omega)
    obtain ⟨nn, hni⟩ : ∃ n, x.labels[(idxOf wd).toNat]? = some n := ⟨_, List.getElem?_eq_getElem (by omega)⟩
    have hlA := hl.at hni
    have hnm := hlb nn (List.mem_of_getElem? hni)
    have hin : instOf x wd = ⟨opOf wd, (if 7 ≤ opOf wd then wd / 65536 % 256 else 0), 0, 0, nn⟩ := by unfold instOf; rw [List.getD_eq_getElem?_getD, hni]; rfl
    refine wpIn_skip (thenN (QwR (qq hS (qb _) (qq hS (Qmi rfl) ?_))))
    refine qq hS (g_ixI underlying68 sizeOf3 hl rfl rfl (by omega) (by omega)) ?_
    refine qq hS (qr isAgg3 hlA rfl rfl) ?_
    refine qq hS (qa (o' := 4) underlying63 rfl sizeOf3 rfl rfl rfl) ?_
    refine qe (qg 0 hS sizeOf3 rfl rfl rfl (vs := [.int .i64 _]) rfl rfl rfl (Nat.le_of_ble_eq_true rfl) (cs' := [_, _, _, _, _]) rfl) ?_
    clear hS
    rintro _ w_4 ⟨rfl, hS⟩
    refine QoN (wpIn_seq ?_)
    have hLk : Lnkd (instOf x wd) := by rw [hin]; exact ⟨⟨by dsimp only; omega, by dsimp only; omega⟩, ⟨by dsimp only; split <;> omega, by dsimp only; split <;> omega⟩, rfl, rfl, fun h => by dsimp only at h ⊢; rw [if_neg (by omega)]⟩
    have hXn : -1099511627776 ≤ (instOf x wd).n ∧ (instOf x wd).n ≤ 1099511627776 := by rw [hin]; exact hnm
    have hes : Inl.encI (instOf x wd) (4 * (i : Int)) = none ∨ ∃ wv, Inl.encI (instOf x wd) (4 * (i : Int)) = some wv := by cases Inl.encI (instOf x wd) (4 * (i : Int)); exact .inl rfl; exact .inr ⟨_, rfl⟩
    refine hes.elim (fun he2 => ?_) (fun he2 => ?_)
    ·
     have hu := (yY (i := i) hbn).trans he2
     refine reg ?_
     refine qq hS (g_ldO 0 (vs := [.int .i64 _, .int .i64 _, .int .i64 _, .int .i64 _, .int .i64 _]) sizeOf63 isAgg63 rfl rfl rfl rfl) ?_
     refine qq hS (Qmi rfl) ?_
     refine qe (qi call21 rfl (vR hin _ I0 hS.imm hLk hXn.1 hXn.2 (by omega) (by omega) he2)) ?_
     rintro _ w_5 ⟨rfl, hE⟩
     replace hS := hS.callE hE
     refine qq hS (qb _) ?_
     refine qq hS (ql (v := .int .u32 _) rfl rfl) ?_
     refine qq hS (Qxi rfl rfl) ?_
     refine qq hS (Qaw rfl) (qq hS (Qai rfl) (QoR (qq hS (Qmw rfl) (qq hS (Qmi rfl) ?_))))
     refine qq hS (g_toV (g_eql rfl rfl) (congrArg Value.bool (decide_eq_false (by decide)))) ?_
     refine qq hS (Qaw rfl) (qq hS (Qab rfl) (QoN (wpIn_ret ?_)))
     refine ret2 results101 (qd (v := .int .u32 _) rfl) (qd (v := .bool _) rfl) ?_
     exact ⟨by rw [hu] <;> rfl, hS.nil⟩
    ·
     obtain ⟨wv, he2⟩ := he2
     have hu := (yY (i := i) hbn).trans he2
     refine reg ?_
     refine qq hS (g_ldO 0 (vs := [.int .i64 _, .int .i64 _, .int .i64 _, .int .i64 _, .int .i64 _]) sizeOf63 isAgg63 rfl rfl rfl rfl) ?_
     refine qq hS (Qmi rfl) ?_
     refine qe (qi call21 rfl (vQ hin _ I0 hS.imm hLk hXn.1 hXn.2 (by omega) (by omega) he2)) ?_
     rintro _ w_6 ⟨rfl, hE⟩
     replace hS := hS.callE hE
     refine qq hS (qb _) ?_
     refine qq hS (ql (v := .int .u32 _) rfl rfl) ?_
     refine qq hS (Qxi rfl rfl) ?_
     refine qq hS (Qaw rfl) (qq hS (Qai rfl) (QoR (qq hS (Qmw rfl) (qq hS (Qmi rfl) ?_))))
     refine qq hS (g_toV (g_eql rfl rfl) (congrArg Value.bool (decide_eq_true rfl))) ?_
     refine qq hS (Qaw rfl) (qq hS (Qab rfl) (QoN (wpIn_ret ?_)))
     refine ret2 results101 (qd (v := .int .u32 _) rfl) (qd (v := .bool _) rfl) ?_
     exact ⟨by rw [hu] <;> rfl, hS.nil⟩
set_option maxHeartbeats 2000000 in
theorem lowRR_c (x : LiftL) (a0 a1 a2 : Option Addr) (c0 c1 c2 : Nat) (B : List Int) (e : Int) (w0 : World) (I0 : Imm) (hI : Sat I0 w0) (hx : RLf I0 a0 c0 a1 c1 a2 c2 x) (hw : Wrds x.words) (hlb : Labs x.labels) (he : lowR x = (B, e)) :
 Ctr prog 71 [.agg #[.slice a0 x.words.length c0, .slice a1 x.marks.length c1, .slice a2 x.labels.length c2]] w0 (fun v w' => ∃ I' a c, v = .tuple #[.slice a B.length c, .int .i64 e] ∧ Ext w0 I0 w' I' ∧ RBytes I' (.slice a B.length c) B) := by
 have hl0 := RSl.le hx.w
 have hl1 := RSl.le hx.m
 have hl2 := RSl.le hx.l
 simp only [maxLen] at hl0 hl1 hl2
 refine fn (n := 71) func71 rfl rfl rfl ?_
 have hS := St.start hI
 refine QwR ?_
 refine qe (d_box (cs := [.slice _ _ _, .slice _ _ _, .slice _ _ _]) hS rfl) ?_
 clear hS
 rintro _ w_1 ⟨b1, rfl, hS⟩
 refine qq hS (qf _) (qq hS (Qai rfl) (QoN (wpIn_seq (QwR ?_))))
 refine qq hS (qa (o' := 0) underlying70 rfl sizeOf57 rfl rfl rfl) ?_
 refine qq hS (qc 0 isAgg57 rfl rfl rfl) ?_
 refine qq hS (qo rfl underlying57 hx.w rfl) ?_
 refine qq hS (g_gtr rfl rfl) ?_
 refine qq hS (Qmb rfl) ?_
 refine qu rfl rfl hS (fun hg => (qa (o' := 1) underlying70 rfl sizeOf67 rfl rfl rfl)) ?_
 intro u17 hu17 hn17
 refine qu rfl rfl hS (fun hg => (qc 0 isAgg67 rfl (hu17 hg) rfl)) ?_
 intro u18 hu18 hn18
 refine qu rfl rfl hS (fun hg => (qo rfl underlying67 hx.m (hu18 hg))) ?_
 intro u19 hu19 hn19
 refine qu rfl rfl hS (fun hg => (qa (o' := 0) underlying70 rfl sizeOf57 rfl rfl rfl)) ?_
 intro u20 hu20 hn20
 refine qu rfl rfl hS (fun hg => (qc 0 isAgg57 rfl (hu20 hg) rfl)) ?_
 intro u21 hu21 hn21
 refine qu rfl rfl hS (fun hg => (qo rfl underlying57 hx.w (hu21 hg))) ?_
 intro u22 hu22 hn22
 refine qu rfl rfl hS (fun hg => (g_neq (hu19 hg) (hu22 hg))) ?_
 intro u23 hu23 hn23
 refine qq hS (g_or rfl rfl (fun hq => hu23 hq)) ?_
 refine QoN ?_
 refine qh rfl ?_ ?_
 ·
  intro hc24
  clear hu17 hn17 hu18 hn18 hu19 hn19 hu20 hn20 hu21 hn21 hu22 hn22 hu23 hn23
  try simp only [zA, zO, zN, zI, zF, zM, zT, zU] at hc24
  have hb : 16384 < x.words.length ∨ x.marks.length ≠ x.words.length := by omega
  rw [lower_none1 hb] at he
  obtain ⟨rfl, rfl⟩ := Prod.mk.inj he
  refine QwR (qq hS (qf _) (qq hS (Qai rfl) (QoN (wpIn_ret ?_))))
  refine thenR ?_
  refine ret2 results71 (qd rfl) (qd (v := .int .i64 _) rfl) ?_
  first | exact ⟨_, none, 0, rfl, hS.nil, RFl.nil⟩ | exact ⟨_, a60, c60, rfl, hS.nil, h60⟩
 ·
  intro hc24
  clear hu17 hn17 hu18 hn18 hu19 hn19 hu20 hn20 hu21 hn21 hu22 hn22 hu23 hn23
  try simp only [zA, zO, zN, zI, zF, zM, zT, zU] at hc24
  have hb : ¬ (16384 < x.words.length ∨ x.marks.length ≠ x.words.length) := by omega
  have hml : x.marks.length = x.words.length := by omega
  have hwn : x.words.length ≤ 16384 := by omega
  refine wpIn_skip (thenN (QwR ?_))
  refine qe (qI hS underlying57 sizeOf58) ?_
  clear hS
  rintro _ w_2 ⟨hS, b25_, rfl⟩
  refine qq hS (qf _) (QoN (wpIn_seq (QwR (qq hS (Qai rfl) (QoN ?_)))))
  refine wpIn_block ?_
  refine loop (fun (x1 : BtW) σ w => okS σ [(1, .pointer (some ⟨b1, 0, none⟩)), (4, .slice x1.a x1.k x1.c), (5, .int .i64 x1.k)] ∧ St [] w0 I0 I0 w [.row (.slice x1.a x1.k x1.c) 58 1 x1.k (flat u32C ((lowW x).take x1.k)), .cel b1 70 [.slice a0 x.words.length c0, .slice a1 x.marks.length c1, .slice a2 x.labels.length c2]] ∧ x1.k ≤ x.words.length ∧ ∀ i, i < x1.k → (unnumP x i).isSome = true) (fun x1 => x.words.length - x1.k) (⟨0, some ⟨b25_, 0, none⟩, 0⟩) ?_ ?_
  ·
   exact ⟨⟨rfl, rfl, rfl, trivial⟩, hS.sel [true, true], by dsimp only; omega, fun i hi => by dsimp only at hi; omega⟩
  ·
   rintro ⟨k, a, c⟩ σ w_l ⟨hs, hS, hkx, hgood⟩
   dsimp only at hs hS hkx hgood ⊢
   rw [← qj hs]; clear hs
   refine wpIn_seq (QwR (qq hS (Qmi rfl) ?_))
   refine qq hS (qa (o' := 0) underlying70 rfl sizeOf57 rfl rfl rfl) ?_
   refine qq hS (qc 1 isAgg57 rfl rfl rfl) ?_
   refine qq hS (qo rfl underlying57 hx.w rfl) ?_
   refine qq hS (g_lss rfl rfl) ?_
   refine QoN ?_
   refine qh rfl ?_ ?_
   ·
    intro hc30
    try simp only [zA, zO, zN, zI, zF, zM, zT, zU] at hc30
    obtain ⟨m, hmi⟩ : ∃ m, x.marks[k]? = some m := ⟨_, List.getElem?_eq_getElem (by omega)⟩
    obtain ⟨y, hyi⟩ : ∃ y, x.words[k]? = some y := ⟨_, List.getElem?_eq_getElem (by omega)⟩
    have hkw : k < x.words.length := by omega
    have hmg := yu (d := false) hmi
    have hyg := jn (d := 0) hyi
    have hyb := hw y (List.mem_of_getElem? hyi)
    have hwA := hx.w.at hyi
    have hmA := hx.m.at hmi
    refine wpIn_skip (thenN (wpIn_seq (wpIn_block (QwR ?_))))
    refine qq hS (qa (o' := 0) underlying70 rfl sizeOf57 rfl rfl rfl) ?_
    refine qq hS (qc 1 isAgg57 rfl rfl rfl) ?_
    refine qq hS (Qmi rfl) ?_
    refine qq hS (g_ixI underlying57 sizeOf58 hx.w rfl rfl (by omega) (by omega)) ?_
    refine qq hS (qr isAgg58 hwA rfl rfl) ?_
    refine qq hS (Qaw rfl) (QoN ?_)
    refine meet (fun σ w => okS σ [(1, .pointer (some ⟨b1, 0, none⟩)), (4, .slice a k c), (5, .int .i64 k), (6, .int .u32 ((unnumP x k).getD 0))] ∧ St [] w0 I0 I0 w [.row (.slice a k c) 58 1 k (flat u32C ((lowW x).take k)), .cel b1 70 [.slice a0 x.words.length c0, .slice a1 x.marks.length c1, .slice a2 x.labels.length c2]] ∧ (unnumP x k).isSome = true) ?_ ?_
    ·
     refine QwR ?_
     refine qq hS (qa (o' := 1) underlying70 rfl sizeOf67 rfl rfl rfl) ?_
     refine qq hS (qc 1 isAgg67 rfl rfl rfl) ?_
     refine qq hS (Qmi rfl) ?_
     refine qq hS (g_ixI underlying67 sizeOf4 hx.m rfl rfl (by omega) (by omega)) ?_
     refine qq hS (qr isAgg4 hmA rfl rfl) ?_
     refine QoN ?_
     refine qh rfl ?_ ?_
     ·
      intro hc42
      have hum : unnumP x k = unnum x k y := by rw [← hyg]; exact unnumP_m (by rw [hmg]; exact hc42)
      refine QwR (qq hS (Qmw rfl) (qq hS (Qmi rfl) ?_))
      refine qq hS (g_mul rfl rfl (by omega) (by omega)) ?_
      refine qq hS (qa (o' := 2) underlying70 rfl sizeOf68 rfl rfl rfl) ?_
      refine qq hS (qc 1 isAgg68 rfl rfl rfl) ?_
      refine qe (qi call101 rfl (unnumR_c x k y a2 c2 _ I0 hS.imm hx.l hlb hyb.1 hyb.2 (by omega))) ?_
      rintro _ w_3 ⟨rfl, hE⟩
      replace hS := hS.callE hE
      refine qq hS (qb _) ?_
      refine qq hS (ql (v := .int .u32 _) rfl rfl) ?_
      refine qq hS (ql (v := .bool _) rfl rfl) ?_
      refine qq hS (Qaw rfl) (qq hS (Qab rfl) (QoN (wpIn_seq (QwR (qq hS (Qmb rfl) ?_)))))
      refine qq hS (g_not rfl) ?_
      refine QoN ?_
      refine qh rfl ?_ ?_
      ·
       intro hc53
       have hun : unnum x k y = none := by
        cases h : unnum x k y with
        | none => rfl
        | some z => rw [h] at hc53; cases hc53
       have hlow := yr hkw (hum.trans hun)
       rw [kw hb hlow] at he
       obtain ⟨rfl, rfl⟩ := Prod.mk.inj he
       refine QwR (qq hS (qf _) (qq hS (Qai rfl) (QoN (wpIn_ret ?_))))
       refine thenR (thenR (blkR (thenR (thenR (blkR (thenR ?_))))))
       refine ret2 results71 (qd rfl) (qd (v := .int .i64 _) rfl) ?_
       first | exact ⟨_, none, 0, rfl, hS.nil, RFl.nil⟩ | exact ⟨_, a60, c60, rfl, hS.nil, h60⟩
      ·
       intro hc53
       have hsm : (unnumP x k).isSome = true := by rw [hum]; simpa using hc53
       have hval : (unnum x k y).getD 0 = (unnumP x k).getD 0 := by rw [hum]
       refine wpIn_skip (thenN (reg (qq hS (Qmw rfl) (qq hS (Qaw rfl) (QoN ?_)))))
       exact ⟨_, rfl, ⟨rfl, rfl, rfl, congrArg (Value.int .u32) hval, trivial⟩, hS.sel [true, true], hsm⟩
     ·
      intro hc42
      have hum : unnumP x k = some y := by rw [← hyg]; exact unnumP_u (by rw [hmg]; exact hc42)
      have hsm : (unnumP x k).isSome = true := by rw [hum]; rfl
      have hval : y = (unnumP x k).getD 0 := by rw [hum]; rfl
      refine wpIn_skip (thenN ?_)
      exact ⟨_, rfl, ⟨rfl, rfl, rfl, congrArg (Value.int .u32) hval, trivial⟩, hS.sel [true, true], hsm⟩
    ·
     rintro σ w_j ⟨hs, hS, hsm⟩
     rw [← qj hs]
     refine reg (qq hS (qb _) (qq hS (Qmw rfl) ?_))
     refine qe (d_lit (vs := [.int .u32 _]) (cs := [.int .u32 _]) hS underlying57 sizeOf58 zeroValue58 rfl rfl rfl rfl (fun v hv => by simp only [List.mem_cons, List.not_mem_nil, or_false] at hv; subst hv; rfl) rfl) ?_
     clear hS
     rintro _ w_4 ⟨b57, rfl, hS⟩
     refine qe (qt 1 0 hS rfl underlying57 info58 rfl rfl rfl rfl rfl rfl rfl rfl (by omega) (by omega)) ?_
     clear hS
     rintro _ w_5 ⟨a58, p58, rfl, hS⟩
     refine qq hS (qf _) ?_
     refine qx (blkN (thenN ?_))
     refine reg (qq hS (Qmi rfl) ?_)
     refine qq hS (g_add rfl rfl (by omega) (by omega)) ?_
     refine qq hS (Qai rfl) ?_
     refine ⟨⟨k + 1, a58, p58⟩, _, rfl, ⟨⟨rfl, rfl, rfl, trivial⟩, ?_, by dsimp only; omega, fun i hi => (Nat.lt_succ_iff_lt_or_eq.1 hi).elim (hgood i) (fun h => by subst h; exact hsm)⟩, by dsimp only; omega⟩
     dsimp only
     rw [qL (lowW_at hkw), qp, qA]
     exact hS.sel [false, true, true]
   ·
    intro hc30
    try simp only [zA, zO, zN, zI, zF, zM, zT, zU] at hc30
    have hk : k = x.words.length := by omega
    subst hk
    refine wpIn_exit ?_
    refine thenE (thenE (blkE ?_))
    refine thenN (wpIn_seq ?_)
    have hlow : lowBad x = false := lowBad_f hgood
    have hww := lowW_wrds hw
    rw [show (lowW x).take x.words.length = lowW x from List.take_of_length_le (by rw [jh]; exact Nat.le_refl _)] at hS
    have hF := St.freezeRow (u := .slice a x.words.length c) (m := x.words.length) (xs := lowW x) qN (by exact hS.ord [0, 1]) ((jh x).symm)
    clear hS
    obtain ⟨I_hws, hS, hI_hws, hws⟩ := hF
    replace hx := hx.mono hI_hws
    refine reg (qq hS (qb _) ?_)
    refine qe (qi call22 rfl (bytes2_E a c x.words.length (lowW x) _ _ hS.imm hws hww (jh x).symm (by omega))) ?_
    rintro _ w_6 ⟨I_f, a60, c60, rfl, hE, h60⟩
    replace hS := hS.callE hE
    replace hx := hx.mono hE.ext
    replace hws := hws.mono hE.ext
    refine qq hS (qf _) (QoR (qq hS (qb _) ?_))
    refine qe (qi call23 rfl (liftR_e a60 c60 (lowW x) _ _ hS.imm h60 hww (by rw [jh]; omega))) ?_
    rintro _ w_7 ⟨I_f, a0y, c0y, a1y, c1y, a2y, c2y, rfl, hE, h63⟩
    replace hS := hS.callE hE
    replace hx := hx.mono hE.ext
    replace hws := hws.mono hE.ext
    replace h60 := h60.mono hE.ext
    refine qq hS (qb _) ?_
    refine qq hS (ql rfl rfl) ?_
    refine qq hS (Qxi rfl rfl) ?_
    refine qe (qk (cs := [.slice _ _ _, .slice _ _ _, .slice _ _ _]) hS zeroValue70 rfl) ?_
    clear hS
    rintro _ w_8 ⟨b10, rfl, hS⟩
    refine qe (qg 0 hS sizeOf70 rfl rfl rfl (vs := [.slice _ _ _, .slice _ _ _, .slice _ _ _]) rfl rfl rfl (Nat.le_of_ble_eq_true rfl) (cs' := [_, _, _]) rfl) ?_
    clear hS
    rintro _ w_9 ⟨rfl, hS⟩
    refine qq hS (Qai rfl) (QoN (wpIn_seq (QwR ?_)))
    refine qq hS (g_ldO 0 (vs := [.slice _ _ _, .slice _ _ _, .slice _ _ _]) sizeOf70 isAgg70 rfl rfl rfl rfl) ?_
    refine qq hS (g_ldO 1 (vs := [.slice _ _ _, .slice _ _ _, .slice _ _ _]) sizeOf70 isAgg70 rfl rfl rfl rfl) ?_
    refine qe (qi call102 rfl (lfeqR_c (liftP (lowW x)) x _ _ _ _ _ _ _ _ _ _ _ _ _ _ hS.imm h63 hx)) ?_
    rintro _ w_10 ⟨rfl, hE⟩
    replace hS := hS.callE hE
    refine qq hS (g_not rfl) ?_
    refine QoN ?_
    refine qh rfl ?_ ?_
    ·
     intro hc69
     have heq : liftEq (liftP (lowW x)) x = false := by simpa using hc69
     rw [lower_none3 hb hlow heq] at he
     obtain ⟨rfl, rfl⟩ := Prod.mk.inj he
     refine QwR (qq hS (qf _) (qq hS (Qai rfl) (QoN (wpIn_ret ?_))))
     refine thenR ?_
     refine ret2 results71 (qd rfl) (qd (v := .int .i64 _) rfl) ?_
     first | exact ⟨_, none, 0, rfl, hS.nil, RFl.nil⟩ | exact ⟨_, a60, c60, rfl, hS.nil, h60⟩
    ·
     intro hc69
     have heq : liftEq (liftP (lowW x)) x = true := by simpa using hc69
     rw [lower_some hb hlow heq] at he
     obtain ⟨rfl, rfl⟩ := Prod.mk.inj he
     refine wpIn_skip (thenN (QwR (qq hS (qb _) (qq hS (qf _) (qq hS (Qai rfl) ?_)))))
     refine QoN (wpIn_ret ?_)
     refine ret2 results71 (qd rfl) (qd (v := .int .i64 _) rfl) ?_
     first | exact ⟨_, none, 0, rfl, hS.nil, RFl.nil⟩ | exact ⟨_, a60, c60, rfl, hS.nil, h60⟩
theorem vH (n : Int) (w0 : World) (I0 : Imm) (hI : Sat I0 w0) (h0 : 0 ≤ n) (h1 : n ≤ 4611686018427387904) :
 Ctr prog 51 [.int .i64 n] w0 (fun v w' => ∃ b, v = .slice (some ⟨b, 0, none⟩) 2 2 ∧ St [] w0 I0 I0 w' [.cel b 5 [.int .u8 (n / 256 % 256), .int .u8 (n % 256)]]) := by
 refine fn (n := 10) func51 rfl rfl rfl ?_
 have hS := St.start hI
 refine QwR (qq hS (qf _) (QoR (qq hS (Qmi rfl) ?_)))
 refine qq hS (g_quo rfl rfl (by omega) (by omega) (by omega)) ?_
 refine qq hS (qz (c := n / 256 % 256) underlying3 underlying5 rfl (IntKind.wrap_u8 _)) ?_
 refine qq hS (Qmi rfl) ?_
 refine qq hS (g_rem rfl rfl (by omega) (by omega)) ?_
 refine qq hS (qz (c := n % 256) underlying3 underlying5 rfl (by rw [IntKind.wrap_u8]; omega)) ?_
 refine qe (d_lit (vs := [.int .u8 _, .int .u8 _]) (cs := [.int .u8 _, .int .u8 _]) hS underlying25 sizeOf5 zeroValue5 rfl rfl rfl rfl (fun v hv => by simp only [List.mem_cons, List.not_mem_nil, or_false] at hv; rcases hv with rfl | rfl <;> rfl) rfl) ?_
 clear hS
 rintro _ w_1 ⟨b9, rfl, hS⟩
 refine qq hS (qf _) (QoN (wpIn_ret ?_))
 refine ret1 results51 (qd rfl) ?_
 exact ⟨b9, rfl, hS⟩
theorem twoR_r (n : Int) (w0 : World) (I0 : Imm) (hI : Sat I0 w0) (h0 : 0 ≤ n) (h1 : n ≤ 4611686018427387904) :
 Ctr prog 51 [.int .i64 n] w0 (fun v w' => ∃ a c, v = .slice a 2 c ∧ St [] w0 I0 I0 w' [.row (.slice a 2 c) 5 1 2 (flat byteC (twoP n))]) :=
 (vH n w0 I0 hI h0 h1).mono fun v w' ⟨b, hv, hS⟩ => ⟨_, _, hv, hS.asRow (k := 0) (sz := 1) (m := 2) rfl rfl (by decide)⟩
set_option maxHeartbeats 2000000 in
theorem zk (x : LiftL) (a0 a1 a2 : Option Addr) (c0 c1 c2 : Nat) (w0 : World) (I0 : Imm) (hI : Sat I0 w0) (hx : RLf I0 a0 c0 a1 c1 a2 c2 x) (hw : Wrds x.words) (hlb : Labs x.labels) (hn0 : x.words.length ≤ 65536) (hn1 : x.marks.length = x.words.length) (hn2 : x.labels.length ≤ 65536) (hri : Rise x.labels) :
 Ctr prog 24 [.agg #[.slice a0 x.words.length c0, .slice a1 x.marks.length c1, .slice a2 x.labels.length c2]] w0 (fun v w' => ∃ I' a c, v = .slice a (formP x).length c ∧ Ext w0 I0 w' I' ∧ RBytes I' (.slice a (formP x).length c) (formP x)) := by
 refine fn (n := 82) func24 rfl rfl rfl ?_
 have hS := St.start hI
 refine QwR ?_
 refine qe (d_box (cs := [.slice _ _ _, .slice _ _ _, .slice _ _ _]) hS rfl) ?_
 clear hS
 rintro _ w_1 ⟨b1, rfl, hS⟩
 refine qq hS (qf _) (QoN ?_)
 refine meet (fun σ w => ∃ a c, okS σ [(1, .pointer (some ⟨b1, 0, none⟩)), (3, .slice a 4 c)] ∧ St [] w0 I0 I0 w [.row (.slice a (4) c) 5 1 (4) (flat byteC (headP x)), .cel b1 70 [.slice a0 x.words.length c0, .slice a1 x.marks.length c1, .slice a2 x.labels.length c2]]) ?_ ?_
 ·
  refine drawS [true] (.cons 0 .pure (.cons 1 .held (.cons 2 .pure (.cons 4 .pure (.cons 5 .held (.cons 6 .pure (.cons 3 .eff (.cons 7 .eff (.cons 8 .eff (.cons 9 .pure .nil)))))))))) mixed (by kernel_rfl) hS ?_
  intro w_2 hS
  refine sp rfl (qa (o' := 0) underlying70 rfl sizeOf57 rfl rfl rfl) ?_
  refine sh rfl (qc 0 isAgg57 rfl rfl rfl) ?_
  refine sp rfl (qo rfl underlying57 hx.w rfl) ?_
  refine sp rfl (qa (o' := 2) underlying70 rfl sizeOf68 rfl rfl rfl) ?_
  refine sh rfl (qc 0 isAgg68 rfl rfl rfl) ?_
  refine sp rfl (qo rfl underlying68 hx.l rfl) ?_
  have hS0 := hS
  refine se rfl (qi call51 rfl (twoR_r (x.words.length : Int) _ _ hS.imm (by omega) (by omega))) ?_
  rintro _ w_3 ⟨a12, c12, rfl, hE⟩
  replace hS := hS.call hE
  refine ⟨_, _, (hS0.sel [true]).le hE.ext (List.Sublist.refl _), hS.sel [false, true], ?_⟩
  have hS0 := hS
  refine se rfl (qi call51 rfl (vH (x.labels.length : Int) _ _ hS.imm (by omega) (by omega))) ?_
  rintro _ w_4 ⟨b16, rfl, hE⟩
  replace hS := hS.call hE
  refine ⟨_, _, (hS0.sel [false, true]).le hE.ext (List.Sublist.refl _), hS.sel [false, false, true], ?_⟩
  have hS0 := hS
  refine se rfl (qt 1 0 (m' := 2) hS rfl underlying25 info5 rfl rfl rfl rfl rfl rfl rfl rfl (by omega) (by omega)) ?_
  rintro _ w_5 ⟨a17, p17, rfl, hS⟩
  refine ⟨_, _, fun _ h => h, hS.sel [false, false, true], ?_⟩
  refine sp rfl (qf _) ?_
  refine sn (thenN ?_)
  exact ⟨_, rfl, a17, p17, ⟨rfl, rfl, trivial⟩, by have h := (hS.sel [false, true, true]); rw [headP, qp]; exact h⟩
 ·
  rintro σ w_j ⟨a, c, hs, hS⟩
  rw [← qj hs]
  refine QwR (qq hS (Qai rfl) (QoN (wpIn_seq (QwR (qq hS (Qai rfl) ?_)))))
  refine QoN (wpIn_block ?_)
  refine loop (fun (x1 : BtW) σ w => okS σ [(1, .pointer (some ⟨b1, 0, none⟩)), (3, .slice x1.a (4 + 2 * x1.k) x1.c), (4, .int .i64 (lastL x.labels x1.k)), (5, .int .i64 x1.k)] ∧ St [] w0 I0 I0 w [.row (.slice x1.a (4 + 2 * x1.k) x1.c) 5 1 (4 + 2 * x1.k) (flat byteC (headP x ++ formL x.labels x1.k)), .cel b1 70 [.slice a0 x.words.length c0, .slice a1 x.marks.length c1, .slice a2 x.labels.length c2]] ∧ x1.k ≤ x.labels.length) (fun x1 => x.labels.length - x1.k) (⟨0, a, c⟩) ?_ ?_
  ·
   refine ⟨⟨rfl, rfl, rfl, rfl, trivial⟩, ?_, by dsimp only; omega⟩
   dsimp only
   rw [show formL x.labels 0 = [] from rfl, List.append_nil]
   exact hS.sel [true, true]
  ·
   rintro ⟨k, a, c⟩ σ w_l ⟨hs, hS, hk⟩
   dsimp only at hs hS hk ⊢
   rw [← qj hs]; clear hs
   refine wpIn_seq (QwR (qq hS (Qmi rfl) ?_))
   refine qq hS (qa (o' := 2) underlying70 rfl sizeOf68 rfl rfl rfl) ?_
   refine qq hS (qc 1 isAgg68 rfl rfl rfl) ?_
   refine qq hS (qo rfl underlying68 hx.l rfl) ?_
   refine qq hS (g_lss rfl rfl) ?_
   refine QoN ?_
   refine qh rfl ?_ ?_
   ·
    intro hc22
    try simp only [zA, zO, zN, zI, zF, zM, zT, zU] at hc22
    obtain ⟨n, hni⟩ : ∃ n, x.labels[k]? = some n := ⟨_, List.getElem?_eq_getElem (by omega)⟩
    have hlA := hx.l.at hni
    have hnb := hlb n (List.mem_of_getElem? hni)
    have hlst := lastL_b hlb k
    have hrk := hri k (by omega)
    rw [jn hni] at hrk
    have hdl : dltP x.labels k = twoP ((n - lastL x.labels k) / 4) := by unfold dltP; rw [jn hni, Int.tdiv_eq_ediv_of_nonneg hrk]
    have hln : lastL x.labels (k + 1) = n := by rw [lastL_succ, jn hni]
    refine wpIn_skip (thenN (wpIn_seq (wpIn_block (QwR (qq hS (qb _) ?_)))))
    refine qq hS (qa (o' := 2) underlying70 rfl sizeOf68 rfl rfl rfl) ?_
    refine qq hS (qc 1 isAgg68 rfl rfl rfl) ?_
    refine qq hS (Qmi rfl) ?_
    refine qq hS (g_ixI underlying68 sizeOf3 hx.l rfl rfl (by omega) (by omega)) ?_
    refine qq hS (qr isAgg3 hlA rfl rfl) ?_
    refine qq hS (Qmi rfl) ?_
    refine qq hS (g_sub rfl rfl (by omega) (by omega)) ?_
    refine qq hS (g_quo rfl rfl (by omega) (by omega) (by omega)) ?_
    refine qe (qi call51 rfl (vH ((n - lastL x.labels k) / 4) _ _ hS.imm (by omega) (by omega))) ?_
    rintro _ w_6 ⟨b34, rfl, hE⟩
    replace hS := hS.call hE
    refine qe (qt 1 0 (m' := 2) hS rfl underlying25 info5 rfl rfl rfl rfl rfl rfl rfl rfl (by omega) (by omega)) ?_
    clear hS
    rintro _ w_7 ⟨a35, p35, rfl, hS⟩
    refine qq hS (qf _) (QoN (reg ?_))
    refine qq hS (qa (o' := 2) underlying70 rfl sizeOf68 rfl rfl rfl) ?_
    refine qq hS (qc 2 isAgg68 rfl rfl rfl) ?_
    refine qq hS (Qmi rfl) ?_
    refine qq hS (g_ixI underlying68 sizeOf3 hx.l rfl rfl (by omega) (by omega)) ?_
    refine qq hS (qr isAgg3 hlA rfl rfl) ?_
    refine qq hS (Qai rfl) ?_
    refine qx (blkN (thenN ?_))
    refine reg (qq hS (Qmi rfl) ?_)
    refine qq hS (g_add rfl rfl (by omega) (by omega)) ?_
    refine qq hS (Qai rfl) ?_
    refine ⟨⟨k + 1, a35, p35⟩, _, rfl, ⟨⟨rfl, rfl, congrArg (Value.int .i64) hln.symm, rfl, trivial⟩, ?_, by dsimp only; omega⟩, by dsimp only; omega⟩
    dsimp only
    rw [show 4 + 2 * (k + 1) = 4 + 2 * k + 2 by omega, yd, hdl, ← List.append_assoc, qp]
    exact hS.sel [false, true, true]
   ·
    intro hc22
    try simp only [zA, zO, zN, zI, zF, zM, zT, zU] at hc22
    have hk : k = x.labels.length := by omega
    subst hk
    refine wpIn_exit ?_
    refine thenE (thenE (blkE ?_))
    refine thenN (wpIn_seq (QwR (qq hS (Qai rfl) (QoN (wpIn_block ?_)))))
    refine loop (fun (x2 : BtW) σ w => okS σ [(1, .pointer (some ⟨b1, 0, none⟩)), (3, .slice x2.a (4 + 2 * x.labels.length + x2.k) x2.c), (6, .int .i64 (8 * x2.k : Nat))] ∧ St [] w0 I0 I0 w [.row (.slice x2.a (4 + 2 * x.labels.length + x2.k) x2.c) 5 1 (4 + 2 * x.labels.length + x2.k) (flat byteC (headP x ++ formL x.labels x.labels.length ++ marksB x.marks x2.k)), .cel b1 70 [.slice a0 x.words.length c0, .slice a1 x.marks.length c1, .slice a2 x.labels.length c2]] ∧ x2.k ≤ (x.marks.length + 7) / 8) (fun x2 => (x.marks.length + 7) / 8 - x2.k) (⟨0, a, c⟩) ?_ ?_
    ·
     refine ⟨⟨rfl, rfl, rfl, trivial⟩, ?_, by dsimp only; omega⟩
     dsimp only
     rw [show marksB x.marks 0 = [] from rfl, List.append_nil]
     exact hS.sel [true, true]
    ·
     rintro ⟨k, a, c⟩ σ w_l ⟨hs, hS, hk⟩
     dsimp only at hs hS hk ⊢
     rw [← qj hs]; clear hs
     refine wpIn_seq (QwR (qq hS (Qmi rfl) ?_))
     refine qq hS (qa (o' := 0) underlying70 rfl sizeOf57 rfl rfl rfl) ?_
     refine qq hS (qc 1 isAgg57 rfl rfl rfl) ?_
     refine qq hS (qo rfl underlying57 hx.w rfl) ?_
     refine qq hS (g_lss rfl rfl) ?_
     refine QoN ?_
     refine qh rfl ?_ ?_
     ·
      intro hc45
      try simp only [zA, zO, zN, zI, zF, zM, zT, zU] at hc45
      have hcl := yM x.marks k
      rw [hn1] at hcl
      refine wpIn_skip (thenN (wpIn_seq (wpIn_block (QwR (qq hS (Qai rfl) ?_)))))
      refine QoN (wpIn_seq (QwR (qq hS (Qai rfl) (QoN (wpIn_block ?_)))))
      refine loop (fun (j : Nat) σ w => okS σ [(1, .pointer (some ⟨b1, 0, none⟩)), (3, .slice a (4 + 2 * x.labels.length + k) c), (6, .int .i64 (8 * k : Nat)), (7, .int .i64 (bitsU (chunk x.marks k) j)), (8, .int .i64 j)] ∧ St [] w0 I0 I0 w [.row (.slice a (4 + 2 * x.labels.length + k) c) 5 1 (4 + 2 * x.labels.length + k) (flat byteC (headP x ++ formL x.labels x.labels.length ++ marksB x.marks k)), .cel b1 70 [.slice a0 x.words.length c0, .slice a1 x.marks.length c1, .slice a2 x.labels.length c2]] ∧ j ≤ (chunk x.marks k).length) (fun j => 8 - j) (0) ?_ ?_
      ·
       exact ⟨⟨rfl, rfl, rfl, rfl, rfl, trivial⟩, hS.sel [true, true], by omega⟩
      ·
       rintro j σ w_l ⟨hs, hS, hjc⟩
       rw [← qj hs]; clear hs
       refine wpIn_seq (QwR (qq hS (Qmi rfl) ?_))
       refine qq hS (g_lss rfl rfl) ?_
       refine qq hS (Qmb rfl) ?_
       refine qu rfl rfl hS (fun hg => (Qmi rfl)) ?_
       intro u51 hu51 hn51
       refine qu rfl rfl hS (fun hg => (Qmi rfl)) ?_
       intro u52 hu52 hn52
       refine qu rfl rfl hS (fun hg => (g_add (hu51 hg) (hu52 hg) (by have := of_decide_eq_true hg; omega) (by have := of_decide_eq_true hg; omega))) ?_
       intro u53 hu53 hn53
       refine qu rfl rfl hS (fun hg => (qa (o' := 0) underlying70 rfl sizeOf57 rfl rfl rfl)) ?_
       intro u54 hu54 hn54
       refine qu rfl rfl hS (fun hg => (qc 1 isAgg57 rfl (hu54 hg) rfl)) ?_
       intro u55 hu55 hn55
       refine qu rfl rfl hS (fun hg => (qo rfl underlying57 hx.w (hu55 hg))) ?_
       intro u56 hu56 hn56
       refine qu rfl rfl hS (fun hg => (g_lss (hu53 hg) (hu56 hg))) ?_
       intro u57 hu57 hn57
       refine qq hS (g_and rfl rfl (fun hq => hu57 hq)) ?_
       refine QoN ?_
       refine qh rfl ?_ ?_
       ·
        intro hc58
        clear hu51 hn51 hu52 hn52 hu53 hn53 hu54 hn54 hu55 hn55 hu56 hn56 hu57 hn57
        try simp only [zA, zO, zN, zI, zF, zM, zT, zU] at hc58
        have hjl : j < 8 ∧ 8 * k + j < x.marks.length := by have h1 := hc58.1; have h2 := hc58.2; omega
        obtain ⟨m, hmi⟩ : ∃ m, x.marks[8 * k + j]? = some m := ⟨_, List.getElem?_eq_getElem hjl.2⟩
        have hmA := hx.m.at hmi
        have hmg : (chunk x.marks k).getD j false = m := by rw [chunk_at hjl.2 hjl.1]; exact yu hmi
        have hj8 : j ≤ 7 := by omega
        have hp8 := pow_le8 hj8
        have hbb := yW (chunk x.marks k) j
        have hp0 : (0 : Int) < 2 ^ j := by omega
        have hjc2 : j + 1 ≤ (chunk x.marks k).length := by rw [hcl]; split <;> omega
        refine wpIn_skip (thenN (wpIn_seq (wpIn_block (QwR ?_))))
        refine qq hS (qa (o' := 1) underlying70 rfl sizeOf67 rfl rfl rfl) ?_
        refine qq hS (qc 1 isAgg67 rfl rfl rfl) ?_
        refine qq hS (Qmi rfl) (qq hS (Qmi rfl) ?_)
        refine qq hS (g_add rfl rfl (by omega) (by omega)) ?_
        refine qq hS (g_ixI underlying67 sizeOf4 hx.m rfl rfl (by omega) (by omega)) ?_
        refine qq hS (qr isAgg4 hmA rfl rfl) ?_
        refine QoN ?_
        refine qh rfl ?_ ?_
        ·
         intro hc67
         have hbs : bitsU (chunk x.marks k) (j + 1) = bitsU (chunk x.marks k) j + 2 ^ j := by show bitsU _ j + _ = _; rw [if_pos (by rw [hmg]; exact hc67)]
         refine reg (qq hS (Qmi rfl) (qq hS (Qmi rfl) ?_))
         refine qq hS (qH (s := j) (c := 2 ^ j) rfl rfl rfl (Nat.ble_eq_true_of_le (Nat.le_trans (show j ≤ 8 by omega) (by decide))) (by rw [IntKind.wrap_i64]; omega)) ?_
         refine qq hS (g_add rfl rfl (by omega) (by omega)) ?_
         refine qq hS (Qai rfl) ?_
         refine qx (blkN (thenN ?_))
         refine reg (qq hS (Qmi rfl) ?_)
         refine qq hS (g_add rfl rfl (by omega) (by omega)) ?_
         refine qq hS (Qai rfl) ?_
         exact ⟨j + 1, _, rfl, ⟨⟨rfl, rfl, rfl, congrArg (Value.int .i64) hbs.symm, rfl, trivial⟩, hS.sel [true, true], hjc2⟩, by omega⟩
        ·
         intro hc67
         have hbs : bitsU (chunk x.marks k) (j + 1) = bitsU (chunk x.marks k) j := by show bitsU _ j + _ = _; rw [if_neg (by rw [hmg, hc67]; decide), Int.add_zero]
         refine wpIn_skip (blkN (thenN (reg (qq hS (Qmi rfl) ?_))))
         refine qq hS (g_add rfl rfl (by omega) (by omega)) ?_
         refine qq hS (Qai rfl) ?_
         exact ⟨j + 1, _, rfl, ⟨⟨rfl, rfl, rfl, congrArg (Value.int .i64) hbs.symm, rfl, trivial⟩, hS.sel [true, true], hjc2⟩, by omega⟩
       ·
        intro hc58
        clear hu51 hn51 hu52 hn52 hu53 hn53 hu54 hn54 hu55 hn55 hu56 hn56 hu57 hn57
        try simp only [zA, zO, zN, zI, zF, zM, zT, zU] at hc58
        have hj : j = (chunk x.marks k).length := by
         by_cases h8 : j < 8
         · have h9 := hc58 (by omega)
           rw [hcl] at hjc ⊢
           split at hjc <;> rename_i hs8
           · rw [if_pos hs8]; omega
           · rw [if_neg hs8]; omega
         · rw [hcl] at hjc ⊢
           split at hjc <;> rename_i hs8
           · rw [if_pos hs8]; omega
           · rw [if_neg hs8]; omega
        subst hj
        have hbb := yW (chunk x.marks k) (chunk x.marks k).length
        have hc8 : (chunk x.marks k).length ≤ 8 := by rw [hcl]; split <;> omega
        have hp8 : (2 : Int) ^ (chunk x.marks k).length ≤ 256 := by
         obtain ⟨z, hz⟩ : ∃ z, (chunk x.marks k).length = z := ⟨_, rfl⟩
         rw [hz] at hc8 ⊢
         have h9 : z = 0 ∨ z = 1 ∨ z = 2 ∨ z = 3 ∨ z = 4 ∨ z = 5 ∨ z = 6 ∨ z = 7 ∨ z = 8 := by omega
         rcases h9 with h | h | h | h | h | h | h | h | h <;> rw [h] <;> decide
        refine wpIn_exit ?_
        refine thenE (thenE (blkE ?_))
        refine thenN (reg (qq hS (qb _) (qq hS (Qmi rfl) ?_)))
        refine qq hS (qz (c := bitsU (chunk x.marks k) (chunk x.marks k).length) underlying3 underlying5 rfl (by rw [IntKind.wrap_u8]; omega)) ?_
        refine qe (d_lit (vs := [.int .u8 _]) (cs := [.int .u8 _]) hS underlying25 sizeOf5 zeroValue5 rfl rfl rfl rfl (fun v hv => by simp only [List.mem_cons, List.not_mem_nil, or_false] at hv; subst hv; rfl) rfl) ?_
        clear hS
        rintro _ w_8 ⟨b75, rfl, hS⟩
        refine qe (qt 1 0 hS rfl underlying25 info5 rfl rfl rfl rfl rfl rfl rfl rfl (by omega) (by omega)) ?_
        clear hS
        rintro _ w_9 ⟨a76, p76, rfl, hS⟩
        refine qq hS (qf _) ?_
        refine qx (blkN (thenN ?_))
        refine reg (qq hS (Qmi rfl) ?_)
        refine qq hS (g_add rfl rfl (by omega) (by omega)) ?_
        refine qq hS (Qai rfl) ?_
        refine ⟨⟨k + 1, a76, p76⟩, _, rfl, ⟨⟨rfl, rfl, congrArg (Value.int .i64) (show ((8 * k : Nat) : Int) + 8 = ((8 * (k + 1) : Nat) : Int) by omega), trivial⟩, ?_, by dsimp only; omega⟩, by dsimp only; omega⟩
        dsimp only
        rw [marksB_succ, ← List.append_assoc, qp byteC (headP x ++ formL x.labels x.labels.length ++ marksB x.marks k), qA]
        exact hS.sel [false, true, true]
     ·
      intro hc45
      try simp only [zA, zO, zN, zI, zF, zM, zT, zU] at hc45
      have hk : k = (x.marks.length + 7) / 8 := by omega
      subst hk
      refine wpIn_exit ?_
      refine thenE (thenE (blkE ?_))
      refine thenN (wpIn_seq ?_)
      have hbpl := qv x.words
      refine reg (qq hS (qb _) ?_)
      refine qq hS (qa (o' := 0) underlying70 rfl sizeOf57 rfl rfl rfl) ?_
      refine qq hS (qc 1 isAgg57 rfl rfl rfl) ?_
      refine qe (qi call22 rfl (bytes2_c a0 c0 x.words _ _ hS.imm hx.w hw (by omega))) ?_
      rintro _ w_10 ⟨I_f, a80, c80, rfl, hE, h80⟩
      replace hS := hS.callE hE
      replace hx := hx.mono hE.ext
      refine qe (kM 0 hS rfl underlying25 info5 rfl rfl rfl rfl qW (fun _ => rfl) h80 rfl (by omega) (by omega)) ?_
      clear hS
      rintro _ w_11 ⟨a81, p81, rfl, hS⟩
      refine qq hS (qf _) (QoN (wpIn_ret ?_))
      refine ret1 results24 (qd rfl) ?_
      have hN : (formP x).length = (4 + 2 * x.labels.length + (x.marks.length + 7) / 8 + (bytesP x.words).length) := by rw [kN, qv]
      obtain ⟨I1_, hE1, hI1, hd1⟩ := qE qW (u := .slice a81 (4 + 2 * x.labels.length + (x.marks.length + 7) / 8 + (bytesP x.words).length) p81) (m := (4 + 2 * x.labels.length + (x.marks.length + 7) / 8 + (bytesP x.words).length)) (xs := formP x) (by rw [show formP x = (headP x ++ formL x.labels x.labels.length ++ marksB x.marks ((x.marks.length + 7) / 8)) ++ bytesP x.words from rfl, qp]; exact hS.sel [true, false]) hN.symm
      rw [hN]
      exact ⟨I1_, a81, p81, rfl, hE1, hd1⟩
theorem sameYR_c (ad bd : Option Addr) (cap capb : Nat) (l m : List Int) (w0 : World) (I0 : Imm) (hI : Sat I0 w0) (hl : RBytes I0 (.slice ad l.length cap) l) (hm : RBytes I0 (.slice bd m.length capb) m) :
 Ctr prog 100 [.slice ad l.length cap, .slice bd m.length capb] w0 (fun v w' => v = .bool (decide (l = m)) ∧ Ext w0 I0 w' I0) := by
 have hle := RSl.le hl
 have hlm := RSl.le hm
 simp only [maxLen] at hle hlm
 refine fn (n := 26) func100 rfl rfl rfl ?_
 have hS := St.start hI
 refine QwR (qq hS (Qab rfl) (QoN (wpIn_seq (QwR (qq hS (qb _) ?_)))))
 refine qq hS (qo rfl underlying25 hl rfl) ?_
 refine qq hS (qb _) ?_
 refine qq hS (qo rfl underlying25 hm rfl) ?_
 refine qq hS (g_neq rfl rfl) ?_
 refine QoN ?_
 refine qh rfl ?_ ?_
 ·
  intro hc10
  try simp only [zA, zO, zN, zI, zF, zM, zT, zU] at hc10
  have hq : decide (l = m) = false := decide_eq_false (vC (by omega))
  refine QwR (qq hS (Qab rfl) (QoN (wpIn_ret ?_)))
  refine thenR ?_
  refine ret1 results100 (qd (v := .bool _) rfl) ?_
  exact ⟨by rw [hq], hS.nil⟩
 ·
  intro hc10
  try simp only [zA, zO, zN, zI, zF, zM, zT, zU] at hc10
  have hw1 : l.length = m.length := by omega
  refine wpIn_skip (thenN (wpIn_seq (QwR (qq hS (Qai rfl) (QoN ?_)))))
  refine wpIn_block ?_
  refine loop (fun (k : Nat) σ w => okS σ [(0, .slice ad l.length cap), (1, .slice bd m.length capb), (5, .int .i64 k)] ∧ St [] w0 I0 I0 w [] ∧ k ≤ l.length ∧ ∀ i, i < k → l[i]? = m[i]?) (fun k => l.length - k) (0) ?_ ?_
  ·
   exact ⟨⟨rfl, rfl, rfl, trivial⟩, hS.sel [], by omega, fun i hi => by omega⟩
  ·
   rintro k σ w_l ⟨hs, hS, hk, hsame⟩
   rw [← qj hs]; clear hs
   refine wpIn_seq (QwR (qq hS (Qmi rfl) (qq hS (qb _) ?_)))
   refine qq hS (qo rfl underlying25 hl rfl) ?_
   refine qq hS (g_lss rfl rfl) ?_
   refine QoN ?_
   refine qh rfl ?_ ?_
   ·
    intro hc14
    try simp only [zA, zO, zN, zI, zF, zM, zT, zU] at hc14
    obtain ⟨u, hui⟩ : ∃ u, l[k]? = some u := ⟨_, List.getElem?_eq_getElem (by omega)⟩
    obtain ⟨v, hvi⟩ : ∃ v, m[k]? = some v := ⟨_, List.getElem?_eq_getElem (by omega)⟩
    have huA := hl.at hui
    have hvA := hm.at hvi
    refine wpIn_skip (thenN (wpIn_seq (wpIn_block (wpIn_seq ?_))))
    refine draw (.cons 0 .pure (.cons 1 .pure (.cons 2 .pure (.cons 3 .held (.cons 4 .pure (.cons 5 .pure (.cons 6 .pure (.cons 7 .held (.cons 8 .pure .nil))))))))) mixed (by kernel_rfl) hS ?_
    intro w_1 hS
    refine sp rfl (qb _) ?_
    refine sp rfl (Qmi rfl) ?_
    refine sp rfl (g_ixI underlying25 sizeOf5 hl rfl rfl (by omega) (by omega)) ?_
    refine sh rfl (qr isAgg5 huA rfl rfl) ?_
    refine sp rfl (qb _) ?_
    refine sp rfl (Qmi rfl) ?_
    refine sp rfl (g_ixI underlying25 sizeOf5 hm rfl rfl (by omega) (by omega)) ?_
    refine sh rfl (qr isAgg5 hvA rfl rfl) ?_
    refine sp rfl (g_neq rfl rfl) ?_
    refine sn (thenN ?_)
    refine qh rfl ?_ ?_
    ·
     intro hc25
     simp only [Bool.not_eq_true', decide_eq_false_iff_not, Bool.not_eq_false', decide_eq_true_eq] at hc25
     have hq : decide (l = m) = false := decide_eq_false (yR hui hvi hc25)
     refine QwR (qq hS (Qab rfl) (QoN (wpIn_ret ?_)))
     refine blkR (thenR (thenR (blkR (thenR ?_))))
     refine ret1 results100 (qd (v := .bool _) rfl) ?_
     exact ⟨by rw [hq], hS.nil⟩
    ·
     intro hc25
     simp only [Bool.not_eq_true', decide_eq_false_iff_not, Bool.not_eq_false', decide_eq_true_eq] at hc25
     have hst := zt hsame hui hvi hc25
     refine wpIn_skip (blkN (thenN (reg (qq hS (Qmi rfl) ?_))))
     refine qq hS (g_add rfl rfl (by omega) (by omega)) ?_
     refine qq hS (Qai rfl) ?_
     exact ⟨k + 1, _, rfl, ⟨⟨rfl, rfl, rfl, trivial⟩, hS.sel [], by omega, hst⟩, by omega⟩
   ·
    intro hc14
    try simp only [zA, zO, zN, zI, zF, zM, zT, zU] at hc14
    have hq : decide (l = m) = true := decide_eq_true (yS hw1 (fun i hi => hsame i (by omega)))
    refine wpIn_exit ?_
    refine thenE (thenE (blkE ?_))
    refine thenN (QwR (qq hS (Qab rfl) (QoN (wpIn_ret ?_))))
    refine ret1 results100 (qd (v := .bool _) rfl) ?_
    exact ⟨by rw [hq], hS.nil⟩
theorem wordsR_E (ad : Option Addr) (cap n : Nat) (b : List Int) (w0 : World) (I0 : Imm) (hI : Sat I0 w0) {m : Nat} (hl : RBytes I0 (.slice ad m cap) b) (hb : Byts b) (hn : b.length = 4 * n) (hm : b.length = m) (hn1 : n ≤ 1073741824) :
 Ctr prog 46 [.slice ad m cap] w0 (fun v w' => ∃ I' a c, v = .tuple #[.slice a n c, .int .i64 0] ∧ Ext w0 I0 w' I' ∧ RFl I' 1 u32C (.slice a n c) (wordsN b n)) := by
 subst hm; exact wordsR_c ad cap n b w0 I0 hI hl hb hn hn1
theorem lowRR_E (x : LiftL) (a0 a1 a2 : Option Addr) (c0 c1 c2 : Nat) (B : List Int) (e : Int) (n0 n1 n2 : Nat) (w0 : World) (I0 : Imm) (hI : Sat I0 w0) (hx : RLf I0 a0 c0 a1 c1 a2 c2 x) (hw : Wrds x.words) (hlb : Labs x.labels) (he : lowR x = (B, e)) (e0 : n0 = x.words.length) (e1 : n1 = x.marks.length) (e2 : n2 = x.labels.length) :
 Ctr prog 71 [.agg #[.slice a0 n0 c0, .slice a1 n1 c1, .slice a2 n2 c2]] w0 (fun v w' => ∃ I' a c, v = .tuple #[.slice a B.length c, .int .i64 e] ∧ Ext w0 I0 w' I' ∧ RBytes I' (.slice a B.length c) B) := by
 subst e0 e1 e2; exact lowRR_c x a0 a1 a2 c0 c1 c2 B e w0 I0 hI hx hw hlb he
theorem lformR_E (x : LiftL) (a0 a1 a2 : Option Addr) (c0 c1 c2 : Nat) (n0 n1 n2 : Nat) (w0 : World) (I0 : Imm) (hI : Sat I0 w0) (hx : RLf I0 a0 c0 a1 c1 a2 c2 x) (hw : Wrds x.words) (hlb : Labs x.labels) (hn0 : n0 ≤ 65536) (hn1 : n1 = n0) (hn2 : n2 ≤ 65536) (hri : Rise x.labels) (e0 : n0 = x.words.length) (e1 : n1 = x.marks.length) (e2 : n2 = x.labels.length) :
 Ctr prog 24 [.agg #[.slice a0 n0 c0, .slice a1 n1 c1, .slice a2 n2 c2]] w0 (fun v w' => ∃ I' a c, v = .slice a (formP x).length c ∧ Ext w0 I0 w' I' ∧ RBytes I' (.slice a (formP x).length c) (formP x)) := by
 subst e0 e1 e2; exact zk x a0 a1 a2 c0 c1 c2 w0 I0 hI hx hw hlb hn0 hn1 hn2 hri
set_option maxHeartbeats 2000000 in
theorem lreadR_c (b : List Int) (ad : Option Addr) (cap : Nat) (x : LiftL) (e : Int) (w0 : World) (I0 : Imm) (hI : Sat I0 w0) (hl : RBytes I0 (.slice ad b.length cap) b) (hb : Byts b) (he : readR b = (x, e)) :
 Ctr prog 70 [.slice ad b.length cap] w0 (fun v w' => ∃ I' a0 c0 a1 c1 a2 c2, v = .tuple #[.agg #[.slice a0 x.words.length c0, .slice a1 x.marks.length c1, .slice a2 x.labels.length c2], .int .i64 e] ∧ Ext w0 I0 w' I' ∧ RLf I' a0 c0 a1 c1 a2 c2 x) := by
 have hle := RSl.le hl
 simp only [maxLen] at hle
 obtain ⟨hnw, hnw1⟩ := nW_b hb
 obtain ⟨hnl, hnl1⟩ := nL_b hb
 have hxw := zX hb
 have hxl := zY hb hnl1
 refine fn (n := 131) func70 rfl rfl rfl ?_
 have hS := St.start hI
 refine QwR ?_
 refine qe (qk (cs := [.slice _ _ _, .slice _ _ _, .slice _ _ _]) hS zeroValue70 rfl) ?_
 clear hS
 rintro _ w_1 ⟨b2, rfl, hS⟩
 refine qq hS (Qai rfl) (QoN (wpIn_seq (QwR (qq hS (qb _) ?_))))
 refine qq hS (qo rfl underlying25 hl rfl) ?_
 refine qq hS (g_lss rfl rfl) ?_
 refine QoN ?_
 refine qh rfl ?_ ?_
 ·
  intro hc16
  try simp only [zA, zO, zN, zI, zF, zM, zT, zU] at hc16
  have hbf : badF b = true := by unfold badF; rw [decide_eq_true (by omega)]; rfl
  rw [zx hbf] at he
  obtain ⟨rfl, rfl⟩ := Prod.mk.inj he
  refine QwR ?_
  refine qq hS (qm (pl := [(0, 1), (1, 1), (2, 1)]) (cs := [.slice _ _ _, .slice _ _ _, .slice _ _ _]) zeroValue70 underlying70 (fun w => by simp [sizeOf57, sizeOf67, sizeOf68]) mp0 rfl) ?_
  refine qe (qg 0 hS sizeOf70 rfl rfl rfl (vs := [.slice _ _ _, .slice _ _ _, .slice _ _ _]) rfl rfl rfl (Nat.le_of_ble_eq_true rfl) (cs' := [_, _, _]) rfl) ?_
  clear hS
  rintro _ w_2 ⟨rfl, hS⟩
  refine qq hS (Qai rfl) (QoN (wpIn_ret ?_))
  refine thenR ?_
  refine ret2 results70 (qs 0 hS sizeOf70 isAgg70 rfl rfl rfl) (qd (v := .int .i64 _) rfl) ?_
  first | exact ⟨_, none, 0, none, 0, none, 0, rfl, hS.nil, RLf.zero _⟩ | exact ⟨_, a111, c111, a, c, a2, c2, by rw [qS, qT, qU], hS.nil, hRL⟩
 ·
  intro hc16
  try simp only [zA, zO, zN, zI, zF, zM, zT, zU] at hc16
  have hA0 := hl.at (qM (l := b) (i := 0) (by omega))
  have hA1 := hl.at (qM (l := b) (i := 1) (by omega))
  have hA2 := hl.at (qM (l := b) (i := 2) (by omega))
  have hA3 := hl.at (qM (l := b) (i := 3) (by omega))
  have hy0 := qF hb 0
  have hy1 := qF hb 1
  have hy2 := qF hb 2
  have hy3 := qF hb 3
  have hn0 : 256 * b.getD 0 0 + b.getD 1 0 = (nW b : Int) := by rw [← hnw]; show _ = b.getD 0 0 * 256 + b.getD 1 0; omega
  have hn2 : 256 * b.getD 2 0 + b.getD 3 0 = (nL b : Int) := by rw [← hnl]; show _ = b.getD 2 0 * 256 + b.getD 3 0; omega
  refine wpIn_skip (thenN (wpIn_seq ?_))
  refine draw (.cons 0 .pure (.cons 1 .pure (.cons 2 .held (.cons 3 .pure (.cons 4 .pure (.cons 5 .pure (.cons 6 .pure (.cons 7 .held (.cons 8 .pure (.cons 9 .pure (.cons 10 .pure (.cons 11 .pure (.cons 12 .held (.cons 13 .pure (.cons 14 .pure (.cons 15 .pure (.cons 16 .pure (.cons 17 .held (.cons 18 .pure (.cons 19 .pure (.cons 20 .pure (.cons 21 .pure .nil)))))))))))))))))))))) mixed (by kernel_rfl) hS ?_
  intro w_3 hS
  refine sp rfl (qb _) ?_
  refine sp rfl (g_ixI underlying25 sizeOf5 hl rfl rfl (by omega) (by omega)) ?_
  refine sh rfl (qr isAgg5 hA0 rfl rfl) ?_
  refine sp rfl (qD underlying5 underlying3 rfl (by omega) (by omega)) ?_
  refine sp rfl (g_mul rfl rfl (by omega) (by omega)) ?_
  refine sp rfl (qb _) ?_
  refine sp rfl (g_ixI underlying25 sizeOf5 hl rfl rfl (by omega) (by omega)) ?_
  refine sh rfl (qr isAgg5 hA1 rfl rfl) ?_
  refine sp rfl (qD underlying5 underlying3 rfl (by omega) (by omega)) ?_
  refine sp rfl (g_toV (g_add rfl rfl (by omega) (by omega)) (congrArg (Value.int .i64) hn0)) ?_
  refine sp rfl (qb _) ?_
  refine sp rfl (g_ixI underlying25 sizeOf5 hl rfl rfl (by omega) (by omega)) ?_
  refine sh rfl (qr isAgg5 hA2 rfl rfl) ?_
  refine sp rfl (qD underlying5 underlying3 rfl (by omega) (by omega)) ?_
  refine sp rfl (g_mul rfl rfl (by omega) (by omega)) ?_
  refine sp rfl (qb _) ?_
  refine sp rfl (g_ixI underlying25 sizeOf5 hl rfl rfl (by omega) (by omega)) ?_
  refine sh rfl (qr isAgg5 hA3 rfl rfl) ?_
  refine sp rfl (qD underlying5 underlying3 rfl (by omega) (by omega)) ?_
  refine sp rfl (g_toV (g_add rfl rfl (by omega) (by omega)) (congrArg (Value.int .i64) hn2)) ?_
  refine sp rfl (Qai rfl) ?_
  refine sp rfl (Qai rfl) ?_
  refine sn (thenN ?_)
  refine QwR (qq hS (Qmi rfl) ?_)
  refine qq hS (g_mul rfl rfl (by omega) (by omega)) ?_
  refine qq hS (g_add rfl rfl (by omega) (by omega)) ?_
  refine qq hS (Qai rfl) (QoR (qq hS (Qmi rfl) (qq hS (Qmi rfl) ?_)))
  refine qq hS (g_add rfl rfl (by omega) (by omega)) ?_
  refine qq hS (g_quo rfl rfl (by omega) (by omega) (by omega)) ?_
  refine qq hS (g_add rfl rfl (by omega) (by omega)) ?_
  refine qq hS (Qai rfl) (QoN (wpIn_seq (QwR (qq hS (qb _) ?_))))
  refine qq hS (qo rfl underlying25 hl rfl) ?_
  refine qq hS (Qmi rfl) (qq hS (Qmi rfl) ?_)
  refine qq hS (g_mul rfl rfl (by omega) (by omega)) ?_
  refine qq hS (g_add rfl rfl (by omega) (by omega)) ?_
  refine qq hS (g_neq rfl rfl) ?_
  refine QoN ?_
  refine qh rfl ?_ ?_
  ·
   intro hc52
   simp only [Bool.not_eq_true', decide_eq_false_iff_not, Bool.not_eq_false', decide_eq_true_eq] at hc52
   have hbf : badF b = true := by unfold badF; rw [decide_eq_false (show ¬ b.length = atW b + 4 * nW b by unfold atW atM; omega), Bool.not_false, Bool.or_true]
   rw [zx hbf] at he
   obtain ⟨rfl, rfl⟩ := Prod.mk.inj he
   refine QwR ?_
   refine qq hS (qm (pl := [(0, 1), (1, 1), (2, 1)]) (cs := [.slice _ _ _, .slice _ _ _, .slice _ _ _]) zeroValue70 underlying70 (fun w => by simp [sizeOf57, sizeOf67, sizeOf68]) mp0 rfl) ?_
   refine qe (qg 0 hS sizeOf70 rfl rfl rfl (vs := [.slice _ _ _, .slice _ _ _, .slice _ _ _]) rfl rfl rfl (Nat.le_of_ble_eq_true rfl) (cs' := [_, _, _]) rfl) ?_
   clear hS
   rintro _ w_4 ⟨rfl, hS⟩
   refine qq hS (Qai rfl) (QoN (wpIn_ret ?_))
   refine thenR ?_
   refine ret2 results70 (qs 0 hS sizeOf70 isAgg70 rfl rfl rfl) (qd (v := .int .i64 _) rfl) ?_
   first | exact ⟨_, none, 0, none, 0, none, 0, rfl, hS.nil, RLf.zero _⟩ | exact ⟨_, a111, c111, a, c, a2, c2, by rw [qS, qT, qU], hS.nil, hRL⟩
  ·
   intro hc52
   simp only [Bool.not_eq_true', decide_eq_false_iff_not, Bool.not_eq_false', decide_eq_true_eq] at hc52
   have hlenE : b.length = atW b + 4 * nW b := by unfold atW atM; omega
   have hbf : badF b = false := by unfold badF; rw [decide_eq_false (by omega), decide_eq_true hlenE]; rfl
   have hatM : atM b = 4 + 2 * nL b := rfl
   have hatW : atW b = atM b + (nW b + 7) / 8 := rfl
   refine wpIn_skip (thenN (QwR ?_))
   refine qq hS (qm (pl := [(0, 1), (1, 1), (2, 1)]) (cs := [.slice _ _ _, .slice _ _ _, .slice _ _ _]) zeroValue70 underlying70 (fun w => by simp [sizeOf57, sizeOf67, sizeOf68]) mp0 rfl) ?_
   refine qe (qk (cs := [.slice _ _ _, .slice _ _ _, .slice _ _ _]) hS zeroValue70 rfl) ?_
   clear hS
   rintro _ w_5 ⟨b8, rfl, hS⟩
   refine qe (qg 0 hS sizeOf70 rfl rfl rfl (vs := [.slice _ _ _, .slice _ _ _, .slice _ _ _]) rfl rfl rfl (Nat.le_of_ble_eq_true rfl) (cs' := [_, _, _]) rfl) ?_
   clear hS
   rintro _ w_6 ⟨rfl, hS⟩
   refine qq hS (Qai rfl) (QoN (wpIn_seq (QwR (qq hS (Qai rfl) (QoN ?_)))))
   refine wpIn_block ?_
   refine loop (fun (x1 : BtW) σ w => okS σ [(0, .slice ad b.length cap), (2, .pointer (some ⟨b2, 0, none⟩)), (4, .int .i64 (nW b : Nat)), (5, .int .i64 (nL b : Nat)), (6, .int .i64 (atM b : Nat)), (7, .int .i64 (atW b : Nat)), (8, .pointer (some ⟨b8, 0, none⟩)), (9, .int .i64 (lastU b x1.k)), (10, .int .i64 x1.k)] ∧ St [] w0 I0 I0 w [.row (.slice x1.a x1.k x1.c) 3 1 x1.k (flat intC (labsR b x1.k)), .cel b8 70 [.slice none 0 0, .slice none 0 0, .slice x1.a x1.k x1.c], .cel b2 70 [.slice none 0 0, .slice none 0 0, .slice none 0 0]] ∧ x1.k ≤ nL b) (fun x1 => nL b - x1.k) (⟨0, none, 0⟩) ?_ ?_
   ·
    exact ⟨⟨rfl, rfl, rfl, rfl, congrArg (Value.int .i64) (by omega), congrArg (Value.int .i64) (by omega), rfl, rfl, rfl, trivial⟩, (hS.sel [true, true]).nilRow _ _, by dsimp only; omega⟩
   ·
    rintro ⟨k, a2, c2⟩ σ w_l ⟨hs, hS, hk⟩
    dsimp only at hs hS hk ⊢
    rw [← qj hs]; clear hs
    refine wpIn_seq (QwR (qq hS (Qmi rfl) (qq hS (Qmi rfl) ?_)))
    refine qq hS (g_lss rfl rfl) ?_
    refine QoN ?_
    refine qh rfl ?_ ?_
    ·
     intro hc57
     try simp only [zA, zO, zN, zI, zF, zM, zT, zU] at hc57
     have hnk := vf hb (4 + 2 * k)
     have hlu := vD hb k
     have hls : lastU b (k + 1) = lastU b k + 4 * num2 b (4 + 2 * k) := rfl
     have hA4 := hl.at (qM (l := b) (i := 4 + 2 * k) (by omega))
     have hA5 := hl.at (qM (l := b) (i := 5 + 2 * k) (by omega))
     have hy4 := qF hb (4 + 2 * k)
     have hy5 := qF hb (5 + 2 * k)
     have hls2 : lastU b k + 4 * (256 * b.getD (4 + 2 * k) 0 + b.getD (5 + 2 * k) 0) = lastU b (k + 1) := by
      rw [hls]; unfold num2; rw [show 4 + 2 * k + 1 = 5 + 2 * k by omega]; omega
     refine wpIn_skip (thenN (wpIn_seq (wpIn_block (wpIn_seq ?_))))
     refine draw (.cons 0 .pure (.cons 1 .pure (.cons 2 .pure (.cons 3 .pure (.cons 4 .pure (.cons 5 .pure (.cons 6 .held (.cons 7 .pure (.cons 8 .pure (.cons 9 .pure (.cons 10 .pure (.cons 11 .pure (.cons 12 .pure (.cons 13 .pure (.cons 14 .held (.cons 15 .pure (.cons 16 .pure (.cons 17 .pure (.cons 18 .pure (.cons 19 .pure .nil)))))))))))))))))))) mixed (by kernel_rfl) hS ?_
     intro w_7 hS
     refine sp rfl (Qmi rfl) ?_
     refine sp rfl (qb _) ?_
     refine sp rfl (Qmi rfl) ?_
     refine sp rfl (g_mul rfl rfl (by omega) (by omega)) ?_
     refine sp rfl (g_add rfl rfl (by omega) (by omega)) ?_
     refine sp rfl (g_ixI underlying25 sizeOf5 hl rfl rfl (by omega) (by omega)) ?_
     refine sh rfl (qr isAgg5 hA4 rfl rfl) ?_
     refine sp rfl (qD underlying5 underlying3 rfl (by omega) (by omega)) ?_
     refine sp rfl (g_mul rfl rfl (by omega) (by omega)) ?_
     refine sp rfl (qb _) ?_
     refine sp rfl (Qmi rfl) ?_
     refine sp rfl (g_mul rfl rfl (by omega) (by omega)) ?_
     refine sp rfl (g_add rfl rfl (by omega) (by omega)) ?_
     refine sp rfl (g_ixI underlying25 sizeOf5 hl rfl rfl (by omega) (by omega)) ?_
     refine sh rfl (qr isAgg5 hA5 rfl rfl) ?_
     refine sp rfl (qD underlying5 underlying3 rfl (by omega) (by omega)) ?_
     refine sp rfl (g_add rfl rfl (by omega) (by omega)) ?_
     refine sp rfl (g_mul rfl rfl (by omega) (by omega)) ?_
     refine sp rfl (g_toV (g_add rfl rfl (by omega) (by omega)) (congrArg (Value.int .i64) hls2)) ?_
     refine sp rfl (Qai rfl) ?_
     refine sn (thenN ?_)
     refine reg ?_
     refine qq hS (qa (o' := 2) underlying70 rfl sizeOf68 rfl rfl rfl) ?_
     refine qq hS (qc 1 isAgg68 rfl rfl rfl) ?_
     refine qq hS (Qmi rfl) ?_
     refine qe (d_lit (vs := [.int .i64 _]) (cs := [.int .i64 _]) hS underlying68 sizeOf3 zeroValue3 rfl rfl rfl rfl (fun v hv => by simp only [List.mem_cons, List.not_mem_nil, or_false] at hv; subst hv; rfl) rfl) ?_
     clear hS
     rintro _ w_8 ⟨b82, rfl, hS⟩
     refine qe (qt 1 0 hS rfl underlying68 info3 rfl rfl rfl rfl rfl rfl rfl rfl (by omega) (by omega)) ?_
     clear hS
     rintro _ w_9 ⟨a83, p83, rfl, hS⟩
     refine qq hS (qa (o' := 2) underlying70 rfl sizeOf68 rfl rfl rfl) ?_
     refine qe (qg 2 hS sizeOf68 rfl rfl rfl (vs := [.slice _ _ _]) rfl rfl rfl (Nat.le_of_ble_eq_true rfl) (cs' := [_, _, _]) rfl) ?_
     clear hS
     rintro _ w_10 ⟨rfl, hS⟩
     refine qx (blkN (thenN ?_))
     refine reg (qq hS (Qmi rfl) ?_)
     refine qq hS (g_add rfl rfl (by omega) (by omega)) ?_
     refine qq hS (Qai rfl) ?_
     refine ⟨⟨k + 1, a83, p83⟩, _, rfl, ⟨⟨rfl, rfl, rfl, rfl, rfl, rfl, rfl, rfl, rfl, trivial⟩, ?_, by dsimp only; omega⟩, by dsimp only; omega⟩
     dsimp only
     rw [labsR_succ, qp, qA]
     exact hS.sel [false, true, true, true]
    ·
     intro hc57
     try simp only [zA, zO, zN, zI, zF, zM, zT, zU] at hc57
     have hk : k = nL b := by omega
     subst hk
     refine wpIn_exit ?_
     refine thenE (thenE (blkE ?_))
     refine thenN (wpIn_seq (QwR (qq hS (Qai rfl) (QoN (wpIn_block ?_)))))
     refine loop (fun (x2 : BtW) σ w => okS σ [(0, .slice ad b.length cap), (2, .pointer (some ⟨b2, 0, none⟩)), (4, .int .i64 (nW b : Nat)), (5, .int .i64 (nL b : Nat)), (6, .int .i64 (atM b : Nat)), (7, .int .i64 (atW b : Nat)), (8, .pointer (some ⟨b8, 0, none⟩)), (11, .int .i64 x2.k)] ∧ St [] w0 I0 I0 w [.row (.slice x2.a x2.k x2.c) 4 1 x2.k (flat boolC (marksR b (atM b) x2.k)), .row (.slice a2 (nL b) c2) 3 1 (nL b) (flat intC (labsR b (nL b))), .cel b8 70 [.slice none 0 0, .slice x2.a x2.k x2.c, .slice a2 (nL b) c2], .cel b2 70 [.slice none 0 0, .slice none 0 0, .slice none 0 0]] ∧ x2.k ≤ nW b) (fun x2 => nW b - x2.k) (⟨0, none, 0⟩) ?_ ?_
     ·
      exact ⟨⟨rfl, rfl, rfl, rfl, rfl, rfl, rfl, rfl, trivial⟩, (hS.sel [true, true, true]).nilRow _ _, by dsimp only; omega⟩
     ·
      rintro ⟨k, a, c⟩ σ w_l ⟨hs, hS, hk⟩
      dsimp only at hs hS hk ⊢
      rw [← qj hs]; clear hs
      refine wpIn_seq (QwR (qq hS (Qmi rfl) (qq hS (Qmi rfl) ?_)))
      refine qq hS (g_lss rfl rfl) ?_
      refine QoN ?_
      refine qh rfl ?_ ?_
      ·
       intro hc87
       try simp only [zA, zO, zN, zI, zF, zM, zT, zU] at hc87
       have hmA := hl.at (qM (l := b) (i := atM b + k / 8) (by omega))
       have hmb := qF hb (atM b + k / 8)
       refine wpIn_skip (thenN (wpIn_seq (wpIn_block ?_)))
       refine draw (.cons 0 .pure (.cons 1 .held (.cons 2 .pure (.cons 3 .pure (.cons 4 .pure (.cons 5 .pure (.cons 6 .pure (.cons 7 .pure (.cons 8 .held (.cons 9 .pure (.cons 10 .pure (.cons 11 .pure (.cons 12 .pure (.cons 13 .pure (.cons 14 .eff (.cons 15 .bar (.cons 16 .pure (.cons 17 .bar .nil)))))))))))))))))) mixed (by kernel_rfl) hS ?_
       intro w_11 hS
       refine sp rfl (qa (o' := 1) underlying70 rfl sizeOf67 rfl rfl rfl) ?_
       refine sh rfl (qc 2 isAgg67 rfl rfl rfl) ?_
       refine sp rfl (qb _) ?_
       refine sp rfl (Qmi rfl) (sp rfl (Qmi rfl) ?_)
       refine sp rfl (g_quo rfl rfl (by omega) (by omega) (by omega)) ?_
       refine sp rfl (g_add rfl rfl (by omega) (by omega)) ?_
       refine sp rfl (g_ixI underlying25 sizeOf5 hl rfl rfl (by omega) (by omega)) ?_
       refine sh rfl (qr isAgg5 hmA rfl rfl) ?_
       refine sp rfl (Qmi rfl) ?_
       refine sp rfl (g_rem rfl rfl (by omega) (by omega)) ?_
       refine sp rfl (jo (s := k % 8) (c := b.getD (atM b + k / 8) 0 / 2 ^ (k % 8)) rfl rfl (by omega) (Nat.ble_eq_true_of_le (Nat.le_trans (show k % 8 ≤ 8 by omega) (Nat.le_refl 8))) rfl) ?_
       refine sp rfl (qQ (m := 1) (c := b.getD (atM b + k / 8) 0 / 2 ^ (k % 8) % 2) rfl rfl rfl rfl (by rw [IntKind.wrap_u8]; omega)) ?_
       refine sp rfl (g_toV (g_eql rfl rfl) (rfl : _ = Value.bool (markR b (atM b) k))) ?_
       have hS0 := hS
       refine se rfl (d_lit (vs := [.bool _]) (cs := [.bool _]) hS underlying67 sizeOf4 zeroValue4 rfl rfl rfl rfl (fun v hv => by simp only [List.mem_cons, List.not_mem_nil, or_false] at hv; subst hv; rfl) rfl) ?_
       rintro _ w_12 ⟨b104, rfl, hS⟩
       refine ⟨_, _, hS0.le (Sub.refl _) (List.sublist_cons_self _ _), hS, ?_⟩
       refine sb rfl (qt 1 0 hS rfl underlying67 info4 rfl rfl rfl rfl rfl rfl rfl rfl (by omega) (by omega)) ?_
       rintro _ w_13 ⟨a105, p105, rfl, hS⟩
       refine ⟨_, _, hS, ?_⟩
       refine sp rfl (qa (o' := 1) underlying70 rfl sizeOf67 rfl rfl rfl) ?_
       refine sb rfl (qg 3 hS sizeOf67 rfl rfl rfl (vs := [.slice _ _ _]) rfl rfl rfl (Nat.le_of_ble_eq_true rfl) (cs' := [_, _, _]) rfl) ?_
       rintro _ w_14 ⟨rfl, hS⟩
       refine ⟨_, _, hS, ?_⟩
       refine sn (blkN (thenN ?_))
       refine reg (qq hS (Qmi rfl) ?_)
       refine qq hS (g_add rfl rfl (by omega) (by omega)) ?_
       refine qq hS (Qai rfl) ?_
       refine ⟨⟨k + 1, a105, p105⟩, _, rfl, ⟨⟨rfl, rfl, rfl, rfl, rfl, rfl, rfl, rfl, trivial⟩, ?_, by dsimp only; omega⟩, by dsimp only; omega⟩
       dsimp only
       rw [marksR_succ, qp, qA]
       exact hS.sel [false, true, true, true, true]
      ·
       intro hc87
       try simp only [zA, zO, zN, zI, zF, zM, zT, zU] at hc87
       have hk : k = nW b := by omega
       subst hk
       refine wpIn_exit ?_
       refine thenE (thenE (blkE ?_))
       refine thenN (wpIn_seq ?_)
       have hs110 := RSl.slL hl (atW b) (by omega)
       obtain ⟨a110, c110, hv110, _⟩ := hs110.len
       rw [hv110] at hs110
       have hbd : Byts (b.drop (atW b)) := fun y hy => hb y (List.mem_of_mem_drop hy)
       refine reg (qq hS (qb _) (qq hS (Qmi rfl) ?_))
       refine qq hS (g_toV (jF (l0 := atW b) underlying25 sizeOf5 rfl rfl (by omega) (by omega) (by omega)) hv110) ?_
       refine qe (qi call46 rfl (wordsR_E a110 c110 (nW b) (b.drop (atW b)) _ _ hS.imm hs110 hbd (by rw [List.length_drop]; omega) (by rw [List.length_drop]) (by omega))) ?_
       rintro _ w_15 ⟨I_f, a111, c111, rfl, hE, h111⟩
       replace hS := hS.callE hE
       replace hl := hl.mono hE.ext
       refine qq hS (qb _) ?_
       refine qq hS (ql rfl rfl) ?_
       refine qq hS (Qxi rfl rfl) ?_
       refine qq hS (qa (o' := 0) underlying70 rfl sizeOf57 rfl rfl rfl) ?_
       refine qe (qg 2 hS sizeOf57 rfl rfl rfl (vs := [.slice _ _ _]) rfl rfl rfl (Nat.le_of_ble_eq_true rfl) (cs' := [_, _, _]) rfl) ?_
       clear hS
       rintro _ w_16 ⟨rfl, hS⟩
       refine QoN (wpIn_seq ?_)
       obtain ⟨B, eL, hlw⟩ : ∃ B eL, lowR (readX b) = (B, eL) := ⟨_, _, rfl⟩
       refine (Decidable.em (eL = 0)).elim (fun h0 => ?_) (fun h0 => ?_)
       ·
        subst h0
        have hF := St.freezeRow (u := .slice a (nW b) c) (m := nW b) (xs := marksR b (atM b) (nW b)) jd (by exact hS.ord [0, 1, 2, 3]) ((kp _ _ _).symm)
        clear hS
        obtain ⟨I_hmk, hS, hI_hmk, hmk⟩ := hF
        replace hl := hl.mono hI_hmk
        replace h111 := h111.mono hI_hmk
        have hF := St.freezeRow (u := .slice a2 (nL b) c2) (m := nL b) (xs := labsR b (nL b)) jL (by exact hS.ord [0, 1, 2]) ((kK _ _).symm)
        clear hS
        obtain ⟨I_hlab, hS, hI_hlab, hlab⟩ := hF
        replace hl := hl.mono hI_hlab
        replace h111 := h111.mono hI_hlab
        replace hmk := hmk.mono hI_hlab
        have hRL : RLf _ a111 c111 a c a2 c2 (readX b) := ⟨by rw [qS]; exact h111, by rw [qT]; exact hmk, by rw [qU]; exact hlab⟩
        clear h111 hmk hlab
        refine reg ?_
        refine qq hS (g_ldO 0 (vs := [.slice _ _ _, .slice _ _ _, .slice _ _ _]) sizeOf70 isAgg70 rfl rfl rfl rfl) ?_
        refine qe (qi call71 rfl (lowRR_E (readX b) a111 a a2 c111 c c2 B _ (nW b) (nW b) (nL b) _ _ hS.imm hRL hxw hxl hlw (qS b).symm (qT b).symm (qU b).symm)) ?_
        rintro _ w_17 ⟨I_f, a117, c117, rfl, hE, h117⟩
        replace hS := hS.callE hE
        replace hl := hl.mono hE.ext
        replace hRL := hRL.mono hE.ext
        refine qq hS (qb _) ?_
        refine qq hS (ql rfl rfl) ?_
        refine qq hS (Qxi rfl rfl) ?_
        refine qq hS (qf _) (qq hS (Qai rfl) (QoN (wpIn_seq (QwR (qq hS (Qmi rfl) ?_)))))
        refine qq hS (g_neqF rfl rfl rfl) ?_
        refine qq hS (Qmb rfl) ?_
        refine qqs rfl rfl hS (g_ldO 0 (vs := [.slice _ _ _, .slice _ _ _, .slice _ _ _]) sizeOf70 isAgg70 rfl rfl rfl rfl) ?_
        refine qes rfl rfl (qi call24 rfl (lformR_E (readX b) a111 a a2 c111 c c2 (nW b) (nW b) (nL b) _ _ hS.imm hRL hxw hxl (by omega) rfl (by omega) (rise_low (by rw [hlw])) (qS b).symm (qT b).symm (qU b).symm)) ?_
        rintro _ w_18 ⟨I_f, a124, c124, rfl, hE, h124⟩
        replace hS := hS.callE hE
        replace hl := hl.mono hE.ext
        replace hRL := hRL.mono hE.ext
        replace h117 := h117.mono hE.ext
        refine qqs rfl rfl hS (qb _) ?_
        refine qes rfl rfl (qi call100 rfl (sameYR_c _ _ _ _ (formP (readX b)) b _ _ hS.imm h124 hl)) ?_
        rintro _ w_19 ⟨rfl, hE⟩
        replace hS := hS.callE hE
        refine qqs rfl rfl hS (g_not rfl) ?_
        refine qq hS (g_or (b := !decide (formP (readX b) = b)) rfl rfl (fun _ => rfl)) ?_
        refine QoN ?_
        refine qh rfl ?_ ?_
        ·
         intro hc128
         try simp only [zA, zO, zN, zI, zF, zM, zT, zU] at hc128
         have hne : ¬ formP (readX b) = b := by simpa using hc128
         rw [yl hbf (fun h => hne h.2)] at he
         obtain ⟨rfl, rfl⟩ := Prod.mk.inj he
         refine QwR ?_
         refine qq hS (qm (pl := [(0, 1), (1, 1), (2, 1)]) (cs := [.slice _ _ _, .slice _ _ _, .slice _ _ _]) zeroValue70 underlying70 (fun w => by simp [sizeOf57, sizeOf67, sizeOf68]) mp0 rfl) ?_
         refine qe (qg 1 hS sizeOf70 rfl rfl rfl (vs := [.slice _ _ _, .slice _ _ _, .slice _ _ _]) rfl rfl rfl (Nat.le_of_ble_eq_true rfl) (cs' := [_, _, _]) rfl) ?_
         clear hS
         rintro _ w_20 ⟨rfl, hS⟩
         refine qq hS (Qai rfl) (QoN (wpIn_ret ?_))
         refine thenR ?_
         refine ret2 results70 (qs 1 hS sizeOf70 isAgg70 rfl rfl rfl) (qd (v := .int .i64 _) rfl) ?_
         first | exact ⟨_, none, 0, none, 0, none, 0, rfl, hS.nil, RLf.zero _⟩ | exact ⟨_, a111, c111, a, c, a2, c2, by rw [qS, qT, qU], hS.nil, hRL⟩
        ·
         intro hc128
         try simp only [zA, zO, zN, zI, zF, zM, zT, zU] at hc128
         have heq : formP (readX b) = b := by simpa using hc128
         rw [readR_yes hbf ⟨by rw [hlw], heq⟩] at he
         obtain ⟨rfl, rfl⟩ := Prod.mk.inj he
         refine wpIn_skip (thenN (QwR ?_))
         refine qq hS (g_ldO 0 (vs := [.slice _ _ _, .slice _ _ _, .slice _ _ _]) sizeOf70 isAgg70 rfl rfl rfl rfl) ?_
         refine qe (qg 1 hS sizeOf70 rfl rfl rfl (vs := [.slice _ _ _, .slice _ _ _, .slice _ _ _]) rfl rfl rfl (Nat.le_of_ble_eq_true rfl) (cs' := [_, _, _]) rfl) ?_
         clear hS
         rintro _ w_21 ⟨rfl, hS⟩
         refine qq hS (Qai rfl) (QoN (wpIn_ret ?_))
         refine ret2 results70 (qs 1 hS sizeOf70 isAgg70 rfl rfl rfl) (qd (v := .int .i64 _) rfl) ?_
         first | exact ⟨_, none, 0, none, 0, none, 0, rfl, hS.nil, RLf.zero _⟩ | exact ⟨_, a111, c111, a, c, a2, c2, by rw [qS, qT, qU], hS.nil, hRL⟩
       ·
        have hF := St.freezeRow (u := .slice a (nW b) c) (m := nW b) (xs := marksR b (atM b) (nW b)) jd (by exact hS.ord [0, 1, 2, 3]) ((kp _ _ _).symm)
        clear hS
        obtain ⟨I_hmk, hS, hI_hmk, hmk⟩ := hF
        replace hl := hl.mono hI_hmk
        replace h111 := h111.mono hI_hmk
        have hF := St.freezeRow (u := .slice a2 (nL b) c2) (m := nL b) (xs := labsR b (nL b)) jL (by exact hS.ord [0, 1, 2]) ((kK _ _).symm)
        clear hS
        obtain ⟨I_hlab, hS, hI_hlab, hlab⟩ := hF
        replace hl := hl.mono hI_hlab
        replace h111 := h111.mono hI_hlab
        replace hmk := hmk.mono hI_hlab
        have hRL : RLf _ a111 c111 a c a2 c2 (readX b) := ⟨by rw [qS]; exact h111, by rw [qT]; exact hmk, by rw [qU]; exact hlab⟩
        clear h111 hmk hlab
        refine reg ?_
        refine qq hS (g_ldO 0 (vs := [.slice _ _ _, .slice _ _ _, .slice _ _ _]) sizeOf70 isAgg70 rfl rfl rfl rfl) ?_
        refine qe (qi call71 rfl (lowRR_E (readX b) a111 a a2 c111 c c2 B _ (nW b) (nW b) (nL b) _ _ hS.imm hRL hxw hxl hlw (qS b).symm (qT b).symm (qU b).symm)) ?_
        rintro _ w_22 ⟨I_f, a117, c117, rfl, hE, h117⟩
        replace hS := hS.callE hE
        replace hl := hl.mono hE.ext
        replace hRL := hRL.mono hE.ext
        refine qq hS (qb _) ?_
        refine qq hS (ql rfl rfl) ?_
        refine qq hS (Qxi rfl rfl) ?_
        refine qq hS (qf _) (qq hS (Qai rfl) (QoN (wpIn_seq (QwR (qq hS (Qmi rfl) ?_)))))
        refine qq hS (zm rfl rfl h0) ?_
        refine qq hS (Qmb rfl) ?_
        refine qsf rfl rfl rfl ?_
        refine qsf rfl rfl rfl ?_
        refine qsf rfl rfl rfl ?_
        refine qsf rfl rfl rfl ?_
        refine qsf rfl rfl rfl ?_
        refine qq hS (g_or (b := true) rfl rfl (fun h => (by cases h))) ?_
        refine QoN ?_
        rw [yl hbf (fun h => h0 (by have := h.1; rw [hlw] at this; exact this))] at he
        obtain ⟨rfl, rfl⟩ := Prod.mk.inj he
        refine jc (rfl) ?_
        refine QwR ?_
        refine qq hS (qm (pl := [(0, 1), (1, 1), (2, 1)]) (cs := [.slice _ _ _, .slice _ _ _, .slice _ _ _]) zeroValue70 underlying70 (fun w => by simp [sizeOf57, sizeOf67, sizeOf68]) mp0 rfl) ?_
        refine qe (qg 1 hS sizeOf70 rfl rfl rfl (vs := [.slice _ _ _, .slice _ _ _, .slice _ _ _]) rfl rfl rfl (Nat.le_of_ble_eq_true rfl) (cs' := [_, _, _]) rfl) ?_
        clear hS
        rintro _ w_23 ⟨rfl, hS⟩
        refine qq hS (Qai rfl) (QoN (wpIn_ret ?_))
        refine thenR ?_
        refine ret2 results70 (qs 1 hS sizeOf70 isAgg70 rfl rfl rfl) (qd (v := .int .i64 _) rfl) ?_
        first | exact ⟨_, none, 0, none, 0, none, 0, rfl, hS.nil, RLf.zero _⟩ | exact ⟨_, a111, c111, a, c, a2, c2, by rw [qS, qT, qU], hS.nil, hRL⟩
end Go.Proofs.YtaklmbhfmpdinaaGreat
