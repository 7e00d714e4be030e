/- inlayref13: tables of counts. Conditions: numbers within bounds. -/
import Derived.Test.YtdgnojckkjfhfaaDoorMk14
import Derived.Test.YtdgnojckkjfhfaaDoorPInj
import Derived.Test.YtdgnojckkjfhfaaDoorRw14
import Derived.Test.YtdgnojckkjfhfaaDoorNum14
namespace Go.Proofs.YtdgnojckkjfhfaaDoor
open Go Go.RowKit Go.Inl
set_option linter.unusedSimpArgs false
set_option linter.unusedVariables false
def i64s (c : List Int) : List Value := c.map (Value.int .i64)
theorem i64s_len (c : List Int) : (i64s c).length = c.length := List.length_map _
theorem i64s_set (c : List Int) (i : Nat) (v : Int) : (i64s c).set i (.int .i64 v) = i64s (c.set i v) := by unfold i64s; rw [List.map_set]
theorem i64s_at {c : List Int} {i : Nat} {v : Int} (h : c[i]? = some v) : (i64s c)[i]? = some (.int .i64 v) := by unfold i64s; rw [List.getElem?_map, h]; rfl
def rtL (c : List Int) (t : Int) : List Value := i64s c ++ [.int .i64 t]
theorem rtL_len (c : List Int) (t : Int) : (rtL c t).length = c.length + 1 := by unfold rtL; rw [List.length_append, i64s_len]; rfl
theorem rtL_set {c : List Int} {t v : Int} {x : Nat} (h : x < c.length) : (rtL c t).set x (.int .i64 v) = rtL (c.set x v) t := by
  unfold rtL; rw [List.set_append, if_pos (by rw [i64s_len]; exact h), i64s_set]
theorem rtL_tot {c : List Int} {t v : Int} (h : c.length = 256) : (rtL c t).set 256 (.int .i64 v) = rtL c v := by
  unfold rtL; rw [List.set_append, if_neg (by rw [i64s_len]; omega), i64s_len, h]; rfl
theorem rtL_at {c : List Int} {t v : Int} {i : Nat} (h : c[i]? = some v) : (rtL c t)[i]? = some (.int .i64 v) := by
  have hi := (List.getElem?_eq_some_iff.1 h).1
  unfold rtL; rw [List.getElem?_append_left (by rw [i64s_len]; exact hi)]; exact i64s_at h
theorem rtL_t {c : List Int} {t : Int} (h : c.length = 256) : (rtL c t)[256]? = some (.int .i64 t) := by
  unfold rtL; rw [List.getElem?_append_right (by rw [i64s_len]; omega), i64s_len, h]; rfl
def rtC (A : Ad) : List Value := rtL A.c A.t
theorem sawR_le {A : Ad} {x : Nat} (h : A.t + 32 ≤ 65536) : rtC (sawA A x) = rtL (A.c.set x (A.c.getD x 0 + 32)) (A.t + 32) := by unfold sawA; rw [if_pos h]; rfl
theorem sawR_gt {A : Ad} {x : Nat} (h : ¬ A.t + 32 ≤ 65536) : rtC (sawA A x) = rtL ((A.c.set x (A.c.getD x 0 + 32)).map hf) ((A.c.set x (A.c.getD x 0 + 32)).map hf).sum := by unfold sawA; rw [if_neg h]; rfl
/-- A table that stands still. -/
structure RT (I : Imm) (b : Nat) (A : Ad) : Prop where
  hold : I b = some (.cells (rtC A).toArray 113 (0, 0))
theorem RT.mono {I J : Imm} {b : Nat} {A : Ad} (h : RT I b A) (hs : Inl.Sub I J) : RT J b A := ⟨hs _ _ h.hold⟩
/-- The cells of all tables. -/
def tbC (m : Int) (ps : List (Option Nat)) (last : Int) : List Value := .int .i64 m :: (ps.map ptrO ++ [.int .u8 last])
theorem tbC_len (m : Int) (ps : List (Option Nat)) (last : Int) : (tbC m ps last).length = ps.length + 2 := by unfold tbC; rw [List.length_cons, List.length_append, List.length_map]; rfl
theorem tbC_set {m : Int} {ps : List (Option Nat)} {last : Int} {k : Nat} (h : k < ps.length) (c : Option Nat) : (tbC m ps last).set (1 + k) (ptrO c) = tbC m (ps.set k c) last := by
  unfold tbC
  rw [Nat.add_comm 1 k, List.set_cons_succ, List.set_append, if_pos (by rw [List.length_map]; exact h), List.map_set]
theorem tbC_last {m : Int} {ps : List (Option Nat)} {last : Int} (h : ps.length = 256) (x : Int) : (tbC m ps last).set 257 (.int .u8 x) = tbC m ps x := by
  unfold tbC
  rw [List.set_cons_succ, List.set_append, if_neg (by rw [List.length_map]; omega), List.length_map, h]; rfl
theorem tbC_at {m : Int} {ps : List (Option Nat)} {last : Int} {k : Nat} {c : Option Nat} (h : ps[k]? = some c) : (tbC m ps last)[1 + k]? = some (ptrO c) := by
  have hk := (List.getElem?_eq_some_iff.1 h).1
  unfold tbC
  rw [Nat.add_comm 1 k, List.getElem?_cons_succ, List.getElem?_append_left (by rw [List.length_map]; exact hk), List.getElem?_map, h]; rfl
theorem tbC_l {m : Int} {ps : List (Option Nat)} {last : Int} (h : ps.length = 256) : (tbC m ps last)[257]? = some (.int .u8 last) := by
  unfold tbC
  rw [List.getElem?_cons_succ, List.getElem?_append_right (by rw [List.length_map]; omega), List.length_map, h]; rfl
theorem set_midG {α : Type} (p : List α) (x y : α) (q : List α) : (p ++ x :: q).set p.length y = p ++ y :: q := by rw [List.set_append, if_neg (by omega), Nat.sub_self]; rfl
def psU (l : List Nat) : List (Option Nat) := l.map some ++ List.replicate (256 - l.length) none
theorem psU_len {l : List Nat} (h : l.length ≤ 256) : (psU l).length = 256 := by unfold psU; rw [List.length_append, List.length_map, List.length_replicate]; omega
theorem psU_set {l : List Nat} (h : l.length < 256) (c : Nat) : (psU l).set l.length (some c) = psU (l ++ [c]) := by
  unfold psU
  obtain ⟨m, hm⟩ : ∃ m, 256 - l.length = m + 1 := ⟨255 - l.length, by omega⟩
  rw [List.length_append, List.length_singleton, hm, show 256 - (l.length + 1) = m by omega, List.replicate_succ]
  have := set_midG (l.map some) none (some c) (List.replicate m none)
  rw [List.length_map] at this
  rw [this, List.map_append, List.append_assoc]; rfl
theorem psU_all {l : List Nat} (h : l.length = 256) : psU l = l.map some := by unfold psU; rw [h, Nat.sub_self, List.replicate_zero, List.append_nil]
def ixR (m last : Int) : Nat := if m = 2 then last.toNat else 0
/-- All tables of a model, standing still. -/
structure HT (I : Imm) (b : Nat) (m : Int) (T : Int → Ad) (last : Int) (ps : List Nat) : Prop where
  len : ps.length = 256
  box : I b = some (.cells (tbC m (ps.map some) last).toArray 147 (0, 0))
  tab : ∀ (k c : Nat), ps[k]? = some c → RT I c (T k)
  inj : ∀ (k k' c : Nat), ps[k]? = some c → ps[k']? = some c → k = k'
theorem HT.ne {I : Imm} {b : Nat} {m : Int} {T : Int → Ad} {last : Int} {ps : List Nat} (h : HT I b m T last ps) {k c : Nat} (hc : ps[k]? = some c) : c ≠ b := fun e => by
  have h1 := (h.tab k c hc).hold
  rw [e, h.box] at h1
  injection h1 with h1
  injection h1 with _ h1
  revert h1
  decide
theorem HT.foot {I : Imm} {b : Nat} {m : Int} {T : Int → Ad} {last : Int} {ps : List Nat} (h : HT I b m T last ps) : ∀ c ∈ b :: ps, (I c).isSome = true := fun c hc => by
  rcases List.mem_cons.1 hc with rfl | hc
  · rw [h.box]; rfl
  · obtain ⟨k, hk⟩ := List.mem_iff_getElem?.1 hc
    rw [(h.tab k c hk).hold]; rfl
theorem HT.mono {I J : Imm} {b : Nat} {m : Int} {T : Int → Ad} {last : Int} {ps : List Nat} (h : HT I b m T last ps) (hs : Inl.Sub I J) : HT J b m T last ps := ⟨h.len, hs _ _ h.box, fun k c hc => (h.tab k c hc).mono hs, h.inj⟩
theorem HT.setTab {I : Imm} {b : Nat} {m : Int} {T : Int → Ad} {last : Int} {ps : List Nat} (h : HT I b m T last ps) {q c : Nat} (hc : ps[q]? = some c) (A : Ad) :
    HT (fun d => if d = c then some (.cells (rtC A).toArray 113 (0, 0)) else I d) b m (fun k => if k = q then A else T k) last ps where
  len := h.len
  box := by rw [if_neg (h.ne hc).symm]; exact h.box
  tab := fun k d hd => by
    refine ⟨?_⟩
    by_cases e : k = q
    · subst e
      obtain rfl : d = c := Option.some.inj (hd.symm.trans hc)
      rw [if_pos rfl, if_pos rfl]
    · rw [if_neg (fun (e2 : d = c) => e (h.inj k q c (by rw [← e2]; exact hd) hc)), if_neg (by omega)]
      exact (h.tab k d hd).hold
  inj := h.inj
theorem HT.setLast {I : Imm} {b : Nat} {m : Int} {T : Int → Ad} {last : Int} {ps : List Nat} (h : HT I b m T last ps) (x : Int) :
    HT (fun d => if d = b then some (.cells (tbC m (ps.map some) x).toArray 147 (0, 0)) else I d) b m T x ps where
  len := h.len
  box := if_pos rfl
  tab := fun k d hd => ⟨by rw [if_neg (h.ne hd)]; exact (h.tab k d hd).hold⟩
  inj := h.inj

set_option maxRecDepth 20000 in
set_option maxHeartbeats 1000000 in
theorem fresh_c (w0 : World) (I0 : Imm) (hI : Sat I0 w0) :
    Ctr Tryd.prog 61 [] w0 (fun v w' => ∃ b, v = .pointer (some ⟨b, 0, none⟩) ∧ St [] w0 I0 I0 w' [.cel b 113 (rtC adOne)]) := by
  refine fn (n := 15) Tryd.func61 rfl rfl rfl ?_
  have hS := St.start hI
  refine wpIn_seq ?_
  refine reg ?_
  refine qq hS (g_assign _) ?_
  refine ol_nil (thenN ?_)
  refine wpIn_seq ?_
  refine reg ?_
  refine qq hS (g_buildv (pl := [(0, 256), (256, 1)]) (cs := rtL (onesU 0) 256) Tryd.zeroValue113 Tryd.underlying113 (fun w => by simp [Tryd.sizeOf111, Tryd.sizeOf3]) (mp (v := .int .i64 256) rfl mp0) (by kernel_rfl)) ?_
  refine qe (d_box (cs := rtL (onesU 0) 256) hS rfl) ?_
  clear hS
  rintro _ w_1 ⟨b0, rfl, hS⟩
  refine qq hS (g_assign _) ?_
  refine ol_nil (thenN ?_)
  refine wpIn_seq ?_
  refine wpIn_seq ?_
  refine reg ?_
  refine qq hS (g_assignv (v := .int .i64 _) rfl) ?_
  refine ol_nil (thenN ?_)
  refine wpIn_block ?_
  refine loop (fun (i : Nat) σ w => okS σ [(1, .pointer (some ⟨b0, 0, none⟩)), (2, .int .i64 i)] ∧ St [] w0 I0 I0 w [.cel b0 113 (rtL (onesU i) 256)] ∧ i ≤ 256) (fun i => 256 - i) (0) ?_ ?_
  ·
    exact ⟨⟨rfl, rfl, trivial⟩, hS.sel [true], by omega⟩
  ·
    rintro i σ w_l ⟨hs, hS, hi0⟩
    rw [← upds_self hs]; clear hs
    refine wpIn_seq ?_
    refine wpIn_seq ?_
    refine reg ?_
    refine qq hS (g_movev (v := .int .i64 _) rfl) ?_
    refine qq hS (g_lss rfl rfl) ?_
    refine ol_nil (thenN ?_)
    refine cond_s rfl ?_ ?_
    ·
      intro hc6
      try simp only [Bool.and_eq_true, Bool.or_eq_true, Bool.not_eq_true', Bool.and_eq_false_imp, Bool.or_eq_false_iff, Bool.not_eq_false', decide_eq_true_eq, decide_eq_false_iff_not] at hc6
      refine wpIn_skip ?_
      refine thenN ?_
      refine wpIn_seq ?_
      refine wpIn_block ?_
      refine reg ?_
      refine qq hS (g_move _) ?_
      refine qq hS (g_movev (v := .int .i64 _) rfl) ?_
      refine qq hS (g_nilCheck rfl) ?_
      refine qq hS (g_fieldAddr (o' := 0) Tryd.underlying113 rfl Tryd.sizeOf111 rfl rfl rfl) ?_
      refine qq hS (g_indexArr (o' := i) Tryd.underlying111 Tryd.sizeOf3 rfl rfl (by omega) (by omega) (by omega)) ?_
      refine qe (d_setCel (v := .int .i64 1) 0 hS Tryd.sizeOf3 rfl (by rw [rtL_len, onesU_len (by omega)]; omega) rfl rfl rfl rfl) ?_
      clear hS
      rintro _ w_2 ⟨rfl, hS⟩
      refine ol_nil (blkN (thenN ?_))
      refine reg ?_
      refine qq hS (g_movev (v := .int .i64 _) rfl) ?_
      refine qq hS (g_add rfl rfl (by omega) (by omega)) ?_
      refine qq hS (g_assignv (v := .int .i64 _) rfl) ?_
      dsimp only [List.set] at hS
      rw [rtL_set (by rw [onesU_len (by omega)]; omega), onesU_set (by omega)] at hS
      exact ⟨i + 1, _, rfl, ⟨⟨rfl, rfl, trivial⟩, hS.sel [true], by omega⟩, by omega⟩
    ·
      intro hc6
      try simp only [Bool.and_eq_true, Bool.or_eq_true, Bool.not_eq_true', Bool.and_eq_false_imp, Bool.or_eq_false_iff, Bool.not_eq_false', decide_eq_true_eq, decide_eq_false_iff_not] at hc6
      obtain rfl : i = 256 := by omega
      rw [onesU_all] at hS
      refine wpIn_exit ?_
      refine thenE (thenE (blkE ?_))
      refine thenN ?_
      refine wpIn_seq ?_
      refine reg ?_
      refine qq hS (g_move _) ?_
      refine qq hS (g_assign _) ?_
      refine ol_nil (thenN ?_)
      refine wpIn_ret ?_
      refine ret1 Tryd.results61 (rv_tmp rfl) ?_
      exact ⟨b0, rfl, hS⟩

set_option maxHeartbeats 1000000 in
theorem before_c (b : Nat) (A : Ad) (c : Nat) (y : Int) (hy : y = c) (hc : c < 256) (hA : AdOk A) (w0 : World) (I0 : Imm) (hI : Sat I0 w0) (h : RT I0 b A) :
    Ctr Tryd.prog 52 [.pointer (some ⟨b, 0, none⟩), .int .u8 y] w0 (fun v w' => v = .int .i64 (A.c.take c).sum ∧ Ext w0 I0 w' I0) := by
  subst hy
  have hl := hA.len
  have htop := hA.top
  refine fn (n := 22) Tryd.func52 rfl rfl rfl ?_
  have hS := St.start hI
  refine wpIn_seq ?_
  refine reg ?_
  refine qq hS (g_assignv (v := .int .i64 _) rfl) ?_
  refine ol_nil (thenN ?_)
  refine wpIn_seq ?_
  refine reg ?_
  refine qq hS (g_assignv (v := .int .i64 _) rfl) ?_
  refine ol_nil (thenN ?_)
  refine wpIn_seq ?_
  refine wpIn_seq ?_
  refine reg ?_
  refine qq hS (g_assignv (v := .int .i64 _) rfl) ?_
  refine ol_nil (thenN ?_)
  refine wpIn_block ?_
  refine loop (fun (k : Nat) σ w => okS σ [(0, .pointer (some ⟨b, 0, none⟩)), (1, .int .u8 c), (5, .int .i64 (A.c.take k).sum), (6, .int .i64 k)] ∧ St [] w0 I0 I0 w [] ∧ k ≤ c) (fun k => c - k) (0) ?_ ?_
  ·
    exact ⟨⟨rfl, rfl, rfl, rfl, trivial⟩, hS.sel [], by omega⟩
  ·
    rintro k σ w_l ⟨hs, hS, hk0⟩
    rw [← upds_self hs]; clear hs
    refine wpIn_seq ?_
    refine wpIn_seq ?_
    refine reg ?_
    refine qq hS (g_movev (v := .int .i64 _) rfl) ?_
    refine qq hS (g_movev (v := .int .u8 _) rfl) ?_
    refine qq hS (g_convi Tryd.underlying5 Tryd.underlying3 rfl (by omega) (by omega)) ?_
    refine qq hS (g_lss rfl rfl) ?_
    refine ol_nil (thenN ?_)
    refine cond_s rfl ?_ ?_
    ·
      intro hc10
      try simp only [Bool.and_eq_true, Bool.or_eq_true, Bool.not_eq_true', Bool.and_eq_false_imp, Bool.or_eq_false_iff, Bool.not_eq_false', decide_eq_true_eq, decide_eq_false_iff_not] at hc10
      obtain ⟨n, hni⟩ : ∃ n, A.c[k]? = some n := ⟨_, List.getElem?_eq_getElem (by omega)⟩
      have hsn := sum_snoc13 hni
      obtain ⟨q1, q2, q3⟩ := sum_take_le A.c k hA.pos (by omega)
      rw [List.getD_eq_getElem?_getD, hni, hA.sum] at q3
      rw [List.getD_eq_getElem?_getD, hni] at q2
      dsimp only [Option.getD_some] at q2 q3
      have hw : IntKind.i64.wrap ((A.c.take k).sum + n) = (A.c.take (k + 1)).sum := by rw [hsn, IntKind.wrap_i64]; omega
      refine wpIn_skip ?_
      refine thenN ?_
      refine wpIn_seq ?_
      refine wpIn_block ?_
      refine reg ?_
      refine qq hS (g_movev (v := .int .i64 _) rfl) ?_
      refine qq hS (g_move _) ?_
      refine qq hS (g_movev (v := .int .i64 _) rfl) ?_
      refine qq hS (g_nilCheck rfl) ?_
      refine qq hS (g_fieldAddr (o' := 0) Tryd.underlying113 rfl Tryd.sizeOf111 rfl rfl rfl) ?_
      refine qq hS (g_indexArr (o' := k) Tryd.underlying111 Tryd.sizeOf3 rfl rfl (by omega) (by omega) (by omega)) ?_
      refine qq hS (g_ldA1 Tryd.isAgg3 (atCell h.hold) rfl (rtL_at hni)) ?_
      refine qq hS (g_addu rfl rfl hw) ?_
      refine qq hS (g_assignv (v := .int .i64 _) rfl) ?_
      refine ol_nil (blkN (thenN ?_))
      refine reg ?_
      refine qq hS (g_movev (v := .int .i64 _) rfl) ?_
      refine qq hS (g_add rfl rfl (by omega) (by omega)) ?_
      refine qq hS (g_assignv (v := .int .i64 _) rfl) ?_
      exact ⟨k + 1, _, rfl, ⟨⟨rfl, rfl, rfl, rfl, trivial⟩, hS.sel [], by omega⟩, by omega⟩
    ·
      intro hc10
      try simp only [Bool.and_eq_true, Bool.or_eq_true, Bool.not_eq_true', Bool.and_eq_false_imp, Bool.or_eq_false_iff, Bool.not_eq_false', decide_eq_true_eq, decide_eq_false_iff_not] at hc10
      obtain rfl : k = c := by omega
      refine wpIn_exit ?_
      refine thenE (thenE (blkE ?_))
      refine thenN ?_
      refine wpIn_seq ?_
      refine reg ?_
      refine qq hS (g_movev (v := .int .i64 _) rfl) ?_
      refine qq hS (g_assignv (v := .int .i64 _) rfl) ?_
      refine ol_nil (thenN ?_)
      refine wpIn_ret ?_
      refine ret1 Tryd.results52 (rv_tmp (v := .int .i64 _) rfl) ?_
      exact ⟨rfl, hS.nil⟩

set_option maxRecDepth 20000 in
set_option maxHeartbeats 1000000 in
theorem sawr_c (b : Nat) (A : Ad) (x : Nat) (hx : x < 256) (hA : AdOk A) (w0 : World) (I0 : Imm) (hI : Sat I0 w0) (hb : w0.heap[b]? = some (.cells (rtC A).toArray 113 (0, 0))) (hn : I0 b = none) :
    Ctr Tryd.prog 63 [.pointer (some ⟨b, 0, none⟩), .int .u8 x] w0 (fun v w' => v = .tuple #[] ∧ St [b] w0 I0 I0 w' [.cel b 113 (rtC (sawA A x))]) := by
  have hl := hA.len
  have htop := hA.top
  obtain ⟨n0, hn0⟩ : ∃ n, A.c[x]? = some n := ⟨_, List.getElem?_eq_getElem (by omega)⟩
  have hge := sum_ge A.c hA.pos
  rw [hA.sum, hl] at hge
  have hn0b : 1 ≤ n0 ∧ n0 ≤ 65536 := by
    have h1 := hA.pos n0 (List.mem_of_getElem? hn0)
    have h2 := sum_take_le A.c x hA.pos (by omega)
    rw [List.getD_eq_getElem?_getD, hn0, hA.sum] at h2
    simp at h2; omega
  obtain ⟨n1, hn1⟩ : ∃ n, n = n0 + 32 := ⟨_, rfl⟩
  have hg : A.c.getD x 0 + 32 = n1 := by rw [List.getD_eq_getElem?_getD, hn0, hn1]; rfl
  have hc1l : (A.c.set x n1).length = 256 := by rw [List.length_set]; exact hl
  have hat := rtL_at (t := A.t) hn0
  refine fn (n := 60) Tryd.func63 rfl rfl rfl ?_
  have hS : St [b] w0 I0 I0 w0 [.cel b 113 (rtL A.c A.t)] := St.startX hI hb hn
  refine wpIn_seq ?_
  refine draw (.cons 0 .pure (.cons 1 .pure (.cons 2 .pure (.cons 3 .pure (.cons 4 .pure (.cons 5 .held (.cons 6 .pure (.cons 7 .pure (.cons 8 .pure (.cons 9 .pure (.cons 10 .bar .nil))))))))))) mixed (by kernel_rfl) hS ?_
  intro w_1 hS
  refine sp rfl (g_move _) ?_
  refine sp rfl (g_movev (v := .int .u8 _) rfl) ?_
  refine sp rfl (g_nilCheck rfl) ?_
  refine sp rfl (g_fieldAddr (o' := 0) Tryd.underlying113 rfl Tryd.sizeOf111 rfl rfl rfl) ?_
  refine sp rfl (g_indexArr (o' := x) Tryd.underlying111 Tryd.sizeOf3 rfl rfl (by omega) (by omega) (by omega)) ?_
  refine sh rfl (g_ldO1 0 Tryd.isAgg3 rfl rfl hat) ?_
  refine sp rfl (g_add rfl rfl (by omega) (by omega)) ?_
  refine sp rfl (g_nilCheck rfl) ?_
  refine sp rfl (g_fieldAddr (o' := 0) Tryd.underlying113 rfl Tryd.sizeOf111 rfl rfl rfl) ?_
  refine sp rfl (g_indexArr (o' := x) Tryd.underlying111 Tryd.sizeOf3 rfl rfl (by omega) (by omega) (by omega)) ?_
  refine sb rfl (d_setCel (v := .int .i64 n1) 0 hS Tryd.sizeOf3 rfl (by rw [rtL_len]; omega) rfl (congrArg (Value.int .i64) hn1.symm) rfl rfl) ?_
  rintro _ w_2 ⟨rfl, hS⟩
  refine ⟨_, _, hS, ?_⟩
  rw [show ((rtL A.c A.t)).set (x) (.int .i64 n1) = (rtL (A.c.set x n1) A.t) from by exact rtL_set (by omega)] at hS
  refine sn (thenN ?_)
  refine wpIn_seq ?_
  refine reg ?_
  refine qq hS (g_move _) ?_
  refine qq hS (g_nilCheck rfl) ?_
  refine qq hS (g_fieldAddr (o' := 256) Tryd.underlying113 rfl Tryd.sizeOf3 rfl rfl rfl) ?_
  refine qq hS (g_ldO1 0 Tryd.isAgg3 rfl rfl (rtL_t hc1l)) ?_
  refine qq hS (g_add rfl rfl (by omega) (by omega)) ?_
  refine qq hS (g_nilCheck rfl) ?_
  refine qq hS (g_fieldAddr (o' := 256) Tryd.underlying113 rfl Tryd.sizeOf3 rfl rfl rfl) ?_
  refine qe (d_setCel (v := .int .i64 (A.t + 32)) 0 hS Tryd.sizeOf3 rfl (by rw [rtL_len]; omega) rfl (rfl) rfl rfl) ?_
  clear hS
  rintro _ w_3 ⟨rfl, hS⟩
  rw [show ((rtL (A.c.set x n1) A.t)).set (256) (.int .i64 (A.t + 32)) = (rtL (A.c.set x n1) (A.t + 32)) from by exact rtL_tot hc1l] at hS
  refine ol_nil (thenN ?_)
  refine wpIn_seq ?_
  refine wpIn_seq ?_
  refine reg ?_
  refine qq hS (g_move _) ?_
  refine qq hS (g_nilCheck rfl) ?_
  refine qq hS (g_fieldAddr (o' := 256) Tryd.underlying113 rfl Tryd.sizeOf3 rfl rfl rfl) ?_
  refine qq hS (g_ldO1 0 Tryd.isAgg3 rfl rfl (rtL_t hc1l)) ?_
  refine qq hS (g_leq rfl rfl) ?_
  refine ol_nil (thenN ?_)
  refine cond_s rfl ?_ ?_
  ·
    intro hc26
    try simp only [Bool.and_eq_true, Bool.or_eq_true, Bool.not_eq_true', Bool.and_eq_false_imp, Bool.or_eq_false_iff, Bool.not_eq_false', decide_eq_true_eq, decide_eq_false_iff_not] at hc26
    have he := sawR_le (x := x) hc26
    rw [hg] at he
    refine wpIn_ret ?_
    refine thenR ?_
    refine ret0 Tryd.results63  ?_
    exact ⟨rfl, by rw [he]; exact hS⟩
  ·
    intro hc26
    try simp only [Bool.and_eq_true, Bool.or_eq_true, Bool.not_eq_true', Bool.and_eq_false_imp, Bool.or_eq_false_iff, Bool.not_eq_false', decide_eq_true_eq, decide_eq_false_iff_not] at hc26
    have he := sawR_gt (x := x) hc26
    rw [hg] at he
    refine wpIn_skip ?_
    refine thenN ?_
    refine wpIn_seq ?_
    refine reg ?_
    refine qq hS (g_move _) ?_
    refine qq hS (g_nilCheck rfl) ?_
    refine qq hS (g_fieldAddr (o' := 256) Tryd.underlying113 rfl Tryd.sizeOf3 rfl rfl rfl) ?_
    refine qe (d_setCel (v := .int .i64 0) 0 hS Tryd.sizeOf3 rfl (by rw [rtL_len]; omega) rfl (rfl) rfl rfl) ?_
    clear hS
    rintro _ w_4 ⟨rfl, hS⟩
    rw [show ((rtL (A.c.set x n1) (A.t + 32))).set (256) (.int .i64 0) = (rtL (A.c.set x n1) 0) from by exact rtL_tot hc1l] at hS
    refine ol_nil (thenN ?_)
    refine wpIn_seq ?_
    refine reg ?_
    refine qq hS (g_assignv (v := .int .i64 _) rfl) ?_
    refine ol_nil (thenN ?_)
    refine wpIn_block ?_
    refine loop (fun (i : Nat) σ w => okS σ [(0, .pointer (some ⟨b, 0, none⟩)), (4, .int .i64 i)] ∧ St [b] w0 I0 I0 w [.cel b 113 (rtL (halfU (A.c.set x n1) i) (halfS (A.c.set x n1) i))] ∧ i ≤ 256 ∧ (0 ≤ halfS (A.c.set x n1) i ∧ halfS (A.c.set x n1) i ≤ 65568 * (i : Int))) (fun i => 256 - i) (0) ?_ ?_
    ·
      exact ⟨⟨rfl, rfl, trivial⟩, hS.sel [true], by omega, by simp [halfS]⟩
    ·
      rintro i σ w_l ⟨hs, hS, hi0, hsb0⟩
      rw [← upds_self hs]; clear hs
      refine wpIn_seq ?_
      refine wpIn_seq ?_
      refine reg ?_
      refine qq hS (g_movev (v := .int .i64 _) rfl) ?_
      refine qq hS (g_lss rfl rfl) ?_
      refine ol_nil (thenN ?_)
      refine cond_s rfl ?_ ?_
      ·
        intro hc31
        try simp only [Bool.and_eq_true, Bool.or_eq_true, Bool.not_eq_true', Bool.and_eq_false_imp, Bool.or_eq_false_iff, Bool.not_eq_false', decide_eq_true_eq, decide_eq_false_iff_not] at hc31
        obtain ⟨n, hni⟩ : ∃ n, (A.c.set x n1)[i]? = some n := ⟨_, List.getElem?_eq_getElem (by omega)⟩
        have hnb : 1 ≤ n ∧ n ≤ 65568 := by
          rcases List.mem_or_eq_of_mem_set (List.mem_of_getElem? hni) with h | h
          · have h1 := hA.pos n h
            obtain ⟨j, hj, hjn⟩ := List.getElem_of_mem h
            have h2 := sum_take_le A.c j hA.pos hj
            rw [List.getD_eq_getElem?_getD, List.getElem?_eq_getElem hj, hA.sum] at h2
            simp at h2; omega
          · omega
        have hhf : hf n = (n + 1) / 2 := rfl
        have hlu := halfU_len (A.c.set x n1) i
        have hlu2 := halfU_len (A.c.set x n1) (i + 1)
        have hnh := halfU_at hni
        have hnj : (halfU (A.c.set x n1) (i + 1))[i]? = some (hf n) := by rw [← halfU_set hni, List.getElem?_set, if_pos rfl, if_pos (by rw [halfU_len]; omega)]
        have hss := halfS_succ hni
        have hsb : 0 ≤ halfS (A.c.set x n1) i ∧ halfS (A.c.set x n1) i ≤ 65568 * (i : Int) := hsb0
        refine wpIn_skip ?_
        refine thenN ?_
        refine wpIn_seq ?_
        refine wpIn_block ?_
        refine wpIn_seq ?_
        refine draw (.cons 0 .pure (.cons 1 .pure (.cons 2 .pure (.cons 3 .pure (.cons 4 .pure (.cons 5 .pure (.cons 6 .pure (.cons 7 .held (.cons 8 .pure (.cons 9 .pure (.cons 10 .pure (.cons 11 .pure (.cons 12 .pure (.cons 13 .bar .nil)))))))))))))) mixed (by kernel_rfl) hS ?_
        intro w_5 hS
        refine sp rfl (g_move _) ?_
        refine sp rfl (g_movev (v := .int .i64 _) rfl) ?_
        refine sp rfl (g_move _) ?_
        refine sp rfl (g_movev (v := .int .i64 _) rfl) ?_
        refine sp rfl (g_nilCheck rfl) ?_
        refine sp rfl (g_fieldAddr (o' := 0) Tryd.underlying113 rfl Tryd.sizeOf111 rfl rfl rfl) ?_
        refine sp rfl (g_indexArr (o' := i) Tryd.underlying111 Tryd.sizeOf3 rfl rfl (by omega) (by omega) (by omega)) ?_
        refine sh rfl (g_ldO1 0 Tryd.isAgg3 rfl rfl (rtL_at hnh)) ?_
        refine sp rfl (g_add rfl rfl (by omega) (by omega)) ?_
        refine sp rfl (g_quo rfl rfl (by omega) (by decide) (by omega)) ?_
        refine sp rfl (g_nilCheck rfl) ?_
        refine sp rfl (g_fieldAddr (o' := 0) Tryd.underlying113 rfl Tryd.sizeOf111 rfl rfl rfl) ?_
        refine sp rfl (g_indexArr (o' := i) Tryd.underlying111 Tryd.sizeOf3 rfl rfl (by omega) (by omega) (by omega)) ?_
        refine sb rfl (d_setCel (v := .int .i64 (hf n)) 0 hS Tryd.sizeOf3 rfl (by rw [rtL_len]; omega) rfl (rfl) rfl rfl) ?_
        rintro _ w_6 ⟨rfl, hS⟩
        refine ⟨_, _, hS, ?_⟩
        rw [show ((rtL (halfU (A.c.set x n1) i) (halfS (A.c.set x n1) i))).set (i) (.int .i64 (hf n)) = (rtL (halfU (A.c.set x n1) (i + 1)) (halfS (A.c.set x n1) i)) from by rw [rtL_set (by rw [halfU_len]; omega), halfU_set hni]] at hS
        refine sn (thenN ?_)
        refine draw (.cons 0 .pure (.cons 1 .pure (.cons 2 .pure (.cons 3 .held (.cons 4 .pure (.cons 5 .pure (.cons 6 .pure (.cons 7 .pure (.cons 8 .pure (.cons 9 .held (.cons 10 .pure (.cons 11 .pure (.cons 12 .pure (.cons 13 .bar .nil)))))))))))))) mixed (by kernel_rfl) hS ?_
        intro w_7 hS
        refine sp rfl (g_move _) ?_
        refine sp rfl (g_nilCheck rfl) ?_
        refine sp rfl (g_fieldAddr (o' := 256) Tryd.underlying113 rfl Tryd.sizeOf3 rfl rfl rfl) ?_
        refine sh rfl (g_ldO1 0 Tryd.isAgg3 rfl rfl (rtL_t (by rw [halfU_len]; exact hc1l))) ?_
        refine sp rfl (g_move _) ?_
        refine sp rfl (g_movev (v := .int .i64 _) rfl) ?_
        refine sp rfl (g_nilCheck rfl) ?_
        refine sp rfl (g_fieldAddr (o' := 0) Tryd.underlying113 rfl Tryd.sizeOf111 rfl rfl rfl) ?_
        refine sp rfl (g_indexArr (o' := i) Tryd.underlying111 Tryd.sizeOf3 rfl rfl (by omega) (by omega) (by omega)) ?_
        refine sh rfl (g_ldO1 0 Tryd.isAgg3 rfl rfl (rtL_at hnj)) ?_
        refine sp rfl (g_add rfl rfl (by omega) (by omega)) ?_
        refine sp rfl (g_nilCheck rfl) ?_
        refine sp rfl (g_fieldAddr (o' := 256) Tryd.underlying113 rfl Tryd.sizeOf3 rfl rfl rfl) ?_
        refine sb rfl (d_setCel (v := .int .i64 (halfS (A.c.set x n1) (i + 1))) 0 hS Tryd.sizeOf3 rfl (by rw [rtL_len]; omega) rfl (congrArg (Value.int .i64) hss.symm) rfl rfl) ?_
        rintro _ w_8 ⟨rfl, hS⟩
        refine ⟨_, _, hS, ?_⟩
        rw [show ((rtL (halfU (A.c.set x n1) (i + 1)) (halfS (A.c.set x n1) i))).set (256) (.int .i64 (halfS (A.c.set x n1) (i + 1))) = (rtL (halfU (A.c.set x n1) (i + 1)) (halfS (A.c.set x n1) (i + 1))) from by exact rtL_tot (by rw [halfU_len]; exact hc1l)] at hS
        refine sn (blkN (thenN ?_))
        refine reg ?_
        refine qq hS (g_movev (v := .int .i64 _) rfl) ?_
        refine qq hS (g_add rfl rfl (by omega) (by omega)) ?_
        refine qq hS (g_assignv (v := .int .i64 _) rfl) ?_
        exact ⟨i + 1, _, rfl, ⟨⟨rfl, rfl, trivial⟩, hS.sel [true], by omega, by omega⟩, by omega⟩
      ·
        intro hc31
        try simp only [Bool.and_eq_true, Bool.or_eq_true, Bool.not_eq_true', Bool.and_eq_false_imp, Bool.or_eq_false_iff, Bool.not_eq_false', decide_eq_true_eq, decide_eq_false_iff_not] at hc31
        obtain rfl : i = 256 := by omega
        have hsf : halfS (A.c.set x n1) (A.c.set x n1).length = ((A.c.set x n1).map hf).sum := by unfold halfS; rw [List.take_length]
        rw [show (256 : Nat) = (A.c.set x n1).length from hc1l.symm, halfU_all, hsf] at hS
        refine wpIn_exit ?_
        refine thenE (thenE (blkE ?_))
        refine end0 Tryd.results63  ?_
        exact ⟨rfl, by rw [he]; exact hS⟩

end Go.Proofs.YtdgnojckkjfhfaaDoor

