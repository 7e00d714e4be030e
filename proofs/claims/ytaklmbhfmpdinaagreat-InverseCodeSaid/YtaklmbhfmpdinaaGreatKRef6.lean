/- The functions of package inlayref06 that look at patches: what they compute. Conditions: numbers within bounds. inlayref06.Symbols: what it computes. Conditions: numbers within bounds. The functions of package inlayref06 that make patches and symbols of descriptions: what they compute. Conditions: numbers within bounds. -/
import Derived.Test.YtaklmbhfmpdinaaGreatKSmall
import Derived.Test.YtaklmbhfmpdinaaGreatKCore2
namespace Go.Proofs.YtaklmbhfmpdinaaGreat
open Go Go.RowKit Go.Inl
set_option linter.unusedSimpArgs false
set_option linter.unusedVariables false
def sameOps (a b : List OpL) (k : Nat) : Bool := ((a.zip b).drop k).all fun p => sameOpS p.1 p.2
def samePR (a b : PatL) : Bool := a.lifted == b.lifted && decide (a.in_ = b.in_) && decide (a.out = b.out) && decide (a.ops.length = b.ops.length) && sameOps a.ops b.ops 0
theorem sameOps_step {a b : List OpL} {k : Nat} {x y : OpL} (hx : a[k]? = some x) (hy : b[k]? = some y) : sameOps a b k = (sameOpS x y && sameOps a b (k + 1)) := by
  have h : (a.zip b)[k]? = some (x, y) := List.getElem?_zip_eq_some.2 ⟨hx, hy⟩
  unfold sameOps
  rw [drop_cons h]; rfl
theorem sameOps_end {a b : List OpL} {k : Nat} (h : a.length ≤ k) : sameOps a b k = true := by
  unfold sameOps
  rw [List.drop_of_length_le (by rw [List.length_zip]; omega)]; rfl
theorem checkRGo_bad {n out s i : Int} {x : OpL} {r : List OpL} (h : (!rightR x n || decide (out < s + x.len)) = true) : checkRGo n out (x :: r) s i = (i, 60) := by
  simp only [checkRGo, h, if_true]
theorem checkRGo_good {n out s i : Int} {x : OpL} {r : List OpL} (h : (!rightR x n || decide (out < s + x.len)) = false) : checkRGo n out (x :: r) s i = checkRGo n out r (s + x.len) (i + 1) := by
  simp [checkRGo, h]
theorem rightR_len {x : OpL} {n : Int} (h : rightR x n = true) : 1 ≤ x.len ∧ x.len ≤ 65536 := by
  unfold rightR inS at h
  rw [Bool.and_eq_true] at h
  have := h.1
  simp only [Bool.and_eq_true, decide_eq_true_eq] at this
  exact this
theorem rightR_f {x : OpL} {n : Int} (h : inS x.len 1 65536 = false) : rightR x n = false := by unfold rightR; rw [h]; rfl
theorem rightR_1 {x : OpL} {n : Int} (h : inS x.len 1 65536 = true) (k : x.kind = 1) : rightR x n = (inS x.from_ 0 (n - x.len) && decide (x.b = 0) && decide ((x.data.length : Int) = 0)) := by
  unfold rightR; rw [h, if_pos k]; rfl
theorem rightR_2 {x : OpL} {n : Int} (h : inS x.len 1 65536 = true) (k : x.kind = 2) : rightR x n = (inS x.from_ 0 (n - x.len) && decide (x.b = 0) && decide ((x.data.length : Int) = x.len)) := by
  unfold rightR; rw [h, if_neg (by omega), if_pos k]; rfl
theorem rightR_3 {x : OpL} {n : Int} (h : inS x.len 1 65536 = true) (k : x.kind = 3) : rightR x n = (decide (x.from_ = 0) && decide ((x.data.length : Int) = 0)) := by
  unfold rightR; rw [h, if_neg (by omega), if_neg (by omega), if_pos k]; rfl
theorem rightR_4 {x : OpL} {n : Int} (h : inS x.len 1 65536 = true) (k : x.kind = 4) : rightR x n = (decide (x.from_ = 0) && decide (x.b = 0) && decide ((x.data.length : Int) = x.len)) := by
  unfold rightR; rw [h, if_neg (by omega), if_neg (by omega), if_neg (by omega), if_pos k]; rfl
theorem rightR_o {x : OpL} {n : Int} (k1 : ¬ x.kind = 1) (k2 : ¬ x.kind = 2) (k3 : ¬ x.kind = 3) (k4 : ¬ x.kind = 4) : rightR x n = false := by
  unfold rightR; rw [if_neg k1, if_neg k2, if_neg k3, if_neg k4, Bool.and_false]

theorem in_c (n lo hi : Int) (w0 : World) (I0 : Imm) (hI : Sat I0 w0) : Ctr Tryz.prog 75 [.int .i64 n, .int .i64 lo, .int .i64 hi] w0 (fun v w' => v = .bool (inS n lo hi) ∧ Ext w0 I0 w' I0) := by
  refine fn (n := 15) Tryz.func75 rfl rfl rfl ?_
  have hS := St.start hI
  refine wpIn_seq ?_
  refine reg ?_
  refine qq hS (g_assignv (v := .bool _) rfl) ?_
  refine ol_nil (thenN ?_)
  refine wpIn_seq ?_
  refine reg ?_
  refine qq hS (g_movev (v := .int .i64 _) rfl) ?_
  refine qq hS (g_movev (v := .int .i64 _) rfl) ?_
  refine qq hS (g_geq rfl rfl) ?_
  refine qq hS (g_movev (v := .bool _) rfl) ?_
  refine qu rfl rfl hS (fun hg => (g_movev (v := .int .i64 _) rfl)) ?_
  intro u11 hu11 hn11
  refine qu rfl rfl hS (fun hg => (g_movev (v := .int .i64 _) rfl)) ?_
  intro u12 hu12 hn12
  refine qu rfl rfl hS (fun hg => (g_leq (hu11 hg) (hu12 hg))) ?_
  intro u13 hu13 hn13
  refine qq hS (g_and rfl rfl (fun hq => hu13 hq)) ?_
  refine qq hS (g_assignv (v := .bool _) rfl) ?_
  refine ol_nil (thenN ?_)
  refine wpIn_ret ?_
  refine ret1 Tryz.results75 (rv_tmp (v := .bool _) rfl) ?_
  exact ⟨rfl, hS.nil⟩

theorem rightOp_c (x : OpL) (ad : Option Addr) (m cap : Nat) (n : Int) (w0 : World) (I0 : Imm) (hI : Sat I0 w0) (hd : RBytes I0 (.slice ad m cap) x.data) (hx : x.wf) (hn : Mid n) :
    Ctr Tryz.prog 76 [opV x ad m cap, .int .i64 n] w0 (fun v w' => v = .bool (rightR x n) ∧ Ext w0 I0 w' I0) := by
  obtain ⟨⟨k1, k2⟩, ⟨f1, f2⟩, ⟨l1, l2⟩, ⟨b1, b2⟩, hdat⟩ := hx
  obtain ⟨n1, n2⟩ := hn
  refine fn (n := 78) Tryz.func76 rfl rfl rfl ?_
  have hS := St.start hI
  refine wpIn_seq ?_
  refine reg ?_
  refine qe (d_box (cs := [.int .i64 _, .int .i64 _, .int .i64 _, .int .u8 _, .slice _ _ _]) hS rfl) ?_
  clear hS
  rintro _ w_1 ⟨b_1, rfl, hS⟩
  refine qq hS (g_assignv (v := .bool _) rfl) ?_
  refine ol_nil (thenN ?_)
  refine wpIn_seq ?_
  refine wpIn_seq ?_
  refine reg ?_
  refine qq hS (g_fieldAddr (o' := 2) Tryz.underlying53 rfl Tryz.sizeOf3 rfl rfl rfl) ?_
  refine qq hS (g_ldO1 0 Tryz.isAgg3 rfl rfl rfl) ?_
  refine qe (d_call Tryz.call75 rfl (in_c _ _ _ _ I0 hS.imm)) ?_
  rintro _ w_2 ⟨rfl, hE⟩
  replace hS := hS.callE hE
  refine qq hS (g_not rfl) ?_
  refine ol_nil (thenN ?_)
  refine cond_s rfl ?_ ?_
  ·
    intro hc9
    simp only [Bool.not_eq_true', Bool.not_eq_false'] at hc9
    have e := rightR_f (n := n) hc9
    refine wpIn_seq ?_
    refine reg ?_
    refine qq hS (g_assignv (v := .bool _) rfl) ?_
    refine ol_nil (thenN ?_)
    refine wpIn_ret ?_
    refine thenR ?_
    refine ret1 Tryz.results76 (rv_tmp (v := .bool _) rfl) ?_
    rw [e]; exact ⟨rfl, hS.nil⟩
  ·
    intro hc9
    simp only [Bool.not_eq_true', Bool.not_eq_false'] at hc9
    refine wpIn_skip ?_
    refine thenN ?_
    refine wpIn_seq ?_
    refine reg ?_
    refine qq hS (g_fieldAddr (o' := 1) Tryz.underlying53 rfl Tryz.sizeOf3 rfl rfl rfl) ?_
    refine qq hS (g_ldO1 0 Tryz.isAgg3 rfl rfl rfl) ?_
    refine qq hS (g_movev (v := .int .i64 _) rfl) ?_
    refine qq hS (g_fieldAddr (o' := 2) Tryz.underlying53 rfl Tryz.sizeOf3 rfl rfl rfl) ?_
    refine qq hS (g_ldO1 0 Tryz.isAgg3 rfl rfl rfl) ?_
    refine qq hS (g_sub rfl rfl (by omega) (by omega)) ?_
    refine qe (d_call Tryz.call75 rfl (in_c _ _ _ _ I0 hS.imm)) ?_
    rintro _ w_3 ⟨rfl, hE⟩
    replace hS := hS.callE hE
    refine qq hS (g_assignv (v := .bool _) rfl) ?_
    refine ol_nil (thenN ?_)
    refine wpIn_seq ?_
    refine wpIn_seq ?_
    refine reg ?_
    refine qq hS (g_fieldAddr (o' := 0) Tryz.underlying53 rfl Tryz.sizeOf3 rfl rfl rfl) ?_
    refine qq hS (g_ldO1 0 Tryz.isAgg3 rfl rfl rfl) ?_
    refine ol_nil (thenN ?_)
    refine wpIn_block ?_
    refine wpIn_seq ?_
    refine reg ?_
    refine qq hS (g_eql rfl rfl) ?_
    refine qq hS (g_assignv (v := .bool _) rfl) ?_
    refine ol_nil (thenN ?_)
    refine cond_s rfl ?_ ?_
    ·
      intro hc19
      simp only [decide_eq_true_eq, decide_eq_false_iff_not] at hc19
      have e := rightR_1 (n := n) hc9 hc19
      refine wpIn_seq ?_
      refine reg ?_
      refine qq hS (g_movev (v := .bool _) rfl) ?_
      refine qq hS (g_movev (v := .bool _) rfl) ?_
      refine qu rfl rfl hS (fun hg => (g_fieldAddr (o' := 3) Tryz.underlying53 rfl Tryz.sizeOf5 rfl rfl rfl)) ?_
      intro u23 hu23 hn23
      refine qu rfl rfl hS (fun hg => (g_ldO1 0 Tryz.isAgg5 rfl (hu23 hg) rfl)) ?_
      intro u24 hu24 hn24
      refine qu rfl rfl hS (fun hg => (g_eql (hu24 hg) rfl)) ?_
      intro u25 hu25 hn25
      refine qq hS (g_and rfl rfl (fun hq => hu25 hq)) ?_
      refine qq hS (g_movev (v := .bool _) rfl) ?_
      refine qu rfl rfl hS (fun hg => (g_fieldAddr (o' := 4) Tryz.underlying53 rfl Tryz.sizeOf25 rfl rfl rfl)) ?_
      intro u28 hu28 hn28
      refine qu rfl rfl hS (fun hg => (g_ldO1 0 Tryz.isAgg25 rfl (hu28 hg) rfl)) ?_
      intro u29 hu29 hn29
      refine qu rfl rfl hS (fun hg => (g_lenI rfl Tryz.underlying25 hd (hu29 hg))) ?_
      intro u30 hu30 hn30
      refine qu rfl rfl hS (fun hg => (g_eql (hu30 hg) rfl)) ?_
      intro u31 hu31 hn31
      refine qq hS (g_and rfl rfl (fun hq => hu31 hq)) ?_
      refine qq hS (g_assignv (v := .bool _) rfl) ?_
      refine ol_nil (thenN ?_)
      refine wpIn_ret ?_
      refine blkR (thenR ?_)
      refine ret1 Tryz.results76 (rv_tmp (v := .bool _) rfl) ?_
      rw [e]; exact ⟨rfl, hS.nil⟩
    ·
      intro hc19
      simp only [decide_eq_true_eq, decide_eq_false_iff_not] at hc19
      refine wpIn_seq ?_
      refine reg ?_
      refine qq hS (g_eql rfl rfl) ?_
      refine qq hS (g_assignv (v := .bool _) rfl) ?_
      refine ol_nil (thenN ?_)
      refine cond_s rfl ?_ ?_
      ·
        intro hc33
        simp only [decide_eq_true_eq, decide_eq_false_iff_not] at hc33
        have e := rightR_2 (n := n) hc9 hc33
        refine wpIn_seq ?_
        refine reg ?_
        refine qq hS (g_movev (v := .bool _) rfl) ?_
        refine qq hS (g_movev (v := .bool _) rfl) ?_
        refine qu rfl rfl hS (fun hg => (g_fieldAddr (o' := 3) Tryz.underlying53 rfl Tryz.sizeOf5 rfl rfl rfl)) ?_
        intro u37 hu37 hn37
        refine qu rfl rfl hS (fun hg => (g_ldO1 0 Tryz.isAgg5 rfl (hu37 hg) rfl)) ?_
        intro u38 hu38 hn38
        refine qu rfl rfl hS (fun hg => (g_eql (hu38 hg) rfl)) ?_
        intro u39 hu39 hn39
        refine qq hS (g_and rfl rfl (fun hq => hu39 hq)) ?_
        refine qq hS (g_movev (v := .bool _) rfl) ?_
        refine qu rfl rfl hS (fun hg => (g_fieldAddr (o' := 4) Tryz.underlying53 rfl Tryz.sizeOf25 rfl rfl rfl)) ?_
        intro u42 hu42 hn42
        refine qu rfl rfl hS (fun hg => (g_ldO1 0 Tryz.isAgg25 rfl (hu42 hg) rfl)) ?_
        intro u43 hu43 hn43
        refine qu rfl rfl hS (fun hg => (g_lenI rfl Tryz.underlying25 hd (hu43 hg))) ?_
        intro u44 hu44 hn44
        refine qu rfl rfl hS (fun hg => (g_fieldAddr (o' := 2) Tryz.underlying53 rfl Tryz.sizeOf3 rfl rfl rfl)) ?_
        intro u45 hu45 hn45
        refine qu rfl rfl hS (fun hg => (g_ldO1 0 Tryz.isAgg3 rfl (hu45 hg) rfl)) ?_
        intro u46 hu46 hn46
        refine qu rfl rfl hS (fun hg => (g_eql (hu44 hg) (hu46 hg))) ?_
        intro u47 hu47 hn47
        refine qq hS (g_and rfl rfl (fun hq => hu47 hq)) ?_
        refine qq hS (g_assignv (v := .bool _) rfl) ?_
        refine ol_nil (thenN ?_)
        refine wpIn_ret ?_
        refine blkR (thenR ?_)
        refine ret1 Tryz.results76 (rv_tmp (v := .bool _) rfl) ?_
        rw [e]; exact ⟨rfl, hS.nil⟩
      ·
        intro hc33
        simp only [decide_eq_true_eq, decide_eq_false_iff_not] at hc33
        refine wpIn_seq ?_
        refine reg ?_
        refine qq hS (g_eql rfl rfl) ?_
        refine qq hS (g_assignv (v := .bool _) rfl) ?_
        refine ol_nil (thenN ?_)
        refine cond_s rfl ?_ ?_
        ·
          intro hc49
          simp only [decide_eq_true_eq, decide_eq_false_iff_not] at hc49
          have e := rightR_3 (n := n) hc9 hc49
          refine wpIn_seq ?_
          refine reg ?_
          refine qq hS (g_fieldAddr (o' := 1) Tryz.underlying53 rfl Tryz.sizeOf3 rfl rfl rfl) ?_
          refine qq hS (g_ldO1 0 Tryz.isAgg3 rfl rfl rfl) ?_
          refine qq hS (g_eql rfl rfl) ?_
          refine qq hS (g_movev (v := .bool _) rfl) ?_
          refine qu rfl rfl hS (fun hg => (g_fieldAddr (o' := 4) Tryz.underlying53 rfl Tryz.sizeOf25 rfl rfl rfl)) ?_
          intro u55 hu55 hn55
          refine qu rfl rfl hS (fun hg => (g_ldO1 0 Tryz.isAgg25 rfl (hu55 hg) rfl)) ?_
          intro u56 hu56 hn56
          refine qu rfl rfl hS (fun hg => (g_lenI rfl Tryz.underlying25 hd (hu56 hg))) ?_
          intro u57 hu57 hn57
          refine qu rfl rfl hS (fun hg => (g_eql (hu57 hg) rfl)) ?_
          intro u58 hu58 hn58
          refine qq hS (g_and rfl rfl (fun hq => hu58 hq)) ?_
          refine qq hS (g_assignv (v := .bool _) rfl) ?_
          refine ol_nil (thenN ?_)
          refine wpIn_ret ?_
          refine blkR (thenR ?_)
          refine ret1 Tryz.results76 (rv_tmp (v := .bool _) rfl) ?_
          rw [e]; exact ⟨rfl, hS.nil⟩
        ·
          intro hc49
          simp only [decide_eq_true_eq, decide_eq_false_iff_not] at hc49
          refine wpIn_seq ?_
          refine reg ?_
          refine qq hS (g_eql rfl rfl) ?_
          refine qq hS (g_assignv (v := .bool _) rfl) ?_
          refine ol_nil (thenN ?_)
          refine cond_s rfl ?_ ?_
          ·
            intro hc60
            simp only [decide_eq_true_eq, decide_eq_false_iff_not] at hc60
            have e := rightR_4 (n := n) hc9 hc60
            refine wpIn_seq ?_
            refine reg ?_
            refine qq hS (g_fieldAddr (o' := 1) Tryz.underlying53 rfl Tryz.sizeOf3 rfl rfl rfl) ?_
            refine qq hS (g_ldO1 0 Tryz.isAgg3 rfl rfl rfl) ?_
            refine qq hS (g_eql rfl rfl) ?_
            refine qq hS (g_movev (v := .bool _) rfl) ?_
            refine qu rfl rfl hS (fun hg => (g_fieldAddr (o' := 3) Tryz.underlying53 rfl Tryz.sizeOf5 rfl rfl rfl)) ?_
            intro u66 hu66 hn66
            refine qu rfl rfl hS (fun hg => (g_ldO1 0 Tryz.isAgg5 rfl (hu66 hg) rfl)) ?_
            intro u67 hu67 hn67
            refine qu rfl rfl hS (fun hg => (g_eql (hu67 hg) rfl)) ?_
            intro u68 hu68 hn68
            refine qq hS (g_and rfl rfl (fun hq => hu68 hq)) ?_
            refine qq hS (g_movev (v := .bool _) rfl) ?_
            refine qu rfl rfl hS (fun hg => (g_fieldAddr (o' := 4) Tryz.underlying53 rfl Tryz.sizeOf25 rfl rfl rfl)) ?_
            intro u71 hu71 hn71
            refine qu rfl rfl hS (fun hg => (g_ldO1 0 Tryz.isAgg25 rfl (hu71 hg) rfl)) ?_
            intro u72 hu72 hn72
            refine qu rfl rfl hS (fun hg => (g_lenI rfl Tryz.underlying25 hd (hu72 hg))) ?_
            intro u73 hu73 hn73
            refine qu rfl rfl hS (fun hg => (g_fieldAddr (o' := 2) Tryz.underlying53 rfl Tryz.sizeOf3 rfl rfl rfl)) ?_
            intro u74 hu74 hn74
            refine qu rfl rfl hS (fun hg => (g_ldO1 0 Tryz.isAgg3 rfl (hu74 hg) rfl)) ?_
            intro u75 hu75 hn75
            refine qu rfl rfl hS (fun hg => (g_eql (hu73 hg) (hu75 hg))) ?_
            intro u76 hu76 hn76
            refine qq hS (g_and rfl rfl (fun hq => hu76 hq)) ?_
            refine qq hS (g_assignv (v := .bool _) rfl) ?_
            refine ol_nil (thenN ?_)
            refine wpIn_ret ?_
            refine blkR (thenR ?_)
            refine ret1 Tryz.results76 (rv_tmp (v := .bool _) rfl) ?_
            rw [e]; exact ⟨rfl, hS.nil⟩
          ·
            intro hc60
            simp only [decide_eq_true_eq, decide_eq_false_iff_not] at hc60
            have e := rightR_o (n := n) hc19 hc33 hc49 hc60
            refine wpIn_skip ?_
            refine blkN (thenN ?_)
            refine wpIn_seq ?_
            refine reg ?_
            refine qq hS (g_assignv (v := .bool _) rfl) ?_
            refine ol_nil (thenN ?_)
            refine wpIn_ret ?_
            refine ret1 Tryz.results76 (rv_tmp (v := .bool _) rfl) ?_
            rw [e]; exact ⟨rfl, hS.nil⟩

set_option maxHeartbeats 1000000 in
theorem checkR_c (p : PatL) (ad : Option Addr) (m cap : Nat) (w0 : World) (I0 : Imm) (hI : Sat I0 w0) (hops : ROps I0 (.slice ad m cap) p.ops) (hp : p.wf) :
    Ctr Tryz.prog 38 [.agg #[.bool p.lifted, .int .i64 p.in_, .int .i64 p.out, .slice ad m cap]] w0 (fun v w' => v = .tuple #[.int .i64 (checkR p).1, .int .i64 (checkR p).2] ∧ Ext w0 I0 w' I0) := by
  refine fn (n := 70) Tryz.func38 rfl rfl rfl ?_
  have hS := St.start hI
  refine wpIn_seq ?_
  refine reg ?_
  refine qe (d_box (cs := [.bool _, .int .i64 _, .int .i64 _, .slice _ _ _]) hS rfl) ?_
  clear hS
  rintro _ w_1 ⟨b1, rfl, hS⟩
  refine qq hS (g_assignv (v := .int .i64 _) rfl) ?_
  refine qq hS (g_assignv (v := .int .i64 _) rfl) ?_
  refine ol_nil (thenN ?_)
  refine wpIn_seq ?_
  refine wpIn_seq ?_
  refine reg ?_
  refine qq hS (g_fieldAddr (o' := 1) Tryz.underlying31 rfl Tryz.sizeOf3 rfl rfl rfl) ?_
  refine qq hS (g_ldO1 0 Tryz.isAgg3 rfl rfl rfl) ?_
  refine qe (d_call Tryz.call75 rfl (in_c _ _ _ _ I0 hS.imm)) ?_
  rintro _ w_2 ⟨rfl, hE⟩
  replace hS := hS.callE hE
  refine qq hS (g_not rfl) ?_
  refine qq hS (g_movev (v := .bool _) rfl) ?_
  refine qu rfl rfl hS (fun hg => (g_fieldAddr (o' := 2) Tryz.underlying31 rfl Tryz.sizeOf3 rfl rfl rfl)) ?_
  intro u11 hu11 hn11
  refine qu rfl rfl hS (fun hg => (g_ldO1 0 Tryz.isAgg3 rfl (hu11 hg) rfl)) ?_
  intro u12 hu12 hn12
  refine cvu rfl rfl hS (fun hg => (d_call Tryz.call75 (ml (hu12 hg) (ml rfl (ml rfl ml0))) (in_c _ _ _ _ I0 hS.imm))) ?_
  intro w_4 u13 hS hu13 hn13
  refine qu rfl rfl hS (fun hg => (g_not (hu13 hg))) ?_
  intro u14 hu14 hn14
  refine qq hS (g_or rfl rfl (fun hq => hu14 hq)) ?_
  refine qq hS (g_movev (v := .bool _) rfl) ?_
  refine qu rfl rfl hS (fun hg => (g_fieldAddr (o' := 3) Tryz.underlying31 rfl Tryz.sizeOf29 rfl rfl rfl)) ?_
  intro u17 hu17 hn17
  refine qu rfl rfl hS (fun hg => (g_ldO1 0 Tryz.isAgg29 rfl (hu17 hg) rfl)) ?_
  intro u18 hu18 hn18
  refine qu rfl rfl hS (fun hg => (g_lenI rfl Tryz.underlying29 hops (hu18 hg))) ?_
  intro u19 hu19 hn19
  refine qu rfl rfl hS (fun hg => (g_gtr (hu19 hg) rfl)) ?_
  intro u20 hu20 hn20
  refine qq hS (g_or rfl rfl (fun hq => hu20 hq)) ?_
  refine ol_nil (thenN ?_)
  refine cond_s rfl ?_ ?_
  ·
    intro hc21
    clear hu11 hn11 hu12 hn12 hu13 hn13 hu14 hn14 hu17 hn17 hu18 hn18 hu19 hn19 hu20 hn20
    have e : checkR p = (-1, 60) := by unfold checkR; rw [if_pos]; exact hc21
    refine wpIn_seq ?_
    refine reg ?_
    refine qq hS (g_assignv (v := .int .i64 _) rfl) ?_
    refine qq hS (g_assignv (v := .int .i64 _) rfl) ?_
    refine ol_nil (thenN ?_)
    refine wpIn_ret ?_
    refine thenR ?_
    refine ret2 Tryz.results38 (rv_tmp (v := .int .i64 _) rfl) (rv_tmp (v := .int .i64 _) rfl) ?_
    rw [e]; exact ⟨rfl, hS.nil⟩
  ·
    intro hc21
    clear hu11 hn11 hu12 hn12 hu13 hn13 hu14 hn14 hu17 hn17 hu18 hn18 hu19 hn19 hu20 hn20
    have e0 : checkR p = checkRGo p.in_ p.out p.ops 0 0 := by unfold checkR; rw [if_neg]; rw [Bool.not_eq_true]; exact hc21
    have hb := hc21
    simp only [Bool.or_eq_false_iff, Bool.not_eq_false', inS, Bool.and_eq_true, decide_eq_true_eq, decide_eq_false_iff_not] at hb
    obtain ⟨⟨⟨hb1, hb2⟩, hb3, hb4⟩, hb5⟩ := hb
    refine wpIn_skip ?_
    refine thenN ?_
    refine wpIn_seq ?_
    refine reg ?_
    refine qq hS (g_assignv (v := .int .i64 _) rfl) ?_
    refine ol_nil (thenN ?_)
    refine wpIn_seq ?_
    refine wpIn_seq ?_
    refine reg ?_
    refine qq hS (g_assignv (v := .int .i64 _) rfl) ?_
    refine ol_nil (thenN ?_)
    refine wpIn_block ?_
    refine loop (fun (x : Nat × Int) σ w => okS σ [(1, .pointer (some ⟨b1, 0, none⟩)), (4, .int .i64 x.2), (5, .int .i64 x.1)] ∧ St [] w0 I0 I0 w [.cel b1 31 [.bool p.lifted, .int .i64 p.in_, .int .i64 p.out, .slice ad m cap]] ∧ x.1 ≤ p.ops.length ∧ 0 ≤ x.2 ∧ x.2 ≤ 65536 ∧ checkRGo p.in_ p.out (p.ops.drop x.1) x.2 x.1 = checkRGo p.in_ p.out p.ops 0 0) (fun x => p.ops.length - x.1) ((0, 0)) ?_ ?_
    ·
      exact ⟨⟨rfl, rfl, rfl, trivial⟩, hS.sel [true], by simp, by decide, by decide, rfl⟩
    ·
      rintro ⟨k, s⟩ σ w_l ⟨hs, hS, hk0, hl0, hl1, hgo⟩
      dsimp only at hs hS hk0 hl0 hl1 hgo ⊢
      rw [← upds_self hs]; clear hs
      have hml := RSl.le hops
      simp only [maxLen] at hml
      refine wpIn_seq ?_
      refine wpIn_seq ?_
      refine reg ?_
      refine qq hS (g_movev (v := .int .i64 _) rfl) ?_
      refine qq hS (g_fieldAddr (o' := 3) Tryz.underlying31 rfl Tryz.sizeOf29 rfl rfl rfl) ?_
      refine qq hS (g_ldO1 0 Tryz.isAgg29 rfl rfl rfl) ?_
      refine qq hS (g_lenI rfl Tryz.underlying29 hops rfl) ?_
      refine qq hS (g_lss rfl rfl) ?_
      refine ol_nil (thenN ?_)
      refine cond_s rfl ?_ ?_
      ·
        intro hc26
        try simp only [Bool.and_eq_true, Bool.or_eq_true, Bool.not_eq_true', Bool.and_eq_false_imp, Bool.or_eq_false_iff, Bool.not_eq_false', decide_eq_true_eq, decide_eq_false_iff_not] at hc26
        obtain ⟨x, hx⟩ : ∃ x, p.ops[k]? = some x := ⟨_, List.getElem?_eq_getElem (by omega)⟩
        have hxm := List.mem_of_getElem? hx
        obtain ⟨cs, hcl, hoA, hro⟩ := RSl.at hops hx
        obtain ⟨adx, mx, capx, rfl, hd⟩ := hro
        have hxw := hp.ops x hxm
        obtain ⟨lx1, lx2⟩ := hxw.len
        rw [drop_cons hx] at hgo
        refine wpIn_skip ?_
        refine thenN ?_
        refine wpIn_seq ?_
        refine wpIn_block ?_
        refine wpIn_seq ?_
        refine wpIn_seq ?_
        refine draw (.cons 0 .pure (.cons 1 .held (.cons 2 .pure (.cons 3 .pure (.cons 4 .held (.cons 5 .pure (.cons 6 .held (.cons 7 .eff (.cons 8 .pure (.cons 9 .pure (.cons 10 .pure (.cons 11 .pure (.cons 12 .held (.cons 13 .pure (.cons 14 .pure (.cons 15 .pure (.cons 16 .held (.cons 17 .pure (.cons 18 .pure (.cons 19 .held (.cons 20 .pure (.cons 21 .pure .nil)))))))))))))))))))))) mixed (by kernel_rfl) hS ?_
        intro w_5 hS
        refine sp rfl (g_fieldAddr (o' := 3) Tryz.underlying31 rfl Tryz.sizeOf29 rfl rfl rfl) ?_
        refine sh rfl (g_ldO1 0 Tryz.isAgg29 rfl rfl rfl) ?_
        refine sp rfl (g_movev (v := .int .i64 _) rfl) ?_
        refine sp rfl (g_ixI Tryz.underlying29 Tryz.sizeOf53 hops rfl rfl (by omega) (by omega)) ?_
        refine sh rfl (g_ldE (us := [.int .i64 _, .int .i64 _, .int .i64 _, .int .u8 _, .slice _ _ _]) Tryz.sizeOf53 Tryz.isAgg53 hoA rfl rfl rfl) ?_
        refine sp rfl (g_fieldAddr (o' := 1) Tryz.underlying31 rfl Tryz.sizeOf3 rfl rfl rfl) ?_
        refine sh rfl (g_ldO1 0 Tryz.isAgg3 rfl rfl rfl) ?_
        have hS0 := hS
        refine se rfl (d_call Tryz.call76 rfl (rightOp_c x adx mx capx p.in_ _ I0 hS.imm hd hxw hp.in_)) ?_
        rintro _ w_6 ⟨rfl, hE⟩
        replace hS := hS.call hE
        refine ⟨_, _, hS0.le hE.ext (List.Sublist.refl _), hS, ?_⟩
        refine sp rfl (g_not rfl) ?_
        refine sp rfl (g_movev (v := .bool _) rfl) ?_
        refine spu rfl rfl rfl (fun hg => (g_movev (v := .int .i64 _) rfl)) ?_
        intro u39 hu39 hn39
        refine spu rfl rfl rfl (fun hg => (g_fieldAddr (o' := 3) Tryz.underlying31 rfl Tryz.sizeOf29 rfl rfl rfl)) ?_
        intro u40 hu40 hn40
        refine shu rfl rfl rfl (fun hg => (g_ldO1 0 Tryz.isAgg29 rfl (hu40 hg) rfl)) ?_
        intro u41 hu41 hn41
        refine spu rfl rfl rfl (fun hg => (g_movev (v := .int .i64 _) rfl)) ?_
        intro u42 hu42 hn42
        refine spu rfl rfl rfl (fun hg => (g_ixI Tryz.underlying29 Tryz.sizeOf53 hops (hu41 hg) (hu42 hg) (by omega) (by omega))) ?_
        intro u43 hu43 hn43
        refine spu rfl rfl rfl (fun hg => (g_fieldE (c' := 2) Tryz.underlying53 rfl Tryz.sizeOf3 rfl (hu43 hg) rfl)) ?_
        intro u44 hu44 hn44
        refine shu rfl rfl rfl (fun hg => (g_ldE1 Tryz.isAgg3 hoA (hu44 hg) rfl)) ?_
        intro u45 hu45 hn45
        refine spu rfl rfl rfl (fun hg => (g_add (hu39 hg) (hu45 hg) (by omega) (by omega))) ?_
        intro u46 hu46 hn46
        refine spu rfl rfl rfl (fun hg => (g_fieldAddr (o' := 2) Tryz.underlying31 rfl Tryz.sizeOf3 rfl rfl rfl)) ?_
        intro u47 hu47 hn47
        refine shu rfl rfl rfl (fun hg => (g_ldO1 0 Tryz.isAgg3 rfl (hu47 hg) rfl)) ?_
        intro u48 hu48 hn48
        refine spu rfl rfl rfl (fun hg => (g_gtr (hu46 hg) (hu48 hg))) ?_
        intro u49 hu49 hn49
        refine sp rfl (g_or rfl rfl (fun hq => hu49 hq)) ?_
        refine sn (thenN ?_)
        refine cond_s rfl ?_ ?_
        ·
          intro hc50
          clear hu39 hn39 hu40 hn40 hu41 hn41 hu42 hn42 hu43 hn43 hu44 hn44 hu45 hn45 hu46 hn46 hu47 hn47 hu48 hn48 hu49 hn49
          have e : checkR p = (↑k, 60) := by rw [e0, ← hgo, checkRGo_bad hc50]
          refine wpIn_seq ?_
          refine reg ?_
          refine qq hS (g_movev (v := .int .i64 _) rfl) ?_
          refine qq hS (g_assignv (v := .int .i64 _) rfl) ?_
          refine qq hS (g_assignv (v := .int .i64 _) rfl) ?_
          refine ol_nil (thenN ?_)
          refine wpIn_ret ?_
          refine thenR (blkR (thenR (thenR (blkR (thenR ?_)))))
          refine ret2 Tryz.results38 (rv_tmp (v := .int .i64 _) rfl) (rv_tmp (v := .int .i64 _) rfl) ?_
          rw [e]; exact ⟨rfl, hS.nil⟩
        ·
          intro hc50
          clear hu39 hn39 hu40 hn40 hu41 hn41 hu42 hn42 hu43 hn43 hu44 hn44 hu45 hn45 hu46 hn46 hu47 hn47 hu48 hn48 hu49 hn49
          rw [checkRGo_good hc50] at hgo
          simp only [Bool.or_eq_false_iff, decide_eq_false_iff_not, Bool.not_eq_false'] at hc50
          have hxl := rightR_len hc50.1
          have hxo := hc50.2
          refine wpIn_skip ?_
          refine thenN ?_
          refine reg ?_
          refine qq hS (g_movev (v := .int .i64 _) rfl) ?_
          refine qq hS (g_fieldAddr (o' := 3) Tryz.underlying31 rfl Tryz.sizeOf29 rfl rfl rfl) ?_
          refine qq hS (g_ldO1 0 Tryz.isAgg29 rfl rfl rfl) ?_
          refine qq hS (g_movev (v := .int .i64 _) rfl) ?_
          refine qq hS (g_ixI Tryz.underlying29 Tryz.sizeOf53 hops rfl rfl (by omega) (by omega)) ?_
          refine qq hS (g_fieldE (c' := 2) Tryz.underlying53 rfl Tryz.sizeOf3 rfl rfl rfl) ?_
          refine qq hS (g_ldE1 Tryz.isAgg3 hoA rfl rfl) ?_
          refine qq hS (g_add rfl rfl (by omega) (by omega)) ?_
          refine qq hS (g_assignv (v := .int .i64 _) rfl) ?_
          refine ol_nil (blkN (thenN ?_))
          refine reg ?_
          refine qq hS (g_movev (v := .int .i64 _) rfl) ?_
          refine qq hS (g_add rfl rfl (by omega) (by omega)) ?_
          refine qq hS (g_assignv (v := .int .i64 _) rfl) ?_
          exact ⟨(k + 1, s + x.len), _, rfl, ⟨⟨rfl, rfl, rfl, trivial⟩, hS.sel [true], by dsimp only; omega, by dsimp only; omega, by dsimp only; omega, hgo⟩, by dsimp only; omega⟩
      ·
        intro hc26
        try simp only [Bool.and_eq_true, Bool.or_eq_true, Bool.not_eq_true', Bool.and_eq_false_imp, Bool.or_eq_false_iff, Bool.not_eq_false', decide_eq_true_eq, decide_eq_false_iff_not] at hc26
        have hk : k = p.ops.length := by omega
        subst hk
        rw [List.drop_length] at hgo
        refine wpIn_exit ?_
        refine thenE (thenE (blkE ?_))
        refine thenN ?_
        refine wpIn_seq ?_
        refine wpIn_seq ?_
        refine reg ?_
        refine qq hS (g_movev (v := .int .i64 _) rfl) ?_
        refine qq hS (g_fieldAddr (o' := 2) Tryz.underlying31 rfl Tryz.sizeOf3 rfl rfl rfl) ?_
        refine qq hS (g_ldO1 0 Tryz.isAgg3 rfl rfl rfl) ?_
        refine qq hS (g_neq rfl rfl) ?_
        refine ol_nil (thenN ?_)
        refine cond_s rfl ?_ ?_
        ·
          intro hc63
          simp only [Bool.not_eq_true', Bool.not_eq_false', decide_eq_true_eq, decide_eq_false_iff_not] at hc63
          have e : checkR p = (↑p.ops.length, 60) := by rw [e0, ← hgo, checkRGo, if_neg hc63]
          refine wpIn_seq ?_
          refine reg ?_
          refine qq hS (g_fieldAddr (o' := 3) Tryz.underlying31 rfl Tryz.sizeOf29 rfl rfl rfl) ?_
          refine qq hS (g_ldO1 0 Tryz.isAgg29 rfl rfl rfl) ?_
          refine qq hS (g_lenI rfl Tryz.underlying29 hops rfl) ?_
          refine qq hS (g_assignv (v := .int .i64 _) rfl) ?_
          refine qq hS (g_assignv (v := .int .i64 _) rfl) ?_
          refine ol_nil (thenN ?_)
          refine wpIn_ret ?_
          refine thenR ?_
          refine ret2 Tryz.results38 (rv_tmp (v := .int .i64 _) rfl) (rv_tmp (v := .int .i64 _) rfl) ?_
          rw [e]; exact ⟨rfl, hS.nil⟩
        ·
          intro hc63
          simp only [Bool.not_eq_true', Bool.not_eq_false', decide_eq_true_eq, decide_eq_false_iff_not] at hc63
          have e : checkR p = (↑p.ops.length, 0) := by rw [e0, ← hgo, checkRGo, if_pos hc63]
          refine wpIn_skip ?_
          refine thenN ?_
          refine wpIn_seq ?_
          refine reg ?_
          refine qq hS (g_fieldAddr (o' := 3) Tryz.underlying31 rfl Tryz.sizeOf29 rfl rfl rfl) ?_
          refine qq hS (g_ldO1 0 Tryz.isAgg29 rfl rfl rfl) ?_
          refine qq hS (g_lenI rfl Tryz.underlying29 hops rfl) ?_
          refine qq hS (g_assignv (v := .int .i64 _) rfl) ?_
          refine qq hS (g_assignv (v := .int .i64 _) rfl) ?_
          refine ol_nil (thenN ?_)
          refine wpIn_ret ?_
          refine ret2 Tryz.results38 (rv_tmp (v := .int .i64 _) rfl) (rv_tmp (v := .int .i64 _) rfl) ?_
          rw [e]; exact ⟨rfl, hS.nil⟩

theorem rightP_c (p : PatL) (ad : Option Addr) (m cap : Nat) (w0 : World) (I0 : Imm) (hI : Sat I0 w0) (hops : ROps I0 (.slice ad m cap) p.ops) (hp : p.wf) :
    Ctr Tryz.prog 16 [.agg #[.bool p.lifted, .int .i64 p.in_, .int .i64 p.out, .slice ad m cap]] w0 (fun v w' => v = .bool (decide ((checkR p).2 = 0)) ∧ Ext w0 I0 w' I0) := by
  refine fn (n := 12) Tryz.func16 rfl rfl rfl ?_
  have hS := St.start hI
  refine wpIn_seq ?_
  refine reg ?_
  refine qe (d_box (cs := [.bool _, .int .i64 _, .int .i64 _, .slice _ _ _]) hS rfl) ?_
  clear hS
  rintro _ w_1 ⟨b_1, rfl, hS⟩
  refine qq hS (g_assignv (v := .bool _) rfl) ?_
  refine ol_nil (thenN ?_)
  refine wpIn_seq ?_
  refine reg ?_
  refine qq hS (g_ldO 0 (vs := [.bool _, .int .i64 _, .int .i64 _, .slice _ _ _]) Tryz.sizeOf31 Tryz.isAgg31 rfl rfl rfl rfl) ?_
  refine qe (d_call Tryz.call38 rfl (checkR_c p ad m cap _ I0 hS.imm hops hp)) ?_
  rintro _ w_2 ⟨rfl, hE⟩
  replace hS := hS.callE hE
  refine qq hS (g_move _) ?_
  refine qq hS (g_extract (v := .int .i64 _) rfl rfl) ?_
  refine qq hS (g_extract (v := .int .i64 _) rfl rfl) ?_
  refine qq hS (g_assignv (v := .int .i64 _) rfl) ?_
  refine qq hS (g_assignv (v := .int .i64 _) rfl) ?_
  refine ol_nil (thenN ?_)
  refine wpIn_seq ?_
  refine reg ?_
  refine qq hS (g_movev (v := .int .i64 _) rfl) ?_
  refine qq hS (g_eql rfl rfl) ?_
  refine qq hS (g_assignv (v := .bool _) rfl) ?_
  refine ol_nil (thenN ?_)
  refine wpIn_ret ?_
  refine ret1 Tryz.results16 (rv_tmp (v := .bool _) rfl) ?_
  exact ⟨rfl, hS.nil⟩

set_option maxHeartbeats 1000000 in
theorem sameOp_c (x y : OpL) (ad bd : Option Addr) (m cap mb capb : Nat) (w0 : World) (I0 : Imm) (hI : Sat I0 w0) (hd : RBytes I0 (.slice ad m cap) x.data) (hx : ∀ z ∈ x.data, 0 ≤ z ∧ z ≤ 255) (he : RBytes I0 (.slice bd mb capb) y.data) (hy : ∀ z ∈ y.data, 0 ≤ z ∧ z ≤ 255) :
    Ctr Tryz.prog 37 [opV x ad m cap, opV y bd mb capb] w0 (fun v w' => v = .bool (sameOpS x y) ∧ Ext w0 I0 w' I0) := by
  refine fn (n := 40) Tryz.func37 rfl rfl rfl ?_
  have hS := St.start hI
  refine wpIn_seq ?_
  refine reg ?_
  refine qe (d_box (cs := [.int .i64 _, .int .i64 _, .int .i64 _, .int .u8 _, .slice _ _ _]) hS rfl) ?_
  clear hS
  rintro _ w_1 ⟨b_1, rfl, hS⟩
  refine qe (d_box (cs := [.int .i64 _, .int .i64 _, .int .i64 _, .int .u8 _, .slice _ _ _]) hS rfl) ?_
  clear hS
  rintro _ w_2 ⟨b_2, rfl, hS⟩
  refine qq hS (g_assignv (v := .bool _) rfl) ?_
  refine ol_nil (thenN ?_)
  refine wpIn_seq ?_
  refine reg ?_
  refine qq hS (g_fieldAddr (o' := 0) Tryz.underlying53 rfl Tryz.sizeOf3 rfl rfl rfl) ?_
  refine qq hS (g_ldO1 1 Tryz.isAgg3 rfl rfl rfl) ?_
  refine qq hS (g_fieldAddr (o' := 0) Tryz.underlying53 rfl Tryz.sizeOf3 rfl rfl rfl) ?_
  refine qq hS (g_ldO1 0 Tryz.isAgg3 rfl rfl rfl) ?_
  refine qq hS (g_eql rfl rfl) ?_
  refine qq hS (g_movev (v := .bool _) rfl) ?_
  refine qu rfl rfl hS (fun hg => (g_fieldAddr (o' := 1) Tryz.underlying53 rfl Tryz.sizeOf3 rfl rfl rfl)) ?_
  intro u11 hu11 hn11
  refine qu rfl rfl hS (fun hg => (g_ldO1 1 Tryz.isAgg3 rfl (hu11 hg) rfl)) ?_
  intro u12 hu12 hn12
  refine qu rfl rfl hS (fun hg => (g_fieldAddr (o' := 1) Tryz.underlying53 rfl Tryz.sizeOf3 rfl rfl rfl)) ?_
  intro u13 hu13 hn13
  refine qu rfl rfl hS (fun hg => (g_ldO1 0 Tryz.isAgg3 rfl (hu13 hg) rfl)) ?_
  intro u14 hu14 hn14
  refine qu rfl rfl hS (fun hg => (g_eql (hu12 hg) (hu14 hg))) ?_
  intro u15 hu15 hn15
  refine qq hS (g_and rfl rfl (fun hq => hu15 hq)) ?_
  refine qq hS (g_movev (v := .bool _) rfl) ?_
  refine qu rfl rfl hS (fun hg => (g_fieldAddr (o' := 2) Tryz.underlying53 rfl Tryz.sizeOf3 rfl rfl rfl)) ?_
  intro u18 hu18 hn18
  refine qu rfl rfl hS (fun hg => (g_ldO1 1 Tryz.isAgg3 rfl (hu18 hg) rfl)) ?_
  intro u19 hu19 hn19
  refine qu rfl rfl hS (fun hg => (g_fieldAddr (o' := 2) Tryz.underlying53 rfl Tryz.sizeOf3 rfl rfl rfl)) ?_
  intro u20 hu20 hn20
  refine qu rfl rfl hS (fun hg => (g_ldO1 0 Tryz.isAgg3 rfl (hu20 hg) rfl)) ?_
  intro u21 hu21 hn21
  refine qu rfl rfl hS (fun hg => (g_eql (hu19 hg) (hu21 hg))) ?_
  intro u22 hu22 hn22
  refine qq hS (g_and rfl rfl (fun hq => hu22 hq)) ?_
  refine qq hS (g_movev (v := .bool _) rfl) ?_
  refine qu rfl rfl hS (fun hg => (g_fieldAddr (o' := 3) Tryz.underlying53 rfl Tryz.sizeOf5 rfl rfl rfl)) ?_
  intro u25 hu25 hn25
  refine qu rfl rfl hS (fun hg => (g_ldO1 1 Tryz.isAgg5 rfl (hu25 hg) rfl)) ?_
  intro u26 hu26 hn26
  refine qu rfl rfl hS (fun hg => (g_fieldAddr (o' := 3) Tryz.underlying53 rfl Tryz.sizeOf5 rfl rfl rfl)) ?_
  intro u27 hu27 hn27
  refine qu rfl rfl hS (fun hg => (g_ldO1 0 Tryz.isAgg5 rfl (hu27 hg) rfl)) ?_
  intro u28 hu28 hn28
  refine qu rfl rfl hS (fun hg => (g_eql (hu26 hg) (hu28 hg))) ?_
  intro u29 hu29 hn29
  refine qq hS (g_and rfl rfl (fun hq => hu29 hq)) ?_
  refine qq hS (g_movev (v := .bool _) rfl) ?_
  refine qu rfl rfl hS (fun hg => (g_fieldAddr (o' := 4) Tryz.underlying53 rfl Tryz.sizeOf25 rfl rfl rfl)) ?_
  intro u32 hu32 hn32
  refine qu rfl rfl hS (fun hg => (g_ldO1 1 Tryz.isAgg25 rfl (hu32 hg) rfl)) ?_
  intro u33 hu33 hn33
  refine qu rfl rfl hS (fun hg => (g_strI Tryz.underlying25 Tryz.underlying5 Tryz.underlying9 hd (hu33 hg))) ?_
  intro u34 hu34 hn34
  refine qu rfl rfl hS (fun hg => (g_fieldAddr (o' := 4) Tryz.underlying53 rfl Tryz.sizeOf25 rfl rfl rfl)) ?_
  intro u35 hu35 hn35
  refine qu rfl rfl hS (fun hg => (g_ldO1 0 Tryz.isAgg25 rfl (hu35 hg) rfl)) ?_
  intro u36 hu36 hn36
  refine qu rfl rfl hS (fun hg => (g_strI Tryz.underlying25 Tryz.underlying5 Tryz.underlying9 he (hu36 hg))) ?_
  intro u37 hu37 hn37
  refine qu rfl rfl hS (fun hg => (g_eqlB hx hy (hu34 hg) (hu37 hg))) ?_
  intro u38 hu38 hn38
  refine qq hS (g_and rfl rfl (fun hq => hu38 hq)) ?_
  refine qq hS (g_assignv (v := .bool _) rfl) ?_
  refine ol_nil (thenN ?_)
  refine wpIn_ret ?_
  refine ret1 Tryz.results37 (rv_tmp (v := .bool _) rfl) ?_
  exact ⟨rfl, hS.nil⟩

set_option maxHeartbeats 1000000 in
theorem sameR_c (p q : PatL) (ad bd : Option Addr) (m cap mb capb : Nat) (w0 : World) (I0 : Imm) (hI : Sat I0 w0) (hops : ROps I0 (.slice ad m cap) p.ops) (hp : ∀ x ∈ p.ops, ∀ z ∈ x.data, 0 ≤ z ∧ z ≤ 255) (hoq : ROps I0 (.slice bd mb capb) q.ops) (hq : ∀ x ∈ q.ops, ∀ z ∈ x.data, 0 ≤ z ∧ z ≤ 255) :
    Ctr Tryz.prog 14 [.agg #[.bool p.lifted, .int .i64 p.in_, .int .i64 p.out, .slice ad m cap], .agg #[.bool q.lifted, .int .i64 q.in_, .int .i64 q.out, .slice bd mb capb]] w0 (fun v w' => v = .bool (samePR p q) ∧ Ext w0 I0 w' I0) := by
  have hml := RSl.le hops
  simp only [maxLen] at hml
  refine fn (n := 53) Tryz.func14 rfl rfl rfl ?_
  have hS := St.start hI
  refine wpIn_seq ?_
  refine reg ?_
  refine qe (d_box (cs := [.bool _, .int .i64 _, .int .i64 _, .slice _ _ _]) hS rfl) ?_
  clear hS
  rintro _ w_1 ⟨b2, rfl, hS⟩
  refine qe (d_box (cs := [.bool _, .int .i64 _, .int .i64 _, .slice _ _ _]) hS rfl) ?_
  clear hS
  rintro _ w_2 ⟨b3, rfl, hS⟩
  refine qq hS (g_assignv (v := .bool _) rfl) ?_
  refine ol_nil (thenN ?_)
  refine wpIn_seq ?_
  refine wpIn_seq ?_
  refine reg ?_
  refine qq hS (g_fieldAddr (o' := 0) Tryz.underlying31 rfl Tryz.sizeOf4 rfl rfl rfl) ?_
  refine qq hS (g_ldO1 1 Tryz.isAgg4 rfl rfl rfl) ?_
  refine qq hS (g_fieldAddr (o' := 0) Tryz.underlying31 rfl Tryz.sizeOf4 rfl rfl rfl) ?_
  refine qq hS (g_ldO1 0 Tryz.isAgg4 rfl rfl rfl) ?_
  refine qq hS (g_neqb Tryz.underlying4 rfl rfl) ?_
  refine qq hS (g_movev (v := .bool _) rfl) ?_
  refine qu rfl rfl hS (fun hg => (g_fieldAddr (o' := 1) Tryz.underlying31 rfl Tryz.sizeOf3 rfl rfl rfl)) ?_
  intro u12 hu12 hn12
  refine qu rfl rfl hS (fun hg => (g_ldO1 1 Tryz.isAgg3 rfl (hu12 hg) rfl)) ?_
  intro u13 hu13 hn13
  refine qu rfl rfl hS (fun hg => (g_fieldAddr (o' := 1) Tryz.underlying31 rfl Tryz.sizeOf3 rfl rfl rfl)) ?_
  intro u14 hu14 hn14
  refine qu rfl rfl hS (fun hg => (g_ldO1 0 Tryz.isAgg3 rfl (hu14 hg) rfl)) ?_
  intro u15 hu15 hn15
  refine qu rfl rfl hS (fun hg => (g_neq (hu13 hg) (hu15 hg))) ?_
  intro u16 hu16 hn16
  refine qq hS (g_or rfl rfl (fun hq => hu16 hq)) ?_
  refine qq hS (g_movev (v := .bool _) rfl) ?_
  refine qu rfl rfl hS (fun hg => (g_fieldAddr (o' := 2) Tryz.underlying31 rfl Tryz.sizeOf3 rfl rfl rfl)) ?_
  intro u19 hu19 hn19
  refine qu rfl rfl hS (fun hg => (g_ldO1 1 Tryz.isAgg3 rfl (hu19 hg) rfl)) ?_
  intro u20 hu20 hn20
  refine qu rfl rfl hS (fun hg => (g_fieldAddr (o' := 2) Tryz.underlying31 rfl Tryz.sizeOf3 rfl rfl rfl)) ?_
  intro u21 hu21 hn21
  refine qu rfl rfl hS (fun hg => (g_ldO1 0 Tryz.isAgg3 rfl (hu21 hg) rfl)) ?_
  intro u22 hu22 hn22
  refine qu rfl rfl hS (fun hg => (g_neq (hu20 hg) (hu22 hg))) ?_
  intro u23 hu23 hn23
  refine qq hS (g_or rfl rfl (fun hq => hu23 hq)) ?_
  refine qq hS (g_movev (v := .bool _) rfl) ?_
  refine qu rfl rfl hS (fun hg => (g_fieldAddr (o' := 3) Tryz.underlying31 rfl Tryz.sizeOf29 rfl rfl rfl)) ?_
  intro u26 hu26 hn26
  refine qu rfl rfl hS (fun hg => (g_ldO1 1 Tryz.isAgg29 rfl (hu26 hg) rfl)) ?_
  intro u27 hu27 hn27
  refine qu rfl rfl hS (fun hg => (g_lenI rfl Tryz.underlying29 hops (hu27 hg))) ?_
  intro u28 hu28 hn28
  refine qu rfl rfl hS (fun hg => (g_fieldAddr (o' := 3) Tryz.underlying31 rfl Tryz.sizeOf29 rfl rfl rfl)) ?_
  intro u29 hu29 hn29
  refine qu rfl rfl hS (fun hg => (g_ldO1 0 Tryz.isAgg29 rfl (hu29 hg) rfl)) ?_
  intro u30 hu30 hn30
  refine qu rfl rfl hS (fun hg => (g_lenI rfl Tryz.underlying29 hoq (hu30 hg))) ?_
  intro u31 hu31 hn31
  refine qu rfl rfl hS (fun hg => (g_neq (hu28 hg) (hu31 hg))) ?_
  intro u32 hu32 hn32
  refine qq hS (g_or rfl rfl (fun hq => hu32 hq)) ?_
  refine ol_nil (thenN ?_)
  refine cond_s rfl ?_ ?_
  ·
    intro hc33
    clear hu12 hn12 hu13 hn13 hu14 hn14 hu15 hn15 hu16 hn16 hu19 hn19 hu20 hn20 hu21 hn21 hu22 hn22 hu23 hn23 hu26 hn26 hu27 hn27 hu28 hn28 hu29 hn29 hu30 hn30 hu31 hn31 hu32 hn32
    have e : samePR p q = false := by
      unfold samePR
      cases h1 : (p.lifted == q.lifted && decide (p.in_ = q.in_) && decide (p.out = q.out) && decide (p.ops.length = q.ops.length))
      · rfl
      · exfalso
        simp only [Bool.and_eq_true, beq_iff_eq, decide_eq_true_eq] at h1
        simp [h1] at hc33
    refine wpIn_seq ?_
    refine reg ?_
    refine qq hS (g_assignv (v := .bool _) rfl) ?_
    refine ol_nil (thenN ?_)
    refine wpIn_ret ?_
    refine thenR ?_
    refine ret1 Tryz.results14 (rv_tmp (v := .bool _) rfl) ?_
    rw [e]; exact ⟨rfl, hS.nil⟩
  ·
    intro hc33
    clear hu12 hn12 hu13 hn13 hu14 hn14 hu15 hn15 hu16 hn16 hu19 hn19 hu20 hn20 hu21 hn21 hu22 hn22 hu23 hn23 hu26 hn26 hu27 hn27 hu28 hn28 hu29 hn29 hu30 hn30 hu31 hn31 hu32 hn32
    have hall : p.lifted = q.lifted ∧ p.in_ = q.in_ ∧ p.out = q.out ∧ p.ops.length = q.ops.length := by
      simp at hc33; exact ⟨hc33.1.1.1, hc33.1.1.2, hc33.1.2, by omega⟩
    obtain ⟨h1, h2, h3, h4⟩ := hall
    have e0 : samePR p q = sameOps p.ops q.ops 0 := by unfold samePR; simp [h1, h2, h3, h4]
    refine wpIn_skip ?_
    refine thenN ?_
    refine wpIn_seq ?_
    refine wpIn_seq ?_
    refine reg ?_
    refine qq hS (g_assignv (v := .int .i64 _) rfl) ?_
    refine ol_nil (thenN ?_)
    refine wpIn_block ?_
    refine loop (fun (k : Nat) σ w => okS σ [(2, .pointer (some ⟨b2, 0, none⟩)), (3, .pointer (some ⟨b3, 0, none⟩)), (5, .int .i64 k)] ∧ St [] w0 I0 I0 w [.cel b2 31 [.bool p.lifted, .int .i64 p.in_, .int .i64 p.out, .slice ad m cap], .cel b3 31 [.bool q.lifted, .int .i64 q.in_, .int .i64 q.out, .slice bd mb capb]] ∧ k ≤ p.ops.length ∧ sameOps p.ops q.ops 0 = sameOps p.ops q.ops k) (fun k => p.ops.length - k) (0) ?_ ?_
    ·
      exact ⟨⟨rfl, rfl, rfl, trivial⟩, (hS.perm (List.Perm.swap _ _ _)).sel [true, true], by simp, rfl⟩
    ·
      rintro k σ w_l ⟨hs, hS, hk0, hgo⟩
      rw [← upds_self hs]; clear hs
      refine wpIn_seq ?_
      refine wpIn_seq ?_
      refine reg ?_
      refine qq hS (g_movev (v := .int .i64 _) rfl) ?_
      refine qq hS (g_fieldAddr (o' := 3) Tryz.underlying31 rfl Tryz.sizeOf29 rfl rfl rfl) ?_
      refine qq hS (g_ldO1 0 Tryz.isAgg29 rfl rfl rfl) ?_
      refine qq hS (g_lenI rfl Tryz.underlying29 hops rfl) ?_
      refine qq hS (g_lss rfl rfl) ?_
      refine ol_nil (thenN ?_)
      refine cond_s rfl ?_ ?_
      ·
        intro hc38
        try simp only [Bool.and_eq_true, Bool.or_eq_true, Bool.not_eq_true', Bool.and_eq_false_imp, Bool.or_eq_false_iff, Bool.not_eq_false', decide_eq_true_eq, decide_eq_false_iff_not] at hc38
        obtain ⟨x, hx⟩ : ∃ x, p.ops[k]? = some x := ⟨_, List.getElem?_eq_getElem (by omega)⟩
        have hxm := List.mem_of_getElem? hx
        obtain ⟨cs, hcl, hoA, hro⟩ := RSl.at hops hx
        obtain ⟨adx, mx, capx, rfl, hd⟩ := hro
        obtain ⟨y, hy⟩ : ∃ y, q.ops[k]? = some y := ⟨_, List.getElem?_eq_getElem (by omega)⟩
        have hym := List.mem_of_getElem? hy
        obtain ⟨cs', hcl', hoB, hro'⟩ := RSl.at hoq hy
        obtain ⟨ady, my, capy, rfl, he⟩ := hro'
        refine wpIn_skip ?_
        refine thenN ?_
        refine wpIn_seq ?_
        refine wpIn_block ?_
        refine wpIn_seq ?_
        refine draw (.cons 0 .pure (.cons 1 .held (.cons 2 .pure (.cons 3 .pure (.cons 4 .held (.cons 5 .pure (.cons 6 .held (.cons 7 .pure (.cons 8 .pure (.cons 9 .held (.cons 10 .eff (.cons 11 .pure .nil)))))))))))) mixed (by kernel_rfl) hS ?_
        intro w_3 hS
        refine sp rfl (g_fieldAddr (o' := 3) Tryz.underlying31 rfl Tryz.sizeOf29 rfl rfl rfl) ?_
        refine sh rfl (g_ldO1 0 Tryz.isAgg29 rfl rfl rfl) ?_
        refine sp rfl (g_movev (v := .int .i64 _) rfl) ?_
        refine sp rfl (g_ixI Tryz.underlying29 Tryz.sizeOf53 hops rfl rfl (by omega) (by omega)) ?_
        refine sh rfl (g_ldE (us := [.int .i64 _, .int .i64 _, .int .i64 _, .int .u8 _, .slice _ _ _]) Tryz.sizeOf53 Tryz.isAgg53 hoA rfl rfl rfl) ?_
        refine sp rfl (g_fieldAddr (o' := 3) Tryz.underlying31 rfl Tryz.sizeOf29 rfl rfl rfl) ?_
        refine sh rfl (g_ldO1 1 Tryz.isAgg29 rfl rfl rfl) ?_
        refine sp rfl (g_movev (v := .int .i64 _) rfl) ?_
        refine sp rfl (g_ixI Tryz.underlying29 Tryz.sizeOf53 hoq rfl rfl (by omega) (by omega)) ?_
        refine sh rfl (g_ldE (us := [.int .i64 _, .int .i64 _, .int .i64 _, .int .u8 _, .slice _ _ _]) Tryz.sizeOf53 Tryz.isAgg53 hoB rfl rfl rfl) ?_
        have hS0 := hS
        refine se rfl (d_call Tryz.call37 rfl (sameOp_c x y adx ady mx capx my capy _ I0 hS.imm hd (hp x hxm) he (hq y hym))) ?_
        rintro _ w_4 ⟨rfl, hE⟩
        replace hS := hS.call hE
        refine ⟨_, _, hS0.le hE.ext (List.Sublist.refl _), hS, ?_⟩
        refine sp rfl (g_not rfl) ?_
        refine sn (thenN ?_)
        refine cond_s rfl ?_ ?_
        ·
          intro hc52
          simp only [Bool.not_eq_true', Bool.not_eq_false'] at hc52
          have e : samePR p q = false := by rw [e0, hgo, sameOps_step hx hy, hc52]; rfl
          refine wpIn_seq ?_
          refine reg ?_
          refine qq hS (g_assignv (v := .bool _) rfl) ?_
          refine ol_nil (thenN ?_)
          refine wpIn_ret ?_
          refine blkR (thenR (thenR (blkR (thenR ?_))))
          refine ret1 Tryz.results14 (rv_tmp (v := .bool _) rfl) ?_
          rw [e]; exact ⟨rfl, hS.nil⟩
        ·
          intro hc52
          simp only [Bool.not_eq_true', Bool.not_eq_false'] at hc52
          refine wpIn_skip ?_
          refine blkN (thenN ?_)
          refine reg ?_
          refine qq hS (g_movev (v := .int .i64 _) rfl) ?_
          refine qq hS (g_add rfl rfl (by omega) (by omega)) ?_
          refine qq hS (g_assignv (v := .int .i64 _) rfl) ?_
          exact ⟨k + 1, _, rfl, ⟨⟨rfl, rfl, rfl, trivial⟩, hS.sel [true, true], by omega, by rw [hgo, sameOps_step hx hy, hc52]; rfl⟩, by omega⟩
      ·
        intro hc38
        try simp only [Bool.and_eq_true, Bool.or_eq_true, Bool.not_eq_true', Bool.and_eq_false_imp, Bool.or_eq_false_iff, Bool.not_eq_false', decide_eq_true_eq, decide_eq_false_iff_not] at hc38
        have e : samePR p q = true := by rw [e0, hgo, sameOps_end (by omega)]
        refine wpIn_exit ?_
        refine thenE (thenE (blkE ?_))
        refine thenN ?_
        refine wpIn_seq ?_
        refine reg ?_
        refine qq hS (g_assignv (v := .bool _) rfl) ?_
        refine ol_nil (thenN ?_)
        refine wpIn_ret ?_
        refine ret1 Tryz.results14 (rv_tmp (v := .bool _) rfl) ?_
        rw [e]; exact ⟨rfl, hS.nil⟩

end Go.Proofs.YtaklmbhfmpdinaaGreat


namespace Go.Proofs.YtaklmbhfmpdinaaGreat
open Go Go.RowKit Go.Inl
set_option linter.unusedSimpArgs false
set_option linter.unusedVariables false
end Go.Proofs.YtaklmbhfmpdinaaGreat


namespace Go.Proofs.YtaklmbhfmpdinaaGreat
open Go Go.RowKit Go.Inl
set_option linter.unusedSimpArgs false
set_option linter.unusedVariables false
structure Q4 where
  a : Int
  b : Int
  c : Int
  d : Int
def q4C (q : Q4) : List Value := [.int .u8 q.a, .int .u8 q.b, .int .u8 q.c, .int .u8 q.d]
def Q4.wf (q : Q4) : Prop := (0 ≤ q.a ∧ q.a ≤ 255) ∧ (0 ≤ q.b ∧ q.b ≤ 255) ∧ (0 ≤ q.c ∧ q.c ≤ 255) ∧ (0 ≤ q.d ∧ q.d ≤ 255)
/-- A made symbol is right. -/
def _root_.Go.Inl.Sym.fit (s : Sym) (size : Int) : Prop := (s.old = true → 0 ≤ s.at_ ∧ s.at_ < size) ∧ (s.old = false → s.at_ = 0) ∧ 0 ≤ s.b ∧ s.b ≤ 2
end Go.Proofs.YtaklmbhfmpdinaaGreat

