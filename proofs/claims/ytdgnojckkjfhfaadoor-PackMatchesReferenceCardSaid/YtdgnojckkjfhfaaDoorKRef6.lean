/- The functions of package inlayref06 that look at patches: what they compute. Conditions: numbers within bounds. inlayref06.Symbols: what it computes. Conditions: numbers within bounds. The functions of package inlayref06 that make patches and symbols of descriptions: what they compute. Conditions: numbers within bounds. -/
import Derived.Test.YtdgnojckkjfhfaaDoorKSmall
import Derived.Test.YtdgnojckkjfhfaaDoorKCore2
namespace Go.Proofs.YtdgnojckkjfhfaaDoor
open Go Go.RowKit Go.Inl
set_option linter.unusedSimpArgs false
set_option linter.unusedVariables false
def sameOps (a b : List OpL) (k : Nat) : Bool := ((a.zip b).drop k).all fun p => sameOpS p.1 p.2
def samePR (a b : PatL) : Bool := a.lifted == b.lifted && decide (a.in_ = b.in_) && decide (a.out = b.out) && decide (a.ops.length = b.ops.length) && sameOps a.ops b.ops 0
theorem sameOps_step {a b : List OpL} {k : Nat} {x y : OpL} (hx : a[k]? = some x) (hy : b[k]? = some y) : sameOps a b k = (sameOpS x y && sameOps a b (k + 1)) := by
  have h : (a.zip b)[k]? = some (x, y) := List.getElem?_zip_eq_some.2 ⟨hx, hy⟩
  unfold sameOps
  rw [drop_cons h]; rfl
theorem sameOps_end {a b : List OpL} {k : Nat} (h : a.length ≤ k) : sameOps a b k = true := by
  unfold sameOps
  rw [List.drop_of_length_le (by rw [List.length_zip]; omega)]; rfl
theorem checkRGo_bad {n out s i : Int} {x : OpL} {r : List OpL} (h : (!rightR x n || decide (out < s + x.len)) = true) : checkRGo n out (x :: r) s i = (i, 60) := by
  simp only [checkRGo, h, if_true]
theorem checkRGo_good {n out s i : Int} {x : OpL} {r : List OpL} (h : (!rightR x n || decide (out < s + x.len)) = false) : checkRGo n out (x :: r) s i = checkRGo n out r (s + x.len) (i + 1) := by
  simp [checkRGo, h]
theorem rightR_len {x : OpL} {n : Int} (h : rightR x n = true) : 1 ≤ x.len ∧ x.len ≤ 65536 := by
  unfold rightR inS at h
  rw [Bool.and_eq_true] at h
  have := h.1
  simp only [Bool.and_eq_true, decide_eq_true_eq] at this
  exact this
theorem rightR_f {x : OpL} {n : Int} (h : inS x.len 1 65536 = false) : rightR x n = false := by unfold rightR; rw [h]; rfl
theorem rightR_1 {x : OpL} {n : Int} (h : inS x.len 1 65536 = true) (k : x.kind = 1) : rightR x n = (inS x.from_ 0 (n - x.len) && decide (x.b = 0) && decide ((x.data.length : Int) = 0)) := by
  unfold rightR; rw [h, if_pos k]; rfl
theorem rightR_2 {x : OpL} {n : Int} (h : inS x.len 1 65536 = true) (k : x.kind = 2) : rightR x n = (inS x.from_ 0 (n - x.len) && decide (x.b = 0) && decide ((x.data.length : Int) = x.len)) := by
  unfold rightR; rw [h, if_neg (by omega), if_pos k]; rfl
theorem rightR_3 {x : OpL} {n : Int} (h : inS x.len 1 65536 = true) (k : x.kind = 3) : rightR x n = (decide (x.from_ = 0) && decide ((x.data.length : Int) = 0)) := by
  unfold rightR; rw [h, if_neg (by omega), if_neg (by omega), if_pos k]; rfl
theorem rightR_4 {x : OpL} {n : Int} (h : inS x.len 1 65536 = true) (k : x.kind = 4) : rightR x n = (decide (x.from_ = 0) && decide (x.b = 0) && decide ((x.data.length : Int) = x.len)) := by
  unfold rightR; rw [h, if_neg (by omega), if_neg (by omega), if_neg (by omega), if_pos k]; rfl
theorem rightR_o {x : OpL} {n : Int} (k1 : ¬ x.kind = 1) (k2 : ¬ x.kind = 2) (k3 : ¬ x.kind = 3) (k4 : ¬ x.kind = 4) : rightR x n = false := by
  unfold rightR; rw [if_neg k1, if_neg k2, if_neg k3, if_neg k4, Bool.and_false]

theorem in_c (n lo hi : Int) (w0 : World) (I0 : Imm) (hI : Sat I0 w0) : Ctr Tryd.prog 59 [.int .i64 n, .int .i64 lo, .int .i64 hi] w0 (fun v w' => v = .bool (inS n lo hi) ∧ Ext w0 I0 w' I0) := by
  refine fn (n := 15) Tryd.func59 rfl rfl rfl ?_
  have hS := St.start hI
  refine wpIn_seq ?_
  refine reg ?_
  refine qq hS (g_assignv (v := .bool _) rfl) ?_
  refine ol_nil (thenN ?_)
  refine wpIn_seq ?_
  refine reg ?_
  refine qq hS (g_movev (v := .int .i64 _) rfl) ?_
  refine qq hS (g_movev (v := .int .i64 _) rfl) ?_
  refine qq hS (g_geq rfl rfl) ?_
  refine qq hS (g_movev (v := .bool _) rfl) ?_
  refine qu rfl rfl hS (fun hg => (g_movev (v := .int .i64 _) rfl)) ?_
  intro u11 hu11 hn11
  refine qu rfl rfl hS (fun hg => (g_movev (v := .int .i64 _) rfl)) ?_
  intro u12 hu12 hn12
  refine qu rfl rfl hS (fun hg => (g_leq (hu11 hg) (hu12 hg))) ?_
  intro u13 hu13 hn13
  refine qq hS (g_and rfl rfl (fun hq => hu13 hq)) ?_
  refine qq hS (g_assignv (v := .bool _) rfl) ?_
  refine ol_nil (thenN ?_)
  refine wpIn_ret ?_
  refine ret1 Tryd.results59 (rv_tmp (v := .bool _) rfl) ?_
  exact ⟨rfl, hS.nil⟩

theorem rightOp_c (x : OpL) (ad : Option Addr) (m cap : Nat) (n : Int) (w0 : World) (I0 : Imm) (hI : Sat I0 w0) (hd : RBytes I0 (.slice ad m cap) x.data) (hx : x.wf) (hn : Mid n) :
    Ctr Tryd.prog 60 [opV x ad m cap, .int .i64 n] w0 (fun v w' => v = .bool (rightR x n) ∧ Ext w0 I0 w' I0) := by
  obtain ⟨⟨k1, k2⟩, ⟨f1, f2⟩, ⟨l1, l2⟩, ⟨b1, b2⟩, hdat⟩ := hx
  obtain ⟨n1, n2⟩ := hn
  refine fn (n := 78) Tryd.func60 rfl rfl rfl ?_
  have hS := St.start hI
  refine wpIn_seq ?_
  refine reg ?_
  refine qe (d_box (cs := [.int .i64 _, .int .i64 _, .int .i64 _, .int .u8 _, .slice _ _ _]) hS rfl) ?_
  clear hS
  rintro _ w_1 ⟨b_1, rfl, hS⟩
  refine qq hS (g_assignv (v := .bool _) rfl) ?_
  refine ol_nil (thenN ?_)
  refine wpIn_seq ?_
  refine wpIn_seq ?_
  refine reg ?_
  refine qq hS (g_fieldAddr (o' := 2) Tryd.underlying53 rfl Tryd.sizeOf3 rfl rfl rfl) ?_
  refine qq hS (g_ldO1 0 Tryd.isAgg3 rfl rfl rfl) ?_
  refine qe (d_call Tryd.call59 rfl (in_c _ _ _ _ I0 hS.imm)) ?_
  rintro _ w_2 ⟨rfl, hE⟩
  replace hS := hS.callE hE
  refine qq hS (g_not rfl) ?_
  refine ol_nil (thenN ?_)
  refine cond_s rfl ?_ ?_
  ·
    intro hc9
    simp only [Bool.not_eq_true', Bool.not_eq_false'] at hc9
    have e := rightR_f (n := n) hc9
    refine wpIn_seq ?_
    refine reg ?_
    refine qq hS (g_assignv (v := .bool _) rfl) ?_
    refine ol_nil (thenN ?_)
    refine wpIn_ret ?_
    refine thenR ?_
    refine ret1 Tryd.results60 (rv_tmp (v := .bool _) rfl) ?_
    rw [e]; exact ⟨rfl, hS.nil⟩
  ·
    intro hc9
    simp only [Bool.not_eq_true', Bool.not_eq_false'] at hc9
    refine wpIn_skip ?_
    refine thenN ?_
    refine wpIn_seq ?_
    refine reg ?_
    refine qq hS (g_fieldAddr (o' := 1) Tryd.underlying53 rfl Tryd.sizeOf3 rfl rfl rfl) ?_
    refine qq hS (g_ldO1 0 Tryd.isAgg3 rfl rfl rfl) ?_
    refine qq hS (g_movev (v := .int .i64 _) rfl) ?_
    refine qq hS (g_fieldAddr (o' := 2) Tryd.underlying53 rfl Tryd.sizeOf3 rfl rfl rfl) ?_
    refine qq hS (g_ldO1 0 Tryd.isAgg3 rfl rfl rfl) ?_
    refine qq hS (g_sub rfl rfl (by omega) (by omega)) ?_
    refine qe (d_call Tryd.call59 rfl (in_c _ _ _ _ I0 hS.imm)) ?_
    rintro _ w_3 ⟨rfl, hE⟩
    replace hS := hS.callE hE
    refine qq hS (g_assignv (v := .bool _) rfl) ?_
    refine ol_nil (thenN ?_)
    refine wpIn_seq ?_
    refine wpIn_seq ?_
    refine reg ?_
    refine qq hS (g_fieldAddr (o' := 0) Tryd.underlying53 rfl Tryd.sizeOf3 rfl rfl rfl) ?_
    refine qq hS (g_ldO1 0 Tryd.isAgg3 rfl rfl rfl) ?_
    refine ol_nil (thenN ?_)
    refine wpIn_block ?_
    refine wpIn_seq ?_
    refine reg ?_
    refine qq hS (g_eql rfl rfl) ?_
    refine qq hS (g_assignv (v := .bool _) rfl) ?_
    refine ol_nil (thenN ?_)
    refine cond_s rfl ?_ ?_
    ·
      intro hc19
      simp only [decide_eq_true_eq, decide_eq_false_iff_not] at hc19
      have e := rightR_1 (n := n) hc9 hc19
      refine wpIn_seq ?_
      refine reg ?_
      refine qq hS (g_movev (v := .bool _) rfl) ?_
      refine qq hS (g_movev (v := .bool _) rfl) ?_
      refine qu rfl rfl hS (fun hg => (g_fieldAddr (o' := 3) Tryd.underlying53 rfl Tryd.sizeOf5 rfl rfl rfl)) ?_
      intro u23 hu23 hn23
      refine qu rfl rfl hS (fun hg => (g_ldO1 0 Tryd.isAgg5 rfl (hu23 hg) rfl)) ?_
      intro u24 hu24 hn24
      refine qu rfl rfl hS (fun hg => (g_eql (hu24 hg) rfl)) ?_
      intro u25 hu25 hn25
      refine qq hS (g_and rfl rfl (fun hq => hu25 hq)) ?_
      refine qq hS (g_movev (v := .bool _) rfl) ?_
      refine qu rfl rfl hS (fun hg => (g_fieldAddr (o' := 4) Tryd.underlying53 rfl Tryd.sizeOf25 rfl rfl rfl)) ?_
      intro u28 hu28 hn28
      refine qu rfl rfl hS (fun hg => (g_ldO1 0 Tryd.isAgg25 rfl (hu28 hg) rfl)) ?_
      intro u29 hu29 hn29
      refine qu rfl rfl hS (fun hg => (g_lenI rfl Tryd.underlying25 hd (hu29 hg))) ?_
      intro u30 hu30 hn30
      refine qu rfl rfl hS (fun hg => (g_eql (hu30 hg) rfl)) ?_
      intro u31 hu31 hn31
      refine qq hS (g_and rfl rfl (fun hq => hu31 hq)) ?_
      refine qq hS (g_assignv (v := .bool _) rfl) ?_
      refine ol_nil (thenN ?_)
      refine wpIn_ret ?_
      refine blkR (thenR ?_)
      refine ret1 Tryd.results60 (rv_tmp (v := .bool _) rfl) ?_
      rw [e]; exact ⟨rfl, hS.nil⟩
    ·
      intro hc19
      simp only [decide_eq_true_eq, decide_eq_false_iff_not] at hc19
      refine wpIn_seq ?_
      refine reg ?_
      refine qq hS (g_eql rfl rfl) ?_
      refine qq hS (g_assignv (v := .bool _) rfl) ?_
      refine ol_nil (thenN ?_)
      refine cond_s rfl ?_ ?_
      ·
        intro hc33
        simp only [decide_eq_true_eq, decide_eq_false_iff_not] at hc33
        have e := rightR_2 (n := n) hc9 hc33
        refine wpIn_seq ?_
        refine reg ?_
        refine qq hS (g_movev (v := .bool _) rfl) ?_
        refine qq hS (g_movev (v := .bool _) rfl) ?_
        refine qu rfl rfl hS (fun hg => (g_fieldAddr (o' := 3) Tryd.underlying53 rfl Tryd.sizeOf5 rfl rfl rfl)) ?_
        intro u37 hu37 hn37
        refine qu rfl rfl hS (fun hg => (g_ldO1 0 Tryd.isAgg5 rfl (hu37 hg) rfl)) ?_
        intro u38 hu38 hn38
        refine qu rfl rfl hS (fun hg => (g_eql (hu38 hg) rfl)) ?_
        intro u39 hu39 hn39
        refine qq hS (g_and rfl rfl (fun hq => hu39 hq)) ?_
        refine qq hS (g_movev (v := .bool _) rfl) ?_
        refine qu rfl rfl hS (fun hg => (g_fieldAddr (o' := 4) Tryd.underlying53 rfl Tryd.sizeOf25 rfl rfl rfl)) ?_
        intro u42 hu42 hn42
        refine qu rfl rfl hS (fun hg => (g_ldO1 0 Tryd.isAgg25 rfl (hu42 hg) rfl)) ?_
        intro u43 hu43 hn43
        refine qu rfl rfl hS (fun hg => (g_lenI rfl Tryd.underlying25 hd (hu43 hg))) ?_
        intro u44 hu44 hn44
        refine qu rfl rfl hS (fun hg => (g_fieldAddr (o' := 2) Tryd.underlying53 rfl Tryd.sizeOf3 rfl rfl rfl)) ?_
        intro u45 hu45 hn45
        refine qu rfl rfl hS (fun hg => (g_ldO1 0 Tryd.isAgg3 rfl (hu45 hg) rfl)) ?_
        intro u46 hu46 hn46
        refine qu rfl rfl hS (fun hg => (g_eql (hu44 hg) (hu46 hg))) ?_
        intro u47 hu47 hn47
        refine qq hS (g_and rfl rfl (fun hq => hu47 hq)) ?_
        refine qq hS (g_assignv (v := .bool _) rfl) ?_
        refine ol_nil (thenN ?_)
        refine wpIn_ret ?_
        refine blkR (thenR ?_)
        refine ret1 Tryd.results60 (rv_tmp (v := .bool _) rfl) ?_
        rw [e]; exact ⟨rfl, hS.nil⟩
      ·
        intro hc33
        simp only [decide_eq_true_eq, decide_eq_false_iff_not] at hc33
        refine wpIn_seq ?_
        refine reg ?_
        refine qq hS (g_eql rfl rfl) ?_
        refine qq hS (g_assignv (v := .bool _) rfl) ?_
        refine ol_nil (thenN ?_)
        refine cond_s rfl ?_ ?_
        ·
          intro hc49
          simp only [decide_eq_true_eq, decide_eq_false_iff_not] at hc49
          have e := rightR_3 (n := n) hc9 hc49
          refine wpIn_seq ?_
          refine reg ?_
          refine qq hS (g_fieldAddr (o' := 1) Tryd.underlying53 rfl Tryd.sizeOf3 rfl rfl rfl) ?_
          refine qq hS (g_ldO1 0 Tryd.isAgg3 rfl rfl rfl) ?_
          refine qq hS (g_eql rfl rfl) ?_
          refine qq hS (g_movev (v := .bool _) rfl) ?_
          refine qu rfl rfl hS (fun hg => (g_fieldAddr (o' := 4) Tryd.underlying53 rfl Tryd.sizeOf25 rfl rfl rfl)) ?_
          intro u55 hu55 hn55
          refine qu rfl rfl hS (fun hg => (g_ldO1 0 Tryd.isAgg25 rfl (hu55 hg) rfl)) ?_
          intro u56 hu56 hn56
          refine qu rfl rfl hS (fun hg => (g_lenI rfl Tryd.underlying25 hd (hu56 hg))) ?_
          intro u57 hu57 hn57
          refine qu rfl rfl hS (fun hg => (g_eql (hu57 hg) rfl)) ?_
          intro u58 hu58 hn58
          refine qq hS (g_and rfl rfl (fun hq => hu58 hq)) ?_
          refine qq hS (g_assignv (v := .bool _) rfl) ?_
          refine ol_nil (thenN ?_)
          refine wpIn_ret ?_
          refine blkR (thenR ?_)
          refine ret1 Tryd.results60 (rv_tmp (v := .bool _) rfl) ?_
          rw [e]; exact ⟨rfl, hS.nil⟩
        ·
          intro hc49
          simp only [decide_eq_true_eq, decide_eq_false_iff_not] at hc49
          refine wpIn_seq ?_
          refine reg ?_
          refine qq hS (g_eql rfl rfl) ?_
          refine qq hS (g_assignv (v := .bool _) rfl) ?_
          refine ol_nil (thenN ?_)
          refine cond_s rfl ?_ ?_
          ·
            intro hc60
            simp only [decide_eq_true_eq, decide_eq_false_iff_not] at hc60
            have e := rightR_4 (n := n) hc9 hc60
            refine wpIn_seq ?_
            refine reg ?_
            refine qq hS (g_fieldAddr (o' := 1) Tryd.underlying53 rfl Tryd.sizeOf3 rfl rfl rfl) ?_
            refine qq hS (g_ldO1 0 Tryd.isAgg3 rfl rfl rfl) ?_
            refine qq hS (g_eql rfl rfl) ?_
            refine qq hS (g_movev (v := .bool _) rfl) ?_
            refine qu rfl rfl hS (fun hg => (g_fieldAddr (o' := 3) Tryd.underlying53 rfl Tryd.sizeOf5 rfl rfl rfl)) ?_
            intro u66 hu66 hn66
            refine qu rfl rfl hS (fun hg => (g_ldO1 0 Tryd.isAgg5 rfl (hu66 hg) rfl)) ?_
            intro u67 hu67 hn67
            refine qu rfl rfl hS (fun hg => (g_eql (hu67 hg) rfl)) ?_
            intro u68 hu68 hn68
            refine qq hS (g_and rfl rfl (fun hq => hu68 hq)) ?_
            refine qq hS (g_movev (v := .bool _) rfl) ?_
            refine qu rfl rfl hS (fun hg => (g_fieldAddr (o' := 4) Tryd.underlying53 rfl Tryd.sizeOf25 rfl rfl rfl)) ?_
            intro u71 hu71 hn71
            refine qu rfl rfl hS (fun hg => (g_ldO1 0 Tryd.isAgg25 rfl (hu71 hg) rfl)) ?_
            intro u72 hu72 hn72
            refine qu rfl rfl hS (fun hg => (g_lenI rfl Tryd.underlying25 hd (hu72 hg))) ?_
            intro u73 hu73 hn73
            refine qu rfl rfl hS (fun hg => (g_fieldAddr (o' := 2) Tryd.underlying53 rfl Tryd.sizeOf3 rfl rfl rfl)) ?_
            intro u74 hu74 hn74
            refine qu rfl rfl hS (fun hg => (g_ldO1 0 Tryd.isAgg3 rfl (hu74 hg) rfl)) ?_
            intro u75 hu75 hn75
            refine qu rfl rfl hS (fun hg => (g_eql (hu73 hg) (hu75 hg))) ?_
            intro u76 hu76 hn76
            refine qq hS (g_and rfl rfl (fun hq => hu76 hq)) ?_
            refine qq hS (g_assignv (v := .bool _) rfl) ?_
            refine ol_nil (thenN ?_)
            refine wpIn_ret ?_
            refine blkR (thenR ?_)
            refine ret1 Tryd.results60 (rv_tmp (v := .bool _) rfl) ?_
            rw [e]; exact ⟨rfl, hS.nil⟩
          ·
            intro hc60
            simp only [decide_eq_true_eq, decide_eq_false_iff_not] at hc60
            have e := rightR_o (n := n) hc19 hc33 hc49 hc60
            refine wpIn_skip ?_
            refine blkN (thenN ?_)
            refine wpIn_seq ?_
            refine reg ?_
            refine qq hS (g_assignv (v := .bool _) rfl) ?_
            refine ol_nil (thenN ?_)
            refine wpIn_ret ?_
            refine ret1 Tryd.results60 (rv_tmp (v := .bool _) rfl) ?_
            rw [e]; exact ⟨rfl, hS.nil⟩

set_option maxHeartbeats 1000000 in
theorem checkR_c (p : PatL) (ad : Option Addr) (m cap : Nat) (w0 : World) (I0 : Imm) (hI : Sat I0 w0) (hops : ROps I0 (.slice ad m cap) p.ops) (hp : p.wf) :
    Ctr Tryd.prog 41 [.agg #[.bool p.lifted, .int .i64 p.in_, .int .i64 p.out, .slice ad m cap]] w0 (fun v w' => v = .tuple #[.int .i64 (checkR p).1, .int .i64 (checkR p).2] ∧ Ext w0 I0 w' I0) := by
  refine fn (n := 70) Tryd.func41 rfl rfl rfl ?_
  have hS := St.start hI
  refine wpIn_seq ?_
  refine reg ?_
  refine qe (d_box (cs := [.bool _, .int .i64 _, .int .i64 _, .slice _ _ _]) hS rfl) ?_
  clear hS
  rintro _ w_1 ⟨b1, rfl, hS⟩
  refine qq hS (g_assignv (v := .int .i64 _) rfl) ?_
  refine qq hS (g_assignv (v := .int .i64 _) rfl) ?_
  refine ol_nil (thenN ?_)
  refine wpIn_seq ?_
  refine wpIn_seq ?_
  refine reg ?_
  refine qq hS (g_fieldAddr (o' := 1) Tryd.underlying31 rfl Tryd.sizeOf3 rfl rfl rfl) ?_
  refine qq hS (g_ldO1 0 Tryd.isAgg3 rfl rfl rfl) ?_
  refine qe (d_call Tryd.call59 rfl (in_c _ _ _ _ I0 hS.imm)) ?_
  rintro _ w_2 ⟨rfl, hE⟩
  replace hS := hS.callE hE
  refine qq hS (g_not rfl) ?_
  refine qq hS (g_movev (v := .bool _) rfl) ?_
  refine qu rfl rfl hS (fun hg => (g_fieldAddr (o' := 2) Tryd.underlying31 rfl Tryd.sizeOf3 rfl rfl rfl)) ?_
  intro u11 hu11 hn11
  refine qu rfl rfl hS (fun hg => (g_ldO1 0 Tryd.isAgg3 rfl (hu11 hg) rfl)) ?_
  intro u12 hu12 hn12
  refine cvu rfl rfl hS (fun hg => (d_call Tryd.call59 (ml (hu12 hg) (ml rfl (ml rfl ml0))) (in_c _ _ _ _ I0 hS.imm))) ?_
  intro w_4 u13 hS hu13 hn13
  refine qu rfl rfl hS (fun hg => (g_not (hu13 hg))) ?_
  intro u14 hu14 hn14
  refine qq hS (g_or rfl rfl (fun hq => hu14 hq)) ?_
  refine qq hS (g_movev (v := .bool _) rfl) ?_
  refine qu rfl rfl hS (fun hg => (g_fieldAddr (o' := 3) Tryd.underlying31 rfl Tryd.sizeOf29 rfl rfl rfl)) ?_
  intro u17 hu17 hn17
  refine qu rfl rfl hS (fun hg => (g_ldO1 0 Tryd.isAgg29 rfl (hu17 hg) rfl)) ?_
  intro u18 hu18 hn18
  refine qu rfl rfl hS (fun hg => (g_lenI rfl Tryd.underlying29 hops (hu18 hg))) ?_
  intro u19 hu19 hn19
  refine qu rfl rfl hS (fun hg => (g_gtr (hu19 hg) rfl)) ?_
  intro u20 hu20 hn20
  refine qq hS (g_or rfl rfl (fun hq => hu20 hq)) ?_
  refine ol_nil (thenN ?_)
  refine cond_s rfl ?_ ?_
  ·
    intro hc21
    clear hu11 hn11 hu12 hn12 hu13 hn13 hu14 hn14 hu17 hn17 hu18 hn18 hu19 hn19 hu20 hn20
    have e : checkR p = (-1, 60) := by unfold checkR; rw [if_pos]; exact hc21
    refine wpIn_seq ?_
    refine reg ?_
    refine qq hS (g_assignv (v := .int .i64 _) rfl) ?_
    refine qq hS (g_assignv (v := .int .i64 _) rfl) ?_
    refine ol_nil (thenN ?_)
    refine wpIn_ret ?_
    refine thenR ?_
    refine ret2 Tryd.results41 (rv_tmp (v := .int .i64 _) rfl) (rv_tmp (v := .int .i64 _) rfl) ?_
    rw [e]; exact ⟨rfl, hS.nil⟩
  ·
    intro hc21
    clear hu11 hn11 hu12 hn12 hu13 hn13 hu14 hn14 hu17 hn17 hu18 hn18 hu19 hn19 hu20 hn20
    have e0 : checkR p = checkRGo p.in_ p.out p.ops 0 0 := by unfold checkR; rw [if_neg]; rw [Bool.not_eq_true]; exact hc21
    have hb := hc21
    simp only [Bool.or_eq_false_iff, Bool.not_eq_false', inS, Bool.and_eq_true, decide_eq_true_eq, decide_eq_false_iff_not] at hb
    obtain ⟨⟨⟨hb1, hb2⟩, hb3, hb4⟩, hb5⟩ := hb
    refine wpIn_skip ?_
    refine thenN ?_
    refine wpIn_seq ?_
    refine reg ?_
    refine qq hS (g_assignv (v := .int .i64 _) rfl) ?_
    refine ol_nil (thenN ?_)
    refine wpIn_seq ?_
    refine wpIn_seq ?_
    refine reg ?_
    refine qq hS (g_assignv (v := .int .i64 _) rfl) ?_
    refine ol_nil (thenN ?_)
    refine wpIn_block ?_
    refine loop (fun (x : Nat × Int) σ w => okS σ [(1, .pointer (some ⟨b1, 0, none⟩)), (4, .int .i64 x.2), (5, .int .i64 x.1)] ∧ St [] w0 I0 I0 w [.cel b1 31 [.bool p.lifted, .int .i64 p.in_, .int .i64 p.out, .slice ad m cap]] ∧ x.1 ≤ p.ops.length ∧ 0 ≤ x.2 ∧ x.2 ≤ 65536 ∧ checkRGo p.in_ p.out (p.ops.drop x.1) x.2 x.1 = checkRGo p.in_ p.out p.ops 0 0) (fun x => p.ops.length - x.1) ((0, 0)) ?_ ?_
    ·
      exact ⟨⟨rfl, rfl, rfl, trivial⟩, hS.sel [true], by simp, by decide, by decide, rfl⟩
    ·
      rintro ⟨k, s⟩ σ w_l ⟨hs, hS, hk0, hl0, hl1, hgo⟩
      dsimp only at hs hS hk0 hl0 hl1 hgo ⊢
      rw [← upds_self hs]; clear hs
      have hml := RSl.le hops
      simp only [maxLen] at hml
      refine wpIn_seq ?_
      refine wpIn_seq ?_
      refine reg ?_
      refine qq hS (g_movev (v := .int .i64 _) rfl) ?_
      refine qq hS (g_fieldAddr (o' := 3) Tryd.underlying31 rfl Tryd.sizeOf29 rfl rfl rfl) ?_
      refine qq hS (g_ldO1 0 Tryd.isAgg29 rfl rfl rfl) ?_
      refine qq hS (g_lenI rfl Tryd.underlying29 hops rfl) ?_
      refine qq hS (g_lss rfl rfl) ?_
      refine ol_nil (thenN ?_)
      refine cond_s rfl ?_ ?_
      ·
        intro hc26
        try simp only [Bool.and_eq_true, Bool.or_eq_true, Bool.not_eq_true', Bool.and_eq_false_imp, Bool.or_eq_false_iff, Bool.not_eq_false', decide_eq_true_eq, decide_eq_false_iff_not] at hc26
        obtain ⟨x, hx⟩ : ∃ x, p.ops[k]? = some x := ⟨_, List.getElem?_eq_getElem (by omega)⟩
        have hxm := List.mem_of_getElem? hx
        obtain ⟨cs, hcl, hoA, hro⟩ := RSl.at hops hx
        obtain ⟨adx, mx, capx, rfl, hd⟩ := hro
        have hxw := hp.ops x hxm
        obtain ⟨lx1, lx2⟩ := hxw.len
        rw [drop_cons hx] at hgo
        refine wpIn_skip ?_
        refine thenN ?_
        refine wpIn_seq ?_
        refine wpIn_block ?_
        refine wpIn_seq ?_
        refine wpIn_seq ?_
        refine draw (.cons 0 .pure (.cons 1 .held (.cons 2 .pure (.cons 3 .pure (.cons 4 .held (.cons 5 .pure (.cons 6 .held (.cons 7 .eff (.cons 8 .pure (.cons 9 .pure (.cons 10 .pure (.cons 11 .pure (.cons 12 .held (.cons 13 .pure (.cons 14 .pure (.cons 15 .pure (.cons 16 .held (.cons 17 .pure (.cons 18 .pure (.cons 19 .held (.cons 20 .pure (.cons 21 .pure .nil)))))))))))))))))))))) mixed (by kernel_rfl) hS ?_
        intro w_5 hS
        refine sp rfl (g_fieldAddr (o' := 3) Tryd.underlying31 rfl Tryd.sizeOf29 rfl rfl rfl) ?_
        refine sh rfl (g_ldO1 0 Tryd.isAgg29 rfl rfl rfl) ?_
        refine sp rfl (g_movev (v := .int .i64 _) rfl) ?_
        refine sp rfl (g_ixI Tryd.underlying29 Tryd.sizeOf53 hops rfl rfl (by omega) (by omega)) ?_
        refine sh rfl (g_ldE (us := [.int .i64 _, .int .i64 _, .int .i64 _, .int .u8 _, .slice _ _ _]) Tryd.sizeOf53 Tryd.isAgg53 hoA rfl rfl rfl) ?_
        refine sp rfl (g_fieldAddr (o' := 1) Tryd.underlying31 rfl Tryd.sizeOf3 rfl rfl rfl) ?_
        refine sh rfl (g_ldO1 0 Tryd.isAgg3 rfl rfl rfl) ?_
        have hS0 := hS
        refine se rfl (d_call Tryd.call60 rfl (rightOp_c x adx mx capx p.in_ _ I0 hS.imm hd hxw hp.in_)) ?_
        rintro _ w_6 ⟨rfl, hE⟩
        replace hS := hS.call hE
        refine ⟨_, _, hS0.le hE.ext (List.Sublist.refl _), hS, ?_⟩
        refine sp rfl (g_not rfl) ?_
        refine sp rfl (g_movev (v := .bool _) rfl) ?_
        refine spu rfl rfl rfl (fun hg => (g_movev (v := .int .i64 _) rfl)) ?_
        intro u39 hu39 hn39
        refine spu rfl rfl rfl (fun hg => (g_fieldAddr (o' := 3) Tryd.underlying31 rfl Tryd.sizeOf29 rfl rfl rfl)) ?_
        intro u40 hu40 hn40
        refine shu rfl rfl rfl (fun hg => (g_ldO1 0 Tryd.isAgg29 rfl (hu40 hg) rfl)) ?_
        intro u41 hu41 hn41
        refine spu rfl rfl rfl (fun hg => (g_movev (v := .int .i64 _) rfl)) ?_
        intro u42 hu42 hn42
        refine spu rfl rfl rfl (fun hg => (g_ixI Tryd.underlying29 Tryd.sizeOf53 hops (hu41 hg) (hu42 hg) (by omega) (by omega))) ?_
        intro u43 hu43 hn43
        refine spu rfl rfl rfl (fun hg => (g_fieldE (c' := 2) Tryd.underlying53 rfl Tryd.sizeOf3 rfl (hu43 hg) rfl)) ?_
        intro u44 hu44 hn44
        refine shu rfl rfl rfl (fun hg => (g_ldE1 Tryd.isAgg3 hoA (hu44 hg) rfl)) ?_
        intro u45 hu45 hn45
        refine spu rfl rfl rfl (fun hg => (g_add (hu39 hg) (hu45 hg) (by omega) (by omega))) ?_
        intro u46 hu46 hn46
        refine spu rfl rfl rfl (fun hg => (g_fieldAddr (o' := 2) Tryd.underlying31 rfl Tryd.sizeOf3 rfl rfl rfl)) ?_
        intro u47 hu47 hn47
        refine shu rfl rfl rfl (fun hg => (g_ldO1 0 Tryd.isAgg3 rfl (hu47 hg) rfl)) ?_
        intro u48 hu48 hn48
        refine spu rfl rfl rfl (fun hg => (g_gtr (hu46 hg) (hu48 hg))) ?_
        intro u49 hu49 hn49
        refine sp rfl (g_or rfl rfl (fun hq => hu49 hq)) ?_
        refine sn (thenN ?_)
        refine cond_s rfl ?_ ?_
        ·
          intro hc50
          clear hu39 hn39 hu40 hn40 hu41 hn41 hu42 hn42 hu43 hn43 hu44 hn44 hu45 hn45 hu46 hn46 hu47 hn47 hu48 hn48 hu49 hn49
          have e : checkR p = (↑k, 60) := by rw [e0, ← hgo, checkRGo_bad hc50]
          refine wpIn_seq ?_
          refine reg ?_
          refine qq hS (g_movev (v := .int .i64 _) rfl) ?_
          refine qq hS (g_assignv (v := .int .i64 _) rfl) ?_
          refine qq hS (g_assignv (v := .int .i64 _) rfl) ?_
          refine ol_nil (thenN ?_)
          refine wpIn_ret ?_
          refine thenR (blkR (thenR (thenR (blkR (thenR ?_)))))
          refine ret2 Tryd.results41 (rv_tmp (v := .int .i64 _) rfl) (rv_tmp (v := .int .i64 _) rfl) ?_
          rw [e]; exact ⟨rfl, hS.nil⟩
        ·
          intro hc50
          clear hu39 hn39 hu40 hn40 hu41 hn41 hu42 hn42 hu43 hn43 hu44 hn44 hu45 hn45 hu46 hn46 hu47 hn47 hu48 hn48 hu49 hn49
          rw [checkRGo_good hc50] at hgo
          simp only [Bool.or_eq_false_iff, decide_eq_false_iff_not, Bool.not_eq_false'] at hc50
          have hxl := rightR_len hc50.1
          have hxo := hc50.2
          refine wpIn_skip ?_
          refine thenN ?_
          refine reg ?_
          refine qq hS (g_movev (v := .int .i64 _) rfl) ?_
          refine qq hS (g_fieldAddr (o' := 3) Tryd.underlying31 rfl Tryd.sizeOf29 rfl rfl rfl) ?_
          refine qq hS (g_ldO1 0 Tryd.isAgg29 rfl rfl rfl) ?_
          refine qq hS (g_movev (v := .int .i64 _) rfl) ?_
          refine qq hS (g_ixI Tryd.underlying29 Tryd.sizeOf53 hops rfl rfl (by omega) (by omega)) ?_
          refine qq hS (g_fieldE (c' := 2) Tryd.underlying53 rfl Tryd.sizeOf3 rfl rfl rfl) ?_
          refine qq hS (g_ldE1 Tryd.isAgg3 hoA rfl rfl) ?_
          refine qq hS (g_add rfl rfl (by omega) (by omega)) ?_
          refine qq hS (g_assignv (v := .int .i64 _) rfl) ?_
          refine ol_nil (blkN (thenN ?_))
          refine reg ?_
          refine qq hS (g_movev (v := .int .i64 _) rfl) ?_
          refine qq hS (g_add rfl rfl (by omega) (by omega)) ?_
          refine qq hS (g_assignv (v := .int .i64 _) rfl) ?_
          exact ⟨(k + 1, s + x.len), _, rfl, ⟨⟨rfl, rfl, rfl, trivial⟩, hS.sel [true], by dsimp only; omega, by dsimp only; omega, by dsimp only; omega, hgo⟩, by dsimp only; omega⟩
      ·
        intro hc26
        try simp only [Bool.and_eq_true, Bool.or_eq_true, Bool.not_eq_true', Bool.and_eq_false_imp, Bool.or_eq_false_iff, Bool.not_eq_false', decide_eq_true_eq, decide_eq_false_iff_not] at hc26
        have hk : k = p.ops.length := by omega
        subst hk
        rw [List.drop_length] at hgo
        refine wpIn_exit ?_
        refine thenE (thenE (blkE ?_))
        refine thenN ?_
        refine wpIn_seq ?_
        refine wpIn_seq ?_
        refine reg ?_
        refine qq hS (g_movev (v := .int .i64 _) rfl) ?_
        refine qq hS (g_fieldAddr (o' := 2) Tryd.underlying31 rfl Tryd.sizeOf3 rfl rfl rfl) ?_
        refine qq hS (g_ldO1 0 Tryd.isAgg3 rfl rfl rfl) ?_
        refine qq hS (g_neq rfl rfl) ?_
        refine ol_nil (thenN ?_)
        refine cond_s rfl ?_ ?_
        ·
          intro hc63
          simp only [Bool.not_eq_true', Bool.not_eq_false', decide_eq_true_eq, decide_eq_false_iff_not] at hc63
          have e : checkR p = (↑p.ops.length, 60) := by rw [e0, ← hgo, checkRGo, if_neg hc63]
          refine wpIn_seq ?_
          refine reg ?_
          refine qq hS (g_fieldAddr (o' := 3) Tryd.underlying31 rfl Tryd.sizeOf29 rfl rfl rfl) ?_
          refine qq hS (g_ldO1 0 Tryd.isAgg29 rfl rfl rfl) ?_
          refine qq hS (g_lenI rfl Tryd.underlying29 hops rfl) ?_
          refine qq hS (g_assignv (v := .int .i64 _) rfl) ?_
          refine qq hS (g_assignv (v := .int .i64 _) rfl) ?_
          refine ol_nil (thenN ?_)
          refine wpIn_ret ?_
          refine thenR ?_
          refine ret2 Tryd.results41 (rv_tmp (v := .int .i64 _) rfl) (rv_tmp (v := .int .i64 _) rfl) ?_
          rw [e]; exact ⟨rfl, hS.nil⟩
        ·
          intro hc63
          simp only [Bool.not_eq_true', Bool.not_eq_false', decide_eq_true_eq, decide_eq_false_iff_not] at hc63
          have e : checkR p = (↑p.ops.length, 0) := by rw [e0, ← hgo, checkRGo, if_pos hc63]
          refine wpIn_skip ?_
          refine thenN ?_
          refine wpIn_seq ?_
          refine reg ?_
          refine qq hS (g_fieldAddr (o' := 3) Tryd.underlying31 rfl Tryd.sizeOf29 rfl rfl rfl) ?_
          refine qq hS (g_ldO1 0 Tryd.isAgg29 rfl rfl rfl) ?_
          refine qq hS (g_lenI rfl Tryd.underlying29 hops rfl) ?_
          refine qq hS (g_assignv (v := .int .i64 _) rfl) ?_
          refine qq hS (g_assignv (v := .int .i64 _) rfl) ?_
          refine ol_nil (thenN ?_)
          refine wpIn_ret ?_
          refine ret2 Tryd.results41 (rv_tmp (v := .int .i64 _) rfl) (rv_tmp (v := .int .i64 _) rfl) ?_
          rw [e]; exact ⟨rfl, hS.nil⟩

theorem rightP_c (p : PatL) (ad : Option Addr) (m cap : Nat) (w0 : World) (I0 : Imm) (hI : Sat I0 w0) (hops : ROps I0 (.slice ad m cap) p.ops) (hp : p.wf) :
    Ctr Tryd.prog 27 [.agg #[.bool p.lifted, .int .i64 p.in_, .int .i64 p.out, .slice ad m cap]] w0 (fun v w' => v = .bool (decide ((checkR p).2 = 0)) ∧ Ext w0 I0 w' I0) := by
  refine fn (n := 12) Tryd.func27 rfl rfl rfl ?_
  have hS := St.start hI
  refine wpIn_seq ?_
  refine reg ?_
  refine qe (d_box (cs := [.bool _, .int .i64 _, .int .i64 _, .slice _ _ _]) hS rfl) ?_
  clear hS
  rintro _ w_1 ⟨b_1, rfl, hS⟩
  refine qq hS (g_assignv (v := .bool _) rfl) ?_
  refine ol_nil (thenN ?_)
  refine wpIn_seq ?_
  refine reg ?_
  refine qq hS (g_ldO 0 (vs := [.bool _, .int .i64 _, .int .i64 _, .slice _ _ _]) Tryd.sizeOf31 Tryd.isAgg31 rfl rfl rfl rfl) ?_
  refine qe (d_call Tryd.call41 rfl (checkR_c p ad m cap _ I0 hS.imm hops hp)) ?_
  rintro _ w_2 ⟨rfl, hE⟩
  replace hS := hS.callE hE
  refine qq hS (g_move _) ?_
  refine qq hS (g_extract (v := .int .i64 _) rfl rfl) ?_
  refine qq hS (g_extract (v := .int .i64 _) rfl rfl) ?_
  refine qq hS (g_assignv (v := .int .i64 _) rfl) ?_
  refine qq hS (g_assignv (v := .int .i64 _) rfl) ?_
  refine ol_nil (thenN ?_)
  refine wpIn_seq ?_
  refine reg ?_
  refine qq hS (g_movev (v := .int .i64 _) rfl) ?_
  refine qq hS (g_eql rfl rfl) ?_
  refine qq hS (g_assignv (v := .bool _) rfl) ?_
  refine ol_nil (thenN ?_)
  refine wpIn_ret ?_
  refine ret1 Tryd.results27 (rv_tmp (v := .bool _) rfl) ?_
  exact ⟨rfl, hS.nil⟩

set_option maxHeartbeats 1000000 in
theorem sameOp_c (x y : OpL) (ad bd : Option Addr) (m cap mb capb : Nat) (w0 : World) (I0 : Imm) (hI : Sat I0 w0) (hd : RBytes I0 (.slice ad m cap) x.data) (hx : ∀ z ∈ x.data, 0 ≤ z ∧ z ≤ 255) (he : RBytes I0 (.slice bd mb capb) y.data) (hy : ∀ z ∈ y.data, 0 ≤ z ∧ z ≤ 255) :
    Ctr Tryd.prog 35 [opV x ad m cap, opV y bd mb capb] w0 (fun v w' => v = .bool (sameOpS x y) ∧ Ext w0 I0 w' I0) := by
  refine fn (n := 40) Tryd.func35 rfl rfl rfl ?_
  have hS := St.start hI
  refine wpIn_seq ?_
  refine reg ?_
  refine qe (d_box (cs := [.int .i64 _, .int .i64 _, .int .i64 _, .int .u8 _, .slice _ _ _]) hS rfl) ?_
  clear hS
  rintro _ w_1 ⟨b_1, rfl, hS⟩
  refine qe (d_box (cs := [.int .i64 _, .int .i64 _, .int .i64 _, .int .u8 _, .slice _ _ _]) hS rfl) ?_
  clear hS
  rintro _ w_2 ⟨b_2, rfl, hS⟩
  refine qq hS (g_assignv (v := .bool _) rfl) ?_
  refine ol_nil (thenN ?_)
  refine wpIn_seq ?_
  refine reg ?_
  refine qq hS (g_fieldAddr (o' := 0) Tryd.underlying53 rfl Tryd.sizeOf3 rfl rfl rfl) ?_
  refine qq hS (g_ldO1 1 Tryd.isAgg3 rfl rfl rfl) ?_
  refine qq hS (g_fieldAddr (o' := 0) Tryd.underlying53 rfl Tryd.sizeOf3 rfl rfl rfl) ?_
  refine qq hS (g_ldO1 0 Tryd.isAgg3 rfl rfl rfl) ?_
  refine qq hS (g_eql rfl rfl) ?_
  refine qq hS (g_movev (v := .bool _) rfl) ?_
  refine qu rfl rfl hS (fun hg => (g_fieldAddr (o' := 1) Tryd.underlying53 rfl Tryd.sizeOf3 rfl rfl rfl)) ?_
  intro u11 hu11 hn11
  refine qu rfl rfl hS (fun hg => (g_ldO1 1 Tryd.isAgg3 rfl (hu11 hg) rfl)) ?_
  intro u12 hu12 hn12
  refine qu rfl rfl hS (fun hg => (g_fieldAddr (o' := 1) Tryd.underlying53 rfl Tryd.sizeOf3 rfl rfl rfl)) ?_
  intro u13 hu13 hn13
  refine qu rfl rfl hS (fun hg => (g_ldO1 0 Tryd.isAgg3 rfl (hu13 hg) rfl)) ?_
  intro u14 hu14 hn14
  refine qu rfl rfl hS (fun hg => (g_eql (hu12 hg) (hu14 hg))) ?_
  intro u15 hu15 hn15
  refine qq hS (g_and rfl rfl (fun hq => hu15 hq)) ?_
  refine qq hS (g_movev (v := .bool _) rfl) ?_
  refine qu rfl rfl hS (fun hg => (g_fieldAddr (o' := 2) Tryd.underlying53 rfl Tryd.sizeOf3 rfl rfl rfl)) ?_
  intro u18 hu18 hn18
  refine qu rfl rfl hS (fun hg => (g_ldO1 1 Tryd.isAgg3 rfl (hu18 hg) rfl)) ?_
  intro u19 hu19 hn19
  refine qu rfl rfl hS (fun hg => (g_fieldAddr (o' := 2) Tryd.underlying53 rfl Tryd.sizeOf3 rfl rfl rfl)) ?_
  intro u20 hu20 hn20
  refine qu rfl rfl hS (fun hg => (g_ldO1 0 Tryd.isAgg3 rfl (hu20 hg) rfl)) ?_
  intro u21 hu21 hn21
  refine qu rfl rfl hS (fun hg => (g_eql (hu19 hg) (hu21 hg))) ?_
  intro u22 hu22 hn22
  refine qq hS (g_and rfl rfl (fun hq => hu22 hq)) ?_
  refine qq hS (g_movev (v := .bool _) rfl) ?_
  refine qu rfl rfl hS (fun hg => (g_fieldAddr (o' := 3) Tryd.underlying53 rfl Tryd.sizeOf5 rfl rfl rfl)) ?_
  intro u25 hu25 hn25
  refine qu rfl rfl hS (fun hg => (g_ldO1 1 Tryd.isAgg5 rfl (hu25 hg) rfl)) ?_
  intro u26 hu26 hn26
  refine qu rfl rfl hS (fun hg => (g_fieldAddr (o' := 3) Tryd.underlying53 rfl Tryd.sizeOf5 rfl rfl rfl)) ?_
  intro u27 hu27 hn27
  refine qu rfl rfl hS (fun hg => (g_ldO1 0 Tryd.isAgg5 rfl (hu27 hg) rfl)) ?_
  intro u28 hu28 hn28
  refine qu rfl rfl hS (fun hg => (g_eql (hu26 hg) (hu28 hg))) ?_
  intro u29 hu29 hn29
  refine qq hS (g_and rfl rfl (fun hq => hu29 hq)) ?_
  refine qq hS (g_movev (v := .bool _) rfl) ?_
  refine qu rfl rfl hS (fun hg => (g_fieldAddr (o' := 4) Tryd.underlying53 rfl Tryd.sizeOf25 rfl rfl rfl)) ?_
  intro u32 hu32 hn32
  refine qu rfl rfl hS (fun hg => (g_ldO1 1 Tryd.isAgg25 rfl (hu32 hg) rfl)) ?_
  intro u33 hu33 hn33
  refine qu rfl rfl hS (fun hg => (g_strI Tryd.underlying25 Tryd.underlying5 Tryd.underlying9 hd (hu33 hg))) ?_
  intro u34 hu34 hn34
  refine qu rfl rfl hS (fun hg => (g_fieldAddr (o' := 4) Tryd.underlying53 rfl Tryd.sizeOf25 rfl rfl rfl)) ?_
  intro u35 hu35 hn35
  refine qu rfl rfl hS (fun hg => (g_ldO1 0 Tryd.isAgg25 rfl (hu35 hg) rfl)) ?_
  intro u36 hu36 hn36
  refine qu rfl rfl hS (fun hg => (g_strI Tryd.underlying25 Tryd.underlying5 Tryd.underlying9 he (hu36 hg))) ?_
  intro u37 hu37 hn37
  refine qu rfl rfl hS (fun hg => (g_eqlB hx hy (hu34 hg) (hu37 hg))) ?_
  intro u38 hu38 hn38
  refine qq hS (g_and rfl rfl (fun hq => hu38 hq)) ?_
  refine qq hS (g_assignv (v := .bool _) rfl) ?_
  refine ol_nil (thenN ?_)
  refine wpIn_ret ?_
  refine ret1 Tryd.results35 (rv_tmp (v := .bool _) rfl) ?_
  exact ⟨rfl, hS.nil⟩

set_option maxHeartbeats 1000000 in
theorem sameR_c (p q : PatL) (ad bd : Option Addr) (m cap mb capb : Nat) (w0 : World) (I0 : Imm) (hI : Sat I0 w0) (hops : ROps I0 (.slice ad m cap) p.ops) (hp : ∀ x ∈ p.ops, ∀ z ∈ x.data, 0 ≤ z ∧ z ≤ 255) (hoq : ROps I0 (.slice bd mb capb) q.ops) (hq : ∀ x ∈ q.ops, ∀ z ∈ x.data, 0 ≤ z ∧ z ≤ 255) :
    Ctr Tryd.prog 17 [.agg #[.bool p.lifted, .int .i64 p.in_, .int .i64 p.out, .slice ad m cap], .agg #[.bool q.lifted, .int .i64 q.in_, .int .i64 q.out, .slice bd mb capb]] w0 (fun v w' => v = .bool (samePR p q) ∧ Ext w0 I0 w' I0) := by
  have hml := RSl.le hops
  simp only [maxLen] at hml
  refine fn (n := 53) Tryd.func17 rfl rfl rfl ?_
  have hS := St.start hI
  refine wpIn_seq ?_
  refine reg ?_
  refine qe (d_box (cs := [.bool _, .int .i64 _, .int .i64 _, .slice _ _ _]) hS rfl) ?_
  clear hS
  rintro _ w_1 ⟨b2, rfl, hS⟩
  refine qe (d_box (cs := [.bool _, .int .i64 _, .int .i64 _, .slice _ _ _]) hS rfl) ?_
  clear hS
  rintro _ w_2 ⟨b3, rfl, hS⟩
  refine qq hS (g_assignv (v := .bool _) rfl) ?_
  refine ol_nil (thenN ?_)
  refine wpIn_seq ?_
  refine wpIn_seq ?_
  refine reg ?_
  refine qq hS (g_fieldAddr (o' := 0) Tryd.underlying31 rfl Tryd.sizeOf4 rfl rfl rfl) ?_
  refine qq hS (g_ldO1 1 Tryd.isAgg4 rfl rfl rfl) ?_
  refine qq hS (g_fieldAddr (o' := 0) Tryd.underlying31 rfl Tryd.sizeOf4 rfl rfl rfl) ?_
  refine qq hS (g_ldO1 0 Tryd.isAgg4 rfl rfl rfl) ?_
  refine qq hS (g_neqb Tryd.underlying4 rfl rfl) ?_
  refine qq hS (g_movev (v := .bool _) rfl) ?_
  refine qu rfl rfl hS (fun hg => (g_fieldAddr (o' := 1) Tryd.underlying31 rfl Tryd.sizeOf3 rfl rfl rfl)) ?_
  intro u12 hu12 hn12
  refine qu rfl rfl hS (fun hg => (g_ldO1 1 Tryd.isAgg3 rfl (hu12 hg) rfl)) ?_
  intro u13 hu13 hn13
  refine qu rfl rfl hS (fun hg => (g_fieldAddr (o' := 1) Tryd.underlying31 rfl Tryd.sizeOf3 rfl rfl rfl)) ?_
  intro u14 hu14 hn14
  refine qu rfl rfl hS (fun hg => (g_ldO1 0 Tryd.isAgg3 rfl (hu14 hg) rfl)) ?_
  intro u15 hu15 hn15
  refine qu rfl rfl hS (fun hg => (g_neq (hu13 hg) (hu15 hg))) ?_
  intro u16 hu16 hn16
  refine qq hS (g_or rfl rfl (fun hq => hu16 hq)) ?_
  refine qq hS (g_movev (v := .bool _) rfl) ?_
  refine qu rfl rfl hS (fun hg => (g_fieldAddr (o' := 2) Tryd.underlying31 rfl Tryd.sizeOf3 rfl rfl rfl)) ?_
  intro u19 hu19 hn19
  refine qu rfl rfl hS (fun hg => (g_ldO1 1 Tryd.isAgg3 rfl (hu19 hg) rfl)) ?_
  intro u20 hu20 hn20
  refine qu rfl rfl hS (fun hg => (g_fieldAddr (o' := 2) Tryd.underlying31 rfl Tryd.sizeOf3 rfl rfl rfl)) ?_
  intro u21 hu21 hn21
  refine qu rfl rfl hS (fun hg => (g_ldO1 0 Tryd.isAgg3 rfl (hu21 hg) rfl)) ?_
  intro u22 hu22 hn22
  refine qu rfl rfl hS (fun hg => (g_neq (hu20 hg) (hu22 hg))) ?_
  intro u23 hu23 hn23
  refine qq hS (g_or rfl rfl (fun hq => hu23 hq)) ?_
  refine qq hS (g_movev (v := .bool _) rfl) ?_
  refine qu rfl rfl hS (fun hg => (g_fieldAddr (o' := 3) Tryd.underlying31 rfl Tryd.sizeOf29 rfl rfl rfl)) ?_
  intro u26 hu26 hn26
  refine qu rfl rfl hS (fun hg => (g_ldO1 1 Tryd.isAgg29 rfl (hu26 hg) rfl)) ?_
  intro u27 hu27 hn27
  refine qu rfl rfl hS (fun hg => (g_lenI rfl Tryd.underlying29 hops (hu27 hg))) ?_
  intro u28 hu28 hn28
  refine qu rfl rfl hS (fun hg => (g_fieldAddr (o' := 3) Tryd.underlying31 rfl Tryd.sizeOf29 rfl rfl rfl)) ?_
  intro u29 hu29 hn29
  refine qu rfl rfl hS (fun hg => (g_ldO1 0 Tryd.isAgg29 rfl (hu29 hg) rfl)) ?_
  intro u30 hu30 hn30
  refine qu rfl rfl hS (fun hg => (g_lenI rfl Tryd.underlying29 hoq (hu30 hg))) ?_
  intro u31 hu31 hn31
  refine qu rfl rfl hS (fun hg => (g_neq (hu28 hg) (hu31 hg))) ?_
  intro u32 hu32 hn32
  refine qq hS (g_or rfl rfl (fun hq => hu32 hq)) ?_
  refine ol_nil (thenN ?_)
  refine cond_s rfl ?_ ?_
  ·
    intro hc33
    clear hu12 hn12 hu13 hn13 hu14 hn14 hu15 hn15 hu16 hn16 hu19 hn19 hu20 hn20 hu21 hn21 hu22 hn22 hu23 hn23 hu26 hn26 hu27 hn27 hu28 hn28 hu29 hn29 hu30 hn30 hu31 hn31 hu32 hn32
    have e : samePR p q = false := by
      unfold samePR
      cases h1 : (p.lifted == q.lifted && decide (p.in_ = q.in_) && decide (p.out = q.out) && decide (p.ops.length = q.ops.length))
      · rfl
      · exfalso
        simp only [Bool.and_eq_true, beq_iff_eq, decide_eq_true_eq] at h1
        simp [h1] at hc33
    refine wpIn_seq ?_
    refine reg ?_
    refine qq hS (g_assignv (v := .bool _) rfl) ?_
    refine ol_nil (thenN ?_)
    refine wpIn_ret ?_
    refine thenR ?_
    refine ret1 Tryd.results17 (rv_tmp (v := .bool _) rfl) ?_
    rw [e]; exact ⟨rfl, hS.nil⟩
  ·
    intro hc33
    clear hu12 hn12 hu13 hn13 hu14 hn14 hu15 hn15 hu16 hn16 hu19 hn19 hu20 hn20 hu21 hn21 hu22 hn22 hu23 hn23 hu26 hn26 hu27 hn27 hu28 hn28 hu29 hn29 hu30 hn30 hu31 hn31 hu32 hn32
    have hall : p.lifted = q.lifted ∧ p.in_ = q.in_ ∧ p.out = q.out ∧ p.ops.length = q.ops.length := by
      simp at hc33; exact ⟨hc33.1.1.1, hc33.1.1.2, hc33.1.2, by omega⟩
    obtain ⟨h1, h2, h3, h4⟩ := hall
    have e0 : samePR p q = sameOps p.ops q.ops 0 := by unfold samePR; simp [h1, h2, h3, h4]
    refine wpIn_skip ?_
    refine thenN ?_
    refine wpIn_seq ?_
    refine wpIn_seq ?_
    refine reg ?_
    refine qq hS (g_assignv (v := .int .i64 _) rfl) ?_
    refine ol_nil (thenN ?_)
    refine wpIn_block ?_
    refine loop (fun (k : Nat) σ w => okS σ [(2, .pointer (some ⟨b2, 0, none⟩)), (3, .pointer (some ⟨b3, 0, none⟩)), (5, .int .i64 k)] ∧ St [] w0 I0 I0 w [.cel b2 31 [.bool p.lifted, .int .i64 p.in_, .int .i64 p.out, .slice ad m cap], .cel b3 31 [.bool q.lifted, .int .i64 q.in_, .int .i64 q.out, .slice bd mb capb]] ∧ k ≤ p.ops.length ∧ sameOps p.ops q.ops 0 = sameOps p.ops q.ops k) (fun k => p.ops.length - k) (0) ?_ ?_
    ·
      exact ⟨⟨rfl, rfl, rfl, trivial⟩, (hS.perm (List.Perm.swap _ _ _)).sel [true, true], by simp, rfl⟩
    ·
      rintro k σ w_l ⟨hs, hS, hk0, hgo⟩
      rw [← upds_self hs]; clear hs
      refine wpIn_seq ?_
      refine wpIn_seq ?_
      refine reg ?_
      refine qq hS (g_movev (v := .int .i64 _) rfl) ?_
      refine qq hS (g_fieldAddr (o' := 3) Tryd.underlying31 rfl Tryd.sizeOf29 rfl rfl rfl) ?_
      refine qq hS (g_ldO1 0 Tryd.isAgg29 rfl rfl rfl) ?_
      refine qq hS (g_lenI rfl Tryd.underlying29 hops rfl) ?_
      refine qq hS (g_lss rfl rfl) ?_
      refine ol_nil (thenN ?_)
      refine cond_s rfl ?_ ?_
      ·
        intro hc38
        try simp only [Bool.and_eq_true, Bool.or_eq_true, Bool.not_eq_true', Bool.and_eq_false_imp, Bool.or_eq_false_iff, Bool.not_eq_false', decide_eq_true_eq, decide_eq_false_iff_not] at hc38
        obtain ⟨x, hx⟩ : ∃ x, p.ops[k]? = some x := ⟨_, List.getElem?_eq_getElem (by omega)⟩
        have hxm := List.mem_of_getElem? hx
        obtain ⟨cs, hcl, hoA, hro⟩ := RSl.at hops hx
        obtain ⟨adx, mx, capx, rfl, hd⟩ := hro
        obtain ⟨y, hy⟩ : ∃ y, q.ops[k]? = some y := ⟨_, List.getElem?_eq_getElem (by omega)⟩
        have hym := List.mem_of_getElem? hy
        obtain ⟨cs', hcl', hoB, hro'⟩ := RSl.at hoq hy
        obtain ⟨ady, my, capy, rfl, he⟩ := hro'
        refine wpIn_skip ?_
        refine thenN ?_
        refine wpIn_seq ?_
        refine wpIn_block ?_
        refine wpIn_seq ?_
        refine draw (.cons 0 .pure (.cons 1 .held (.cons 2 .pure (.cons 3 .pure (.cons 4 .held (.cons 5 .pure (.cons 6 .held (.cons 7 .pure (.cons 8 .pure (.cons 9 .held (.cons 10 .eff (.cons 11 .pure .nil)))))))))))) mixed (by kernel_rfl) hS ?_
        intro w_3 hS
        refine sp rfl (g_fieldAddr (o' := 3) Tryd.underlying31 rfl Tryd.sizeOf29 rfl rfl rfl) ?_
        refine sh rfl (g_ldO1 0 Tryd.isAgg29 rfl rfl rfl) ?_
        refine sp rfl (g_movev (v := .int .i64 _) rfl) ?_
        refine sp rfl (g_ixI Tryd.underlying29 Tryd.sizeOf53 hops rfl rfl (by omega) (by omega)) ?_
        refine sh rfl (g_ldE (us := [.int .i64 _, .int .i64 _, .int .i64 _, .int .u8 _, .slice _ _ _]) Tryd.sizeOf53 Tryd.isAgg53 hoA rfl rfl rfl) ?_
        refine sp rfl (g_fieldAddr (o' := 3) Tryd.underlying31 rfl Tryd.sizeOf29 rfl rfl rfl) ?_
        refine sh rfl (g_ldO1 1 Tryd.isAgg29 rfl rfl rfl) ?_
        refine sp rfl (g_movev (v := .int .i64 _) rfl) ?_
        refine sp rfl (g_ixI Tryd.underlying29 Tryd.sizeOf53 hoq rfl rfl (by omega) (by omega)) ?_
        refine sh rfl (g_ldE (us := [.int .i64 _, .int .i64 _, .int .i64 _, .int .u8 _, .slice _ _ _]) Tryd.sizeOf53 Tryd.isAgg53 hoB rfl rfl rfl) ?_
        have hS0 := hS
        refine se rfl (d_call Tryd.call35 rfl (sameOp_c x y adx ady mx capx my capy _ I0 hS.imm hd (hp x hxm) he (hq y hym))) ?_
        rintro _ w_4 ⟨rfl, hE⟩
        replace hS := hS.call hE
        refine ⟨_, _, hS0.le hE.ext (List.Sublist.refl _), hS, ?_⟩
        refine sp rfl (g_not rfl) ?_
        refine sn (thenN ?_)
        refine cond_s rfl ?_ ?_
        ·
          intro hc52
          simp only [Bool.not_eq_true', Bool.not_eq_false'] at hc52
          have e : samePR p q = false := by rw [e0, hgo, sameOps_step hx hy, hc52]; rfl
          refine wpIn_seq ?_
          refine reg ?_
          refine qq hS (g_assignv (v := .bool _) rfl) ?_
          refine ol_nil (thenN ?_)
          refine wpIn_ret ?_
          refine blkR (thenR (thenR (blkR (thenR ?_))))
          refine ret1 Tryd.results17 (rv_tmp (v := .bool _) rfl) ?_
          rw [e]; exact ⟨rfl, hS.nil⟩
        ·
          intro hc52
          simp only [Bool.not_eq_true', Bool.not_eq_false'] at hc52
          refine wpIn_skip ?_
          refine blkN (thenN ?_)
          refine reg ?_
          refine qq hS (g_movev (v := .int .i64 _) rfl) ?_
          refine qq hS (g_add rfl rfl (by omega) (by omega)) ?_
          refine qq hS (g_assignv (v := .int .i64 _) rfl) ?_
          exact ⟨k + 1, _, rfl, ⟨⟨rfl, rfl, rfl, trivial⟩, hS.sel [true, true], by omega, by rw [hgo, sameOps_step hx hy, hc52]; rfl⟩, by omega⟩
      ·
        intro hc38
        try simp only [Bool.and_eq_true, Bool.or_eq_true, Bool.not_eq_true', Bool.and_eq_false_imp, Bool.or_eq_false_iff, Bool.not_eq_false', decide_eq_true_eq, decide_eq_false_iff_not] at hc38
        have e : samePR p q = true := by rw [e0, hgo, sameOps_end (by omega)]
        refine wpIn_exit ?_
        refine thenE (thenE (blkE ?_))
        refine thenN ?_
        refine wpIn_seq ?_
        refine reg ?_
        refine qq hS (g_assignv (v := .bool _) rfl) ?_
        refine ol_nil (thenN ?_)
        refine wpIn_ret ?_
        refine ret1 Tryd.results17 (rv_tmp (v := .bool _) rfl) ?_
        rw [e]; exact ⟨rfl, hS.nil⟩

end Go.Proofs.YtdgnojckkjfhfaaDoor


namespace Go.Proofs.YtdgnojckkjfhfaaDoor
open Go Go.RowKit Go.Inl
set_option linter.unusedSimpArgs false
set_option linter.unusedVariables false
end Go.Proofs.YtdgnojckkjfhfaaDoor


namespace Go.Proofs.YtdgnojckkjfhfaaDoor
open Go Go.RowKit Go.Inl
set_option linter.unusedSimpArgs false
set_option linter.unusedVariables false
structure Q4 where
  a : Int
  b : Int
  c : Int
  d : Int
def q4C (q : Q4) : List Value := [.int .u8 q.a, .int .u8 q.b, .int .u8 q.c, .int .u8 q.d]
def q4V (q : Q4) : Value := .agg #[.int .u8 q.a, .int .u8 q.b, .int .u8 q.c, .int .u8 q.d]
def Q4.wf (q : Q4) : Prop := (0 ≤ q.a ∧ q.a ≤ 255) ∧ (0 ≤ q.b ∧ q.b ≤ 255) ∧ (0 ≤ q.c ∧ q.c ≤ 255) ∧ (0 ≤ q.d ∧ q.d ≤ 255)
def kindRaw (q : Q4) (size : Int) : Int := if 1 + q.a % 4 ≤ 2 ∧ size = 0 then 4 else 1 + q.a % 4
def fromRaw (q : Q4) (size : Int) : Int := if 1 + q.a % 4 ≤ 2 ∧ size ≠ 0 then q.b % size else 0
def lenRaw (q : Q4) (size : Int) : Int := if 1 + q.a % 4 ≤ 2 ∧ size ≠ 0 then 1 + q.c % (size - q.b % size) % 5 else 1 + q.c % 5
def bRaw (q : Q4) (size : Int) : Int := if kindRaw q size = 3 then q.d else 0
def datRaw (q : Q4) (i : Nat) : Int := IntKind.u8.wrap (q.d * ((i : Int) + q.a / 4))
def opRaw (q : Q4) (size : Int) : OpL :=
  { kind := kindRaw q size, from_ := fromRaw q size, len := lenRaw q size, b := bRaw q size, data := if kindRaw q size = 2 ∨ kindRaw q size = 4 then (List.range (lenRaw q size).toNat).map (datRaw q) else [] }
theorem lenRaw_bd {q : Q4} {size : Int} (hq : q.wf) (hs : 0 ≤ size) : 1 ≤ lenRaw q size ∧ lenRaw q size ≤ 5 := by
  unfold lenRaw
  split <;> omega
theorem kindRaw_bd {q : Q4} {size : Int} (hq : q.wf) : 1 ≤ kindRaw q size ∧ kindRaw q size ≤ 4 := by
  unfold kindRaw
  split <;> omega
theorem fromRaw_bd {q : Q4} {size : Int} (hq : q.wf) (hs : 0 ≤ size) : 0 ≤ fromRaw q size ∧ fromRaw q size ≤ size := by
  unfold fromRaw
  split
  · rename_i h
    have h1 := Int.emod_nonneg q.b h.2
    have h2 := Int.emod_lt_of_pos q.b (show 0 < size by omega)
    omega
  · omega
theorem datRaw_bd (q : Q4) (i : Nat) : 0 ≤ datRaw q i ∧ datRaw q i ≤ 255 := by
  unfold datRaw
  rw [IntKind.wrap_u8]
  omega
theorem opRaw_wf {q : Q4} {size : Int} (hq : q.wf) (hs : 0 ≤ size ∧ size ≤ 65536) : (opRaw q size).wf := by
  have h1 := lenRaw_bd hq hs.1
  have h2 := kindRaw_bd (size := size) hq
  have h3 := fromRaw_bd hq hs.1
  obtain ⟨⟨a1, a2⟩, ⟨b1, b2⟩, ⟨c1, c2⟩, ⟨d1, d2⟩⟩ := hq
  refine ⟨⟨by show _ ≤ kindRaw q size; omega, by show kindRaw q size ≤ _; omega⟩, ⟨by show _ ≤ fromRaw q size; omega, by show fromRaw q size ≤ _; omega⟩, ⟨by show _ ≤ lenRaw q size; omega, by show lenRaw q size ≤ _; omega⟩, ?_, ?_⟩
  · show 0 ≤ bRaw q size ∧ bRaw q size ≤ 255
    unfold bRaw; split <;> omega
  · intro y hy
    unfold opRaw at hy
    dsimp only at hy
    split at hy
    · obtain ⟨i, _, rfl⟩ := List.mem_map.1 hy; exact datRaw_bd q i
    · simp at hy
def sumL : List OpL → Int
  | [] => 0
  | x :: l => x.len + sumL l
theorem sumL_snoc : ∀ (l : List OpL) (x : OpL), sumL (l ++ [x]) = sumL l + x.len
  | [], x => by simp [sumL]
  | y :: l, x => by rw [List.cons_append, sumL, sumL, sumL_snoc l x]; omega
def opsRaw (l : List Q4) (size : Int) : List OpL := (l.take 6).map fun q => opRaw q size
def madeP (l : List Q4) (size : Int) : PatL := ⟨false, size, sumL (opsRaw l size), opsRaw l size⟩

structure RS where
  k : Nat
  css : List (List Value)
  a : Option Addr
  c : Nat

set_option maxHeartbeats 1000000 in
theorem opRaw_c (q : Q4) (size : Int) (w0 : World) (I0 : Imm) (hI : Sat I0 w0) (hq : q.wf) (hs0 : 0 ≤ size) (hs1 : size ≤ 65536) :
    Ctr Tryd.prog 53 [q4V q, .int .i64 size] w0 (fun v w' => ∃ I' ad m cap, v = opV (opRaw q size) ad m cap ∧ Ext w0 I0 w' I' ∧ RBytes I' (.slice ad m cap) (opRaw q size).data) := by
  have hlr := lenRaw_bd hq hs0
  obtain ⟨⟨qa1, qa2⟩, ⟨qb1, qb2⟩, ⟨qc1, qc2⟩, ⟨qd1, qd2⟩⟩ := hq
  refine fn (n := 79) Tryd.func53 rfl rfl rfl ?_
  have hS := St.start hI
  refine wpIn_seq ?_
  refine reg ?_
  refine qe (d_box (cs := [.int .u8 _, .int .u8 _, .int .u8 _, .int .u8 _]) hS rfl) ?_
  clear hS
  rintro _ w_1 ⟨b2, rfl, hS⟩
  refine qe (d_alloc (cs := [.int .i64 _, .int .i64 _, .int .i64 _, .int .u8 _, .slice _ _ _]) hS Tryd.zeroValue53 rfl) ?_
  clear hS
  rintro _ w_2 ⟨b4, rfl, hS⟩
  refine ol_nil (thenN ?_)
  refine wpIn_seq ?_
  refine reg ?_
  refine qq hS (g_indexArr (o' := 0) Tryd.underlying117 Tryd.sizeOf5 rfl rfl (by decide) (by decide) rfl) ?_
  refine qq hS (g_ldO1 1 Tryd.isAgg5 rfl rfl rfl) ?_
  refine qq hS (g_convi Tryd.underlying5 Tryd.underlying3 rfl (by omega) (by omega)) ?_
  refine qq hS (g_rem rfl rfl (by omega) (by omega)) ?_
  refine qq hS (g_add rfl rfl (by omega) (by omega)) ?_
  refine qq hS (g_indexArr (o' := 2) Tryd.underlying117 Tryd.sizeOf5 rfl rfl (by decide) (by decide) rfl) ?_
  refine qq hS (g_ldO1 1 Tryd.isAgg5 rfl rfl rfl) ?_
  refine qq hS (g_convi Tryd.underlying5 Tryd.underlying3 rfl (by omega) (by omega)) ?_
  refine qq hS (g_rem rfl rfl (by omega) (by omega)) ?_
  refine qq hS (g_add rfl rfl (by omega) (by omega)) ?_
  refine qq hS (g_buildv (pl := [(0, 1), (1, 1), (2, 1), (3, 1), (4, 1)]) (cs := [.int .i64 _, .int .i64 _, .int .i64 _, .int .u8 _, .slice _ _ _]) Tryd.zeroValue53 Tryd.underlying53 (fun w => by simp [Tryd.sizeOf25, Tryd.sizeOf3, Tryd.sizeOf5]) (mp (v := .int .i64 _) rfl (mp (v := .int .i64 _) rfl mp0)) rfl) ?_
  refine qe (d_alloc (cs := [.int .i64 _, .int .i64 _, .int .i64 _, .int .u8 _, .slice _ _ _]) hS Tryd.zeroValue53 rfl) ?_
  clear hS
  rintro _ w_3 ⟨b5, rfl, hS⟩
  refine qe (d_store 0 hS Tryd.sizeOf53 rfl rfl rfl (vs := [.int .i64 _, .int .i64 _, .int .i64 _, .int .u8 _, .slice _ _ _]) rfl rfl rfl (Nat.le_of_ble_eq_true rfl) (cs' := [_, _, _, _, _]) rfl) ?_
  clear hS
  rintro _ w_4 ⟨rfl, hS⟩
  refine ol_nil (thenN ?_)
  refine meet (fun σ w => okS σ [(1, .int .i64 size), (2, .pointer (some ⟨b2, 0, none⟩)), (4, .pointer (some ⟨b4, 0, none⟩)), (5, .pointer (some ⟨b5, 0, none⟩))] ∧ St [] w0 I0 I0 w [.cel b5 53 [.int .i64 (kindRaw q size), .int .i64 (fromRaw q size), .int .i64 (lenRaw q size), .int .u8 0, .slice none 0 0], .cel b4 53 [.int .i64 0, .int .i64 0, .int .i64 0, .int .u8 0, .slice none 0 0], .cel b2 117 [.int .u8 q.a, .int .u8 q.b, .int .u8 q.c, .int .u8 q.d]]) ?_ ?_
  ·
    refine wpIn_seq ?_
    refine reg ?_
    refine qq hS (g_fieldAddr (o' := 0) Tryd.underlying53 rfl Tryd.sizeOf3 rfl rfl rfl) ?_
    refine qq hS (g_ldO1 0 Tryd.isAgg3 rfl rfl rfl) ?_
    refine qq hS (g_leq rfl rfl) ?_
    refine ol_nil (thenN ?_)
    refine cond_s rfl ?_ ?_
    ·
      intro hc20
      simp only [decide_eq_true_eq, decide_eq_false_iff_not] at hc20
      refine wpIn_seq ?_
      refine reg ?_
      refine qq hS (g_movev (v := .int .i64 _) rfl) ?_
      refine qq hS (g_eql rfl rfl) ?_
      refine ol_nil (thenN ?_)
      refine cond_s rfl ?_ ?_
      ·
        intro hc22
        simp only [decide_eq_true_eq, decide_eq_false_iff_not] at hc22
        have ek : kindRaw q size = 4 := if_pos (by omega)
        have ef : fromRaw q size = 0 := if_neg (by omega)
        have el : lenRaw q size = 1 + q.c % 5 := if_neg (by omega)
        refine reg ?_
        refine qq hS (g_fieldAddr (o' := 0) Tryd.underlying53 rfl Tryd.sizeOf3 rfl rfl rfl) ?_
        refine qe (d_store 0 hS Tryd.sizeOf3 rfl rfl rfl (vs := [.int .i64 _]) rfl rfl rfl (Nat.le_of_ble_eq_true rfl) (cs' := [_, _, _, _, _]) rfl) ?_
        clear hS
        rintro _ w_5 ⟨rfl, hS⟩
        refine ol_nil (thenN ?_)
        refine ⟨_, rfl, ⟨rfl, rfl, rfl, rfl, trivial⟩, ?_⟩
        rw [ek, ef, el]
        exact hS.sel [true, true, true]
      ·
        intro hc22
        simp only [decide_eq_true_eq, decide_eq_false_iff_not] at hc22
        have ek : kindRaw q size = 1 + q.a % 4 := if_neg (by omega)
        have ef : fromRaw q size = q.b % size := if_pos (by omega)
        have el : lenRaw q size = 1 + q.c % (size - q.b % size) % 5 := if_pos (by omega)
        have hm1 := Int.emod_nonneg q.b (show size ≠ 0 by omega)
        have hm2 := Int.emod_lt_of_pos q.b (show 0 < size by omega)
        have hm3 := Int.emod_nonneg q.c (show size - q.b % size ≠ 0 by omega)
        have hm4 := Int.emod_lt_of_pos q.c (show 0 < size - q.b % size by omega)
        refine wpIn_seq ?_
        refine reg ?_
        refine qq hS (g_indexArr (o' := 1) Tryd.underlying117 Tryd.sizeOf5 rfl rfl (by decide) (by decide) rfl) ?_
        refine qq hS (g_ldO1 2 Tryd.isAgg5 rfl rfl rfl) ?_
        refine qq hS (g_convi Tryd.underlying5 Tryd.underlying3 rfl (by omega) (by omega)) ?_
        refine qq hS (g_movev (v := .int .i64 _) rfl) ?_
        refine qq hS (g_rem rfl rfl (by omega) (by omega)) ?_
        refine qq hS (g_fieldAddr (o' := 1) Tryd.underlying53 rfl Tryd.sizeOf3 rfl rfl rfl) ?_
        refine qe (d_store 0 hS Tryd.sizeOf3 rfl rfl rfl (vs := [.int .i64 _]) rfl rfl rfl (Nat.le_of_ble_eq_true rfl) (cs' := [_, _, _, _, _]) rfl) ?_
        clear hS
        rintro _ w_6 ⟨rfl, hS⟩
        refine ol_nil (thenN ?_)
        refine reg ?_
        refine qq hS (g_indexArr (o' := 2) Tryd.underlying117 Tryd.sizeOf5 rfl rfl (by decide) (by decide) rfl) ?_
        refine qq hS (g_ldO1 2 Tryd.isAgg5 rfl rfl rfl) ?_
        refine qq hS (g_convi Tryd.underlying5 Tryd.underlying3 rfl (by omega) (by omega)) ?_
        refine qq hS (g_movev (v := .int .i64 _) rfl) ?_
        refine qq hS (g_fieldAddr (o' := 1) Tryd.underlying53 rfl Tryd.sizeOf3 rfl rfl rfl) ?_
        refine qq hS (g_ldO1 0 Tryd.isAgg3 rfl rfl rfl) ?_
        refine qq hS (g_sub rfl rfl (by omega) (by omega)) ?_
        refine qq hS (g_rem rfl rfl (by omega) (by omega)) ?_
        refine qq hS (g_rem rfl rfl (by omega) (by omega)) ?_
        refine qq hS (g_add rfl rfl (by omega) (by omega)) ?_
        refine qq hS (g_fieldAddr (o' := 2) Tryd.underlying53 rfl Tryd.sizeOf3 rfl rfl rfl) ?_
        refine qe (d_store 0 hS Tryd.sizeOf3 rfl rfl rfl (vs := [.int .i64 _]) rfl rfl rfl (Nat.le_of_ble_eq_true rfl) (cs' := [_, _, _, _, _]) rfl) ?_
        clear hS
        rintro _ w_7 ⟨rfl, hS⟩
        refine ol_nil (thenN ?_)
        refine ⟨_, rfl, ⟨rfl, rfl, rfl, rfl, trivial⟩, ?_⟩
        rw [ek, ef, el]
        exact hS.sel [true, true, true]
    ·
      intro hc20
      simp only [decide_eq_true_eq, decide_eq_false_iff_not] at hc20
      have ek : kindRaw q size = 1 + q.a % 4 := if_neg (by omega)
      have ef : fromRaw q size = 0 := if_neg (by omega)
      have el : lenRaw q size = 1 + q.c % 5 := if_neg (by omega)
      refine wpIn_skip ?_
      refine thenN ?_
      refine ⟨_, rfl, ⟨rfl, rfl, rfl, rfl, trivial⟩, ?_⟩
      rw [ek, ef, el]
      exact hS.sel [true, true, true]
  ·
    rintro σ w ⟨hs, hS⟩
    rw [← upds_self hs]
    refine meet (fun σ w => okS σ [(1, .int .i64 size), (2, .pointer (some ⟨b2, 0, none⟩)), (4, .pointer (some ⟨b4, 0, none⟩)), (5, .pointer (some ⟨b5, 0, none⟩))] ∧ St [] w0 I0 I0 w [.cel b5 53 [.int .i64 (kindRaw q size), .int .i64 (fromRaw q size), .int .i64 (lenRaw q size), .int .u8 (bRaw q size), .slice none 0 0], .cel b4 53 [.int .i64 0, .int .i64 0, .int .i64 0, .int .u8 0, .slice none 0 0], .cel b2 117 [.int .u8 q.a, .int .u8 q.b, .int .u8 q.c, .int .u8 q.d]]) ?_ ?_
    ·
      refine wpIn_seq ?_
      refine reg ?_
      refine qq hS (g_fieldAddr (o' := 0) Tryd.underlying53 rfl Tryd.sizeOf3 rfl rfl rfl) ?_
      refine qq hS (g_ldO1 0 Tryd.isAgg3 rfl rfl rfl) ?_
      refine qq hS (g_eql rfl rfl) ?_
      refine ol_nil (thenN ?_)
      refine cond_s rfl ?_ ?_
      ·
        intro hc43
        simp only [decide_eq_true_eq, decide_eq_false_iff_not] at hc43
        have eb : bRaw q size = q.d := if_pos hc43
        refine reg ?_
        refine qq hS (g_indexArr (o' := 3) Tryd.underlying117 Tryd.sizeOf5 rfl rfl (by decide) (by decide) rfl) ?_
        refine qq hS (g_ldO1 2 Tryd.isAgg5 rfl rfl rfl) ?_
        refine qq hS (g_fieldAddr (o' := 3) Tryd.underlying53 rfl Tryd.sizeOf5 rfl rfl rfl) ?_
        refine qe (d_store 0 hS Tryd.sizeOf5 rfl rfl rfl (vs := [.int .u8 _]) rfl rfl rfl (Nat.le_of_ble_eq_true rfl) (cs' := [_, _, _, _, _]) rfl) ?_
        clear hS
        rintro _ w_8 ⟨rfl, hS⟩
        refine ol_nil (thenN ?_)
        refine ⟨_, rfl, ⟨rfl, rfl, rfl, rfl, trivial⟩, ?_⟩
        rw [eb]
        exact hS.sel [true, true, true]
      ·
        intro hc43
        simp only [decide_eq_true_eq, decide_eq_false_iff_not] at hc43
        have eb : bRaw q size = 0 := if_neg hc43
        refine wpIn_skip ?_
        refine thenN ?_
        refine ⟨_, rfl, ⟨rfl, rfl, rfl, rfl, trivial⟩, ?_⟩
        rw [eb]
        exact hS.sel [true, true, true]
    ·
      rintro σ w ⟨hs, hS⟩
      rw [← upds_self hs]
      refine wpIn_seq ?_
      refine wpIn_seq ?_
      refine reg ?_
      refine qq hS (g_assignv (v := .int .i64 _) rfl) ?_
      refine ol_nil (thenN ?_)
      refine wpIn_block ?_
      refine loop (fun (x : Nat × Option Addr × Nat) σ w => okS σ [(2, .pointer (some ⟨b2, 0, none⟩)), (4, .pointer (some ⟨b4, 0, none⟩)), (5, .pointer (some ⟨b5, 0, none⟩)), (6, .int .i64 x.1)] ∧ St [] w0 I0 I0 w [.row (.slice x.2.1 x.1 x.2.2) 5 1 x.1 (flat byteC ((List.range x.1).map (datRaw q))), .cel b5 53 [.int .i64 (kindRaw q size), .int .i64 (fromRaw q size), .int .i64 (lenRaw q size), .int .u8 (bRaw q size), .slice x.2.1 x.1 x.2.2], .cel b4 53 [.int .i64 0, .int .i64 0, .int .i64 0, .int .u8 0, .slice none 0 0], .cel b2 117 [.int .u8 q.a, .int .u8 q.b, .int .u8 q.c, .int .u8 q.d]] ∧ (x.1 : Int) ≤ lenRaw q size ∧ (x.1 = 0 ∨ (kindRaw q size = 2 ∨ kindRaw q size = 4))) (fun x => (lenRaw q size).toNat - x.1) ((0, none, 0)) ?_ ?_
      ·
        exact ⟨⟨rfl, rfl, rfl, rfl, trivial⟩, (hS.sel [true, true, true]).nilRow _ _, by dsimp only; omega, .inl rfl⟩
      ·
        rintro ⟨i, a, c⟩ σ w_l ⟨hs, hS, hi0, hi1⟩
        dsimp only at hs hS hi0 hi1 ⊢
        rw [← upds_self hs]; clear hs
        refine wpIn_seq ?_
        refine wpIn_seq ?_
        refine reg ?_
        refine qq hS (g_movev (v := .int .i64 _) rfl) ?_
        refine qq hS (g_fieldAddr (o' := 2) Tryd.underlying53 rfl Tryd.sizeOf3 rfl rfl rfl) ?_
        refine qq hS (g_ldO1 1 Tryd.isAgg3 rfl rfl rfl) ?_
        refine qq hS (g_lss rfl rfl) ?_
        refine qq hS (g_movev (v := .bool _) rfl) ?_
        refine qu rfl rfl hS (fun hg => (g_fieldAddr (o' := 0) Tryd.underlying53 rfl Tryd.sizeOf3 rfl rfl rfl)) ?_
        intro u52 hu52 hn52
        refine qu rfl rfl hS (fun hg => (g_ldO1 1 Tryd.isAgg3 rfl (hu52 hg) rfl)) ?_
        intro u53 hu53 hn53
        refine qu rfl rfl hS (fun hg => (g_eql (hu53 hg) rfl)) ?_
        intro u54 hu54 hn54
        refine qu rfl rfl hS (fun hg => (g_movev (hu54 hg))) ?_
        intro u55 hu55 hn55
        refine qn rfl hu55 hn55 hS (fun hg => (g_fieldAddr (o' := 0) Tryd.underlying53 rfl Tryd.sizeOf3 rfl rfl rfl)) ?_
        intro u56 hu56 hn56
        refine qn rfl hu55 hn55 hS (fun hg => (g_ldO1 1 Tryd.isAgg3 rfl (hu56 hg) rfl)) ?_
        intro u57 hu57 hn57
        refine qn rfl hu55 hn55 hS (fun hg => (g_eql (hu57 hg) rfl)) ?_
        intro u58 hu58 hn58
        refine qu rfl rfl hS (fun hg => (g_or (hu55 hg) rfl (fun hq => hu58 ⟨hg, hq⟩))) ?_
        intro u59 hu59 hn59
        refine qq hS (g_and rfl rfl (fun hq => hu59 hq)) ?_
        refine ol_nil (thenN ?_)
        refine cond_s rfl ?_ ?_
        ·
          intro hc60
          clear hu52 hn52 hu53 hn53 hu54 hn54 hu55 hn55 hu56 hn56 hu57 hn57 hu58 hn58 hu59 hn59
          simp only [Bool.and_eq_true, Bool.and_eq_false_iff, Bool.or_eq_true, Bool.or_eq_false_iff, decide_eq_true_eq, decide_eq_false_iff_not] at hc60
          refine wpIn_skip ?_
          refine thenN ?_
          refine wpIn_seq ?_
          refine wpIn_block ?_
          refine reg ?_
          refine qq hS (g_fieldAddr (o' := 4) Tryd.underlying53 rfl Tryd.sizeOf25 rfl rfl rfl) ?_
          refine qq hS (g_ldO1 1 Tryd.isAgg25 rfl rfl rfl) ?_
          refine qq hS (g_indexArr (o' := 3) Tryd.underlying117 Tryd.sizeOf5 rfl rfl (by decide) (by decide) rfl) ?_
          refine qq hS (g_ldO1 3 Tryd.isAgg5 rfl rfl rfl) ?_
          refine qq hS (g_movev (v := .int .i64 _) rfl) ?_
          refine qq hS (g_indexArr (o' := 0) Tryd.underlying117 Tryd.sizeOf5 rfl rfl (by decide) (by decide) rfl) ?_
          refine qq hS (g_ldO1 3 Tryd.isAgg5 rfl rfl rfl) ?_
          refine qq hS (g_convi Tryd.underlying5 Tryd.underlying3 rfl (by omega) (by omega)) ?_
          refine qq hS (g_quo rfl rfl (by omega) (by omega) (by omega)) ?_
          refine qq hS (g_add rfl rfl (by omega) (by omega)) ?_
          refine qq hS (g_convb Tryd.underlying3 Tryd.underlying5 rfl (by omega) (by omega)) ?_
          refine qq hS (g_mulw rfl rfl) ?_
          refine qe (d_lit (vs := [.int .u8 _]) (cs := [.int .u8 _]) hS Tryd.underlying25 Tryd.sizeOf5 Tryd.zeroValue5 rfl rfl rfl rfl (fun v hv => by simp only [List.mem_cons, List.not_mem_nil, or_false] at hv; subst hv; rfl) rfl) ?_
          clear hS
          rintro _ w_9 ⟨b_9, rfl, hS⟩
          refine qe (i_appendO 1 0 hS rfl Tryd.underlying25 info5 rfl rfl rfl rfl rfl rfl rfl rfl (by omega) (by omega)) ?_
          clear hS
          rintro _ w_10 ⟨a76, p76, rfl, hS⟩
          refine qq hS (g_fieldAddr (o' := 4) Tryd.underlying53 rfl Tryd.sizeOf25 rfl rfl rfl) ?_
          refine qe (d_store 2 hS Tryd.sizeOf25 rfl rfl rfl (vs := [.slice _ _ _]) rfl rfl rfl (Nat.le_of_ble_eq_true rfl) (cs' := [_, _, _, _, _]) rfl) ?_
          clear hS
          rintro _ w_11 ⟨rfl, hS⟩
          refine ol_nil (blkN (thenN ?_))
          refine reg ?_
          refine qq hS (g_movev (v := .int .i64 _) rfl) ?_
          refine qq hS (g_add rfl rfl (by omega) (by omega)) ?_
          refine qq hS (g_assignv (v := .int .i64 _) rfl) ?_
          refine ⟨(i + 1, a76, p76), _, rfl, ⟨⟨rfl, rfl, rfl, rfl, trivial⟩, ?_, by dsimp only; omega, .inr hc60.2⟩, by dsimp only; omega⟩
          dsimp only
          rw [List.range_succ, List.map_append, flat_append, List.map_cons, List.map_nil, flat_one]
          exact hS.sel [false, true, true, true, true]
        ·
          intro hc60
          clear hu52 hn52 hu53 hn53 hu54 hn54 hu55 hn55 hu56 hn56 hu57 hn57 hu58 hn58 hu59 hn59
          simp only [Bool.and_eq_true, Bool.and_eq_false_iff, Bool.or_eq_true, Bool.or_eq_false_iff, decide_eq_true_eq, decide_eq_false_iff_not] at hc60
          have hdat : (opRaw q size).data = (List.range i).map (datRaw q) := by
            unfold opRaw
            dsimp only
            split
            · rename_i hk2
              have hi : i = (lenRaw q size).toNat := by omega
              rw [hi]
            · rename_i hk2
              have hi : i = 0 := by omega
              rw [hi]; rfl
          refine wpIn_exit ?_
          refine thenE (thenE (blkE ?_))
          refine thenN ?_
          refine wpIn_seq ?_
          refine reg ?_
          refine qq hS (g_ldO 1 (vs := [.int .i64 _, .int .i64 _, .int .i64 _, .int .u8 _, .slice _ _ _]) Tryd.sizeOf53 Tryd.isAgg53 rfl rfl rfl rfl) ?_
          refine qe (d_store 2 hS Tryd.sizeOf53 rfl rfl rfl (vs := [.int .i64 _, .int .i64 _, .int .i64 _, .int .u8 _, .slice _ _ _]) rfl rfl rfl (Nat.le_of_ble_eq_true rfl) (cs' := [_, _, _, _, _]) rfl) ?_
          clear hS
          rintro _ w_12 ⟨rfl, hS⟩
          refine ol_nil (thenN ?_)
          refine wpIn_ret ?_
          refine ret1 Tryd.results53 (rv_cel 2 hS Tryd.sizeOf53 Tryd.isAgg53 rfl rfl rfl) ?_
          have hS1 := hS.sel [true, false, false, false]
          obtain ⟨I1, hE1, hI1, hd1⟩ := row_freeze1 byteC_len (xs := (List.range i).map (datRaw q)) hS1 (by simp)
          exact ⟨I1, a, i, c, rfl, hE1, by rw [hdat]; exact hd1⟩

set_option maxHeartbeats 1000000 in
theorem sized_c (r : Int) (ad : Option Addr) (cap : Nat) (l : List Q4) (size : Int) (w0 : World) (I0 : Imm) (hI : Sat I0 w0) (hl : RFl I0 4 q4C (.slice ad l.length cap) l) (hq : ∀ q ∈ l, q.wf) (hs0 : 0 ≤ size) (hs1 : size ≤ 65536) :
    Ctr Tryd.prog 36 [.agg #[.int .u8 r, .slice ad l.length cap], .int .i64 size] w0 (fun v w' => ∃ I' a m c, v = .agg #[.bool (madeP l size).lifted, .int .i64 (madeP l size).in_, .int .i64 (madeP l size).out, .slice a m c] ∧ Ext w0 I0 w' I' ∧ ROps I' (.slice a m c) (madeP l size).ops) := by
  have hll := RSl.le hl
  simp only [maxLen] at hll
  refine fn (n := 41) Tryd.func36 rfl rfl rfl ?_
  have hS := St.start hI
  refine wpIn_seq ?_
  refine reg ?_
  refine qe (d_box (cs := [.int .u8 _, .slice _ _ _]) hS rfl) ?_
  clear hS
  rintro _ w_1 ⟨b2, rfl, hS⟩
  refine qe (d_alloc (cs := [.bool _, .int .i64 _, .int .i64 _, .slice _ _ _]) hS Tryd.zeroValue31 rfl) ?_
  clear hS
  rintro _ w_2 ⟨b4, rfl, hS⟩
  refine ol_nil (thenN ?_)
  refine wpIn_seq ?_
  refine reg ?_
  refine qq hS (g_movev (v := .int .i64 _) rfl) ?_
  refine qq hS (g_buildv (pl := [(0, 1), (1, 1), (2, 1), (3, 1)]) (cs := [.bool _, .int .i64 _, .int .i64 _, .slice _ _ _]) Tryd.zeroValue31 Tryd.underlying31 (fun w => by simp [Tryd.sizeOf29, Tryd.sizeOf3, Tryd.sizeOf4]) (mp (v := .int .i64 _) rfl mp0) rfl) ?_
  refine qe (d_alloc (cs := [.bool _, .int .i64 _, .int .i64 _, .slice _ _ _]) hS Tryd.zeroValue31 rfl) ?_
  clear hS
  rintro _ w_3 ⟨b5, rfl, hS⟩
  refine qe (d_store 0 hS Tryd.sizeOf31 rfl rfl rfl (vs := [.bool _, .int .i64 _, .int .i64 _, .slice _ _ _]) rfl rfl rfl (Nat.le_of_ble_eq_true rfl) (cs' := [_, _, _, _]) rfl) ?_
  clear hS
  rintro _ w_4 ⟨rfl, hS⟩
  refine ol_nil (thenN ?_)
  refine wpIn_seq ?_
  refine wpIn_seq ?_
  refine reg ?_
  refine qq hS (g_assignv (v := .int .i64 _) rfl) ?_
  refine ol_nil (thenN ?_)
  refine wpIn_block ?_
  refine loop (fun (x : RS) σ w => okS σ [(1, .int .i64 size), (2, .pointer (some ⟨b2, 0, none⟩)), (4, .pointer (some ⟨b4, 0, none⟩)), (5, .pointer (some ⟨b5, 0, none⟩)), (6, .int .i64 x.k)] ∧ ∃ I, St [] w0 I0 I w [.row (.slice x.a x.k x.c) 53 5 x.k x.css.flatten, .cel b5 31 [.bool false, .int .i64 size, .int .i64 (sumL ((l.take x.k).map fun q => opRaw q size)), .slice x.a x.k x.c], .cel b4 31 [.bool false, .int .i64 0, .int .i64 0, .slice none 0 0], .cel b2 24 [.int .u8 r, .slice ad l.length cap]] ∧ x.k ≤ l.length ∧ x.k ≤ 6 ∧ (0 ≤ sumL ((l.take x.k).map fun q => opRaw q size) ∧ sumL ((l.take x.k).map fun q => opRaw q size) ≤ 5 * (x.k : Int)) ∧ All2 (ROp I) x.css ((l.take x.k).map fun q => opRaw q size) ∧ (∀ cs ∈ x.css, cs.length = 5)) (fun x => l.length - x.k) (⟨0, [], none, 0⟩) ?_ ?_
  ·
    exact ⟨⟨rfl, rfl, rfl, rfl, rfl, trivial⟩, _, (hS.sel [true, true, true]).nilRow _ _, by simp, by simp, by simp [sumL], All2.nil _, by simp⟩
  ·
    rintro ⟨k, css, a, c⟩ σ w_l ⟨hs, I, hS, hk0, hk6, hsb, hall, hcl⟩
    dsimp only at hs hS hk0 hk6 hsb hall hcl ⊢
    rw [← upds_self hs]; clear hs
    refine wpIn_seq ?_
    refine wpIn_seq ?_
    refine reg ?_
    refine qq hS (g_movev (v := .int .i64 _) rfl) ?_
    refine qq hS (g_fieldAddr (o' := 1) Tryd.underlying24 rfl Tryd.sizeOf22 rfl rfl rfl) ?_
    refine qq hS (g_ldO1 3 Tryd.isAgg22 rfl rfl rfl) ?_
    refine qq hS (g_lenI rfl Tryd.underlying22 (hl.mono hS.ext) rfl) ?_
    refine qq hS (g_lss rfl rfl) ?_
    refine qq hS (g_movev (v := .bool _) rfl) ?_
    refine qu rfl rfl hS (fun hg => (g_movev (v := .int .i64 _) rfl)) ?_
    intro u16 hu16 hn16
    refine qu rfl rfl hS (fun hg => (g_lss (hu16 hg) rfl)) ?_
    intro u17 hu17 hn17
    refine qq hS (g_and rfl rfl (fun hq => hu17 hq)) ?_
    refine ol_nil (thenN ?_)
    refine cond_s rfl ?_ ?_
    ·
      intro hc18
      clear hu16 hn16 hu17 hn17
      simp only [Bool.and_eq_true, Bool.and_eq_false_iff, decide_eq_true_eq, decide_eq_false_iff_not] at hc18
      obtain ⟨q, hqi⟩ : ∃ q, l[k]? = some q := ⟨_, List.getElem?_eq_getElem (by omega)⟩
      have hqA := (hl.mono hS.ext).at hqi
      have hqw := hq q (List.mem_of_getElem? hqi)
      have hlb := lenRaw_bd hqw hs0
      have hlo : (opRaw q size).len = lenRaw q size := rfl
      have hsn : sumL ((l.take (k + 1)).map fun q => opRaw q size) = sumL ((l.take k).map fun q => opRaw q size) + lenRaw q size := by
        rw [take_snoc hqi, List.map_append, List.map_cons, List.map_nil, sumL_snoc]; rfl
      refine wpIn_skip ?_
      refine thenN ?_
      refine wpIn_seq ?_
      refine wpIn_block ?_
      refine wpIn_seq ?_
      refine reg ?_
      refine qq hS (g_fieldAddr (o' := 1) Tryd.underlying24 rfl Tryd.sizeOf22 rfl rfl rfl) ?_
      refine qq hS (g_ldO1 3 Tryd.isAgg22 rfl rfl rfl) ?_
      refine qq hS (g_movev (v := .int .i64 _) rfl) ?_
      refine qq hS (g_ixI Tryd.underlying22 Tryd.sizeOf117 (hl.mono hS.ext) rfl rfl (by omega) (by omega)) ?_
      refine qq hS (g_ldE (us := [.int .u8 _, .int .u8 _, .int .u8 _, .int .u8 _]) Tryd.sizeOf117 Tryd.isAgg117 hqA rfl rfl rfl) ?_
      refine qq hS (g_movev (v := .int .i64 _) rfl) ?_
      refine qe (d_call Tryd.call53 rfl (opRaw_c q size _ I hS.imm hqw hs0 hs1)) ?_
      rintro _ w_5 ⟨I2, a2, m2, c2, rfl, hE, hd2⟩
      replace hS := hS.callE hE
      refine qe (d_alloc (cs := [.int .i64 _, .int .i64 _, .int .i64 _, .int .u8 _, .slice _ _ _]) hS Tryd.zeroValue53 rfl) ?_
      clear hS
      rintro _ w_6 ⟨b7, rfl, hS⟩
      refine qe (d_store 0 hS Tryd.sizeOf53 rfl rfl rfl (vs := [.int .i64 _, .int .i64 _, .int .i64 _, .int .u8 _, .slice _ _ _]) rfl rfl rfl (Nat.le_of_ble_eq_true rfl) (cs' := [_, _, _, _, _]) rfl) ?_
      clear hS
      rintro _ w_7 ⟨rfl, hS⟩
      refine ol_nil (thenN ?_)
      refine wpIn_seq ?_
      refine reg ?_
      refine qq hS (g_fieldAddr (o' := 3) Tryd.underlying31 rfl Tryd.sizeOf29 rfl rfl rfl) ?_
      refine qq hS (g_ldO1 2 Tryd.isAgg29 rfl rfl rfl) ?_
      refine qq hS (g_ldO 0 (vs := [.int .i64 _, .int .i64 _, .int .i64 _, .int .u8 _, .slice _ _ _]) Tryd.sizeOf53 Tryd.isAgg53 rfl rfl rfl rfl) ?_
      refine qe (d_lit (vs := [.agg #[.int .i64 _, .int .i64 _, .int .i64 _, .int .u8 _, .slice _ _ _]]) (cs := [.int .i64 _, .int .i64 _, .int .i64 _, .int .u8 _, .slice _ _ _]) hS Tryd.underlying29 Tryd.sizeOf53 Tryd.zeroValue53 rfl rfl rfl rfl (fun v hv => by simp only [List.mem_cons, List.not_mem_nil, or_false] at hv; subst hv; rfl) rfl) ?_
      clear hS
      rintro _ w_8 ⟨b_8, rfl, hS⟩
      refine qe (i_appendO 2 0 hS rfl Tryd.underlying29 info53 rfl rfl rfl rfl rfl rfl rfl rfl (by omega) (by omega)) ?_
      clear hS
      rintro _ w_9 ⟨a32, p32, rfl, hS⟩
      refine qq hS (g_fieldAddr (o' := 3) Tryd.underlying31 rfl Tryd.sizeOf29 rfl rfl rfl) ?_
      refine qe (d_store 3 hS Tryd.sizeOf29 rfl rfl rfl (vs := [.slice _ _ _]) rfl rfl rfl (Nat.le_of_ble_eq_true rfl) (cs' := [_, _, _, _]) rfl) ?_
      clear hS
      rintro _ w_10 ⟨rfl, hS⟩
      refine ol_nil (thenN ?_)
      refine reg ?_
      refine qq hS (g_fieldAddr (o' := 2) Tryd.underlying31 rfl Tryd.sizeOf3 rfl rfl rfl) ?_
      refine qq hS (g_ldO1 3 Tryd.isAgg3 rfl rfl rfl) ?_
      refine qq hS (g_fieldAddr (o' := 2) Tryd.underlying53 rfl Tryd.sizeOf3 rfl rfl rfl) ?_
      refine qq hS (g_ldO1 1 Tryd.isAgg3 rfl rfl rfl) ?_
      refine qq hS (g_add rfl rfl (by omega) (by omega)) ?_
      refine qq hS (g_fieldAddr (o' := 2) Tryd.underlying31 rfl Tryd.sizeOf3 rfl rfl rfl) ?_
      refine qe (d_store 3 hS Tryd.sizeOf3 rfl rfl rfl (vs := [.int .i64 _]) rfl rfl rfl (Nat.le_of_ble_eq_true rfl) (cs' := [_, _, _, _]) rfl) ?_
      clear hS
      rintro _ w_11 ⟨rfl, hS⟩
      refine ol_nil (blkN (thenN ?_))
      refine reg ?_
      refine qq hS (g_movev (v := .int .i64 _) rfl) ?_
      refine qq hS (g_add rfl rfl (by omega) (by omega)) ?_
      refine qq hS (g_assignv (v := .int .i64 _) rfl) ?_
      refine ⟨⟨k + 1, css ++ [[.int .i64 (opRaw q size).kind, .int .i64 (opRaw q size).from_, .int .i64 (opRaw q size).len, .int .u8 (opRaw q size).b, .slice a2 m2 c2]], a32, p32⟩, _, rfl, ⟨⟨rfl, rfl, rfl, rfl, rfl, trivial⟩, I2, ?_, by dsimp only; omega, by dsimp only; omega, by dsimp only; omega, ?_, ?_⟩, by dsimp only; omega⟩
      · dsimp only
        rw [List.flatten_append, List.flatten_singleton, hsn]
        exact hS.sel [false, false, true, true, true, true]
      · dsimp only
        rw [take_snoc hqi, List.map_append, List.map_cons, List.map_nil]
        exact All2.snoc (hall.mono fun _ _ h => h.mono hE.ext) ⟨_, _, _, rfl, hd2⟩
      · intro cs hcs
        rcases List.mem_append.1 hcs with h | h
        · exact hcl cs h
        · simp only [List.mem_singleton] at h; subst h; rfl
    ·
      intro hc18
      clear hu16 hn16 hu17 hn17
      simp only [Bool.and_eq_true, Bool.and_eq_false_iff, decide_eq_true_eq, decide_eq_false_iff_not] at hc18
      have e : (madeP l size) = ⟨false, size, sumL ((l.take k).map fun q => opRaw q size), (l.take k).map fun q => opRaw q size⟩ := by
        have h : l.take 6 = l.take k := by
          by_cases h6 : k = 6
          · rw [h6]
          · rw [List.take_of_length_le (by omega), List.take_of_length_le (by omega)]
        unfold madeP opsRaw
        rw [h]
      refine wpIn_exit ?_
      refine thenE (thenE (blkE ?_))
      refine thenN ?_
      refine wpIn_seq ?_
      refine reg ?_
      refine qq hS (g_ldO 1 (vs := [.bool _, .int .i64 _, .int .i64 _, .slice _ _ _]) Tryd.sizeOf31 Tryd.isAgg31 rfl rfl rfl rfl) ?_
      refine qe (d_store 2 hS Tryd.sizeOf31 rfl rfl rfl (vs := [.bool _, .int .i64 _, .int .i64 _, .slice _ _ _]) rfl rfl rfl (Nat.le_of_ble_eq_true rfl) (cs' := [_, _, _, _]) rfl) ?_
      clear hS
      rintro _ w_12 ⟨rfl, hS⟩
      refine ol_nil (thenN ?_)
      refine wpIn_ret ?_
      refine ret1 Tryd.results36 (rv_cel 2 hS Tryd.sizeOf31 Tryd.isAgg31 rfl rfl rfl) ?_
      obtain ⟨I3, hS3, hI3, ho3⟩ := St.freezeRowR (hS.sel [true, false, false, false]) (xs := (l.take k).map fun q => opRaw q size) (by rw [List.length_map, List.length_take]; omega) hcl hall
      rw [e]
      exact ⟨I3, a, k, c, rfl, hS3, RSl.mono ho3 (Sub.refl _) fun _ _ h => h.mono hI3⟩

theorem made_c (r : Int) (ad : Option Addr) (cap : Nat) (l : List Q4) (w0 : World) (I0 : Imm) (hI : Sat I0 w0) (hl : RFl I0 4 q4C (.slice ad l.length cap) l) (hq : ∀ q ∈ l, q.wf) (hr0 : 0 ≤ r) (hr1 : r ≤ 255) :
    Ctr Tryd.prog 19 [.agg #[.int .u8 r, .slice ad l.length cap]] w0 (fun v w' => ∃ I' a m c, v = .agg #[.bool (madeP l (r % 13)).lifted, .int .i64 (madeP l (r % 13)).in_, .int .i64 (madeP l (r % 13)).out, .slice a m c] ∧ Ext w0 I0 w' I' ∧ ROps I' (.slice a m c) (madeP l (r % 13)).ops) := by
  refine fn (n := 9) Tryd.func19 rfl rfl rfl ?_
  have hS := St.start hI
  refine wpIn_seq ?_
  refine reg ?_
  refine qe (d_box (cs := [.int .u8 _, .slice _ _ _]) hS rfl) ?_
  clear hS
  rintro _ w_1 ⟨b_1, rfl, hS⟩
  refine qe (d_alloc (cs := [.bool _, .int .i64 _, .int .i64 _, .slice _ _ _]) hS Tryd.zeroValue31 rfl) ?_
  clear hS
  rintro _ w_2 ⟨b_2, rfl, hS⟩
  refine ol_nil (thenN ?_)
  refine wpIn_seq ?_
  refine reg ?_
  refine qq hS (g_ldO 1 (vs := [.int .u8 _, .slice _ _ _]) Tryd.sizeOf24 Tryd.isAgg24 rfl rfl rfl rfl) ?_
  refine qq hS (g_fieldAddr (o' := 0) Tryd.underlying24 rfl Tryd.sizeOf5 rfl rfl rfl) ?_
  refine qq hS (g_ldO1 1 Tryd.isAgg5 rfl rfl rfl) ?_
  refine qq hS (g_convi Tryd.underlying5 Tryd.underlying3 rfl (by omega) (by omega)) ?_
  refine qq hS (g_rem rfl rfl (by omega) (by omega)) ?_
  refine qe (d_call Tryd.call36 rfl (sized_c r ad cap l (r % 13) _ I0 hS.imm hl hq (by omega) (by omega))) ?_
  rintro _ w_3 ⟨I2, a2, m2, c2, rfl, hE, hd2⟩
  replace hS := hS.callE hE
  refine qe (d_store 0 hS Tryd.sizeOf31 rfl rfl rfl (vs := [.bool _, .int .i64 _, .int .i64 _, .slice _ _ _]) rfl rfl rfl (Nat.le_of_ble_eq_true rfl) (cs' := [_, _, _, _]) rfl) ?_
  clear hS
  rintro _ w_4 ⟨rfl, hS⟩
  refine ol_nil (thenN ?_)
  refine wpIn_ret ?_
  refine ret1 Tryd.results19 (rv_cel 0 hS Tryd.sizeOf31 Tryd.isAgg31 rfl rfl rfl) ?_
  exact ⟨I2, a2, m2, c2, rfl, hS.nil, hd2⟩

end Go.Proofs.YtdgnojckkjfhfaaDoor

