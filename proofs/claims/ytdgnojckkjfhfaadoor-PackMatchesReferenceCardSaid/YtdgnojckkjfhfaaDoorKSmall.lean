/- The small functions of package normal: what they compute. Conditions: symbols and prices within bounds. The functions of package patch that check patches and make symbols of them: what they compute. Conditions: numbers within bounds. patch.Check and patch.Symbols: what they compute. Conditions: numbers within bounds. normal.table fills the table of places. Conditions: at most 65536 right symbols. normal.Cheapest and normal.Form: what they compute. Conditions: numbers within bounds. normal.Form and normal.Same: what they compute. Conditions: numbers within bounds. -/
import Derived.Test.YtdgnojckkjfhfaaDoorFacts
import Derived.Test.YtdgnojckkjfhfaaDoorKCore2
import Derived.KernelRfl
namespace Go.Proofs.YtdgnojckkjfhfaaDoor
open Go Go.RowKit Go.Inl


end Go.Proofs.YtdgnojckkjfhfaaDoor


namespace Go.Proofs.YtdgnojckkjfhfaaDoor
open Go Go.RowKit Go.Inl
set_option linter.unusedSimpArgs false
set_option linter.unusedVariables false
abbrev opV (x : OpL) (ad : Option Addr) (m cap : Nat) : Value := .agg #[.int .i64 x.kind, .int .i64 x.from_, .int .i64 x.len, .int .u8 x.b, .slice ad m cap]
def ofV (x : OpL) (v : Value) : Value :=
  if x.kind = 1 then .iface 118 v else if x.kind = 2 then .iface 119 v else if x.kind = 3 then .iface 120 v
  else if x.kind = 4 then .iface 121 v else .iface 122 (.agg #[])

theorem inside_c (x : OpL) (ad : Option Addr) (m cap : Nat) (n : Int) (w0 : World) (I0 : Imm) (hI : Sat I0 w0) (hd : RBytes I0 (.slice ad m cap) x.data) (hx : x.wf) (hn : Mid n) :
    Ctr Tryd.prog 93 [opV x ad m cap, .int .i64 n] w0 (fun v w' => v = .bool (insideP x n) ∧ Ext w0 I0 w' I0) := by
  obtain ⟨⟨k1, k2⟩, ⟨f1, f2⟩, ⟨l1, l2⟩, ⟨b1, b2⟩, hdat⟩ := hx
  obtain ⟨n1, n2⟩ := hn
  refine fn (n := 17) Tryd.func93 rfl rfl rfl ?_
  have hS := St.start hI
  refine wpIn_seq ?_
  refine reg ?_
  refine qe (d_box (cs := [.int .i64 _, .int .i64 _, .int .i64 _, .int .u8 _, .slice _ _ _]) hS rfl) ?_
  clear hS
  rintro _ w_1 ⟨b_1, rfl, hS⟩
  refine qq hS (g_assignv (v := .bool _) rfl) ?_
  refine ol_nil (thenN ?_)
  refine wpIn_seq ?_
  refine reg ?_
  refine qq hS (g_fieldAddr (o' := 1) Tryd.underlying53 rfl Tryd.sizeOf3 rfl rfl rfl) ?_
  refine qq hS (g_ldO1 0 Tryd.isAgg3 rfl rfl rfl) ?_
  refine qq hS (g_geq rfl rfl) ?_
  refine qq hS (g_movev (v := .bool _) rfl) ?_
  refine qu rfl rfl hS (fun hg => (g_fieldAddr (o' := 1) Tryd.underlying53 rfl Tryd.sizeOf3 rfl rfl rfl)) ?_
  intro u9 hu9 hn9
  refine qu rfl rfl hS (fun hg => (g_ldO1 0 Tryd.isAgg3 rfl (hu9 hg) rfl)) ?_
  intro u10 hu10 hn10
  refine qu rfl rfl hS (fun hg => (g_movev (v := .int .i64 _) rfl)) ?_
  intro u11 hu11 hn11
  refine qu rfl rfl hS (fun hg => (g_fieldAddr (o' := 2) Tryd.underlying53 rfl Tryd.sizeOf3 rfl rfl rfl)) ?_
  intro u12 hu12 hn12
  refine qu rfl rfl hS (fun hg => (g_ldO1 0 Tryd.isAgg3 rfl (hu12 hg) rfl)) ?_
  intro u13 hu13 hn13
  refine qu rfl rfl hS (fun hg => (g_sub (hu11 hg) (hu13 hg) (by omega) (by omega))) ?_
  intro u14 hu14 hn14
  refine qu rfl rfl hS (fun hg => (g_leq (hu10 hg) (hu14 hg))) ?_
  intro u15 hu15 hn15
  refine qq hS (g_and rfl rfl (fun hq => hu15 hq)) ?_
  refine qq hS (g_assignv (v := .bool _) rfl) ?_
  refine ol_nil (thenN ?_)
  refine wpIn_ret ?_
  refine ret1 Tryd.results93 (rv_tmp (v := .bool _) rfl) ?_
  exact ⟨rfl, hS.nil⟩

theorem copying_right (x : OpL) (ad : Option Addr) (m cap : Nat) (n : Int) (w0 : World) (I0 : Imm) (hI : Sat I0 w0) (hd : RBytes I0 (.slice ad m cap) x.data) (hx : x.wf) (hn : Mid n) :
    Ctr Tryd.prog 91 [opV x ad m cap, .int .i64 n] w0 (fun v w' => v = .bool (insideP x n && decide (x.b = 0) && decide ((x.data.length : Int) = 0)) ∧ Ext w0 I0 w' I0) := by
  refine fn (n := 19) Tryd.func91 rfl rfl rfl ?_
  have hS := St.start hI
  refine wpIn_seq ?_
  refine reg ?_
  refine qe (d_box (cs := [.int .i64 _, .int .i64 _, .int .i64 _, .int .u8 _, .slice _ _ _]) hS rfl) ?_
  clear hS
  rintro _ w_1 ⟨b_1, rfl, hS⟩
  refine qq hS (g_assignv (v := .bool _) rfl) ?_
  refine ol_nil (thenN ?_)
  refine wpIn_seq ?_
  refine reg ?_
  refine qq hS (g_ldO 0 (vs := [.int .i64 _, .int .i64 _, .int .i64 _, .int .u8 _, .slice _ _ _]) Tryd.sizeOf118 Tryd.isAgg118 rfl rfl rfl rfl) ?_
  refine qq hS (g_movev (v := .int .i64 _) rfl) ?_
  refine qe (d_call Tryd.call93 rfl (inside_c x ad m cap n _ I0 hS.imm hd hx hn)) ?_
  rintro _ w_2 ⟨rfl, hE⟩
  replace hS := hS.callE hE
  refine qq hS (g_movev (v := .bool _) rfl) ?_
  refine qu rfl rfl hS (fun hg => (g_fieldAddr (o' := 3) Tryd.underlying118 rfl Tryd.sizeOf5 rfl rfl rfl)) ?_
  intro u9 hu9 hn9
  refine qu rfl rfl hS (fun hg => (g_ldO1 0 Tryd.isAgg5 rfl (hu9 hg) rfl)) ?_
  intro u10 hu10 hn10
  refine qu rfl rfl hS (fun hg => (g_eql (hu10 hg) rfl)) ?_
  intro u11 hu11 hn11
  refine qq hS (g_and rfl rfl (fun hq => hu11 hq)) ?_
  refine qq hS (g_movev (v := .bool _) rfl) ?_
  refine qu rfl rfl hS (fun hg => (g_fieldAddr (o' := 4) Tryd.underlying118 rfl Tryd.sizeOf25 rfl rfl rfl)) ?_
  intro u14 hu14 hn14
  refine qu rfl rfl hS (fun hg => (g_ldO1 0 Tryd.isAgg25 rfl (hu14 hg) rfl)) ?_
  intro u15 hu15 hn15
  refine qu rfl rfl hS (fun hg => (g_lenI rfl Tryd.underlying25 hd (hu15 hg))) ?_
  intro u16 hu16 hn16
  refine qu rfl rfl hS (fun hg => (g_eql (hu16 hg) rfl)) ?_
  intro u17 hu17 hn17
  refine qq hS (g_and rfl rfl (fun hq => hu17 hq)) ?_
  refine qq hS (g_assignv (v := .bool _) rfl) ?_
  refine ol_nil (thenN ?_)
  refine wpIn_ret ?_
  refine ret1 Tryd.results91 (rv_tmp (v := .bool _) rfl) ?_
  exact ⟨rfl, hS.nil⟩

theorem differing_right (x : OpL) (ad : Option Addr) (m cap : Nat) (n : Int) (w0 : World) (I0 : Imm) (hI : Sat I0 w0) (hd : RBytes I0 (.slice ad m cap) x.data) (hx : x.wf) (hn : Mid n) :
    Ctr Tryd.prog 95 [opV x ad m cap, .int .i64 n] w0 (fun v w' => v = .bool (insideP x n && decide (x.b = 0) && decide ((x.data.length : Int) = x.len)) ∧ Ext w0 I0 w' I0) := by
  refine fn (n := 21) Tryd.func95 rfl rfl rfl ?_
  have hS := St.start hI
  refine wpIn_seq ?_
  refine reg ?_
  refine qe (d_box (cs := [.int .i64 _, .int .i64 _, .int .i64 _, .int .u8 _, .slice _ _ _]) hS rfl) ?_
  clear hS
  rintro _ w_1 ⟨b_1, rfl, hS⟩
  refine qq hS (g_assignv (v := .bool _) rfl) ?_
  refine ol_nil (thenN ?_)
  refine wpIn_seq ?_
  refine reg ?_
  refine qq hS (g_ldO 0 (vs := [.int .i64 _, .int .i64 _, .int .i64 _, .int .u8 _, .slice _ _ _]) Tryd.sizeOf119 Tryd.isAgg119 rfl rfl rfl rfl) ?_
  refine qq hS (g_movev (v := .int .i64 _) rfl) ?_
  refine qe (d_call Tryd.call93 rfl (inside_c x ad m cap n _ I0 hS.imm hd hx hn)) ?_
  rintro _ w_2 ⟨rfl, hE⟩
  replace hS := hS.callE hE
  refine qq hS (g_movev (v := .bool _) rfl) ?_
  refine qu rfl rfl hS (fun hg => (g_fieldAddr (o' := 3) Tryd.underlying119 rfl Tryd.sizeOf5 rfl rfl rfl)) ?_
  intro u9 hu9 hn9
  refine qu rfl rfl hS (fun hg => (g_ldO1 0 Tryd.isAgg5 rfl (hu9 hg) rfl)) ?_
  intro u10 hu10 hn10
  refine qu rfl rfl hS (fun hg => (g_eql (hu10 hg) rfl)) ?_
  intro u11 hu11 hn11
  refine qq hS (g_and rfl rfl (fun hq => hu11 hq)) ?_
  refine qq hS (g_movev (v := .bool _) rfl) ?_
  refine qu rfl rfl hS (fun hg => (g_fieldAddr (o' := 4) Tryd.underlying119 rfl Tryd.sizeOf25 rfl rfl rfl)) ?_
  intro u14 hu14 hn14
  refine qu rfl rfl hS (fun hg => (g_ldO1 0 Tryd.isAgg25 rfl (hu14 hg) rfl)) ?_
  intro u15 hu15 hn15
  refine qu rfl rfl hS (fun hg => (g_lenI rfl Tryd.underlying25 hd (hu15 hg))) ?_
  intro u16 hu16 hn16
  refine qu rfl rfl hS (fun hg => (g_fieldAddr (o' := 2) Tryd.underlying119 rfl Tryd.sizeOf3 rfl rfl rfl)) ?_
  intro u17 hu17 hn17
  refine qu rfl rfl hS (fun hg => (g_ldO1 0 Tryd.isAgg3 rfl (hu17 hg) rfl)) ?_
  intro u18 hu18 hn18
  refine qu rfl rfl hS (fun hg => (g_eql (hu16 hg) (hu18 hg))) ?_
  intro u19 hu19 hn19
  refine qq hS (g_and rfl rfl (fun hq => hu19 hq)) ?_
  refine qq hS (g_assignv (v := .bool _) rfl) ?_
  refine ol_nil (thenN ?_)
  refine wpIn_ret ?_
  refine ret1 Tryd.results95 (rv_tmp (v := .bool _) rfl) ?_
  exact ⟨rfl, hS.nil⟩

theorem running_right (x : OpL) (ad : Option Addr) (m cap : Nat) (n : Int) (w0 : World) (I0 : Imm) (hI : Sat I0 w0) (hd : RBytes I0 (.slice ad m cap) x.data) (hx : x.wf) (hn : Mid n) :
    Ctr Tryd.prog 98 [opV x ad m cap, .int .i64 n] w0 (fun v w' => v = .bool (decide (x.from_ = 0) && decide ((x.data.length : Int) = 0)) ∧ Ext w0 I0 w' I0) := by
  refine fn (n := 14) Tryd.func98 rfl rfl rfl ?_
  have hS := St.start hI
  refine wpIn_seq ?_
  refine reg ?_
  refine qe (d_box (cs := [.int .i64 _, .int .i64 _, .int .i64 _, .int .u8 _, .slice _ _ _]) hS rfl) ?_
  clear hS
  rintro _ w_1 ⟨b_1, rfl, hS⟩
  refine qq hS (g_assignv (v := .bool _) rfl) ?_
  refine ol_nil (thenN ?_)
  refine wpIn_seq ?_
  refine reg ?_
  refine qq hS (g_fieldAddr (o' := 1) Tryd.underlying120 rfl Tryd.sizeOf3 rfl rfl rfl) ?_
  refine qq hS (g_ldO1 0 Tryd.isAgg3 rfl rfl rfl) ?_
  refine qq hS (g_eql rfl rfl) ?_
  refine qq hS (g_movev (v := .bool _) rfl) ?_
  refine qu rfl rfl hS (fun hg => (g_fieldAddr (o' := 4) Tryd.underlying120 rfl Tryd.sizeOf25 rfl rfl rfl)) ?_
  intro u9 hu9 hn9
  refine qu rfl rfl hS (fun hg => (g_ldO1 0 Tryd.isAgg25 rfl (hu9 hg) rfl)) ?_
  intro u10 hu10 hn10
  refine qu rfl rfl hS (fun hg => (g_lenI rfl Tryd.underlying25 hd (hu10 hg))) ?_
  intro u11 hu11 hn11
  refine qu rfl rfl hS (fun hg => (g_eql (hu11 hg) rfl)) ?_
  intro u12 hu12 hn12
  refine qq hS (g_and rfl rfl (fun hq => hu12 hq)) ?_
  refine qq hS (g_assignv (v := .bool _) rfl) ?_
  refine ol_nil (thenN ?_)
  refine wpIn_ret ?_
  refine ret1 Tryd.results98 (rv_tmp (v := .bool _) rfl) ?_
  exact ⟨rfl, hS.nil⟩

theorem literal_right (x : OpL) (ad : Option Addr) (m cap : Nat) (n : Int) (w0 : World) (I0 : Imm) (hI : Sat I0 w0) (hd : RBytes I0 (.slice ad m cap) x.data) (hx : x.wf) (hn : Mid n) :
    Ctr Tryd.prog 101 [opV x ad m cap, .int .i64 n] w0 (fun v w' => v = .bool (decide (x.from_ = 0) && decide (x.b = 0) && decide ((x.data.length : Int) = x.len)) ∧ Ext w0 I0 w' I0) := by
  refine fn (n := 21) Tryd.func101 rfl rfl rfl ?_
  have hS := St.start hI
  refine wpIn_seq ?_
  refine reg ?_
  refine qe (d_box (cs := [.int .i64 _, .int .i64 _, .int .i64 _, .int .u8 _, .slice _ _ _]) hS rfl) ?_
  clear hS
  rintro _ w_1 ⟨b_1, rfl, hS⟩
  refine qq hS (g_assignv (v := .bool _) rfl) ?_
  refine ol_nil (thenN ?_)
  refine wpIn_seq ?_
  refine reg ?_
  refine qq hS (g_fieldAddr (o' := 1) Tryd.underlying121 rfl Tryd.sizeOf3 rfl rfl rfl) ?_
  refine qq hS (g_ldO1 0 Tryd.isAgg3 rfl rfl rfl) ?_
  refine qq hS (g_eql rfl rfl) ?_
  refine qq hS (g_movev (v := .bool _) rfl) ?_
  refine qu rfl rfl hS (fun hg => (g_fieldAddr (o' := 3) Tryd.underlying121 rfl Tryd.sizeOf5 rfl rfl rfl)) ?_
  intro u9 hu9 hn9
  refine qu rfl rfl hS (fun hg => (g_ldO1 0 Tryd.isAgg5 rfl (hu9 hg) rfl)) ?_
  intro u10 hu10 hn10
  refine qu rfl rfl hS (fun hg => (g_eql (hu10 hg) rfl)) ?_
  intro u11 hu11 hn11
  refine qq hS (g_and rfl rfl (fun hq => hu11 hq)) ?_
  refine qq hS (g_movev (v := .bool _) rfl) ?_
  refine qu rfl rfl hS (fun hg => (g_fieldAddr (o' := 4) Tryd.underlying121 rfl Tryd.sizeOf25 rfl rfl rfl)) ?_
  intro u14 hu14 hn14
  refine qu rfl rfl hS (fun hg => (g_ldO1 0 Tryd.isAgg25 rfl (hu14 hg) rfl)) ?_
  intro u15 hu15 hn15
  refine qu rfl rfl hS (fun hg => (g_lenI rfl Tryd.underlying25 hd (hu15 hg))) ?_
  intro u16 hu16 hn16
  refine qu rfl rfl hS (fun hg => (g_fieldAddr (o' := 2) Tryd.underlying121 rfl Tryd.sizeOf3 rfl rfl rfl)) ?_
  intro u17 hu17 hn17
  refine qu rfl rfl hS (fun hg => (g_ldO1 0 Tryd.isAgg3 rfl (hu17 hg) rfl)) ?_
  intro u18 hu18 hn18
  refine qu rfl rfl hS (fun hg => (g_eql (hu16 hg) (hu18 hg))) ?_
  intro u19 hu19 hn19
  refine qq hS (g_and rfl rfl (fun hq => hu19 hq)) ?_
  refine qq hS (g_assignv (v := .bool _) rfl) ?_
  refine ol_nil (thenN ?_)
  refine wpIn_ret ?_
  refine ret1 Tryd.results101 (rv_tmp (v := .bool _) rfl) ?_
  exact ⟨rfl, hS.nil⟩

theorem unknown_right (n : Int) (w0 : World) (I0 : Imm) (hI : Sat I0 w0) : Ctr Tryd.prog 104 [.agg #[], .int .i64 n] w0 (fun v w' => v = .bool false ∧ Ext w0 I0 w' I0) := by
  refine fn (n := 5) Tryd.func104 rfl rfl rfl ?_
  have hS := St.start hI
  refine wpIn_seq ?_
  refine reg ?_
  refine qe (d_box (cs := []) hS rfl) ?_
  clear hS
  rintro _ w_1 ⟨b_1, rfl, hS⟩
  refine qq hS (g_assignv (v := .bool _) rfl) ?_
  refine ol_nil (thenN ?_)
  refine wpIn_seq ?_
  refine reg ?_
  refine qq hS (g_assignv (v := .bool _) rfl) ?_
  refine ol_nil (thenN ?_)
  refine wpIn_ret ?_
  refine ret1 Tryd.results104 (rv_tmp (v := .bool _) rfl) ?_
  exact ⟨rfl, hS.nil⟩

theorem of_c (x : OpL) (ad : Option Addr) (m cap : Nat) (w0 : World) (I0 : Imm) (hI : Sat I0 w0) (hd : RBytes I0 (.slice ad m cap) x.data) (hx : x.wf) :
    Ctr Tryd.prog 37 [opV x ad m cap] w0 (fun v w' => v = ofV x (opV x ad m cap) ∧ Ext w0 I0 w' I0) := by
  refine fn (n := 23) Tryd.func37 rfl rfl rfl ?_
  have hS := St.start hI
  refine wpIn_seq ?_
  refine reg ?_
  refine qe (d_box (cs := [.int .i64 _, .int .i64 _, .int .i64 _, .int .u8 _, .slice _ _ _]) hS rfl) ?_
  clear hS
  rintro _ w_1 ⟨b_1, rfl, hS⟩
  refine qq hS (g_assign _) ?_
  refine ol_nil (thenN ?_)
  refine wpIn_seq ?_
  refine wpIn_seq ?_
  refine reg ?_
  refine qq hS (g_fieldAddr (o' := 0) Tryd.underlying53 rfl Tryd.sizeOf3 rfl rfl rfl) ?_
  refine qq hS (g_ldO1 0 Tryd.isAgg3 rfl rfl rfl) ?_
  refine ol_nil (thenN ?_)
  refine wpIn_block ?_
  refine wpIn_seq ?_
  refine reg ?_
  refine qq hS (g_eql rfl rfl) ?_
  refine qq hS (g_assignv (v := .bool _) rfl) ?_
  refine ol_nil (thenN ?_)
  refine cond_s rfl ?_ ?_
  ·
    intro hc5
    simp only [decide_eq_true_eq, decide_eq_false_iff_not] at hc5
    refine wpIn_seq ?_
    refine reg ?_
    refine qq hS (g_ldO 0 (vs := [.int .i64 _, .int .i64 _, .int .i64 _, .int .u8 _, .slice _ _ _]) Tryd.sizeOf53 Tryd.isAgg53 rfl rfl rfl rfl) ?_
    refine qq hS (g_makeIface Tryd.underlying118 rfl) ?_
    refine qq hS (g_assign _) ?_
    refine ol_nil (thenN ?_)
    refine wpIn_ret ?_
    refine blkR (thenR ?_)
    refine ret1 Tryd.results37 (rv_tmp rfl) ?_
    refine ⟨?_, hS.nil⟩; unfold ofV; first | (rw [if_pos hc5]; rfl) | (rw [if_neg hc5, if_pos hc9]; rfl) | (rw [if_neg hc5, if_neg hc9, if_pos hc13]; rfl) | (rw [if_neg hc5, if_neg hc9, if_neg hc13, if_pos hc17]; rfl) | (rw [if_neg hc5, if_neg hc9, if_neg hc13, if_neg hc17]; rfl)
  ·
    intro hc5
    simp only [decide_eq_true_eq, decide_eq_false_iff_not] at hc5
    refine wpIn_seq ?_
    refine reg ?_
    refine qq hS (g_eql rfl rfl) ?_
    refine qq hS (g_assignv (v := .bool _) rfl) ?_
    refine ol_nil (thenN ?_)
    refine cond_s rfl ?_ ?_
    ·
      intro hc9
      simp only [decide_eq_true_eq, decide_eq_false_iff_not] at hc9
      refine wpIn_seq ?_
      refine reg ?_
      refine qq hS (g_ldO 0 (vs := [.int .i64 _, .int .i64 _, .int .i64 _, .int .u8 _, .slice _ _ _]) Tryd.sizeOf53 Tryd.isAgg53 rfl rfl rfl rfl) ?_
      refine qq hS (g_makeIface Tryd.underlying119 rfl) ?_
      refine qq hS (g_assign _) ?_
      refine ol_nil (thenN ?_)
      refine wpIn_ret ?_
      refine blkR (thenR ?_)
      refine ret1 Tryd.results37 (rv_tmp rfl) ?_
      refine ⟨?_, hS.nil⟩; unfold ofV; first | (rw [if_pos hc5]; rfl) | (rw [if_neg hc5, if_pos hc9]; rfl) | (rw [if_neg hc5, if_neg hc9, if_pos hc13]; rfl) | (rw [if_neg hc5, if_neg hc9, if_neg hc13, if_pos hc17]; rfl) | (rw [if_neg hc5, if_neg hc9, if_neg hc13, if_neg hc17]; rfl)
    ·
      intro hc9
      simp only [decide_eq_true_eq, decide_eq_false_iff_not] at hc9
      refine wpIn_seq ?_
      refine reg ?_
      refine qq hS (g_eql rfl rfl) ?_
      refine qq hS (g_assignv (v := .bool _) rfl) ?_
      refine ol_nil (thenN ?_)
      refine cond_s rfl ?_ ?_
      ·
        intro hc13
        simp only [decide_eq_true_eq, decide_eq_false_iff_not] at hc13
        refine wpIn_seq ?_
        refine reg ?_
        refine qq hS (g_ldO 0 (vs := [.int .i64 _, .int .i64 _, .int .i64 _, .int .u8 _, .slice _ _ _]) Tryd.sizeOf53 Tryd.isAgg53 rfl rfl rfl rfl) ?_
        refine qq hS (g_makeIface Tryd.underlying120 rfl) ?_
        refine qq hS (g_assign _) ?_
        refine ol_nil (thenN ?_)
        refine wpIn_ret ?_
        refine blkR (thenR ?_)
        refine ret1 Tryd.results37 (rv_tmp rfl) ?_
        refine ⟨?_, hS.nil⟩; unfold ofV; first | (rw [if_pos hc5]; rfl) | (rw [if_neg hc5, if_pos hc9]; rfl) | (rw [if_neg hc5, if_neg hc9, if_pos hc13]; rfl) | (rw [if_neg hc5, if_neg hc9, if_neg hc13, if_pos hc17]; rfl) | (rw [if_neg hc5, if_neg hc9, if_neg hc13, if_neg hc17]; rfl)
      ·
        intro hc13
        simp only [decide_eq_true_eq, decide_eq_false_iff_not] at hc13
        refine wpIn_seq ?_
        refine reg ?_
        refine qq hS (g_eql rfl rfl) ?_
        refine qq hS (g_assignv (v := .bool _) rfl) ?_
        refine ol_nil (thenN ?_)
        refine cond_s rfl ?_ ?_
        ·
          intro hc17
          simp only [decide_eq_true_eq, decide_eq_false_iff_not] at hc17
          refine wpIn_seq ?_
          refine reg ?_
          refine qq hS (g_ldO 0 (vs := [.int .i64 _, .int .i64 _, .int .i64 _, .int .u8 _, .slice _ _ _]) Tryd.sizeOf53 Tryd.isAgg53 rfl rfl rfl rfl) ?_
          refine qq hS (g_makeIface Tryd.underlying121 rfl) ?_
          refine qq hS (g_assign _) ?_
          refine ol_nil (thenN ?_)
          refine wpIn_ret ?_
          refine blkR (thenR ?_)
          refine ret1 Tryd.results37 (rv_tmp rfl) ?_
          refine ⟨?_, hS.nil⟩; unfold ofV; first | (rw [if_pos hc5]; rfl) | (rw [if_neg hc5, if_pos hc9]; rfl) | (rw [if_neg hc5, if_neg hc9, if_pos hc13]; rfl) | (rw [if_neg hc5, if_neg hc9, if_neg hc13, if_pos hc17]; rfl) | (rw [if_neg hc5, if_neg hc9, if_neg hc13, if_neg hc17]; rfl)
        ·
          intro hc17
          simp only [decide_eq_true_eq, decide_eq_false_iff_not] at hc17
          refine wpIn_skip ?_
          refine blkN (thenN ?_)
          refine wpIn_seq ?_
          refine reg ?_
          refine qq hS (g_buildv (pl := []) (cs := []) Tryd.zeroValue122 Tryd.underlying122 (fun w => by simp []) mp0 rfl) ?_
          refine qq hS (g_makeIface Tryd.underlying122 rfl) ?_
          refine qq hS (g_assign _) ?_
          refine ol_nil (thenN ?_)
          refine wpIn_ret ?_
          refine ret1 Tryd.results37 (rv_tmp rfl) ?_
          refine ⟨?_, hS.nil⟩; unfold ofV; first | (rw [if_pos hc5]; rfl) | (rw [if_neg hc5, if_pos hc9]; rfl) | (rw [if_neg hc5, if_neg hc9, if_pos hc13]; rfl) | (rw [if_neg hc5, if_neg hc9, if_neg hc13, if_pos hc17]; rfl) | (rw [if_neg hc5, if_neg hc9, if_neg hc13, if_neg hc17]; rfl)

end Go.Proofs.YtdgnojckkjfhfaaDoor


namespace Go.Proofs.YtdgnojckkjfhfaaDoor
open Go Go.RowKit Go.Inl
set_option linter.unusedSimpArgs false
set_option linter.unusedVariables false

theorem m_copying_right (v : Value) (w : World) : (method (Tryd.prog.types.size + Made.depth) 118 v "inlay/patch.right").run Tryd.prog w = .ok (91, v) w := by kernel_rfl
theorem m_differing_right (v : Value) (w : World) : (method (Tryd.prog.types.size + Made.depth) 119 v "inlay/patch.right").run Tryd.prog w = .ok (95, v) w := by kernel_rfl
theorem m_running_right (v : Value) (w : World) : (method (Tryd.prog.types.size + Made.depth) 120 v "inlay/patch.right").run Tryd.prog w = .ok (98, v) w := by kernel_rfl
theorem m_literal_right (v : Value) (w : World) : (method (Tryd.prog.types.size + Made.depth) 121 v "inlay/patch.right").run Tryd.prog w = .ok (101, v) w := by kernel_rfl
theorem m_unknownOne_right (v : Value) (w : World) : (method (Tryd.prog.types.size + Made.depth) 122 v "inlay/patch.right").run Tryd.prog w = .ok (104, v) w := by kernel_rfl


theorem does_right {n : Nat} {σ : Nat → Value} {ty : TypeId} {aT : Array TypeId} {r y : Operand} {w : World} {I : Imm} (x : OpL) (ad : Option Addr) (m cap : Nat) (size : Int) (hI : Sat I w) (hd : RBytes I (.slice ad m cap) x.data) (hx : x.wf) (hn : Mid size) (hr : ev n σ r = ofV x (opV x ad m cap)) (hy : ev n σ y = .int .i64 size) :
    Does Tryd.prog (ev n σ) (.call { callee := .invoke r "inlay/patch.right", args := [y].toArray, argTypes := aT }) ty w (fun v w' => v = .bool (rightP x size) ∧ Ext w I w' I) := by
  unfold ofV at hr
  unfold rightP
  have ha : List.map (ev n σ) [y] = [.int .i64 size] := ml hy ml0
  by_cases h1 : x.kind = 1
  · rw [if_pos h1] at hr ⊢
    exact d_invoke hr (m_copying_right _) Tryd.call91 ha (copying_right x ad m cap size w I hI hd hx hn)
  rw [if_neg h1] at hr ⊢
  by_cases h2 : x.kind = 2
  · rw [if_pos h2] at hr ⊢
    exact d_invoke hr (m_differing_right _) Tryd.call95 ha (differing_right x ad m cap size w I hI hd hx hn)
  rw [if_neg h2] at hr ⊢
  by_cases h3 : x.kind = 3
  · rw [if_pos h3] at hr ⊢
    exact d_invoke hr (m_running_right _) Tryd.call98 ha (running_right x ad m cap size w I hI hd hx hn)
  rw [if_neg h3] at hr ⊢
  by_cases h4 : x.kind = 4
  · rw [if_pos h4] at hr ⊢
    exact d_invoke hr (m_literal_right _) Tryd.call101 ha (literal_right x ad m cap size w I hI hd hx hn)
  rw [if_neg h4] at hr ⊢
  exact d_invoke hr (m_unknownOne_right _) Tryd.call104 ha (unknown_right size w I hI)


set_option maxHeartbeats 1000000 in
theorem check_c (p : PatL) (ad : Option Addr) (m cap : Nat) (w0 : World) (I0 : Imm) (hI : Sat I0 w0) (hops : ROps I0 (.slice ad m cap) p.ops) (hp : p.wf) :
    Ctr Tryd.prog 22 [.agg #[.bool p.lifted, .int .i64 p.in_, .int .i64 p.out, .slice ad m cap]] w0 (fun v w' => v = .tuple #[.int .i64 (checkP p).1, .int .i64 (checkP p).2] ∧ Ext w0 I0 w' I0) := by
  refine fn (n := 68) Tryd.func22 rfl rfl rfl ?_
  have hS := St.start hI
  refine wpIn_seq ?_
  refine reg ?_
  refine qe (d_box (cs := [.bool _, .int .i64 _, .int .i64 _, .slice _ _ _]) hS rfl) ?_
  clear hS
  rintro _ w_1 ⟨b1, rfl, hS⟩
  refine qq hS (g_assignv (v := .int .i64 _) rfl) ?_
  refine qq hS (g_assignv (v := .int .i64 _) rfl) ?_
  refine ol_nil (thenN ?_)
  refine wpIn_seq ?_
  refine wpIn_seq ?_
  refine reg ?_
  refine qq hS (g_fieldAddr (o' := 1) Tryd.underlying31 rfl Tryd.sizeOf3 rfl rfl rfl) ?_
  refine qq hS (g_ldO1 0 Tryd.isAgg3 rfl rfl rfl) ?_
  refine qq hS (g_fieldAddr (o' := 2) Tryd.underlying31 rfl Tryd.sizeOf3 rfl rfl rfl) ?_
  refine qq hS (g_ldO1 0 Tryd.isAgg3 rfl rfl rfl) ?_
  refine qq hS (g_min rfl rfl) ?_
  refine qq hS (g_lss rfl rfl) ?_
  refine qq hS (g_movev (v := .bool _) rfl) ?_
  refine qu rfl rfl hS (fun hg => (g_fieldAddr (o' := 1) Tryd.underlying31 rfl Tryd.sizeOf3 rfl rfl rfl)) ?_
  intro u14 hu14 hn14
  refine qu rfl rfl hS (fun hg => (g_ldO1 0 Tryd.isAgg3 rfl (hu14 hg) rfl)) ?_
  intro u15 hu15 hn15
  refine qu rfl rfl hS (fun hg => (g_fieldAddr (o' := 2) Tryd.underlying31 rfl Tryd.sizeOf3 rfl rfl rfl)) ?_
  intro u16 hu16 hn16
  refine qu rfl rfl hS (fun hg => (g_ldO1 0 Tryd.isAgg3 rfl (hu16 hg) rfl)) ?_
  intro u17 hu17 hn17
  refine qu rfl rfl hS (fun hg => (g_max (hu15 hg) (hu17 hg))) ?_
  intro u18 hu18 hn18
  refine qu rfl rfl hS (fun hg => (g_gtr (hu18 hg) rfl)) ?_
  intro u19 hu19 hn19
  refine qq hS (g_or rfl rfl (fun hq => hu19 hq)) ?_
  refine qq hS (g_movev (v := .bool _) rfl) ?_
  refine qu rfl rfl hS (fun hg => (g_fieldAddr (o' := 3) Tryd.underlying31 rfl Tryd.sizeOf29 rfl rfl rfl)) ?_
  intro u22 hu22 hn22
  refine qu rfl rfl hS (fun hg => (g_ldO1 0 Tryd.isAgg29 rfl (hu22 hg) rfl)) ?_
  intro u23 hu23 hn23
  refine qu rfl rfl hS (fun hg => (g_lenI rfl Tryd.underlying29 hops (hu23 hg))) ?_
  intro u24 hu24 hn24
  refine qu rfl rfl hS (fun hg => (g_gtr (hu24 hg) rfl)) ?_
  intro u25 hu25 hn25
  refine qq hS (g_or rfl rfl (fun hq => hu25 hq)) ?_
  refine ol_nil (thenN ?_)
  refine cond_s rfl ?_ ?_
  ·
    intro hc26
    clear hu14 hn14 hu15 hn15 hu16 hn16 hu17 hn17 hu18 hn18 hu19 hn19 hu22 hn22 hu23 hn23 hu24 hn24 hu25 hn25
    have e : checkP p = (-1, 60) := by unfold checkP; rw [if_pos]; exact hc26
    refine wpIn_seq ?_
    refine reg ?_
    refine qq hS (g_assignv (v := .int .i64 _) rfl) ?_
    refine qq hS (g_assignv (v := .int .i64 _) rfl) ?_
    refine ol_nil (thenN ?_)
    refine wpIn_ret ?_
    refine thenR ?_
    refine ret2 Tryd.results22 (rv_tmp (v := .int .i64 _) rfl) (rv_tmp (v := .int .i64 _) rfl) ?_
    rw [e]; exact ⟨rfl, hS.nil⟩
  ·
    intro hc26
    clear hu14 hn14 hu15 hn15 hu16 hn16 hu17 hn17 hu18 hn18 hu19 hn19 hu22 hn22 hu23 hn23 hu24 hn24 hu25 hn25
    have hbad : badP p = false := hc26
    have e0 : checkP p = checkGo p.in_ p.ops p.out 0 := by unfold checkP; rw [if_neg (by rw [hbad]; decide)]
    have hb := hbad
    simp only [badP, Bool.or_eq_false_iff, decide_eq_false_iff_not] at hb
    obtain ⟨⟨hb1, hb2⟩, hb3⟩ := hb
    have hb4 : 0 ≤ p.in_ ∧ 0 ≤ p.out ∧ p.in_ ≤ 65536 ∧ p.out ≤ 65536 := by split at hb1 <;> split at hb2 <;> omega
    obtain ⟨hb5, hb6, hb7, hb8⟩ := hb4
    refine wpIn_skip ?_
    refine thenN ?_
    refine wpIn_seq ?_
    refine reg ?_
    refine qq hS (g_fieldAddr (o' := 2) Tryd.underlying31 rfl Tryd.sizeOf3 rfl rfl rfl) ?_
    refine qq hS (g_ldO1 0 Tryd.isAgg3 rfl rfl rfl) ?_
    refine qq hS (g_assignv (v := .int .i64 _) rfl) ?_
    refine ol_nil (thenN ?_)
    refine wpIn_seq ?_
    refine wpIn_seq ?_
    refine reg ?_
    refine qq hS (g_fieldAddr (o' := 3) Tryd.underlying31 rfl Tryd.sizeOf29 rfl rfl rfl) ?_
    refine qq hS (g_ldO1 0 Tryd.isAgg29 rfl rfl rfl) ?_
    refine qq hS (g_lenI rfl Tryd.underlying29 hops rfl) ?_
    refine qq hS (g_movev (v := .int .i64 _) rfl) ?_
    refine ol_nil (thenN ?_)
    refine wpIn_block ?_
    refine loop (fun (x : Nat × Int) σ w => okS σ [(1, .pointer (some ⟨b1, 0, none⟩)), (4, .int .i64 x.2), (30, .slice ad m cap), (31, .int .i64 p.ops.length), (32, .int .i64 x.1)] ∧ St [] w0 I0 I0 w [.cel b1 31 [.bool p.lifted, .int .i64 p.in_, .int .i64 p.out, .slice ad m cap]] ∧ x.1 ≤ p.ops.length ∧ 0 ≤ x.2 ∧ x.2 ≤ 65536 ∧ checkGo p.in_ (p.ops.drop x.1) x.2 x.1 = checkGo p.in_ p.ops p.out 0) (fun x => p.ops.length - x.1) ((0, p.out)) ?_ ?_
    ·
      exact ⟨⟨rfl, rfl, rfl, rfl, rfl, trivial⟩, hS.sel [true], by simp, hb6, hb8, rfl⟩
    ·
      rintro ⟨k, left⟩ σ w_l ⟨hs, hS, hk0, hl0, hl1, hgo⟩
      dsimp only at hs hS hk0 hl0 hl1 hgo ⊢
      rw [← upds_self hs]; clear hs
      refine wpIn_seq ?_
      refine reg ?_
      refine qq hS (g_lss rfl rfl) ?_
      refine ol_nil (thenN ?_)
      refine wpIn_seq ?_
      refine cond_s rfl ?_ ?_
      ·
        intro hc33
        try simp only [Bool.and_eq_true, Bool.or_eq_true, Bool.not_eq_true', Bool.and_eq_false_imp, Bool.or_eq_false_iff, Bool.not_eq_false', decide_eq_true_eq, decide_eq_false_iff_not] at hc33
        obtain ⟨x, hx⟩ : ∃ x, p.ops[k]? = some x := ⟨_, List.getElem?_eq_getElem (by omega)⟩
        have hxw := hp.ops x (List.mem_of_getElem? hx)
        obtain ⟨lx1, lx2⟩ := hxw.len
        obtain ⟨cs, hcl, hoA, hro⟩ := RSl.at hops hx
        obtain ⟨adx, mx, capx, rfl, hd⟩ := hro
        rw [drop_cons hx] at hgo
        refine wpIn_skip ?_
        refine thenN ?_
        refine wpIn_seq ?_
        refine wpIn_block ?_
        refine wpIn_seq ?_
        refine reg ?_
        refine qq hS (g_movev (v := .int .i64 _) rfl) ?_
        refine qq hS (g_ixI Tryd.underlying29 Tryd.sizeOf53 hops rfl rfl (by omega) (by omega)) ?_
        refine qq hS (g_ldE (us := [.int .i64 _, .int .i64 _, .int .i64 _, .int .u8 _, .slice _ _ _]) Tryd.sizeOf53 Tryd.isAgg53 hoA rfl rfl rfl) ?_
        refine qe (d_alloc (cs := [.int .i64 _, .int .i64 _, .int .i64 _, .int .u8 _, .slice _ _ _]) hS Tryd.zeroValue53 rfl) ?_
        clear hS
        rintro _ w_2 ⟨b_2, rfl, hS⟩
        refine qq hS (g_assignv (v := .int .i64 _) rfl) ?_
        refine qe (d_store 0 hS Tryd.sizeOf53 rfl rfl rfl (vs := [.int .i64 _, .int .i64 _, .int .i64 _, .int .u8 _, .slice _ _ _]) rfl rfl rfl (Nat.le_of_ble_eq_true rfl) (cs' := [_, _, _, _, _]) rfl) ?_
        clear hS
        rintro _ w_3 ⟨rfl, hS⟩
        refine ol_nil (thenN ?_)
        refine wpIn_seq ?_
        refine wpIn_seq ?_
        refine draw (.cons 0 .pure (.cons 1 .held (.cons 2 .pure (.cons 3 .pure (.cons 4 .pure (.cons 5 .held (.cons 6 .pure (.cons 7 .pure (.cons 8 .pure (.cons 9 .pure (.cons 10 .held (.cons 12 .pure (.cons 13 .held (.cons 11 .eff (.cons 14 .eff (.cons 15 .pure (.cons 16 .pure .nil))))))))))))))))) mixed (by kernel_rfl) hS ?_
        intro w_4 hS
        refine sp rfl (g_fieldAddr (o' := 2) Tryd.underlying53 rfl Tryd.sizeOf3 rfl rfl rfl) ?_
        refine sh rfl (g_ldO1 0 Tryd.isAgg3 rfl rfl rfl) ?_
        refine sp rfl (g_lss rfl rfl) ?_
        refine sp rfl (g_movev (v := .bool _) rfl) ?_
        refine spu rfl rfl rfl (fun hg => (g_fieldAddr (o' := 2) Tryd.underlying53 rfl Tryd.sizeOf3 rfl rfl rfl)) ?_
        intro u41 hu41 hn41
        refine shu rfl rfl rfl (fun hg => (g_ldO1 0 Tryd.isAgg3 rfl (hu41 hg) rfl)) ?_
        intro u42 hu42 hn42
        refine spu rfl rfl rfl (fun hg => (g_movev (v := .int .i64 _) rfl)) ?_
        intro u43 hu43 hn43
        refine spu rfl rfl rfl (fun hg => (g_gtr (hu42 hg) (hu43 hg))) ?_
        intro u44 hu44 hn44
        refine sp rfl (g_or rfl rfl (fun hq => hu44 hq)) ?_
        refine sp rfl (g_movev (v := .bool _) rfl) ?_
        refine shu rfl rfl rfl (fun hg => (g_ldO 0 (vs := [.int .i64 _, .int .i64 _, .int .i64 _, .int .u8 _, .slice _ _ _]) Tryd.sizeOf53 Tryd.isAgg53 rfl rfl rfl rfl)) ?_
        intro u47 hu47 hn47
        refine spu rfl rfl rfl (fun hg => (g_fieldAddr (o' := 1) Tryd.underlying31 rfl Tryd.sizeOf3 rfl rfl rfl)) ?_
        intro u49 hu49 hn49
        refine shu rfl rfl rfl (fun hg => (g_ldO1 1 Tryd.isAgg3 rfl (hu49 hg) rfl)) ?_
        intro u50 hu50 hn50
        refine scu rfl rfl rfl hS (fun hg => (d_call Tryd.call37 (ml (hu47 hg) ml0) (of_c x adx mx capx _ I0 hS.imm hd hxw))) ?_
        intro w_6 u48 hS hu48 hn48
        refine scu rfl rfl rfl hS (fun hg => (does_right x adx mx capx p.in_ hS.imm hd hxw hp.in_ (hu48 hg) (hu50 hg))) ?_
        intro w_8 u51 hS hu51 hn51
        refine spu rfl rfl rfl (fun hg => (g_not (hu51 hg))) ?_
        intro u52 hu52 hn52
        refine sp rfl (g_or rfl rfl (fun hq => hu52 hq)) ?_
        refine sn (thenN ?_)
        refine cond_s rfl ?_ ?_
        ·
          intro hc53
          clear hu41 hn41 hu42 hn42 hu43 hn43 hu44 hn44 hu47 hn47 hu49 hn49 hu50 hn50 hu48 hn48 hu51 hn51 hu52 hn52
          have e : checkP p = (↑k, 60) := by rw [e0, ← hgo, checkGo_bad hc53]
          refine wpIn_seq ?_
          refine reg ?_
          refine qq hS (g_movev (v := .int .i64 _) rfl) ?_
          refine qq hS (g_assignv (v := .int .i64 _) rfl) ?_
          refine qq hS (g_assignv (v := .int .i64 _) rfl) ?_
          refine ol_nil (thenN ?_)
          refine wpIn_ret ?_
          refine thenR (blkR (thenR (thenR (blkR (thenR ?_)))))
          refine ret2 Tryd.results22 (rv_tmp (v := .int .i64 _) rfl) (rv_tmp (v := .int .i64 _) rfl) ?_
          rw [e]; exact ⟨rfl, hS.nil⟩
        ·
          intro hc53
          clear hu41 hn41 hu42 hn42 hu43 hn43 hu44 hn44 hu47 hn47 hu49 hn49 hu50 hn50 hu48 hn48 hu51 hn51 hu52 hn52
          rw [checkGo_good hc53] at hgo
          simp only [Bool.or_eq_false_iff, decide_eq_false_iff_not] at hc53
          obtain ⟨⟨hc1, hc2⟩, hc3⟩ := hc53
          refine wpIn_skip ?_
          refine thenN ?_
          refine reg ?_
          refine qq hS (g_movev (v := .int .i64 _) rfl) ?_
          refine qq hS (g_fieldAddr (o' := 2) Tryd.underlying53 rfl Tryd.sizeOf3 rfl rfl rfl) ?_
          refine qq hS (g_ldO1 0 Tryd.isAgg3 rfl rfl rfl) ?_
          refine qq hS (g_sub rfl rfl (by omega) (by omega)) ?_
          refine qq hS (g_assignv (v := .int .i64 _) rfl) ?_
          refine ol_nil (blkN (thenN ?_))
          refine reg ?_
          refine qq hS (g_add rfl rfl (by omega) (by omega)) ?_
          refine qq hS (g_movev (v := .int .i64 _) rfl) ?_
          exact ⟨(k + 1, left - x.len), _, rfl, ⟨⟨rfl, rfl, rfl, rfl, rfl, trivial⟩, hS.sel [false, true], by dsimp only; omega, by dsimp only; omega, by dsimp only; omega, hgo⟩, by dsimp only; omega⟩
      ·
        intro hc33
        try simp only [Bool.and_eq_true, Bool.or_eq_true, Bool.not_eq_true', Bool.and_eq_false_imp, Bool.or_eq_false_iff, Bool.not_eq_false', decide_eq_true_eq, decide_eq_false_iff_not] at hc33
        have hk : k = p.ops.length := by omega
        subst hk
        rw [List.drop_length] at hgo
        refine wpIn_exit ?_
        refine thenE (thenE (blkE ?_))
        refine thenN ?_
        refine wpIn_seq ?_
        refine wpIn_seq ?_
        refine reg ?_
        refine qq hS (g_movev (v := .int .i64 _) rfl) ?_
        refine qq hS (g_gtr rfl rfl) ?_
        refine ol_nil (thenN ?_)
        refine cond_s rfl ?_ ?_
        ·
          intro hc61
          try simp only [Bool.and_eq_true, Bool.or_eq_true, Bool.not_eq_true', Bool.and_eq_false_imp, Bool.or_eq_false_iff, Bool.not_eq_false', decide_eq_true_eq, decide_eq_false_iff_not] at hc61
          have e : checkP p = (↑p.ops.length, 60) := by rw [e0, ← hgo, checkGo, if_pos hc61]
          refine wpIn_seq ?_
          refine reg ?_
          refine qq hS (g_fieldAddr (o' := 3) Tryd.underlying31 rfl Tryd.sizeOf29 rfl rfl rfl) ?_
          refine qq hS (g_ldO1 0 Tryd.isAgg29 rfl rfl rfl) ?_
          refine qq hS (g_lenI rfl Tryd.underlying29 hops rfl) ?_
          refine qq hS (g_assignv (v := .int .i64 _) rfl) ?_
          refine qq hS (g_assignv (v := .int .i64 _) rfl) ?_
          refine ol_nil (thenN ?_)
          refine wpIn_ret ?_
          refine thenR ?_
          refine ret2 Tryd.results22 (rv_tmp (v := .int .i64 _) rfl) (rv_tmp (v := .int .i64 _) rfl) ?_
          rw [e]; exact ⟨rfl, hS.nil⟩
        ·
          intro hc61
          try simp only [Bool.and_eq_true, Bool.or_eq_true, Bool.not_eq_true', Bool.and_eq_false_imp, Bool.or_eq_false_iff, Bool.not_eq_false', decide_eq_true_eq, decide_eq_false_iff_not] at hc61
          have e : checkP p = (↑p.ops.length, 0) := by rw [e0, ← hgo, checkGo, if_neg hc61]
          refine wpIn_skip ?_
          refine thenN ?_
          refine wpIn_seq ?_
          refine reg ?_
          refine qq hS (g_fieldAddr (o' := 3) Tryd.underlying31 rfl Tryd.sizeOf29 rfl rfl rfl) ?_
          refine qq hS (g_ldO1 0 Tryd.isAgg29 rfl rfl rfl) ?_
          refine qq hS (g_lenI rfl Tryd.underlying29 hops rfl) ?_
          refine qq hS (g_assignv (v := .int .i64 _) rfl) ?_
          refine qq hS (g_assignv (v := .int .i64 _) rfl) ?_
          refine ol_nil (thenN ?_)
          refine wpIn_ret ?_
          refine ret2 Tryd.results22 (rv_tmp (v := .int .i64 _) rfl) (rv_tmp (v := .int .i64 _) rfl) ?_
          rw [e]; exact ⟨rfl, hS.nil⟩

end Go.Proofs.YtdgnojckkjfhfaaDoor


namespace Go.Proofs.YtdgnojckkjfhfaaDoor
open Go Go.RowKit Go.Inl
set_option linter.unusedSimpArgs false
set_option linter.unusedVariables false

end Go.Proofs.YtdgnojckkjfhfaaDoor


namespace Go.Proofs.YtdgnojckkjfhfaaDoor
open Go Go.RowKit Go.Inl
set_option linter.unusedSimpArgs false
set_option linter.unusedVariables false
end Go.Proofs.YtdgnojckkjfhfaaDoor


namespace Go.Proofs.YtdgnojckkjfhfaaDoor
open Go Go.RowKit Go.Inl
set_option linter.unusedSimpArgs false
set_option linter.unusedVariables false
end Go.Proofs.YtdgnojckkjfhfaaDoor

