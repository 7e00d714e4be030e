/- The functions of package patch that check patches and make symbols of them: what they compute. Conditions: numbers within bounds. -/
import Derived.Test.YtlhehhhpaebpoaaGreatSmall
import Derived.Test.YtlhehhhpaebpoaaGreatKCore2
namespace Go.Proofs.YtlhehhhpaebpoaaGreat
open Go Go.RowKit Go.Inl
set_option linter.unusedSimpArgs false
set_option linter.unusedVariables false
abbrev opV (x : OpL) (ad : Option Addr) (m cap : Nat) : Value := .agg #[.int .i64 x.kind, .int .i64 x.from_, .int .i64 x.len, .int .u8 x.b, .slice ad m cap]
def ofV (x : OpL) (v : Value) : Value :=
  if x.kind = 1 then .iface 144 v else if x.kind = 2 then .iface 145 v else if x.kind = 3 then .iface 146 v
  else if x.kind = 4 then .iface 147 v else .iface 149 (.agg #[])

theorem inside_c (x : OpL) (ad : Option Addr) (m cap : Nat) (n : Int) (w0 : World) (I0 : Imm) (hI : Sat I0 w0) (hd : RBytes I0 (.slice ad m cap) x.data) (hx : x.wf) (hn : Mid n) :
    Ctr Tryz.prog 153 [opV x ad m cap, .int .i64 n] w0 (fun v w' => v = .bool (insideP x n) ∧ Ext w0 I0 w' I0) := by
  obtain ⟨⟨k1, k2⟩, ⟨f1, f2⟩, ⟨l1, l2⟩, ⟨b1, b2⟩, hdat⟩ := hx
  obtain ⟨n1, n2⟩ := hn
  refine fn (n := 17) Tryz.func153 rfl rfl rfl ?_
  have hS := St.start hI
  refine wpIn_seq ?_
  refine reg ?_
  refine qe (d_box (cs := [.int .i64 _, .int .i64 _, .int .i64 _, .int .u8 _, .slice _ _ _]) hS rfl) ?_
  clear hS
  rintro _ w_1 ⟨b_1, rfl, hS⟩
  refine qq hS (g_assignv (v := .bool _) rfl) ?_
  refine ol_nil (thenN ?_)
  refine wpIn_seq ?_
  refine reg ?_
  refine qq hS (g_fieldAddr (o' := 1) Tryz.underlying62 rfl Tryz.sizeOf3 rfl rfl rfl) ?_
  refine qq hS (g_ldO1 0 Tryz.isAgg3 rfl rfl rfl) ?_
  refine qq hS (g_geq rfl rfl) ?_
  refine qq hS (g_movev (v := .bool _) rfl) ?_
  refine qu rfl rfl hS (fun hg => (g_fieldAddr (o' := 1) Tryz.underlying62 rfl Tryz.sizeOf3 rfl rfl rfl)) ?_
  intro u9 hu9 hn9
  refine qu rfl rfl hS (fun hg => (g_ldO1 0 Tryz.isAgg3 rfl (hu9 hg) rfl)) ?_
  intro u10 hu10 hn10
  refine qu rfl rfl hS (fun hg => (g_movev (v := .int .i64 _) rfl)) ?_
  intro u11 hu11 hn11
  refine qu rfl rfl hS (fun hg => (g_fieldAddr (o' := 2) Tryz.underlying62 rfl Tryz.sizeOf3 rfl rfl rfl)) ?_
  intro u12 hu12 hn12
  refine qu rfl rfl hS (fun hg => (g_ldO1 0 Tryz.isAgg3 rfl (hu12 hg) rfl)) ?_
  intro u13 hu13 hn13
  refine qu rfl rfl hS (fun hg => (g_sub (hu11 hg) (hu13 hg) (by omega) (by omega))) ?_
  intro u14 hu14 hn14
  refine qu rfl rfl hS (fun hg => (g_leq (hu10 hg) (hu14 hg))) ?_
  intro u15 hu15 hn15
  refine qq hS (g_and rfl rfl (fun hq => hu15 hq)) ?_
  refine qq hS (g_assignv (v := .bool _) rfl) ?_
  refine ol_nil (thenN ?_)
  refine wpIn_ret ?_
  refine ret1 Tryz.results153 (rv_tmp (v := .bool _) rfl) ?_
  exact ⟨rfl, hS.nil⟩

theorem copying_right (x : OpL) (ad : Option Addr) (m cap : Nat) (n : Int) (w0 : World) (I0 : Imm) (hI : Sat I0 w0) (hd : RBytes I0 (.slice ad m cap) x.data) (hx : x.wf) (hn : Mid n) :
    Ctr Tryz.prog 151 [opV x ad m cap, .int .i64 n] w0 (fun v w' => v = .bool (insideP x n && decide (x.b = 0) && decide ((x.data.length : Int) = 0)) ∧ Ext w0 I0 w' I0) := by
  refine fn (n := 19) Tryz.func151 rfl rfl rfl ?_
  have hS := St.start hI
  refine wpIn_seq ?_
  refine reg ?_
  refine qe (d_box (cs := [.int .i64 _, .int .i64 _, .int .i64 _, .int .u8 _, .slice _ _ _]) hS rfl) ?_
  clear hS
  rintro _ w_1 ⟨b_1, rfl, hS⟩
  refine qq hS (g_assignv (v := .bool _) rfl) ?_
  refine ol_nil (thenN ?_)
  refine wpIn_seq ?_
  refine reg ?_
  refine qq hS (g_ldO 0 (vs := [.int .i64 _, .int .i64 _, .int .i64 _, .int .u8 _, .slice _ _ _]) Tryz.sizeOf144 Tryz.isAgg144 rfl rfl rfl rfl) ?_
  refine qq hS (g_movev (v := .int .i64 _) rfl) ?_
  refine qe (d_call Tryz.call153 rfl (inside_c x ad m cap n _ I0 hS.imm hd hx hn)) ?_
  rintro _ w_2 ⟨rfl, hE⟩
  replace hS := hS.callE hE
  refine qq hS (g_movev (v := .bool _) rfl) ?_
  refine qu rfl rfl hS (fun hg => (g_fieldAddr (o' := 3) Tryz.underlying144 rfl Tryz.sizeOf5 rfl rfl rfl)) ?_
  intro u9 hu9 hn9
  refine qu rfl rfl hS (fun hg => (g_ldO1 0 Tryz.isAgg5 rfl (hu9 hg) rfl)) ?_
  intro u10 hu10 hn10
  refine qu rfl rfl hS (fun hg => (g_eql (hu10 hg) rfl)) ?_
  intro u11 hu11 hn11
  refine qq hS (g_and rfl rfl (fun hq => hu11 hq)) ?_
  refine qq hS (g_movev (v := .bool _) rfl) ?_
  refine qu rfl rfl hS (fun hg => (g_fieldAddr (o' := 4) Tryz.underlying144 rfl Tryz.sizeOf25 rfl rfl rfl)) ?_
  intro u14 hu14 hn14
  refine qu rfl rfl hS (fun hg => (g_ldO1 0 Tryz.isAgg25 rfl (hu14 hg) rfl)) ?_
  intro u15 hu15 hn15
  refine qu rfl rfl hS (fun hg => (g_lenI rfl Tryz.underlying25 hd (hu15 hg))) ?_
  intro u16 hu16 hn16
  refine qu rfl rfl hS (fun hg => (g_eql (hu16 hg) rfl)) ?_
  intro u17 hu17 hn17
  refine qq hS (g_and rfl rfl (fun hq => hu17 hq)) ?_
  refine qq hS (g_assignv (v := .bool _) rfl) ?_
  refine ol_nil (thenN ?_)
  refine wpIn_ret ?_
  refine ret1 Tryz.results151 (rv_tmp (v := .bool _) rfl) ?_
  exact ⟨rfl, hS.nil⟩

theorem differing_right (x : OpL) (ad : Option Addr) (m cap : Nat) (n : Int) (w0 : World) (I0 : Imm) (hI : Sat I0 w0) (hd : RBytes I0 (.slice ad m cap) x.data) (hx : x.wf) (hn : Mid n) :
    Ctr Tryz.prog 155 [opV x ad m cap, .int .i64 n] w0 (fun v w' => v = .bool (insideP x n && decide (x.b = 0) && decide ((x.data.length : Int) = x.len)) ∧ Ext w0 I0 w' I0) := by
  refine fn (n := 21) Tryz.func155 rfl rfl rfl ?_
  have hS := St.start hI
  refine wpIn_seq ?_
  refine reg ?_
  refine qe (d_box (cs := [.int .i64 _, .int .i64 _, .int .i64 _, .int .u8 _, .slice _ _ _]) hS rfl) ?_
  clear hS
  rintro _ w_1 ⟨b_1, rfl, hS⟩
  refine qq hS (g_assignv (v := .bool _) rfl) ?_
  refine ol_nil (thenN ?_)
  refine wpIn_seq ?_
  refine reg ?_
  refine qq hS (g_ldO 0 (vs := [.int .i64 _, .int .i64 _, .int .i64 _, .int .u8 _, .slice _ _ _]) Tryz.sizeOf145 Tryz.isAgg145 rfl rfl rfl rfl) ?_
  refine qq hS (g_movev (v := .int .i64 _) rfl) ?_
  refine qe (d_call Tryz.call153 rfl (inside_c x ad m cap n _ I0 hS.imm hd hx hn)) ?_
  rintro _ w_2 ⟨rfl, hE⟩
  replace hS := hS.callE hE
  refine qq hS (g_movev (v := .bool _) rfl) ?_
  refine qu rfl rfl hS (fun hg => (g_fieldAddr (o' := 3) Tryz.underlying145 rfl Tryz.sizeOf5 rfl rfl rfl)) ?_
  intro u9 hu9 hn9
  refine qu rfl rfl hS (fun hg => (g_ldO1 0 Tryz.isAgg5 rfl (hu9 hg) rfl)) ?_
  intro u10 hu10 hn10
  refine qu rfl rfl hS (fun hg => (g_eql (hu10 hg) rfl)) ?_
  intro u11 hu11 hn11
  refine qq hS (g_and rfl rfl (fun hq => hu11 hq)) ?_
  refine qq hS (g_movev (v := .bool _) rfl) ?_
  refine qu rfl rfl hS (fun hg => (g_fieldAddr (o' := 4) Tryz.underlying145 rfl Tryz.sizeOf25 rfl rfl rfl)) ?_
  intro u14 hu14 hn14
  refine qu rfl rfl hS (fun hg => (g_ldO1 0 Tryz.isAgg25 rfl (hu14 hg) rfl)) ?_
  intro u15 hu15 hn15
  refine qu rfl rfl hS (fun hg => (g_lenI rfl Tryz.underlying25 hd (hu15 hg))) ?_
  intro u16 hu16 hn16
  refine qu rfl rfl hS (fun hg => (g_fieldAddr (o' := 2) Tryz.underlying145 rfl Tryz.sizeOf3 rfl rfl rfl)) ?_
  intro u17 hu17 hn17
  refine qu rfl rfl hS (fun hg => (g_ldO1 0 Tryz.isAgg3 rfl (hu17 hg) rfl)) ?_
  intro u18 hu18 hn18
  refine qu rfl rfl hS (fun hg => (g_eql (hu16 hg) (hu18 hg))) ?_
  intro u19 hu19 hn19
  refine qq hS (g_and rfl rfl (fun hq => hu19 hq)) ?_
  refine qq hS (g_assignv (v := .bool _) rfl) ?_
  refine ol_nil (thenN ?_)
  refine wpIn_ret ?_
  refine ret1 Tryz.results155 (rv_tmp (v := .bool _) rfl) ?_
  exact ⟨rfl, hS.nil⟩

theorem running_right (x : OpL) (ad : Option Addr) (m cap : Nat) (n : Int) (w0 : World) (I0 : Imm) (hI : Sat I0 w0) (hd : RBytes I0 (.slice ad m cap) x.data) (hx : x.wf) (hn : Mid n) :
    Ctr Tryz.prog 158 [opV x ad m cap, .int .i64 n] w0 (fun v w' => v = .bool (decide (x.from_ = 0) && decide ((x.data.length : Int) = 0)) ∧ Ext w0 I0 w' I0) := by
  refine fn (n := 14) Tryz.func158 rfl rfl rfl ?_
  have hS := St.start hI
  refine wpIn_seq ?_
  refine reg ?_
  refine qe (d_box (cs := [.int .i64 _, .int .i64 _, .int .i64 _, .int .u8 _, .slice _ _ _]) hS rfl) ?_
  clear hS
  rintro _ w_1 ⟨b_1, rfl, hS⟩
  refine qq hS (g_assignv (v := .bool _) rfl) ?_
  refine ol_nil (thenN ?_)
  refine wpIn_seq ?_
  refine reg ?_
  refine qq hS (g_fieldAddr (o' := 1) Tryz.underlying146 rfl Tryz.sizeOf3 rfl rfl rfl) ?_
  refine qq hS (g_ldO1 0 Tryz.isAgg3 rfl rfl rfl) ?_
  refine qq hS (g_eql rfl rfl) ?_
  refine qq hS (g_movev (v := .bool _) rfl) ?_
  refine qu rfl rfl hS (fun hg => (g_fieldAddr (o' := 4) Tryz.underlying146 rfl Tryz.sizeOf25 rfl rfl rfl)) ?_
  intro u9 hu9 hn9
  refine qu rfl rfl hS (fun hg => (g_ldO1 0 Tryz.isAgg25 rfl (hu9 hg) rfl)) ?_
  intro u10 hu10 hn10
  refine qu rfl rfl hS (fun hg => (g_lenI rfl Tryz.underlying25 hd (hu10 hg))) ?_
  intro u11 hu11 hn11
  refine qu rfl rfl hS (fun hg => (g_eql (hu11 hg) rfl)) ?_
  intro u12 hu12 hn12
  refine qq hS (g_and rfl rfl (fun hq => hu12 hq)) ?_
  refine qq hS (g_assignv (v := .bool _) rfl) ?_
  refine ol_nil (thenN ?_)
  refine wpIn_ret ?_
  refine ret1 Tryz.results158 (rv_tmp (v := .bool _) rfl) ?_
  exact ⟨rfl, hS.nil⟩

theorem literal_right (x : OpL) (ad : Option Addr) (m cap : Nat) (n : Int) (w0 : World) (I0 : Imm) (hI : Sat I0 w0) (hd : RBytes I0 (.slice ad m cap) x.data) (hx : x.wf) (hn : Mid n) :
    Ctr Tryz.prog 161 [opV x ad m cap, .int .i64 n] w0 (fun v w' => v = .bool (decide (x.from_ = 0) && decide (x.b = 0) && decide ((x.data.length : Int) = x.len)) ∧ Ext w0 I0 w' I0) := by
  refine fn (n := 21) Tryz.func161 rfl rfl rfl ?_
  have hS := St.start hI
  refine wpIn_seq ?_
  refine reg ?_
  refine qe (d_box (cs := [.int .i64 _, .int .i64 _, .int .i64 _, .int .u8 _, .slice _ _ _]) hS rfl) ?_
  clear hS
  rintro _ w_1 ⟨b_1, rfl, hS⟩
  refine qq hS (g_assignv (v := .bool _) rfl) ?_
  refine ol_nil (thenN ?_)
  refine wpIn_seq ?_
  refine reg ?_
  refine qq hS (g_fieldAddr (o' := 1) Tryz.underlying147 rfl Tryz.sizeOf3 rfl rfl rfl) ?_
  refine qq hS (g_ldO1 0 Tryz.isAgg3 rfl rfl rfl) ?_
  refine qq hS (g_eql rfl rfl) ?_
  refine qq hS (g_movev (v := .bool _) rfl) ?_
  refine qu rfl rfl hS (fun hg => (g_fieldAddr (o' := 3) Tryz.underlying147 rfl Tryz.sizeOf5 rfl rfl rfl)) ?_
  intro u9 hu9 hn9
  refine qu rfl rfl hS (fun hg => (g_ldO1 0 Tryz.isAgg5 rfl (hu9 hg) rfl)) ?_
  intro u10 hu10 hn10
  refine qu rfl rfl hS (fun hg => (g_eql (hu10 hg) rfl)) ?_
  intro u11 hu11 hn11
  refine qq hS (g_and rfl rfl (fun hq => hu11 hq)) ?_
  refine qq hS (g_movev (v := .bool _) rfl) ?_
  refine qu rfl rfl hS (fun hg => (g_fieldAddr (o' := 4) Tryz.underlying147 rfl Tryz.sizeOf25 rfl rfl rfl)) ?_
  intro u14 hu14 hn14
  refine qu rfl rfl hS (fun hg => (g_ldO1 0 Tryz.isAgg25 rfl (hu14 hg) rfl)) ?_
  intro u15 hu15 hn15
  refine qu rfl rfl hS (fun hg => (g_lenI rfl Tryz.underlying25 hd (hu15 hg))) ?_
  intro u16 hu16 hn16
  refine qu rfl rfl hS (fun hg => (g_fieldAddr (o' := 2) Tryz.underlying147 rfl Tryz.sizeOf3 rfl rfl rfl)) ?_
  intro u17 hu17 hn17
  refine qu rfl rfl hS (fun hg => (g_ldO1 0 Tryz.isAgg3 rfl (hu17 hg) rfl)) ?_
  intro u18 hu18 hn18
  refine qu rfl rfl hS (fun hg => (g_eql (hu16 hg) (hu18 hg))) ?_
  intro u19 hu19 hn19
  refine qq hS (g_and rfl rfl (fun hq => hu19 hq)) ?_
  refine qq hS (g_assignv (v := .bool _) rfl) ?_
  refine ol_nil (thenN ?_)
  refine wpIn_ret ?_
  refine ret1 Tryz.results161 (rv_tmp (v := .bool _) rfl) ?_
  exact ⟨rfl, hS.nil⟩

theorem copying_symbol (x : OpL) (ad : Option Addr) (m cap : Nat) (n : Int) (w0 : World) (I0 : Imm) (hI : Sat I0 w0) (hd : RBytes I0 (.slice ad m cap) x.data) (hx : x.wf) (hn : Mid n) :
    Ctr Tryz.prog 152 [opV x ad m cap, .int .i64 n] w0 (fun v w' => v = symV ⟨true, x.from_ + n, 0⟩ ∧ Ext w0 I0 w' I0) := by
  obtain ⟨⟨k1, k2⟩, ⟨f1, f2⟩, ⟨l1, l2⟩, ⟨b1, b2⟩, hdat⟩ := hx
  obtain ⟨n1, n2⟩ := hn
  refine fn (n := 10) Tryz.func152 rfl rfl rfl ?_
  have hS := St.start hI
  refine wpIn_seq ?_
  refine reg ?_
  refine qe (d_box (cs := [.int .i64 _, .int .i64 _, .int .i64 _, .int .u8 _, .slice _ _ _]) hS rfl) ?_
  clear hS
  rintro _ w_1 ⟨b_1, rfl, hS⟩
  refine qe (d_alloc (cs := [.bool _, .int .i64 _, .int .u8 _]) hS Tryz.zeroValue60 rfl) ?_
  clear hS
  rintro _ w_2 ⟨b_2, rfl, hS⟩
  refine ol_nil (thenN ?_)
  refine wpIn_seq ?_
  refine reg ?_
  refine qq hS (g_fieldAddr (o' := 1) Tryz.underlying144 rfl Tryz.sizeOf3 rfl rfl rfl) ?_
  refine qq hS (g_ldO1 1 Tryz.isAgg3 rfl rfl rfl) ?_
  refine qq hS (g_movev (v := .int .i64 _) rfl) ?_
  refine qq hS (g_add rfl rfl (by omega) (by omega)) ?_
  refine qq hS (g_buildv (pl := [(0, 1), (1, 1), (2, 1)]) (cs := [.bool _, .int .i64 _, .int .u8 _]) Tryz.zeroValue60 Tryz.underlying60 (fun w => by simp [Tryz.sizeOf3, Tryz.sizeOf4, Tryz.sizeOf5]) (mp (v := .bool _) rfl (mp (v := .int .i64 _) rfl mp0)) rfl) ?_
  refine qe (d_store 0 hS Tryz.sizeOf60 rfl rfl rfl (vs := [.bool _, .int .i64 _, .int .u8 _]) rfl rfl rfl (Nat.le_of_ble_eq_true rfl) (cs' := [_, _, _]) rfl) ?_
  clear hS
  rintro _ w_3 ⟨rfl, hS⟩
  refine ol_nil (thenN ?_)
  refine wpIn_ret ?_
  refine ret1 Tryz.results152 (rv_cel 0 hS Tryz.sizeOf60 Tryz.isAgg60 rfl rfl rfl) ?_
  exact ⟨rfl, hS.nil⟩

theorem differing_symbol (x : OpL) (ad : Option Addr) (m cap : Nat) (n : Int) (w0 : World) (I0 : Imm) (hI : Sat I0 w0) (hd : RBytes I0 (.slice ad m cap) x.data) (hx : x.wf) (hn : Mid n) (h0 : 0 ≤ n) (h1 : n < x.data.length) :
    Ctr Tryz.prog 156 [opV x ad m cap, .int .i64 n] w0 (fun v w' => v = symV ⟨true, x.from_ + n, x.data.getD n.toNat 0⟩ ∧ Ext w0 I0 w' I0) := by
  obtain ⟨⟨k1, k2⟩, ⟨f1, f2⟩, ⟨l1, l2⟩, ⟨b1, b2⟩, hdat⟩ := hx
  obtain ⟨n1, n2⟩ := hn
  obtain ⟨y, hy⟩ : ∃ y, x.data[n.toNat]? = some y := ⟨_, List.getElem?_eq_getElem (by omega)⟩
  have hya := hd.at hy
  have hyd : x.data.getD n.toNat 0 = y := by rw [List.getD_eq_getElem?_getD, hy]; rfl
  rw [hyd]
  refine fn (n := 15) Tryz.func156 rfl rfl rfl ?_
  have hS := St.start hI
  refine wpIn_seq ?_
  refine reg ?_
  refine qe (d_box (cs := [.int .i64 _, .int .i64 _, .int .i64 _, .int .u8 _, .slice _ _ _]) hS rfl) ?_
  clear hS
  rintro _ w_1 ⟨b_1, rfl, hS⟩
  refine qe (d_alloc (cs := [.bool _, .int .i64 _, .int .u8 _]) hS Tryz.zeroValue60 rfl) ?_
  clear hS
  rintro _ w_2 ⟨b_2, rfl, hS⟩
  refine ol_nil (thenN ?_)
  refine wpIn_seq ?_
  refine draw (.cons 0 .pure (.cons 1 .held (.cons 2 .pure (.cons 3 .pure (.cons 4 .pure (.cons 5 .held (.cons 6 .pure (.cons 7 .pure (.cons 8 .held (.cons 9 .pure (.cons 10 .bar .nil))))))))))) mixed (by kernel_rfl) hS ?_
  intro w_3 hS
  refine sp rfl (g_fieldAddr (o' := 1) Tryz.underlying145 rfl Tryz.sizeOf3 rfl rfl rfl) ?_
  refine sh rfl (g_ldO1 1 Tryz.isAgg3 rfl rfl rfl) ?_
  refine sp rfl (g_movev (v := .int .i64 _) rfl) ?_
  refine sp rfl (g_add rfl rfl (by omega) (by omega)) ?_
  refine sp rfl (g_fieldAddr (o' := 4) Tryz.underlying145 rfl Tryz.sizeOf25 rfl rfl rfl) ?_
  refine sh rfl (g_ldO1 1 Tryz.isAgg25 rfl rfl rfl) ?_
  refine sp rfl (g_movev (v := .int .i64 _) rfl) ?_
  refine sp rfl (g_ixI Tryz.underlying25 Tryz.sizeOf5 hd rfl rfl (by omega) (by omega)) ?_
  refine sh rfl (g_ldE1 Tryz.isAgg5 hya rfl rfl) ?_
  refine sp rfl (g_buildv (pl := [(0, 1), (1, 1), (2, 1)]) (cs := [.bool _, .int .i64 _, .int .u8 _]) Tryz.zeroValue60 Tryz.underlying60 (fun w => by simp [Tryz.sizeOf3, Tryz.sizeOf4, Tryz.sizeOf5]) (mp (v := .bool _) rfl (mp (v := .int .i64 _) rfl (mp (v := .int .u8 _) rfl mp0))) rfl) ?_
  refine sb rfl (d_store 0 hS Tryz.sizeOf60 rfl rfl rfl (vs := [.bool _, .int .i64 _, .int .u8 _]) rfl rfl rfl (Nat.le_of_ble_eq_true rfl) (cs' := [_, _, _]) rfl) ?_
  rintro _ w_4 ⟨rfl, hS⟩
  refine ⟨_, _, hS, ?_⟩
  refine sn (thenN ?_)
  refine wpIn_ret ?_
  refine ret1 Tryz.results156 (rv_cel 0 hS Tryz.sizeOf60 Tryz.isAgg60 rfl rfl rfl) ?_
  exact ⟨rfl, hS.nil⟩

theorem running_symbol (x : OpL) (ad : Option Addr) (m cap : Nat) (n : Int) (w0 : World) (I0 : Imm) (hI : Sat I0 w0) (hd : RBytes I0 (.slice ad m cap) x.data) (hx : x.wf) (hn : Mid n) :
    Ctr Tryz.prog 159 [opV x ad m cap, .int .i64 n] w0 (fun v w' => v = symV ⟨false, 0, x.b⟩ ∧ Ext w0 I0 w' I0) := by
  obtain ⟨⟨k1, k2⟩, ⟨f1, f2⟩, ⟨l1, l2⟩, ⟨b1, b2⟩, hdat⟩ := hx
  obtain ⟨n1, n2⟩ := hn
  refine fn (n := 8) Tryz.func159 rfl rfl rfl ?_
  have hS := St.start hI
  refine wpIn_seq ?_
  refine reg ?_
  refine qe (d_box (cs := [.int .i64 _, .int .i64 _, .int .i64 _, .int .u8 _, .slice _ _ _]) hS rfl) ?_
  clear hS
  rintro _ w_1 ⟨b_1, rfl, hS⟩
  refine qe (d_alloc (cs := [.bool _, .int .i64 _, .int .u8 _]) hS Tryz.zeroValue60 rfl) ?_
  clear hS
  rintro _ w_2 ⟨b_2, rfl, hS⟩
  refine ol_nil (thenN ?_)
  refine wpIn_seq ?_
  refine reg ?_
  refine qq hS (g_fieldAddr (o' := 3) Tryz.underlying146 rfl Tryz.sizeOf5 rfl rfl rfl) ?_
  refine qq hS (g_ldO1 1 Tryz.isAgg5 rfl rfl rfl) ?_
  refine qq hS (g_buildv (pl := [(0, 1), (1, 1), (2, 1)]) (cs := [.bool _, .int .i64 _, .int .u8 _]) Tryz.zeroValue60 Tryz.underlying60 (fun w => by simp [Tryz.sizeOf3, Tryz.sizeOf4, Tryz.sizeOf5]) (mp (v := .int .u8 _) rfl mp0) rfl) ?_
  refine qe (d_store 0 hS Tryz.sizeOf60 rfl rfl rfl (vs := [.bool _, .int .i64 _, .int .u8 _]) rfl rfl rfl (Nat.le_of_ble_eq_true rfl) (cs' := [_, _, _]) rfl) ?_
  clear hS
  rintro _ w_3 ⟨rfl, hS⟩
  refine ol_nil (thenN ?_)
  refine wpIn_ret ?_
  refine ret1 Tryz.results159 (rv_cel 0 hS Tryz.sizeOf60 Tryz.isAgg60 rfl rfl rfl) ?_
  exact ⟨rfl, hS.nil⟩

theorem literal_symbol (x : OpL) (ad : Option Addr) (m cap : Nat) (n : Int) (w0 : World) (I0 : Imm) (hI : Sat I0 w0) (hd : RBytes I0 (.slice ad m cap) x.data) (hx : x.wf) (hn : Mid n) (h0 : 0 ≤ n) (h1 : n < x.data.length) :
    Ctr Tryz.prog 162 [opV x ad m cap, .int .i64 n] w0 (fun v w' => v = symV ⟨false, 0, x.data.getD n.toNat 0⟩ ∧ Ext w0 I0 w' I0) := by
  obtain ⟨⟨k1, k2⟩, ⟨f1, f2⟩, ⟨l1, l2⟩, ⟨b1, b2⟩, hdat⟩ := hx
  obtain ⟨n1, n2⟩ := hn
  obtain ⟨y, hy⟩ : ∃ y, x.data[n.toNat]? = some y := ⟨_, List.getElem?_eq_getElem (by omega)⟩
  have hya := hd.at hy
  have hyd : x.data.getD n.toNat 0 = y := by rw [List.getD_eq_getElem?_getD, hy]; rfl
  rw [hyd]
  refine fn (n := 11) Tryz.func162 rfl rfl rfl ?_
  have hS := St.start hI
  refine wpIn_seq ?_
  refine reg ?_
  refine qe (d_box (cs := [.int .i64 _, .int .i64 _, .int .i64 _, .int .u8 _, .slice _ _ _]) hS rfl) ?_
  clear hS
  rintro _ w_1 ⟨b_1, rfl, hS⟩
  refine qe (d_alloc (cs := [.bool _, .int .i64 _, .int .u8 _]) hS Tryz.zeroValue60 rfl) ?_
  clear hS
  rintro _ w_2 ⟨b_2, rfl, hS⟩
  refine ol_nil (thenN ?_)
  refine wpIn_seq ?_
  refine reg ?_
  refine qq hS (g_fieldAddr (o' := 4) Tryz.underlying147 rfl Tryz.sizeOf25 rfl rfl rfl) ?_
  refine qq hS (g_ldO1 1 Tryz.isAgg25 rfl rfl rfl) ?_
  refine qq hS (g_movev (v := .int .i64 _) rfl) ?_
  refine qq hS (g_ixI Tryz.underlying25 Tryz.sizeOf5 hd rfl rfl (by omega) (by omega)) ?_
  refine qq hS (g_ldE1 Tryz.isAgg5 hya rfl rfl) ?_
  refine qq hS (g_buildv (pl := [(0, 1), (1, 1), (2, 1)]) (cs := [.bool _, .int .i64 _, .int .u8 _]) Tryz.zeroValue60 Tryz.underlying60 (fun w => by simp [Tryz.sizeOf3, Tryz.sizeOf4, Tryz.sizeOf5]) (mp (v := .int .u8 _) rfl mp0) rfl) ?_
  refine qe (d_store 0 hS Tryz.sizeOf60 rfl rfl rfl (vs := [.bool _, .int .i64 _, .int .u8 _]) rfl rfl rfl (Nat.le_of_ble_eq_true rfl) (cs' := [_, _, _]) rfl) ?_
  clear hS
  rintro _ w_3 ⟨rfl, hS⟩
  refine ol_nil (thenN ?_)
  refine wpIn_ret ?_
  refine ret1 Tryz.results162 (rv_cel 0 hS Tryz.sizeOf60 Tryz.isAgg60 rfl rfl rfl) ?_
  exact ⟨rfl, hS.nil⟩

theorem unknown_right (n : Int) (w0 : World) (I0 : Imm) (hI : Sat I0 w0) : Ctr Tryz.prog 164 [.agg #[], .int .i64 n] w0 (fun v w' => v = .bool false ∧ Ext w0 I0 w' I0) := by
  refine fn (n := 5) Tryz.func164 rfl rfl rfl ?_
  have hS := St.start hI
  refine wpIn_seq ?_
  refine reg ?_
  refine qe (d_box (cs := []) hS rfl) ?_
  clear hS
  rintro _ w_1 ⟨b_1, rfl, hS⟩
  refine qq hS (g_assignv (v := .bool _) rfl) ?_
  refine ol_nil (thenN ?_)
  refine wpIn_seq ?_
  refine reg ?_
  refine qq hS (g_assignv (v := .bool _) rfl) ?_
  refine ol_nil (thenN ?_)
  refine wpIn_ret ?_
  refine ret1 Tryz.results164 (rv_tmp (v := .bool _) rfl) ?_
  exact ⟨rfl, hS.nil⟩

theorem of_c (x : OpL) (ad : Option Addr) (m cap : Nat) (w0 : World) (I0 : Imm) (hI : Sat I0 w0) (hd : RBytes I0 (.slice ad m cap) x.data) (hx : x.wf) :
    Ctr Tryz.prog 61 [opV x ad m cap] w0 (fun v w' => v = ofV x (opV x ad m cap) ∧ Ext w0 I0 w' I0) := by
  refine fn (n := 23) Tryz.func61 rfl rfl rfl ?_
  have hS := St.start hI
  refine wpIn_seq ?_
  refine reg ?_
  refine qe (d_box (cs := [.int .i64 _, .int .i64 _, .int .i64 _, .int .u8 _, .slice _ _ _]) hS rfl) ?_
  clear hS
  rintro _ w_1 ⟨b_1, rfl, hS⟩
  refine qq hS (g_assign _) ?_
  refine ol_nil (thenN ?_)
  refine wpIn_seq ?_
  refine wpIn_seq ?_
  refine reg ?_
  refine qq hS (g_fieldAddr (o' := 0) Tryz.underlying62 rfl Tryz.sizeOf3 rfl rfl rfl) ?_
  refine qq hS (g_ldO1 0 Tryz.isAgg3 rfl rfl rfl) ?_
  refine ol_nil (thenN ?_)
  refine wpIn_block ?_
  refine wpIn_seq ?_
  refine reg ?_
  refine qq hS (g_eql rfl rfl) ?_
  refine qq hS (g_assignv (v := .bool _) rfl) ?_
  refine ol_nil (thenN ?_)
  refine cond_s rfl ?_ ?_
  ·
    intro hc5
    simp only [decide_eq_true_eq, decide_eq_false_iff_not] at hc5
    refine wpIn_seq ?_
    refine reg ?_
    refine qq hS (g_ldO 0 (vs := [.int .i64 _, .int .i64 _, .int .i64 _, .int .u8 _, .slice _ _ _]) Tryz.sizeOf62 Tryz.isAgg62 rfl rfl rfl rfl) ?_
    refine qq hS (g_makeIface Tryz.underlying144 rfl) ?_
    refine qq hS (g_assign _) ?_
    refine ol_nil (thenN ?_)
    refine wpIn_ret ?_
    refine blkR (thenR ?_)
    refine ret1 Tryz.results61 (rv_tmp rfl) ?_
    refine ⟨?_, hS.nil⟩; unfold ofV; first | (rw [if_pos hc5]; rfl) | (rw [if_neg hc5, if_pos hc9]; rfl) | (rw [if_neg hc5, if_neg hc9, if_pos hc13]; rfl) | (rw [if_neg hc5, if_neg hc9, if_neg hc13, if_pos hc17]; rfl) | (rw [if_neg hc5, if_neg hc9, if_neg hc13, if_neg hc17]; rfl)
  ·
    intro hc5
    simp only [decide_eq_true_eq, decide_eq_false_iff_not] at hc5
    refine wpIn_seq ?_
    refine reg ?_
    refine qq hS (g_eql rfl rfl) ?_
    refine qq hS (g_assignv (v := .bool _) rfl) ?_
    refine ol_nil (thenN ?_)
    refine cond_s rfl ?_ ?_
    ·
      intro hc9
      simp only [decide_eq_true_eq, decide_eq_false_iff_not] at hc9
      refine wpIn_seq ?_
      refine reg ?_
      refine qq hS (g_ldO 0 (vs := [.int .i64 _, .int .i64 _, .int .i64 _, .int .u8 _, .slice _ _ _]) Tryz.sizeOf62 Tryz.isAgg62 rfl rfl rfl rfl) ?_
      refine qq hS (g_makeIface Tryz.underlying145 rfl) ?_
      refine qq hS (g_assign _) ?_
      refine ol_nil (thenN ?_)
      refine wpIn_ret ?_
      refine blkR (thenR ?_)
      refine ret1 Tryz.results61 (rv_tmp rfl) ?_
      refine ⟨?_, hS.nil⟩; unfold ofV; first | (rw [if_pos hc5]; rfl) | (rw [if_neg hc5, if_pos hc9]; rfl) | (rw [if_neg hc5, if_neg hc9, if_pos hc13]; rfl) | (rw [if_neg hc5, if_neg hc9, if_neg hc13, if_pos hc17]; rfl) | (rw [if_neg hc5, if_neg hc9, if_neg hc13, if_neg hc17]; rfl)
    ·
      intro hc9
      simp only [decide_eq_true_eq, decide_eq_false_iff_not] at hc9
      refine wpIn_seq ?_
      refine reg ?_
      refine qq hS (g_eql rfl rfl) ?_
      refine qq hS (g_assignv (v := .bool _) rfl) ?_
      refine ol_nil (thenN ?_)
      refine cond_s rfl ?_ ?_
      ·
        intro hc13
        simp only [decide_eq_true_eq, decide_eq_false_iff_not] at hc13
        refine wpIn_seq ?_
        refine reg ?_
        refine qq hS (g_ldO 0 (vs := [.int .i64 _, .int .i64 _, .int .i64 _, .int .u8 _, .slice _ _ _]) Tryz.sizeOf62 Tryz.isAgg62 rfl rfl rfl rfl) ?_
        refine qq hS (g_makeIface Tryz.underlying146 rfl) ?_
        refine qq hS (g_assign _) ?_
        refine ol_nil (thenN ?_)
        refine wpIn_ret ?_
        refine blkR (thenR ?_)
        refine ret1 Tryz.results61 (rv_tmp rfl) ?_
        refine ⟨?_, hS.nil⟩; unfold ofV; first | (rw [if_pos hc5]; rfl) | (rw [if_neg hc5, if_pos hc9]; rfl) | (rw [if_neg hc5, if_neg hc9, if_pos hc13]; rfl) | (rw [if_neg hc5, if_neg hc9, if_neg hc13, if_pos hc17]; rfl) | (rw [if_neg hc5, if_neg hc9, if_neg hc13, if_neg hc17]; rfl)
      ·
        intro hc13
        simp only [decide_eq_true_eq, decide_eq_false_iff_not] at hc13
        refine wpIn_seq ?_
        refine reg ?_
        refine qq hS (g_eql rfl rfl) ?_
        refine qq hS (g_assignv (v := .bool _) rfl) ?_
        refine ol_nil (thenN ?_)
        refine cond_s rfl ?_ ?_
        ·
          intro hc17
          simp only [decide_eq_true_eq, decide_eq_false_iff_not] at hc17
          refine wpIn_seq ?_
          refine reg ?_
          refine qq hS (g_ldO 0 (vs := [.int .i64 _, .int .i64 _, .int .i64 _, .int .u8 _, .slice _ _ _]) Tryz.sizeOf62 Tryz.isAgg62 rfl rfl rfl rfl) ?_
          refine qq hS (g_makeIface Tryz.underlying147 rfl) ?_
          refine qq hS (g_assign _) ?_
          refine ol_nil (thenN ?_)
          refine wpIn_ret ?_
          refine blkR (thenR ?_)
          refine ret1 Tryz.results61 (rv_tmp rfl) ?_
          refine ⟨?_, hS.nil⟩; unfold ofV; first | (rw [if_pos hc5]; rfl) | (rw [if_neg hc5, if_pos hc9]; rfl) | (rw [if_neg hc5, if_neg hc9, if_pos hc13]; rfl) | (rw [if_neg hc5, if_neg hc9, if_neg hc13, if_pos hc17]; rfl) | (rw [if_neg hc5, if_neg hc9, if_neg hc13, if_neg hc17]; rfl)
        ·
          intro hc17
          simp only [decide_eq_true_eq, decide_eq_false_iff_not] at hc17
          refine wpIn_skip ?_
          refine blkN (thenN ?_)
          refine wpIn_seq ?_
          refine reg ?_
          refine qq hS (g_buildv (pl := []) (cs := []) Tryz.zeroValue149 Tryz.underlying149 (fun w => by simp []) mp0 rfl) ?_
          refine qq hS (g_makeIface Tryz.underlying149 rfl) ?_
          refine qq hS (g_assign _) ?_
          refine ol_nil (thenN ?_)
          refine wpIn_ret ?_
          refine ret1 Tryz.results61 (rv_tmp rfl) ?_
          refine ⟨?_, hS.nil⟩; unfold ofV; first | (rw [if_pos hc5]; rfl) | (rw [if_neg hc5, if_pos hc9]; rfl) | (rw [if_neg hc5, if_neg hc9, if_pos hc13]; rfl) | (rw [if_neg hc5, if_neg hc9, if_neg hc13, if_pos hc17]; rfl) | (rw [if_neg hc5, if_neg hc9, if_neg hc13, if_neg hc17]; rfl)

end Go.Proofs.YtlhehhhpaebpoaaGreat

