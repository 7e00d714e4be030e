/- The small functions of package normal: what they compute. Conditions: symbols and prices within bounds. The functions of package patch that check patches and make symbols of them: what they compute. Conditions: numbers within bounds. patch.Check and patch.Symbols: what they compute. Conditions: numbers within bounds. normal.table fills the table of places. Conditions: at most 65536 right symbols. normal.Cheapest and normal.Form: what they compute. Conditions: numbers within bounds. normal.Form and normal.Same: what they compute. Conditions: numbers within bounds. -/
import Derived.Test.YtaklmbhfmpdinaaGreatDoorFacts
import Derived.Test.YtaklmbhfmpdinaaGreatDoorKCore2
import Derived.KernelRfl
namespace Go.Proofs.YtaklmbhfmpdinaaGreatDoor
open Go Go.RowKit Go.Inl


end Go.Proofs.YtaklmbhfmpdinaaGreatDoor


namespace Go.Proofs.YtaklmbhfmpdinaaGreatDoor
open Go Go.RowKit Go.Inl
set_option linter.unusedSimpArgs false
set_option linter.unusedVariables false
abbrev opV (x : OpL) (ad : Option Addr) (m cap : Nat) : Value := .agg #[.int .i64 x.kind, .int .i64 x.from_, .int .i64 x.len, .int .u8 x.b, .slice ad m cap]
def ofV (x : OpL) (v : Value) : Value :=
  if x.kind = 1 then .iface 160 v else if x.kind = 2 then .iface 161 v else if x.kind = 3 then .iface 162 v
  else if x.kind = 4 then .iface 163 v else .iface 165 (.agg #[])

theorem inside_c (x : OpL) (ad : Option Addr) (m cap : Nat) (n : Int) (w0 : World) (I0 : Imm) (hI : Sat I0 w0) (hd : RBytes I0 (.slice ad m cap) x.data) (hx : x.wf) (hn : Mid n) :
    Ctr Tryz.prog 181 [opV x ad m cap, .int .i64 n] w0 (fun v w' => v = .bool (insideP x n) ∧ Ext w0 I0 w' I0) := by
  obtain ⟨⟨k1, k2⟩, ⟨f1, f2⟩, ⟨l1, l2⟩, ⟨b1, b2⟩, hdat⟩ := hx
  obtain ⟨n1, n2⟩ := hn
  refine fn (n := 17) Tryz.func181 rfl rfl rfl ?_
  have hS := St.start hI
  refine wpIn_seq ?_
  refine reg ?_
  refine qe (d_box (cs := [.int .i64 _, .int .i64 _, .int .i64 _, .int .u8 _, .slice _ _ _]) hS rfl) ?_
  clear hS
  rintro _ w_1 ⟨b_1, rfl, hS⟩
  refine qq hS (g_assignv (v := .bool _) rfl) ?_
  refine ol_nil (thenN ?_)
  refine wpIn_seq ?_
  refine reg ?_
  refine qq hS (g_fieldAddr (o' := 1) Tryz.underlying62 rfl Tryz.sizeOf3 rfl rfl rfl) ?_
  refine qq hS (g_ldO1 0 Tryz.isAgg3 rfl rfl rfl) ?_
  refine qq hS (g_geq rfl rfl) ?_
  refine qq hS (g_movev (v := .bool _) rfl) ?_
  refine qu rfl rfl hS (fun hg => (g_fieldAddr (o' := 1) Tryz.underlying62 rfl Tryz.sizeOf3 rfl rfl rfl)) ?_
  intro u9 hu9 hn9
  refine qu rfl rfl hS (fun hg => (g_ldO1 0 Tryz.isAgg3 rfl (hu9 hg) rfl)) ?_
  intro u10 hu10 hn10
  refine qu rfl rfl hS (fun hg => (g_movev (v := .int .i64 _) rfl)) ?_
  intro u11 hu11 hn11
  refine qu rfl rfl hS (fun hg => (g_fieldAddr (o' := 2) Tryz.underlying62 rfl Tryz.sizeOf3 rfl rfl rfl)) ?_
  intro u12 hu12 hn12
  refine qu rfl rfl hS (fun hg => (g_ldO1 0 Tryz.isAgg3 rfl (hu12 hg) rfl)) ?_
  intro u13 hu13 hn13
  refine qu rfl rfl hS (fun hg => (g_sub (hu11 hg) (hu13 hg) (by omega) (by omega))) ?_
  intro u14 hu14 hn14
  refine qu rfl rfl hS (fun hg => (g_leq (hu10 hg) (hu14 hg))) ?_
  intro u15 hu15 hn15
  refine qq hS (g_and rfl rfl (fun hq => hu15 hq)) ?_
  refine qq hS (g_assignv (v := .bool _) rfl) ?_
  refine ol_nil (thenN ?_)
  refine wpIn_ret ?_
  refine ret1 Tryz.results181 (rv_tmp (v := .bool _) rfl) ?_
  exact ⟨rfl, hS.nil⟩

theorem copying_right (x : OpL) (ad : Option Addr) (m cap : Nat) (n : Int) (w0 : World) (I0 : Imm) (hI : Sat I0 w0) (hd : RBytes I0 (.slice ad m cap) x.data) (hx : x.wf) (hn : Mid n) :
    Ctr Tryz.prog 179 [opV x ad m cap, .int .i64 n] w0 (fun v w' => v = .bool (insideP x n && decide (x.b = 0) && decide ((x.data.length : Int) = 0)) ∧ Ext w0 I0 w' I0) := by
  refine fn (n := 19) Tryz.func179 rfl rfl rfl ?_
  have hS := St.start hI
  refine wpIn_seq ?_
  refine reg ?_
  refine qe (d_box (cs := [.int .i64 _, .int .i64 _, .int .i64 _, .int .u8 _, .slice _ _ _]) hS rfl) ?_
  clear hS
  rintro _ w_1 ⟨b_1, rfl, hS⟩
  refine qq hS (g_assignv (v := .bool _) rfl) ?_
  refine ol_nil (thenN ?_)
  refine wpIn_seq ?_
  refine reg ?_
  refine qq hS (g_ldO 0 (vs := [.int .i64 _, .int .i64 _, .int .i64 _, .int .u8 _, .slice _ _ _]) Tryz.sizeOf160 Tryz.isAgg160 rfl rfl rfl rfl) ?_
  refine qq hS (g_movev (v := .int .i64 _) rfl) ?_
  refine qe (d_call Tryz.call181 rfl (inside_c x ad m cap n _ I0 hS.imm hd hx hn)) ?_
  rintro _ w_2 ⟨rfl, hE⟩
  replace hS := hS.callE hE
  refine qq hS (g_movev (v := .bool _) rfl) ?_
  refine qu rfl rfl hS (fun hg => (g_fieldAddr (o' := 3) Tryz.underlying160 rfl Tryz.sizeOf5 rfl rfl rfl)) ?_
  intro u9 hu9 hn9
  refine qu rfl rfl hS (fun hg => (g_ldO1 0 Tryz.isAgg5 rfl (hu9 hg) rfl)) ?_
  intro u10 hu10 hn10
  refine qu rfl rfl hS (fun hg => (g_eql (hu10 hg) rfl)) ?_
  intro u11 hu11 hn11
  refine qq hS (g_and rfl rfl (fun hq => hu11 hq)) ?_
  refine qq hS (g_movev (v := .bool _) rfl) ?_
  refine qu rfl rfl hS (fun hg => (g_fieldAddr (o' := 4) Tryz.underlying160 rfl Tryz.sizeOf22 rfl rfl rfl)) ?_
  intro u14 hu14 hn14
  refine qu rfl rfl hS (fun hg => (g_ldO1 0 Tryz.isAgg22 rfl (hu14 hg) rfl)) ?_
  intro u15 hu15 hn15
  refine qu rfl rfl hS (fun hg => (g_lenI rfl Tryz.underlying22 hd (hu15 hg))) ?_
  intro u16 hu16 hn16
  refine qu rfl rfl hS (fun hg => (g_eql (hu16 hg) rfl)) ?_
  intro u17 hu17 hn17
  refine qq hS (g_and rfl rfl (fun hq => hu17 hq)) ?_
  refine qq hS (g_assignv (v := .bool _) rfl) ?_
  refine ol_nil (thenN ?_)
  refine wpIn_ret ?_
  refine ret1 Tryz.results179 (rv_tmp (v := .bool _) rfl) ?_
  exact ⟨rfl, hS.nil⟩

theorem differing_right (x : OpL) (ad : Option Addr) (m cap : Nat) (n : Int) (w0 : World) (I0 : Imm) (hI : Sat I0 w0) (hd : RBytes I0 (.slice ad m cap) x.data) (hx : x.wf) (hn : Mid n) :
    Ctr Tryz.prog 183 [opV x ad m cap, .int .i64 n] w0 (fun v w' => v = .bool (insideP x n && decide (x.b = 0) && decide ((x.data.length : Int) = x.len)) ∧ Ext w0 I0 w' I0) := by
  refine fn (n := 21) Tryz.func183 rfl rfl rfl ?_
  have hS := St.start hI
  refine wpIn_seq ?_
  refine reg ?_
  refine qe (d_box (cs := [.int .i64 _, .int .i64 _, .int .i64 _, .int .u8 _, .slice _ _ _]) hS rfl) ?_
  clear hS
  rintro _ w_1 ⟨b_1, rfl, hS⟩
  refine qq hS (g_assignv (v := .bool _) rfl) ?_
  refine ol_nil (thenN ?_)
  refine wpIn_seq ?_
  refine reg ?_
  refine qq hS (g_ldO 0 (vs := [.int .i64 _, .int .i64 _, .int .i64 _, .int .u8 _, .slice _ _ _]) Tryz.sizeOf161 Tryz.isAgg161 rfl rfl rfl rfl) ?_
  refine qq hS (g_movev (v := .int .i64 _) rfl) ?_
  refine qe (d_call Tryz.call181 rfl (inside_c x ad m cap n _ I0 hS.imm hd hx hn)) ?_
  rintro _ w_2 ⟨rfl, hE⟩
  replace hS := hS.callE hE
  refine qq hS (g_movev (v := .bool _) rfl) ?_
  refine qu rfl rfl hS (fun hg => (g_fieldAddr (o' := 3) Tryz.underlying161 rfl Tryz.sizeOf5 rfl rfl rfl)) ?_
  intro u9 hu9 hn9
  refine qu rfl rfl hS (fun hg => (g_ldO1 0 Tryz.isAgg5 rfl (hu9 hg) rfl)) ?_
  intro u10 hu10 hn10
  refine qu rfl rfl hS (fun hg => (g_eql (hu10 hg) rfl)) ?_
  intro u11 hu11 hn11
  refine qq hS (g_and rfl rfl (fun hq => hu11 hq)) ?_
  refine qq hS (g_movev (v := .bool _) rfl) ?_
  refine qu rfl rfl hS (fun hg => (g_fieldAddr (o' := 4) Tryz.underlying161 rfl Tryz.sizeOf22 rfl rfl rfl)) ?_
  intro u14 hu14 hn14
  refine qu rfl rfl hS (fun hg => (g_ldO1 0 Tryz.isAgg22 rfl (hu14 hg) rfl)) ?_
  intro u15 hu15 hn15
  refine qu rfl rfl hS (fun hg => (g_lenI rfl Tryz.underlying22 hd (hu15 hg))) ?_
  intro u16 hu16 hn16
  refine qu rfl rfl hS (fun hg => (g_fieldAddr (o' := 2) Tryz.underlying161 rfl Tryz.sizeOf3 rfl rfl rfl)) ?_
  intro u17 hu17 hn17
  refine qu rfl rfl hS (fun hg => (g_ldO1 0 Tryz.isAgg3 rfl (hu17 hg) rfl)) ?_
  intro u18 hu18 hn18
  refine qu rfl rfl hS (fun hg => (g_eql (hu16 hg) (hu18 hg))) ?_
  intro u19 hu19 hn19
  refine qq hS (g_and rfl rfl (fun hq => hu19 hq)) ?_
  refine qq hS (g_assignv (v := .bool _) rfl) ?_
  refine ol_nil (thenN ?_)
  refine wpIn_ret ?_
  refine ret1 Tryz.results183 (rv_tmp (v := .bool _) rfl) ?_
  exact ⟨rfl, hS.nil⟩

theorem running_right (x : OpL) (ad : Option Addr) (m cap : Nat) (n : Int) (w0 : World) (I0 : Imm) (hI : Sat I0 w0) (hd : RBytes I0 (.slice ad m cap) x.data) (hx : x.wf) (hn : Mid n) :
    Ctr Tryz.prog 186 [opV x ad m cap, .int .i64 n] w0 (fun v w' => v = .bool (decide (x.from_ = 0) && decide ((x.data.length : Int) = 0)) ∧ Ext w0 I0 w' I0) := by
  refine fn (n := 14) Tryz.func186 rfl rfl rfl ?_
  have hS := St.start hI
  refine wpIn_seq ?_
  refine reg ?_
  refine qe (d_box (cs := [.int .i64 _, .int .i64 _, .int .i64 _, .int .u8 _, .slice _ _ _]) hS rfl) ?_
  clear hS
  rintro _ w_1 ⟨b_1, rfl, hS⟩
  refine qq hS (g_assignv (v := .bool _) rfl) ?_
  refine ol_nil (thenN ?_)
  refine wpIn_seq ?_
  refine reg ?_
  refine qq hS (g_fieldAddr (o' := 1) Tryz.underlying162 rfl Tryz.sizeOf3 rfl rfl rfl) ?_
  refine qq hS (g_ldO1 0 Tryz.isAgg3 rfl rfl rfl) ?_
  refine qq hS (g_eql rfl rfl) ?_
  refine qq hS (g_movev (v := .bool _) rfl) ?_
  refine qu rfl rfl hS (fun hg => (g_fieldAddr (o' := 4) Tryz.underlying162 rfl Tryz.sizeOf22 rfl rfl rfl)) ?_
  intro u9 hu9 hn9
  refine qu rfl rfl hS (fun hg => (g_ldO1 0 Tryz.isAgg22 rfl (hu9 hg) rfl)) ?_
  intro u10 hu10 hn10
  refine qu rfl rfl hS (fun hg => (g_lenI rfl Tryz.underlying22 hd (hu10 hg))) ?_
  intro u11 hu11 hn11
  refine qu rfl rfl hS (fun hg => (g_eql (hu11 hg) rfl)) ?_
  intro u12 hu12 hn12
  refine qq hS (g_and rfl rfl (fun hq => hu12 hq)) ?_
  refine qq hS (g_assignv (v := .bool _) rfl) ?_
  refine ol_nil (thenN ?_)
  refine wpIn_ret ?_
  refine ret1 Tryz.results186 (rv_tmp (v := .bool _) rfl) ?_
  exact ⟨rfl, hS.nil⟩

theorem literal_right (x : OpL) (ad : Option Addr) (m cap : Nat) (n : Int) (w0 : World) (I0 : Imm) (hI : Sat I0 w0) (hd : RBytes I0 (.slice ad m cap) x.data) (hx : x.wf) (hn : Mid n) :
    Ctr Tryz.prog 189 [opV x ad m cap, .int .i64 n] w0 (fun v w' => v = .bool (decide (x.from_ = 0) && decide (x.b = 0) && decide ((x.data.length : Int) = x.len)) ∧ Ext w0 I0 w' I0) := by
  refine fn (n := 21) Tryz.func189 rfl rfl rfl ?_
  have hS := St.start hI
  refine wpIn_seq ?_
  refine reg ?_
  refine qe (d_box (cs := [.int .i64 _, .int .i64 _, .int .i64 _, .int .u8 _, .slice _ _ _]) hS rfl) ?_
  clear hS
  rintro _ w_1 ⟨b_1, rfl, hS⟩
  refine qq hS (g_assignv (v := .bool _) rfl) ?_
  refine ol_nil (thenN ?_)
  refine wpIn_seq ?_
  refine reg ?_
  refine qq hS (g_fieldAddr (o' := 1) Tryz.underlying163 rfl Tryz.sizeOf3 rfl rfl rfl) ?_
  refine qq hS (g_ldO1 0 Tryz.isAgg3 rfl rfl rfl) ?_
  refine qq hS (g_eql rfl rfl) ?_
  refine qq hS (g_movev (v := .bool _) rfl) ?_
  refine qu rfl rfl hS (fun hg => (g_fieldAddr (o' := 3) Tryz.underlying163 rfl Tryz.sizeOf5 rfl rfl rfl)) ?_
  intro u9 hu9 hn9
  refine qu rfl rfl hS (fun hg => (g_ldO1 0 Tryz.isAgg5 rfl (hu9 hg) rfl)) ?_
  intro u10 hu10 hn10
  refine qu rfl rfl hS (fun hg => (g_eql (hu10 hg) rfl)) ?_
  intro u11 hu11 hn11
  refine qq hS (g_and rfl rfl (fun hq => hu11 hq)) ?_
  refine qq hS (g_movev (v := .bool _) rfl) ?_
  refine qu rfl rfl hS (fun hg => (g_fieldAddr (o' := 4) Tryz.underlying163 rfl Tryz.sizeOf22 rfl rfl rfl)) ?_
  intro u14 hu14 hn14
  refine qu rfl rfl hS (fun hg => (g_ldO1 0 Tryz.isAgg22 rfl (hu14 hg) rfl)) ?_
  intro u15 hu15 hn15
  refine qu rfl rfl hS (fun hg => (g_lenI rfl Tryz.underlying22 hd (hu15 hg))) ?_
  intro u16 hu16 hn16
  refine qu rfl rfl hS (fun hg => (g_fieldAddr (o' := 2) Tryz.underlying163 rfl Tryz.sizeOf3 rfl rfl rfl)) ?_
  intro u17 hu17 hn17
  refine qu rfl rfl hS (fun hg => (g_ldO1 0 Tryz.isAgg3 rfl (hu17 hg) rfl)) ?_
  intro u18 hu18 hn18
  refine qu rfl rfl hS (fun hg => (g_eql (hu16 hg) (hu18 hg))) ?_
  intro u19 hu19 hn19
  refine qq hS (g_and rfl rfl (fun hq => hu19 hq)) ?_
  refine qq hS (g_assignv (v := .bool _) rfl) ?_
  refine ol_nil (thenN ?_)
  refine wpIn_ret ?_
  refine ret1 Tryz.results189 (rv_tmp (v := .bool _) rfl) ?_
  exact ⟨rfl, hS.nil⟩

theorem copying_symbol (x : OpL) (ad : Option Addr) (m cap : Nat) (n : Int) (w0 : World) (I0 : Imm) (hI : Sat I0 w0) (hd : RBytes I0 (.slice ad m cap) x.data) (hx : x.wf) (hn : Mid n) :
    Ctr Tryz.prog 180 [opV x ad m cap, .int .i64 n] w0 (fun v w' => v = symV ⟨true, x.from_ + n, 0⟩ ∧ Ext w0 I0 w' I0) := by
  obtain ⟨⟨k1, k2⟩, ⟨f1, f2⟩, ⟨l1, l2⟩, ⟨b1, b2⟩, hdat⟩ := hx
  obtain ⟨n1, n2⟩ := hn
  refine fn (n := 10) Tryz.func180 rfl rfl rfl ?_
  have hS := St.start hI
  refine wpIn_seq ?_
  refine reg ?_
  refine qe (d_box (cs := [.int .i64 _, .int .i64 _, .int .i64 _, .int .u8 _, .slice _ _ _]) hS rfl) ?_
  clear hS
  rintro _ w_1 ⟨b_1, rfl, hS⟩
  refine qe (d_alloc (cs := [.bool _, .int .i64 _, .int .u8 _]) hS Tryz.zeroValue85 rfl) ?_
  clear hS
  rintro _ w_2 ⟨b_2, rfl, hS⟩
  refine ol_nil (thenN ?_)
  refine wpIn_seq ?_
  refine reg ?_
  refine qq hS (g_fieldAddr (o' := 1) Tryz.underlying160 rfl Tryz.sizeOf3 rfl rfl rfl) ?_
  refine qq hS (g_ldO1 1 Tryz.isAgg3 rfl rfl rfl) ?_
  refine qq hS (g_movev (v := .int .i64 _) rfl) ?_
  refine qq hS (g_add rfl rfl (by omega) (by omega)) ?_
  refine qq hS (g_buildv (pl := [(0, 1), (1, 1), (2, 1)]) (cs := [.bool _, .int .i64 _, .int .u8 _]) Tryz.zeroValue85 Tryz.underlying85 (fun w => by simp [Tryz.sizeOf3, Tryz.sizeOf4, Tryz.sizeOf5]) (mp (v := .bool _) rfl (mp (v := .int .i64 _) rfl mp0)) rfl) ?_
  refine qe (d_store 0 hS Tryz.sizeOf85 rfl rfl rfl (vs := [.bool _, .int .i64 _, .int .u8 _]) rfl rfl rfl (Nat.le_of_ble_eq_true rfl) (cs' := [_, _, _]) rfl) ?_
  clear hS
  rintro _ w_3 ⟨rfl, hS⟩
  refine ol_nil (thenN ?_)
  refine wpIn_ret ?_
  refine ret1 Tryz.results180 (rv_cel 0 hS Tryz.sizeOf85 Tryz.isAgg85 rfl rfl rfl) ?_
  exact ⟨rfl, hS.nil⟩

theorem differing_symbol (x : OpL) (ad : Option Addr) (m cap : Nat) (n : Int) (w0 : World) (I0 : Imm) (hI : Sat I0 w0) (hd : RBytes I0 (.slice ad m cap) x.data) (hx : x.wf) (hn : Mid n) (h0 : 0 ≤ n) (h1 : n < x.data.length) :
    Ctr Tryz.prog 184 [opV x ad m cap, .int .i64 n] w0 (fun v w' => v = symV ⟨true, x.from_ + n, x.data.getD n.toNat 0⟩ ∧ Ext w0 I0 w' I0) := by
  obtain ⟨⟨k1, k2⟩, ⟨f1, f2⟩, ⟨l1, l2⟩, ⟨b1, b2⟩, hdat⟩ := hx
  obtain ⟨n1, n2⟩ := hn
  obtain ⟨y, hy⟩ : ∃ y, x.data[n.toNat]? = some y := ⟨_, List.getElem?_eq_getElem (by omega)⟩
  have hya := hd.at hy
  have hyd : x.data.getD n.toNat 0 = y := by rw [List.getD_eq_getElem?_getD, hy]; rfl
  rw [hyd]
  refine fn (n := 15) Tryz.func184 rfl rfl rfl ?_
  have hS := St.start hI
  refine wpIn_seq ?_
  refine reg ?_
  refine qe (d_box (cs := [.int .i64 _, .int .i64 _, .int .i64 _, .int .u8 _, .slice _ _ _]) hS rfl) ?_
  clear hS
  rintro _ w_1 ⟨b_1, rfl, hS⟩
  refine qe (d_alloc (cs := [.bool _, .int .i64 _, .int .u8 _]) hS Tryz.zeroValue85 rfl) ?_
  clear hS
  rintro _ w_2 ⟨b_2, rfl, hS⟩
  refine ol_nil (thenN ?_)
  refine wpIn_seq ?_
  refine draw (.cons 0 .pure (.cons 1 .held (.cons 2 .pure (.cons 3 .pure (.cons 4 .pure (.cons 5 .held (.cons 6 .pure (.cons 7 .pure (.cons 8 .held (.cons 9 .pure (.cons 10 .bar .nil))))))))))) mixed (by kernel_rfl) hS ?_
  intro w_3 hS
  refine sp rfl (g_fieldAddr (o' := 1) Tryz.underlying161 rfl Tryz.sizeOf3 rfl rfl rfl) ?_
  refine sh rfl (g_ldO1 1 Tryz.isAgg3 rfl rfl rfl) ?_
  refine sp rfl (g_movev (v := .int .i64 _) rfl) ?_
  refine sp rfl (g_add rfl rfl (by omega) (by omega)) ?_
  refine sp rfl (g_fieldAddr (o' := 4) Tryz.underlying161 rfl Tryz.sizeOf22 rfl rfl rfl) ?_
  refine sh rfl (g_ldO1 1 Tryz.isAgg22 rfl rfl rfl) ?_
  refine sp rfl (g_movev (v := .int .i64 _) rfl) ?_
  refine sp rfl (g_ixI Tryz.underlying22 Tryz.sizeOf5 hd rfl rfl (by omega) (by omega)) ?_
  refine sh rfl (g_ldE1 Tryz.isAgg5 hya rfl rfl) ?_
  refine sp rfl (g_buildv (pl := [(0, 1), (1, 1), (2, 1)]) (cs := [.bool _, .int .i64 _, .int .u8 _]) Tryz.zeroValue85 Tryz.underlying85 (fun w => by simp [Tryz.sizeOf3, Tryz.sizeOf4, Tryz.sizeOf5]) (mp (v := .bool _) rfl (mp (v := .int .i64 _) rfl (mp (v := .int .u8 _) rfl mp0))) rfl) ?_
  refine sb rfl (d_store 0 hS Tryz.sizeOf85 rfl rfl rfl (vs := [.bool _, .int .i64 _, .int .u8 _]) rfl rfl rfl (Nat.le_of_ble_eq_true rfl) (cs' := [_, _, _]) rfl) ?_
  rintro _ w_4 ⟨rfl, hS⟩
  refine ⟨_, _, hS, ?_⟩
  refine sn (thenN ?_)
  refine wpIn_ret ?_
  refine ret1 Tryz.results184 (rv_cel 0 hS Tryz.sizeOf85 Tryz.isAgg85 rfl rfl rfl) ?_
  exact ⟨rfl, hS.nil⟩

theorem running_symbol (x : OpL) (ad : Option Addr) (m cap : Nat) (n : Int) (w0 : World) (I0 : Imm) (hI : Sat I0 w0) (hd : RBytes I0 (.slice ad m cap) x.data) (hx : x.wf) (hn : Mid n) :
    Ctr Tryz.prog 187 [opV x ad m cap, .int .i64 n] w0 (fun v w' => v = symV ⟨false, 0, x.b⟩ ∧ Ext w0 I0 w' I0) := by
  obtain ⟨⟨k1, k2⟩, ⟨f1, f2⟩, ⟨l1, l2⟩, ⟨b1, b2⟩, hdat⟩ := hx
  obtain ⟨n1, n2⟩ := hn
  refine fn (n := 8) Tryz.func187 rfl rfl rfl ?_
  have hS := St.start hI
  refine wpIn_seq ?_
  refine reg ?_
  refine qe (d_box (cs := [.int .i64 _, .int .i64 _, .int .i64 _, .int .u8 _, .slice _ _ _]) hS rfl) ?_
  clear hS
  rintro _ w_1 ⟨b_1, rfl, hS⟩
  refine qe (d_alloc (cs := [.bool _, .int .i64 _, .int .u8 _]) hS Tryz.zeroValue85 rfl) ?_
  clear hS
  rintro _ w_2 ⟨b_2, rfl, hS⟩
  refine ol_nil (thenN ?_)
  refine wpIn_seq ?_
  refine reg ?_
  refine qq hS (g_fieldAddr (o' := 3) Tryz.underlying162 rfl Tryz.sizeOf5 rfl rfl rfl) ?_
  refine qq hS (g_ldO1 1 Tryz.isAgg5 rfl rfl rfl) ?_
  refine qq hS (g_buildv (pl := [(0, 1), (1, 1), (2, 1)]) (cs := [.bool _, .int .i64 _, .int .u8 _]) Tryz.zeroValue85 Tryz.underlying85 (fun w => by simp [Tryz.sizeOf3, Tryz.sizeOf4, Tryz.sizeOf5]) (mp (v := .int .u8 _) rfl mp0) rfl) ?_
  refine qe (d_store 0 hS Tryz.sizeOf85 rfl rfl rfl (vs := [.bool _, .int .i64 _, .int .u8 _]) rfl rfl rfl (Nat.le_of_ble_eq_true rfl) (cs' := [_, _, _]) rfl) ?_
  clear hS
  rintro _ w_3 ⟨rfl, hS⟩
  refine ol_nil (thenN ?_)
  refine wpIn_ret ?_
  refine ret1 Tryz.results187 (rv_cel 0 hS Tryz.sizeOf85 Tryz.isAgg85 rfl rfl rfl) ?_
  exact ⟨rfl, hS.nil⟩

theorem literal_symbol (x : OpL) (ad : Option Addr) (m cap : Nat) (n : Int) (w0 : World) (I0 : Imm) (hI : Sat I0 w0) (hd : RBytes I0 (.slice ad m cap) x.data) (hx : x.wf) (hn : Mid n) (h0 : 0 ≤ n) (h1 : n < x.data.length) :
    Ctr Tryz.prog 190 [opV x ad m cap, .int .i64 n] w0 (fun v w' => v = symV ⟨false, 0, x.data.getD n.toNat 0⟩ ∧ Ext w0 I0 w' I0) := by
  obtain ⟨⟨k1, k2⟩, ⟨f1, f2⟩, ⟨l1, l2⟩, ⟨b1, b2⟩, hdat⟩ := hx
  obtain ⟨n1, n2⟩ := hn
  obtain ⟨y, hy⟩ : ∃ y, x.data[n.toNat]? = some y := ⟨_, List.getElem?_eq_getElem (by omega)⟩
  have hya := hd.at hy
  have hyd : x.data.getD n.toNat 0 = y := by rw [List.getD_eq_getElem?_getD, hy]; rfl
  rw [hyd]
  refine fn (n := 11) Tryz.func190 rfl rfl rfl ?_
  have hS := St.start hI
  refine wpIn_seq ?_
  refine reg ?_
  refine qe (d_box (cs := [.int .i64 _, .int .i64 _, .int .i64 _, .int .u8 _, .slice _ _ _]) hS rfl) ?_
  clear hS
  rintro _ w_1 ⟨b_1, rfl, hS⟩
  refine qe (d_alloc (cs := [.bool _, .int .i64 _, .int .u8 _]) hS Tryz.zeroValue85 rfl) ?_
  clear hS
  rintro _ w_2 ⟨b_2, rfl, hS⟩
  refine ol_nil (thenN ?_)
  refine wpIn_seq ?_
  refine reg ?_
  refine qq hS (g_fieldAddr (o' := 4) Tryz.underlying163 rfl Tryz.sizeOf22 rfl rfl rfl) ?_
  refine qq hS (g_ldO1 1 Tryz.isAgg22 rfl rfl rfl) ?_
  refine qq hS (g_movev (v := .int .i64 _) rfl) ?_
  refine qq hS (g_ixI Tryz.underlying22 Tryz.sizeOf5 hd rfl rfl (by omega) (by omega)) ?_
  refine qq hS (g_ldE1 Tryz.isAgg5 hya rfl rfl) ?_
  refine qq hS (g_buildv (pl := [(0, 1), (1, 1), (2, 1)]) (cs := [.bool _, .int .i64 _, .int .u8 _]) Tryz.zeroValue85 Tryz.underlying85 (fun w => by simp [Tryz.sizeOf3, Tryz.sizeOf4, Tryz.sizeOf5]) (mp (v := .int .u8 _) rfl mp0) rfl) ?_
  refine qe (d_store 0 hS Tryz.sizeOf85 rfl rfl rfl (vs := [.bool _, .int .i64 _, .int .u8 _]) rfl rfl rfl (Nat.le_of_ble_eq_true rfl) (cs' := [_, _, _]) rfl) ?_
  clear hS
  rintro _ w_3 ⟨rfl, hS⟩
  refine ol_nil (thenN ?_)
  refine wpIn_ret ?_
  refine ret1 Tryz.results190 (rv_cel 0 hS Tryz.sizeOf85 Tryz.isAgg85 rfl rfl rfl) ?_
  exact ⟨rfl, hS.nil⟩

theorem unknown_right (n : Int) (w0 : World) (I0 : Imm) (hI : Sat I0 w0) : Ctr Tryz.prog 192 [.agg #[], .int .i64 n] w0 (fun v w' => v = .bool false ∧ Ext w0 I0 w' I0) := by
  refine fn (n := 5) Tryz.func192 rfl rfl rfl ?_
  have hS := St.start hI
  refine wpIn_seq ?_
  refine reg ?_
  refine qe (d_box (cs := []) hS rfl) ?_
  clear hS
  rintro _ w_1 ⟨b_1, rfl, hS⟩
  refine qq hS (g_assignv (v := .bool _) rfl) ?_
  refine ol_nil (thenN ?_)
  refine wpIn_seq ?_
  refine reg ?_
  refine qq hS (g_assignv (v := .bool _) rfl) ?_
  refine ol_nil (thenN ?_)
  refine wpIn_ret ?_
  refine ret1 Tryz.results192 (rv_tmp (v := .bool _) rfl) ?_
  exact ⟨rfl, hS.nil⟩

theorem of_c (x : OpL) (ad : Option Addr) (m cap : Nat) (w0 : World) (I0 : Imm) (hI : Sat I0 w0) (hd : RBytes I0 (.slice ad m cap) x.data) (hx : x.wf) :
    Ctr Tryz.prog 40 [opV x ad m cap] w0 (fun v w' => v = ofV x (opV x ad m cap) ∧ Ext w0 I0 w' I0) := by
  refine fn (n := 23) Tryz.func40 rfl rfl rfl ?_
  have hS := St.start hI
  refine wpIn_seq ?_
  refine reg ?_
  refine qe (d_box (cs := [.int .i64 _, .int .i64 _, .int .i64 _, .int .u8 _, .slice _ _ _]) hS rfl) ?_
  clear hS
  rintro _ w_1 ⟨b_1, rfl, hS⟩
  refine qq hS (g_assign _) ?_
  refine ol_nil (thenN ?_)
  refine wpIn_seq ?_
  refine wpIn_seq ?_
  refine reg ?_
  refine qq hS (g_fieldAddr (o' := 0) Tryz.underlying62 rfl Tryz.sizeOf3 rfl rfl rfl) ?_
  refine qq hS (g_ldO1 0 Tryz.isAgg3 rfl rfl rfl) ?_
  refine ol_nil (thenN ?_)
  refine wpIn_block ?_
  refine wpIn_seq ?_
  refine reg ?_
  refine qq hS (g_eql rfl rfl) ?_
  refine qq hS (g_assignv (v := .bool _) rfl) ?_
  refine ol_nil (thenN ?_)
  refine cond_s rfl ?_ ?_
  ·
    intro hc5
    simp only [decide_eq_true_eq, decide_eq_false_iff_not] at hc5
    refine wpIn_seq ?_
    refine reg ?_
    refine qq hS (g_ldO 0 (vs := [.int .i64 _, .int .i64 _, .int .i64 _, .int .u8 _, .slice _ _ _]) Tryz.sizeOf62 Tryz.isAgg62 rfl rfl rfl rfl) ?_
    refine qq hS (g_makeIface Tryz.underlying160 rfl) ?_
    refine qq hS (g_assign _) ?_
    refine ol_nil (thenN ?_)
    refine wpIn_ret ?_
    refine blkR (thenR ?_)
    refine ret1 Tryz.results40 (rv_tmp rfl) ?_
    refine ⟨?_, hS.nil⟩; unfold ofV; first | (rw [if_pos hc5]; rfl) | (rw [if_neg hc5, if_pos hc9]; rfl) | (rw [if_neg hc5, if_neg hc9, if_pos hc13]; rfl) | (rw [if_neg hc5, if_neg hc9, if_neg hc13, if_pos hc17]; rfl) | (rw [if_neg hc5, if_neg hc9, if_neg hc13, if_neg hc17]; rfl)
  ·
    intro hc5
    simp only [decide_eq_true_eq, decide_eq_false_iff_not] at hc5
    refine wpIn_seq ?_
    refine reg ?_
    refine qq hS (g_eql rfl rfl) ?_
    refine qq hS (g_assignv (v := .bool _) rfl) ?_
    refine ol_nil (thenN ?_)
    refine cond_s rfl ?_ ?_
    ·
      intro hc9
      simp only [decide_eq_true_eq, decide_eq_false_iff_not] at hc9
      refine wpIn_seq ?_
      refine reg ?_
      refine qq hS (g_ldO 0 (vs := [.int .i64 _, .int .i64 _, .int .i64 _, .int .u8 _, .slice _ _ _]) Tryz.sizeOf62 Tryz.isAgg62 rfl rfl rfl rfl) ?_
      refine qq hS (g_makeIface Tryz.underlying161 rfl) ?_
      refine qq hS (g_assign _) ?_
      refine ol_nil (thenN ?_)
      refine wpIn_ret ?_
      refine blkR (thenR ?_)
      refine ret1 Tryz.results40 (rv_tmp rfl) ?_
      refine ⟨?_, hS.nil⟩; unfold ofV; first | (rw [if_pos hc5]; rfl) | (rw [if_neg hc5, if_pos hc9]; rfl) | (rw [if_neg hc5, if_neg hc9, if_pos hc13]; rfl) | (rw [if_neg hc5, if_neg hc9, if_neg hc13, if_pos hc17]; rfl) | (rw [if_neg hc5, if_neg hc9, if_neg hc13, if_neg hc17]; rfl)
    ·
      intro hc9
      simp only [decide_eq_true_eq, decide_eq_false_iff_not] at hc9
      refine wpIn_seq ?_
      refine reg ?_
      refine qq hS (g_eql rfl rfl) ?_
      refine qq hS (g_assignv (v := .bool _) rfl) ?_
      refine ol_nil (thenN ?_)
      refine cond_s rfl ?_ ?_
      ·
        intro hc13
        simp only [decide_eq_true_eq, decide_eq_false_iff_not] at hc13
        refine wpIn_seq ?_
        refine reg ?_
        refine qq hS (g_ldO 0 (vs := [.int .i64 _, .int .i64 _, .int .i64 _, .int .u8 _, .slice _ _ _]) Tryz.sizeOf62 Tryz.isAgg62 rfl rfl rfl rfl) ?_
        refine qq hS (g_makeIface Tryz.underlying162 rfl) ?_
        refine qq hS (g_assign _) ?_
        refine ol_nil (thenN ?_)
        refine wpIn_ret ?_
        refine blkR (thenR ?_)
        refine ret1 Tryz.results40 (rv_tmp rfl) ?_
        refine ⟨?_, hS.nil⟩; unfold ofV; first | (rw [if_pos hc5]; rfl) | (rw [if_neg hc5, if_pos hc9]; rfl) | (rw [if_neg hc5, if_neg hc9, if_pos hc13]; rfl) | (rw [if_neg hc5, if_neg hc9, if_neg hc13, if_pos hc17]; rfl) | (rw [if_neg hc5, if_neg hc9, if_neg hc13, if_neg hc17]; rfl)
      ·
        intro hc13
        simp only [decide_eq_true_eq, decide_eq_false_iff_not] at hc13
        refine wpIn_seq ?_
        refine reg ?_
        refine qq hS (g_eql rfl rfl) ?_
        refine qq hS (g_assignv (v := .bool _) rfl) ?_
        refine ol_nil (thenN ?_)
        refine cond_s rfl ?_ ?_
        ·
          intro hc17
          simp only [decide_eq_true_eq, decide_eq_false_iff_not] at hc17
          refine wpIn_seq ?_
          refine reg ?_
          refine qq hS (g_ldO 0 (vs := [.int .i64 _, .int .i64 _, .int .i64 _, .int .u8 _, .slice _ _ _]) Tryz.sizeOf62 Tryz.isAgg62 rfl rfl rfl rfl) ?_
          refine qq hS (g_makeIface Tryz.underlying163 rfl) ?_
          refine qq hS (g_assign _) ?_
          refine ol_nil (thenN ?_)
          refine wpIn_ret ?_
          refine blkR (thenR ?_)
          refine ret1 Tryz.results40 (rv_tmp rfl) ?_
          refine ⟨?_, hS.nil⟩; unfold ofV; first | (rw [if_pos hc5]; rfl) | (rw [if_neg hc5, if_pos hc9]; rfl) | (rw [if_neg hc5, if_neg hc9, if_pos hc13]; rfl) | (rw [if_neg hc5, if_neg hc9, if_neg hc13, if_pos hc17]; rfl) | (rw [if_neg hc5, if_neg hc9, if_neg hc13, if_neg hc17]; rfl)
        ·
          intro hc17
          simp only [decide_eq_true_eq, decide_eq_false_iff_not] at hc17
          refine wpIn_skip ?_
          refine blkN (thenN ?_)
          refine wpIn_seq ?_
          refine reg ?_
          refine qq hS (g_buildv (pl := []) (cs := []) Tryz.zeroValue165 Tryz.underlying165 (fun w => by simp []) mp0 rfl) ?_
          refine qq hS (g_makeIface Tryz.underlying165 rfl) ?_
          refine qq hS (g_assign _) ?_
          refine ol_nil (thenN ?_)
          refine wpIn_ret ?_
          refine ret1 Tryz.results40 (rv_tmp rfl) ?_
          refine ⟨?_, hS.nil⟩; unfold ofV; first | (rw [if_pos hc5]; rfl) | (rw [if_neg hc5, if_pos hc9]; rfl) | (rw [if_neg hc5, if_neg hc9, if_pos hc13]; rfl) | (rw [if_neg hc5, if_neg hc9, if_neg hc13, if_pos hc17]; rfl) | (rw [if_neg hc5, if_neg hc9, if_neg hc13, if_neg hc17]; rfl)

end Go.Proofs.YtaklmbhfmpdinaaGreatDoor


namespace Go.Proofs.YtaklmbhfmpdinaaGreatDoor
open Go Go.RowKit Go.Inl
set_option linter.unusedSimpArgs false
set_option linter.unusedVariables false

theorem m_copying_right (v : Value) (w : World) : (method (Tryz.prog.types.size + Made.depth) 160 v "inlay/patch.right").run Tryz.prog w = .ok (179, v) w := by kernel_rfl
theorem m_differing_right (v : Value) (w : World) : (method (Tryz.prog.types.size + Made.depth) 161 v "inlay/patch.right").run Tryz.prog w = .ok (183, v) w := by kernel_rfl
theorem m_running_right (v : Value) (w : World) : (method (Tryz.prog.types.size + Made.depth) 162 v "inlay/patch.right").run Tryz.prog w = .ok (186, v) w := by kernel_rfl
theorem m_literal_right (v : Value) (w : World) : (method (Tryz.prog.types.size + Made.depth) 163 v "inlay/patch.right").run Tryz.prog w = .ok (189, v) w := by kernel_rfl
theorem m_unknownOne_right (v : Value) (w : World) : (method (Tryz.prog.types.size + Made.depth) 165 v "inlay/patch.right").run Tryz.prog w = .ok (192, v) w := by kernel_rfl
theorem m_copying_symbol (v : Value) (w : World) : (method (Tryz.prog.types.size + Made.depth) 160 v "inlay/patch.symbol").run Tryz.prog w = .ok (180, v) w := by kernel_rfl
theorem m_differing_symbol (v : Value) (w : World) : (method (Tryz.prog.types.size + Made.depth) 161 v "inlay/patch.symbol").run Tryz.prog w = .ok (184, v) w := by kernel_rfl
theorem m_running_symbol (v : Value) (w : World) : (method (Tryz.prog.types.size + Made.depth) 162 v "inlay/patch.symbol").run Tryz.prog w = .ok (187, v) w := by kernel_rfl
theorem m_literal_symbol (v : Value) (w : World) : (method (Tryz.prog.types.size + Made.depth) 163 v "inlay/patch.symbol").run Tryz.prog w = .ok (190, v) w := by kernel_rfl

theorem does_right {n : Nat} {σ : Nat → Value} {ty : TypeId} {aT : Array TypeId} {r y : Operand} {w : World} {I : Imm} (x : OpL) (ad : Option Addr) (m cap : Nat) (size : Int) (hI : Sat I w) (hd : RBytes I (.slice ad m cap) x.data) (hx : x.wf) (hn : Mid size) (hr : ev n σ r = ofV x (opV x ad m cap)) (hy : ev n σ y = .int .i64 size) :
    Does Tryz.prog (ev n σ) (.call { callee := .invoke r "inlay/patch.right", args := [y].toArray, argTypes := aT }) ty w (fun v w' => v = .bool (rightP x size) ∧ Ext w I w' I) := by
  unfold ofV at hr
  unfold rightP
  have ha : List.map (ev n σ) [y] = [.int .i64 size] := ml hy ml0
  by_cases h1 : x.kind = 1
  · rw [if_pos h1] at hr ⊢
    exact d_invoke hr (m_copying_right _) Tryz.call179 ha (copying_right x ad m cap size w I hI hd hx hn)
  rw [if_neg h1] at hr ⊢
  by_cases h2 : x.kind = 2
  · rw [if_pos h2] at hr ⊢
    exact d_invoke hr (m_differing_right _) Tryz.call183 ha (differing_right x ad m cap size w I hI hd hx hn)
  rw [if_neg h2] at hr ⊢
  by_cases h3 : x.kind = 3
  · rw [if_pos h3] at hr ⊢
    exact d_invoke hr (m_running_right _) Tryz.call186 ha (running_right x ad m cap size w I hI hd hx hn)
  rw [if_neg h3] at hr ⊢
  by_cases h4 : x.kind = 4
  · rw [if_pos h4] at hr ⊢
    exact d_invoke hr (m_literal_right _) Tryz.call189 ha (literal_right x ad m cap size w I hI hd hx hn)
  rw [if_neg h4] at hr ⊢
  exact d_invoke hr (m_unknownOne_right _) Tryz.call192 ha (unknown_right size w I hI)

theorem does_symbol {n : Nat} {σ : Nat → Value} {ty : TypeId} {aT : Array TypeId} {r y : Operand} {w : World} {I : Imm} (x : OpL) (ad : Option Addr) (m cap : Nat) (i : Int) (hI : Sat I w) (hd : RBytes I (.slice ad m cap) x.data) (hx : x.wf) (hn : Mid i) (h0 : 0 ≤ i) (hlt : i < x.len) {size : Int} (hok : rightP x size = true) (hr : ev n σ r = ofV x (opV x ad m cap)) (hy : ev n σ y = .int .i64 i) :
    Does Tryz.prog (ev n σ) (.call { callee := .invoke r "inlay/patch.symbol", args := [y].toArray, argTypes := aT }) ty w (fun v w' => v = symV (symS x i) ∧ Ext w I w' I) := by
  unfold ofV at hr
  unfold symS
  unfold rightP at hok
  have ha : List.map (ev n σ) [y] = [.int .i64 i] := ml hy ml0
  by_cases h1 : x.kind = 1
  · rw [if_pos h1] at hr ⊢
    exact d_invoke hr (m_copying_symbol _) Tryz.call180 ha (copying_symbol x ad m cap i w I hI hd hx hn)
  rw [if_neg h1] at hr hok ⊢
  by_cases h2 : x.kind = 2
  · rw [if_pos h2] at hr hok ⊢
    simp only [Bool.and_eq_true, decide_eq_true_eq] at hok
    exact d_invoke hr (m_differing_symbol _) Tryz.call184 ha (differing_symbol x ad m cap i w I hI hd hx hn h0 (by omega))
  rw [if_neg h2] at hr hok ⊢
  by_cases h3 : x.kind = 3
  · rw [if_pos h3] at hr ⊢
    exact d_invoke hr (m_running_symbol _) Tryz.call187 ha (running_symbol x ad m cap i w I hI hd hx hn)
  rw [if_neg h3] at hr hok ⊢
  by_cases h4 : x.kind = 4
  · rw [if_pos h4] at hr hok ⊢
    simp only [Bool.and_eq_true, decide_eq_true_eq] at hok
    exact d_invoke hr (m_literal_symbol _) Tryz.call190 ha (literal_symbol x ad m cap i w I hI hd hx hn h0 (by omega))
  rw [if_neg h4] at hok
  cases hok

set_option maxHeartbeats 1000000 in
theorem check_c (p : PatL) (ad : Option Addr) (m cap : Nat) (w0 : World) (I0 : Imm) (hI : Sat I0 w0) (hops : ROps I0 (.slice ad m cap) p.ops) (hp : p.wf) :
    Ctr Tryz.prog 47 [.agg #[.bool p.lifted, .int .i64 p.in_, .int .i64 p.out, .slice ad m cap]] w0 (fun v w' => v = .tuple #[.int .i64 (checkP p).1, .int .i64 (checkP p).2] ∧ Ext w0 I0 w' I0) := by
  refine fn (n := 68) Tryz.func47 rfl rfl rfl ?_
  have hS := St.start hI
  refine wpIn_seq ?_
  refine reg ?_
  refine qe (d_box (cs := [.bool _, .int .i64 _, .int .i64 _, .slice _ _ _]) hS rfl) ?_
  clear hS
  rintro _ w_1 ⟨b1, rfl, hS⟩
  refine qq hS (g_assignv (v := .int .i64 _) rfl) ?_
  refine qq hS (g_assignv (v := .int .i64 _) rfl) ?_
  refine ol_nil (thenN ?_)
  refine wpIn_seq ?_
  refine wpIn_seq ?_
  refine reg ?_
  refine qq hS (g_fieldAddr (o' := 1) Tryz.underlying26 rfl Tryz.sizeOf3 rfl rfl rfl) ?_
  refine qq hS (g_ldO1 0 Tryz.isAgg3 rfl rfl rfl) ?_
  refine qq hS (g_fieldAddr (o' := 2) Tryz.underlying26 rfl Tryz.sizeOf3 rfl rfl rfl) ?_
  refine qq hS (g_ldO1 0 Tryz.isAgg3 rfl rfl rfl) ?_
  refine qq hS (g_min rfl rfl) ?_
  refine qq hS (g_lss rfl rfl) ?_
  refine qq hS (g_movev (v := .bool _) rfl) ?_
  refine qu rfl rfl hS (fun hg => (g_fieldAddr (o' := 1) Tryz.underlying26 rfl Tryz.sizeOf3 rfl rfl rfl)) ?_
  intro u14 hu14 hn14
  refine qu rfl rfl hS (fun hg => (g_ldO1 0 Tryz.isAgg3 rfl (hu14 hg) rfl)) ?_
  intro u15 hu15 hn15
  refine qu rfl rfl hS (fun hg => (g_fieldAddr (o' := 2) Tryz.underlying26 rfl Tryz.sizeOf3 rfl rfl rfl)) ?_
  intro u16 hu16 hn16
  refine qu rfl rfl hS (fun hg => (g_ldO1 0 Tryz.isAgg3 rfl (hu16 hg) rfl)) ?_
  intro u17 hu17 hn17
  refine qu rfl rfl hS (fun hg => (g_max (hu15 hg) (hu17 hg))) ?_
  intro u18 hu18 hn18
  refine qu rfl rfl hS (fun hg => (g_gtr (hu18 hg) rfl)) ?_
  intro u19 hu19 hn19
  refine qq hS (g_or rfl rfl (fun hq => hu19 hq)) ?_
  refine qq hS (g_movev (v := .bool _) rfl) ?_
  refine qu rfl rfl hS (fun hg => (g_fieldAddr (o' := 3) Tryz.underlying26 rfl Tryz.sizeOf24 rfl rfl rfl)) ?_
  intro u22 hu22 hn22
  refine qu rfl rfl hS (fun hg => (g_ldO1 0 Tryz.isAgg24 rfl (hu22 hg) rfl)) ?_
  intro u23 hu23 hn23
  refine qu rfl rfl hS (fun hg => (g_lenI rfl Tryz.underlying24 hops (hu23 hg))) ?_
  intro u24 hu24 hn24
  refine qu rfl rfl hS (fun hg => (g_gtr (hu24 hg) rfl)) ?_
  intro u25 hu25 hn25
  refine qq hS (g_or rfl rfl (fun hq => hu25 hq)) ?_
  refine ol_nil (thenN ?_)
  refine cond_s rfl ?_ ?_
  ·
    intro hc26
    clear hu14 hn14 hu15 hn15 hu16 hn16 hu17 hn17 hu18 hn18 hu19 hn19 hu22 hn22 hu23 hn23 hu24 hn24 hu25 hn25
    have e : checkP p = (-1, 60) := by unfold checkP; rw [if_pos]; exact hc26
    refine wpIn_seq ?_
    refine reg ?_
    refine qq hS (g_assignv (v := .int .i64 _) rfl) ?_
    refine qq hS (g_assignv (v := .int .i64 _) rfl) ?_
    refine ol_nil (thenN ?_)
    refine wpIn_ret ?_
    refine thenR ?_
    refine ret2 Tryz.results47 (rv_tmp (v := .int .i64 _) rfl) (rv_tmp (v := .int .i64 _) rfl) ?_
    rw [e]; exact ⟨rfl, hS.nil⟩
  ·
    intro hc26
    clear hu14 hn14 hu15 hn15 hu16 hn16 hu17 hn17 hu18 hn18 hu19 hn19 hu22 hn22 hu23 hn23 hu24 hn24 hu25 hn25
    have hbad : badP p = false := hc26
    have e0 : checkP p = checkGo p.in_ p.ops p.out 0 := by unfold checkP; rw [if_neg (by rw [hbad]; decide)]
    have hb := hbad
    simp only [badP, Bool.or_eq_false_iff, decide_eq_false_iff_not] at hb
    obtain ⟨⟨hb1, hb2⟩, hb3⟩ := hb
    have hb4 : 0 ≤ p.in_ ∧ 0 ≤ p.out ∧ p.in_ ≤ 65536 ∧ p.out ≤ 65536 := by split at hb1 <;> split at hb2 <;> omega
    obtain ⟨hb5, hb6, hb7, hb8⟩ := hb4
    refine wpIn_skip ?_
    refine thenN ?_
    refine wpIn_seq ?_
    refine reg ?_
    refine qq hS (g_fieldAddr (o' := 2) Tryz.underlying26 rfl Tryz.sizeOf3 rfl rfl rfl) ?_
    refine qq hS (g_ldO1 0 Tryz.isAgg3 rfl rfl rfl) ?_
    refine qq hS (g_assignv (v := .int .i64 _) rfl) ?_
    refine ol_nil (thenN ?_)
    refine wpIn_seq ?_
    refine wpIn_seq ?_
    refine reg ?_
    refine qq hS (g_fieldAddr (o' := 3) Tryz.underlying26 rfl Tryz.sizeOf24 rfl rfl rfl) ?_
    refine qq hS (g_ldO1 0 Tryz.isAgg24 rfl rfl rfl) ?_
    refine qq hS (g_lenI rfl Tryz.underlying24 hops rfl) ?_
    refine qq hS (g_movev (v := .int .i64 _) rfl) ?_
    refine ol_nil (thenN ?_)
    refine wpIn_block ?_
    refine loop (fun (x : Nat × Int) σ w => okS σ [(1, .pointer (some ⟨b1, 0, none⟩)), (4, .int .i64 x.2), (30, .slice ad m cap), (31, .int .i64 p.ops.length), (32, .int .i64 x.1)] ∧ St [] w0 I0 I0 w [.cel b1 26 [.bool p.lifted, .int .i64 p.in_, .int .i64 p.out, .slice ad m cap]] ∧ x.1 ≤ p.ops.length ∧ 0 ≤ x.2 ∧ x.2 ≤ 65536 ∧ checkGo p.in_ (p.ops.drop x.1) x.2 x.1 = checkGo p.in_ p.ops p.out 0) (fun x => p.ops.length - x.1) ((0, p.out)) ?_ ?_
    ·
      exact ⟨⟨rfl, rfl, rfl, rfl, rfl, trivial⟩, hS.sel [true], by simp, hb6, hb8, rfl⟩
    ·
      rintro ⟨k, left⟩ σ w_l ⟨hs, hS, hk0, hl0, hl1, hgo⟩
      dsimp only at hs hS hk0 hl0 hl1 hgo ⊢
      rw [← upds_self hs]; clear hs
      refine wpIn_seq ?_
      refine reg ?_
      refine qq hS (g_lss rfl rfl) ?_
      refine ol_nil (thenN ?_)
      refine wpIn_seq ?_
      refine cond_s rfl ?_ ?_
      ·
        intro hc33
        try simp only [Bool.and_eq_true, Bool.or_eq_true, Bool.not_eq_true', Bool.and_eq_false_imp, Bool.or_eq_false_iff, Bool.not_eq_false', decide_eq_true_eq, decide_eq_false_iff_not] at hc33
        obtain ⟨x, hx⟩ : ∃ x, p.ops[k]? = some x := ⟨_, List.getElem?_eq_getElem (by omega)⟩
        have hxw := hp.ops x (List.mem_of_getElem? hx)
        obtain ⟨lx1, lx2⟩ := hxw.len
        obtain ⟨cs, hcl, hoA, hro⟩ := RSl.at hops hx
        obtain ⟨adx, mx, capx, rfl, hd⟩ := hro
        rw [drop_cons hx] at hgo
        refine wpIn_skip ?_
        refine thenN ?_
        refine wpIn_seq ?_
        refine wpIn_block ?_
        refine wpIn_seq ?_
        refine reg ?_
        refine qq hS (g_movev (v := .int .i64 _) rfl) ?_
        refine qq hS (g_ixI Tryz.underlying24 Tryz.sizeOf62 hops rfl rfl (by omega) (by omega)) ?_
        refine qq hS (g_ldE (us := [.int .i64 _, .int .i64 _, .int .i64 _, .int .u8 _, .slice _ _ _]) Tryz.sizeOf62 Tryz.isAgg62 hoA rfl rfl rfl) ?_
        refine qe (d_alloc (cs := [.int .i64 _, .int .i64 _, .int .i64 _, .int .u8 _, .slice _ _ _]) hS Tryz.zeroValue62 rfl) ?_
        clear hS
        rintro _ w_2 ⟨b_2, rfl, hS⟩
        refine qq hS (g_assignv (v := .int .i64 _) rfl) ?_
        refine qe (d_store 0 hS Tryz.sizeOf62 rfl rfl rfl (vs := [.int .i64 _, .int .i64 _, .int .i64 _, .int .u8 _, .slice _ _ _]) rfl rfl rfl (Nat.le_of_ble_eq_true rfl) (cs' := [_, _, _, _, _]) rfl) ?_
        clear hS
        rintro _ w_3 ⟨rfl, hS⟩
        refine ol_nil (thenN ?_)
        refine wpIn_seq ?_
        refine wpIn_seq ?_
        refine draw (.cons 0 .pure (.cons 1 .held (.cons 2 .pure (.cons 3 .pure (.cons 4 .pure (.cons 5 .held (.cons 6 .pure (.cons 7 .pure (.cons 8 .pure (.cons 9 .pure (.cons 10 .held (.cons 12 .pure (.cons 13 .held (.cons 11 .eff (.cons 14 .eff (.cons 15 .pure (.cons 16 .pure .nil))))))))))))))))) mixed (by kernel_rfl) hS ?_
        intro w_4 hS
        refine sp rfl (g_fieldAddr (o' := 2) Tryz.underlying62 rfl Tryz.sizeOf3 rfl rfl rfl) ?_
        refine sh rfl (g_ldO1 0 Tryz.isAgg3 rfl rfl rfl) ?_
        refine sp rfl (g_lss rfl rfl) ?_
        refine sp rfl (g_movev (v := .bool _) rfl) ?_
        refine spu rfl rfl rfl (fun hg => (g_fieldAddr (o' := 2) Tryz.underlying62 rfl Tryz.sizeOf3 rfl rfl rfl)) ?_
        intro u41 hu41 hn41
        refine shu rfl rfl rfl (fun hg => (g_ldO1 0 Tryz.isAgg3 rfl (hu41 hg) rfl)) ?_
        intro u42 hu42 hn42
        refine spu rfl rfl rfl (fun hg => (g_movev (v := .int .i64 _) rfl)) ?_
        intro u43 hu43 hn43
        refine spu rfl rfl rfl (fun hg => (g_gtr (hu42 hg) (hu43 hg))) ?_
        intro u44 hu44 hn44
        refine sp rfl (g_or rfl rfl (fun hq => hu44 hq)) ?_
        refine sp rfl (g_movev (v := .bool _) rfl) ?_
        refine shu rfl rfl rfl (fun hg => (g_ldO 0 (vs := [.int .i64 _, .int .i64 _, .int .i64 _, .int .u8 _, .slice _ _ _]) Tryz.sizeOf62 Tryz.isAgg62 rfl rfl rfl rfl)) ?_
        intro u47 hu47 hn47
        refine spu rfl rfl rfl (fun hg => (g_fieldAddr (o' := 1) Tryz.underlying26 rfl Tryz.sizeOf3 rfl rfl rfl)) ?_
        intro u49 hu49 hn49
        refine shu rfl rfl rfl (fun hg => (g_ldO1 1 Tryz.isAgg3 rfl (hu49 hg) rfl)) ?_
        intro u50 hu50 hn50
        refine scu rfl rfl rfl hS (fun hg => (d_call Tryz.call40 (ml (hu47 hg) ml0) (of_c x adx mx capx _ I0 hS.imm hd hxw))) ?_
        intro w_6 u48 hS hu48 hn48
        refine scu rfl rfl rfl hS (fun hg => (does_right x adx mx capx p.in_ hS.imm hd hxw hp.in_ (hu48 hg) (hu50 hg))) ?_
        intro w_8 u51 hS hu51 hn51
        refine spu rfl rfl rfl (fun hg => (g_not (hu51 hg))) ?_
        intro u52 hu52 hn52
        refine sp rfl (g_or rfl rfl (fun hq => hu52 hq)) ?_
        refine sn (thenN ?_)
        refine cond_s rfl ?_ ?_
        ·
          intro hc53
          clear hu41 hn41 hu42 hn42 hu43 hn43 hu44 hn44 hu47 hn47 hu49 hn49 hu50 hn50 hu48 hn48 hu51 hn51 hu52 hn52
          have e : checkP p = (↑k, 60) := by rw [e0, ← hgo, checkGo_bad hc53]
          refine wpIn_seq ?_
          refine reg ?_
          refine qq hS (g_movev (v := .int .i64 _) rfl) ?_
          refine qq hS (g_assignv (v := .int .i64 _) rfl) ?_
          refine qq hS (g_assignv (v := .int .i64 _) rfl) ?_
          refine ol_nil (thenN ?_)
          refine wpIn_ret ?_
          refine thenR (blkR (thenR (thenR (blkR (thenR ?_)))))
          refine ret2 Tryz.results47 (rv_tmp (v := .int .i64 _) rfl) (rv_tmp (v := .int .i64 _) rfl) ?_
          rw [e]; exact ⟨rfl, hS.nil⟩
        ·
          intro hc53
          clear hu41 hn41 hu42 hn42 hu43 hn43 hu44 hn44 hu47 hn47 hu49 hn49 hu50 hn50 hu48 hn48 hu51 hn51 hu52 hn52
          rw [checkGo_good hc53] at hgo
          simp only [Bool.or_eq_false_iff, decide_eq_false_iff_not] at hc53
          obtain ⟨⟨hc1, hc2⟩, hc3⟩ := hc53
          refine wpIn_skip ?_
          refine thenN ?_
          refine reg ?_
          refine qq hS (g_movev (v := .int .i64 _) rfl) ?_
          refine qq hS (g_fieldAddr (o' := 2) Tryz.underlying62 rfl Tryz.sizeOf3 rfl rfl rfl) ?_
          refine qq hS (g_ldO1 0 Tryz.isAgg3 rfl rfl rfl) ?_
          refine qq hS (g_sub rfl rfl (by omega) (by omega)) ?_
          refine qq hS (g_assignv (v := .int .i64 _) rfl) ?_
          refine ol_nil (blkN (thenN ?_))
          refine reg ?_
          refine qq hS (g_add rfl rfl (by omega) (by omega)) ?_
          refine qq hS (g_movev (v := .int .i64 _) rfl) ?_
          exact ⟨(k + 1, left - x.len), _, rfl, ⟨⟨rfl, rfl, rfl, rfl, rfl, trivial⟩, hS.sel [false, true], by dsimp only; omega, by dsimp only; omega, by dsimp only; omega, hgo⟩, by dsimp only; omega⟩
      ·
        intro hc33
        try simp only [Bool.and_eq_true, Bool.or_eq_true, Bool.not_eq_true', Bool.and_eq_false_imp, Bool.or_eq_false_iff, Bool.not_eq_false', decide_eq_true_eq, decide_eq_false_iff_not] at hc33
        have hk : k = p.ops.length := by omega
        subst hk
        rw [List.drop_length] at hgo
        refine wpIn_exit ?_
        refine thenE (thenE (blkE ?_))
        refine thenN ?_
        refine wpIn_seq ?_
        refine wpIn_seq ?_
        refine reg ?_
        refine qq hS (g_movev (v := .int .i64 _) rfl) ?_
        refine qq hS (g_gtr rfl rfl) ?_
        refine ol_nil (thenN ?_)
        refine cond_s rfl ?_ ?_
        ·
          intro hc61
          try simp only [Bool.and_eq_true, Bool.or_eq_true, Bool.not_eq_true', Bool.and_eq_false_imp, Bool.or_eq_false_iff, Bool.not_eq_false', decide_eq_true_eq, decide_eq_false_iff_not] at hc61
          have e : checkP p = (↑p.ops.length, 60) := by rw [e0, ← hgo, checkGo, if_pos hc61]
          refine wpIn_seq ?_
          refine reg ?_
          refine qq hS (g_fieldAddr (o' := 3) Tryz.underlying26 rfl Tryz.sizeOf24 rfl rfl rfl) ?_
          refine qq hS (g_ldO1 0 Tryz.isAgg24 rfl rfl rfl) ?_
          refine qq hS (g_lenI rfl Tryz.underlying24 hops rfl) ?_
          refine qq hS (g_assignv (v := .int .i64 _) rfl) ?_
          refine qq hS (g_assignv (v := .int .i64 _) rfl) ?_
          refine ol_nil (thenN ?_)
          refine wpIn_ret ?_
          refine thenR ?_
          refine ret2 Tryz.results47 (rv_tmp (v := .int .i64 _) rfl) (rv_tmp (v := .int .i64 _) rfl) ?_
          rw [e]; exact ⟨rfl, hS.nil⟩
        ·
          intro hc61
          try simp only [Bool.and_eq_true, Bool.or_eq_true, Bool.not_eq_true', Bool.and_eq_false_imp, Bool.or_eq_false_iff, Bool.not_eq_false', decide_eq_true_eq, decide_eq_false_iff_not] at hc61
          have e : checkP p = (↑p.ops.length, 0) := by rw [e0, ← hgo, checkGo, if_neg hc61]
          refine wpIn_skip ?_
          refine thenN ?_
          refine wpIn_seq ?_
          refine reg ?_
          refine qq hS (g_fieldAddr (o' := 3) Tryz.underlying26 rfl Tryz.sizeOf24 rfl rfl rfl) ?_
          refine qq hS (g_ldO1 0 Tryz.isAgg24 rfl rfl rfl) ?_
          refine qq hS (g_lenI rfl Tryz.underlying24 hops rfl) ?_
          refine qq hS (g_assignv (v := .int .i64 _) rfl) ?_
          refine qq hS (g_assignv (v := .int .i64 _) rfl) ?_
          refine ol_nil (thenN ?_)
          refine wpIn_ret ?_
          refine ret2 Tryz.results47 (rv_tmp (v := .int .i64 _) rfl) (rv_tmp (v := .int .i64 _) rfl) ?_
          rw [e]; exact ⟨rfl, hS.nil⟩

set_option maxHeartbeats 1000000 in
theorem symbols_o (p : PatL) (ad : Option Addr) (m cap : Nat) (w0 : World) (I0 : Imm) (hI : Sat I0 w0) (hops : ROps I0 (.slice ad m cap) p.ops) (hp : p.wf) :
    Ctr Tryz.prog 30 [.agg #[.bool p.lifted, .int .i64 p.in_, .int .i64 p.out, .slice ad m cap]] w0 (fun v w' => ∃ a c, v = .tuple #[.slice a (symbolsP p).1.length c, .int .i64 (symbolsP p).2] ∧ St [] w0 I0 I0 w' [.row (.slice a (symbolsP p).1.length c) 85 3 (symbolsP p).1.length (flat symC (symbolsP p).1)]) := by
  refine fn (n := 45) Tryz.func30 rfl rfl rfl ?_
  have hS := St.start hI
  refine wpIn_seq ?_
  refine reg ?_
  refine qe (d_box (cs := [.bool _, .int .i64 _, .int .i64 _, .slice _ _ _]) hS rfl) ?_
  clear hS
  rintro _ w_1 ⟨b1, rfl, hS⟩
  refine qq hS (g_assign _) ?_
  refine qq hS (g_assignv (v := .int .i64 _) rfl) ?_
  refine ol_nil (thenN ?_)
  refine wpIn_seq ?_
  refine wpIn_seq ?_
  refine reg ?_
  refine qq hS (g_ldO 0 (vs := [.bool _, .int .i64 _, .int .i64 _, .slice _ _ _]) Tryz.sizeOf26 Tryz.isAgg26 rfl rfl rfl rfl) ?_
  refine qe (d_call Tryz.call47 rfl (check_c p ad m cap _ I0 hS.imm hops hp)) ?_
  rintro _ w_2 ⟨rfl, hE⟩
  replace hS := hS.callE hE
  refine qq hS (g_move _) ?_
  refine qq hS (g_extract (v := .int .i64 _) rfl rfl) ?_
  refine qq hS (g_extract (v := .int .i64 _) rfl rfl) ?_
  refine qq hS (g_assignv (v := .int .i64 _) rfl) ?_
  refine qq hS (g_assignv (v := .int .i64 _) rfl) ?_
  refine ol_nil (thenN ?_)
  refine wpIn_seq ?_
  refine reg ?_
  refine qq hS (g_movev (v := .int .i64 _) rfl) ?_
  refine qq hS (g_neq rfl rfl) ?_
  refine ol_nil (thenN ?_)
  refine cond_s rfl ?_ ?_
  ·
    intro hc17
    try simp only [Bool.and_eq_true, Bool.or_eq_true, Bool.not_eq_true', Bool.and_eq_false_imp, Bool.or_eq_false_iff, Bool.not_eq_false', decide_eq_true_eq, decide_eq_false_iff_not] at hc17
    have e : symbolsP p = ([], (checkP p).2) := by unfold symbolsP; rw [if_neg hc17]
    refine wpIn_seq ?_
    refine reg ?_
    refine qq hS (g_movev (v := .int .i64 _) rfl) ?_
    refine qq hS (g_assign _) ?_
    refine qq hS (g_assignv (v := .int .i64 _) rfl) ?_
    refine ol_nil (thenN ?_)
    refine wpIn_ret ?_
    refine thenR ?_
    refine ret2 Tryz.results30 (rv_tmp rfl) (rv_tmp (v := .int .i64 _) rfl) ?_
    rw [e]; exact ⟨none, 0, rfl, hS.nil.nilRow _ _⟩
  ·
    intro hc17
    try simp only [Bool.and_eq_true, Bool.or_eq_true, Bool.not_eq_true', Bool.and_eq_false_imp, Bool.or_eq_false_iff, Bool.not_eq_false', decide_eq_true_eq, decide_eq_false_iff_not] at hc17
    have e : symbolsP p = (symsOf p.ops, 0) := by unfold symbolsP; rw [if_pos hc17]
    obtain ⟨hk1, hk2, hk3, hk4, hk5, hk6, hk7⟩ := checkP_ok hc17
    refine wpIn_skip ?_
    refine thenN ?_
    refine wpIn_seq ?_
    refine reg ?_
    refine qq hS (g_fieldAddr (o' := 2) Tryz.underlying26 rfl Tryz.sizeOf3 rfl rfl rfl) ?_
    refine qq hS (g_ldO1 0 Tryz.isAgg3 rfl rfl rfl) ?_
    refine qe (i_make0 hS Tryz.underlying67 info85 rfl rfl (by omega) (by omega) (by omega)) ?_
    clear hS
    rintro _ w_3 ⟨a21, p21, rfl, hS⟩
    refine qq hS (g_assign _) ?_
    refine ol_nil (thenN ?_)
    refine wpIn_seq ?_
    refine wpIn_seq ?_
    refine reg ?_
    refine qq hS (g_fieldAddr (o' := 3) Tryz.underlying26 rfl Tryz.sizeOf24 rfl rfl rfl) ?_
    refine qq hS (g_ldO1 1 Tryz.isAgg24 rfl rfl rfl) ?_
    refine qq hS (g_lenI rfl Tryz.underlying24 hops rfl) ?_
    refine qq hS (g_movev (v := .int .i64 _) rfl) ?_
    refine ol_nil (thenN ?_)
    refine wpIn_block ?_
    refine loop (fun (x : Nat × Option Addr × Nat) σ w => okS σ [(6, .slice x.2.1 (symsOf (p.ops.take x.1)).length x.2.2), (23, .slice ad m cap), (24, .int .i64 p.ops.length), (25, .int .i64 x.1)] ∧ St [] w0 I0 I0 w [.row (.slice x.2.1 (symsOf (p.ops.take x.1)).length x.2.2) 85 3 (symsOf (p.ops.take x.1)).length (flat symC (symsOf (p.ops.take x.1)))] ∧ x.1 ≤ p.ops.length) (fun x => p.ops.length - x.1) ((0, a21, p21)) ?_ ?_
    ·
      exact ⟨⟨rfl, rfl, rfl, rfl, trivial⟩, hS.sel [true, false], by simp⟩
    ·
      rintro ⟨k, a, c⟩ σ w_l ⟨hs, hS, hk0⟩
      dsimp only at hs hS hk0 ⊢
      rw [← upds_self hs]; clear hs
      refine wpIn_seq ?_
      refine reg ?_
      refine qq hS (g_lss rfl rfl) ?_
      refine ol_nil (thenN ?_)
      refine wpIn_seq ?_
      refine cond_s rfl ?_ ?_
      ·
        intro hc26
        try simp only [Bool.and_eq_true, Bool.or_eq_true, Bool.not_eq_true', Bool.and_eq_false_imp, Bool.or_eq_false_iff, Bool.not_eq_false', decide_eq_true_eq, decide_eq_false_iff_not] at hc26
        obtain ⟨x, hx⟩ : ∃ x, p.ops[k]? = some x := ⟨_, List.getElem?_eq_getElem (by omega)⟩
        have hxw := hp.ops x (List.mem_of_getElem? hx)
        have hxr := hk1 x (List.mem_of_getElem? hx)
        obtain ⟨lx1, lx2⟩ := hxw.len
        obtain ⟨cs, hcl, hoA, hro⟩ := RSl.at hops hx
        obtain ⟨adx, mx, capx, rfl, hd⟩ := hro
        have hlx := symsOf_take_le p.ops (k + 1)
        have hly := congrArg List.length (symsOf_snoc hx)
        rw [List.length_append, List.length_map, List.length_range] at hly
        refine wpIn_skip ?_
        refine thenN ?_
        refine wpIn_seq ?_
        refine wpIn_block ?_
        refine wpIn_seq ?_
        refine reg ?_
        refine qq hS (g_ixI Tryz.underlying24 Tryz.sizeOf62 hops rfl rfl (by omega) (by omega)) ?_
        refine qq hS (g_ldE (us := [.int .i64 _, .int .i64 _, .int .i64 _, .int .u8 _, .slice _ _ _]) Tryz.sizeOf62 Tryz.isAgg62 hoA rfl rfl rfl) ?_
        refine qe (d_alloc (cs := [.int .i64 _, .int .i64 _, .int .i64 _, .int .u8 _, .slice _ _ _]) hS Tryz.zeroValue62 rfl) ?_
        clear hS
        rintro _ w_4 ⟨b_4, rfl, hS⟩
        refine qe (d_store 0 hS Tryz.sizeOf62 rfl rfl rfl (vs := [.int .i64 _, .int .i64 _, .int .i64 _, .int .u8 _, .slice _ _ _]) rfl rfl rfl (Nat.le_of_ble_eq_true rfl) (cs' := [_, _, _, _, _]) rfl) ?_
        clear hS
        rintro _ w_5 ⟨rfl, hS⟩
        refine ol_nil (thenN ?_)
        refine wpIn_seq ?_
        refine reg ?_
        refine qq hS (g_ldO 0 (vs := [.int .i64 _, .int .i64 _, .int .i64 _, .int .u8 _, .slice _ _ _]) Tryz.sizeOf62 Tryz.isAgg62 rfl rfl rfl rfl) ?_
        refine qe (d_call Tryz.call40 rfl (of_c x adx mx capx _ I0 hS.imm hd hxw)) ?_
        rintro _ w_6 ⟨rfl, hE⟩
        replace hS := hS.callE hE
        refine qq hS (g_assign _) ?_
        refine ol_nil (thenN ?_)
        refine wpIn_seq ?_
        refine reg ?_
        refine qq hS (g_fieldAddr (o' := 2) Tryz.underlying62 rfl Tryz.sizeOf3 rfl rfl rfl) ?_
        refine qq hS (g_ldO1 0 Tryz.isAgg3 rfl rfl rfl) ?_
        refine qq hS (g_movev (v := .int .i64 _) rfl) ?_
        refine ol_nil (thenN ?_)
        refine wpIn_block ?_
        refine loop (fun (x_ : Nat × Option Addr × Nat) σ w => okS σ [(6, .slice x_.2.1 (symsOf (p.ops.take k) ++ (List.range x_.1).map (fun (i : Nat) => symS x (i : Int))).length x_.2.2), (23, .slice ad m cap), (24, .int .i64 p.ops.length), (25, .int .i64 k), (9, ofV x (opV x adx mx capx)), (32, .int .i64 x.len), (33, .int .i64 x_.1)] ∧ St [] w0 I0 I0 w [.row (.slice x_.2.1 (symsOf (p.ops.take k) ++ (List.range x_.1).map (fun (i : Nat) => symS x (i : Int))).length x_.2.2) 85 3 (symsOf (p.ops.take k) ++ (List.range x_.1).map (fun (i : Nat) => symS x (i : Int))).length (flat symC (symsOf (p.ops.take k) ++ (List.range x_.1).map (fun (i : Nat) => symS x (i : Int))))] ∧ (x_.1 : Int) ≤ x.len) (fun x_ => x.len.toNat - x_.1) ((0, a, c)) ?_ ?_
        ·
          have h0 : symsOf (p.ops.take k) ++ (List.range 0).map (fun (i : Nat) => symS x (i : Int)) = symsOf (p.ops.take k) := by simp
          refine ⟨⟨by dsimp only; rw [h0]; rfl, rfl, rfl, rfl, rfl, rfl, rfl, trivial⟩, ?_, by dsimp only; omega⟩
          dsimp only
          rw [h0]
          exact hS.sel [false, true]
        ·
          rintro ⟨i, a, c⟩ σ w_l ⟨hs, hS, hi0⟩
          dsimp only at hs hS hi0 ⊢
          rw [← upds_self hs]; clear hs
          refine wpIn_seq ?_
          refine reg ?_
          refine qq hS (g_lss rfl rfl) ?_
          refine ol_nil (thenN ?_)
          refine wpIn_seq ?_
          refine cond_s rfl ?_ ?_
          ·
            intro hc34
            try simp only [Bool.and_eq_true, Bool.or_eq_true, Bool.not_eq_true', Bool.and_eq_false_imp, Bool.or_eq_false_iff, Bool.not_eq_false', decide_eq_true_eq, decide_eq_false_iff_not] at hc34
            have hlz : (symsOf (p.ops.take k) ++ (List.range i).map (fun (i : Nat) => symS x (i : Int))).length = (symsOf (p.ops.take k)).length + i := by simp
            have hln : (symsOf (p.ops.take k) ++ (List.range (i + 1)).map (fun (i : Nat) => symS x (i : Int))).length = (symsOf (p.ops.take k) ++ (List.range i).map (fun (i : Nat) => symS x (i : Int))).length + 1 := by rw [range_snoc, List.length_append]; rfl
            refine wpIn_skip ?_
            refine thenN ?_
            refine wpIn_seq ?_
            refine wpIn_block ?_
            refine wpIn_seq ?_
            refine reg ?_
            refine qq hS (g_movev (v := .int .i64 _) rfl) ?_
            refine qq hS (g_assignv (v := .int .i64 _) rfl) ?_
            refine ol_nil (thenN ?_)
            refine reg ?_
            refine qq hS (g_move _) ?_
            refine qq hS (g_move _) ?_
            refine qq hS (g_movev (v := .int .i64 _) rfl) ?_
            refine qe (does_symbol x adx mx capx i hS.imm hd hxw ⟨by omega, by omega⟩ (by omega) (by omega) hxr.2 rfl rfl) ?_
            rintro _ w_7 ⟨rfl, hE⟩
            replace hS := hS.callE hE
            refine qe (d_lit (vs := [.agg #[.bool _, .int .i64 _, .int .u8 _]]) (cs := [.bool _, .int .i64 _, .int .u8 _]) hS Tryz.underlying67 Tryz.sizeOf85 Tryz.zeroValue85 rfl rfl rfl rfl (fun v hv => by simp only [List.mem_cons, List.not_mem_nil, or_false] at hv; subst hv; rfl) rfl) ?_
            clear hS
            rintro _ w_8 ⟨b_8, rfl, hS⟩
            refine qe (i_appendO 1 0 hS rfl Tryz.underlying67 info85 rfl rfl rfl rfl rfl rfl rfl rfl (by omega) (by omega)) ?_
            clear hS
            rintro _ w_9 ⟨a41, p41, rfl, hS⟩
            refine qq hS (g_assign _) ?_
            refine ol_nil (blkN (thenN ?_))
            refine reg ?_
            refine qq hS (g_add rfl rfl (by omega) (by omega)) ?_
            refine qq hS (g_movev (v := .int .i64 _) rfl) ?_
            refine ⟨(i + 1, a41, p41), _, rfl, ⟨⟨by dsimp only; rw [hln]; rfl, rfl, rfl, rfl, rfl, rfl, rfl, trivial⟩, ?_, by dsimp only; omega⟩, by dsimp only; omega⟩
            dsimp only
            rw [hln, range_snoc, flat_append, flat_one]
            exact hS.sel [false, true]
          ·
            intro hc34
            try simp only [Bool.and_eq_true, Bool.or_eq_true, Bool.not_eq_true', Bool.and_eq_false_imp, Bool.or_eq_false_iff, Bool.not_eq_false', decide_eq_true_eq, decide_eq_false_iff_not] at hc34
            have hi : i = x.len.toNat := by omega
            subst hi
            rw [symsOf_snoc hx] at hS ⊢
            refine wpIn_exit ?_
            refine thenE (thenE (blkE ?_))
            refine blkN (thenN ?_)
            refine reg ?_
            refine qq hS (g_add rfl rfl (by omega) (by omega)) ?_
            refine qq hS (g_movev (v := .int .i64 _) rfl) ?_
            exact ⟨(k + 1, a, c), _, rfl, ⟨⟨rfl, rfl, rfl, rfl, trivial⟩, hS.sel [true], by dsimp only; omega⟩, by dsimp only; omega⟩
      ·
        intro hc26
        try simp only [Bool.and_eq_true, Bool.or_eq_true, Bool.not_eq_true', Bool.and_eq_false_imp, Bool.or_eq_false_iff, Bool.not_eq_false', decide_eq_true_eq, decide_eq_false_iff_not] at hc26
        have hk : k = p.ops.length := by omega
        subst hk
        rw [List.take_length] at hS ⊢
        refine wpIn_exit ?_
        refine thenE (thenE (blkE ?_))
        refine thenN ?_
        refine wpIn_seq ?_
        refine reg ?_
        refine qq hS (g_move _) ?_
        refine qq hS (g_assign _) ?_
        refine qq hS (g_assignv (v := .int .i64 _) rfl) ?_
        refine ol_nil (thenN ?_)
        refine wpIn_ret ?_
        refine ret2 Tryz.results30 (rv_tmp rfl) (rv_tmp (v := .int .i64 _) rfl) ?_
        rw [e]; exact ⟨a, c, rfl, hS.sel [true]⟩

end Go.Proofs.YtaklmbhfmpdinaaGreatDoor


namespace Go.Proofs.YtaklmbhfmpdinaaGreatDoor
open Go Go.RowKit Go.Inl
set_option linter.unusedSimpArgs false
set_option linter.unusedVariables false

end Go.Proofs.YtaklmbhfmpdinaaGreatDoor


namespace Go.Proofs.YtaklmbhfmpdinaaGreatDoor
open Go Go.RowKit Go.Inl
set_option linter.unusedSimpArgs false
set_option linter.unusedVariables false
end Go.Proofs.YtaklmbhfmpdinaaGreatDoor


namespace Go.Proofs.YtaklmbhfmpdinaaGreatDoor
open Go Go.RowKit Go.Inl
set_option linter.unusedSimpArgs false
set_option linter.unusedVariables false
theorem symsOf_wf {p : PatL} (hp : p.wf) : ∀ s ∈ (symbolsP p).1, s.wf := by
  intro s hs
  unfold symbolsP at hs
  split at hs
  · rename_i h
    obtain ⟨h1, h2, h3, h4, h5, h6, h7⟩ := checkP_ok h
    simp only [symsOf, List.mem_flatMap, symsOp, List.mem_map, List.mem_range] at hs
    obtain ⟨x, hx, i, hi, rfl⟩ := hs
    obtain ⟨l1, l2⟩ := h1 x hx
    have hw := hp.ops x hx
    obtain ⟨⟨k1, k2⟩, ⟨f1, f2⟩, ⟨q1, q2⟩, ⟨b1, b2⟩, hdat⟩ := hw
    have hd : 0 ≤ x.data.getD i 0 ∧ x.data.getD i 0 ≤ 255 := by
      rw [List.getD_eq_getElem?_getD]
      cases e : x.data[i]? with
      | none => simp
      | some y => exact hdat y (List.mem_of_getElem? e)
    unfold rightP insideP at l2
    unfold symS
    split at l2
    · rename_i hk; simp only [Bool.and_eq_true, decide_eq_true_eq] at l2; rw [if_pos hk]; exact ⟨by dsimp only; omega, by dsimp only; omega, by dsimp only; omega, by dsimp only; omega⟩
    · rename_i hk; rw [if_neg hk]
      split at l2
      · rename_i hk; simp only [Bool.and_eq_true, decide_eq_true_eq] at l2; rw [if_pos hk]; exact ⟨by dsimp only; omega, by dsimp only; omega, hd.1, hd.2⟩
      · rename_i hk; rw [if_neg hk]
        split at l2
        · rename_i hk; rw [if_pos hk]; exact ⟨by dsimp only; omega, by dsimp only; omega, b1, b2⟩
        · rename_i hk; rw [if_neg hk]
          split at l2
          · rename_i hk; rw [if_pos hk]; exact ⟨by dsimp only; omega, by dsimp only; omega, hd.1, hd.2⟩
          · cases l2
  · simp at hs
theorem symbols_c (p : PatL) (ad : Option Addr) (m cap : Nat) (w0 : World) (I0 : Imm) (hI : Sat I0 w0) (hops : ROps I0 (.slice ad m cap) p.ops) (hp : p.wf) :
    Ctr Tryz.prog 30 [.agg #[.bool p.lifted, .int .i64 p.in_, .int .i64 p.out, .slice ad m cap]] w0 (fun v w' => ∃ I' a c, v = .tuple #[.slice a (symbolsP p).1.length c, .int .i64 (symbolsP p).2] ∧ Ext w0 I0 w' I' ∧ RSyms I' (.slice a (symbolsP p).1.length c) (symbolsP p).1) :=
  (symbols_o p ad m cap w0 I0 hI hops hp).mono fun v w' ⟨a, c, hv, hS⟩ => by
    obtain ⟨I1, hE, _, hr⟩ := row_freeze1 symC_len hS rfl
    exact ⟨I1, a, c, hv, hE, hr⟩
end Go.Proofs.YtaklmbhfmpdinaaGreatDoor

