/- The small functions of package normal: what they compute. Conditions: symbols and prices within bounds. -/
import Derived.Test.YtlhehhhpaebpoaaGreatFacts
import Derived.Test.YtlhehhhpaebpoaaGreatKCore2
import Derived.KernelRfl
namespace Go.Proofs.YtlhehhhpaebpoaaGreat
open Go Go.RowKit Go.Inl


theorem eqlSym {n : Nat} {σ : Nat → Value} {S : World → Prop} {ty t' : TypeId} {x y : Operand} (a b : Sym) (hx : ev n σ x = symV a) (hy : ev n σ y = symV b) : Gives Tryz.prog (ev n σ) S (.binOp .eql 60 x y t') ty (.bool (symEq a b)) := fun w _ => by
  have hg : (eqGuard .eql 60 x y (symV a) (symV b)).run Tryz.prog w = .ok () w := by simp [eqGuard, symV, go_sem, Tryz.eqGuardType60]
  have hb : (binOp .eql 60 (symV a) (symV b)).run Tryz.prog w = .ok (.bool (symEq a b)) w := by
    simp [symV, go_sem, symEq]
    by_cases h1 : a.old = b.old <;> by_cases h2 : a.at_ = b.at_ <;> by_cases h3 : a.b = b.b <;> simp [h1, h2, h3]
  simp only [execOp, hx, hy, Sem.run_bind, hg, Result.andThen_ok, hb]; rfl

theorem less_c (p q : Pr) (w : World) (I : Imm) (hI : Sat I w) : Ctr Tryz.prog 126 [prV p, prV q] w (fun v w' => v = .bool (p.less q) ∧ Ext w I w' I) := by
  refine fn (n := 24) Tryz.func126 rfl rfl rfl ?_
  have hS := St.start hI
  refine wpIn_seq ?_
  refine reg ?_
  refine qe (d_box (cs := [.int .i64 _, .int .i64 _]) hS rfl) ?_
  clear hS
  rintro _ w_1 ⟨b_1, rfl, hS⟩
  refine qe (d_box (cs := [.int .i64 _, .int .i64 _]) hS rfl) ?_
  clear hS
  rintro _ w_2 ⟨b_2, rfl, hS⟩
  refine qq hS (g_assignv (v := .bool _) rfl) ?_
  refine ol_nil (thenN ?_)
  refine wpIn_seq ?_
  refine reg ?_
  refine qq hS (g_fieldAddr (o' := 0) Tryz.underlying126 rfl Tryz.sizeOf3 rfl rfl rfl) ?_
  refine qq hS (g_ldO1 1 Tryz.isAgg3 rfl rfl rfl) ?_
  refine qq hS (g_fieldAddr (o' := 0) Tryz.underlying126 rfl Tryz.sizeOf3 rfl rfl rfl) ?_
  refine qq hS (g_ldO1 0 Tryz.isAgg3 rfl rfl rfl) ?_
  refine qq hS (g_lss rfl rfl) ?_
  refine qq hS (g_movev (v := .bool _) rfl) ?_
  refine qu rfl rfl hS (fun hg => (g_fieldAddr (o' := 0) Tryz.underlying126 rfl Tryz.sizeOf3 rfl rfl rfl)) ?_
  intro u11 hu11 hn11
  refine qu rfl rfl hS (fun hg => (g_ldO1 1 Tryz.isAgg3 rfl (hu11 hg) rfl)) ?_
  intro u12 hu12 hn12
  refine qu rfl rfl hS (fun hg => (g_fieldAddr (o' := 0) Tryz.underlying126 rfl Tryz.sizeOf3 rfl rfl rfl)) ?_
  intro u13 hu13 hn13
  refine qu rfl rfl hS (fun hg => (g_ldO1 0 Tryz.isAgg3 rfl (hu13 hg) rfl)) ?_
  intro u14 hu14 hn14
  refine qu rfl rfl hS (fun hg => (g_eql (hu12 hg) (hu14 hg))) ?_
  intro u15 hu15 hn15
  refine qu rfl rfl hS (fun hg => (g_movev (hu15 hg))) ?_
  intro u16 hu16 hn16
  refine qn rfl hu16 hn16 hS (fun hg => (g_fieldAddr (o' := 1) Tryz.underlying126 rfl Tryz.sizeOf3 rfl rfl rfl)) ?_
  intro u17 hu17 hn17
  refine qn rfl hu16 hn16 hS (fun hg => (g_ldO1 1 Tryz.isAgg3 rfl (hu17 hg) rfl)) ?_
  intro u18 hu18 hn18
  refine qn rfl hu16 hn16 hS (fun hg => (g_fieldAddr (o' := 1) Tryz.underlying126 rfl Tryz.sizeOf3 rfl rfl rfl)) ?_
  intro u19 hu19 hn19
  refine qn rfl hu16 hn16 hS (fun hg => (g_ldO1 0 Tryz.isAgg3 rfl (hu19 hg) rfl)) ?_
  intro u20 hu20 hn20
  refine qn rfl hu16 hn16 hS (fun hg => (g_lss (hu18 hg) (hu20 hg))) ?_
  intro u21 hu21 hn21
  refine qu rfl rfl hS (fun hg => (g_and (hu16 hg) rfl (fun hq => hu21 ⟨hg, hq⟩))) ?_
  intro u22 hu22 hn22
  refine qq hS (g_or rfl rfl (fun hq => hu22 hq)) ?_
  refine qq hS (g_assignv (v := .bool _) rfl) ?_
  refine ol_nil (thenN ?_)
  refine wpIn_ret ?_
  refine ret1 Tryz.results126 (rv_tmp (v := .bool _) rfl) ?_
  exact ⟨rfl, hS.nil⟩

theorem plus_c (p : Pr) (c o : Int) (w : World) (I : Imm) (hI : Sat I w) (h1 : p.ok 1000000000) (h3 : 0 ≤ c ∧ c ≤ 100) (h4 : 0 ≤ o ∧ o ≤ 100) :
    Ctr Tryz.prog 104 [prV p, .int .i64 c, .int .i64 o] w (fun v w' => v = prV (p.plus c o) ∧ Ext w I w' I) := by
  obtain ⟨g1, g2, g3, g4⟩ := h1
  refine fn (n := 16) Tryz.func104 rfl rfl rfl ?_
  have hS := St.start hI
  refine wpIn_seq ?_
  refine reg ?_
  refine qe (d_box (cs := [.int .i64 _, .int .i64 _]) hS rfl) ?_
  clear hS
  rintro _ w_1 ⟨b_1, rfl, hS⟩
  refine qe (d_alloc (cs := [.int .i64 _, .int .i64 _]) hS Tryz.zeroValue126 rfl) ?_
  clear hS
  rintro _ w_2 ⟨b_2, rfl, hS⟩
  refine ol_nil (thenN ?_)
  refine wpIn_seq ?_
  refine reg ?_
  refine qq hS (g_fieldAddr (o' := 0) Tryz.underlying126 rfl Tryz.sizeOf3 rfl rfl rfl) ?_
  refine qq hS (g_ldO1 1 Tryz.isAgg3 rfl rfl rfl) ?_
  refine qq hS (g_movev (v := .int .i64 _) rfl) ?_
  refine qq hS (g_add rfl rfl (by omega) (by omega)) ?_
  refine qq hS (g_fieldAddr (o' := 1) Tryz.underlying126 rfl Tryz.sizeOf3 rfl rfl rfl) ?_
  refine qq hS (g_ldO1 1 Tryz.isAgg3 rfl rfl rfl) ?_
  refine qq hS (g_movev (v := .int .i64 _) rfl) ?_
  refine qq hS (g_add rfl rfl (by omega) (by omega)) ?_
  refine qq hS (g_buildv (pl := [(0, 1), (1, 1)]) (cs := [.int .i64 _, .int .i64 _]) Tryz.zeroValue126 Tryz.underlying126 (fun w => by simp [Tryz.sizeOf3]) (mp (v := .int .i64 _) rfl (mp (v := .int .i64 _) rfl mp0)) rfl) ?_
  refine qe (d_store 0 hS Tryz.sizeOf126 rfl rfl rfl (vs := [.int .i64 _, .int .i64 _]) rfl rfl rfl (Nat.le_of_ble_eq_true rfl) (cs' := [_, _]) rfl) ?_
  clear hS
  rintro _ w_3 ⟨rfl, hS⟩
  refine ol_nil (thenN ?_)
  refine wpIn_ret ?_
  refine ret1 Tryz.results104 (rv_cel 0 hS Tryz.sizeOf126 Tryz.isAgg126 rfl rfl rfl) ?_
  exact ⟨rfl, hS.nil⟩

theorem goesOn_c (a b : Sym) (w : World) (I : Imm) (hI : Sat I w) (h1 : a.ok) : Ctr Tryz.prog 106 [symV a, symV b] w (fun v w' => v = .bool (goesOn a b) ∧ Ext w I w' I) := by
  obtain ⟨g1, g2, g3, g4⟩ := h1
  refine fn (n := 19) Tryz.func106 rfl rfl rfl ?_
  have hS := St.start hI
  refine wpIn_seq ?_
  refine reg ?_
  refine qe (d_box (cs := [.bool _, .int .i64 _, .int .u8 _]) hS rfl) ?_
  clear hS
  rintro _ w_1 ⟨b_1, rfl, hS⟩
  refine qe (d_box (cs := [.bool _, .int .i64 _, .int .u8 _]) hS rfl) ?_
  clear hS
  rintro _ w_2 ⟨b_2, rfl, hS⟩
  refine qq hS (g_assignv (v := .bool _) rfl) ?_
  refine ol_nil (thenN ?_)
  refine wpIn_seq ?_
  refine reg ?_
  refine qq hS (g_fieldAddr (o' := 0) Tryz.underlying60 rfl Tryz.sizeOf4 rfl rfl rfl) ?_
  refine qq hS (g_ldO1 1 Tryz.isAgg4 rfl rfl rfl) ?_
  refine qq hS (g_movev (v := .bool _) rfl) ?_
  refine qu rfl rfl hS (fun hg => (g_fieldAddr (o' := 0) Tryz.underlying60 rfl Tryz.sizeOf4 rfl rfl rfl)) ?_
  intro u8 hu8 hn8
  refine qu rfl rfl hS (fun hg => (g_ldO1 0 Tryz.isAgg4 rfl (hu8 hg) rfl)) ?_
  intro u9 hu9 hn9
  refine qq hS (g_and rfl rfl (fun hq => hu9 hq)) ?_
  refine qq hS (g_movev (v := .bool _) rfl) ?_
  refine qu rfl rfl hS (fun hg => (g_fieldAddr (o' := 1) Tryz.underlying60 rfl Tryz.sizeOf3 rfl rfl rfl)) ?_
  intro u12 hu12 hn12
  refine qu rfl rfl hS (fun hg => (g_ldO1 0 Tryz.isAgg3 rfl (hu12 hg) rfl)) ?_
  intro u13 hu13 hn13
  refine qu rfl rfl hS (fun hg => (g_fieldAddr (o' := 1) Tryz.underlying60 rfl Tryz.sizeOf3 rfl rfl rfl)) ?_
  intro u14 hu14 hn14
  refine qu rfl rfl hS (fun hg => (g_ldO1 1 Tryz.isAgg3 rfl (hu14 hg) rfl)) ?_
  intro u15 hu15 hn15
  refine qu rfl rfl hS (fun hg => (g_add (hu15 hg) rfl (by omega) (by omega))) ?_
  intro u16 hu16 hn16
  refine qu rfl rfl hS (fun hg => (g_eql (hu13 hg) (hu16 hg))) ?_
  intro u17 hu17 hn17
  refine qq hS (g_and rfl rfl (fun hq => hu17 hq)) ?_
  refine qq hS (g_assignv (v := .bool _) rfl) ?_
  refine ol_nil (thenN ?_)
  refine wpIn_ret ?_
  refine ret1 Tryz.results106 (rv_tmp (v := .bool _) rfl) ?_
  exact ⟨rfl, hS.nil⟩

theorem open_c (rest : Pl) (more : Pr) (n : Int) (on : Bool) (w : World) (I : Imm) (hI : Sat I w) (h1 : rest.best.ok 1000000000) (h2 : more.ok 1000000000) (h3 : 0 ≤ n ∧ n ≤ 1000000000) :
    Ctr Tryz.prog 105 [plV rest, prV more, .int .i64 n, .bool on] w (fun v w' => v = .tuple #[prV (openS rest more n on).1, .int .i64 (openS rest more n on).2] ∧ Ext w I w' I) := by
  refine fn (n := 28) Tryz.func105 rfl rfl rfl ?_
  have hS := St.start hI
  refine wpIn_seq ?_
  refine reg ?_
  refine qe (d_box (cs := [.int .i64 _, .int .i64 _, .int .i64 _, .int .i64 _, .int .i64 _, .int .i64 _, .int .i64 _, .int .i64 _, .int .i64 _, .int .i64 _, .int .i64 _, .int .i64 _]) hS rfl) ?_
  clear hS
  rintro _ w_1 ⟨b_1, rfl, hS⟩
  refine qe (d_box (cs := [.int .i64 _, .int .i64 _]) hS rfl) ?_
  clear hS
  rintro _ w_2 ⟨b_2, rfl, hS⟩
  refine qe (d_alloc (cs := [.int .i64 _, .int .i64 _]) hS Tryz.zeroValue126 rfl) ?_
  clear hS
  rintro _ w_3 ⟨b_3, rfl, hS⟩
  refine qq hS (g_assignv (v := .int .i64 _) rfl) ?_
  refine ol_nil (thenN ?_)
  refine wpIn_seq ?_
  refine reg ?_
  refine qq hS (g_fieldAddr (o' := 0) Tryz.underlying128 rfl Tryz.sizeOf126 rfl rfl rfl) ?_
  refine qq hS (g_ldO 2 (vs := [.int .i64 _, .int .i64 _]) Tryz.sizeOf126 Tryz.isAgg126 rfl rfl rfl rfl) ?_
  refine qe (d_call Tryz.call104 rfl (plus_c rest.best 1 0 _ I hS.imm h1 (by omega) (by omega))) ?_
  rintro _ w_4 ⟨rfl, hE⟩
  replace hS := hS.callE hE
  refine qe (d_alloc (cs := [.int .i64 _, .int .i64 _]) hS Tryz.zeroValue126 rfl) ?_
  clear hS
  rintro _ w_5 ⟨b_5, rfl, hS⟩
  refine qe (d_store 0 hS Tryz.sizeOf126 rfl rfl rfl (vs := [.int .i64 _, .int .i64 _]) rfl rfl rfl (Nat.le_of_ble_eq_true rfl) (cs' := [_, _]) rfl) ?_
  clear hS
  rintro _ w_6 ⟨rfl, hS⟩
  refine ol_nil (thenN ?_)
  refine wpIn_seq ?_
  refine wpIn_seq ?_
  refine reg ?_
  refine qq hS (g_ldO 2 (vs := [.int .i64 _, .int .i64 _]) Tryz.sizeOf126 Tryz.isAgg126 rfl rfl rfl rfl) ?_
  refine qe (d_call Tryz.call104 rfl (plus_c more 1 0 _ I hS.imm h2 (by omega) (by omega))) ?_
  rintro _ w_7 ⟨rfl, hE⟩
  replace hS := hS.callE hE
  refine qe (d_alloc (cs := [.int .i64 _, .int .i64 _]) hS Tryz.zeroValue126 rfl) ?_
  clear hS
  rintro _ w_8 ⟨b_8, rfl, hS⟩
  refine qe (d_store 0 hS Tryz.sizeOf126 rfl rfl rfl (vs := [.int .i64 _, .int .i64 _]) rfl rfl rfl (Nat.le_of_ble_eq_true rfl) (cs' := [_, _]) rfl) ?_
  clear hS
  rintro _ w_9 ⟨rfl, hS⟩
  refine ol_nil (thenN ?_)
  refine wpIn_seq ?_
  refine reg ?_
  refine qq hS (g_movev (v := .bool _) rfl) ?_
  refine qq hS (g_movev (v := .bool _) rfl) ?_
  refine qu rfl rfl hS (fun hg => (g_ldO 1 (vs := [.int .i64 _, .int .i64 _]) Tryz.sizeOf126 Tryz.isAgg126 rfl rfl rfl rfl)) ?_
  intro u19 hu19 hn19
  refine qu rfl rfl hS (fun hg => (g_ldO 0 (vs := [.int .i64 _, .int .i64 _]) Tryz.sizeOf126 Tryz.isAgg126 rfl rfl rfl rfl)) ?_
  intro u20 hu20 hn20
  refine cvu rfl rfl hS (fun hg => (d_call Tryz.call126 (ml (hu19 hg) (ml (hu20 hg) ml0)) (less_c (rest.best.plus 1 0) (more.plus 1 0) _ I hS.imm))) ?_
  intro w_11 u21 hS hu21 hn21
  refine qu rfl rfl hS (fun hg => (g_not (hu21 hg))) ?_
  intro u22 hu22 hn22
  refine qq hS (g_and rfl rfl (fun hq => hu22 hq)) ?_
  refine ol_nil (thenN ?_)
  refine cond_s rfl ?_ ?_
  ·
    intro hc23
    clear hu19 hn19 hu20 hn20 hu21 hn21 hu22 hn22
    have e : openS rest more n on = (more.plus 1 0, n + 1) := if_pos hc23
    refine wpIn_seq ?_
    refine reg ?_
    refine qq hS (g_ldO 0 (vs := [.int .i64 _, .int .i64 _]) Tryz.sizeOf126 Tryz.isAgg126 rfl rfl rfl rfl) ?_
    refine qq hS (g_movev (v := .int .i64 _) rfl) ?_
    refine qq hS (g_add rfl rfl (by omega) (by omega)) ?_
    refine qe (d_store 2 hS Tryz.sizeOf126 rfl rfl rfl (vs := [.int .i64 _, .int .i64 _]) rfl rfl rfl (Nat.le_of_ble_eq_true rfl) (cs' := [_, _]) rfl) ?_
    clear hS
    rintro _ w_12 ⟨rfl, hS⟩
    refine qq hS (g_assignv (v := .int .i64 _) rfl) ?_
    refine ol_nil (thenN ?_)
    refine wpIn_ret ?_
    refine thenR ?_
    refine ret2 Tryz.results105 (rv_cel 2 hS Tryz.sizeOf126 Tryz.isAgg126 rfl rfl rfl) (rv_tmp (v := .int .i64 _) rfl) ?_
    rw [e]; exact ⟨rfl, hS.nil⟩
  ·
    intro hc23
    clear hu19 hn19 hu20 hn20 hu21 hn21 hu22 hn22
    have e : openS rest more n on = (rest.best.plus 1 0, 1) := if_neg (by rw [hc23]; decide)
    refine wpIn_skip ?_
    refine thenN ?_
    refine wpIn_seq ?_
    refine reg ?_
    refine qq hS (g_ldO 1 (vs := [.int .i64 _, .int .i64 _]) Tryz.sizeOf126 Tryz.isAgg126 rfl rfl rfl rfl) ?_
    refine qe (d_store 2 hS Tryz.sizeOf126 rfl rfl rfl (vs := [.int .i64 _, .int .i64 _]) rfl rfl rfl (Nat.le_of_ble_eq_true rfl) (cs' := [_, _]) rfl) ?_
    clear hS
    rintro _ w_13 ⟨rfl, hS⟩
    refine qq hS (g_assignv (v := .int .i64 _) rfl) ?_
    refine ol_nil (thenN ?_)
    refine wpIn_ret ?_
    refine ret2 Tryz.results105 (rv_cel 2 hS Tryz.sizeOf126 Tryz.isAgg126 rfl rfl rfl) (rv_tmp (v := .int .i64 _) rfl) ?_
    rw [e]; exact ⟨rfl, hS.nil⟩

theorem runs_c (s next : Sym) (after : Pl) (last : Bool) (w : World) (I : Imm) (hI : Sat I w) (h1 : s.ok) (h2 : 0 ≤ after.copyRun ∧ after.copyRun ≤ 1000000) (h3 : 0 ≤ after.equalRun ∧ after.equalRun ≤ 1000000) :
    Ctr Tryz.prog 102 [symV s, symV next, plV after, .bool last] w (fun v w' => v = .tuple #[.int .i64 (runsS s next after last).1, .int .i64 (runsS s next after last).2] ∧ Ext w I w' I) := by
  refine fn (n := 46) Tryz.func102 rfl rfl rfl ?_
  have hS := St.start hI
  refine wpIn_seq ?_
  refine reg ?_
  refine qe (d_box (cs := [.bool _, .int .i64 _, .int .u8 _]) hS rfl) ?_
  clear hS
  rintro _ w_1 ⟨b_1, rfl, hS⟩
  refine qe (d_box (cs := [.bool _, .int .i64 _, .int .u8 _]) hS rfl) ?_
  clear hS
  rintro _ w_2 ⟨b_2, rfl, hS⟩
  refine qe (d_box (cs := [.int .i64 _, .int .i64 _, .int .i64 _, .int .i64 _, .int .i64 _, .int .i64 _, .int .i64 _, .int .i64 _, .int .i64 _, .int .i64 _, .int .i64 _, .int .i64 _]) hS rfl) ?_
  clear hS
  rintro _ w_3 ⟨b_3, rfl, hS⟩
  refine qq hS (g_assignv (v := .int .i64 _) rfl) ?_
  refine qq hS (g_assignv (v := .int .i64 _) rfl) ?_
  refine ol_nil (thenN ?_)
  refine wpIn_seq ?_
  refine reg ?_
  refine qq hS (g_assignv (v := .int .i64 _) rfl) ?_
  refine qq hS (g_assignv (v := .int .i64 _) rfl) ?_
  refine ol_nil (thenN ?_)
  refine wpIn_seq ?_
  refine wpIn_seq ?_
  refine reg ?_
  refine qq hS (g_fieldAddr (o' := 0) Tryz.underlying60 rfl Tryz.sizeOf4 rfl rfl rfl) ?_
  refine qq hS (g_ldO1 2 Tryz.isAgg4 rfl rfl rfl) ?_
  refine qq hS (g_movev (v := .bool _) rfl) ?_
  refine qu rfl rfl hS (fun hg => (g_fieldAddr (o' := 2) Tryz.underlying60 rfl Tryz.sizeOf5 rfl rfl rfl)) ?_
  intro u15 hu15 hn15
  refine qu rfl rfl hS (fun hg => (g_ldO1 2 Tryz.isAgg5 rfl (hu15 hg) rfl)) ?_
  intro u16 hu16 hn16
  refine qu rfl rfl hS (fun hg => (g_eql (hu16 hg) rfl)) ?_
  intro u17 hu17 hn17
  refine qq hS (g_and rfl rfl (fun hq => hu17 hq)) ?_
  refine ol_nil (thenN ?_)
  refine cond_s rfl ?_ ?_
  ·
    intro hc18
    clear hu15 hn15 hu16 hn16 hu17 hn17
    refine wpIn_seq ?_
    refine reg ?_
    refine qq hS (g_assignv (v := .int .i64 _) rfl) ?_
    refine ol_nil (thenN ?_)
    refine wpIn_seq ?_
    refine reg ?_
    refine qq hS (g_movev (v := .bool _) rfl) ?_
    refine qq hS (g_not rfl) ?_
    refine qq hS (g_movev (v := .bool _) rfl) ?_
    refine qu rfl rfl hS (fun hg => (g_ldO 2 (vs := [.bool _, .int .i64 _, .int .u8 _]) Tryz.sizeOf60 Tryz.isAgg60 rfl rfl rfl rfl)) ?_
    intro u22 hu22 hn22
    refine qu rfl rfl hS (fun hg => (g_ldO 1 (vs := [.bool _, .int .i64 _, .int .u8 _]) Tryz.sizeOf60 Tryz.isAgg60 rfl rfl rfl rfl)) ?_
    intro u23 hu23 hn23
    refine cvu rfl rfl hS (fun hg => (d_call Tryz.call106 (ml (hu22 hg) (ml (hu23 hg) ml0)) (goesOn_c s next _ I hS.imm h1))) ?_
    intro w_5 u24 hS hu24 hn24
    refine qq hS (g_and rfl rfl (fun hq => hu24 hq)) ?_
    refine ol_nil (thenN ?_)
    refine cond_s rfl ?_ ?_
    ·
      intro hc25
      clear hu22 hn22 hu23 hn23 hu24 hn24
      refine reg ?_
      refine qq hS (g_movev (v := .int .i64 _) rfl) ?_
      refine qq hS (g_fieldAddr (o' := 10) Tryz.underlying128 rfl Tryz.sizeOf3 rfl rfl rfl) ?_
      refine qq hS (g_ldO1 0 Tryz.isAgg3 rfl rfl rfl) ?_
      refine qq hS (g_add rfl rfl (by omega) (by omega)) ?_
      refine qq hS (g_assignv (v := .int .i64 _) rfl) ?_
      refine ol_nil (thenN ?_)
      refine wpIn_seq ?_
      refine wpIn_seq ?_
      refine reg ?_
      refine qq hS (g_fieldAddr (o' := 0) Tryz.underlying60 rfl Tryz.sizeOf4 rfl rfl rfl) ?_
      refine qq hS (g_ldO1 2 Tryz.isAgg4 rfl rfl rfl) ?_
      refine qq hS (g_not rfl) ?_
      refine ol_nil (thenN ?_)
      refine cond_s rfl ?_ ?_
      ·
        intro hc32
        refine wpIn_seq ?_
        refine reg ?_
        refine qq hS (g_assignv (v := .int .i64 _) rfl) ?_
        refine ol_nil (thenN ?_)
        refine wpIn_seq ?_
        refine reg ?_
        refine qq hS (g_movev (v := .bool _) rfl) ?_
        refine qq hS (g_not rfl) ?_
        refine qq hS (g_movev (v := .bool _) rfl) ?_
        refine qu rfl rfl hS (fun hg => (g_ldO 2 (vs := [.bool _, .int .i64 _, .int .u8 _]) Tryz.sizeOf60 Tryz.isAgg60 rfl rfl rfl rfl)) ?_
        intro u36 hu36 hn36
        refine qu rfl rfl hS (fun hg => (g_ldO 1 (vs := [.bool _, .int .i64 _, .int .u8 _]) Tryz.sizeOf60 Tryz.isAgg60 rfl rfl rfl rfl)) ?_
        intro u37 hu37 hn37
        refine qu rfl rfl hS (fun hg => (eqlSym s next (hu36 hg) (hu37 hg))) ?_
        intro u38 hu38 hn38
        refine qq hS (g_and rfl rfl (fun hq => hu38 hq)) ?_
        refine ol_nil (thenN ?_)
        refine cond_s rfl ?_ ?_
        ·
          intro hc39
          clear hu36 hn36 hu37 hn37 hu38 hn38
          refine reg ?_
          refine qq hS (g_movev (v := .int .i64 _) rfl) ?_
          refine qq hS (g_fieldAddr (o' := 11) Tryz.underlying128 rfl Tryz.sizeOf3 rfl rfl rfl) ?_
          refine qq hS (g_ldO1 0 Tryz.isAgg3 rfl rfl rfl) ?_
          refine qq hS (g_add rfl rfl (by omega) (by omega)) ?_
          refine qq hS (g_assignv (v := .int .i64 _) rfl) ?_
          refine ol_nil (thenN ?_)
          refine wpIn_seq ?_
          refine reg ?_
          refine qq hS (g_movev (v := .int .i64 _) rfl) ?_
          refine qq hS (g_movev (v := .int .i64 _) rfl) ?_
          refine qq hS (g_assignv (v := .int .i64 _) rfl) ?_
          refine qq hS (g_assignv (v := .int .i64 _) rfl) ?_
          refine ol_nil (thenN ?_)
          refine wpIn_ret ?_
          refine ret2 Tryz.results102 (rv_tmp (v := .int .i64 _) rfl) (rv_tmp (v := .int .i64 _) rfl) ?_
          refine ⟨?_, hS.nil⟩; simp only [runsS]; simp_all
        ·
          intro hc39
          clear hu36 hn36 hu37 hn37 hu38 hn38
          refine wpIn_skip ?_
          refine thenN ?_
          refine wpIn_seq ?_
          refine reg ?_
          refine qq hS (g_movev (v := .int .i64 _) rfl) ?_
          refine qq hS (g_movev (v := .int .i64 _) rfl) ?_
          refine qq hS (g_assignv (v := .int .i64 _) rfl) ?_
          refine qq hS (g_assignv (v := .int .i64 _) rfl) ?_
          refine ol_nil (thenN ?_)
          refine wpIn_ret ?_
          refine ret2 Tryz.results102 (rv_tmp (v := .int .i64 _) rfl) (rv_tmp (v := .int .i64 _) rfl) ?_
          refine ⟨?_, hS.nil⟩; simp only [runsS]; simp_all
      ·
        intro hc32
        refine wpIn_skip ?_
        refine thenN ?_
        refine wpIn_seq ?_
        refine reg ?_
        refine qq hS (g_movev (v := .int .i64 _) rfl) ?_
        refine qq hS (g_movev (v := .int .i64 _) rfl) ?_
        refine qq hS (g_assignv (v := .int .i64 _) rfl) ?_
        refine qq hS (g_assignv (v := .int .i64 _) rfl) ?_
        refine ol_nil (thenN ?_)
        refine wpIn_ret ?_
        refine ret2 Tryz.results102 (rv_tmp (v := .int .i64 _) rfl) (rv_tmp (v := .int .i64 _) rfl) ?_
        refine ⟨?_, hS.nil⟩; simp only [runsS]; simp_all
    ·
      intro hc25
      clear hu22 hn22 hu23 hn23 hu24 hn24
      refine wpIn_skip ?_
      refine thenN ?_
      refine wpIn_seq ?_
      refine wpIn_seq ?_
      refine reg ?_
      refine qq hS (g_fieldAddr (o' := 0) Tryz.underlying60 rfl Tryz.sizeOf4 rfl rfl rfl) ?_
      refine qq hS (g_ldO1 2 Tryz.isAgg4 rfl rfl rfl) ?_
      refine qq hS (g_not rfl) ?_
      refine ol_nil (thenN ?_)
      refine cond_s rfl ?_ ?_
      ·
        intro hc32
        refine wpIn_seq ?_
        refine reg ?_
        refine qq hS (g_assignv (v := .int .i64 _) rfl) ?_
        refine ol_nil (thenN ?_)
        refine wpIn_seq ?_
        refine reg ?_
        refine qq hS (g_movev (v := .bool _) rfl) ?_
        refine qq hS (g_not rfl) ?_
        refine qq hS (g_movev (v := .bool _) rfl) ?_
        refine qu rfl rfl hS (fun hg => (g_ldO 2 (vs := [.bool _, .int .i64 _, .int .u8 _]) Tryz.sizeOf60 Tryz.isAgg60 rfl rfl rfl rfl)) ?_
        intro u36 hu36 hn36
        refine qu rfl rfl hS (fun hg => (g_ldO 1 (vs := [.bool _, .int .i64 _, .int .u8 _]) Tryz.sizeOf60 Tryz.isAgg60 rfl rfl rfl rfl)) ?_
        intro u37 hu37 hn37
        refine qu rfl rfl hS (fun hg => (eqlSym s next (hu36 hg) (hu37 hg))) ?_
        intro u38 hu38 hn38
        refine qq hS (g_and rfl rfl (fun hq => hu38 hq)) ?_
        refine ol_nil (thenN ?_)
        refine cond_s rfl ?_ ?_
        ·
          intro hc39
          clear hu36 hn36 hu37 hn37 hu38 hn38
          refine reg ?_
          refine qq hS (g_movev (v := .int .i64 _) rfl) ?_
          refine qq hS (g_fieldAddr (o' := 11) Tryz.underlying128 rfl Tryz.sizeOf3 rfl rfl rfl) ?_
          refine qq hS (g_ldO1 0 Tryz.isAgg3 rfl rfl rfl) ?_
          refine qq hS (g_add rfl rfl (by omega) (by omega)) ?_
          refine qq hS (g_assignv (v := .int .i64 _) rfl) ?_
          refine ol_nil (thenN ?_)
          refine wpIn_seq ?_
          refine reg ?_
          refine qq hS (g_movev (v := .int .i64 _) rfl) ?_
          refine qq hS (g_movev (v := .int .i64 _) rfl) ?_
          refine qq hS (g_assignv (v := .int .i64 _) rfl) ?_
          refine qq hS (g_assignv (v := .int .i64 _) rfl) ?_
          refine ol_nil (thenN ?_)
          refine wpIn_ret ?_
          refine ret2 Tryz.results102 (rv_tmp (v := .int .i64 _) rfl) (rv_tmp (v := .int .i64 _) rfl) ?_
          refine ⟨?_, hS.nil⟩; simp only [runsS]; simp_all
        ·
          intro hc39
          clear hu36 hn36 hu37 hn37 hu38 hn38
          refine wpIn_skip ?_
          refine thenN ?_
          refine wpIn_seq ?_
          refine reg ?_
          refine qq hS (g_movev (v := .int .i64 _) rfl) ?_
          refine qq hS (g_movev (v := .int .i64 _) rfl) ?_
          refine qq hS (g_assignv (v := .int .i64 _) rfl) ?_
          refine qq hS (g_assignv (v := .int .i64 _) rfl) ?_
          refine ol_nil (thenN ?_)
          refine wpIn_ret ?_
          refine ret2 Tryz.results102 (rv_tmp (v := .int .i64 _) rfl) (rv_tmp (v := .int .i64 _) rfl) ?_
          refine ⟨?_, hS.nil⟩; simp only [runsS]; simp_all
      ·
        intro hc32
        refine wpIn_skip ?_
        refine thenN ?_
        refine wpIn_seq ?_
        refine reg ?_
        refine qq hS (g_movev (v := .int .i64 _) rfl) ?_
        refine qq hS (g_movev (v := .int .i64 _) rfl) ?_
        refine qq hS (g_assignv (v := .int .i64 _) rfl) ?_
        refine qq hS (g_assignv (v := .int .i64 _) rfl) ?_
        refine ol_nil (thenN ?_)
        refine wpIn_ret ?_
        refine ret2 Tryz.results102 (rv_tmp (v := .int .i64 _) rfl) (rv_tmp (v := .int .i64 _) rfl) ?_
        refine ⟨?_, hS.nil⟩; simp only [runsS]; simp_all
  ·
    intro hc18
    clear hu15 hn15 hu16 hn16 hu17 hn17
    refine wpIn_skip ?_
    refine thenN ?_
    refine wpIn_seq ?_
    refine wpIn_seq ?_
    refine reg ?_
    refine qq hS (g_fieldAddr (o' := 0) Tryz.underlying60 rfl Tryz.sizeOf4 rfl rfl rfl) ?_
    refine qq hS (g_ldO1 2 Tryz.isAgg4 rfl rfl rfl) ?_
    refine qq hS (g_not rfl) ?_
    refine ol_nil (thenN ?_)
    refine cond_s rfl ?_ ?_
    ·
      intro hc32
      refine wpIn_seq ?_
      refine reg ?_
      refine qq hS (g_assignv (v := .int .i64 _) rfl) ?_
      refine ol_nil (thenN ?_)
      refine wpIn_seq ?_
      refine reg ?_
      refine qq hS (g_movev (v := .bool _) rfl) ?_
      refine qq hS (g_not rfl) ?_
      refine qq hS (g_movev (v := .bool _) rfl) ?_
      refine qu rfl rfl hS (fun hg => (g_ldO 2 (vs := [.bool _, .int .i64 _, .int .u8 _]) Tryz.sizeOf60 Tryz.isAgg60 rfl rfl rfl rfl)) ?_
      intro u36 hu36 hn36
      refine qu rfl rfl hS (fun hg => (g_ldO 1 (vs := [.bool _, .int .i64 _, .int .u8 _]) Tryz.sizeOf60 Tryz.isAgg60 rfl rfl rfl rfl)) ?_
      intro u37 hu37 hn37
      refine qu rfl rfl hS (fun hg => (eqlSym s next (hu36 hg) (hu37 hg))) ?_
      intro u38 hu38 hn38
      refine qq hS (g_and rfl rfl (fun hq => hu38 hq)) ?_
      refine ol_nil (thenN ?_)
      refine cond_s rfl ?_ ?_
      ·
        intro hc39
        clear hu36 hn36 hu37 hn37 hu38 hn38
        refine reg ?_
        refine qq hS (g_movev (v := .int .i64 _) rfl) ?_
        refine qq hS (g_fieldAddr (o' := 11) Tryz.underlying128 rfl Tryz.sizeOf3 rfl rfl rfl) ?_
        refine qq hS (g_ldO1 0 Tryz.isAgg3 rfl rfl rfl) ?_
        refine qq hS (g_add rfl rfl (by omega) (by omega)) ?_
        refine qq hS (g_assignv (v := .int .i64 _) rfl) ?_
        refine ol_nil (thenN ?_)
        refine wpIn_seq ?_
        refine reg ?_
        refine qq hS (g_movev (v := .int .i64 _) rfl) ?_
        refine qq hS (g_movev (v := .int .i64 _) rfl) ?_
        refine qq hS (g_assignv (v := .int .i64 _) rfl) ?_
        refine qq hS (g_assignv (v := .int .i64 _) rfl) ?_
        refine ol_nil (thenN ?_)
        refine wpIn_ret ?_
        refine ret2 Tryz.results102 (rv_tmp (v := .int .i64 _) rfl) (rv_tmp (v := .int .i64 _) rfl) ?_
        refine ⟨?_, hS.nil⟩; simp only [runsS]; simp_all
      ·
        intro hc39
        clear hu36 hn36 hu37 hn37 hu38 hn38
        refine wpIn_skip ?_
        refine thenN ?_
        refine wpIn_seq ?_
        refine reg ?_
        refine qq hS (g_movev (v := .int .i64 _) rfl) ?_
        refine qq hS (g_movev (v := .int .i64 _) rfl) ?_
        refine qq hS (g_assignv (v := .int .i64 _) rfl) ?_
        refine qq hS (g_assignv (v := .int .i64 _) rfl) ?_
        refine ol_nil (thenN ?_)
        refine wpIn_ret ?_
        refine ret2 Tryz.results102 (rv_tmp (v := .int .i64 _) rfl) (rv_tmp (v := .int .i64 _) rfl) ?_
        refine ⟨?_, hS.nil⟩; simp only [runsS]; simp_all
    ·
      intro hc32
      refine wpIn_skip ?_
      refine thenN ?_
      refine wpIn_seq ?_
      refine reg ?_
      refine qq hS (g_movev (v := .int .i64 _) rfl) ?_
      refine qq hS (g_movev (v := .int .i64 _) rfl) ?_
      refine qq hS (g_assignv (v := .int .i64 _) rfl) ?_
      refine qq hS (g_assignv (v := .int .i64 _) rfl) ?_
      refine ol_nil (thenN ?_)
      refine wpIn_ret ?_
      refine ret2 Tryz.results102 (rv_tmp (v := .int .i64 _) rfl) (rv_tmp (v := .int .i64 _) rfl) ?_
      refine ⟨?_, hS.nil⟩; simp only [runsS]; simp_all

theorem try_c (b o : Nat) (T : TypeId) (pre post : List Value) (ho : o = pre.length) (p : Pl) (k len : Int) (c : Pr) (w : World) (I : Imm) (hI : Sat I w) (hb : w.heap[b]? = some (.cells (pre ++ (plC p ++ post)).toArray T (0, 0))) (hn : I b = none) :
    Ctr Tryz.prog 103 [.pointer (some ⟨b, o, none⟩), .int .i64 k, .int .i64 len, prV c] w (fun v w' => v = .tuple #[] ∧ St [b] w I I w' [.cel b T (pre ++ (plC (tryS p k len c) ++ post))]) := by
  refine fn (n := 33) Tryz.func103 rfl rfl rfl ?_
  have hS := St.startX hI hb hn
  refine wpIn_seq ?_
  refine reg ?_
  refine qe (d_box (cs := [.int .i64 _, .int .i64 _]) hS rfl) ?_
  clear hS
  rintro _ w_1 ⟨b_1, rfl, hS⟩
  refine ol_nil (thenN ?_)
  refine wpIn_seq ?_
  refine draw (.cons 0 .pure (.cons 1 .pure (.cons 2 .pure (.cons 3 .held (.cons 4 .pure (.cons 5 .pure (.cons 6 .held (.cons 7 .pure (.cons 8 .pure (.cons 9 .pure (.cons 10 .held (.cons 11 .eff (.cons 12 .pure .nil))))))))))))) mixed (by kernel_rfl) hS ?_
  intro w_2 hS
  refine sp rfl (g_move _) ?_
  refine sp rfl (g_nilCheck rfl) ?_
  refine sp rfl (g_fieldAddr (o' := o + 2) Tryz.underlying128 rfl Tryz.sizeOf3 rfl rfl rfl) ?_
  refine sh rfl (g_ldF1 1 (c := 2) Tryz.isAgg3 rfl ho rfl rfl) ?_
  refine sp rfl (g_eql rfl rfl) ?_
  refine sp rfl (g_movev (v := .bool _) rfl) ?_
  refine shu rfl rfl rfl (fun hg => (g_ldO 0 (vs := [.int .i64 _, .int .i64 _]) Tryz.sizeOf126 Tryz.isAgg126 rfl rfl rfl rfl)) ?_
  intro u14 hu14 hn14
  refine spu rfl rfl rfl (fun hg => (g_move _)) ?_
  intro u15 hu15 hn15
  refine spu rfl rfl rfl (fun hg => (g_nilCheck (hu15 hg))) ?_
  intro u16 hu16 hn16
  refine spu rfl rfl rfl (fun hg => (g_fieldAddr (o' := o + 0) Tryz.underlying128 rfl Tryz.sizeOf126 rfl (hu16 hg) rfl)) ?_
  intro u17 hu17 hn17
  refine shu rfl rfl rfl (fun hg => (g_ldF 1 (c := 0) (vs := [.int .i64 _, .int .i64 _]) Tryz.sizeOf126 Tryz.isAgg126 rfl ho (hu17 hg) rfl rfl)) ?_
  intro u18 hu18 hn18
  refine scu rfl rfl rfl hS (fun hg => (d_call Tryz.call126 (ml (hu14 hg) (ml (hu18 hg) ml0)) (less_c c p.best _ I hS.imm))) ?_
  intro w_4 u19 hS hu19 hn19
  refine sp rfl (g_or rfl rfl (fun hq => hu19 hq)) ?_
  refine sn (thenN ?_)
  refine cond_s rfl ?_ ?_
  ·
    intro hc20
    clear hu14 hn14 hu15 hn15 hu16 hn16 hu17 hn17 hu18 hn18 hu19 hn19
    have e : tryS p k len c = { p with kind := k, length := len, best := c } := if_pos hc20
    refine drawS [true, false] (.cons 0 .pure (.cons 1 .pure (.cons 2 .pure (.cons 3 .pure (.cons 4 .pure (.cons 5 .held (.cons 6 .pure (.cons 7 .pure (.cons 8 .eff (.cons 9 .pure (.cons 10 .pure (.cons 11 .eff (.cons 12 .pure (.cons 13 .pure (.cons 14 .eff .nil))))))))))))))) mixed (by kernel_rfl) hS ?_
    intro w_5 hS
    refine sp rfl (g_move _) ?_
    refine sp rfl (g_move _) ?_
    refine sp rfl (g_move _) ?_
    refine sp rfl (g_movev (v := .int .i64 _) rfl) ?_
    refine sp rfl (g_movev (v := .int .i64 _) rfl) ?_
    refine sh rfl (g_ldO 0 (vs := [.int .i64 _, .int .i64 _]) Tryz.sizeOf126 Tryz.isAgg126 rfl rfl rfl rfl) ?_
    refine sp rfl (g_nilCheck rfl) ?_
    refine sp rfl (g_fieldAddr (o' := o + 2) Tryz.underlying128 rfl Tryz.sizeOf3 rfl rfl rfl) ?_
    have hS0 := hS
    refine se rfl (d_storeF 1 (c := 2) hS Tryz.sizeOf3 rfl ho rfl rfl (vs := [.int .i64 _]) rfl rfl rfl (Nat.le_of_ble_eq_true rfl) (row' := [_, _, _, _, _, _, _, _, _, _, _, _]) rfl) ?_
    rintro _ w_6 ⟨rfl, hS⟩
    refine ⟨_, _, fun _ h => h, hS.sel [true, false], ?_⟩
    refine sp rfl (g_nilCheck rfl) ?_
    refine sp rfl (g_fieldAddr (o' := o + 3) Tryz.underlying128 rfl Tryz.sizeOf3 rfl rfl rfl) ?_
    have hS0 := hS
    refine se rfl (d_storeF 1 (c := 3) hS Tryz.sizeOf3 rfl ho rfl rfl (vs := [.int .i64 _]) rfl rfl rfl (Nat.le_of_ble_eq_true rfl) (row' := [_, _, _, _, _, _, _, _, _, _, _, _]) rfl) ?_
    rintro _ w_7 ⟨rfl, hS⟩
    refine ⟨_, _, fun _ h => h, hS.sel [true, false], ?_⟩
    refine sp rfl (g_nilCheck rfl) ?_
    refine sp rfl (g_fieldAddr (o' := o + 0) Tryz.underlying128 rfl Tryz.sizeOf126 rfl rfl rfl) ?_
    have hS0 := hS
    refine se rfl (d_storeF 1 (c := 0) hS Tryz.sizeOf126 rfl ho rfl rfl (vs := [.int .i64 _, .int .i64 _]) rfl rfl rfl (Nat.le_of_ble_eq_true rfl) (row' := [_, _, _, _, _, _, _, _, _, _, _, _]) rfl) ?_
    rintro _ w_8 ⟨rfl, hS⟩
    refine ⟨_, _, fun _ h => h, hS.sel [true, false], ?_⟩
    refine sn ?_
    refine end0 Tryz.results103  ?_
    rw [e]; exact ⟨rfl, hS.sel [false, true]⟩
  ·
    intro hc20
    clear hu14 hn14 hu15 hn15 hu16 hn16 hu17 hn17 hu18 hn18 hu19 hn19
    have e : tryS p k len c = p := if_neg (by rw [hc20]; decide)
    refine wpIn_skip ?_
    refine end0 Tryz.results103  ?_
    rw [e]; exact ⟨rfl, hS.sel [false, true]⟩

end Go.Proofs.YtlhehhhpaebpoaaGreat

