/- normal.Form and normal.Same: what they compute. Conditions: numbers within bounds. -/
import Derived.Test.YtodopmclnklgdaaGreatNormal
namespace Go.Proofs.YtodopmclnklgdaaGreat
open Go Go.RowKit Go.Inl
set_option linter.unusedSimpArgs false
set_option linter.unusedVariables false
theorem symsOf_wf {p : PatL} (hp : p.wf) : ∀ s ∈ (symbolsP p).1, s.wf := by
  intro s hs
  unfold symbolsP at hs
  split at hs
  · rename_i h
    obtain ⟨h1, h2, h3, h4, h5, h6, h7⟩ := checkP_ok h
    simp only [symsOf, List.mem_flatMap, symsOp, List.mem_map, List.mem_range] at hs
    obtain ⟨x, hx, i, hi, rfl⟩ := hs
    obtain ⟨l1, l2⟩ := h1 x hx
    have hw := hp.ops x hx
    obtain ⟨⟨k1, k2⟩, ⟨f1, f2⟩, ⟨q1, q2⟩, ⟨b1, b2⟩, hdat⟩ := hw
    have hd : 0 ≤ x.data.getD i 0 ∧ x.data.getD i 0 ≤ 255 := by
      rw [List.getD_eq_getElem?_getD]
      cases e : x.data[i]? with
      | none => simp
      | some y => exact hdat y (List.mem_of_getElem? e)
    unfold rightP insideP at l2
    unfold symS
    split at l2
    · rename_i hk; simp only [Bool.and_eq_true, decide_eq_true_eq] at l2; rw [if_pos hk]; exact ⟨by dsimp only; omega, by dsimp only; omega, by dsimp only; omega, by dsimp only; omega⟩
    · rename_i hk; rw [if_neg hk]
      split at l2
      · rename_i hk; simp only [Bool.and_eq_true, decide_eq_true_eq] at l2; rw [if_pos hk]; exact ⟨by dsimp only; omega, by dsimp only; omega, hd.1, hd.2⟩
      · rename_i hk; rw [if_neg hk]
        split at l2
        · rename_i hk; rw [if_pos hk]; exact ⟨by dsimp only; omega, by dsimp only; omega, b1, b2⟩
        · rename_i hk; rw [if_neg hk]
          split at l2
          · rename_i hk; rw [if_pos hk]; exact ⟨by dsimp only; omega, by dsimp only; omega, hd.1, hd.2⟩
          · cases l2
  · simp at hs
theorem symbols_c (p : PatL) (ad : Option Addr) (m cap : Nat) (w0 : World) (I0 : Imm) (hI : Sat I0 w0) (hops : ROps I0 (.slice ad m cap) p.ops) (hp : p.wf) :
    Ctr Tryz.prog 49 [.agg #[.bool p.lifted, .int .i64 p.in_, .int .i64 p.out, .slice ad m cap]] w0 (fun v w' => ∃ I' a c, v = .tuple #[.slice a (symbolsP p).1.length c, .int .i64 (symbolsP p).2] ∧ Ext w0 I0 w' I' ∧ RSyms I' (.slice a (symbolsP p).1.length c) (symbolsP p).1) :=
  (symbols_o p ad m cap w0 I0 hI hops hp).mono fun v w' ⟨a, c, hv, hS⟩ => by
    obtain ⟨I1, hE, _, hr⟩ := row_freeze1 symC_len hS rfl
    exact ⟨I1, a, c, hv, hE, hr⟩
def shapeV (a : Bool) (n : Int) : Value := .agg #[.bool a, .int .i64 n]
theorem eqlShape {n : Nat} {σ : Nat → Value} {S : World → Prop} {ty t' : TypeId} {x y : Operand} (a b : Bool) (c d : Int) (hx : ev n σ x = shapeV a c) (hy : ev n σ y = shapeV b d) : Gives Tryz.prog (ev n σ) S (.binOp .eql 94 x y t') ty (.bool ((a == b) && decide (c = d))) := fun w _ => by
  have hg : (eqGuard .eql 94 x y (shapeV a c) (shapeV b d)).run Tryz.prog w = .ok () w := by simp [eqGuard, shapeV, go_sem, Tryz.eqGuardType94]
  have hb : (binOp .eql 94 (shapeV a c) (shapeV b d)).run Tryz.prog w = .ok (.bool ((a == b) && decide (c = d))) w := by
    simp [shapeV, go_sem]
    by_cases h1 : a = b <;> by_cases h2 : c = d <;> simp [h1, h2]
  simp only [execOp, hx, hy, Sem.run_bind, hg, Result.andThen_ok, hb]; rfl
theorem neqSym {n : Nat} {σ : Nat → Value} {S : World → Prop} {ty t' : TypeId} {x y : Operand} (a b : Sym) (hx : ev n σ x = symV a) (hy : ev n σ y = symV b) : Gives Tryz.prog (ev n σ) S (.binOp .neq 81 x y t') ty (.bool (!symEq a b)) := fun w _ => by
  have hg : (eqGuard .neq 81 x y (symV a) (symV b)).run Tryz.prog w = .ok () w := by simp [eqGuard, symV, go_sem, Tryz.eqGuardType81]
  have hb : (binOp .neq 81 (symV a) (symV b)).run Tryz.prog w = .ok (.bool (!symEq a b)) w := by
    simp [symV, go_sem, symEq]
    by_cases h1 : a.old = b.old <;> by_cases h2 : a.at_ = b.at_ <;> by_cases h3 : a.b = b.b <;> simp [h1, h2, h3]
  simp only [execOp, hx, hy, Sem.run_bind, hg, Result.andThen_ok, hb]; rfl
/-- Two lists of symbols are equal as far as a place. -/
def symsGo (a b : List Sym) (k : Nat) : Bool := ((a.zip b).drop k).all fun p => symEq p.1 p.2
theorem symsGo_step {a b : List Sym} {k : Nat} {x y : Sym} (hx : a[k]? = some x) (hy : b[k]? = some y) : symsGo a b k = (symEq x y && symsGo a b (k + 1)) := by
  have h : (a.zip b)[k]? = some (x, y) := List.getElem?_zip_eq_some.2 ⟨hx, hy⟩
  unfold symsGo
  rw [drop_cons h]; rfl
theorem symsGo_end {a b : List Sym} {k : Nat} (h : a.length ≤ k) : symsGo a b k = true := by
  unfold symsGo
  rw [List.drop_of_length_le (by rw [List.length_zip]; omega)]; rfl

theorem form_c (p : PatL) (ad : Option Addr) (m cap : Nat) (w0 : World) (I0 : Imm) (hI : Sat I0 w0) (hops : ROps I0 (.slice ad m cap) p.ops) (hp : p.wf) :
    Ctr Tryz.prog 14 [.agg #[.bool p.lifted, .int .i64 p.in_, .int .i64 p.out, .slice ad m cap]] w0 (fun v w' => ∃ I' a m c, v = .tuple #[.agg #[.bool (formP p).1.lifted, .int .i64 (formP p).1.in_, .int .i64 (formP p).1.out, .slice a m c], .int .i64 (formP p).2] ∧ Ext w0 I0 w' I' ∧ ROps I' (.slice a m c) (formP p).1.ops) := by
  refine fn (n := 30) Tryz.func14 rfl rfl rfl ?_
  have hS := St.start hI
  refine wpIn_seq ?_
  refine reg ?_
  refine qe (d_box (cs := [.bool _, .int .i64 _, .int .i64 _, .slice _ _ _]) hS rfl) ?_
  clear hS
  rintro _ w_1 ⟨b1, rfl, hS⟩
  refine qe (d_alloc (cs := [.bool _, .int .i64 _, .int .i64 _, .slice _ _ _]) hS Tryz.zeroValue29 rfl) ?_
  clear hS
  rintro _ w_2 ⟨b2, rfl, hS⟩
  refine qq hS (g_assignv (v := .int .i64 _) rfl) ?_
  refine ol_nil (thenN ?_)
  refine wpIn_seq ?_
  refine reg ?_
  refine qq hS (g_ldO 1 (vs := [.bool _, .int .i64 _, .int .i64 _, .slice _ _ _]) Tryz.sizeOf29 Tryz.isAgg29 rfl rfl rfl rfl) ?_
  refine qe (d_call Tryz.call49 rfl (symbols_c p ad m cap _ I0 hS.imm hops hp)) ?_
  rintro _ w_3 ⟨I1, a1, c1, rfl, hE, hr⟩
  replace hS := hS.callE hE
  refine qq hS (g_move _) ?_
  refine qq hS (g_extract rfl rfl) ?_
  refine qq hS (g_extract (v := .int .i64 _) rfl rfl) ?_
  refine qq hS (g_assign _) ?_
  refine qq hS (g_assignv (v := .int .i64 _) rfl) ?_
  refine ol_nil (thenN ?_)
  refine wpIn_seq ?_
  refine wpIn_seq ?_
  refine reg ?_
  refine qq hS (g_movev (v := .int .i64 _) rfl) ?_
  refine qq hS (g_neq rfl rfl) ?_
  refine ol_nil (thenN ?_)
  refine cond_s rfl ?_ ?_
  ·
    intro hc13
    simp only [Bool.not_eq_true', Bool.not_eq_false', decide_eq_true_eq, decide_eq_false_iff_not] at hc13
    have e : formP p = (PatL.zero, (symbolsP p).2) := by unfold formP; rw [if_neg hc13]
    refine wpIn_seq ?_
    refine reg ?_
    refine qq hS (g_buildv (pl := [(0, 1), (1, 1), (2, 1), (3, 1)]) (cs := [.bool _, .int .i64 _, .int .i64 _, .slice _ _ _]) Tryz.zeroValue29 Tryz.underlying29 (fun w => by simp [Tryz.sizeOf27, Tryz.sizeOf3, Tryz.sizeOf4]) mp0 rfl) ?_
    refine qq hS (g_movev (v := .int .i64 _) rfl) ?_
    refine qe (d_store 0 hS Tryz.sizeOf29 rfl rfl rfl (vs := [.bool _, .int .i64 _, .int .i64 _, .slice _ _ _]) rfl rfl rfl (Nat.le_of_ble_eq_true rfl) (cs' := [_, _, _, _]) rfl) ?_
    clear hS
    rintro _ w_4 ⟨rfl, hS⟩
    refine qq hS (g_assignv (v := .int .i64 _) rfl) ?_
    refine ol_nil (thenN ?_)
    refine wpIn_ret ?_
    refine thenR ?_
    refine ret2 Tryz.results14 (rv_cel 0 hS Tryz.sizeOf29 Tryz.isAgg29 rfl rfl rfl) (rv_tmp (v := .int .i64 _) rfl) ?_
    rw [e]; exact ⟨I1, none, 0, 0, rfl, hS.nil, RSl.nilR⟩
  ·
    intro hc13
    simp only [Bool.not_eq_true', Bool.not_eq_false', decide_eq_true_eq, decide_eq_false_iff_not] at hc13
    refine wpIn_skip ?_
    refine thenN ?_
    refine wpIn_seq ?_
    refine reg ?_
    refine qq hS (g_move _) ?_
    refine qq hS (g_fieldAddr (o' := 1) Tryz.underlying29 rfl Tryz.sizeOf3 rfl rfl rfl) ?_
    refine qq hS (g_ldO1 1 Tryz.isAgg3 rfl rfl rfl) ?_
    refine qe (d_call Tryz.call47 rfl (cheapest_c a1 c1 (symbolsP p).1 p.in_ _ I1 hS.imm hr (symsOf_wf hp))) ?_
    rintro _ w_5 ⟨I2, a2, m2, c2, rfl, hE, hr2⟩
    replace hS := hS.callE hE
    refine qq hS (g_move _) ?_
    refine qq hS (g_extract rfl rfl) ?_
    refine qq hS (g_extract (v := .int .i64 _) rfl rfl) ?_
    refine qe (d_alloc (cs := [.bool _, .int .i64 _, .int .i64 _, .slice _ _ _]) hS Tryz.zeroValue29 rfl) ?_
    clear hS
    rintro _ w_6 ⟨b6, rfl, hS⟩
    refine qe (d_store 0 hS Tryz.sizeOf29 rfl rfl rfl (vs := [.bool _, .int .i64 _, .int .i64 _, .slice _ _ _]) rfl rfl rfl (Nat.le_of_ble_eq_true rfl) (cs' := [_, _, _, _]) rfl) ?_
    clear hS
    rintro _ w_7 ⟨rfl, hS⟩
    refine qq hS (g_assignv (v := .int .i64 _) rfl) ?_
    refine ol_nil (thenN ?_)
    refine wpIn_seq ?_
    refine wpIn_seq ?_
    refine reg ?_
    refine qq hS (g_movev (v := .int .i64 _) rfl) ?_
    refine qq hS (g_eql rfl rfl) ?_
    refine ol_nil (thenN ?_)
    refine cond_s rfl ?_ ?_
    ·
      intro hc24
      try simp only [Bool.and_eq_true, Bool.or_eq_true, Bool.not_eq_true', Bool.and_eq_false_imp, Bool.or_eq_false_iff, Bool.not_eq_false', decide_eq_true_eq, decide_eq_false_iff_not] at hc24
      have e : formP p = ({ (cheapP (symbolsP p).1 p.in_).1 with lifted := p.lifted }, (cheapP (symbolsP p).1 p.in_).2) := by unfold formP; rw [if_pos hc13]; exact (if_pos hc24).trans (by rw [hc24])
      refine reg ?_
      refine qq hS (g_fieldAddr (o' := 0) Tryz.underlying29 rfl Tryz.sizeOf4 rfl rfl rfl) ?_
      refine qq hS (g_ldO1 2 Tryz.isAgg4 rfl rfl rfl) ?_
      refine qq hS (g_fieldAddr (o' := 0) Tryz.underlying29 rfl Tryz.sizeOf4 rfl rfl rfl) ?_
      refine qe (d_store 0 hS Tryz.sizeOf4 rfl rfl rfl (vs := [.bool _]) rfl rfl rfl (Nat.le_of_ble_eq_true rfl) (cs' := [_, _, _, _]) rfl) ?_
      clear hS
      rintro _ w_8 ⟨rfl, hS⟩
      refine ol_nil (thenN ?_)
      refine wpIn_seq ?_
      refine reg ?_
      refine qq hS (g_ldO 0 (vs := [.bool _, .int .i64 _, .int .i64 _, .slice _ _ _]) Tryz.sizeOf29 Tryz.isAgg29 rfl rfl rfl rfl) ?_
      refine qq hS (g_movev (v := .int .i64 _) rfl) ?_
      refine qe (d_store 1 hS Tryz.sizeOf29 rfl rfl rfl (vs := [.bool _, .int .i64 _, .int .i64 _, .slice _ _ _]) rfl rfl rfl (Nat.le_of_ble_eq_true rfl) (cs' := [_, _, _, _]) rfl) ?_
      clear hS
      rintro _ w_9 ⟨rfl, hS⟩
      refine qq hS (g_assignv (v := .int .i64 _) rfl) ?_
      refine ol_nil (thenN ?_)
      refine wpIn_ret ?_
      refine ret2 Tryz.results14 (rv_cel 1 hS Tryz.sizeOf29 Tryz.isAgg29 rfl rfl rfl) (rv_tmp (v := .int .i64 _) rfl) ?_
      rw [e]; exact ⟨I2, a2, m2, c2, rfl, hS.nil, hr2⟩
    ·
      intro hc24
      try simp only [Bool.and_eq_true, Bool.or_eq_true, Bool.not_eq_true', Bool.and_eq_false_imp, Bool.or_eq_false_iff, Bool.not_eq_false', decide_eq_true_eq, decide_eq_false_iff_not] at hc24
      have e : formP p = cheapP (symbolsP p).1 p.in_ := by unfold formP; rw [if_pos hc13]; exact if_neg hc24
      refine wpIn_skip ?_
      refine thenN ?_
      refine wpIn_seq ?_
      refine reg ?_
      refine qq hS (g_ldO 0 (vs := [.bool _, .int .i64 _, .int .i64 _, .slice _ _ _]) Tryz.sizeOf29 Tryz.isAgg29 rfl rfl rfl rfl) ?_
      refine qq hS (g_movev (v := .int .i64 _) rfl) ?_
      refine qe (d_store 1 hS Tryz.sizeOf29 rfl rfl rfl (vs := [.bool _, .int .i64 _, .int .i64 _, .slice _ _ _]) rfl rfl rfl (Nat.le_of_ble_eq_true rfl) (cs' := [_, _, _, _]) rfl) ?_
      clear hS
      rintro _ w_10 ⟨rfl, hS⟩
      refine qq hS (g_assignv (v := .int .i64 _) rfl) ?_
      refine ol_nil (thenN ?_)
      refine wpIn_ret ?_
      refine ret2 Tryz.results14 (rv_cel 1 hS Tryz.sizeOf29 Tryz.isAgg29 rfl rfl rfl) (rv_tmp (v := .int .i64 _) rfl) ?_
      rw [e]; exact ⟨I2, a2, m2, c2, rfl, hS.nil, hr2⟩

theorem equal_c (va vb : Value) (a b : List Sym) (w0 : World) (I0 : Imm) (hI : Sat I0 w0) (ha : RSyms I0 va a) (hb : RSyms I0 vb b) :
    Ctr Tryz.prog 51 [va, vb] w0 (fun v w' => v = .bool (symsEq a b) ∧ Ext w0 I0 w' I0) := by
  have hle := RSl.le ha
  simp only [maxLen] at hle
  refine fn (n := 26) Tryz.func51 rfl rfl rfl ?_
  have hS := St.start hI
  refine wpIn_seq ?_
  refine reg ?_
  refine qq hS (g_assignv (v := .bool _) rfl) ?_
  refine ol_nil (thenN ?_)
  refine wpIn_seq ?_
  refine wpIn_seq ?_
  refine reg ?_
  refine qq hS (g_move _) ?_
  refine qq hS (g_lenI rfl Tryz.underlying83 ha rfl) ?_
  refine qq hS (g_move _) ?_
  refine qq hS (g_lenI rfl Tryz.underlying83 hb rfl) ?_
  refine qq hS (g_neq rfl rfl) ?_
  refine ol_nil (thenN ?_)
  refine cond_s rfl ?_ ?_
  ·
    intro hc10
    simp only [Bool.not_eq_true', Bool.not_eq_false', decide_eq_true_eq, decide_eq_false_iff_not] at hc10
    have e : symsEq a b = false := by unfold symsEq; rw [decide_eq_false (by omega)]; rfl
    refine wpIn_seq ?_
    refine reg ?_
    refine qq hS (g_assignv (v := .bool _) rfl) ?_
    refine ol_nil (thenN ?_)
    refine wpIn_ret ?_
    refine thenR ?_
    refine ret1 Tryz.results51 (rv_tmp (v := .bool _) rfl) ?_
    rw [e]; exact ⟨rfl, hS.nil⟩
  ·
    intro hc10
    simp only [Bool.not_eq_true', Bool.not_eq_false', decide_eq_true_eq, decide_eq_false_iff_not] at hc10
    have hlen : a.length = b.length := by omega
    have e0 : symsEq a b = symsGo a b 0 := by unfold symsEq symsGo; rw [decide_eq_true hlen]; rfl
    refine wpIn_skip ?_
    refine thenN ?_
    refine wpIn_seq ?_
    refine wpIn_seq ?_
    refine reg ?_
    refine qq hS (g_move _) ?_
    refine qq hS (g_lenI rfl Tryz.underlying83 ha rfl) ?_
    refine qq hS (g_movev (v := .int .i64 _) rfl) ?_
    refine ol_nil (thenN ?_)
    refine wpIn_block ?_
    refine loop (fun (k : Nat) σ w => okS σ [(0, va), (1, vb), (12, .int .i64 a.length), (13, .int .i64 k)] ∧ St [] w0 I0 I0 w [] ∧ k ≤ a.length ∧ symsGo a b 0 = symsGo a b k) (fun k => a.length - k) (0) ?_ ?_
    ·
      exact ⟨⟨rfl, rfl, rfl, rfl, trivial⟩, hS.sel [], by simp, rfl⟩
    ·
      rintro k σ w_l ⟨hs, hS, hk0, hgo⟩
      rw [← upds_self hs]; clear hs
      refine wpIn_seq ?_
      refine reg ?_
      refine qq hS (g_lss rfl rfl) ?_
      refine ol_nil (thenN ?_)
      refine wpIn_seq ?_
      refine cond_s rfl ?_ ?_
      ·
        intro hc14
        try simp only [Bool.and_eq_true, Bool.or_eq_true, Bool.not_eq_true', Bool.and_eq_false_imp, Bool.or_eq_false_iff, Bool.not_eq_false', decide_eq_true_eq, decide_eq_false_iff_not] at hc14
        obtain ⟨s, hsi⟩ : ∃ s, a[k]? = some s := ⟨_, List.getElem?_eq_getElem (by omega)⟩
        have hsA := ha.at hsi
        obtain ⟨t, hti⟩ : ∃ t, b[k]? = some t := ⟨_, List.getElem?_eq_getElem (by omega)⟩
        have htA := hb.at hti
        refine wpIn_skip ?_
        refine thenN ?_
        refine wpIn_seq ?_
        refine wpIn_block ?_
        refine wpIn_seq ?_
        refine reg ?_
        refine qq hS (g_movev (v := .int .i64 _) rfl) ?_
        refine qq hS (g_assignv (v := .int .i64 _) rfl) ?_
        refine ol_nil (thenN ?_)
        refine wpIn_seq ?_
        refine draw (.cons 0 .pure (.cons 1 .pure (.cons 2 .pure (.cons 3 .held (.cons 4 .pure (.cons 5 .pure (.cons 6 .pure (.cons 7 .held (.cons 8 .pure .nil))))))))) mixed (by kernel_rfl) hS ?_
        intro w_1 hS
        refine sp rfl (g_move _) ?_
        refine sp rfl (g_movev (v := .int .i64 _) rfl) ?_
        refine sp rfl (g_ixI Tryz.underlying83 Tryz.sizeOf81 ha rfl rfl (by omega) (by omega)) ?_
        refine sh rfl (g_ldE (us := [.bool _, .int .i64 _, .int .u8 _]) Tryz.sizeOf81 Tryz.isAgg81 hsA rfl rfl rfl) ?_
        refine sp rfl (g_move _) ?_
        refine sp rfl (g_movev (v := .int .i64 _) rfl) ?_
        refine sp rfl (g_ixI Tryz.underlying83 Tryz.sizeOf81 hb rfl rfl (by omega) (by omega)) ?_
        refine sh rfl (g_ldE (us := [.bool _, .int .i64 _, .int .u8 _]) Tryz.sizeOf81 Tryz.isAgg81 htA rfl rfl rfl) ?_
        refine sp rfl (neqSym s t rfl rfl) ?_
        refine sn (thenN ?_)
        refine cond_s rfl ?_ ?_
        ·
          intro hc24
          simp only [Bool.not_eq_true', Bool.not_eq_false'] at hc24
          have e : symsEq a b = false := by rw [e0, hgo, symsGo_step hsi hti, hc24]; rfl
          refine wpIn_seq ?_
          refine reg ?_
          refine qq hS (g_assignv (v := .bool _) rfl) ?_
          refine ol_nil (thenN ?_)
          refine wpIn_ret ?_
          refine blkR (thenR (thenR (blkR (thenR ?_))))
          refine ret1 Tryz.results51 (rv_tmp (v := .bool _) rfl) ?_
          rw [e]; exact ⟨rfl, hS.nil⟩
        ·
          intro hc24
          simp only [Bool.not_eq_true', Bool.not_eq_false'] at hc24
          refine wpIn_skip ?_
          refine blkN (thenN ?_)
          refine reg ?_
          refine qq hS (g_add rfl rfl (by omega) (by omega)) ?_
          refine qq hS (g_movev (v := .int .i64 _) rfl) ?_
          refine ol_nil (thenN ?_)
          exact ⟨k + 1, _, rfl, ⟨⟨rfl, rfl, rfl, rfl, trivial⟩, hS.sel [], by omega, by rw [hgo, symsGo_step hsi hti, hc24]; rfl⟩, by omega⟩
      ·
        intro hc14
        try simp only [Bool.and_eq_true, Bool.or_eq_true, Bool.not_eq_true', Bool.and_eq_false_imp, Bool.or_eq_false_iff, Bool.not_eq_false', decide_eq_true_eq, decide_eq_false_iff_not] at hc14
        have e : symsEq a b = true := by rw [e0, hgo, symsGo_end (by omega)]
        refine wpIn_exit ?_
        refine thenE (thenE (blkE ?_))
        refine thenN ?_
        refine wpIn_seq ?_
        refine reg ?_
        refine qq hS (g_assignv (v := .bool _) rfl) ?_
        refine ol_nil (thenN ?_)
        refine wpIn_ret ?_
        refine ret1 Tryz.results51 (rv_tmp (v := .bool _) rfl) ?_
        rw [e]; exact ⟨rfl, hS.nil⟩

theorem same_c (p q : PatL) (ad bd : Option Addr) (m cap mb capb : Nat) (w0 : World) (I0 : Imm) (hI : Sat I0 w0) (hops : ROps I0 (.slice ad m cap) p.ops) (hp : p.wf) (hoq : ROps I0 (.slice bd mb capb) q.ops) (hq : q.wf) :
    Ctr Tryz.prog 16 [.agg #[.bool p.lifted, .int .i64 p.in_, .int .i64 p.out, .slice ad m cap], .agg #[.bool q.lifted, .int .i64 q.in_, .int .i64 q.out, .slice bd mb capb]] w0 (fun v w' => ∃ I', v = .bool (sameP p q) ∧ Ext w0 I0 w' I') := by
  refine fn (n := 43) Tryz.func16 rfl rfl rfl ?_
  have hS := St.start hI
  refine wpIn_seq ?_
  refine reg ?_
  refine qe (d_box (cs := [.bool _, .int .i64 _, .int .i64 _, .slice _ _ _]) hS rfl) ?_
  clear hS
  rintro _ w_1 ⟨b2, rfl, hS⟩
  refine qe (d_box (cs := [.bool _, .int .i64 _, .int .i64 _, .slice _ _ _]) hS rfl) ?_
  clear hS
  rintro _ w_2 ⟨b3, rfl, hS⟩
  refine qq hS (g_assignv (v := .bool _) rfl) ?_
  refine ol_nil (thenN ?_)
  refine wpIn_seq ?_
  refine reg ?_
  refine qq hS (g_ldO 1 (vs := [.bool _, .int .i64 _, .int .i64 _, .slice _ _ _]) Tryz.sizeOf29 Tryz.isAgg29 rfl rfl rfl rfl) ?_
  refine qe (d_call Tryz.call49 rfl (symbols_c p ad m cap _ I0 hS.imm hops hp)) ?_
  rintro _ w_3 ⟨I1, a1, c1, rfl, hE, hr⟩
  replace hS := hS.callE hE
  refine qq hS (g_move _) ?_
  refine qq hS (g_extract rfl rfl) ?_
  refine qq hS (g_extract (v := .int .i64 _) rfl rfl) ?_
  refine qq hS (g_assign _) ?_
  refine qq hS (g_assignv (v := .int .i64 _) rfl) ?_
  refine ol_nil (thenN ?_)
  refine wpIn_seq ?_
  refine reg ?_
  refine qq hS (g_ldO 0 (vs := [.bool _, .int .i64 _, .int .i64 _, .slice _ _ _]) Tryz.sizeOf29 Tryz.isAgg29 rfl rfl rfl rfl) ?_
  refine qe (d_call Tryz.call49 rfl (symbols_c q bd mb capb _ I1 hS.imm (hoq.mono hS.ext) hq)) ?_
  rintro _ w_4 ⟨I2, a2, c2, rfl, hE, hr2⟩
  replace hS := hS.callE hE
  refine qq hS (g_move _) ?_
  refine qq hS (g_extract rfl rfl) ?_
  refine qq hS (g_extract (v := .int .i64 _) rfl rfl) ?_
  refine qq hS (g_assign _) ?_
  refine qq hS (g_assignv (v := .int .i64 _) rfl) ?_
  refine ol_nil (thenN ?_)
  refine wpIn_seq ?_
  refine reg ?_
  refine qq hS (g_movev (v := .int .i64 _) rfl) ?_
  refine qq hS (g_eql rfl rfl) ?_
  refine qq hS (g_movev (v := .bool _) rfl) ?_
  refine qu rfl rfl hS (fun hg => (g_movev (v := .int .i64 _) rfl)) ?_
  intro u22 hu22 hn22
  refine qu rfl rfl hS (fun hg => (g_eql (hu22 hg) rfl)) ?_
  intro u23 hu23 hn23
  refine qq hS (g_and rfl rfl (fun hq => hu23 hq)) ?_
  refine qq hS (g_movev (v := .bool _) rfl) ?_
  refine qu rfl rfl hS (fun hg => (g_fieldAddr (o' := 0) Tryz.underlying29 rfl Tryz.sizeOf4 rfl rfl rfl)) ?_
  intro u26 hu26 hn26
  refine qu rfl rfl hS (fun hg => (g_ldO1 1 Tryz.isAgg4 rfl (hu26 hg) rfl)) ?_
  intro u27 hu27 hn27
  refine qu rfl rfl hS (fun hg => (g_fieldAddr (o' := 1) Tryz.underlying29 rfl Tryz.sizeOf3 rfl rfl rfl)) ?_
  intro u28 hu28 hn28
  refine qu rfl rfl hS (fun hg => (g_ldO1 1 Tryz.isAgg3 rfl (hu28 hg) rfl)) ?_
  intro u29 hu29 hn29
  refine qu rfl rfl hS (fun hg => (g_buildv (pl := [(0, 1), (1, 1)]) (cs := [.bool _, .int .i64 _]) Tryz.zeroValue94 Tryz.underlying94 (fun w => by simp [Tryz.sizeOf3, Tryz.sizeOf4]) (mp (v := .bool _) (hu27 hg) (mp (v := .int .i64 _) (hu29 hg) mp0)) rfl)) ?_
  intro u30 hu30 hn30
  refine qu rfl rfl hS (fun hg => (g_fieldAddr (o' := 0) Tryz.underlying29 rfl Tryz.sizeOf4 rfl rfl rfl)) ?_
  intro u31 hu31 hn31
  refine qu rfl rfl hS (fun hg => (g_ldO1 0 Tryz.isAgg4 rfl (hu31 hg) rfl)) ?_
  intro u32 hu32 hn32
  refine qu rfl rfl hS (fun hg => (g_fieldAddr (o' := 1) Tryz.underlying29 rfl Tryz.sizeOf3 rfl rfl rfl)) ?_
  intro u33 hu33 hn33
  refine qu rfl rfl hS (fun hg => (g_ldO1 0 Tryz.isAgg3 rfl (hu33 hg) rfl)) ?_
  intro u34 hu34 hn34
  refine qu rfl rfl hS (fun hg => (g_buildv (pl := [(0, 1), (1, 1)]) (cs := [.bool _, .int .i64 _]) Tryz.zeroValue94 Tryz.underlying94 (fun w => by simp [Tryz.sizeOf3, Tryz.sizeOf4]) (mp (v := .bool _) (hu32 hg) (mp (v := .int .i64 _) (hu34 hg) mp0)) rfl)) ?_
  intro u35 hu35 hn35
  refine qu rfl rfl hS (fun hg => (eqlShape p.lifted q.lifted p.in_ q.in_ (hu30 hg) (hu35 hg))) ?_
  intro u36 hu36 hn36
  refine qq hS (g_and rfl rfl (fun hq => hu36 hq)) ?_
  refine qq hS (g_movev (v := .bool _) rfl) ?_
  refine qu rfl rfl hS (fun hg => (g_move _)) ?_
  intro u39 hu39 hn39
  refine qu rfl rfl hS (fun hg => (g_move _)) ?_
  intro u40 hu40 hn40
  refine cvu rfl rfl hS (fun hg => (d_call Tryz.call51 (ml (hu39 hg) (ml (hu40 hg) ml0)) (equal_c _ _ _ _ _ I2 hS.imm (hr.mono hE.ext) hr2))) ?_
  intro w_6 u41 hS hu41 hn41
  refine qq hS (g_and rfl rfl (fun hq => hu41 hq)) ?_
  refine qq hS (g_assignv (v := .bool _) rfl) ?_
  refine ol_nil (thenN ?_)
  refine wpIn_ret ?_
  refine ret1 Tryz.results16 (rv_tmp (v := .bool _) rfl) ?_
  exact ⟨I2, rfl, hS.nil⟩

end Go.Proofs.YtodopmclnklgdaaGreat

