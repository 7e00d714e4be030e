/- normal.Form and normal.Same: what they compute. Conditions: numbers within bounds. -/
import Derived.Test.YtalemnjjljnnpaaNormal
namespace Go.Proofs.Ytalemnjjljnnpaa
open Go Go.RowKit Go.Inl
set_option linter.unusedSimpArgs false
set_option linter.unusedVariables false
theorem symsOf_wf {p : PatL} (hp : p.wf) : ∀ s ∈ (symbolsP p).1, s.wf := by
  intro s hs
  unfold symbolsP at hs
  split at hs
  · rename_i h
    obtain ⟨h1, h2, h3, h4, h5, h6, h7⟩ := checkP_ok h
    simp only [symsOf, List.mem_flatMap, symsOp, List.mem_map, List.mem_range] at hs
    obtain ⟨x, hx, i, hi, rfl⟩ := hs
    obtain ⟨l1, l2⟩ := h1 x hx
    have hw := hp.ops x hx
    obtain ⟨⟨k1, k2⟩, ⟨f1, f2⟩, ⟨q1, q2⟩, ⟨b1, b2⟩, hdat⟩ := hw
    have hd : 0 ≤ x.data.getD i 0 ∧ x.data.getD i 0 ≤ 255 := by
      rw [List.getD_eq_getElem?_getD]
      cases e : x.data[i]? with
      | none => simp
      | some y => exact hdat y (List.mem_of_getElem? e)
    unfold rightP insideP at l2
    unfold symS
    split at l2
    · rename_i hk; simp only [Bool.and_eq_true, decide_eq_true_eq] at l2; rw [if_pos hk]; exact ⟨by dsimp only; omega, by dsimp only; omega, by dsimp only; omega, by dsimp only; omega⟩
    · rename_i hk; rw [if_neg hk]
      split at l2
      · rename_i hk; simp only [Bool.and_eq_true, decide_eq_true_eq] at l2; rw [if_pos hk]; exact ⟨by dsimp only; omega, by dsimp only; omega, hd.1, hd.2⟩
      · rename_i hk; rw [if_neg hk]
        split at l2
        · rename_i hk; rw [if_pos hk]; exact ⟨by dsimp only; omega, by dsimp only; omega, b1, b2⟩
        · rename_i hk; rw [if_neg hk]
          split at l2
          · rename_i hk; rw [if_pos hk]; exact ⟨by dsimp only; omega, by dsimp only; omega, hd.1, hd.2⟩
          · cases l2
  · simp at hs
theorem symbols_c (p : PatL) (ad : Option Addr) (m cap : Nat) (w0 : World) (I0 : Imm) (hI : Sat I0 w0) (hops : ROps I0 (.slice ad m cap) p.ops) (hp : p.wf) :
    Ctr Try.prog 53 [.agg #[.bool p.lifted, .int .i64 p.in_, .int .i64 p.out, .slice ad m cap]] w0 (fun v w' => ∃ I' a c, v = .tuple #[.slice a (symbolsP p).1.length c, .int .i64 (symbolsP p).2] ∧ Ext w0 I0 w' I' ∧ RSyms I' (.slice a (symbolsP p).1.length c) (symbolsP p).1) :=
  (symbols_o p ad m cap w0 I0 hI hops hp).mono fun v w' ⟨a, c, hv, hS⟩ => by
    obtain ⟨I1, hE, _, hr⟩ := row_freeze1 symC_len hS rfl
    exact ⟨I1, a, c, hv, hE, hr⟩
def shapeV (a : Bool) (n : Int) : Value := .agg #[.bool a, .int .i64 n]
theorem neqSym {n : Nat} {σ : Nat → Value} {S : World → Prop} {ty t' : TypeId} {x y : Operand} (a b : Sym) (hx : ev n σ x = symV a) (hy : ev n σ y = symV b) : Gives Try.prog (ev n σ) S (.binOp .neq 57 x y t') ty (.bool (!symEq a b)) := fun w _ => by
  have hg : (eqGuard .neq 57 x y (symV a) (symV b)).run Try.prog w = .ok () w := by simp [eqGuard, symV, go_sem, Try.eqGuardType57]
  have hb : (binOp .neq 57 (symV a) (symV b)).run Try.prog w = .ok (.bool (!symEq a b)) w := by
    simp [symV, go_sem, symEq]
    by_cases h1 : a.old = b.old <;> by_cases h2 : a.at_ = b.at_ <;> by_cases h3 : a.b = b.b <;> simp [h1, h2, h3]
  simp only [execOp, hx, hy, Sem.run_bind, hg, Result.andThen_ok, hb]; rfl
/-- Two lists of symbols are equal as far as a place. -/
def symsGo (a b : List Sym) (k : Nat) : Bool := ((a.zip b).drop k).all fun p => symEq p.1 p.2
theorem symsGo_step {a b : List Sym} {k : Nat} {x y : Sym} (hx : a[k]? = some x) (hy : b[k]? = some y) : symsGo a b k = (symEq x y && symsGo a b (k + 1)) := by
  have h : (a.zip b)[k]? = some (x, y) := List.getElem?_zip_eq_some.2 ⟨hx, hy⟩
  unfold symsGo
  rw [drop_cons h]; rfl
theorem symsGo_end {a b : List Sym} {k : Nat} (h : a.length ≤ k) : symsGo a b k = true := by
  unfold symsGo
  rw [List.drop_of_length_le (by rw [List.length_zip]; omega)]; rfl

theorem form_c (p : PatL) (ad : Option Addr) (m cap : Nat) (w0 : World) (I0 : Imm) (hI : Sat I0 w0) (hops : ROps I0 (.slice ad m cap) p.ops) (hp : p.wf) :
    Ctr Try.prog 28 [.agg #[.bool p.lifted, .int .i64 p.in_, .int .i64 p.out, .slice ad m cap]] w0 (fun v w' => ∃ I' a m c, v = .tuple #[.agg #[.bool (formP p).1.lifted, .int .i64 (formP p).1.in_, .int .i64 (formP p).1.out, .slice a m c], .int .i64 (formP p).2] ∧ Ext w0 I0 w' I' ∧ ROps I' (.slice a m c) (formP p).1.ops) := by
  refine fn (n := 30) Try.func28 rfl rfl rfl ?_
  have hS := St.start hI
  refine wpIn_seq ?_
  refine reg ?_
  refine qe (d_box (cs := [.bool _, .int .i64 _, .int .i64 _, .slice _ _ _]) hS rfl) ?_
  clear hS
  rintro _ w_1 ⟨b1, rfl, hS⟩
  refine qe (d_alloc (cs := [.bool _, .int .i64 _, .int .i64 _, .slice _ _ _]) hS Try.zeroValue31 rfl) ?_
  clear hS
  rintro _ w_2 ⟨b2, rfl, hS⟩
  refine qq hS (g_assignv (v := .int .i64 _) rfl) ?_
  refine ol_nil (thenN ?_)
  refine wpIn_seq ?_
  refine reg ?_
  refine qq hS (g_ldO 1 (vs := [.bool _, .int .i64 _, .int .i64 _, .slice _ _ _]) Try.sizeOf31 Try.isAgg31 rfl rfl rfl rfl) ?_
  refine qe (d_call Try.call53 rfl (symbols_c p ad m cap _ I0 hS.imm hops hp)) ?_
  rintro _ w_3 ⟨I1, a1, c1, rfl, hE, hr⟩
  replace hS := hS.callE hE
  refine qq hS (g_move _) ?_
  refine qq hS (g_extract rfl rfl) ?_
  refine qq hS (g_extract (v := .int .i64 _) rfl rfl) ?_
  refine qq hS (g_assign _) ?_
  refine qq hS (g_assignv (v := .int .i64 _) rfl) ?_
  refine ol_nil (thenN ?_)
  refine wpIn_seq ?_
  refine wpIn_seq ?_
  refine reg ?_
  refine qq hS (g_movev (v := .int .i64 _) rfl) ?_
  refine qq hS (g_neq rfl rfl) ?_
  refine ol_nil (thenN ?_)
  refine cond_s rfl ?_ ?_
  ·
    intro hc13
    simp only [Bool.not_eq_true', Bool.not_eq_false', decide_eq_true_eq, decide_eq_false_iff_not] at hc13
    have e : formP p = (PatL.zero, (symbolsP p).2) := by unfold formP; rw [if_neg hc13]
    refine wpIn_seq ?_
    refine reg ?_
    refine qq hS (g_buildv (pl := [(0, 1), (1, 1), (2, 1), (3, 1)]) (cs := [.bool _, .int .i64 _, .int .i64 _, .slice _ _ _]) Try.zeroValue31 Try.underlying31 (fun w => by simp [Try.sizeOf29, Try.sizeOf3, Try.sizeOf4]) mp0 rfl) ?_
    refine qq hS (g_movev (v := .int .i64 _) rfl) ?_
    refine qe (d_store 0 hS Try.sizeOf31 rfl rfl rfl (vs := [.bool _, .int .i64 _, .int .i64 _, .slice _ _ _]) rfl rfl rfl (Nat.le_of_ble_eq_true rfl) (cs' := [_, _, _, _]) rfl) ?_
    clear hS
    rintro _ w_4 ⟨rfl, hS⟩
    refine qq hS (g_assignv (v := .int .i64 _) rfl) ?_
    refine ol_nil (thenN ?_)
    refine wpIn_ret ?_
    refine thenR ?_
    refine ret2 Try.results28 (rv_cel 0 hS Try.sizeOf31 Try.isAgg31 rfl rfl rfl) (rv_tmp (v := .int .i64 _) rfl) ?_
    rw [e]; exact ⟨I1, none, 0, 0, rfl, hS.nil, RSl.nilR⟩
  ·
    intro hc13
    simp only [Bool.not_eq_true', Bool.not_eq_false', decide_eq_true_eq, decide_eq_false_iff_not] at hc13
    refine wpIn_skip ?_
    refine thenN ?_
    refine wpIn_seq ?_
    refine reg ?_
    refine qq hS (g_move _) ?_
    refine qq hS (g_fieldAddr (o' := 1) Try.underlying31 rfl Try.sizeOf3 rfl rfl rfl) ?_
    refine qq hS (g_ldO1 1 Try.isAgg3 rfl rfl rfl) ?_
    refine qe (d_call Try.call44 rfl (cheapest_c a1 c1 (symbolsP p).1 p.in_ _ I1 hS.imm hr (symsOf_wf hp))) ?_
    rintro _ w_5 ⟨I2, a2, m2, c2, rfl, hE, hr2⟩
    replace hS := hS.callE hE
    refine qq hS (g_move _) ?_
    refine qq hS (g_extract rfl rfl) ?_
    refine qq hS (g_extract (v := .int .i64 _) rfl rfl) ?_
    refine qe (d_alloc (cs := [.bool _, .int .i64 _, .int .i64 _, .slice _ _ _]) hS Try.zeroValue31 rfl) ?_
    clear hS
    rintro _ w_6 ⟨b6, rfl, hS⟩
    refine qe (d_store 0 hS Try.sizeOf31 rfl rfl rfl (vs := [.bool _, .int .i64 _, .int .i64 _, .slice _ _ _]) rfl rfl rfl (Nat.le_of_ble_eq_true rfl) (cs' := [_, _, _, _]) rfl) ?_
    clear hS
    rintro _ w_7 ⟨rfl, hS⟩
    refine qq hS (g_assignv (v := .int .i64 _) rfl) ?_
    refine ol_nil (thenN ?_)
    refine wpIn_seq ?_
    refine wpIn_seq ?_
    refine reg ?_
    refine qq hS (g_movev (v := .int .i64 _) rfl) ?_
    refine qq hS (g_eql rfl rfl) ?_
    refine ol_nil (thenN ?_)
    refine cond_s rfl ?_ ?_
    ·
      intro hc24
      try simp only [Bool.and_eq_true, Bool.or_eq_true, Bool.not_eq_true', Bool.and_eq_false_imp, Bool.or_eq_false_iff, Bool.not_eq_false', decide_eq_true_eq, decide_eq_false_iff_not] at hc24
      have e : formP p = ({ (cheapP (symbolsP p).1 p.in_).1 with lifted := p.lifted }, (cheapP (symbolsP p).1 p.in_).2) := by unfold formP; rw [if_pos hc13]; exact (if_pos hc24).trans (by rw [hc24])
      refine reg ?_
      refine qq hS (g_fieldAddr (o' := 0) Try.underlying31 rfl Try.sizeOf4 rfl rfl rfl) ?_
      refine qq hS (g_ldO1 2 Try.isAgg4 rfl rfl rfl) ?_
      refine qq hS (g_fieldAddr (o' := 0) Try.underlying31 rfl Try.sizeOf4 rfl rfl rfl) ?_
      refine qe (d_store 0 hS Try.sizeOf4 rfl rfl rfl (vs := [.bool _]) rfl rfl rfl (Nat.le_of_ble_eq_true rfl) (cs' := [_, _, _, _]) rfl) ?_
      clear hS
      rintro _ w_8 ⟨rfl, hS⟩
      refine ol_nil (thenN ?_)
      refine wpIn_seq ?_
      refine reg ?_
      refine qq hS (g_ldO 0 (vs := [.bool _, .int .i64 _, .int .i64 _, .slice _ _ _]) Try.sizeOf31 Try.isAgg31 rfl rfl rfl rfl) ?_
      refine qq hS (g_movev (v := .int .i64 _) rfl) ?_
      refine qe (d_store 1 hS Try.sizeOf31 rfl rfl rfl (vs := [.bool _, .int .i64 _, .int .i64 _, .slice _ _ _]) rfl rfl rfl (Nat.le_of_ble_eq_true rfl) (cs' := [_, _, _, _]) rfl) ?_
      clear hS
      rintro _ w_9 ⟨rfl, hS⟩
      refine qq hS (g_assignv (v := .int .i64 _) rfl) ?_
      refine ol_nil (thenN ?_)
      refine wpIn_ret ?_
      refine ret2 Try.results28 (rv_cel 1 hS Try.sizeOf31 Try.isAgg31 rfl rfl rfl) (rv_tmp (v := .int .i64 _) rfl) ?_
      rw [e]; exact ⟨I2, a2, m2, c2, rfl, hS.nil, hr2⟩
    ·
      intro hc24
      try simp only [Bool.and_eq_true, Bool.or_eq_true, Bool.not_eq_true', Bool.and_eq_false_imp, Bool.or_eq_false_iff, Bool.not_eq_false', decide_eq_true_eq, decide_eq_false_iff_not] at hc24
      have e : formP p = cheapP (symbolsP p).1 p.in_ := by unfold formP; rw [if_pos hc13]; exact if_neg hc24
      refine wpIn_skip ?_
      refine thenN ?_
      refine wpIn_seq ?_
      refine reg ?_
      refine qq hS (g_ldO 0 (vs := [.bool _, .int .i64 _, .int .i64 _, .slice _ _ _]) Try.sizeOf31 Try.isAgg31 rfl rfl rfl rfl) ?_
      refine qq hS (g_movev (v := .int .i64 _) rfl) ?_
      refine qe (d_store 1 hS Try.sizeOf31 rfl rfl rfl (vs := [.bool _, .int .i64 _, .int .i64 _, .slice _ _ _]) rfl rfl rfl (Nat.le_of_ble_eq_true rfl) (cs' := [_, _, _, _]) rfl) ?_
      clear hS
      rintro _ w_10 ⟨rfl, hS⟩
      refine qq hS (g_assignv (v := .int .i64 _) rfl) ?_
      refine ol_nil (thenN ?_)
      refine wpIn_ret ?_
      refine ret2 Try.results28 (rv_cel 1 hS Try.sizeOf31 Try.isAgg31 rfl rfl rfl) (rv_tmp (v := .int .i64 _) rfl) ?_
      rw [e]; exact ⟨I2, a2, m2, c2, rfl, hS.nil, hr2⟩

end Go.Proofs.Ytalemnjjljnnpaa

