/- inlaylaw06.PatchSymbols: its function answers true. Conditions: arguments are of their kinds. -/
import Derived.Test.YthfgchcdilodlaaSanity6
namespace Go.Proofs.Ythfgchcdilodlaa
open Go Go.RowKit Go.Inl
set_option linter.unusedSimpArgs false
set_option linter.unusedVariables false
theorem runP_right {p : PatL} {lo : List Int} (hk : (checkP p).2 = 0) (h : p.in_ = lo.length) : runP lo (symsOf p.ops) = ((symsOf p.ops).map (runB lo), 0) := by
  unfold runP
  rw [badT_ok (ops_ok _ (checkP_ok hk).1).1 h]; rfl
theorem applyP_right {p : PatL} {lo : List Int} (hk : (checkP p).2 = 0) (h : p.in_ = lo.length) : applyP lo p = ((symsOf p.ops).map (runB lo), 0) := by
  unfold applyP
  rw [symbolsP_ok hk, if_pos rfl, if_pos h.symm]
  exact runP_right hk h
theorem run6_E (ad bd : Option Addr) (m n cap capb : Nat) (lo : List Int) (l : List Sym) (R : List Int × Int) (w0 : World) (I0 : Imm) (hI : Sat I0 w0) (ha : RBytes I0 (.slice ad m cap) lo) (hm : m = lo.length) (hb : RSyms I0 (.slice bd n capb) l) (hnl : n = l.length) (hwb : ∀ s ∈ l, s.wf) (hn : l.length ≤ 65536) (he : runP lo l = R) :
    Ctr Try.prog 16 [.slice ad m cap, .slice bd n capb] w0 (fun v w' => ∃ I' a c, v = .tuple #[.slice a R.1.length c, .int .i64 R.2] ∧ Ext w0 I0 w' I' ∧ RBytes I' (.slice a R.1.length c) R.1) := by
  subst hm; subst hnl; subst he
  exact run_c ad bd cap capb lo l w0 I0 hI ha hb hwb hn
theorem input_E (ad : Option Addr) (cap : Nat) (b : List Int) (z : Int) (O : List Int) (w0 : World) (I0 : Imm) (hI : Sat I0 w0) (hl : RBytes I0 (.slice ad b.length cap) b) (hb : ∀ y ∈ b, 0 ≤ y ∧ y ≤ 255) (hz : 0 ≤ z ∧ z ≤ 65536) (he : inputP b z.toNat = O) :
    Ctr Try.prog 15 [.slice ad b.length cap, .int .i64 z] w0 (fun v w' => ∃ I' a c, v = .slice a O.length c ∧ Ext w0 I0 w' I' ∧ RBytes I' (.slice a O.length c) O) := by
  obtain ⟨n, rfl⟩ : ∃ n : Nat, z = n := ⟨z.toNat, by omega⟩
  have h := input_c ad cap b n w0 I0 hI hl hb (by omega)
  subst he
  rw [show (inputP b ((n : Int).toNat)).length = n from inputP_len b n]
  exact h
theorem symsOf_at {l : List OpL} {k i : Nat} {x : OpL} (h : l[k]? = some x) (hi : (i : Int) < x.len) : (symsOf l)[(symsOf (l.take k)).length + i]? = some (symS x i) := by
  obtain ⟨h1, h2⟩ := List.getElem?_eq_some_iff.1 h
  have e : symsOf l = symsOf (l.take k) ++ (symsOp x ++ symsOf (l.drop (k + 1))) := by
    conv => lhs; rw [← List.take_append_drop k l]
    rw [symsOf_append, List.drop_eq_getElem_cons h1, h2]
    simp [symsOf]
  rw [e, List.getElem?_append_right (Nat.le_add_right _ _), Nat.add_sub_cancel_left, List.getElem?_append_left (by unfold symsOp; simp; omega)]
  unfold symsOp
  rw [List.getElem?_map, List.getElem?_range (by omega)]; rfl
theorem made6_E (r : Int) (ad : Option Addr) (cap : Nat) (l : List Q4) (p : PatL) (w0 : World) (I0 : Imm) (hI : Sat I0 w0) (hl : RFl I0 4 q4C (.slice ad l.length cap) l) (hq : ∀ q ∈ l, q.wf) (hr : 0 ≤ r ∧ r ≤ 255) (hp : madeP l (r % 13) = p) :
    Ctr Try.prog 10 [.agg #[.int .u8 r, .slice ad l.length cap]] w0 (fun v w' => ∃ I' a m c, v = .agg #[.bool p.lifted, .int .i64 p.in_, .int .i64 p.out, .slice a m c] ∧ Ext w0 I0 w' I' ∧ ROps I' (.slice a m c) p.ops) := by
  subst hp; exact made_c r ad cap l w0 I0 hI hl hq hr.1 hr.2
theorem g_neqF {P : Program} {n : Nat} {σ : Nat → Value} {S : World → Prop} {t t' ty : TypeId} {x y : Operand} {k : IntKind} {a b : Int} (hx : ev n σ x = .int k a) (hy : ev n σ y = .int k b) (h : a = b) : Gives P (ev n σ) S (.binOp .neq t x y t') ty (.bool false) := by
  have := g_neq (P := P) (S := S) (t := t) (t' := t') (ty := ty) hx hy
  rw [decide_eq_true h] at this; exact this
theorem g_eqT6 {P : Program} {n : Nat} {σ : Nat → Value} {S : World → Prop} {t t' ty : TypeId} {x y : Operand} {k : IntKind} {a b : Int} (hx : ev n σ x = .int k a) (hy : ev n σ y = .int k b) (h : a = b) : Gives P (ev n σ) S (.binOp .eql t x y t') ty (.bool true) := by
  have := g_eql (P := P) (S := S) (t := t) (t' := t') (ty := ty) hx hy
  rw [decide_eq_true h] at this; exact this
theorem wrap8 {y : Int} (h : 0 ≤ y ∧ y ≤ 255) : IntKind.u8.wrap y = y := by rw [IntKind.wrap_u8]; omega
theorem copy_in {x : OpL} {n : Int} (h : rightP x n = true) (hk : x.kind = 1) : 0 ≤ x.from_ ∧ x.from_ ≤ n - x.len := by
  unfold rightP at h
  rw [if_pos hk] at h
  simp only [insideP, Bool.and_eq_true, decide_eq_true_eq] at h
  exact h.1.1

set_option maxRecDepth 20000 in
set_option maxHeartbeats 4000000 in
theorem psymbols_c (r : Int) (ad bd : Option Addr) (cap capb : Nat) (l : List Q4) (bs : List Int) (w0 : World) (I0 : Imm) (hI : Sat I0 w0) (hr : 0 ≤ r ∧ r ≤ 255) (h4 : RFl I0 4 q4C (.slice ad l.length cap) l) (hq : ∀ q ∈ l, q.wf) (hb : RBytes I0 (.slice bd bs.length capb) bs) (hbb : ∀ y ∈ bs, 0 ≤ y ∧ y ≤ 255) :
    Ctr Try.prog 4 [.agg #[.int .u8 r, .slice ad l.length cap], .slice bd bs.length capb] w0 (fun v w' => ∃ I', v = .bool true ∧ Ext w0 I0 w' I') := by
  have hr13 : 0 ≤ r % 13 ∧ r % 13 ≤ 65536 := by omega
  have hpw := madeP_wf (size := r % 13) hq hr13
  obtain ⟨hpk, hpo, hpl⟩ := madeP_ok (size := r % 13) hq hr13
  have hlf : (madeP l (r % 13)).lifted = false := rfl
  obtain ⟨p, hp⟩ : ∃ p, madeP l (r % 13) = p := ⟨_, rfl⟩
  rw [hp] at hpw hpk hpo hpl hlf
  obtain ⟨k1, k2, k3, k4, k5, k6, k7⟩ := checkP_ok hpk
  have hA := symbolsP_ok hpk
  have hwA := symsOf_wf hpw
  rw [hA] at hwA
  dsimp only at hwA
  have hOl := inputP_len bs p.in_.toNat
  have hOb := inputP_bd (n := p.in_.toNat) hbb
  obtain ⟨O, hO⟩ : ∃ O, inputP bs p.in_.toNat = O := ⟨_, rfl⟩
  rw [hO] at hOl hOb
  have hin : p.in_ = O.length := by omega
  have hR := runP_right hpk hin
  have hX := applyP_right hpk hin
  have hRl : ((symsOf p.ops).map (runB O)).length = (symsOf p.ops).length := List.length_map _
  have ho1 : (((symsOf p.ops).map (runB O)).length : Int) = p.out := by omega
  have ho2 : ((symsOf p.ops).length : Int) = p.out := by omega
  refine fn (n := 138) Try.func4 rfl rfl rfl ?_
  have hS := St.start hI
  refine wpIn_seq ?_
  refine reg ?_
  refine qe (d_box (cs := [.int .u8 _, .slice _ _ _]) hS rfl) ?_
  clear hS
  rintro _ w_1 ⟨b2, rfl, hS⟩
  refine qq hS (g_assignv (v := .bool _) rfl) ?_
  refine ol_nil (thenN ?_)
  refine wpIn_seq ?_
  refine reg ?_
  refine qe (d_call Try.call9 rfl (sanity6_c _ _ hS.imm)) ?_
  rintro _ w_2 ⟨I_f, rfl, hE⟩
  replace hS := hS.callE hE
  replace h4 := h4.mono hE.ext
  replace hb := hb.mono hE.ext
  refine qq hS (g_assignv (v := .bool _) rfl) ?_
  refine ol_nil (thenN ?_)
  refine wpIn_seq ?_
  refine reg ?_
  refine qq hS (g_ldO 0 (vs := [.int .u8 _, .slice _ _ _]) Try.sizeOf27 Try.isAgg27 rfl rfl rfl rfl) ?_
  refine qe (d_call Try.call10 rfl (made6_E r ad cap l p _ _ hS.imm h4 hq hr hp)) ?_
  rintro _ w_3 ⟨I_f, a19, m19, c19, rfl, hE, h19⟩
  replace hS := hS.callE hE
  replace h4 := h4.mono hE.ext
  replace hb := hb.mono hE.ext
  refine qe (d_alloc (cs := [.bool _, .int .i64 _, .int .i64 _, .slice _ _ _]) hS Try.zeroValue24 rfl) ?_
  clear hS
  rintro _ w_4 ⟨b6, rfl, hS⟩
  refine qe (d_store 0 hS Try.sizeOf24 rfl rfl rfl (vs := [.bool _, .int .i64 _, .int .i64 _, .slice _ _ _]) rfl rfl rfl (Nat.le_of_ble_eq_true rfl) (cs' := [_, _, _, _]) rfl) ?_
  clear hS
  rintro _ w_5 ⟨rfl, hS⟩
  refine ol_nil (thenN ?_)
  refine wpIn_seq ?_
  refine reg ?_
  refine qq hS (g_move _) ?_
  refine qq hS (g_fieldAddr (o' := 1) Try.underlying24 rfl Try.sizeOf3 rfl rfl rfl) ?_
  refine qq hS (g_ldO1 0 Try.isAgg3 rfl rfl rfl) ?_
  refine qe (d_call Try.call15 rfl (input_E _ _ bs p.in_ O _ _ hS.imm hb hbb ⟨k3, k4⟩ hO)) ?_
  rintro _ w_6 ⟨I_f, a23, c23, rfl, hE, h23⟩
  replace hS := hS.callE hE
  replace h4 := h4.mono hE.ext
  replace hb := hb.mono hE.ext
  replace h19 := h19.mono hE.ext
  refine qq hS (g_assign _) ?_
  refine ol_nil (thenN ?_)
  refine wpIn_seq ?_
  refine reg ?_
  refine qq hS (g_move _) ?_
  refine qq hS (g_ldO 0 (vs := [.bool _, .int .i64 _, .int .i64 _, .slice _ _ _]) Try.sizeOf24 Try.isAgg24 rfl rfl rfl rfl) ?_
  refine qe (d_call Try.call13 rfl (apply_E p _ _ _ _ _ _ O (((symsOf p.ops).map (runB O)), 0) _ _ hS.imm h19 hpw hlf h23 rfl hX)) ?_
  rintro _ w_7 ⟨I_f, a27, c27, rfl, hE, h27⟩
  replace hS := hS.callE hE
  replace h4 := h4.mono hE.ext
  replace hb := hb.mono hE.ext
  replace h19 := h19.mono hE.ext
  replace h23 := h23.mono hE.ext
  refine qq hS (g_move _) ?_
  refine qq hS (g_extract rfl rfl) ?_
  refine qq hS (g_extract (v := .int .i64 _) rfl rfl) ?_
  refine qq hS (g_assign _) ?_
  refine qq hS (g_assignv (v := .int .i64 _) rfl) ?_
  refine ol_nil (thenN ?_)
  refine wpIn_seq ?_
  refine reg ?_
  refine qq hS (g_ldO 0 (vs := [.bool _, .int .i64 _, .int .i64 _, .slice _ _ _]) Try.sizeOf24 Try.isAgg24 rfl rfl rfl rfl) ?_
  refine qe (d_call Try.call14 rfl (symbols_e p _ _ _ ((symsOf p.ops), 0) _ _ hS.imm h19 hpw hA)) ?_
  rintro _ w_8 ⟨I_f, a32, c32, rfl, hE, h32⟩
  replace hS := hS.callE hE
  replace h4 := h4.mono hE.ext
  replace hb := hb.mono hE.ext
  replace h19 := h19.mono hE.ext
  replace h23 := h23.mono hE.ext
  replace h27 := h27.mono hE.ext
  refine qq hS (g_move _) ?_
  refine qq hS (g_extract rfl rfl) ?_
  refine qq hS (g_extract (v := .int .i64 _) rfl rfl) ?_
  refine qq hS (g_assign _) ?_
  refine qq hS (g_assignv (v := .int .i64 _) rfl) ?_
  refine ol_nil (thenN ?_)
  refine wpIn_seq ?_
  refine reg ?_
  refine qq hS (g_move _) ?_
  refine qq hS (g_move _) ?_
  refine qe (d_call Try.call16 rfl (run6_E _ _ _ _ _ _ O (symsOf p.ops) (((symsOf p.ops).map (runB O)), 0) _ _ hS.imm h23 rfl h32 rfl hwA (by omega) hR)) ?_
  rintro _ w_9 ⟨I_f, a38, c38, rfl, hE, h38⟩
  replace hS := hS.callE hE
  replace h4 := h4.mono hE.ext
  replace hb := hb.mono hE.ext
  replace h19 := h19.mono hE.ext
  replace h23 := h23.mono hE.ext
  replace h27 := h27.mono hE.ext
  replace h32 := h32.mono hE.ext
  refine qq hS (g_move _) ?_
  refine qq hS (g_extract rfl rfl) ?_
  refine qq hS (g_extract (v := .int .i64 _) rfl rfl) ?_
  refine qq hS (g_assign _) ?_
  refine qq hS (g_assignv (v := .int .i64 _) rfl) ?_
  refine ol_nil (thenN ?_)
  refine wpIn_seq ?_
  refine wpIn_seq ?_
  refine reg ?_
  refine qq hS (g_movev (v := .int .i64 _) rfl) ?_
  refine qq hS (g_neq rfl rfl) ?_
  refine qq hS (g_movev (v := .bool _) rfl) ?_
  refine qqs rfl rfl hS (g_movev (v := .int .i64 _) rfl) ?_
  refine qqs rfl rfl hS (g_neq rfl rfl) ?_
  refine qq hS (g_or rfl rfl (fun _ => rfl)) ?_
  refine qq hS (g_movev (v := .bool _) rfl) ?_
  refine qqs rfl rfl hS (g_movev (v := .int .i64 _) rfl) ?_
  refine qqs rfl rfl hS (g_neq rfl rfl) ?_
  refine qq hS (g_or rfl rfl (fun _ => rfl)) ?_
  refine qq hS (g_movev (v := .bool _) rfl) ?_
  refine qqs rfl rfl hS (g_move _) ?_
  refine qqs rfl rfl hS (g_lenI rfl Try.underlying33 h27 rfl) ?_
  refine qqs rfl rfl hS (g_fieldAddr (o' := 2) Try.underlying24 rfl Try.sizeOf3 rfl rfl rfl) ?_
  refine qqs rfl rfl hS (g_ldO1 0 Try.isAgg3 rfl rfl rfl) ?_
  refine qqs rfl rfl hS (g_neqF rfl rfl ho1) ?_
  refine qq hS (g_or rfl rfl (fun _ => rfl)) ?_
  refine qq hS (g_movev (v := .bool _) rfl) ?_
  refine qqs rfl rfl hS (g_move _) ?_
  refine qqs rfl rfl hS (g_lenI rfl Try.underlying43 h32 rfl) ?_
  refine qqs rfl rfl hS (g_fieldAddr (o' := 2) Try.underlying24 rfl Try.sizeOf3 rfl rfl rfl) ?_
  refine qqs rfl rfl hS (g_ldO1 0 Try.isAgg3 rfl rfl rfl) ?_
  refine qqs rfl rfl hS (g_neqF rfl rfl ho2) ?_
  refine qq hS (g_or rfl rfl (fun _ => rfl)) ?_
  refine qq hS (g_movev (v := .bool _) rfl) ?_
  refine qqs rfl rfl hS (g_move _) ?_
  refine qqs rfl rfl hS (g_move _) ?_
  refine qes rfl rfl (d_call Try.call17 rfl (sameB_E _ _ ((symsOf p.ops).map (runB O)) ((symsOf p.ops).map (runB O)) _ _ hS.imm h27 h38 rfl)) ?_
  rintro _ w_10 ⟨rfl, hE⟩
  replace hS := hS.callE hE
  refine qqs rfl rfl hS (g_not rfl) ?_
  refine qq hS (g_or rfl rfl (fun _ => rfl)) ?_
  refine ol_nil (thenN ?_)
  refine cond_f (rfl) ?_
  refine wpIn_skip ?_
  refine thenN ?_
  refine wpIn_seq ?_
  refine reg ?_
  refine qq hS (g_assignv (v := .int .i64 _) rfl) ?_
  refine ol_nil (thenN ?_)
  refine wpIn_seq ?_
  refine wpIn_seq ?_
  refine reg ?_
  refine qq hS (g_assignv (v := .int .i64 _) rfl) ?_
  refine ol_nil (thenN ?_)
  refine wpIn_block ?_
  refine loop (fun (k : Nat) σ w => okS σ [(5, .bool true), (6, .pointer (some ⟨b6, 0, none⟩)), (7, .slice a23 O.length c23), (8, .slice a27 ((symsOf p.ops).map (runB O)).length c27), (10, .slice a32 (symsOf p.ops).length c32), (14, .int .i64 (symsOf (p.ops.take k)).length), (15, .int .i64 k)] ∧ St [] w0 I0 I_f w [.cel b6 24 [.bool p.lifted, .int .i64 p.in_, .int .i64 p.out, .slice a19 m19 c19]] ∧ k ≤ p.ops.length) (fun k => p.ops.length - k) (0) ?_ ?_
  ·
    exact ⟨⟨rfl, rfl, rfl, rfl, rfl, rfl, rfl, trivial⟩, hS.sel [true, false], by omega⟩
  ·
    rintro k σ w_l ⟨hs, hS, hk0⟩
    rw [← upds_self hs]; clear hs
    refine wpIn_seq ?_
    refine wpIn_seq ?_
    refine reg ?_
    refine qq hS (g_movev (v := .int .i64 _) rfl) ?_
    refine qq hS (g_fieldAddr (o' := 3) Try.underlying24 rfl Try.sizeOf22 rfl rfl rfl) ?_
    refine qq hS (g_ldO1 0 Try.isAgg22 rfl rfl rfl) ?_
    refine qq hS (g_lenI rfl Try.underlying22 h19 rfl) ?_
    refine qq hS (g_lss rfl rfl) ?_
    refine ol_nil (thenN ?_)
    refine cond_s rfl ?_ ?_
    ·
      intro hc75
      try simp only [Bool.and_eq_true, Bool.or_eq_true, Bool.not_eq_true', Bool.and_eq_false_imp, Bool.or_eq_false_iff, Bool.not_eq_false', decide_eq_true_eq, decide_eq_false_iff_not] at hc75
      obtain ⟨x, hx⟩ : ∃ x, p.ops[k]? = some x := ⟨_, List.getElem?_eq_getElem (by omega)⟩
      have hxm := List.mem_of_getElem? hx
      have hxw := hpw.ops x hxm
      have hxr := k1 x hxm
      obtain ⟨cs, hcl, hoA, hro⟩ := RSl.at h19 hx
      obtain ⟨adx, mx, capx, rfl, hd⟩ := hro
      have hlx := symsOf_take_le p.ops (k + 1)
      have hly := congrArg List.length (symsOf_snoc hx)
      rw [List.length_append, List.length_map, List.length_range] at hly
      obtain ⟨n0, hn0⟩ : ∃ n0, (symsOf (p.ops.take k)).length = n0 := ⟨_, rfl⟩
      rw [hn0] at hly ⊢
      refine wpIn_skip ?_
      refine thenN ?_
      refine wpIn_seq ?_
      refine wpIn_block ?_
      refine wpIn_seq ?_
      refine reg ?_
      refine qq hS (g_assignv (v := .int .i64 _) rfl) ?_
      refine ol_nil (thenN ?_)
      refine wpIn_block ?_
      refine loop (fun (i : Nat) σ w => okS σ [(5, .bool true), (6, .pointer (some ⟨b6, 0, none⟩)), (7, .slice a23 O.length c23), (8, .slice a27 ((symsOf p.ops).map (runB O)).length c27), (10, .slice a32 (symsOf p.ops).length c32), (14, .int .i64 (n0 + i : Nat)), (15, .int .i64 k), (16, .int .i64 i)] ∧ St [] w0 I0 I_f w [.cel b6 24 [.bool p.lifted, .int .i64 p.in_, .int .i64 p.out, .slice a19 m19 c19]] ∧ (i : Int) ≤ x.len) (fun i => x.len.toNat - i) (0) ?_ ?_
      ·
        exact ⟨⟨rfl, rfl, rfl, rfl, rfl, rfl, rfl, rfl, trivial⟩, hS.sel [true], by omega⟩
      ·
        rintro i σ w_l ⟨hs, hS, hi0⟩
        rw [← upds_self hs]; clear hs
        refine wpIn_seq ?_
        refine wpIn_seq ?_
        refine reg ?_
        refine qq hS (g_movev (v := .int .i64 _) rfl) ?_
        refine qq hS (g_fieldAddr (o' := 3) Try.underlying24 rfl Try.sizeOf22 rfl rfl rfl) ?_
        refine qq hS (g_ldO1 0 Try.isAgg22 rfl rfl rfl) ?_
        refine qq hS (g_movev (v := .int .i64 _) rfl) ?_
        refine qq hS (g_ixI Try.underlying22 Try.sizeOf35 h19 rfl rfl (by omega) (by omega)) ?_
        refine qq hS (g_fieldE (c' := 2) Try.underlying35 rfl Try.sizeOf3 rfl rfl rfl) ?_
        refine qq hS (g_ldE1 Try.isAgg3 hoA rfl rfl) ?_
        refine qq hS (g_lss rfl rfl) ?_
        refine ol_nil (thenN ?_)
        refine cond_s rfl ?_ ?_
        ·
          intro hc85
          try simp only [Bool.and_eq_true, Bool.or_eq_true, Bool.not_eq_true', Bool.and_eq_false_imp, Bool.or_eq_false_iff, Bool.not_eq_false', decide_eq_true_eq, decide_eq_false_iff_not] at hc85
          have hnx : ((i + 1 : Nat) : Int) ≤ x.len := by omega
          have hmu : x.len.toNat - (i + 1) < x.len.toNat - i := by omega
          have hsi := symsOf_at (i := i) hx (by omega)
          rw [hn0] at hsi
          have hsA := h32.at hsi
          have hti : ((symsOf p.ops).map (runB O))[n0 + i]? = some (runB O (symS x i)) := by rw [List.getElem?_map, hsi]; rfl
          have htA := h27.at hti
          have hil := (List.getElem?_eq_some_iff.1 hsi).1
          have hil2 := (List.getElem?_eq_some_iff.1 hti).1
          obtain ⟨⟨g1, g2⟩, ⟨f1, f2⟩, ⟨l1, l2⟩, ⟨b1, b2⟩, hdat⟩ := hxw
          have hcp : x.kind = 1 → 0 ≤ x.from_ ∧ x.from_ + i < O.length := fun h => by have := copy_in hxr.2 h; omega
          have hyA : ∀ h : x.kind = 1, atI I_f (elA (.slice a23 O.length c23) (x.from_ + i).toNat 1 0) [.int .u8 (O.getD (x.from_ + i).toNat 0)] := fun h => by
            have hc := hcp h
            obtain ⟨y, hy⟩ : ∃ y, O[(x.from_ + i).toNat]? = some y := ⟨_, List.getElem?_eq_getElem (by omega)⟩
            have := h23.at hy
            rw [List.getD_eq_getElem?_getD, hy]
            exact this
          have hfin : (decide (x.kind = 1) && (!symEq (symS x (i : Int)) ⟨true, x.from_ + i, 0⟩ || !decide (runB O (symS x i) = O.getD (x.from_ + i).toNat 0))) = false := by
            by_cases h : x.kind = 1
            · have hc := hcp h
              have e := symS_1 (i := (i : Int)) h
              obtain ⟨y, hy⟩ : ∃ y, O[(x.from_ + i).toNat]? = some y := ⟨_, List.getElem?_eq_getElem (by omega)⟩
              have hyb := hOb y (List.mem_of_getElem? hy)
              have e2 : runB O (symS x i) = O.getD (x.from_ + i).toNat 0 := by
                rw [List.getD_eq_getElem?_getD, hy, e, runB_old rfl hy, Int.zero_add, wrap8 hyb]; rfl
              rw [e2, e]
              simp [symEq]
            · rw [decide_eq_false h]; rfl
          refine wpIn_skip ?_
          refine thenN ?_
          refine wpIn_seq ?_
          refine wpIn_block ?_
          refine wpIn_seq ?_
          refine wpIn_seq ?_
          refine draw (.cons 0 .pure (.cons 1 .held (.cons 2 .pure (.cons 3 .pure (.cons 4 .pure (.cons 5 .held (.cons 6 .pure (.cons 7 .pure (.cons 8 .pure (.cons 9 .pure (.cons 10 .pure (.cons 11 .held (.cons 12 .pure (.cons 13 .held (.cons 14 .pure (.cons 15 .pure (.cons 16 .pure (.cons 17 .held (.cons 18 .pure (.cons 19 .pure (.cons 20 .pure (.cons 21 .pure (.cons 22 .pure (.cons 23 .pure (.cons 24 .pure (.cons 25 .pure (.cons 26 .held (.cons 27 .pure (.cons 28 .pure (.cons 29 .held (.cons 30 .pure (.cons 31 .pure (.cons 32 .pure (.cons 33 .held (.cons 34 .pure (.cons 35 .pure (.cons 36 .pure (.cons 37 .held (.cons 38 .pure (.cons 39 .pure (.cons 40 .pure .nil))))))))))))))))))))))))))))))))))))))))) mixed (by kernel_rfl) hS ?_
          intro w_11 hS
          refine sp rfl (g_fieldAddr (o' := 3) Try.underlying24 rfl Try.sizeOf22 rfl rfl rfl) ?_
          refine sh rfl (g_ldO1 0 Try.isAgg22 rfl rfl rfl) ?_
          refine sp rfl (g_movev (v := .int .i64 _) rfl) ?_
          refine sp rfl (g_ixI Try.underlying22 Try.sizeOf35 h19 rfl rfl (by omega) (by omega)) ?_
          refine sp rfl (g_fieldE (c' := 0) Try.underlying35 rfl Try.sizeOf3 rfl rfl rfl) ?_
          refine sh rfl (g_ldE1 Try.isAgg3 hoA rfl rfl) ?_
          refine sp rfl (g_eql rfl rfl) ?_
          refine sp rfl (g_movev (v := .bool _) rfl) ?_
          refine spu rfl rfl rfl (fun hg => (g_move _)) ?_
          intro u96 hu96 hn96
          refine spu rfl rfl rfl (fun hg => (g_movev (v := .int .i64 _) rfl)) ?_
          intro u97 hu97 hn97
          refine spu rfl rfl rfl (fun hg => (g_ixI Try.underlying43 Try.sizeOf51 h32 (hu96 hg) (hu97 hg) (by omega) (by show ((n0 + i : Nat) : Int) < ((symsOf p.ops).length : Nat); omega))) ?_
          intro u98 hu98 hn98
          refine shu rfl rfl rfl (fun hg => (g_ldE (us := [.bool _, .int .i64 _, .int .u8 _]) Try.sizeOf51 Try.isAgg51 hsA (hu98 hg) rfl rfl)) ?_
          intro u99 hu99 hn99
          refine spu rfl rfl rfl (fun hg => (g_fieldAddr (o' := 3) Try.underlying24 rfl Try.sizeOf22 rfl rfl rfl)) ?_
          intro u100 hu100 hn100
          refine shu rfl rfl rfl (fun hg => (g_ldO1 0 Try.isAgg22 rfl (hu100 hg) rfl)) ?_
          intro u101 hu101 hn101
          refine spu rfl rfl rfl (fun hg => (g_movev (v := .int .i64 _) rfl)) ?_
          intro u102 hu102 hn102
          refine spu rfl rfl rfl (fun hg => (g_ixI Try.underlying22 Try.sizeOf35 h19 (hu101 hg) (hu102 hg) (by omega) (by omega))) ?_
          intro u103 hu103 hn103
          refine spu rfl rfl rfl (fun hg => (g_fieldE (c' := 1) Try.underlying35 rfl Try.sizeOf3 rfl (hu103 hg) rfl)) ?_
          intro u104 hu104 hn104
          refine shu rfl rfl rfl (fun hg => (g_ldE1 Try.isAgg3 hoA (hu104 hg) rfl)) ?_
          intro u105 hu105 hn105
          refine spu rfl rfl rfl (fun hg => (g_movev (v := .int .i64 _) rfl)) ?_
          intro u106 hu106 hn106
          refine spu rfl rfl rfl (fun hg => (g_add (hu105 hg) (hu106 hg) (by omega) (by omega))) ?_
          intro u107 hu107 hn107
          refine spu rfl rfl rfl (fun hg => (g_buildv (pl := [(0, 1), (1, 1), (2, 1)]) (cs := [.bool _, .int .i64 _, .int .u8 _]) Try.zeroValue51 Try.underlying51 (fun w => by simp [Try.sizeOf3, Try.sizeOf4, Try.sizeOf5]) (mp (v := .bool _) rfl (mp (v := .int .i64 _) (hu107 hg) mp0)) rfl)) ?_
          intro u108 hu108 hn108
          refine spu rfl rfl rfl (fun hg => (neqSym (symS x (i : Int)) ⟨true, x.from_ + i, 0⟩ (hu99 hg) (hu108 hg))) ?_
          intro u109 hu109 hn109
          refine spu rfl rfl rfl (fun hg => (g_movev (hu109 hg))) ?_
          intro u110 hu110 hn110
          refine spn (P := Try.prog) rfl rfl (C := _) hu110 hn110 (fun hg => (g_move _)) ?_
          intro u111 hu111 hn111
          refine spn (P := Try.prog) rfl rfl (C := _) hu110 hn110 (fun hg => (g_movev (v := .int .i64 _) rfl)) ?_
          intro u112 hu112 hn112
          refine spn (P := Try.prog) rfl rfl (C := _) hu110 hn110 (fun hg => (g_ixI Try.underlying33 Try.sizeOf5 h27 (hu111 hg) (hu112 hg) (by omega) (by show ((n0 + i : Nat) : Int) < (((symsOf p.ops).map (runB O)).length : Nat); omega))) ?_
          intro u113 hu113 hn113
          refine shn (P := Try.prog) rfl rfl (C := _) hu110 hn110 (fun hg => (g_ldE1 Try.isAgg5 htA (hu113 hg) rfl)) ?_
          intro u114 hu114 hn114
          refine spn (P := Try.prog) rfl rfl (C := _) hu110 hn110 (fun hg => (g_move _)) ?_
          intro u115 hu115 hn115
          refine spn (P := Try.prog) rfl rfl (C := _) hu110 hn110 (fun hg => (g_fieldAddr (o' := 3) Try.underlying24 rfl Try.sizeOf22 rfl rfl rfl)) ?_
          intro u116 hu116 hn116
          refine shn (P := Try.prog) rfl rfl (C := _) hu110 hn110 (fun hg => (g_ldO1 0 Try.isAgg22 rfl (hu116 hg) rfl)) ?_
          intro u117 hu117 hn117
          refine spn (P := Try.prog) rfl rfl (C := _) hu110 hn110 (fun hg => (g_movev (v := .int .i64 _) rfl)) ?_
          intro u118 hu118 hn118
          refine spn (P := Try.prog) rfl rfl (C := _) hu110 hn110 (fun hg => (g_ixI Try.underlying22 Try.sizeOf35 h19 (hu117 hg) (hu118 hg) (by omega) (by omega))) ?_
          intro u119 hu119 hn119
          refine spn (P := Try.prog) rfl rfl (C := _) hu110 hn110 (fun hg => (g_fieldE (c' := 1) Try.underlying35 rfl Try.sizeOf3 rfl (hu119 hg) rfl)) ?_
          intro u120 hu120 hn120
          refine shn (P := Try.prog) rfl rfl (C := _) hu110 hn110 (fun hg => (g_ldE1 Try.isAgg3 hoA (hu120 hg) rfl)) ?_
          intro u121 hu121 hn121
          refine spn (P := Try.prog) rfl rfl (C := _) hu110 hn110 (fun hg => (g_movev (v := .int .i64 _) rfl)) ?_
          intro u122 hu122 hn122
          refine spn (P := Try.prog) rfl rfl (C := _) hu110 hn110 (fun hg => (g_add (hu121 hg) (hu122 hg) (by omega) (by omega))) ?_
          intro u123 hu123 hn123
          refine spn (P := Try.prog) rfl rfl (C := _) hu110 hn110 (fun hg => (g_ixI Try.underlying33 Try.sizeOf5 h23 (hu115 hg) (hu123 hg) (by have := hcp (of_decide_eq_true hg.1); omega) (by have := hcp (of_decide_eq_true hg.1); omega))) ?_
          intro u124 hu124 hn124
          refine shn (P := Try.prog) rfl rfl (C := _) hu110 hn110 (fun hg => (g_ldE1 Try.isAgg5 (hyA (of_decide_eq_true hg.1)) (hu124 hg) rfl)) ?_
          intro u125 hu125 hn125
          refine spn (P := Try.prog) rfl rfl (C := _) hu110 hn110 (fun hg => (g_neq (hu114 hg) (hu125 hg))) ?_
          intro u126 hu126 hn126
          refine spu rfl rfl rfl (fun hg => (g_or (hu110 hg) rfl (fun hq => hu126 ⟨hg, hq⟩))) ?_
          intro u127 hu127 hn127
          refine sp rfl (g_and rfl rfl (fun hq => hu127 hq)) ?_
          refine sn (thenN ?_)
          refine cond_f (congrArg Value.bool hfin) ?_
          refine wpIn_skip ?_
          refine thenN ?_
          refine reg ?_
          refine qq hS (g_movev (v := .int .i64 _) rfl) ?_
          refine qq hS (g_add rfl rfl (by omega) (by omega)) ?_
          refine qq hS (g_assignv (v := .int .i64 _) rfl) ?_
          refine ol_nil (blkN (thenN ?_))
          refine reg ?_
          refine qq hS (g_movev (v := .int .i64 _) rfl) ?_
          refine qq hS (g_add rfl rfl (by omega) (by omega)) ?_
          refine qq hS (g_assignv (v := .int .i64 _) rfl) ?_
          refine ol_nil (thenN ?_)
          exact ⟨i + 1, _, rfl, ⟨⟨rfl, rfl, rfl, rfl, rfl, rfl, rfl, rfl, trivial⟩, hS.sel [true], hnx⟩, hmu⟩
        ·
          intro hc85
          try simp only [Bool.and_eq_true, Bool.or_eq_true, Bool.not_eq_true', Bool.and_eq_false_imp, Bool.or_eq_false_iff, Bool.not_eq_false', decide_eq_true_eq, decide_eq_false_iff_not] at hc85
          have hi : i = x.len.toNat := by omega
          subst hi
          rw [hly]
          refine wpIn_exit ?_
          refine thenE (thenE (blkE ?_))
          refine blkN (thenN ?_)
          refine reg ?_
          refine qq hS (g_movev (v := .int .i64 _) rfl) ?_
          refine qq hS (g_add rfl rfl (by omega) (by omega)) ?_
          refine qq hS (g_assignv (v := .int .i64 _) rfl) ?_
          refine ol_nil (thenN ?_)
          exact ⟨k + 1, _, rfl, ⟨⟨rfl, rfl, rfl, rfl, rfl, rfl, rfl, trivial⟩, hS.sel [true], by omega⟩, by omega⟩
    ·
      intro hc75
      try simp only [Bool.and_eq_true, Bool.or_eq_true, Bool.not_eq_true', Bool.and_eq_false_imp, Bool.or_eq_false_iff, Bool.not_eq_false', decide_eq_true_eq, decide_eq_false_iff_not] at hc75
      have hk : k = p.ops.length := by omega
      subst hk
      have hend : ((symsOf (p.ops.take p.ops.length)).length : Int) = p.out := by rw [List.take_length]; exact k2
      refine wpIn_exit ?_
      refine thenE (thenE (blkE ?_))
      refine thenN ?_
      refine wpIn_seq ?_
      refine reg ?_
      refine qq hS (g_movev (v := .int .i64 _) rfl) ?_
      refine qq hS (g_fieldAddr (o' := 2) Try.underlying24 rfl Try.sizeOf3 rfl rfl rfl) ?_
      refine qq hS (g_ldO1 0 Try.isAgg3 rfl rfl rfl) ?_
      refine qq hS (g_eqT6 rfl rfl hend) ?_
      refine qq hS (g_movev (v := .bool _) rfl) ?_
      refine qqs rfl rfl hS (g_movev (v := .bool _) rfl) ?_
      refine qq hS (g_and rfl rfl (fun _ => rfl)) ?_
      refine qq hS (g_assignv (v := .bool _) rfl) ?_
      refine ol_nil (thenN ?_)
      refine wpIn_ret ?_
      refine ret1 Try.results4 (rv_tmp (v := .bool _) rfl) ?_
      exact ⟨_, rfl, hS.nil⟩

end Go.Proofs.Ythfgchcdilodlaa

