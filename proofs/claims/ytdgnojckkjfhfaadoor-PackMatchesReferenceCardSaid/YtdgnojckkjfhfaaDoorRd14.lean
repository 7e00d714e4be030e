/- pack.read of a head that was packed: the patch, or that the length is wrong. Conditions: none. -/
import Derived.Test.YtdgnojckkjfhfaaDoorRd0
import Derived.Test.YtdgnojckkjfhfaaDoorPk14
namespace Go.Proofs.YtdgnojckkjfhfaaDoor
open Go Go.RowKit Go.Inl
set_option linter.unusedSimpArgs false
set_option linter.unusedVariables false
theorem headP_app (p : PatL) (r : List Int) : headP p ++ r = numB 1 80 ++ (numB 1 (lft p) ++ (numB 3 p.in_ ++ (numB 3 p.out ++ (numB 2 (p.ops.length : Int) ++ (numB 3 ((lsP p.ops).length : Int) ++ (numB 3 ((code1 (lsP p.ops)).length : Int) ++ (numB 3 ((dtP p.ops).length : Int) ++ (numB 3 ((code2 (dtP p.ops)).length : Int) ++ r)))))))) := by
  unfold headP numsB
  simp only [List.nil_append, List.flatMap_cons, List.flatMap_nil, List.append_nil, List.append_assoc]
structure HdT (p : PatL) (r bb t1 t2 t3 t4 t5 t6 t7 t8 : List Int) : Prop where
  e0 : bb = numB 1 80 ++ t1
  e1 : t1 = numB 1 (lft p) ++ t2
  e2 : t2 = numB 3 p.in_ ++ t3
  e3 : t3 = numB 3 p.out ++ t4
  e4 : t4 = numB 2 (p.ops.length : Int) ++ t5
  e5 : t5 = numB 3 ((lsP p.ops).length : Int) ++ t6
  e6 : t6 = numB 3 ((code1 (lsP p.ops)).length : Int) ++ t7
  e7 : t7 = numB 3 ((dtP p.ops).length : Int) ++ t8
  e8 : t8 = numB 3 ((code2 (dtP p.ops)).length : Int) ++ r
  b1 : Byt t1
  b2 : Byt t2
  b3 : Byt t3
  b4 : Byt t4
  b5 : Byt t5
  b6 : Byt t6
  b7 : Byt t7
  b8 : Byt t8
theorem hdT_of (p : PatL) (r bb : List Int) (h : bb = headP p ++ r) (hr : Byt r) : ∃ t1 t2 t3 t4 t5 t6 t7 t8, HdT p r bb t1 t2 t3 t4 t5 t6 t7 t8 := by
  have b8 := byt_app (numB_byt 3 ((code2 (dtP p.ops)).length : Int)) hr
  have b7 := byt_app (numB_byt 3 ((dtP p.ops).length : Int)) b8
  have b6 := byt_app (numB_byt 3 ((code1 (lsP p.ops)).length : Int)) b7
  have b5 := byt_app (numB_byt 3 ((lsP p.ops).length : Int)) b6
  have b4 := byt_app (numB_byt 2 (p.ops.length : Int)) b5
  have b3 := byt_app (numB_byt 3 p.out) b4
  have b2 := byt_app (numB_byt 3 p.in_) b3
  have b1 := byt_app (numB_byt 1 (lft p)) b2
  exact ⟨_, _, _, _, _, _, _, _, h.trans (headP_app p r), rfl, rfl, rfl, rfl, rfl, rfl, rfl, rfl, b1, b2, b3, b4, b5, b6, b7, b8⟩
theorem lsP_drop {l : List OpL} {k : Nat} {x : OpL} (h : l[k]? = some x) : lsP (l.drop k) = opB x ++ lsP (l.drop (k + 1)) := by rw [drop_cons h]; rfl
theorem dtP_drop {l : List OpL} {k : Nat} {x : OpL} (h : l[k]? = some x) : dtP (l.drop k) = x.data ++ dtP (l.drop (k + 1)) := by rw [drop_cons h]; rfl
theorem lft_bool (p : PatL) : decide (lft p = 1) = p.lifted := by unfold lft; cases p.lifted <;> rfl
theorem inv46 (b : Nat) (w : World) : (invoke (.fn (.func 46) [.pointer (some ⟨b, 0, none⟩)].toArray) #[]).run Tryd.prog w = .ok (.enter 46 [.pointer (some ⟨b, 0, none⟩)].toArray) w := by
  simp [invoke, Tryd.call46]
structure RdW where
  k : Nat
  css : List (List Value)
  a : Option Addr
  c : Nat
  la : Option Addr
  lc : Nat
  da : Option Addr
  dc : Nat
theorem code1_eq (b : List Int) : encP mdl1 adOne b = code1 b := rfl
theorem code2_eq (b : List Int) : encP mdl2 s2z b = code2 b := rfl
attribute [local irreducible] packP bodyP headP code1 code2 sumP numsB
set_option maxHeartbeats 2000000 in
theorem read_c (p : PatL) (hp : p.wf) (hG : PatG p) (hsh : ∀ x ∈ p.ops, OpS x) (ad : Option Addr) (cap : Nat) (rest bb : List Int) (hrb : Byt rest) (hbe : bb = headP p ++ rest) (hre : bb.length = 26 + (code1 (lsP p.ops)).length + (code2 (dtP p.ops)).length → ∃ s, rest = code1 (lsP p.ops) ++ (code2 (dtP p.ops) ++ s)) (w0 : World) (I0 : Imm) (hI : Sat I0 w0) (hb : RBytes I0 (.slice ad bb.length cap) bb) :
    Ctr Tryd.prog 31 [.slice ad bb.length cap] w0 (fun v w' => ∃ I' q ok a m c, v = .tuple #[.agg #[.bool q.lifted, .int .i64 q.in_, .int .i64 q.out, .slice a m c], .bool ok] ∧ Ext w0 I0 w' I' ∧ ROps I' (.slice a m c) q.ops ∧ q.wf ∧ (ok = true ↔ bb.length = 26 + (code1 (lsP p.ops)).length + (code2 (dtP p.ops)).length) ∧ (ok = true → q = p)) := by
  have hll := RSl.le hb
  simp only [maxLen] at hll
  obtain ⟨t1, t2, t3, t4, t5, t6, t7, t8, hT⟩ := hdT_of p rest bb hbe hrb
  obtain ⟨hG1, hG2⟩ := hG.in_
  obtain ⟨hG3, hG4⟩ := hG.out
  have hG5 := hG.n
  have hG6 := hG.dat
  have hlb : lft p = 0 ∨ lft p = 1 := by unfold lft; split <;> omega
  have hl0 := lsP_le p.ops
  have hl1 := (code1_ok (lsP_byt p.ops)).2
  have hl2 := (code2_ok (dtP_byt hG.ops)).2
  refine fnD (n := 70) Tryd.func31 rfl rfl rfl ?_
  have hS := St.start hI
  refine wpIn_seq ?_
  refine reg ?_
  refine qe (d_alloc (cs := [.bool _, .int .i64 _, .int .i64 _, .slice _ _ _]) hS Tryd.zeroValue31 rfl) ?_
  clear hS
  rintro _ w_1 ⟨b2, rfl, hS⟩
  refine qe (d_alloc (cs := [.bool _]) hS Tryd.zeroValue4 rfl) ?_
  clear hS
  rintro _ w_2 ⟨b3, rfl, hS⟩
  refine ol_nil (thenN ?_)
  refine wpIn_seq ?_
  refine reg_defer (lc := [.tmp 3]) (cs := [.pointer (some ⟨b3, 0, none⟩)]) rfl rfl rfl ?_
  refine thenN ?_
  refine wpIn_seq ?_
  refine reg ?_
  refine qq hS (g_move _) ?_
  refine qq hS (g_buildv (pl := [(0, 1)]) (cs := [.slice _ _ _]) Tryd.zeroValue106 Tryd.underlying106 (fun w => by simp [Tryd.sizeOf25]) (mp rfl mp0) rfl) ?_
  refine qe (d_box (cs := [.slice _ _ _]) hS rfl) ?_
  clear hS
  rintro _ w_3 ⟨rd, rfl, hS⟩
  refine qq hS (g_assign _) ?_
  refine ol_nil (thenN ?_)
  refine wpIn_seq ?_
  refine reg ?_
  refine qq hS (g_move _) ?_
  refine qe (d_call Tryd.call47 rfl (takeD_c rd _ _ bb (numB 1 80) t1 1 _ _ hS.imm (own_heap hS (k := 0) rfl) (own_none hS (k := 0) rfl) hb hT.e0 (by rw [numB_len]; rfl))) ?_
  rintro _ w_4 ⟨a17, c17, aL, cL, rfl, hE, h17, hsL⟩
  replace hS := hS.callX (k := 0) rfl hE
  refine ol_nil (thenN ?_)
  refine wpIn_seq ?_
  refine reg ?_
  refine qq hS (g_move _) ?_
  refine qe (d_call Tryd.call48 rfl (num_c rd _ _ _ 1 (lft p) (t2) _ _ hS.imm (own_heap hS (k := 0) rfl) (own_none hS (k := 0) rfl) hsL hT.e1 (by decide) (valC_num1 (by omega)) hT.b2)) ?_
  rintro _ w_5 ⟨aL, cL, rfl, hE, hsL⟩
  replace hS := hS.callX (k := 0) rfl hE
  refine qq hS (g_castT (g_eql rfl rfl) (congrArg Value.bool (lft_bool p))) ?_
  refine qq hS (g_fieldAddr (o' := 0) Tryd.underlying31 rfl Tryd.sizeOf4 rfl rfl rfl) ?_
  refine qe (d_store 2 hS Tryd.sizeOf4 rfl rfl rfl (vs := [.bool _]) rfl rfl rfl (Nat.le_of_ble_eq_true rfl) (cs' := [_, _, _, _]) rfl) ?_
  clear hS
  rintro _ w_6 ⟨rfl, hS⟩
  refine ol_nil (thenN ?_)
  refine wpIn_seq ?_
  refine reg ?_
  refine qq hS (g_move _) ?_
  refine qe (d_call Tryd.call48 rfl (num_c rd _ _ _ 3 p.in_ (t3) _ _ hS.imm (own_heap hS (k := 0) rfl) (own_none hS (k := 0) rfl) hsL hT.e2 (by decide) (valC_num3 (by omega)) hT.b3)) ?_
  rintro _ w_7 ⟨aL, cL, rfl, hE, hsL⟩
  replace hS := hS.callX (k := 0) rfl hE
  refine qq hS (g_move _) ?_
  refine qe (d_call Tryd.call48 rfl (num_c rd _ _ _ 3 p.out (t4) _ _ hS.imm (own_heap hS (k := 0) rfl) (own_none hS (k := 0) rfl) hsL hT.e3 (by decide) (valC_num3 (by omega)) hT.b4)) ?_
  rintro _ w_8 ⟨aL, cL, rfl, hE, hsL⟩
  replace hS := hS.callX (k := 0) rfl hE
  refine qq hS (g_fieldAddr (o' := 1) Tryd.underlying31 rfl Tryd.sizeOf3 rfl rfl rfl) ?_
  refine qe (d_store 2 hS Tryd.sizeOf3 rfl rfl rfl (vs := [.int .i64 _]) rfl rfl rfl (Nat.le_of_ble_eq_true rfl) (cs' := [_, _, _, _]) rfl) ?_
  clear hS
  rintro _ w_9 ⟨rfl, hS⟩
  refine qq hS (g_fieldAddr (o' := 2) Tryd.underlying31 rfl Tryd.sizeOf3 rfl rfl rfl) ?_
  refine qe (d_store 2 hS Tryd.sizeOf3 rfl rfl rfl (vs := [.int .i64 _]) rfl rfl rfl (Nat.le_of_ble_eq_true rfl) (cs' := [_, _, _, _]) rfl) ?_
  clear hS
  rintro _ w_10 ⟨rfl, hS⟩
  refine ol_nil (thenN ?_)
  refine wpIn_seq ?_
  refine reg ?_
  refine qq hS (g_move _) ?_
  refine qe (d_call Tryd.call48 rfl (num_c rd _ _ _ 2 (p.ops.length : Int) (t5) _ _ hS.imm (own_heap hS (k := 0) rfl) (own_none hS (k := 0) rfl) hsL hT.e4 (by decide) (valC_num2 (by omega)) hT.b5)) ?_
  rintro _ w_11 ⟨aL, cL, rfl, hE, hsL⟩
  replace hS := hS.callX (k := 0) rfl hE
  refine qq hS (g_assignv (v := .int .i64 _) rfl) ?_
  refine ol_nil (thenN ?_)
  refine wpIn_seq ?_
  refine reg ?_
  refine qq hS (g_move _) ?_
  refine qe (d_call Tryd.call48 rfl (num_c rd _ _ _ 3 ((lsP p.ops).length : Int) (t6) _ _ hS.imm (own_heap hS (k := 0) rfl) (own_none hS (k := 0) rfl) hsL hT.e5 (by decide) (valC_num3 (by omega)) hT.b6)) ?_
  rintro _ w_12 ⟨aL, cL, rfl, hE, hsL⟩
  replace hS := hS.callX (k := 0) rfl hE
  refine qq hS (g_move _) ?_
  refine qe (d_call Tryd.call48 rfl (num_c rd _ _ _ 3 ((code1 (lsP p.ops)).length : Int) (t7) _ _ hS.imm (own_heap hS (k := 0) rfl) (own_none hS (k := 0) rfl) hsL hT.e6 (by decide) (valC_num3 (by omega)) hT.b7)) ?_
  rintro _ w_13 ⟨aL, cL, rfl, hE, hsL⟩
  replace hS := hS.callX (k := 0) rfl hE
  refine qq hS (g_move _) ?_
  refine qe (d_call Tryd.call48 rfl (num_c rd _ _ _ 3 ((dtP p.ops).length : Int) (t8) _ _ hS.imm (own_heap hS (k := 0) rfl) (own_none hS (k := 0) rfl) hsL hT.e7 (by decide) (valC_num3 (by omega)) hT.b8)) ?_
  rintro _ w_14 ⟨aL, cL, rfl, hE, hsL⟩
  replace hS := hS.callX (k := 0) rfl hE
  refine qq hS (g_move _) ?_
  refine qe (d_call Tryd.call48 rfl (num_c rd _ _ _ 3 ((code2 (dtP p.ops)).length : Int) (rest) _ _ hS.imm (own_heap hS (k := 0) rfl) (own_none hS (k := 0) rfl) hsL hT.e8 (by decide) (valC_num3 (by omega)) hrb)) ?_
  rintro _ w_15 ⟨aL, cL, rfl, hE, hsL⟩
  replace hS := hS.callX (k := 0) rfl hE
  refine qq hS (g_assignv (v := .int .i64 _) rfl) ?_
  refine qq hS (g_assignv (v := .int .i64 _) rfl) ?_
  refine qq hS (g_assignv (v := .int .i64 _) rfl) ?_
  refine qq hS (g_assignv (v := .int .i64 _) rfl) ?_
  refine ol_nil (thenN ?_)
  refine wpIn_seq ?_
  refine wpIn_seq ?_
  refine reg ?_
  refine qq hS (g_move _) ?_
  refine qq hS (g_lenI rfl Tryd.underlying25 hb rfl) ?_
  refine qq hS (g_movev (v := .int .i64 _) rfl) ?_
  refine qq hS (g_add rfl rfl (by omega) (by omega)) ?_
  refine qq hS (g_movev (v := .int .i64 _) rfl) ?_
  refine qq hS (g_add rfl rfl (by omega) (by omega)) ?_
  refine qq hS (g_add rfl rfl (by omega) (by omega)) ?_
  refine qq hS (g_neq rfl rfl) ?_
  refine ol_nil (thenN ?_)
  refine cond_s rfl ?_ ?_
  ·
    intro hc45
    try simp only [Bool.and_eq_true, Bool.or_eq_true, Bool.not_eq_true', Bool.and_eq_false_imp, Bool.or_eq_false_iff, Bool.not_eq_false', decide_eq_true_eq, decide_eq_false_iff_not] at hc45
    refine wpIn_seq ?_
    refine reg ?_
    refine qq hS (g_ldO 2 (vs := [.bool _, .int .i64 _, .int .i64 _, .slice _ _ _]) Tryd.sizeOf31 Tryd.isAgg31 rfl rfl rfl rfl) ?_
    refine qe (d_store 2 hS Tryd.sizeOf31 rfl rfl rfl (vs := [.bool _, .int .i64 _, .int .i64 _, .slice _ _ _]) rfl rfl rfl (Nat.le_of_ble_eq_true rfl) (cs' := [_, _, _, _]) rfl) ?_
    clear hS
    rintro _ w_16 ⟨rfl, hS⟩
    refine qe (d_store 1 hS Tryd.sizeOf4 rfl rfl rfl (vs := [.bool _]) rfl rfl rfl (Nat.le_of_ble_eq_true rfl) (cs' := [_]) rfl) ?_
    clear hS
    rintro _ w_17 ⟨rfl, hS⟩
    refine ol_nil (thenN ?_)
    refine wpIn_ret ?_
    refine thenR ?_
    refine retDf2 (inv46 b3) (fun w => readD_idle b3 w) Tryd.results31 (rv_cel 2 hS Tryd.sizeOf31 Tryd.isAgg31 rfl rfl rfl) (rv_cel1 1 hS Tryd.isAgg4 rfl rfl rfl) ?_
    exact ⟨_, ⟨p.lifted, p.in_, p.out, []⟩, false, none, 0, 0, rfl, hS.nil, RSl.nilR, ⟨hp.in_, hp.out, (fun x hx => by cases hx), by show (0 : Int) ≤ 1099511627776; decide⟩, ⟨fun h => (by cases h), fun h => by omega⟩, fun h => (by cases h)⟩
  ·
    intro hc45
    try simp only [Bool.and_eq_true, Bool.or_eq_true, Bool.not_eq_true', Bool.and_eq_false_imp, Bool.or_eq_false_iff, Bool.not_eq_false', decide_eq_true_eq, decide_eq_false_iff_not] at hc45
    obtain ⟨s, hrs⟩ := hre (by omega)
    refine wpIn_skip ?_
    refine thenN ?_
    refine wpIn_seq ?_
    refine reg ?_
    refine qq hS (g_move _) ?_
    refine qq hS (g_movev (v := .int .i64 _) rfl) ?_
    refine qe (d_call Tryd.call47 rfl (takeD_c rd _ _ rest (code1 (lsP p.ops)) (code2 (dtP p.ops) ++ s) _ _ _ hS.imm (own_heap hS (k := 0) rfl) (own_none hS (k := 0) rfl) hsL hrs rfl)) ?_
    rintro _ w_18 ⟨a49, c49, aL, cL, rfl, hE, h49, hsL⟩
    replace hS := hS.callX (k := 0) rfl hE
    refine qq hS (g_movev (v := .int .i64 _) rfl) ?_
    refine qe (d_call Tryd.call49 rfl (decode_c mdl1 mdl1_ok adOne adOne_ok 1 (fun w I h => begin1_c w I h) (lsP p.ops) (lsP_byt _) (by omega) _ _ _ (code1_eq _) _ _ hS.imm h49)) ?_
    rintro _ w_19 ⟨I_f, rl, al, cl, rfl, hE, hls⟩
    replace hS := hS.call hE
    replace hsL := hsL.mono hE.ext
    refine qq hS (g_assign _) ?_
    refine ol_nil (thenN ?_)
    refine wpIn_seq ?_
    refine reg ?_
    refine qq hS (g_move _) ?_
    refine qq hS (g_movev (v := .int .i64 _) rfl) ?_
    refine qe (d_call Tryd.call47 rfl (takeD_c rd _ _ (code2 (dtP p.ops) ++ s) (code2 (dtP p.ops)) s _ _ _ hS.imm (own_heap hS (k := 1) rfl) (own_none hS (k := 1) rfl) hsL rfl rfl)) ?_
    rintro _ w_20 ⟨a54, c54, aL, cL, rfl, hE, h54, hsL⟩
    replace hS := hS.callX (k := 1) rfl hE
    refine qq hS (g_movev (v := .int .i64 _) rfl) ?_
    refine qe (d_call Tryd.call49 rfl (decode_c mdl2 mdl2_ok s2z s2z_ok 2 (fun w I h => begin2_c w I h) (dtP p.ops) (dtP_byt hG.ops) hG.dat _ _ _ (code2_eq _) _ _ hS.imm h54)) ?_
    rintro _ w_21 ⟨I_f, rdt, adt, cdt, rfl, hE, hdt⟩
    replace hS := hS.call hE
    replace hls := hls.mono hE.ext
    refine qq hS (g_assign _) ?_
    refine ol_nil (thenN ?_)
    refine wpIn_seq ?_
    refine wpIn_seq ?_
    refine reg ?_
    refine qq hS (g_movev (v := .int .i64 _) rfl) ?_
    refine qq hS (g_movev (v := .int .i64 _) rfl) ?_
    refine ol_nil (thenN ?_)
    refine wpIn_block ?_
    refine loop (fun (x : RdW) σ w => okS σ [(2, .pointer (some ⟨b2, 0, none⟩)), (3, .pointer (some ⟨b3, 0, none⟩)), (10, .pointer (some ⟨rl, 0, none⟩)), (11, .pointer (some ⟨rdt, 0, none⟩)), (57, .int .i64 p.ops.length), (58, .int .i64 x.k)] ∧ ∃ I, St [] w0 I0 I w [.cel rl 106 [.slice x.la (lsP (p.ops.drop x.k)).length x.lc], .cel rdt 106 [.slice x.da (dtP (p.ops.drop x.k)).length x.dc], .row (.slice x.a x.k x.c) 53 5 x.k x.css.flatten, .cel b3 4 [.bool false], .cel b2 31 [.bool p.lifted, .int .i64 p.in_, .int .i64 p.out, .slice x.a x.k x.c]] ∧ x.k ≤ p.ops.length ∧ RBytes I (.slice x.la (lsP (p.ops.drop x.k)).length x.lc) (lsP (p.ops.drop x.k)) ∧ RBytes I (.slice x.da (dtP (p.ops.drop x.k)).length x.dc) (dtP (p.ops.drop x.k)) ∧ All2 (ROp I) x.css (p.ops.take x.k) ∧ (∀ cs ∈ x.css, cs.length = 5)) (fun x => p.ops.length - x.k) (⟨0, [], none, 0, al, cl, adt, cdt⟩) ?_ ?_
    ·
      exact ⟨⟨rfl, rfl, rfl, rfl, rfl, rfl, trivial⟩, _, ((hS.sel [true, true, false, true, true]).nilRow 53 5).ord [2, 1, 0, 3, 4], Nat.zero_le _, hls, hdt, All2.nil _, by simp⟩
    ·
      clear hS
      rintro ⟨k, css, a, c, la, lc, da, dc⟩ σ w_l ⟨hs, I, hS, hk0, hls, hdt, hall, hcl⟩
      dsimp only at hs hS hk0 hls hdt hall hcl ⊢
      rw [← upds_self hs]; clear hs
      refine wpIn_seq ?_
      refine reg ?_
      refine qq hS (g_lss rfl rfl) ?_
      refine ol_nil (thenN ?_)
      refine wpIn_seq ?_
      refine cond_s rfl ?_ ?_
      ·
        intro hc59
        try simp only [Bool.and_eq_true, Bool.or_eq_true, Bool.not_eq_true', Bool.and_eq_false_imp, Bool.or_eq_false_iff, Bool.not_eq_false', decide_eq_true_eq, decide_eq_false_iff_not] at hc59
        obtain ⟨x, hx⟩ : ∃ x, p.ops[k]? = some x := ⟨_, List.getElem?_eq_getElem (by omega)⟩
        have hxm := List.mem_of_getElem? hx
        rw [lsP_drop hx] at hS hls
        rw [dtP_drop hx] at hS hdt
        refine wpIn_skip ?_
        refine thenN ?_
        refine wpIn_seq ?_
        refine wpIn_block ?_
        refine drawS [false, false, true, true, true] (.cons 0 .pure (.cons 1 .held (.cons 2 .pure (.cons 3 .pure (.cons 4 .eff (.cons 5 .eff (.cons 6 .bar (.cons 7 .pure (.cons 8 .bar .nil))))))))) mixed (by kernel_rfl) hS ?_
        intro w_22 hS
        refine sp rfl (g_fieldAddr (o' := 3) Tryd.underlying31 rfl Tryd.sizeOf29 rfl rfl rfl) ?_
        refine sh rfl (g_ldO1 2 Tryd.isAgg29 rfl rfl rfl) ?_
        refine sp rfl (g_move _) ?_
        refine sp rfl (g_move _) ?_
        have hS0 := hS
        refine se rfl (d_call Tryd.call50 rfl (op_c x (hG.ops x hxm) (hsh x hxm) (lsP (p.ops.drop (k + 1))) (dtP (p.ops.drop (k + 1))) (lsP_byt _) rl rdt _ _ _ _ _ _ _ hls hdt (St.ownA [_, _] hS))) ?_
        rintro _ w_23 ⟨I_f, a64, m64, c64, la2, lc2, da2, dc2, rfl, hE, h64, hls2, hdt2⟩
        replace hS := St.callA [_, _] hS hE
        replace hls2 := hls2.mono hE.ext
        replace hdt2 := hdt2.mono hE.ext
        replace hall := hall.mono fun _ _ h => h.mono hE.ext
        refine ⟨_, _, (hS0.sel [false, false, true, true, true]).le hE.ext (List.Sublist.refl _), hS.sel [false, false, true, true, true], ?_⟩
        have hS0 := hS
        refine se rfl (d_lit (vs := [.agg #[.int .i64 _, .int .i64 _, .int .i64 _, .int .u8 _, .slice _ _ _]]) (cs := [.int .i64 _, .int .i64 _, .int .i64 _, .int .u8 _, .slice _ _ _]) hS Tryd.underlying29 Tryd.sizeOf53 Tryd.zeroValue53 rfl rfl rfl rfl (fun v hv => by simp only [List.mem_cons, List.not_mem_nil, or_false] at hv; subst hv; rfl) rfl) ?_
        rintro _ w_24 ⟨b65, rfl, hS⟩
        refine ⟨_, _, (hS0.sel [false, false, true, true, true]).le (Sub.refl _) (List.sublist_cons_self _ _), hS.sel [true, false, false, true, true, true], ?_⟩
        refine sb rfl (i_appendO 3 0 hS rfl Tryd.underlying29 info53 rfl rfl rfl rfl rfl rfl rfl rfl (by omega) (by omega)) ?_
        rintro _ w_25 ⟨a66, p66, rfl, hS⟩
        refine ⟨_, _, hS, ?_⟩
        refine sp rfl (g_fieldAddr (o' := 3) Tryd.underlying31 rfl Tryd.sizeOf29 rfl rfl rfl) ?_
        refine sb rfl (d_store 5 hS Tryd.sizeOf29 rfl rfl rfl (vs := [.slice _ _ _]) rfl rfl rfl (Nat.le_of_ble_eq_true rfl) (cs' := [_, _, _, _]) rfl) ?_
        rintro _ w_26 ⟨rfl, hS⟩
        refine ⟨_, _, hS, ?_⟩
        refine sn (blkN (thenN ?_))
        refine reg ?_
        refine qq hS (g_add rfl rfl (by omega) (by omega)) ?_
        refine qq hS (g_movev (v := .int .i64 _) rfl) ?_
        refine ⟨⟨k + 1, css ++ [[.int .i64 x.kind, .int .i64 x.from_, .int .i64 x.len, .int .u8 x.b, .slice a64 m64 c64]], a66, p66, la2, lc2, da2, dc2⟩, _, rfl, ⟨⟨rfl, rfl, rfl, rfl, rfl, rfl, trivial⟩, _, ?_, by dsimp only; omega, hls2, hdt2, ?_, ?_⟩, by dsimp only; omega⟩
        · dsimp only
          rw [List.flatten_append, List.flatten_singleton]
          exact hS.ord [1, 2, 3, 4, 5]
        · dsimp only
          rw [take_snoc hx]
          exact All2.snoc hall ⟨_, _, _, rfl, h64⟩
        · intro cs hcs
          rcases List.mem_append.1 hcs with h | h
          · exact hcl cs h
          · simp only [List.mem_singleton] at h; subst h; rfl
      ·
        intro hc59
        try simp only [Bool.and_eq_true, Bool.or_eq_true, Bool.not_eq_true', Bool.and_eq_false_imp, Bool.or_eq_false_iff, Bool.not_eq_false', decide_eq_true_eq, decide_eq_false_iff_not] at hc59
        obtain rfl : k = p.ops.length := by omega
        rw [List.take_length] at hall
        refine wpIn_exit ?_
        refine thenE (thenE (blkE ?_))
        refine thenN ?_
        refine wpIn_seq ?_
        refine reg ?_
        refine qq hS (g_ldO 4 (vs := [.bool _, .int .i64 _, .int .i64 _, .slice _ _ _]) Tryd.sizeOf31 Tryd.isAgg31 rfl rfl rfl rfl) ?_
        refine qe (d_store 4 hS Tryd.sizeOf31 rfl rfl rfl (vs := [.bool _, .int .i64 _, .int .i64 _, .slice _ _ _]) rfl rfl rfl (Nat.le_of_ble_eq_true rfl) (cs' := [_, _, _, _]) rfl) ?_
        clear hS
        rintro _ w_27 ⟨rfl, hS⟩
        refine qe (d_store 3 hS Tryd.sizeOf4 rfl rfl rfl (vs := [.bool _]) rfl rfl rfl (Nat.le_of_ble_eq_true rfl) (cs' := [_]) rfl) ?_
        clear hS
        rintro _ w_28 ⟨rfl, hS⟩
        refine ol_nil (thenN ?_)
        refine wpIn_ret ?_
        refine retDf2 (inv46 b3) (fun w => readD_idle b3 w) Tryd.results31 (rv_cel 4 hS Tryd.sizeOf31 Tryd.isAgg31 rfl rfl rfl) (rv_cel1 3 hS Tryd.isAgg4 rfl rfl rfl) ?_
        obtain ⟨I6, hS3, hI3, ho3⟩ := St.freezeRowR (hS.sel [false, false, true, false, false]) rfl hcl hall
        exact ⟨I6, p, true, a, p.ops.length, c, rfl, hS3, RSl.mono ho3 (Sub.refl _) fun _ _ h => h.mono hI3, hp, ⟨fun _ => by omega, fun _ => rfl⟩, fun _ => rfl⟩

end Go.Proofs.YtdgnojckkjfhfaaDoor

