/- inlaylaw06.PatchMatchesReference: its function answers true. Conditions: arguments are of their kinds. -/
import Derived.Test.YthfgchcdilodlaaGreatRefApply
import Derived.Test.YthfgchcdilodlaaGreatCommon6
import Derived.Test.YthfgchcdilodlaaGreatPMakes
namespace Go.Proofs.YthfgchcdilodlaaGreat
open Go Go.RowKit Go.Inl
set_option linter.unusedSimpArgs false
set_option linter.unusedVariables false
theorem refOf_K (ad : Option Addr) (m cap : Nat) (l : List Sym) (size : Int) (C : PatL × Int) (w0 : World) (I0 : Imm) (hI : Sat I0 w0) (hl : RSyms I0 (.slice ad m cap) l) (hm : m = l.length) (hw : ∀ s ∈ l, s.wf) (hs : Mid size) (he : ofPP l size = C) :
    Ctr Tryz.prog 16 [.slice ad m cap, .int .i64 size] w0 (fun v w' => ∃ I' a m c, v = .tuple #[.agg #[.bool C.1.lifted, .int .i64 C.1.in_, .int .i64 C.1.out, .slice a m c], .int .i64 C.2] ∧ Ext w0 I0 w' I' ∧ ROps I' (.slice a m c) C.1.ops) := by
  subst hm; subst he; exact refOf_c ad cap l size w0 I0 hI hl hw hs
theorem same_K (p : PatL) (ad bd : Option Addr) (m cap mb capb : Nat) (w0 : World) (I0 : Imm) (hI : Sat I0 w0) (hops : ROps I0 (.slice ad m cap) p.ops) (hoq : ROps I0 (.slice bd mb capb) p.ops) (hp : p.wf) :
    Ctr Tryz.prog 19 [.agg #[.bool p.lifted, .int .i64 p.in_, .int .i64 p.out, .slice ad m cap], .agg #[.bool p.lifted, .int .i64 p.in_, .int .i64 p.out, .slice bd mb capb]] w0 (fun v w' => v = .bool true ∧ Ext w0 I0 w' I0) :=
  sameR_e p p ad bd m cap mb capb true w0 I0 hI hops hp hoq hp (samePR_refl p)
theorem costR_K (p : PatL) (ad : Option Addr) (m cap : Nat) (w0 : World) (I0 : Imm) (hI : Sat I0 w0) (hops : ROps I0 (.slice ad m cap) p.ops) (hp : p.wf) (hk : (checkP p).2 = 0) :
    Ctr Tryz.prog 21 [.agg #[.bool p.lifted, .int .i64 p.in_, .int .i64 p.out, .slice ad m cap]] w0 (fun v w' => v = .int .i64 (sumC p.ops) ∧ Ext w0 I0 w' I0) := by
  have hb := ops_len_bd _ (checkP_opsOk hk)
  obtain ⟨k1, k2, k3, k4, k5, k6, k7⟩ := checkP_ok hk
  have h := costR_c p ad m cap w0 I0 hI hops hp (fun x hx => by have := hb x hx; omega)
  rw [sumR_eq _ (checkP_opsOk hk)] at h
  exact h
theorem g_castK {P : Program} {ρ : Operand → Value} {S : World → Prop} {op : Op} {ty : TypeId} {v v' : Value} (h : Gives P ρ S op ty v) (e : v = v') : Gives P ρ S op ty v' := by subst e; exact h
theorem g_buildAK {P : Program} {n : Nat} {σ : Nat → Value} {S : World → Prop} {t e ty : TypeId} {N sz : Nat} {l : List (Nat × Operand)} {z : Value} {cs : List Value} {ps : List (Nat × Value)} (hz : ∀ w, (zeroValue t).run P w = .ok z w) (hT : P.underlying t = some (.array N e)) (hs : ∀ w, (sizeOf e).run P w = .ok sz w)
    (hps : (l.map fun p => (p.1, ev n σ p.2)) = ps) (hf : Instr.fill (fun i => some (i * sz, sz)) z.cells ps = some cs.toArray) : Gives P (ev n σ) S (.build t l.toArray) ty (.agg cs.toArray) := fun w _ => by
  subst hps
  simp only [execOp, Instr.build, Sem.run_bind, hz, run_underlying hT, Result.andThen_ok, hs]
  simp [hf]
theorem fill_pairK (z0 z1 : Value) (a b : Option Addr) (n m c d : Nat) : Instr.fill (fun i => some (i * 1, 1)) #[z0, z1] [(0, .slice a n c), (1, .slice b m d)] = some #[.slice a n c, .slice b m d] := by
  simp [Instr.fill, Value.cells, List.zipIdx]
theorem ofPP_wf {n : Int} {A : List Sym} (h0 : 0 ≤ n ∧ n ≤ 65536) (hl : A.length ≤ 20) (ok : okL n A) (hw : ∀ s ∈ A, s.wf) : (ofPP A n).1.wf := by
  rw [ofPP_ok h0 (by omega) ok]; exact ofOf_wf h0 (by omega) hw

set_option maxRecDepth 20000 in
set_option maxHeartbeats 4000000 in
theorem pmref_c (r : Int) (ad bd ed : Option Addr) (cap capb cape : Nat) (l : List Q4) (bs : List Int) (l2 : List Q2) (w0 : World) (I0 : Imm) (hI : Sat I0 w0) (hr : 0 ≤ r ∧ r ≤ 255) (h4 : RFl I0 4 q4C (.slice ad l.length cap) l) (hq : ∀ q ∈ l, q.wf) (hb : RBytes I0 (.slice bd bs.length capb) bs) (hbb : ∀ y ∈ bs, 0 ≤ y ∧ y ≤ 255) (h2 : RFl I0 2 q2C (.slice ed l2.length cape) l2) (hq2 : ∀ q ∈ l2, q.wf) :
    Ctr Tryz.prog 3 [.agg #[.int .u8 r, .slice ad l.length cap], .slice bd bs.length capb, .slice ed l2.length cape] w0 (fun v w' => ∃ I', v = .bool true ∧ Ext w0 I0 w' I') := by
  have hr13 : 0 ≤ r % 13 ∧ r % 13 ≤ 65536 := by omega
  have hpw := madeP_wf (size := r % 13) hq hr13
  obtain ⟨hpk, hpo, hpl⟩ := madeP_ok (size := r % 13) hq hr13
  have hlf : (madeP l (r % 13)).lifted = false := rfl
  have hin0 : (madeP l (r % 13)).in_ = r % 13 := rfl
  obtain ⟨p, hp⟩ : ∃ p, madeP l (r % 13) = p := ⟨_, rfl⟩
  rw [hp] at hpw hpk hpo hpl hlf hin0
  obtain ⟨k1, k2, k3, k4, k5, k6, k7⟩ := checkP_ok hpk
  obtain ⟨O, hO⟩ : ∃ O, inputP bs p.in_.toNat = O := ⟨_, rfl⟩
  have hA := symbolsP_ok hpk
  have hrw := symsRaw_wf (size := p.in_) hq2 k4
  have hrk := symsRaw_ok (size := p.in_) hq2
  have hrl := symsRaw_len l2 p.in_
  obtain ⟨A, hAe⟩ : ∃ A, symsRaw l2 p.in_ = A := ⟨_, rfl⟩
  rw [hAe] at hrw hrk hrl
  have hCw := ofPP_wf ⟨k3, k4⟩ (show A.length ≤ 20 by omega) hrk hrw
  obtain ⟨C, hC⟩ : ∃ C, ofPP A p.in_ = C := ⟨_, rfl⟩
  rw [hC] at hCw
  obtain ⟨nB, hnB⟩ : ∃ k : Nat, k = min bs.length 20 := ⟨_, rfl⟩
  have hmin : (if (20 : Int) < (bs.length : Int) then 20 else (bs.length : Int)) = nB := by split <;> omega
  have hlen : (p.ops.length : Int) = p.ops.length := rfl
  have hck := checkP_at hpk
  have hc1 := (RSl.resl2 hb bs.length bs.length (Nat.le_refl _) (Nat.le_refl _)).2.1
  refine fn (n := 172) Tryz.func3 rfl rfl rfl ?_
  have hS := St.start hI
  refine wpIn_seq ?_
  refine reg ?_
  refine qe (d_box (cs := [.int .u8 _, .slice _ _ _]) hS rfl) ?_
  clear hS
  rintro _ w_1 ⟨b3, rfl, hS⟩
  refine qq hS (g_assignv (v := .bool _) rfl) ?_
  refine ol_nil (thenN ?_)
  refine wpIn_seq ?_
  refine reg ?_
  refine qe (d_call Tryz.call4 rfl (sanity6_c _ _ hS.imm)) ?_
  rintro _ w_2 ⟨I_f, rfl, hE⟩
  replace hS := hS.callE hE
  replace h4 := h4.mono hE.ext
  replace hb := hb.mono hE.ext
  replace h2 := h2.mono hE.ext
  refine qq hS (g_assignv (v := .bool _) rfl) ?_
  refine ol_nil (thenN ?_)
  refine wpIn_seq ?_
  refine reg ?_
  refine qq hS (g_ldO 0 (vs := [.int .u8 _, .slice _ _ _]) Tryz.sizeOf24 Tryz.isAgg24 rfl rfl rfl rfl) ?_
  refine qe (d_call Tryz.call5 rfl (made6_E r ad cap l p _ _ hS.imm h4 hq hr hp)) ?_
  rintro _ w_3 ⟨I_f, a33, m33, c33, rfl, hE, h33⟩
  replace hS := hS.callE hE
  replace h4 := h4.mono hE.ext
  replace hb := hb.mono hE.ext
  replace h2 := h2.mono hE.ext
  refine qe (d_alloc (cs := [.bool _, .int .i64 _, .int .i64 _, .slice _ _ _]) hS Tryz.zeroValue30 rfl) ?_
  clear hS
  rintro _ w_4 ⟨b8, rfl, hS⟩
  refine qe (d_store 0 hS Tryz.sizeOf30 rfl rfl rfl (vs := [.bool _, .int .i64 _, .int .i64 _, .slice _ _ _]) rfl rfl rfl (Nat.le_of_ble_eq_true rfl) (cs' := [_, _, _, _]) rfl) ?_
  clear hS
  rintro _ w_5 ⟨rfl, hS⟩
  refine ol_nil (thenN ?_)
  refine wpIn_seq ?_
  refine reg ?_
  refine qq hS (g_move _) ?_
  refine qq hS (g_fieldAddr (o' := 1) Tryz.underlying30 rfl Tryz.sizeOf3 rfl rfl rfl) ?_
  refine qq hS (g_ldO1 0 Tryz.isAgg3 rfl rfl rfl) ?_
  refine qe (d_call Tryz.call6 rfl (input_E _ _ bs p.in_ O _ _ hS.imm hb hbb ⟨k3, k4⟩ hO)) ?_
  rintro _ w_6 ⟨I_f, a37, c37, rfl, hE, h37⟩
  replace hS := hS.callE hE
  replace h4 := h4.mono hE.ext
  replace hb := hb.mono hE.ext
  replace h2 := h2.mono hE.ext
  replace h33 := h33.mono hE.ext
  refine qq hS (g_assign _) ?_
  refine ol_nil (thenN ?_)
  refine wpIn_seq ?_
  refine reg ?_
  refine qq hS (g_ldO 0 (vs := [.bool _, .int .i64 _, .int .i64 _, .slice _ _ _]) Tryz.sizeOf30 Tryz.isAgg30 rfl rfl rfl rfl) ?_
  refine qe (d_call Tryz.call7 rfl (symbolsR_e p _ _ _ (symsOf p.ops, 0) _ _ hS.imm h33 hpw hA)) ?_
  rintro _ w_7 ⟨I_f, a40, c40, rfl, hE, h40⟩
  replace hS := hS.callE hE
  replace h4 := h4.mono hE.ext
  replace hb := hb.mono hE.ext
  replace h2 := h2.mono hE.ext
  replace h33 := h33.mono hE.ext
  replace h37 := h37.mono hE.ext
  refine qq hS (g_move _) ?_
  refine qq hS (g_extract rfl rfl) ?_
  refine qq hS (g_extract (v := .int .i64 _) rfl rfl) ?_
  refine qq hS (g_assign _) ?_
  refine qq hS (g_assignv (v := .int .i64 _) rfl) ?_
  refine ol_nil (thenN ?_)
  refine wpIn_seq ?_
  refine reg ?_
  refine qq hS (g_move _) ?_
  refine qq hS (g_fieldAddr (o' := 1) Tryz.underlying30 rfl Tryz.sizeOf3 rfl rfl rfl) ?_
  refine qq hS (g_ldO1 0 Tryz.isAgg3 rfl rfl rfl) ?_
  refine qe (d_call Tryz.call8 rfl (rawSyms6_E ed cape l2 p.in_ A _ _ hS.imm h2 hq2 ⟨k3, k4⟩ hAe)) ?_
  rintro _ w_8 ⟨I_f, a46, c46, rfl, hE, h46⟩
  replace hS := hS.callE hE
  replace h4 := h4.mono hE.ext
  replace hb := hb.mono hE.ext
  replace h2 := h2.mono hE.ext
  replace h33 := h33.mono hE.ext
  replace h37 := h37.mono hE.ext
  replace h40 := h40.mono hE.ext
  refine qq hS (g_assign _) ?_
  refine ol_nil (thenN ?_)
  refine wpIn_seq ?_
  have hB0 := RSl.slH hb nB (by omega)
  obtain ⟨ad2, cap2, hv2, _⟩ := hB0.len
  obtain ⟨B, hBe⟩ : ∃ B, bs.take nB = B := ⟨_, rfl⟩
  rw [hBe] at hB0 hv2
  rw [hv2] at hB0
  have hBl : B.length = nB := by rw [← hBe, List.length_take]; omega
  refine reg ?_
  refine qq hS (g_move _) ?_
  refine qq hS (g_move _) ?_
  refine qq hS (g_move _) ?_
  refine qq hS (g_lenI rfl Tryz.underlying25 hb rfl) ?_
  refine qq hS (g_minE rfl rfl hmin) ?_
  refine qq hS (g_castK (g_sliceHN (h0 := nB) Tryz.underlying25 Tryz.sizeOf5 rfl rfl (by omega) (by omega) (by omega)) hv2) ?_
  refine qq hS (g_buildAK (cs := [.slice _ _ _, .slice _ _ _]) Tryz.zeroValue38 Tryz.underlying38 Tryz.sizeOf25 (mp (v := .slice _ _ _) rfl (mp (v := .slice _ _ _) rfl mp0)) (fill_pairK _ _ _ _ _ _ _ _)) ?_
  refine qe (d_alloc (cs := [.slice _ _ _, .slice _ _ _]) hS Tryz.zeroValue38 rfl) ?_
  clear hS
  rintro _ w_9 ⟨b13, rfl, hS⟩
  refine qe (d_store 0 hS Tryz.sizeOf38 rfl rfl rfl (vs := [.slice _ _ _, .slice _ _ _]) rfl rfl rfl (Nat.le_of_ble_eq_true rfl) (cs' := [_, _]) rfl) ?_
  clear hS
  rintro _ w_10 ⟨rfl, hS⟩
  refine ol_nil (thenN ?_)
  refine wpIn_seq ?_
  refine wpIn_seq ?_
  refine reg ?_
  refine qq hS (g_assignv (v := .int .i64 _) rfl) ?_
  refine ol_nil (thenN ?_)
  refine wpIn_block ?_
  refine loop (fun (i : Nat) σ w => okS σ [(7, .bool true), (8, .pointer (some ⟨b8, 0, none⟩)), (10, .slice a40 (symsOf p.ops).length c40), (12, .slice a46 A.length c46), (13, .pointer (some ⟨b13, 0, none⟩)), (14, .int .i64 i)] ∧ ∃ I, St [] w0 I0 I w [.cel b13 38 [.slice a37 O.length c37, .slice ad2 B.length cap2], .cel b8 30 [.bool p.lifted, .int .i64 p.in_, .int .i64 p.out, .slice a33 m33 c33]] ∧ i ≤ 2 ∧ ROps I (.slice a33 m33 c33) p.ops ∧ RBytes I (.slice a37 O.length c37) O ∧ RBytes I (.slice ad2 B.length cap2) B ∧ RSyms I (.slice a40 (symsOf p.ops).length c40) (symsOf p.ops) ∧ RSyms I (.slice a46 A.length c46) A) (fun i => 2 - i) (0) ?_ ?_
  ·
    exact ⟨⟨rfl, rfl, rfl, rfl, rfl, rfl, trivial⟩, _, hS.sel [true, true, false], by omega, h33, h37, hB0, h40, h46⟩
  ·
    rintro i σ w_l ⟨hs, I, hS, hi0, h33, h37, hB0, h40, h46⟩
    rw [← upds_self hs]; clear hs
    refine wpIn_seq ?_
    refine wpIn_seq ?_
    refine reg ?_
    refine qq hS (g_movev (v := .int .i64 _) rfl) ?_
    refine qq hS (g_lss rfl rfl) ?_
    refine ol_nil (thenN ?_)
    refine cond_s rfl ?_ ?_
    ·
      intro hc55
      try simp only [Bool.and_eq_true, Bool.or_eq_true, Bool.not_eq_true', Bool.and_eq_false_imp, Bool.or_eq_false_iff, Bool.not_eq_false', decide_eq_true_eq, decide_eq_false_iff_not] at hc55
      obtain ⟨adi, capi, Z, hci, hZ⟩ : ∃ adi capi, ∃ Z : List Int, ([.slice a37 O.length c37, .slice ad2 B.length cap2] : List Value)[i]? = some (.slice adi Z.length capi) ∧ RBytes I (.slice adi Z.length capi) Z := by
        rcases (show i = 0 ∨ i = 1 by omega) with rfl | rfl
        · exact ⟨_, _, O, rfl, h37⟩
        · exact ⟨_, _, B, rfl, hB0⟩
      obtain ⟨R, e, hR⟩ : ∃ R e, applyP Z p = (R, e) := ⟨_, _, rfl⟩
      obtain ⟨R2, e2, hR2⟩ : ∃ R e, runP Z A = (R, e) := ⟨_, _, rfl⟩
      refine wpIn_skip ?_
      refine thenN ?_
      refine wpIn_seq ?_
      refine wpIn_block ?_
      refine wpIn_seq ?_
      refine draw (.cons 0 .pure (.cons 1 .pure (.cons 2 .held (.cons 3 .held (.cons 4 .eff (.cons 5 .pure (.cons 6 .pure (.cons 7 .pure (.cons 8 .pure (.cons 9 .pure .nil)))))))))) mixed (by kernel_rfl) hS ?_
      intro w_11 hS
      refine sp rfl (g_movev (v := .int .i64 _) rfl) ?_
      refine sp rfl (g_indexArr (o' := i) Tryz.underlying38 Tryz.sizeOf25 rfl rfl (by omega) (by omega) (by omega)) ?_
      refine sh rfl (g_ldO1 0 Tryz.isAgg25 rfl rfl hci) ?_
      refine sh rfl (g_ldO 1 (vs := [.bool _, .int .i64 _, .int .i64 _, .slice _ _ _]) Tryz.sizeOf30 Tryz.isAgg30 rfl rfl rfl rfl) ?_
      have hS0 := hS
      refine se rfl (d_call Tryz.call9 rfl (apply_L p _ _ _ _ _ _ Z R e _ _ hS.imm h33 hpw hlf hZ rfl hR)) ?_
      rintro _ w_12 ⟨I_f, a63, c63, rfl, hE, h63⟩
      replace hS := hS.call hE
      replace h33 := h33.mono hE.ext
      replace h37 := h37.mono hE.ext
      replace hB0 := hB0.mono hE.ext
      replace h40 := h40.mono hE.ext
      replace h46 := h46.mono hE.ext
      replace hZ := hZ.mono hE.ext
      refine ⟨_, _, hS0.le hE.ext (List.Sublist.refl _), hS, ?_⟩
      refine sp rfl (g_move _) ?_
      refine sp rfl (g_extract rfl rfl) ?_
      refine sp rfl (g_extract (v := .int .i64 _) rfl rfl) ?_
      refine sp rfl (g_assign _) ?_
      refine sp rfl (g_assignv (v := .int .i64 _) rfl) ?_
      refine sn (thenN ?_)
      refine wpIn_seq ?_
      refine draw (.cons 0 .pure (.cons 1 .pure (.cons 2 .held (.cons 3 .held (.cons 4 .eff (.cons 5 .pure (.cons 6 .pure (.cons 7 .pure (.cons 8 .pure (.cons 9 .pure .nil)))))))))) mixed (by kernel_rfl) hS ?_
      intro w_13 hS
      refine sp rfl (g_movev (v := .int .i64 _) rfl) ?_
      refine sp rfl (g_indexArr (o' := i) Tryz.underlying38 Tryz.sizeOf25 rfl rfl (by omega) (by omega) (by omega)) ?_
      refine sh rfl (g_ldO1 0 Tryz.isAgg25 rfl rfl hci) ?_
      refine sh rfl (g_ldO 1 (vs := [.bool _, .int .i64 _, .int .i64 _, .slice _ _ _]) Tryz.sizeOf30 Tryz.isAgg30 rfl rfl rfl rfl) ?_
      have hS0 := hS
      refine se rfl (d_call Tryz.call10 rfl (refApply_L p _ _ _ _ _ _ Z R e _ _ hS.imm h33 hpw hlf hpk hZ rfl hR)) ?_
      rintro _ w_14 ⟨I_f, a71, c71, rfl, hE, h71⟩
      replace hS := hS.call hE
      replace h33 := h33.mono hE.ext
      replace h37 := h37.mono hE.ext
      replace hB0 := hB0.mono hE.ext
      replace h40 := h40.mono hE.ext
      replace h46 := h46.mono hE.ext
      replace hZ := hZ.mono hE.ext
      replace h63 := h63.mono hE.ext
      refine ⟨_, _, hS0.le hE.ext (List.Sublist.refl _), hS, ?_⟩
      refine sp rfl (g_move _) ?_
      refine sp rfl (g_extract rfl rfl) ?_
      refine sp rfl (g_extract (v := .int .i64 _) rfl rfl) ?_
      refine sp rfl (g_assign _) ?_
      refine sp rfl (g_assignv (v := .int .i64 _) rfl) ?_
      refine sn (thenN ?_)
      refine wpIn_seq ?_
      refine reg ?_
      refine qq hS (g_movev (v := .int .i64 _) rfl) ?_
      refine qq hS (g_indexArr (o' := i) Tryz.underlying38 Tryz.sizeOf25 rfl rfl (by omega) (by omega) (by omega)) ?_
      refine qq hS (g_ldO1 0 Tryz.isAgg25 rfl rfl hci) ?_
      refine qq hS (g_move _) ?_
      refine qe (d_call Tryz.call11 rfl (run6_L _ _ _ _ _ _ Z A R2 e2 _ _ hS.imm hZ rfl h46 rfl hrw (by omega) hR2)) ?_
      rintro _ w_15 ⟨I_f, a79, c79, rfl, hE, h79⟩
      replace hS := hS.callE hE
      replace h33 := h33.mono hE.ext
      replace h37 := h37.mono hE.ext
      replace hB0 := hB0.mono hE.ext
      replace h40 := h40.mono hE.ext
      replace h46 := h46.mono hE.ext
      replace hZ := hZ.mono hE.ext
      replace h63 := h63.mono hE.ext
      replace h71 := h71.mono hE.ext
      refine qq hS (g_move _) ?_
      refine qq hS (g_extract rfl rfl) ?_
      refine qq hS (g_extract (v := .int .i64 _) rfl rfl) ?_
      refine qq hS (g_assign _) ?_
      refine qq hS (g_assignv (v := .int .i64 _) rfl) ?_
      refine ol_nil (thenN ?_)
      refine wpIn_seq ?_
      refine reg ?_
      refine qq hS (g_movev (v := .int .i64 _) rfl) ?_
      refine qq hS (g_indexArr (o' := i) Tryz.underlying38 Tryz.sizeOf25 rfl rfl (by omega) (by omega) (by omega)) ?_
      refine qq hS (g_ldO1 0 Tryz.isAgg25 rfl rfl hci) ?_
      refine qq hS (g_move _) ?_
      refine qe (d_call Tryz.call12 rfl (refRun_L _ _ _ _ _ _ Z A R2 e2 _ _ hS.imm hZ rfl h46 rfl hrw (by omega) hR2)) ?_
      rintro _ w_16 ⟨I_f, a87, c87, rfl, hE, h87⟩
      replace hS := hS.callE hE
      replace h33 := h33.mono hE.ext
      replace h37 := h37.mono hE.ext
      replace hB0 := hB0.mono hE.ext
      replace h40 := h40.mono hE.ext
      replace h46 := h46.mono hE.ext
      replace hZ := hZ.mono hE.ext
      replace h63 := h63.mono hE.ext
      replace h71 := h71.mono hE.ext
      replace h79 := h79.mono hE.ext
      refine qq hS (g_move _) ?_
      refine qq hS (g_extract rfl rfl) ?_
      refine qq hS (g_extract (v := .int .i64 _) rfl rfl) ?_
      refine qq hS (g_assign _) ?_
      refine qq hS (g_assignv (v := .int .i64 _) rfl) ?_
      refine ol_nil (thenN ?_)
      refine wpIn_seq ?_
      refine reg ?_
      refine qq hS (g_move _) ?_
      refine qq hS (g_move _) ?_
      refine qe (d_call Tryz.call13 rfl (sameB_E _ _ R R _ _ hS.imm h63 h71 rfl)) ?_
      rintro _ w_17 ⟨rfl, hE⟩
      replace hS := hS.callE hE
      refine qq hS (g_not rfl) ?_
      refine qq hS (g_movev (v := .bool _) rfl) ?_
      refine qqs rfl rfl hS (g_movev (v := .int .i64 _) rfl) ?_
      refine qqs rfl rfl hS (g_movev (v := .int .i64 _) rfl) ?_
      refine qqs rfl rfl hS (g_neqF rfl rfl rfl) ?_
      refine qq hS (g_or rfl rfl (fun _ => rfl)) ?_
      refine qq hS (g_movev (v := .bool _) rfl) ?_
      refine qqs rfl rfl hS (g_move _) ?_
      refine qqs rfl rfl hS (g_move _) ?_
      refine qes rfl rfl (d_call Tryz.call13 rfl (sameB_E _ _ R2 R2 _ _ hS.imm h79 h87 rfl)) ?_
      rintro _ w_18 ⟨rfl, hE⟩
      replace hS := hS.callE hE
      refine qqs rfl rfl hS (g_not rfl) ?_
      refine qq hS (g_or rfl rfl (fun _ => rfl)) ?_
      refine qq hS (g_movev (v := .bool _) rfl) ?_
      refine qqs rfl rfl hS (g_movev (v := .int .i64 _) rfl) ?_
      refine qqs rfl rfl hS (g_movev (v := .int .i64 _) rfl) ?_
      refine qqs rfl rfl hS (g_neqF rfl rfl rfl) ?_
      refine qq hS (g_or rfl rfl (fun _ => rfl)) ?_
      refine ol_nil (thenN ?_)
      refine cond_f (rfl) ?_
      refine wpIn_skip ?_
      refine blkN (thenN ?_)
      refine reg ?_
      refine qq hS (g_movev (v := .int .i64 _) rfl) ?_
      refine qq hS (g_add rfl rfl (by omega) (by omega)) ?_
      refine qq hS (g_assignv (v := .int .i64 _) rfl) ?_
      refine ol_nil (thenN ?_)
      exact ⟨i + 1, _, rfl, ⟨⟨rfl, rfl, rfl, rfl, rfl, rfl, trivial⟩, _, hS.sel [true, true], by omega, h33, h37, hB0, h40, h46⟩, by omega⟩
    ·
      intro hc55
      try simp only [Bool.and_eq_true, Bool.or_eq_true, Bool.not_eq_true', Bool.and_eq_false_imp, Bool.or_eq_false_iff, Bool.not_eq_false', decide_eq_true_eq, decide_eq_false_iff_not] at hc55
      refine wpIn_exit ?_
      refine thenE (thenE (blkE ?_))
      refine thenN ?_
      refine wpIn_seq ?_
      refine reg ?_
      refine qq hS (g_ldO 1 (vs := [.bool _, .int .i64 _, .int .i64 _, .slice _ _ _]) Tryz.sizeOf30 Tryz.isAgg30 rfl rfl rfl rfl) ?_
      refine qe (d_call Tryz.call14 rfl (symbols_L p _ _ _ (symsOf p.ops) 0 _ _ hS.imm h33 hpw hA)) ?_
      rintro _ w_19 ⟨I_f, a112, c112, rfl, hE, h112⟩
      replace hS := hS.callE hE
      replace h33 := h33.mono hE.ext
      replace h37 := h37.mono hE.ext
      replace hB0 := hB0.mono hE.ext
      replace h40 := h40.mono hE.ext
      replace h46 := h46.mono hE.ext
      refine qq hS (g_move _) ?_
      refine qq hS (g_extract rfl rfl) ?_
      refine qq hS (g_extract (v := .int .i64 _) rfl rfl) ?_
      refine qq hS (g_assign _) ?_
      refine qq hS (g_assignv (v := .int .i64 _) rfl) ?_
      refine ol_nil (thenN ?_)
      refine wpIn_seq ?_
      refine reg ?_
      refine qq hS (g_move _) ?_
      refine qq hS (g_fieldAddr (o' := 1) Tryz.underlying30 rfl Tryz.sizeOf3 rfl rfl rfl) ?_
      refine qq hS (g_ldO1 1 Tryz.isAgg3 rfl rfl rfl) ?_
      refine qe (d_call Tryz.call15 rfl (patchOf_E _ _ _ A p.in_ C _ _ hS.imm h46 rfl hrw hC)) ?_
      rintro _ w_20 ⟨I_f, a119, m119, c119, rfl, hE, h119⟩
      replace hS := hS.callE hE
      replace h33 := h33.mono hE.ext
      replace h37 := h37.mono hE.ext
      replace hB0 := hB0.mono hE.ext
      replace h40 := h40.mono hE.ext
      replace h46 := h46.mono hE.ext
      replace h112 := h112.mono hE.ext
      refine qq hS (g_move _) ?_
      refine qq hS (g_extract rfl rfl) ?_
      refine qq hS (g_extract (v := .int .i64 _) rfl rfl) ?_
      refine qe (d_alloc (cs := [.bool _, .int .i64 _, .int .i64 _, .slice _ _ _]) hS Tryz.zeroValue30 rfl) ?_
      clear hS
      rintro _ w_21 ⟨b25, rfl, hS⟩
      refine qe (d_store 0 hS Tryz.sizeOf30 rfl rfl rfl (vs := [.bool _, .int .i64 _, .int .i64 _, .slice _ _ _]) rfl rfl rfl (Nat.le_of_ble_eq_true rfl) (cs' := [_, _, _, _]) rfl) ?_
      clear hS
      rintro _ w_22 ⟨rfl, hS⟩
      refine qq hS (g_assignv (v := .int .i64 _) rfl) ?_
      refine ol_nil (thenN ?_)
      refine wpIn_seq ?_
      refine reg ?_
      refine qq hS (g_move _) ?_
      refine qq hS (g_fieldAddr (o' := 1) Tryz.underlying30 rfl Tryz.sizeOf3 rfl rfl rfl) ?_
      refine qq hS (g_ldO1 2 Tryz.isAgg3 rfl rfl rfl) ?_
      refine qe (d_call Tryz.call16 rfl (refOf_K _ _ _ A p.in_ C _ _ hS.imm h46 rfl hrw ⟨by omega, by omega⟩ hC)) ?_
      rintro _ w_23 ⟨I_f, a126, m126, c126, rfl, hE, h126⟩
      replace hS := hS.callE hE
      replace h33 := h33.mono hE.ext
      replace h37 := h37.mono hE.ext
      replace hB0 := hB0.mono hE.ext
      replace h40 := h40.mono hE.ext
      replace h46 := h46.mono hE.ext
      replace h112 := h112.mono hE.ext
      replace h119 := h119.mono hE.ext
      refine qq hS (g_move _) ?_
      refine qq hS (g_extract rfl rfl) ?_
      refine qq hS (g_extract (v := .int .i64 _) rfl rfl) ?_
      refine qe (d_alloc (cs := [.bool _, .int .i64 _, .int .i64 _, .slice _ _ _]) hS Tryz.zeroValue30 rfl) ?_
      clear hS
      rintro _ w_24 ⟨b27, rfl, hS⟩
      refine qe (d_store 0 hS Tryz.sizeOf30 rfl rfl rfl (vs := [.bool _, .int .i64 _, .int .i64 _, .slice _ _ _]) rfl rfl rfl (Nat.le_of_ble_eq_true rfl) (cs' := [_, _, _, _]) rfl) ?_
      clear hS
      rintro _ w_25 ⟨rfl, hS⟩
      refine qq hS (g_assignv (v := .int .i64 _) rfl) ?_
      refine ol_nil (thenN ?_)
      refine wpIn_seq ?_
      refine reg ?_
      refine qq hS (g_ldO 3 (vs := [.bool _, .int .i64 _, .int .i64 _, .slice _ _ _]) Tryz.sizeOf30 Tryz.isAgg30 rfl rfl rfl rfl) ?_
      refine qe (d_call Tryz.call17 rfl (check_E p _ _ _ p.ops.length 0 _ _ hS.imm h33 hpw hck)) ?_
      rintro _ w_26 ⟨rfl, hE⟩
      replace hS := hS.callE hE
      refine qq hS (g_move _) ?_
      refine qq hS (g_extract (v := .int .i64 _) rfl rfl) ?_
      refine qq hS (g_extract (v := .int .i64 _) rfl rfl) ?_
      refine qq hS (g_assignv (v := .int .i64 _) rfl) ?_
      refine qq hS (g_assignv (v := .int .i64 _) rfl) ?_
      refine ol_nil (thenN ?_)
      refine wpIn_seq ?_
      refine draw (.cons 0 .pure (.cons 1 .pure (.cons 2 .pure (.cons 3 .pure (.cons 4 .pure (.cons 5 .eff (.cons 6 .pure (.cons 7 .pure (.cons 8 .pure (.cons 9 .pure (.cons 10 .pure (.cons 11 .pure (.cons 12 .pure (.cons 13 .held (.cons 14 .held (.cons 15 .eff (.cons 16 .pure (.cons 17 .pure (.cons 18 .pure (.cons 19 .pure (.cons 20 .pure (.cons 21 .pure (.cons 22 .pure (.cons 23 .pure (.cons 24 .held (.cons 25 .pure (.cons 26 .pure (.cons 27 .pure (.cons 28 .pure (.cons 29 .held (.cons 31 .held (.cons 30 .eff (.cons 32 .eff (.cons 33 .pure (.cons 34 .pure (.cons 35 .pure (.cons 36 .pure (.cons 37 .pure (.cons 38 .pure .nil))))))))))))))))))))))))))))))))))))))) mixed (by kernel_rfl) hS ?_
      intro w_27 hS
      refine sp rfl (g_movev (v := .int .i64 _) rfl) ?_
      refine sp rfl (g_eql rfl rfl) ?_
      refine sp rfl (g_movev (v := .bool _) rfl) ?_
      refine spt rfl rfl rfl (g_move _) ?_
      refine spt rfl rfl rfl (g_move _) ?_
      have hS0 := hS
      refine Inl.set rfl rfl rfl (d_call Tryz.call18 rfl (sameSyms_E _ _ (symsOf p.ops) (symsOf p.ops) _ _ hS.imm h40 h112 (symsEq_iff.2 rfl))) ?_
      rintro _ w_28 ⟨rfl, hE⟩
      replace hS := hS.call hE
      refine ⟨_, _, hS0.le hE.ext (List.Sublist.refl _), hS, ?_⟩
      refine sp rfl (g_and rfl rfl (fun _ => rfl)) ?_
      refine sp rfl (g_movev (v := .bool _) rfl) ?_
      refine spt rfl rfl rfl (g_movev (v := .int .i64 _) rfl) ?_
      refine spt rfl rfl rfl (g_movev (v := .int .i64 _) rfl) ?_
      refine spt rfl rfl rfl (g_eqT6 rfl rfl rfl) ?_
      refine sp rfl (g_and rfl rfl (fun _ => rfl)) ?_
      refine sp rfl (g_movev (v := .bool _) rfl) ?_
      refine sht rfl rfl rfl (g_ldO 1 (vs := [.bool _, .int .i64 _, .int .i64 _, .slice _ _ _]) Tryz.sizeOf30 Tryz.isAgg30 rfl rfl rfl rfl) ?_
      refine sht rfl rfl rfl (g_ldO 0 (vs := [.bool _, .int .i64 _, .int .i64 _, .slice _ _ _]) Tryz.sizeOf30 Tryz.isAgg30 rfl rfl rfl rfl) ?_
      have hS0 := hS
      refine Inl.set rfl rfl rfl (d_call Tryz.call19 rfl (same_K C.1 _ _ _ _ _ _ _ _ hS.imm h119 h126 hCw)) ?_
      rintro _ w_29 ⟨rfl, hE⟩
      replace hS := hS.call hE
      refine ⟨_, _, hS0.le hE.ext (List.Sublist.refl _), hS, ?_⟩
      refine sp rfl (g_and rfl rfl (fun _ => rfl)) ?_
      refine sp rfl (g_movev (v := .bool _) rfl) ?_
      refine spt rfl rfl rfl (g_movev (v := .int .i64 _) rfl) ?_
      refine spt rfl rfl rfl (g_eql rfl rfl) ?_
      refine sp rfl (g_and rfl rfl (fun _ => rfl)) ?_
      refine sp rfl (g_movev (v := .bool _) rfl) ?_
      refine spt rfl rfl rfl (g_movev (v := .int .i64 _) rfl) ?_
      refine spt rfl rfl rfl (g_fieldAddr (o' := 3) Tryz.underlying30 rfl Tryz.sizeOf28 rfl rfl rfl) ?_
      refine sht rfl rfl rfl (g_ldO1 3 Tryz.isAgg28 rfl rfl rfl) ?_
      refine spt rfl rfl rfl (g_lenI rfl Tryz.underlying28 h33 rfl) ?_
      refine spt rfl rfl rfl (g_eqT6 rfl rfl hlen) ?_
      refine sp rfl (g_and rfl rfl (fun _ => rfl)) ?_
      refine sp rfl (g_movev (v := .bool _) rfl) ?_
      refine sht rfl rfl rfl (g_ldO 3 (vs := [.bool _, .int .i64 _, .int .i64 _, .slice _ _ _]) Tryz.sizeOf30 Tryz.isAgg30 rfl rfl rfl rfl) ?_
      refine sht rfl rfl rfl (g_ldO 3 (vs := [.bool _, .int .i64 _, .int .i64 _, .slice _ _ _]) Tryz.sizeOf30 Tryz.isAgg30 rfl rfl rfl rfl) ?_
      have hS0 := hS
      refine Inl.set rfl rfl rfl (d_call Tryz.call20 rfl (costN_E p _ _ _ _ _ _ hS.imm h33 hpw hpk rfl)) ?_
      rintro _ w_30 ⟨rfl, hE⟩
      replace hS := hS.call hE
      refine ⟨_, _, hS0.le hE.ext (List.Sublist.refl _), hS, ?_⟩
      have hS0 := hS
      refine Inl.set rfl rfl rfl (d_call Tryz.call21 rfl (costR_K p _ _ _ _ _ hS.imm h33 hpw hpk)) ?_
      rintro _ w_31 ⟨rfl, hE⟩
      replace hS := hS.call hE
      refine ⟨_, _, hS0.le hE.ext (List.Sublist.refl _), hS, ?_⟩
      refine spt rfl rfl rfl (g_eqT6 rfl rfl rfl) ?_
      refine sp rfl (g_and rfl rfl (fun _ => rfl)) ?_
      refine sp rfl (g_movev (v := .bool _) rfl) ?_
      refine spt rfl rfl rfl (g_movev (v := .bool _) rfl) ?_
      refine sp rfl (g_and rfl rfl (fun _ => rfl)) ?_
      refine sp rfl (g_assignv (v := .bool _) rfl) ?_
      refine sn (thenN ?_)
      refine wpIn_ret ?_
      refine ret1 Tryz.results3 (rv_tmp (v := .bool _) rfl) ?_
      exact ⟨_, rfl, hS.nil⟩

end Go.Proofs.YthfgchcdilodlaaGreat

