/- inlaylaw12.SplitJoins: its function answers true. Conditions: arguments are of their kinds. -/
import Derived.Test.YtodopmclnklgdaaGreatSMref
import Derived.Test.YtodopmclnklgdaaGreatSLifted
import Derived.Test.YtodopmclnklgdaaGreatCGroups
import Derived.Test.YtodopmclnklgdaaGreatCommon6
namespace Go.Proofs.YtodopmclnklgdaaGreat
open Go Go.RowKit Go.Inl
set_option linter.unusedSimpArgs false
set_option linter.unusedVariables false
theorem many_in {l : List RawL} {n : Nat} : ∃ m, ∀ p ∈ manyP l n, p.in_ = m := by
  unfold manyP
  split
  · exact ⟨3, fun p hp => by rw [List.mem_singleton.1 hp]; rfl⟩
  · exact ⟨_, fun p hp => by obtain ⟨x, hx, rfl⟩ := List.mem_map.1 hp; rfl⟩
def opsAll (l : List PatL) : List OpL := l.flatMap fun p => p.ops
theorem symsOf_flat : ∀ l : List PatL, symsOf (opsAll l) = flatS l
  | [] => rfl
  | p :: l => by
    show symsOf (p.ops ++ opsAll l) = symsOf p.ops ++ flatS l
    rw [symsOf_append, symsOf_flat l]
theorem flatS_append (a b : List PatL) : flatS (a ++ b) = flatS a ++ flatS b := by unfold flatS; rw [List.flatMap_append]
theorem opsAll_snoc {l : List PatL} {k : Nat} {p : PatL} (h : l[k]? = some p) : opsAll (l.take (k + 1)) = opsAll (l.take k) ++ p.ops := by rw [take_snoc h]; simp [opsAll]
theorem sumO_bd : ∀ (l : List PatL), (∀ p ∈ l, 0 ≤ p.out ∧ p.out ≤ 30) → 0 ≤ sumO l ∧ sumO l ≤ 30 * (l.length : Int)
  | [], _ => by simp [sumO]
  | p :: l, h => by
    have h1 := h p (List.mem_cons_self ..)
    have h2 := sumO_bd l fun q hq => h q (List.mem_cons_of_mem _ hq)
    have e : sumO (p :: l) = p.out + sumO l := by simp [sumO]
    rw [e, List.length_cons]; omega
structure JoinFor (D : List PatL) (n : Int) (F : PatL) : Prop where
  eq : F = formOf false n (flatS D)
  join : joinP D = (F, 0)
  chk : (checkP F).2 = 0
  wf : F.wf
  lif : F.lifted = false
  in_ : F.in_ = n
  out : F.out = (flatS D).length
  syms : symsOf F.ops = flatS D
  cost : sumC F.ops ≤ sumC (opsAll D)
theorem join_for {D : List PatL} {n : Int} (hn : D ≠ []) (hw : ∀ p ∈ D, p.wf) (hc : ∀ p ∈ D, (checkP p).2 = 0) (hl : ∀ p ∈ D, p.lifted = false) (hi : ∀ p ∈ D, p.in_ = n) (h0 : 0 ≤ n ∧ n ≤ 65536) (hs : sumO D ≤ 4096) : ∃ F, JoinFor D n F := by
  have hok : okL n (flatS D) := flat_ok hc hi
  have hlen : ((flatS D).length : Int) = sumO D := flat_len hc
  have h4 : (flatS D).length ≤ 4096 := by omega
  have hsp := optL_spec hok
  refine ⟨_, rfl, joinP_ok hn hc hl hi hs, formOf_check h0 h4 hok, formOf_wf h0 h4 hok (flat_wf hw hc), rfl, rfl, rfl, hsp.1, ?_⟩
  show sumC (optL (flatS D)) ≤ _
  rw [hsp.2.2.1, ← symsOf_flat]
  refine best_le (n := n) fun x hx => ?_
  obtain ⟨p, hp, hx⟩ := List.mem_flatMap.1 hx
  have := checkP_opsOk (hc p hp) x hx
  rwa [hi p hp] at this
theorem join_pair {D E : List PatL} {n : Int} {X Y F : PatL} (hX : JoinFor D n X) (hY : JoinFor E n Y) (hF : JoinFor (D ++ E) n F) (hs : X.out + Y.out ≤ 4096) : joinP [X, Y] = (F, 0) := by
  have h := joinP_ok (l := [X, Y]) (b := false) (n := n) (by simp) (two_mem hX.chk hY.chk) (two_mem hX.lif hY.lif) (two_mem hX.in_ hY.in_) (by simp [sumO]; omega)
  rw [h, hF.eq, flatS_append, ← hX.syms, ← hY.syms]
  simp [flatS]
structure JW where
  k : Nat
  m : Nat
  a : Option Addr
  c : Nat

set_option maxRecDepth 20000 in
set_option maxHeartbeats 4000000 in
theorem sjoins_c (ad bd : Option Addr) (cap capb : Nat) (l : List RawL) (bs : List Int) (z : Int) (w0 : World) (I0 : Imm) (hI : Sat I0 w0) (hl : RRaws I0 (.slice ad l.length cap) l) (hlw : ∀ x ∈ l, x.wf) (hb : RBytes I0 (.slice bd bs.length capb) bs) (hbb : ∀ y ∈ bs, 0 ≤ y ∧ y ≤ 255) (hz : 0 ≤ z ∧ z ≤ 255) :
    Ctr Tryz.prog 10 [.slice ad l.length cap, .slice bd bs.length capb, .int .u8 z] w0 (fun v w' => ∃ I', v = .bool true ∧ Ext w0 I0 w' I') := by
  obtain ⟨hM, hM1, hM4⟩ := many_ok (n := 4) hlw (Nat.le_refl _)
  obtain ⟨n, hCi⟩ := many_in (l := l) (n := 4)
  obtain ⟨C, hC⟩ : ∃ C, manyP l 4 = C := ⟨_, rfl⟩
  rw [hC] at hM hM1 hM4 hCi
  have hCw : ∀ p ∈ C, p.wf := fun p hp => (hM p hp).1
  have hCk : ∀ p ∈ C, (checkP p).2 = 0 := fun p hp => (hM p hp).2.1
  have hCl : ∀ p ∈ C, p.lifted = false := fun p hp => (hM p hp).2.2.2
  have hCo : ∀ p ∈ C, 0 ≤ p.out ∧ p.out ≤ 30 := fun p hp => ⟨(checkP_ok (hCk p hp)).2.2.2.2.1, (hM p hp).2.2.1⟩
  obtain ⟨p, hpi⟩ : ∃ p, C[0]? = some p := ⟨_, List.getElem?_eq_getElem (by omega)⟩
  have hpm := List.mem_of_getElem? hpi
  have hpn := hCi p hpm
  obtain ⟨k1, k2, k3, k4, k5, k6, k7⟩ := checkP_ok (hCk p hpm)
  have hn0 : 0 ≤ n ∧ n ≤ 65536 := by omega
  have hCs := sumO_bd C hCo
  obtain ⟨F, hF⟩ := join_for (D := C) (by intro h; rw [h] at hM1; simp at hM1) hCw hCk hCl hCi hn0 (by omega)
  have hOl := inputP_len bs p.in_.toNat
  obtain ⟨O, hO⟩ : ∃ O, inputP bs p.in_.toNat = O := ⟨_, rfl⟩
  rw [hO] at hOl
  have hin : n = O.length := by omega
  have hXF := applyP_right (lo := O) hF.chk (hF.in_.trans hin)
  rw [hF.syms] at hXF
  have hcost : sumC F.ops ≤ sumC (opsAll (C.take C.length)) := by rw [List.take_length]; exact hF.cost
  have hflen : ((flatS C).length : Int) = sumO C := flat_len hCk
  refine fn (n := 140) Tryz.func10 rfl rfl rfl ?_
  have hS := St.start hI
  refine wpIn_seq ?_
  refine reg ?_
  refine qq hS (g_assignv (v := .bool _) rfl) ?_
  refine ol_nil (thenN ?_)
  refine wpIn_seq ?_
  refine reg ?_
  refine qe (d_call Tryz.call37 rfl (sanity12_c _ _ hS.imm)) ?_
  rintro _ w_1 ⟨I_f, rfl, hE⟩
  replace hS := hS.callE hE
  replace hl := hl.mono hE.ext
  replace hb := hb.mono hE.ext
  refine qq hS (g_assignv (v := .bool _) rfl) ?_
  refine ol_nil (thenN ?_)
  refine wpIn_seq ?_
  refine reg ?_
  refine qq hS (g_move _) ?_
  refine qe (d_call Tryz.call41 rfl (many_E ad cap l C _ _ hS.imm hl hlw hC)) ?_
  rintro _ w_2 ⟨I_f, a28, c28, rfl, hE, h28⟩
  replace hS := hS.callE hE
  replace hl := hl.mono hE.ext
  replace hb := hb.mono hE.ext
  have hc28 := (RSl.resl2 h28 C.length C.length (Nat.le_refl _) (Nat.le_refl _)).2.1
  refine qq hS (g_assign _) ?_
  refine ol_nil (thenN ?_)
  refine wpIn_seq ?_
  obtain ⟨cs, hcs4, hpA, hpc⟩ := RSl.at h28 hpi
  obtain ⟨adp, mp_, cp, rfl, hpo⟩ := hpc
  refine reg ?_
  refine qq hS (g_move _) ?_
  refine qq hS (g_move _) ?_
  refine qq hS (g_ixI Tryz.underlying42 Tryz.sizeOf29 h28 rfl rfl (by decide) (by omega)) ?_
  refine qq hS (g_fieldE (c' := 1) Tryz.underlying29 rfl Tryz.sizeOf3 rfl rfl rfl) ?_
  refine qq hS (g_ldE1 Tryz.isAgg3 hpA rfl rfl) ?_
  refine qe (d_call Tryz.call18 rfl (input_E _ _ bs p.in_ O _ _ hS.imm hb hbb ⟨k3, k4⟩ hO)) ?_
  rintro _ w_3 ⟨I_f, a34, c34, rfl, hE, h34⟩
  replace hS := hS.callE hE
  replace hl := hl.mono hE.ext
  replace hb := hb.mono hE.ext
  replace h28 := h28.mono hE.ext
  replace hpo := hpo.mono hE.ext
  refine qq hS (g_assign _) ?_
  refine ol_nil (thenN ?_)
  refine wpIn_seq ?_
  refine reg ?_
  refine qq hS (g_move _) ?_
  refine qe (d_call Tryz.call39 rfl (join_E C (F, 0) _ _ _ _ _ hS.imm h28 rfl hCw (by omega) hF.join)) ?_
  rintro _ w_4 ⟨I_f, a37, m37, c37, rfl, hE, h37⟩
  replace hS := hS.callE hE
  replace hl := hl.mono hE.ext
  replace hb := hb.mono hE.ext
  replace h28 := h28.mono hE.ext
  replace hpo := hpo.mono hE.ext
  replace h34 := h34.mono hE.ext
  refine qq hS (g_move _) ?_
  refine qq hS (g_extract rfl rfl) ?_
  refine qq hS (g_extract (v := .int .i64 _) rfl rfl) ?_
  refine qe (d_alloc (cs := [.bool _, .int .i64 _, .int .i64 _, .slice _ _ _]) hS Tryz.zeroValue29 rfl) ?_
  clear hS
  rintro _ w_5 ⟨b10, rfl, hS⟩
  refine qe (d_store 0 hS Tryz.sizeOf29 rfl rfl rfl (vs := [.bool _, .int .i64 _, .int .i64 _, .slice _ _ _]) rfl rfl rfl (Nat.le_of_ble_eq_true rfl) (cs' := [_, _, _, _]) rfl) ?_
  clear hS
  rintro _ w_6 ⟨rfl, hS⟩
  refine qq hS (g_assignv (v := .int .i64 _) rfl) ?_
  refine ol_nil (thenN ?_)
  refine wpIn_seq ?_
  refine reg ?_
  refine qq hS (g_move _) ?_
  refine qq hS (g_ldO 0 (vs := [.bool _, .int .i64 _, .int .i64 _, .slice _ _ _]) Tryz.sizeOf29 Tryz.isAgg29 rfl rfl rfl rfl) ?_
  refine qe (d_call Tryz.call19 rfl (apply_L F _ _ _ _ _ _ O ((flatS C).map (runB O)) 0 _ _ hS.imm h37 hF.wf hF.lif h34 rfl hXF)) ?_
  rintro _ w_7 ⟨I_f, a43, c43, rfl, hE, h43⟩
  replace hS := hS.callE hE
  replace hl := hl.mono hE.ext
  replace hb := hb.mono hE.ext
  replace h28 := h28.mono hE.ext
  replace hpo := hpo.mono hE.ext
  replace h34 := h34.mono hE.ext
  replace h37 := h37.mono hE.ext
  refine qq hS (g_move _) ?_
  refine qq hS (g_extract rfl rfl) ?_
  refine qq hS (g_extract (v := .int .i64 _) rfl rfl) ?_
  refine qq hS (g_assign _) ?_
  refine qq hS (g_assignv (v := .int .i64 _) rfl) ?_
  refine ol_nil (thenN ?_)
  refine wpIn_seq ?_
  refine wpIn_seq ?_
  refine reg ?_
  refine qq hS (g_movev (v := .int .i64 _) rfl) ?_
  refine qq hS (g_neq rfl rfl) ?_
  refine qq hS (g_movev (v := .bool _) rfl) ?_
  refine qqs rfl rfl hS (g_movev (v := .int .i64 _) rfl) ?_
  refine qqs rfl rfl hS (g_neq rfl rfl) ?_
  refine qq hS (g_or rfl rfl (fun _ => rfl)) ?_
  refine ol_nil (thenN ?_)
  refine cond_f (rfl) ?_
  refine wpIn_skip ?_
  refine thenN ?_
  refine wpIn_seq ?_
  refine reg ?_
  refine qe (d_buildSlice0 hS Tryz.underlying25 Tryz.sizeOf5) ?_
  clear hS
  rintro _ w_8 ⟨hS, b52_, rfl⟩
  refine qq hS (g_assign _) ?_
  refine qq hS (g_assignv (v := .int .i64 _) rfl) ?_
  refine ol_nil (thenN ?_)
  refine wpIn_seq ?_
  refine wpIn_seq ?_
  refine reg ?_
  refine qq hS (g_assignv (v := .int .i64 _) rfl) ?_
  refine ol_nil (thenN ?_)
  refine wpIn_block ?_
  refine loop (fun (x : JW) σ w => okS σ [(2, .int .u8 z), (7, .bool true), (8, .slice a28 C.length c28), (9, .slice a34 O.length c34), (10, .pointer (some ⟨b10, 0, none⟩)), (12, .slice a43 ((flatS C).map (runB O)).length c43), (14, .slice x.a x.m x.c), (15, .int .i64 (sumC (opsAll (C.take x.k)))), (16, .int .i64 x.k)] ∧ ∃ I, St [] w0 I0 I w [.row (.slice x.a x.m x.c) 5 1 x.m (flat byteC ((flatS (C.take x.k)).map (runB O))), .cel b10 29 [.bool F.lifted, .int .i64 F.in_, .int .i64 F.out, .slice a37 m37 c37]] ∧ x.k ≤ C.length ∧ x.m = ((flatS (C.take x.k)).map (runB O)).length ∧ (0 ≤ sumC (opsAll (C.take x.k)) ∧ sumC (opsAll (C.take x.k)) ≤ 1000000 * (x.k : Int)) ∧ RPats I (.slice a28 C.length c28) C ∧ RBytes I (.slice a34 O.length c34) O ∧ ROps I (.slice a37 m37 c37) F.ops ∧ RBytes I (.slice a43 ((flatS C).map (runB O)).length c43) ((flatS C).map (runB O))) (fun x => C.length - x.k) (⟨0, 0, some ⟨b52_, 0, none⟩, 0⟩) ?_ ?_
  ·
    exact ⟨⟨rfl, rfl, rfl, rfl, rfl, rfl, rfl, rfl, rfl, trivial⟩, _, hS.sel [true, true], by dsimp only; omega, rfl, by dsimp only; simp [opsAll, sumC], h28, h34, h37, h43⟩
  ·
    rintro ⟨k, m, a, c⟩ σ w_l ⟨hs, I, hS, hk0, hWm, hcb, h28, h34, h37, h43⟩
    dsimp only at hs hS hk0 hWm hcb ⊢
    rw [← upds_self hs]; clear hs
    refine wpIn_seq ?_
    refine wpIn_seq ?_
    refine reg ?_
    refine qq hS (g_movev (v := .int .i64 _) rfl) ?_
    refine qq hS (g_move _) ?_
    refine qq hS (g_lenI rfl Tryz.underlying42 h28 rfl) ?_
    refine qq hS (g_lss rfl rfl) ?_
    refine ol_nil (thenN ?_)
    refine cond_s rfl ?_ ?_
    ·
      intro hc56
      try simp only [Bool.and_eq_true, Bool.or_eq_true, Bool.not_eq_true', Bool.and_eq_false_imp, Bool.or_eq_false_iff, Bool.not_eq_false', decide_eq_true_eq, decide_eq_false_iff_not] at hc56
      obtain ⟨q, hqi⟩ : ∃ q, C[k]? = some q := ⟨_, List.getElem?_eq_getElem (by omega)⟩
      have hqm := List.mem_of_getElem? hqi
      have hqw := hCw q hqm
      have hq1 := hCk q hqm
      have hq2 := hCl q hqm
      have hq3 := hCi q hqm
      have hq4 := hCo q hqm
      have hq5 := (checkP_ok hq1).2.1
      have hXq := applyP_right (lo := O) hq1 (hq3.trans hin)
      have hq6 := sumC_bd hq1 (checkP_ok hq1).2.2.2.2.2.2
      have hWs : ((flatS (C.take (k + 1))).map (runB O)) = ((flatS (C.take k)).map (runB O)) ++ (symsOf q.ops).map (runB O) := by rw [flatS_snoc hqi, List.map_append]
      have hWl := congrArg List.length hWs
      rw [List.length_append] at hWl
      have hcs2 : sumC (opsAll (C.take (k + 1))) = sumC (opsAll (C.take k)) + sumC q.ops := by rw [opsAll_snoc hqi, sumC_append]
      have hWb : ((flatS (C.take k)).length : Int) = sumO (C.take k) := flat_len fun p hp => hCk p (List.mem_of_mem_take hp)
      have hWc := sumO_bd (C.take k) fun p hp => hCo p (List.mem_of_mem_take hp)
      rw [List.length_take] at hWc
      have hql : ((symsOf q.ops).map (runB O)).length = (symsOf q.ops).length := List.length_map _
      have hWd : ((flatS (C.take k)).map (runB O)).length = (flatS (C.take k)).length := List.length_map _
      obtain ⟨cs, hcs4, hqA, hqc⟩ := RSl.at h28 hqi
      obtain ⟨adq, mq, cq, rfl, hqo⟩ := hqc
      refine wpIn_skip ?_
      refine thenN ?_
      refine wpIn_seq ?_
      refine wpIn_block ?_
      refine wpIn_seq ?_
      refine reg ?_
      refine qq hS (g_move _) ?_
      refine qq hS (g_move _) ?_
      refine qq hS (g_movev (v := .int .i64 _) rfl) ?_
      refine qq hS (g_ixI Tryz.underlying42 Tryz.sizeOf29 h28 rfl rfl (by omega) (by omega)) ?_
      refine qq hS (g_ldE (us := [.bool _, .int .i64 _, .int .i64 _, .slice _ _ _]) Tryz.sizeOf29 Tryz.isAgg29 hqA rfl rfl rfl) ?_
      refine qe (d_call Tryz.call19 rfl (apply_L q _ _ _ _ _ _ O ((symsOf q.ops).map (runB O)) 0 _ _ hS.imm hqo hqw hq2 h34 rfl hXq)) ?_
      rintro _ w_9 ⟨I_f, a65, c65, rfl, hE, h65⟩
      replace hS := hS.callE hE
      replace h28 := h28.mono hE.ext
      replace h34 := h34.mono hE.ext
      replace h37 := h37.mono hE.ext
      replace h43 := h43.mono hE.ext
      replace hqo := hqo.mono hE.ext
      replace hqA := hqA.mono hE.ext
      refine qq hS (g_move _) ?_
      refine qq hS (g_extract rfl rfl) ?_
      refine qq hS (g_extract (v := .int .i64 _) rfl rfl) ?_
      refine qq hS (g_assign _) ?_
      refine qq hS (g_assignv (v := .int .i64 _) rfl) ?_
      refine ol_nil (thenN ?_)
      refine wpIn_seq ?_
      refine wpIn_seq ?_
      refine reg ?_
      refine qq hS (g_movev (v := .int .i64 _) rfl) ?_
      refine qq hS (g_neq rfl rfl) ?_
      refine ol_nil (thenN ?_)
      refine cond_f (rfl) ?_
      refine wpIn_skip ?_
      refine thenN ?_
      refine wpIn_seq ?_
      refine reg ?_
      refine qq hS (g_move _) ?_
      refine qq hS (g_move _) ?_
      refine qe (i_appendF 0 hS rfl Tryz.underlying25 info5 rfl rfl rfl rfl byteC_len (fun _ => rfl) h65 rfl (by omega) (by omega)) ?_
      clear hS
      rintro _ w_10 ⟨a72, p72, rfl, hS⟩
      refine qq hS (g_assign _) ?_
      refine ol_nil (thenN ?_)
      refine reg ?_
      refine qq hS (g_movev (v := .int .i64 _) rfl) ?_
      refine qq hS (g_move _) ?_
      refine qq hS (g_movev (v := .int .i64 _) rfl) ?_
      refine qq hS (g_ixI Tryz.underlying42 Tryz.sizeOf29 h28 rfl rfl (by omega) (by omega)) ?_
      refine qq hS (g_ldE (us := [.bool _, .int .i64 _, .int .i64 _, .slice _ _ _]) Tryz.sizeOf29 Tryz.isAgg29 hqA rfl rfl rfl) ?_
      refine qe (d_call Tryz.call17 rfl (costN_E q _ _ _ _ _ _ hS.imm hqo hqw hq1 rfl)) ?_
      rintro _ w_11 ⟨rfl, hE⟩
      replace hS := hS.callE hE
      refine qq hS (g_add rfl rfl (by omega) (by omega)) ?_
      refine qq hS (g_assignv (v := .int .i64 _) rfl) ?_
      refine ol_nil (blkN (thenN ?_))
      refine reg ?_
      refine qq hS (g_movev (v := .int .i64 _) rfl) ?_
      refine qq hS (g_add rfl rfl (by omega) (by omega)) ?_
      refine qq hS (g_assignv (v := .int .i64 _) rfl) ?_
      refine ol_nil (thenN ?_)
      refine ⟨⟨k + 1, m + ((symsOf q.ops).map (runB O)).length, a72, p72⟩, _, rfl, ⟨⟨rfl, rfl, rfl, rfl, rfl, rfl, rfl, ?_, rfl, trivial⟩, _, ?_, by dsimp only; omega, by dsimp only; omega, by dsimp only; omega, h28, h34, h37, h43⟩, by dsimp only; omega⟩
      · dsimp only
        rw [hcs2]; rfl
      · dsimp only
        rw [hWs, flat_append]
        exact hS.sel [true, true]
    ·
      intro hc56
      try simp only [Bool.and_eq_true, Bool.or_eq_true, Bool.not_eq_true', Bool.and_eq_false_imp, Bool.or_eq_false_iff, Bool.not_eq_false', decide_eq_true_eq, decide_eq_false_iff_not] at hc56
      obtain rfl : k = C.length := by omega
      refine wpIn_exit ?_
      refine thenE (thenE (blkE ?_))
      refine thenN ?_
      refine wpIn_seq ?_
      refine wpIn_seq ?_
      rw [List.take_length] at hS
      have hF := St.freezeRow (u := .slice a m c) (m := m) (xs := ((flatS C).map (runB O))) byteC_len (by exact hS.ord [0, 1]) (by rw [hWm, List.take_length])
      clear hS
      obtain ⟨I_hwant, hS, hI_hwant, hwant⟩ := hF
      replace h28 := h28.mono hI_hwant
      replace h34 := h34.mono hI_hwant
      replace h37 := h37.mono hI_hwant
      replace h43 := h43.mono hI_hwant
      refine reg ?_
      refine qq hS (g_move _) ?_
      refine qq hS (g_move _) ?_
      refine qe (d_call Tryz.call23 rfl (sameB_E _ _ ((flatS C).map (runB O)) ((flatS C).map (runB O)) _ _ hS.imm h43 hwant rfl)) ?_
      rintro _ w_12 ⟨rfl, hE⟩
      replace hS := hS.callE hE
      refine qq hS (g_not rfl) ?_
      refine qq hS (g_movev (v := .bool _) rfl) ?_
      refine qqs rfl rfl hS (g_ldO 0 (vs := [.bool _, .int .i64 _, .int .i64 _, .slice _ _ _]) Tryz.sizeOf29 Tryz.isAgg29 rfl rfl rfl rfl) ?_
      refine qes rfl rfl (d_call Tryz.call17 rfl (costN_E F _ _ _ _ _ _ hS.imm h37 hF.wf hF.chk rfl)) ?_
      rintro _ w_13 ⟨rfl, hE⟩
      replace hS := hS.callE hE
      refine qqs rfl rfl hS (g_movev (v := .int .i64 _) rfl) ?_
      refine qqs rfl rfl hS (g_gtF rfl rfl hcost) ?_
      refine qq hS (g_or rfl rfl (fun _ => rfl)) ?_
      refine ol_nil (thenN ?_)
      refine cond_f (rfl) ?_
      refine wpIn_skip ?_
      refine thenN ?_
      refine wpIn_seq ?_
      refine wpIn_seq ?_
      refine reg ?_
      refine qq hS (g_move _) ?_
      refine qq hS (g_lenI rfl Tryz.underlying42 h28 rfl) ?_
      refine qq hS (g_lss rfl rfl) ?_
      refine ol_nil (thenN ?_)
      refine cond_s rfl ?_ ?_
      ·
        intro hc92
        try simp only [Bool.and_eq_true, Bool.or_eq_true, Bool.not_eq_true', Bool.and_eq_false_imp, Bool.or_eq_false_iff, Bool.not_eq_false', decide_eq_true_eq, decide_eq_false_iff_not] at hc92
        refine wpIn_seq ?_
        refine reg ?_
        refine qq hS (g_movev (v := .bool _) rfl) ?_
        refine qq hS (g_assignv (v := .bool _) rfl) ?_
        refine ol_nil (thenN ?_)
        refine wpIn_ret ?_
        refine thenR ?_
        refine ret1 Tryz.results10 (rv_tmp (v := .bool _) rfl) ?_
        exact ⟨_, rfl, hS.nil⟩
      ·
        intro hc92
        try simp only [Bool.and_eq_true, Bool.or_eq_true, Bool.not_eq_true', Bool.and_eq_false_imp, Bool.or_eq_false_iff, Bool.not_eq_false', decide_eq_true_eq, decide_eq_false_iff_not] at hc92
        obtain ⟨j, hj⟩ : ∃ j, z % ((C.length : Int) - 1) = j := ⟨_, rfl⟩
        have hj0 : 0 ≤ j := by rw [← hj]; exact Int.emod_nonneg _ (by omega)
        have hj1 : j < (C.length : Int) - 1 := by rw [← hj]; exact Int.emod_lt_of_pos _ (by omega)
        obtain ⟨nK, hnK⟩ : ∃ k : Nat, (1 + j).toNat = k := ⟨_, rfl⟩
        have hT : C.take nK ++ C.drop nK = C := List.take_append_drop nK C
        have hs1 := sumO_bd (C.take nK) fun p hp => hCo p (List.mem_of_mem_take hp)
        have hs2 := sumO_bd (C.drop nK) fun p hp => hCo p (List.mem_of_mem_drop hp)
        rw [List.length_take] at hs1
        rw [List.length_drop] at hs2
        obtain ⟨X, hX⟩ := join_for (D := C.take nK) (n := n) (by intro h; have := congrArg List.length h; rw [List.length_take, List.length_nil] at this; omega) (fun p hp => hCw p (List.mem_of_mem_take hp)) (fun p hp => hCk p (List.mem_of_mem_take hp)) (fun p hp => hCl p (List.mem_of_mem_take hp)) (fun p hp => hCi p (List.mem_of_mem_take hp)) hn0 (by omega)
        obtain ⟨Y, hY⟩ := join_for (D := C.drop nK) (n := n) (by intro h; have := congrArg List.length h; rw [List.length_drop, List.length_nil] at this; omega) (fun p hp => hCw p (List.mem_of_mem_drop hp)) (fun p hp => hCk p (List.mem_of_mem_drop hp)) (fun p hp => hCl p (List.mem_of_mem_drop hp)) (fun p hp => hCi p (List.mem_of_mem_drop hp)) hn0 (by omega)
        have hl1 : ((flatS (C.take nK)).length : Int) = sumO (C.take nK) := flat_len fun p hp => hCk p (List.mem_of_mem_take hp)
        have hl2 : ((flatS (C.drop nK)).length : Int) = sumO (C.drop nK) := flat_len fun p hp => hCk p (List.mem_of_mem_drop hp)
        have hXY := join_pair hX hY (by rw [hT]; exact hF) (by rw [hX.out, hY.out]; omega)
        refine wpIn_skip ?_
        refine thenN ?_
        refine wpIn_seq ?_
        refine reg ?_
        refine qq hS (g_movev (v := .int .u8 _) rfl) ?_
        refine qq hS (g_convi Tryz.underlying5 Tryz.underlying3 rfl (by omega) (by omega)) ?_
        refine qq hS (g_move _) ?_
        refine qq hS (g_lenI rfl Tryz.underlying42 h28 rfl) ?_
        refine qq hS (g_sub rfl rfl (by omega) (by omega)) ?_
        refine qq hS (g_remE rfl rfl (by omega) (by omega) hj) ?_
        refine qq hS (g_add rfl rfl (by omega) (by omega)) ?_
        refine qq hS (g_assignv (v := .int .i64 _) rfl) ?_
        refine ol_nil (thenN ?_)
        refine wpIn_seq ?_
        refine reg ?_
        refine qq hS (g_move _) ?_
        refine qq hS (g_movev (v := .int .i64 _) rfl) ?_
        refine qq hS (g_sliceHN (h0 := nK) Tryz.underlying42 Tryz.sizeOf29 rfl rfl (by omega) (by omega) (by omega)) ?_
        refine qe (d_call Tryz.call39 rfl (join_E (C.take nK) (X, 0) _ _ _ _ _ hS.imm (RSl.slH h28 nK (by omega)) (by rw [List.length_take]; omega) (fun p hp => hCw p (List.mem_of_mem_take hp)) (by rw [List.length_take]; omega) hX.join)) ?_
        rintro _ w_14 ⟨I_f, a105, m105, c105, rfl, hE, h105⟩
        replace hS := hS.callE hE
        replace h28 := h28.mono hE.ext
        replace h34 := h34.mono hE.ext
        replace h37 := h37.mono hE.ext
        replace h43 := h43.mono hE.ext
        replace hwant := hwant.mono hE.ext
        refine qq hS (g_move _) ?_
        refine qq hS (g_extract rfl rfl) ?_
        refine qq hS (g_extract (v := .int .i64 _) rfl rfl) ?_
        refine qe (d_alloc (cs := [.bool _, .int .i64 _, .int .i64 _, .slice _ _ _]) hS Tryz.zeroValue29 rfl) ?_
        clear hS
        rintro _ w_15 ⟨b20, rfl, hS⟩
        refine qe (d_store 0 hS Tryz.sizeOf29 rfl rfl rfl (vs := [.bool _, .int .i64 _, .int .i64 _, .slice _ _ _]) rfl rfl rfl (Nat.le_of_ble_eq_true rfl) (cs' := [_, _, _, _]) rfl) ?_
        clear hS
        rintro _ w_16 ⟨rfl, hS⟩
        refine qq hS (g_assignv (v := .int .i64 _) rfl) ?_
        refine ol_nil (thenN ?_)
        refine wpIn_seq ?_
        refine reg ?_
        refine qq hS (g_move _) ?_
        refine qq hS (g_movev (v := .int .i64 _) rfl) ?_
        refine qq hS (g_sliceLN (l0 := nK) Tryz.underlying42 Tryz.sizeOf29 rfl rfl (by omega) (by omega) (by omega)) ?_
        refine qe (d_call Tryz.call39 rfl (join_E (C.drop nK) (Y, 0) _ _ _ _ _ hS.imm (h28.slL nK (by omega)) (by rw [List.length_drop]) (fun p hp => hCw p (List.mem_of_mem_drop hp)) (by rw [List.length_drop]; omega) hY.join)) ?_
        rintro _ w_17 ⟨I_f, a112, m112, c112, rfl, hE, h112⟩
        replace hS := hS.callE hE
        replace h28 := h28.mono hE.ext
        replace h34 := h34.mono hE.ext
        replace h37 := h37.mono hE.ext
        replace h43 := h43.mono hE.ext
        replace hwant := hwant.mono hE.ext
        replace h105 := h105.mono hE.ext
        refine qq hS (g_move _) ?_
        refine qq hS (g_extract rfl rfl) ?_
        refine qq hS (g_extract (v := .int .i64 _) rfl rfl) ?_
        refine qe (d_alloc (cs := [.bool _, .int .i64 _, .int .i64 _, .slice _ _ _]) hS Tryz.zeroValue29 rfl) ?_
        clear hS
        rintro _ w_18 ⟨b22, rfl, hS⟩
        refine qe (d_store 0 hS Tryz.sizeOf29 rfl rfl rfl (vs := [.bool _, .int .i64 _, .int .i64 _, .slice _ _ _]) rfl rfl rfl (Nat.le_of_ble_eq_true rfl) (cs' := [_, _, _, _]) rfl) ?_
        clear hS
        rintro _ w_19 ⟨rfl, hS⟩
        refine qq hS (g_assignv (v := .int .i64 _) rfl) ?_
        refine ol_nil (thenN ?_)
        refine wpIn_seq ?_
        refine reg ?_
        refine qq hS (g_ldO 1 (vs := [.bool _, .int .i64 _, .int .i64 _, .slice _ _ _]) Tryz.sizeOf29 Tryz.isAgg29 rfl rfl rfl rfl) ?_
        refine qq hS (g_ldO 0 (vs := [.bool _, .int .i64 _, .int .i64 _, .slice _ _ _]) Tryz.sizeOf29 Tryz.isAgg29 rfl rfl rfl rfl) ?_
        refine qe (d_lit (vs := [.agg #[.bool _, .int .i64 _, .int .i64 _, .slice _ _ _], .agg #[.bool _, .int .i64 _, .int .i64 _, .slice _ _ _]]) (cs := [.bool _, .int .i64 _, .int .i64 _, .slice _ _ _, .bool _, .int .i64 _, .int .i64 _, .slice _ _ _]) hS Tryz.underlying42 Tryz.sizeOf29 Tryz.zeroValue29 rfl rfl rfl rfl (fun v hv => by simp only [List.mem_cons, List.not_mem_nil, or_false] at hv; rcases hv with rfl | rfl <;> rfl) rfl) ?_
        clear hS
        rintro _ w_20 ⟨b118, rfl, hS⟩
        have hF := hS.freeze1
        clear hS
        obtain ⟨I118, hS, hI118, hb118⟩ := hF
        replace h28 := h28.mono hI118
        replace h34 := h34.mono hI118
        replace h37 := h37.mono hI118
        replace h43 := h43.mono hI118
        replace hwant := hwant.mono hI118
        replace h105 := h105.mono hI118
        replace h112 := h112.mono hI118
        have h118 : RPats _ (.slice (some ⟨b118, 0, none⟩) 2 2) [X, Y] := RSl.ofAt (css := [[.bool X.lifted, .int .i64 X.in_, .int .i64 X.out, .slice a105 m105 c105], [.bool Y.lifted, .int .i64 Y.in_, .int .i64 Y.out, .slice a112 m112 c112]]) hb118 rfl (by simp) (All2.cons ⟨_, _, _, rfl, h105⟩ (All2.cons ⟨_, _, _, rfl, h112⟩ (All2.nil _))) rfl (by show 2 ≤ maxLen; decide)
        refine qe (d_call Tryz.call39 rfl (join_E [X, Y] (F, 0) _ _ _ _ _ hS.imm h118 rfl (two_mem hX.wf hY.wf) (by simp) hXY)) ?_
        rintro _ w_21 ⟨I_f, a119, m119, c119, rfl, hE, h119⟩
        replace hS := hS.callE hE
        replace h28 := h28.mono hE.ext
        replace h34 := h34.mono hE.ext
        replace h37 := h37.mono hE.ext
        replace h43 := h43.mono hE.ext
        replace hwant := hwant.mono hE.ext
        replace h105 := h105.mono hE.ext
        replace h112 := h112.mono hE.ext
        replace h118 := h118.mono hE.ext
        refine qq hS (g_move _) ?_
        refine qq hS (g_extract rfl rfl) ?_
        refine qq hS (g_extract (v := .int .i64 _) rfl rfl) ?_
        refine qe (d_alloc (cs := [.bool _, .int .i64 _, .int .i64 _, .slice _ _ _]) hS Tryz.zeroValue29 rfl) ?_
        clear hS
        rintro _ w_22 ⟨b24, rfl, hS⟩
        refine qe (d_store 0 hS Tryz.sizeOf29 rfl rfl rfl (vs := [.bool _, .int .i64 _, .int .i64 _, .slice _ _ _]) rfl rfl rfl (Nat.le_of_ble_eq_true rfl) (cs' := [_, _, _, _]) rfl) ?_
        clear hS
        rintro _ w_23 ⟨rfl, hS⟩
        refine qq hS (g_assignv (v := .int .i64 _) rfl) ?_
        refine ol_nil (thenN ?_)
        refine wpIn_seq ?_
        refine reg ?_
        refine qq hS (g_movev (v := .int .i64 _) rfl) ?_
        refine qq hS (g_eql rfl rfl) ?_
        refine qq hS (g_movev (v := .bool _) rfl) ?_
        refine qqs rfl rfl hS (g_movev (v := .int .i64 _) rfl) ?_
        refine qqs rfl rfl hS (g_eql rfl rfl) ?_
        refine qq hS (g_and rfl rfl (fun _ => rfl)) ?_
        refine qq hS (g_movev (v := .bool _) rfl) ?_
        refine qqs rfl rfl hS (g_movev (v := .int .i64 _) rfl) ?_
        refine qqs rfl rfl hS (g_eql rfl rfl) ?_
        refine qq hS (g_and rfl rfl (fun _ => rfl)) ?_
        refine qq hS (g_movev (v := .bool _) rfl) ?_
        refine qqs rfl rfl hS (g_ldO 0 (vs := [.bool _, .int .i64 _, .int .i64 _, .slice _ _ _]) Tryz.sizeOf29 Tryz.isAgg29 rfl rfl rfl rfl) ?_
        refine qqs rfl rfl hS (g_ldO 3 (vs := [.bool _, .int .i64 _, .int .i64 _, .slice _ _ _]) Tryz.sizeOf29 Tryz.isAgg29 rfl rfl rfl rfl) ?_
        refine qes rfl rfl (d_call Tryz.call40 rfl (same_T F _ _ _ _ _ _ _ _ hS.imm h119 h37 hF.wf)) ?_
        rintro _ w_24 ⟨rfl, hE⟩
        replace hS := hS.callE hE
        refine qq hS (g_and rfl rfl (fun _ => rfl)) ?_
        refine qq hS (g_movev (v := .bool _) rfl) ?_
        refine qqs rfl rfl hS (g_movev (v := .bool _) rfl) ?_
        refine qq hS (g_and rfl rfl (fun _ => rfl)) ?_
        refine qq hS (g_assignv (v := .bool _) rfl) ?_
        refine ol_nil (thenN ?_)
        refine wpIn_ret ?_
        refine ret1 Tryz.results10 (rv_tmp (v := .bool _) rfl) ?_
        exact ⟨_, rfl, hS.nil⟩

end Go.Proofs.YtodopmclnklgdaaGreat

