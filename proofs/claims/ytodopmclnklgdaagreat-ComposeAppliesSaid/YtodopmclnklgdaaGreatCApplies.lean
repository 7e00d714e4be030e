/- inlaylaw09.ComposeApplies: its function answers true. Conditions: arguments are of their kinds. -/
import Derived.Test.YtodopmclnklgdaaGreatCommon6
import Derived.Test.YtodopmclnklgdaaGreatCWhole
namespace Go.Proofs.YtodopmclnklgdaaGreat
open Go Go.RowKit Go.Inl
set_option linter.unusedSimpArgs false
set_option linter.unusedVariables false
/-- Patches applied one after the other. -/
def nowP (b : List Int) : List PatL → List Int
  | [] => b
  | q :: r => nowP ((symsOf q.ops).map (runB b)) r
theorem nowP_snoc : ∀ (a : List PatL) (q : PatL) (b : List Int), nowP b (a ++ [q]) = (symsOf q.ops).map (runB (nowP b a))
  | [], _, _ => rfl
  | p :: a, q, b => nowP_snoc a q _
theorem chain_now : ∀ (C : List PatL) (n : Int) (b : List Int), ChainOk n C → (b.length : Int) = n → ∀ k q, C[k]? = some q → (checkP q).2 = 0 ∧ q.lifted = false ∧ q.in_ = (nowP b (C.take k)).length
  | [], _, _, _, _, k, q, h => by simp at h
  | p :: C, n, b, ⟨c1, c2, c3, c4, c5⟩, hb, 0, q, h => by
    obtain rfl : p = q := by simpa using h
    exact ⟨c2, c3, by show p.in_ = (b.length : Int); omega⟩
  | p :: C, n, b, ⟨c1, c2, c3, c4, c5⟩, hb, k + 1, q, h => by
    have := chain_now C p.out ((symsOf p.ops).map (runB b)) c5 (by rw [List.length_map]; exact (checkP_ok c2).2.1) k q (by simpa using h)
    simpa [nowP] using this
theorem now_fold : ∀ (r : List PatL) (T : List Sym) (b : List Int), ChainOk T.length r → nowP (T.map (runB b)) r = (foldT T r).map (runB b)
  | [], _, _, _ => rfl
  | q :: r, T, b, ⟨c1, c2, c3, c4, c5⟩ => by
    obtain ⟨k1, k2, k3, k4, k5, k6, k7⟩ := checkP_ok c2
    have hok := (ops_ok _ k1).1
    have e : (symsOf q.ops).map (runB (T.map (runB b))) = ((symsOf q.ops).map (thr T)).map (runB b) := by
      rw [List.map_map]
      refine List.map_congr_left fun s hs => ?_
      refine run_thr b T s fun ho => ?_
      have h := hok s hs
      unfold strange at h
      simp [ho] at h
      omega
    show nowP ((symsOf q.ops).map (runB (T.map (runB b)))) r = (foldT ((symsOf q.ops).map (thr T)) r).map (runB b)
    rw [e]
    refine now_fold r _ b ?_
    rw [List.length_map, k2]; exact c5
structure AW where
  k : Nat
  a : Option Addr
  c : Nat

set_option maxRecDepth 20000 in
set_option maxHeartbeats 4000000 in
theorem capplies_c (ad bd : Option Addr) (cap capb : Nat) (l : List RawL) (bs : List Int) (w0 : World) (I0 : Imm) (hI : Sat I0 w0) (hl : RRaws I0 (.slice ad l.length cap) l) (hlw : ∀ x ∈ l, x.wf) (hb : RBytes I0 (.slice bd bs.length capb) bs) (hbb : ∀ y ∈ bs, 0 ≤ y ∧ y ≤ 255) :
    Ctr Tryz.prog 4 [.slice ad l.length cap, .slice bd bs.length capb] w0 (fun v w' => ∃ I', v = .bool true ∧ Ext w0 I0 w' I') := by
  obtain ⟨n, p, r, hch, hn0, hn1, hok, hCw, hCl⟩ := chainP_ok (n := 4) hlw (Nat.le_refl _)
  obtain ⟨C, hC⟩ : ∃ C, chainP l 4 = C := ⟨_, rfl⟩
  rw [hC] at hch hCw hCl
  have hokC : ChainOk n C := by rw [hch]; exact hok
  have hCn : 1 ≤ C.length := by rw [hch]; simp
  have hCwf : ∀ p ∈ C, p.wf := fun p hp => (hCw p hp).1
  have hAw := allP_wf hCwf
  have hpi : C[0]? = some p := by rw [hch]; rfl
  have hpw := hCwf p (List.mem_of_getElem? hpi)
  obtain ⟨hall, hTok, hTl⟩ := allP_ok ⟨hn0, by omega⟩ hok
  obtain ⟨c1, c2, c3, c4, c5⟩ := hok
  obtain ⟨k1, k2, k3, k4, k5, k6, k7⟩ := checkP_ok c2
  rw [← hch] at hall
  have hOl := inputP_len bs p.in_.toNat
  obtain ⟨O, hO⟩ : ∃ O, inputP bs p.in_.toNat = O := ⟨_, rfl⟩
  rw [hO] at hOl
  have hin : p.in_ = O.length := by omega
  have hFk := formOf_check (b := false) ⟨hn0, by omega⟩ hTl hTok
  have hFs := (optL_spec hTok).1
  have hend : nowP O C = (foldT (symsOf p.ops) r).map (runB O) := by
    rw [hch]
    refine now_fold r (symsOf p.ops) O ?_
    rw [k2]; exact c5
  have hnow := chain_now C n O hokC (by omega)
  obtain ⟨T, hT⟩ : ∃ T, foldT (symsOf p.ops) r = T := ⟨_, rfl⟩
  rw [hT] at hall hTok hTl hFk hFs hend
  have hXF := applyP_right (p := formOf false n T) (lo := O) hFk (c1.symm.trans hin)
  rw [show symsOf (formOf false n T).ops = T from hFs] at hXF
  obtain ⟨F, hF⟩ : ∃ F, formOf false n T = F := ⟨_, rfl⟩
  have hFl : F.lifted = false := by rw [← hF]; rfl
  rw [hF] at hall hXF
  rw [hall] at hAw
  dsimp only at hAw
  refine fn (n := 67) Tryz.func4 rfl rfl rfl ?_
  have hS := St.start hI
  refine wpIn_seq ?_
  refine reg ?_
  refine qq hS (g_assignv (v := .bool _) rfl) ?_
  refine ol_nil (thenN ?_)
  refine wpIn_seq ?_
  refine reg ?_
  refine qe (d_call Tryz.call20 rfl (sanity9_c _ _ hS.imm)) ?_
  rintro _ w_1 ⟨I_f, rfl, hE⟩
  replace hS := hS.callE hE
  replace hl := hl.mono hE.ext
  replace hb := hb.mono hE.ext
  refine qq hS (g_assignv (v := .bool _) rfl) ?_
  refine ol_nil (thenN ?_)
  refine wpIn_seq ?_
  refine reg ?_
  refine qq hS (g_move _) ?_
  refine qe (d_call Tryz.call21 rfl (chain_E ad cap l 4 C _ _ hS.imm hl hlw (Nat.le_refl _) hC)) ?_
  rintro _ w_2 ⟨I_f, a18, c18, rfl, hE, h18⟩
  replace hS := hS.callE hE
  replace hl := hl.mono hE.ext
  replace hb := hb.mono hE.ext
  refine qq hS (g_assign _) ?_
  refine ol_nil (thenN ?_)
  refine wpIn_seq ?_
  obtain ⟨cs, hcs4, hpA, hpc⟩ := RSl.at h18 hpi
  obtain ⟨adp, mp_, cp, rfl, hpo⟩ := hpc
  refine reg ?_
  refine qq hS (g_move _) ?_
  refine qq hS (g_move _) ?_
  refine qq hS (g_ixI Tryz.underlying42 Tryz.sizeOf29 h18 rfl rfl (by decide) (by omega)) ?_
  refine qq hS (g_fieldE (c' := 1) Tryz.underlying29 rfl Tryz.sizeOf3 rfl rfl rfl) ?_
  refine qq hS (g_ldE1 Tryz.isAgg3 hpA rfl rfl) ?_
  refine qe (d_call Tryz.call18 rfl (input_E _ _ bs p.in_ O _ _ hS.imm hb hbb ⟨k3, k4⟩ hO)) ?_
  rintro _ w_3 ⟨I_f, a24, c24, rfl, hE, h24⟩
  replace hS := hS.callE hE
  replace hl := hl.mono hE.ext
  replace hb := hb.mono hE.ext
  replace h18 := h18.mono hE.ext
  replace hpo := hpo.mono hE.ext
  refine qq hS (g_assign _) ?_
  refine ol_nil (thenN ?_)
  refine wpIn_seq ?_
  refine reg ?_
  refine qq hS (g_move _) ?_
  refine qe (d_call Tryz.call22 rfl (all_E _ _ _ C (F, 0) _ _ hS.imm h18 rfl hCwf (by omega) hall)) ?_
  rintro _ w_4 ⟨I_f, a27, m27, c27, rfl, hE, h27⟩
  replace hS := hS.callE hE
  replace hl := hl.mono hE.ext
  replace hb := hb.mono hE.ext
  replace h18 := h18.mono hE.ext
  replace hpo := hpo.mono hE.ext
  replace h24 := h24.mono hE.ext
  refine qq hS (g_move _) ?_
  refine qq hS (g_extract rfl rfl) ?_
  refine qq hS (g_extract (v := .int .i64 _) rfl rfl) ?_
  refine qe (d_alloc (cs := [.bool _, .int .i64 _, .int .i64 _, .slice _ _ _]) hS Tryz.zeroValue29 rfl) ?_
  clear hS
  rintro _ w_5 ⟨b8, rfl, hS⟩
  refine qe (d_store 0 hS Tryz.sizeOf29 rfl rfl rfl (vs := [.bool _, .int .i64 _, .int .i64 _, .slice _ _ _]) rfl rfl rfl (Nat.le_of_ble_eq_true rfl) (cs' := [_, _, _, _]) rfl) ?_
  clear hS
  rintro _ w_6 ⟨rfl, hS⟩
  refine qq hS (g_assignv (v := .int .i64 _) rfl) ?_
  refine ol_nil (thenN ?_)
  refine wpIn_seq ?_
  refine reg ?_
  refine qq hS (g_move _) ?_
  refine qq hS (g_ldO 0 (vs := [.bool _, .int .i64 _, .int .i64 _, .slice _ _ _]) Tryz.sizeOf29 Tryz.isAgg29 rfl rfl rfl rfl) ?_
  refine qe (d_call Tryz.call19 rfl (apply_L F _ _ _ _ _ _ O (T.map (runB O)) 0 _ _ hS.imm h27 hAw hFl h24 rfl hXF)) ?_
  rintro _ w_7 ⟨I_f, a33, c33, rfl, hE, h33⟩
  replace hS := hS.callE hE
  replace hl := hl.mono hE.ext
  replace hb := hb.mono hE.ext
  replace h18 := h18.mono hE.ext
  replace hpo := hpo.mono hE.ext
  replace h24 := h24.mono hE.ext
  replace h27 := h27.mono hE.ext
  refine qq hS (g_move _) ?_
  refine qq hS (g_extract rfl rfl) ?_
  refine qq hS (g_extract (v := .int .i64 _) rfl rfl) ?_
  refine qq hS (g_assign _) ?_
  refine qq hS (g_assignv (v := .int .i64 _) rfl) ?_
  refine ol_nil (thenN ?_)
  refine wpIn_seq ?_
  refine wpIn_seq ?_
  refine reg ?_
  refine qq hS (g_movev (v := .int .i64 _) rfl) ?_
  refine qq hS (g_neq rfl rfl) ?_
  refine qq hS (g_movev (v := .bool _) rfl) ?_
  refine qqs rfl rfl hS (g_movev (v := .int .i64 _) rfl) ?_
  refine qqs rfl rfl hS (g_neq rfl rfl) ?_
  refine qq hS (g_or rfl rfl (fun _ => rfl)) ?_
  refine ol_nil (thenN ?_)
  refine cond_f (rfl) ?_
  refine wpIn_skip ?_
  refine thenN ?_
  refine wpIn_seq ?_
  refine reg ?_
  refine qq hS (g_move _) ?_
  refine qq hS (g_assign _) ?_
  refine ol_nil (thenN ?_)
  refine wpIn_seq ?_
  refine wpIn_seq ?_
  refine reg ?_
  refine qq hS (g_assignv (v := .int .i64 _) rfl) ?_
  refine ol_nil (thenN ?_)
  refine wpIn_block ?_
  refine loop (fun (x : AW) σ w => okS σ [(5, .bool true), (6, .slice a18 C.length c18), (10, .slice a33 (T.map (runB O)).length c33), (12, .slice x.a (nowP O (C.take x.k)).length x.c), (13, .int .i64 x.k)] ∧ ∃ I, St [] w0 I0 I w [] ∧ x.k ≤ C.length ∧ RBytes I (.slice x.a (nowP O (C.take x.k)).length x.c) (nowP O (C.take x.k)) ∧ RPats I (.slice a18 C.length c18) C ∧ RBytes I (.slice a33 (T.map (runB O)).length c33) (T.map (runB O))) (fun x => C.length - x.k) (⟨0, a24, c24⟩) ?_ ?_
  ·
    exact ⟨⟨rfl, rfl, rfl, rfl, rfl, trivial⟩, _, hS.sel [false], by dsimp only; omega, h24, h18, h33⟩
  ·
    rintro ⟨k, a, c⟩ σ w_l ⟨hs, I, hS, hk0, hN, h18, h33⟩
    dsimp only at hs hS hk0 hN ⊢
    rw [← upds_self hs]; clear hs
    refine wpIn_seq ?_
    refine wpIn_seq ?_
    refine reg ?_
    refine qq hS (g_movev (v := .int .i64 _) rfl) ?_
    refine qq hS (g_move _) ?_
    refine qq hS (g_lenI rfl Tryz.underlying42 h18 rfl) ?_
    refine qq hS (g_lss rfl rfl) ?_
    refine ol_nil (thenN ?_)
    refine cond_s rfl ?_ ?_
    ·
      intro hc46
      try simp only [Bool.and_eq_true, Bool.or_eq_true, Bool.not_eq_true', Bool.and_eq_false_imp, Bool.or_eq_false_iff, Bool.not_eq_false', decide_eq_true_eq, decide_eq_false_iff_not] at hc46
      obtain ⟨q, hqi⟩ : ∃ q, C[k]? = some q := ⟨_, List.getElem?_eq_getElem (by omega)⟩
      have hqw := hCwf q (List.mem_of_getElem? hqi)
      obtain ⟨hq1, hq2, hq3⟩ := hnow k q hqi
      have hst : applyP (nowP O (C.take k)) q = (nowP O (C.take (k + 1)), 0) := by
        rw [applyP_right hq1 hq3, take_snoc hqi, nowP_snoc]
      obtain ⟨cs, hcs4, hqA, hqc⟩ := RSl.at h18 hqi
      obtain ⟨adq, mq, cq, rfl, hqo⟩ := hqc
      refine wpIn_skip ?_
      refine thenN ?_
      refine wpIn_seq ?_
      refine wpIn_block ?_
      refine wpIn_seq ?_
      refine reg ?_
      refine qq hS (g_move _) ?_
      refine qq hS (g_move _) ?_
      refine qq hS (g_movev (v := .int .i64 _) rfl) ?_
      refine qq hS (g_ixI Tryz.underlying42 Tryz.sizeOf29 h18 rfl rfl (by omega) (by omega)) ?_
      refine qq hS (g_ldE (us := [.bool _, .int .i64 _, .int .i64 _, .slice _ _ _]) Tryz.sizeOf29 Tryz.isAgg29 hqA rfl rfl rfl) ?_
      refine qe (d_call Tryz.call19 rfl (apply_L q _ _ _ _ _ _ (nowP O (C.take k)) (nowP O (C.take (k + 1))) 0 _ _ hS.imm hqo hqw hq2 hN rfl hst)) ?_
      rintro _ w_8 ⟨I_f, a55, c55, rfl, hE, h55⟩
      replace hS := hS.callE hE
      replace hN := hN.mono hE.ext
      replace h18 := h18.mono hE.ext
      replace h33 := h33.mono hE.ext
      replace hqo := hqo.mono hE.ext
      refine qq hS (g_move _) ?_
      refine qq hS (g_extract rfl rfl) ?_
      refine qq hS (g_extract (v := .int .i64 _) rfl rfl) ?_
      refine qq hS (g_assign _) ?_
      refine qq hS (g_assignv (v := .int .i64 _) rfl) ?_
      refine ol_nil (thenN ?_)
      refine wpIn_seq ?_
      refine wpIn_seq ?_
      refine reg ?_
      refine qq hS (g_movev (v := .int .i64 _) rfl) ?_
      refine qq hS (g_neq rfl rfl) ?_
      refine ol_nil (thenN ?_)
      refine cond_f (rfl) ?_
      refine wpIn_skip ?_
      refine thenN ?_
      refine reg ?_
      refine qq hS (g_move _) ?_
      refine qq hS (g_assign _) ?_
      refine ol_nil (blkN (thenN ?_))
      refine reg ?_
      refine qq hS (g_movev (v := .int .i64 _) rfl) ?_
      refine qq hS (g_add rfl rfl (by omega) (by omega)) ?_
      refine qq hS (g_assignv (v := .int .i64 _) rfl) ?_
      refine ol_nil (thenN ?_)
      exact ⟨⟨k + 1, a55, c55⟩, _, rfl, ⟨⟨rfl, rfl, rfl, rfl, rfl, trivial⟩, _, hS.sel [], by dsimp only; omega, h55, h18, h33⟩, by dsimp only; omega⟩
    ·
      intro hc46
      try simp only [Bool.and_eq_true, Bool.or_eq_true, Bool.not_eq_true', Bool.and_eq_false_imp, Bool.or_eq_false_iff, Bool.not_eq_false', decide_eq_true_eq, decide_eq_false_iff_not] at hc46
      obtain rfl : k = C.length := by omega
      refine wpIn_exit ?_
      refine thenE (thenE (blkE ?_))
      refine thenN ?_
      refine wpIn_seq ?_
      refine reg ?_
      refine qq hS (g_move _) ?_
      refine qq hS (g_move _) ?_
      refine qe (d_call Tryz.call23 rfl (sameB_E _ _ (T.map (runB O)) (nowP O (C.take C.length)) _ _ hS.imm h33 hN (by rw [List.take_length]; exact hend.symm))) ?_
      rintro _ w_9 ⟨rfl, hE⟩
      replace hS := hS.callE hE
      refine qq hS (g_movev (v := .bool _) rfl) ?_
      refine qqs rfl rfl hS (g_movev (v := .bool _) rfl) ?_
      refine qq hS (g_and rfl rfl (fun _ => rfl)) ?_
      refine qq hS (g_assignv (v := .bool _) rfl) ?_
      refine ol_nil (thenN ?_)
      refine wpIn_ret ?_
      refine ret1 Tryz.results4 (rv_tmp (v := .bool _) rfl) ?_
      exact ⟨_, rfl, hS.nil⟩

end Go.Proofs.YtodopmclnklgdaaGreat

