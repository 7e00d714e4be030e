/- inlaylaw11.MergeClashes: its function answers true. Conditions: arguments are of their kinds. -/
import Derived.Test.YtalemnjjljnnpaaPlain11
import Derived.Test.YtalemnjjljnnpaaBase11
namespace Go.Proofs.Ytalemnjjljnnpaa
open Go Go.RowKit Go.Inl
set_option linter.unusedSimpArgs false
set_option linter.unusedVariables false
theorem right11_T (l : List (Int × Int)) (n : Int) (k : Nat) (ad : Option Addr) (cap : Nat) (w0 : World) (I0 : Imm) (hI : Sat I0 w0) (hl : RRgs I0 (.slice ad k cap) l) (hk : k = l.length) (h : rightL l n = true) :
    Ctr Try.prog 24 [.slice ad k cap, .int .i64 n] w0 (fun v w' => v = .bool true ∧ Ext w0 I0 w' I0) := by
  subst hk
  have h1 := right11_c l n ad cap w0 I0 hI hl
  rw [h] at h1; exact h1
theorem symbolsR_M (p : PatL) (S : List Sym) (N : Nat) (ad : Option Addr) (m cap : Nat) (w0 : World) (I0 : Imm) (hI : Sat I0 w0) (hp : p.wf) (hpo : ROps I0 (.slice ad m cap) p.ops) (hc : (checkP p).2 = 0) (hSy : symsP p = S) (hSN : S.length = N) :
    Ctr Try.prog 26 [.agg #[.bool p.lifted, .int .i64 p.in_, .int .i64 p.out, .slice ad m cap]] w0 (fun v w' => ∃ I' a c, v = .tuple #[.slice a N c, .int .i64 0] ∧ Ext w0 I0 w' I' ∧ RSyms I' (.slice a N c) S) := by
  subst hSN
  refine (symbolsR_oE p S ad m cap w0 I0 hI hpo hp hc hSy).mono fun v w' ⟨a, c, hv, hS⟩ => ?_
  obtain ⟨I1, hE, _, hr⟩ := row_freeze1 symC_len hS rfl
  exact ⟨I1, a, c, hv, hE, hr⟩

set_option maxRecDepth 20000 in
set_option maxHeartbeats 4000000 in
theorem mclashes_c (r s : Int) (ad bd : Option Addr) (cap capb : Nat) (l lb : List Q4) (w0 : World) (I0 : Imm) (hI : Sat I0 w0) (hr : 0 ≤ r ∧ r ≤ 255) (h4 : RFl I0 4 q4C (.slice ad l.length cap) l) (hq : ∀ q ∈ l, q.wf) (h5 : RFl I0 4 q4C (.slice bd lb.length capb) lb) (hqb : ∀ q ∈ lb, q.wf) :
    Ctr Try.prog 4 [.agg #[.int .u8 r, .slice ad l.length cap, .int .u8 s, .slice bd lb.length capb]] w0 (fun v w' => ∃ I', v = .bool true ∧ Ext w0 I0 w' I') := by
  refine fn (n := 129) Try.func4 rfl rfl rfl ?_
  have hS := St.start hI
  refine wpIn_seq ?_
  refine reg ?_
  refine qe (d_box (cs := [.int .u8 _, .slice _ _ _, .int .u8 _, .slice _ _ _]) hS rfl) ?_
  clear hS
  rintro _ w_1 ⟨b1, rfl, hS⟩
  refine qq hS (g_assignv (v := .bool _) rfl) ?_
  refine ol_nil (thenN ?_)
  refine wpIn_seq ?_
  refine reg ?_
  refine qe (d_call Try.call7 rfl (sanity11_c _ _ hS.imm)) ?_
  rintro _ w_2 ⟨I_f, rfl, hE⟩
  replace hS := hS.callE hE
  replace h4 := h4.mono hE.ext
  replace h5 := h5.mono hE.ext
  refine qq hS (g_assignv (v := .bool _) rfl) ?_
  refine ol_nil (thenN ?_)
  refine wpIn_seq ?_
  refine reg ?_
  refine qq hS (g_indexArr (o' := 0) Try.underlying25 Try.sizeOf24 rfl rfl (by decide) (by decide) rfl) ?_
  refine qq hS (g_ldO 0 (vs := [.int .u8 _, .slice _ _ _]) Try.sizeOf24 Try.isAgg24 rfl rfl rfl rfl) ?_
  refine qe (d_call Try.call8 rfl (made11_c r ad cap l _ _ hS.imm hr h4 hq)) ?_
  rintro _ w_3 ⟨I_f, p, a23, m23, c23, rfl, hE, h23, hgp⟩
  replace hS := hS.callE hE
  replace h4 := h4.mono hE.ext
  replace h5 := h5.mono hE.ext
  refine qe (d_alloc (cs := [.bool _, .int .i64 _, .int .i64 _, .slice _ _ _]) hS Try.zeroValue31 rfl) ?_
  clear hS
  rintro _ w_4 ⟨b4, rfl, hS⟩
  refine qe (d_store 0 hS Try.sizeOf31 rfl rfl rfl (vs := [.bool _, .int .i64 _, .int .i64 _, .slice _ _ _]) rfl rfl rfl (Nat.le_of_ble_eq_true rfl) (cs' := [_, _, _, _]) rfl) ?_
  clear hS
  rintro _ w_5 ⟨rfl, hS⟩
  refine ol_nil (thenN ?_)
  refine wpIn_seq ?_
  refine reg ?_
  refine qq hS (g_indexArr (o' := 2) Try.underlying25 Try.sizeOf24 rfl rfl (by decide) (by decide) rfl) ?_
  refine qq hS (g_ldO 1 (vs := [.int .u8 _, .slice _ _ _]) Try.sizeOf24 Try.isAgg24 rfl rfl rfl rfl) ?_
  refine qq hS (g_fieldAddr (o' := 1) Try.underlying31 rfl Try.sizeOf3 rfl rfl rfl) ?_
  refine qq hS (g_ldO1 0 Try.isAgg3 rfl rfl rfl) ?_
  refine qe (d_call Try.call9 rfl (sized11_c s p.in_ bd capb lb _ _ hS.imm h5 hqb (by have := hgp.in_; omega))) ?_
  rintro _ w_6 ⟨I_f, q, a28, m28, c28, rfl, hE, h28, hgq⟩
  replace hS := hS.callE hE
  replace h4 := h4.mono hE.ext
  replace h5 := h5.mono hE.ext
  replace h23 := h23.mono hE.ext
  refine qe (d_alloc (cs := [.bool _, .int .i64 _, .int .i64 _, .slice _ _ _]) hS Try.zeroValue31 rfl) ?_
  clear hS
  rintro _ w_7 ⟨b5, rfl, hS⟩
  refine qe (d_store 0 hS Try.sizeOf31 rfl rfl rfl (vs := [.bool _, .int .i64 _, .int .i64 _, .slice _ _ _]) rfl rfl rfl (Nat.le_of_ble_eq_true rfl) (cs' := [_, _, _, _]) rfl) ?_
  clear hS
  rintro _ w_8 ⟨rfl, hS⟩
  refine ol_nil (thenN ?_)
  refine wpIn_seq ?_
  have hpn : 0 ≤ p.in_ ∧ p.in_ ≤ 12 := by have := hgp.in_; omega
  replace hgp : Good11 p p.in_ := ⟨hgp.wf, hgp.ck, hgp.lif, rfl, by rw [hgp.out, hgp.in_]⟩
  have hn4 : 0 ≤ p.in_ ∧ p.in_ ≤ 4096 := by omega
  have hck := good_checkM hgp hgq
  obtain ⟨S, T, N, hA, hB, hlq⟩ := even_two hck
  have hin := hA.i
  have hSn := hA.n
  have hTn := hB.n
  have hNb := hA.b
  have hST : S.length = T.length := by omega
  have hK : clashP p q = (clashL S T, 0) := by unfold clashP; rw [if_neg (by rw [hck]; decide), hA.s, hB.s]
  have hK2 : clashP q p = (clashL S T, 0) := by unfold clashP; rw [if_neg (by rw [good_checkM hgq hgp]; decide), hA.s, hB.s, clashL_comm hST]
  obtain ⟨M, hM⟩ : ∃ M, mergeP p q = M := ⟨_, rfl⟩
  have hri : rightL (clashL S T) p.in_ = true := by unfold clashL; exact rngs_right (by omega)
  have hmid : ∀ r ∈ clashL S T, Mid r.1 ∧ Mid r.2 := by unfold clashL; exact rngs_mid (by omega)
  have herr := merge_err hgp hgq hn4
  rw [hA.s, hB.s, hM] at herr
  have hM1 : decide (M.2 = 0) = decide (((clashL S T).length : Int) = 0) := by
    rcases herr with ⟨h1, h2⟩ | ⟨h1, h2⟩
    · rw [h1, h2]; rfl
    · rw [h2, decide_eq_false (p := ((clashL S T).length : Int) = 0) (fun h => h1 (List.length_eq_zero_iff.1 (by omega)))]; rfl
  have hM2 : (!decide (M.2 = 0) && !decide (M.2 = 110)) = false := by rcases herr with ⟨_, h2⟩ | ⟨_, h2⟩ <;> rw [h2] <;> rfl
  have htl := marks_len N (touched S)
  have hul := marks_len N (touched T)
  refine reg ?_
  refine qq hS (g_ldO 1 (vs := [.bool _, .int .i64 _, .int .i64 _, .slice _ _ _]) Try.sizeOf31 Try.isAgg31 rfl rfl rfl rfl) ?_
  refine qq hS (g_ldO 0 (vs := [.bool _, .int .i64 _, .int .i64 _, .slice _ _ _]) Try.sizeOf31 Try.isAgg31 rfl rfl rfl rfl) ?_
  refine qe (d_call Try.call16 rfl (clashes_L p q (clashL S T) 0 _ _ _ _ _ _ _ _ _ hS.imm hgp.wf h23 hgq.wf h28 hK rfl)) ?_
  rintro _ w_9 ⟨I_f, a32, c32, rfl, hE, h32⟩
  replace hS := hS.callE hE
  replace h4 := h4.mono hE.ext
  replace h5 := h5.mono hE.ext
  replace h23 := h23.mono hE.ext
  replace h28 := h28.mono hE.ext
  refine qq hS (g_move _) ?_
  refine qq hS (g_extract rfl rfl) ?_
  refine qq hS (g_extract (v := .int .i64 _) rfl rfl) ?_
  refine qq hS (g_assign _) ?_
  refine qq hS (g_assignv (v := .int .i64 _) rfl) ?_
  refine ol_nil (thenN ?_)
  refine wpIn_seq ?_
  refine reg ?_
  refine qq hS (g_ldO 0 (vs := [.bool _, .int .i64 _, .int .i64 _, .slice _ _ _]) Try.sizeOf31 Try.isAgg31 rfl rfl rfl rfl) ?_
  refine qq hS (g_ldO 1 (vs := [.bool _, .int .i64 _, .int .i64 _, .slice _ _ _]) Try.sizeOf31 Try.isAgg31 rfl rfl rfl rfl) ?_
  refine qe (d_call Try.call16 rfl (clashes_L q p (clashL S T) 0 _ _ _ _ _ _ _ _ _ hS.imm hgq.wf h28 hgp.wf h23 hK2 rfl)) ?_
  rintro _ w_10 ⟨I_f, a38, c38, rfl, hE, h38⟩
  replace hS := hS.callE hE
  replace h4 := h4.mono hE.ext
  replace h5 := h5.mono hE.ext
  replace h23 := h23.mono hE.ext
  replace h28 := h28.mono hE.ext
  replace h32 := h32.mono hE.ext
  refine qq hS (g_move _) ?_
  refine qq hS (g_extract rfl rfl) ?_
  refine qq hS (g_extract (v := .int .i64 _) rfl rfl) ?_
  refine qq hS (g_assign _) ?_
  refine qq hS (g_assignv (v := .int .i64 _) rfl) ?_
  refine ol_nil (thenN ?_)
  refine wpIn_seq ?_
  refine reg ?_
  refine qq hS (g_ldO 1 (vs := [.bool _, .int .i64 _, .int .i64 _, .slice _ _ _]) Try.sizeOf31 Try.isAgg31 rfl rfl rfl rfl) ?_
  refine qq hS (g_ldO 0 (vs := [.bool _, .int .i64 _, .int .i64 _, .slice _ _ _]) Try.sizeOf31 Try.isAgg31 rfl rfl rfl rfl) ?_
  refine qe (d_call Try.call18 rfl (merge_L p q M.1 M.2 _ _ _ _ _ _ _ _ hS.imm hgp.wf h23 hgq.wf h28 hM)) ?_
  rintro _ w_11 ⟨I_f, a44, m44, c44, rfl, hE, h44⟩
  replace hS := hS.callE hE
  replace h4 := h4.mono hE.ext
  replace h5 := h5.mono hE.ext
  replace h23 := h23.mono hE.ext
  replace h28 := h28.mono hE.ext
  replace h32 := h32.mono hE.ext
  replace h38 := h38.mono hE.ext
  refine qq hS (g_move _) ?_
  refine qq hS (g_extract rfl rfl) ?_
  refine qq hS (g_extract (v := .int .i64 _) rfl rfl) ?_
  refine qe (d_alloc (cs := [.bool _, .int .i64 _, .int .i64 _, .slice _ _ _]) hS Try.zeroValue31 rfl) ?_
  clear hS
  rintro _ w_12 ⟨b10, rfl, hS⟩
  refine qe (d_store 0 hS Try.sizeOf31 rfl rfl rfl (vs := [.bool _, .int .i64 _, .int .i64 _, .slice _ _ _]) rfl rfl rfl (Nat.le_of_ble_eq_true rfl) (cs' := [_, _, _, _]) rfl) ?_
  clear hS
  rintro _ w_13 ⟨rfl, hS⟩
  refine qq hS (g_assignv (v := .int .i64 _) rfl) ?_
  refine ol_nil (thenN ?_)
  refine wpIn_seq ?_
  refine wpIn_seq ?_
  refine reg ?_
  refine qq hS (g_movev (v := .int .i64 _) rfl) ?_
  refine qq hS (g_neq rfl rfl) ?_
  refine qq hS (g_movev (v := .bool _) rfl) ?_
  refine qqs rfl rfl hS (g_movev (v := .int .i64 _) rfl) ?_
  refine qqs rfl rfl hS (g_neq rfl rfl) ?_
  refine qq hS (g_or rfl rfl (fun _ => rfl)) ?_
  refine qq hS (g_movev (v := .bool _) rfl) ?_
  refine qqs rfl rfl hS (g_move _) ?_
  refine qqs rfl rfl hS (g_move _) ?_
  refine qes rfl rfl (d_call Try.call15 rfl (sameRg_T (clashL S T) _ _ _ _ _ _ _ _ hS.imm h32 h38 rfl rfl)) ?_
  rintro _ w_14 ⟨rfl, hE⟩
  replace hS := hS.callE hE
  refine qqs rfl rfl hS (g_not rfl) ?_
  refine qq hS (g_or rfl rfl (fun _ => rfl)) ?_
  refine qq hS (g_movev (v := .bool _) rfl) ?_
  refine qqs rfl rfl hS (g_move _) ?_
  refine qqs rfl rfl hS (g_fieldAddr (o' := 1) Try.underlying31 rfl Try.sizeOf3 rfl rfl rfl) ?_
  refine qqs rfl rfl hS (g_ldO1 2 Try.isAgg3 rfl rfl rfl) ?_
  refine qes rfl rfl (d_call Try.call24 rfl (right11_T (clashL S T) p.in_ _ _ _ _ _ hS.imm h32 rfl hri)) ?_
  rintro _ w_15 ⟨rfl, hE⟩
  replace hS := hS.callE hE
  refine qqs rfl rfl hS (g_not rfl) ?_
  refine qq hS (g_or rfl rfl (fun _ => rfl)) ?_
  refine qq hS (g_movev (v := .bool _) rfl) ?_
  refine qqs rfl rfl hS (g_movev (v := .int .i64 _) rfl) ?_
  refine qqs rfl rfl hS (g_eql rfl rfl) ?_
  refine qqs rfl rfl hS (g_move _) ?_
  refine qqs rfl rfl hS (g_lenI rfl Try.underlying36 h32 rfl) ?_
  refine qqs rfl rfl hS (g_eql rfl rfl) ?_
  refine qqs rfl rfl hS (g_neqbF Try.underlying4 rfl rfl hM1) ?_
  refine qq hS (g_or rfl rfl (fun _ => rfl)) ?_
  refine qq hS (g_movev (v := .bool _) rfl) ?_
  refine qqs rfl rfl hS (g_movev (v := .int .i64 _) rfl) ?_
  refine qqs rfl rfl hS (g_neq rfl rfl) ?_
  refine qqs rfl rfl hS (g_movev (v := .bool _) rfl) ?_
  refine qu rfl rfl hS (fun hg => (g_movev (v := .int .i64 _) rfl)) ?_
  intro u78 hu78 hn78
  refine qu rfl rfl hS (fun hg => (g_neq (hu78 hg) rfl)) ?_
  intro u79 hu79 hn79
  refine qqs rfl rfl hS (g_castB (g_and rfl rfl (fun hq => hu79 hq)) (congrArg Value.bool hM2)) ?_
  refine qq hS (g_or rfl rfl (fun _ => rfl)) ?_
  refine ol_nil (thenN ?_)
  refine cond_f (rfl) ?_
  refine wpIn_skip ?_
  refine thenN ?_
  refine wpIn_seq ?_
  refine draw (.cons 0 .held (.cons 2 .held (.cons 1 .eff (.cons 3 .eff (.cons 4 .pure (.cons 5 .pure .nil)))))) mixed (by kernel_rfl) hS ?_
  intro w_16 hS
  refine sh rfl (g_ldO 2 (vs := [.bool _, .int .i64 _, .int .i64 _, .slice _ _ _]) Try.sizeOf31 Try.isAgg31 rfl rfl rfl rfl) ?_
  refine sh rfl (g_ldO 1 (vs := [.bool _, .int .i64 _, .int .i64 _, .slice _ _ _]) Try.sizeOf31 Try.isAgg31 rfl rfl rfl rfl) ?_
  have hS0 := hS
  refine se rfl (d_call Try.call25 rfl (touches_c p S N _ _ _ _ _ hS.imm hgp.wf h23 hA.c hA.s hA.n hA.i hA.b)) ?_
  rintro _ w_17 ⟨I_f, a83, c83, rfl, hE, h83⟩
  replace hS := hS.call hE
  replace h4 := h4.mono hE.ext
  replace h5 := h5.mono hE.ext
  replace h23 := h23.mono hE.ext
  replace h28 := h28.mono hE.ext
  replace h32 := h32.mono hE.ext
  replace h38 := h38.mono hE.ext
  replace h44 := h44.mono hE.ext
  refine ⟨_, _, hS0.le hE.ext (List.Sublist.refl _), hS, ?_⟩
  have hS0 := hS
  refine se rfl (d_call Try.call25 rfl (touches_c q T N _ _ _ _ _ hS.imm hgq.wf h28 hB.c hB.s hB.n hB.i hB.b)) ?_
  rintro _ w_18 ⟨I_f, a85, c85, rfl, hE, h85⟩
  replace hS := hS.call hE
  replace h4 := h4.mono hE.ext
  replace h5 := h5.mono hE.ext
  replace h23 := h23.mono hE.ext
  replace h28 := h28.mono hE.ext
  replace h32 := h32.mono hE.ext
  replace h38 := h38.mono hE.ext
  replace h44 := h44.mono hE.ext
  replace h83 := h83.mono hE.ext
  refine ⟨_, _, hS0.le hE.ext (List.Sublist.refl _), hS, ?_⟩
  refine sp rfl (g_assign _) ?_
  refine sp rfl (g_assign _) ?_
  refine sn (thenN ?_)
  refine wpIn_seq ?_
  refine reg ?_
  refine qq hS (g_ldO 2 (vs := [.bool _, .int .i64 _, .int .i64 _, .slice _ _ _]) Try.sizeOf31 Try.isAgg31 rfl rfl rfl rfl) ?_
  refine qe (d_call Try.call26 rfl (symbolsR_M p S N _ _ _ _ _ hS.imm hgp.wf h23 hA.c hA.s hA.n)) ?_
  rintro _ w_19 ⟨I_f, a88, c88, rfl, hE, h88⟩
  replace hS := hS.callE hE
  replace h4 := h4.mono hE.ext
  replace h5 := h5.mono hE.ext
  replace h23 := h23.mono hE.ext
  replace h28 := h28.mono hE.ext
  replace h32 := h32.mono hE.ext
  replace h38 := h38.mono hE.ext
  replace h44 := h44.mono hE.ext
  replace h83 := h83.mono hE.ext
  replace h85 := h85.mono hE.ext
  refine qq hS (g_move _) ?_
  refine qq hS (g_extract rfl rfl) ?_
  refine qq hS (g_extract (v := .int .i64 _) rfl rfl) ?_
  refine qq hS (g_assign _) ?_
  refine qq hS (g_assignv (v := .int .i64 _) rfl) ?_
  refine ol_nil (thenN ?_)
  refine wpIn_seq ?_
  refine reg ?_
  refine qq hS (g_ldO 1 (vs := [.bool _, .int .i64 _, .int .i64 _, .slice _ _ _]) Try.sizeOf31 Try.isAgg31 rfl rfl rfl rfl) ?_
  refine qe (d_call Try.call26 rfl (symbolsR_M q T N _ _ _ _ _ hS.imm hgq.wf h28 hB.c hB.s hB.n)) ?_
  rintro _ w_20 ⟨I_f, a93, c93, rfl, hE, h93⟩
  replace hS := hS.callE hE
  replace h4 := h4.mono hE.ext
  replace h5 := h5.mono hE.ext
  replace h23 := h23.mono hE.ext
  replace h28 := h28.mono hE.ext
  replace h32 := h32.mono hE.ext
  replace h38 := h38.mono hE.ext
  replace h44 := h44.mono hE.ext
  replace h83 := h83.mono hE.ext
  replace h85 := h85.mono hE.ext
  replace h88 := h88.mono hE.ext
  refine qq hS (g_move _) ?_
  refine qq hS (g_extract rfl rfl) ?_
  refine qq hS (g_extract (v := .int .i64 _) rfl rfl) ?_
  refine qq hS (g_assign _) ?_
  refine qq hS (g_assignv (v := .int .i64 _) rfl) ?_
  refine ol_nil (thenN ?_)
  refine wpIn_seq ?_
  refine wpIn_seq ?_
  refine reg ?_
  refine qq hS (g_assignv (v := .int .i64 _) rfl) ?_
  refine ol_nil (thenN ?_)
  refine wpIn_block ?_
  refine loop (fun (i : Nat) σ w => okS σ [(3, .bool true), (4, .pointer (some ⟨b4, 0, none⟩)), (6, .slice a32 (clashL S T).length c32), (12, .slice a83 N c83), (13, .slice a85 N c85), (14, .slice a88 N c88), (16, .slice a93 N c93), (18, .int .i64 i)] ∧ St [] w0 I0 I_f w [.cel b4 31 [.bool p.lifted, .int .i64 p.in_, .int .i64 p.out, .slice a23 m23 c23]] ∧ i ≤ N) (fun i => N - i) (0) ?_ ?_
  ·
    exact ⟨⟨rfl, rfl, rfl, rfl, rfl, rfl, rfl, rfl, trivial⟩, hS.sel [false, false, true, false], by omega⟩
  ·
    rintro i σ w_l ⟨hs, hS, hi0⟩
    rw [← upds_self hs]; clear hs
    refine wpIn_seq ?_
    refine wpIn_seq ?_
    refine reg ?_
    refine qq hS (g_movev (v := .int .i64 _) rfl) ?_
    refine qq hS (g_fieldAddr (o' := 1) Try.underlying31 rfl Try.sizeOf3 rfl rfl rfl) ?_
    refine qq hS (g_ldO1 0 Try.isAgg3 rfl rfl rfl) ?_
    refine qq hS (g_lss rfl rfl) ?_
    refine ol_nil (thenN ?_)
    refine cond_s rfl ?_ ?_
    ·
      intro hc99
      clear hu78 hn78 hu79 hn79
      try simp only [Bool.and_eq_true, Bool.or_eq_true, Bool.not_eq_true', Bool.and_eq_false_imp, Bool.or_eq_false_iff, Bool.not_eq_false', decide_eq_true_eq, decide_eq_false_iff_not] at hc99
      obtain ⟨s, hsi⟩ : ∃ s, S[i]? = some s := ⟨_, List.getElem?_eq_getElem (by omega)⟩
      obtain ⟨t, hti⟩ : ∃ t, T[i]? = some t := ⟨_, List.getElem?_eq_getElem (by omega)⟩
      have hi' : i < N := by omega
      have htA := h83.at (marks_at (f := touched S) hi')
      have huA := h85.at (marks_at (f := touched T) hi')
      have hsA := h88.at hsi
      have hyA := h93.at hti
      have hdi : ((touched S i && touched T i) && !symEq s t) = inR (clashL S T) (i : Int) := by
        unfold clashL
        rw [rngs_in (clashAt S T) S.length i (by omega)]
        unfold clashAt; rw [sAt_of hsi, sAt_of hti]
      refine wpIn_skip ?_
      refine thenN ?_
      refine wpIn_seq ?_
      refine wpIn_block ?_
      refine wpIn_seq ?_
      refine draw (.cons 0 .pure (.cons 1 .pure (.cons 2 .pure (.cons 3 .held (.cons 4 .pure (.cons 5 .pure (.cons 6 .pure (.cons 7 .pure (.cons 8 .held (.cons 9 .pure (.cons 10 .pure (.cons 11 .pure (.cons 12 .pure (.cons 13 .pure (.cons 14 .held (.cons 15 .pure (.cons 16 .pure (.cons 17 .pure (.cons 18 .held (.cons 19 .pure (.cons 20 .pure (.cons 21 .pure .nil)))))))))))))))))))))) mixed (by kernel_rfl) hS ?_
      intro w_21 hS
      refine sp rfl (g_move _) ?_
      refine sp rfl (g_movev (v := .int .i64 _) rfl) ?_
      refine sp rfl (g_ixI Try.underlying51 Try.sizeOf4 h83 rfl rfl (by omega) (by omega)) ?_
      refine sh rfl (g_ldE1 Try.isAgg4 htA rfl rfl) ?_
      refine sp rfl (g_movev (v := .bool _) rfl) ?_
      refine spu rfl rfl rfl (fun hg => (g_move _)) ?_
      intro u107 hu107 hn107
      refine spu rfl rfl rfl (fun hg => (g_movev (v := .int .i64 _) rfl)) ?_
      intro u108 hu108 hn108
      refine spu rfl rfl rfl (fun hg => (g_ixI Try.underlying51 Try.sizeOf4 h85 (hu107 hg) (hu108 hg) (by omega) (by omega))) ?_
      intro u109 hu109 hn109
      refine shu rfl rfl rfl (fun hg => (g_ldE1 Try.isAgg4 huA (hu109 hg) rfl)) ?_
      intro u110 hu110 hn110
      refine sp rfl (g_and rfl rfl (fun hq => hu110 hq)) ?_
      refine sp rfl (g_movev (v := .bool _) rfl) ?_
      refine spu rfl rfl rfl (fun hg => (g_move _)) ?_
      intro u113 hu113 hn113
      refine spu rfl rfl rfl (fun hg => (g_movev (v := .int .i64 _) rfl)) ?_
      intro u114 hu114 hn114
      refine spu rfl rfl rfl (fun hg => (g_ixI Try.underlying53 Try.sizeOf57 h88 (hu113 hg) (hu114 hg) (by omega) (by omega))) ?_
      intro u115 hu115 hn115
      refine shu rfl rfl rfl (fun hg => (g_ldE (us := [.bool _, .int .i64 _, .int .u8 _]) Try.sizeOf57 Try.isAgg57 hsA (hu115 hg) rfl rfl)) ?_
      intro u116 hu116 hn116
      refine spu rfl rfl rfl (fun hg => (g_move _)) ?_
      intro u117 hu117 hn117
      refine spu rfl rfl rfl (fun hg => (g_movev (v := .int .i64 _) rfl)) ?_
      intro u118 hu118 hn118
      refine spu rfl rfl rfl (fun hg => (g_ixI Try.underlying53 Try.sizeOf57 h93 (hu117 hg) (hu118 hg) (by omega) (by omega))) ?_
      intro u119 hu119 hn119
      refine shu rfl rfl rfl (fun hg => (g_ldE (us := [.bool _, .int .i64 _, .int .u8 _]) Try.sizeOf57 Try.isAgg57 hyA (hu119 hg) rfl rfl)) ?_
      intro u120 hu120 hn120
      refine spu rfl rfl rfl (fun hg => (neqSym s t (hu116 hg) (hu120 hg))) ?_
      intro u121 hu121 hn121
      refine sp rfl (g_and rfl rfl (fun hq => hu121 hq)) ?_
      refine sp rfl (g_assignv (v := .bool _) rfl) ?_
      refine sn (thenN ?_)
      refine wpIn_seq ?_
      refine reg ?_
      refine qq hS (g_movev (v := .bool _) rfl) ?_
      refine qq hS (g_move _) ?_
      refine qq hS (g_movev (v := .int .i64 _) rfl) ?_
      refine qe (d_call Try.call27 rfl (in11_c (clashL S T) (i : Int) _ _ _ _ hS.imm h32 hmid)) ?_
      rintro _ w_22 ⟨rfl, hE⟩
      replace hS := hS.callE hE
      refine qq hS (g_neqbF Try.underlying4 rfl rfl hdi) ?_
      refine ol_nil (thenN ?_)
      refine cond_f (rfl) ?_
      refine wpIn_skip ?_
      refine blkN (thenN ?_)
      refine reg ?_
      refine qq hS (g_movev (v := .int .i64 _) rfl) ?_
      refine qq hS (g_add rfl rfl (by omega) (by omega)) ?_
      refine qq hS (g_assignv (v := .int .i64 _) rfl) ?_
      refine ol_nil (thenN ?_)
      exact ⟨i + 1, _, rfl, ⟨⟨rfl, rfl, rfl, rfl, rfl, rfl, rfl, rfl, trivial⟩, hS.sel [true], by omega⟩, by omega⟩
    ·
      intro hc99
      clear hu78 hn78 hu79 hn79
      try simp only [Bool.and_eq_true, Bool.or_eq_true, Bool.not_eq_true', Bool.and_eq_false_imp, Bool.or_eq_false_iff, Bool.not_eq_false', decide_eq_true_eq, decide_eq_false_iff_not] at hc99
      have hi : N = i := by omega
      subst hi
      refine wpIn_exit ?_
      refine thenE (thenE (blkE ?_))
      refine thenN ?_
      refine wpIn_seq ?_
      refine reg ?_
      refine qq hS (g_movev (v := .bool _) rfl) ?_
      refine qq hS (g_assignv (v := .bool _) rfl) ?_
      refine ol_nil (thenN ?_)
      refine wpIn_ret ?_
      refine ret1 Try.results4 (rv_tmp (v := .bool _) rfl) ?_
      exact ⟨_, rfl, hS.nil⟩

end Go.Proofs.Ytalemnjjljnnpaa

