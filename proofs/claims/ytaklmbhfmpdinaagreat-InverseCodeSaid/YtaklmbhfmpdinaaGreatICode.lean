/- inlaylaw10.InverseCode: its function answers true. Conditions: arguments are of their kinds. -/
import Derived.Test.YtaklmbhfmpdinaaGreatKInvR
import Derived.Test.YtaklmbhfmpdinaaGreatSanity10
namespace Go.Proofs.YtaklmbhfmpdinaaGreat
open Go Go.RowKit Go.Inl
set_option linter.unusedSimpArgs false
set_option linter.unusedVariables false
theorem words_of2 (W : List Int) (hW : Wrds W) : wordsN (bytesP W) ((bytesP W).length / 4) = W := by
  rw [bytesP_len, show 4 * W.length / 4 = W.length by omega, wordsN_bytes hW]
theorem code_of2 (W : List Int) (hW : Wrds W) : codeF (bytesP W) = formP (liftP W) := by unfold codeF; rw [words_of2 W hW]
theorem noCode_of2 {W : List Int} (h : W.length ≤ 16384) : noCode (bytesP W) = false := by
  unfold noCode; rw [bytesP_len, decide_eq_true (show 4 * W.length % 4 = 0 by omega), decide_eq_false (by omega)]; rfl
theorem code_len {W : List Int} (h : W.length ≤ 64) : (formP (liftP W)).length ≤ 4096 := by
  have h1 : (liftP W).words.length = W.length := liftW_len _ _ _
  have h2 : (liftP W).marks.length = W.length := liftM_len _ _
  have h3 : (liftP W).labels.length ≤ W.length := labelsP_len _
  have := formP_len (liftP W)
  omega
theorem apply_code {V W : List Int} {p : PatL} (hV : Wrds V) (lV : V.length ≤ 64) (hW : Wrds W) (lW : W.length ≤ 64) (hk : (checkP p).2 = 0) (hin : p.in_ = (formP (liftP V)).length) (hr : (symsOf p.ops).map (runB (formP (liftP V))) = formP (liftP W)) : applyLP (bytesP V) p = (bytesP W, 0) := by
  have hs := symbolsP_ok hk
  unfold applyLP
  rw [hs, if_pos rfl, if_neg (by rw [noCode_of2 (by omega)]; decide), code_of2 V hV, if_pos hin.symm]
  dsimp only
  rw [runP_right hk hin, hr, if_pos rfl]
  dsimp only
  rw [readR_lift hW (by omega), if_pos rfl, lower_lift hW (by omega)]
/-- What holds of a lifted patch between two pieces of code, and of its inverse. -/
structure CodePair (V W X Y : List Int) (n : Nat) (F : PatL) : Prop where
  chk : (checkP (lifN X Y n)).2 = 0
  wf : (lifN X Y n).wf
  inv : invertLP (bytesP V) (lifN X Y n) = (withL true F, 0)
  fchk : (checkP (withL true F)).2 = 0
  fwf : (withL true F).wf
  there : applyLP (bytesP V) (lifN X Y n) = (bytesP W, 0)
  back : applyLP (bytesP W) (withL true F) = (bytesP V, 0)
theorem codePair {V W X Y : List Int} {n : Nat} (hV : Wrds V) (hW : Wrds W) (lV : V.length ≤ 64) (lW : W.length ≤ 64) (hX : codeF (bytesP V) = X) (hY : codeF (bytesP W) = Y) (hnx : n ≤ X.length) (hny : n ≤ Y.length) (ht : X.take n = Y.take n) : ∃ F, CodePair V W X Y n F := by
  have hX2 := code_of2 V hV
  have hY2 := code_of2 W hW
  rw [hX] at hX2
  rw [hY] at hY2
  have lX : X.length ≤ 4096 := by rw [hX2]; exact code_len lV
  have lY : Y.length ≤ 4096 := by rw [hY2]; exact code_len lW
  have bX : Byts X := by rw [hX2]; exact formP_byts _
  have bY : Byts Y := by rw [hY2]; exact formP_byts _
  have hk := lifN_chk hnx hny (by omega) (by omega)
  have hw := lifN_wf hnx hny (by omega) (by omega) bY
  have hr := lifN_run hnx hny bX ht
  obtain ⟨F, hF⟩ := inv_for (p := lifN X Y n) (old := X) hk lX bX
  have h1 : applyLP (bytesP V) (lifN X Y n) = (bytesP W, 0) := apply_code hV lV hW lW hk (by rw [← hX2]; rfl) (by rw [← hX2, ← hY2]; exact hr)
  have h2 : invertLP (bytesP V) (lifN X Y n) = (withL true F, 0) := by
    unfold invertLP
    rw [symbolsP_ok hk, h1, if_neg (by simp), if_neg (by simp)]
    dsimp only
    rw [hX, hF.cheap]
    rfl
  have hc : (checkP (withL true F)).2 = 0 := hF.chk
  refine ⟨F, hk, hw, h2, hc, ⟨hF.wf.in_, hF.wf.out, hF.wf.ops, hF.wf.len⟩, h1, ?_⟩
  refine apply_code hW lW hV lV hc (by rw [← hY2]; show F.in_ = _; rw [hF.in_]; rfl) ?_
  rw [← hX2, ← hY2]
  show (symsOf F.ops).map (runB Y) = X
  obtain ⟨k1, k2, k3, k4, k5, k6, k7⟩ := checkP_ok hk
  have ok := (ops_ok _ k1).1
  have hin : (lifN X Y n).in_ = X.length := rfl
  rw [hin] at ok
  have h3 := inv_run ok bX
  rw [hr] at h3
  rw [hF.syms, h3]
theorem applyl_E2 (p : PatL) (ad bd : Option Addr) (m cap capb n : Nat) (old : List Int) (R : List Int) (e : Int) (w0 : World) (I0 : Imm) (hI : Sat I0 w0) (hops : ROps I0 (.slice ad m cap) p.ops) (hp : p.wf) (hl : p.lifted = true) (ho : RBytes I0 (.slice bd n capb) old) (hn : n = old.length) (hob : Byts old) (hon : n ≤ 4294967296) (hR : applyLP old p = (R, e)) :
    Ctr Tryz.prog 17 [.slice bd n capb, .agg #[.bool p.lifted, .int .i64 p.in_, .int .i64 p.out, .slice ad m cap]] w0 (fun v w' => ∃ I' a c, v = .tuple #[.slice a R.length c, .int .i64 e] ∧ Ext w0 I0 w' I' ∧ RBytes I' (.slice a R.length c) R) := by
  subst hn; exact applyl_c p ad bd m cap capb old R e w0 I0 hI hops hp hl ho hob hon hR

set_option maxRecDepth 20000 in
set_option maxHeartbeats 4000000 in
theorem icode_c (ad bd : Option Addr) (cap capb : Nat) (l m : List Q4) (w0 : World) (I0 : Imm) (hI : Sat I0 w0) (hl : RFl I0 4 q4C (.slice ad l.length cap) l) (hlq : ∀ q ∈ l, q.wf) (hm : RFl I0 4 q4C (.slice bd m.length capb) m) (hmq : ∀ q ∈ m, q.wf) :
    Ctr Tryz.prog 4 [.agg #[.slice ad l.length cap, .slice bd m.length capb]] w0 (fun v w' => ∃ I', v = .bool true ∧ Ext w0 I0 w' I') := by
  refine fn (n := 76) Tryz.func4 rfl rfl rfl ?_
  have hS := St.start hI
  refine wpIn_seq ?_
  refine reg ?_
  refine qe (d_box (cs := [.slice _ _ _, .slice _ _ _]) hS rfl) ?_
  clear hS
  rintro _ w_1 ⟨b1, rfl, hS⟩
  refine qq hS (g_assignv (v := .bool _) rfl) ?_
  refine ol_nil (thenN ?_)
  refine wpIn_seq ?_
  refine reg ?_
  refine qe (d_call Tryz.call5 rfl (sanity10_c _ _ hS.imm)) ?_
  rintro _ w_2 ⟨I_f, rfl, hE⟩
  replace hS := hS.callE hE
  replace hl := hl.mono hE.ext
  replace hm := hm.mono hE.ext
  refine qq hS (g_assignv (v := .bool _) rfl) ?_
  refine ol_nil (thenN ?_)
  refine wpIn_seq ?_
  refine reg ?_
  refine qq hS (g_indexArr (o' := 0) Tryz.underlying27 Tryz.sizeOf26 rfl rfl (by decide) (by decide) rfl) ?_
  refine qq hS (g_ldO1 0 Tryz.isAgg26 rfl rfl rfl) ?_
  refine qe (d_call Tryz.call7 rfl (code_c ad cap l 20 _ _ hS.imm hl hlq (by omega))) ?_
  rintro _ w_3 ⟨I_f, a16, c16, V, rfl, hE, h16, hVw, hVn⟩
  replace hS := hS.callE hE
  replace hl := hl.mono hE.ext
  replace hm := hm.mono hE.ext
  refine qq hS (g_assign _) ?_
  refine ol_nil (thenN ?_)
  refine wpIn_seq ?_
  refine reg ?_
  refine qq hS (g_indexArr (o' := 1) Tryz.underlying27 Tryz.sizeOf26 rfl rfl (by decide) (by decide) rfl) ?_
  refine qq hS (g_ldO1 0 Tryz.isAgg26 rfl rfl rfl) ?_
  refine qe (d_call Tryz.call7 rfl (code_c bd capb m 20 _ _ hS.imm hm hmq (by omega))) ?_
  rintro _ w_4 ⟨I_f, a19, c19, W, rfl, hE, h19, hWw, hWn⟩
  replace hS := hS.callE hE
  replace hl := hl.mono hE.ext
  replace hm := hm.mono hE.ext
  replace h16 := h16.mono hE.ext
  refine qq hS (g_assign _) ?_
  refine ol_nil (thenN ?_)
  refine wpIn_seq ?_
  refine reg ?_
  refine qq hS (g_move _) ?_
  refine qq hS (g_move _) ?_
  refine qe (d_call Tryz.call8 rfl (lifted_c a16 a19 c16 c19 (bytesP V) (bytesP W) _ _ hS.imm h16 (bytesP_byts V) h19 (bytesP_byts W) (noCode_of2 (by omega)) (noCode_of2 (by omega)))) ?_
  rintro _ w_5 ⟨I_f, a22, m22, c22, n, rfl, hE, hnx, hny, hnt, h22⟩
  replace hS := hS.callE hE
  replace hl := hl.mono hE.ext
  replace hm := hm.mono hE.ext
  replace h16 := h16.mono hE.ext
  replace h19 := h19.mono hE.ext
  obtain ⟨X, hX⟩ : ∃ X, codeF (bytesP V) = X := ⟨_, rfl⟩
  obtain ⟨Y, hY⟩ : ∃ Y, codeF (bytesP W) = Y := ⟨_, rfl⟩
  rw [hX, hY] at h22 hnt
  rw [hX] at hnx ⊢
  rw [hY] at hny ⊢
  obtain ⟨F, hF⟩ := codePair hVw hWw (by omega) (by omega) hX hY hnx hny hnt
  have hVl := bytesP_len V
  have hWl := bytesP_len W
  refine qe (d_alloc (cs := [.bool _, .int .i64 _, .int .i64 _, .slice _ _ _]) hS Tryz.zeroValue31 rfl) ?_
  clear hS
  rintro _ w_6 ⟨b6, rfl, hS⟩
  refine qe (d_store 0 hS Tryz.sizeOf31 rfl rfl rfl (vs := [.bool _, .int .i64 _, .int .i64 _, .slice _ _ _]) rfl rfl rfl (Nat.le_of_ble_eq_true rfl) (cs' := [_, _, _, _]) rfl) ?_
  clear hS
  rintro _ w_7 ⟨rfl, hS⟩
  refine ol_nil (thenN ?_)
  refine wpIn_seq ?_
  refine reg ?_
  refine qq hS (g_move _) ?_
  refine qq hS (g_ldO 0 (vs := [.bool _, .int .i64 _, .int .i64 _, .slice _ _ _]) Tryz.sizeOf31 Tryz.isAgg31 rfl rfl rfl rfl) ?_
  refine qe (d_call Tryz.call10 rfl (invertL_c (lifN X Y n) a22 a16 m22 c22 c16 (bytesP V) (withL true F) 0 _ _ hS.imm h22 hF.wf rfl h16 (bytesP_byts V) (by omega) hF.inv)) ?_
  rintro _ w_8 ⟨I_f, a26, m26, c26, rfl, hE, h26⟩
  replace hS := hS.callE hE
  replace hl := hl.mono hE.ext
  replace hm := hm.mono hE.ext
  replace h16 := h16.mono hE.ext
  replace h19 := h19.mono hE.ext
  replace h22 := h22.mono hE.ext
  refine qq hS (g_move _) ?_
  refine qq hS (g_extract rfl rfl) ?_
  refine qq hS (g_extract (v := .int .i64 _) rfl rfl) ?_
  refine qe (d_alloc (cs := [.bool _, .int .i64 _, .int .i64 _, .slice _ _ _]) hS Tryz.zeroValue31 rfl) ?_
  clear hS
  rintro _ w_9 ⟨b7, rfl, hS⟩
  refine qe (d_store 0 hS Tryz.sizeOf31 rfl rfl rfl (vs := [.bool _, .int .i64 _, .int .i64 _, .slice _ _ _]) rfl rfl rfl (Nat.le_of_ble_eq_true rfl) (cs' := [_, _, _, _]) rfl) ?_
  clear hS
  rintro _ w_10 ⟨rfl, hS⟩
  refine qq hS (g_assignv (v := .int .i64 _) rfl) ?_
  refine ol_nil (thenN ?_)
  refine wpIn_seq ?_
  refine wpIn_seq ?_
  refine reg ?_
  refine qq hS (g_movev (v := .int .i64 _) rfl) ?_
  refine qq hS (g_neq rfl rfl) ?_
  refine qq hS (g_movev (v := .bool _) rfl) ?_
  refine qqs rfl rfl hS (g_ldO 0 (vs := [.bool _, .int .i64 _, .int .i64 _, .slice _ _ _]) Tryz.sizeOf31 Tryz.isAgg31 rfl rfl rfl rfl) ?_
  refine qes rfl rfl (d_call Tryz.call16 rfl (right_K (withL true F) _ _ _ _ _ hS.imm h26 hF.fwf hF.fchk)) ?_
  rintro _ w_11 ⟨rfl, hE⟩
  replace hS := hS.callE hE
  refine qqs rfl rfl hS (g_not rfl) ?_
  refine qq hS (g_or rfl rfl (fun _ => rfl)) ?_
  refine qq hS (g_movev (v := .bool _) rfl) ?_
  refine qqs rfl rfl hS (g_fieldAddr (o' := 0) Tryz.underlying31 rfl Tryz.sizeOf4 rfl rfl rfl) ?_
  refine qqs rfl rfl hS (g_ldO1 0 Tryz.isAgg4 rfl rfl rfl) ?_
  refine qqs rfl rfl hS (g_not rfl) ?_
  refine qq hS (g_or rfl rfl (fun _ => rfl)) ?_
  refine ol_nil (thenN ?_)
  refine cond_f (rfl) ?_
  refine wpIn_skip ?_
  refine thenN ?_
  refine wpIn_seq ?_
  refine reg ?_
  refine qq hS (g_move _) ?_
  refine qq hS (g_ldO 1 (vs := [.bool _, .int .i64 _, .int .i64 _, .slice _ _ _]) Tryz.sizeOf31 Tryz.isAgg31 rfl rfl rfl rfl) ?_
  refine qe (d_call Tryz.call17 rfl (applyl_E2 (lifN X Y n) _ _ _ _ _ _ (bytesP V) (bytesP W) 0 _ _ hS.imm h22 hF.wf rfl h16 rfl (bytesP_byts V) (by omega) hF.there)) ?_
  rintro _ w_12 ⟨I_f, a44, c44, rfl, hE, h44⟩
  replace hS := hS.callE hE
  replace hl := hl.mono hE.ext
  replace hm := hm.mono hE.ext
  replace h16 := h16.mono hE.ext
  replace h19 := h19.mono hE.ext
  replace h22 := h22.mono hE.ext
  replace h26 := h26.mono hE.ext
  refine qq hS (g_move _) ?_
  refine qq hS (g_extract rfl rfl) ?_
  refine qq hS (g_extract (v := .int .i64 _) rfl rfl) ?_
  refine qq hS (g_assign _) ?_
  refine qq hS (g_assignv (v := .int .i64 _) rfl) ?_
  refine ol_nil (thenN ?_)
  refine wpIn_seq ?_
  refine reg ?_
  refine qq hS (g_move _) ?_
  refine qq hS (g_ldO 0 (vs := [.bool _, .int .i64 _, .int .i64 _, .slice _ _ _]) Tryz.sizeOf31 Tryz.isAgg31 rfl rfl rfl rfl) ?_
  refine qe (d_call Tryz.call17 rfl (applyl_E2 (withL true F) _ _ _ _ _ _ (bytesP W) (bytesP V) 0 _ _ hS.imm h26 hF.fwf rfl h19 rfl (bytesP_byts W) (by omega) hF.back)) ?_
  rintro _ w_13 ⟨I_f, a50, c50, rfl, hE, h50⟩
  replace hS := hS.callE hE
  replace hl := hl.mono hE.ext
  replace hm := hm.mono hE.ext
  replace h16 := h16.mono hE.ext
  replace h19 := h19.mono hE.ext
  replace h22 := h22.mono hE.ext
  replace h26 := h26.mono hE.ext
  replace h44 := h44.mono hE.ext
  refine qq hS (g_move _) ?_
  refine qq hS (g_extract rfl rfl) ?_
  refine qq hS (g_extract (v := .int .i64 _) rfl rfl) ?_
  refine qq hS (g_assign _) ?_
  refine qq hS (g_assignv (v := .int .i64 _) rfl) ?_
  refine ol_nil (thenN ?_)
  refine wpIn_seq ?_
  refine reg ?_
  refine qq hS (g_movev (v := .bool _) rfl) ?_
  refine qq hS (g_movev (v := .bool _) rfl) ?_
  refine qqs rfl rfl hS (g_movev (v := .int .i64 _) rfl) ?_
  refine qqs rfl rfl hS (g_eql rfl rfl) ?_
  refine qq hS (g_and rfl rfl (fun _ => rfl)) ?_
  refine qq hS (g_movev (v := .bool _) rfl) ?_
  refine qqs rfl rfl hS (g_movev (v := .int .i64 _) rfl) ?_
  refine qqs rfl rfl hS (g_eql rfl rfl) ?_
  refine qq hS (g_and rfl rfl (fun _ => rfl)) ?_
  refine qq hS (g_movev (v := .bool _) rfl) ?_
  refine qqs rfl rfl hS (g_move _) ?_
  refine qqs rfl rfl hS (g_strI Tryz.underlying25 Tryz.underlying5 Tryz.underlying9 h44 rfl) ?_
  refine qqs rfl rfl hS (g_move _) ?_
  refine qqs rfl rfl hS (g_strI Tryz.underlying25 Tryz.underlying5 Tryz.underlying9 h19 rfl) ?_
  refine qqs rfl rfl hS (g_strT rfl rfl) ?_
  refine qq hS (g_and rfl rfl (fun _ => rfl)) ?_
  refine qq hS (g_movev (v := .bool _) rfl) ?_
  refine qqs rfl rfl hS (g_move _) ?_
  refine qqs rfl rfl hS (g_strI Tryz.underlying25 Tryz.underlying5 Tryz.underlying9 h50 rfl) ?_
  refine qqs rfl rfl hS (g_move _) ?_
  refine qqs rfl rfl hS (g_strI Tryz.underlying25 Tryz.underlying5 Tryz.underlying9 h16 rfl) ?_
  refine qqs rfl rfl hS (g_strT rfl rfl) ?_
  refine qq hS (g_and rfl rfl (fun _ => rfl)) ?_
  refine qq hS (g_assignv (v := .bool _) rfl) ?_
  refine ol_nil (thenN ?_)
  refine wpIn_ret ?_
  refine ret1 Tryz.results4 (rv_tmp (v := .bool _) rfl) ?_
  exact ⟨_, rfl, hS.nil⟩

end Go.Proofs.YtaklmbhfmpdinaaGreat

