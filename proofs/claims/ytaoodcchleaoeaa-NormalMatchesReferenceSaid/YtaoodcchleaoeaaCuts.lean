/- inlaylaw08.NormalCuts: its function answers true. Conditions: arguments are bytes. -/
import Derived.Test.YtaoodcchleaoeaaCutB
namespace Go.Proofs.Ytaoodcchleaoeaa
open Go Go.RowKit Go.Inl
set_option linter.unusedSimpArgs false
set_option linter.unusedVariables false
theorem g_leqE {P : Program} {n : Nat} {σ : Nat → Value} {S : World → Prop} {ty t t' : TypeId} {x y : Operand} {k : IntKind} {a b : Int} {c : Bool} (hx : ev n σ x = .int k a) (hy : ev n σ y = .int k b) (hc : decide (a ≤ b) = c) : Gives P (ev n σ) S (.binOp .leq t x y t') ty (.bool c) := by
  subst hc; exact g_leq hx hy

theorem made_t (r : Int) (ad : Option Addr) (cap : Nat) (l : List Q4) (p : PatL) (w0 : World) (I0 : Imm) (hI : Sat I0 w0) (hl : RFl I0 4 q4C (.slice ad l.length cap) l) (hq : ∀ q ∈ l, q.wf) (hr : 0 ≤ r ∧ r ≤ 255) (hp : madeP l (r % 13) = p) :
    Ctr Try.prog 11 [.agg #[.int .u8 r, .slice ad l.length cap]] w0 (fun v w' => ∃ I' a m c, v = .agg #[.bool p.lifted, .int .i64 p.in_, .int .i64 p.out, .slice a m c] ∧ Ext w0 I0 w' I' ∧ ROps I' (.slice a m c) p.ops) := by
  subst hp; exact made_c r ad cap l w0 I0 hI hl hq hr.1 hr.2
theorem sameF (b : Bool) (n : Int) (l : List Sym) (a d : Option Addr) (m c e f : Nat) (w0 : World) (I0 : Imm) (hI : Sat I0 w0) (h1 : ROps I0 (.slice a m c) (optL l)) (h2 : ROps I0 (.slice d e f) (optL l)) (hw : (formOf b n l).wf) :
    Ctr Try.prog 17 [.agg #[.bool b, .int .i64 n, .int .i64 l.length, .slice a m c], .agg #[.bool b, .int .i64 n, .int .i64 l.length, .slice d e f]] w0 (fun v w' => v = .bool true ∧ Ext w0 I0 w' I0) :=
  sameR_e (formOf b n l) (formOf b n l) a d m c e f true w0 I0 hI h1 hw h2 hw (samePR_refl _)

set_option maxRecDepth 20000 in
set_option maxHeartbeats 2000000 in
theorem cuts_c (r : Int) (ad wd : Option Addr) (cap wcap : Nat) (l4 : List Q4) (wl : List Int) (w0 : World) (I0 : Imm) (hI : Sat I0 w0) (hr : 0 ≤ r ∧ r ≤ 255) (h4 : RFl I0 4 q4C (.slice ad l4.length cap) l4) (hq : ∀ q ∈ l4, q.wf) (hw : RBytes I0 (.slice wd wl.length wcap) wl) (hwb : ∀ y ∈ wl, 0 ≤ y ∧ y ≤ 255) :
    Ctr Try.prog 8 [.agg #[.int .u8 r, .slice ad l4.length cap], .slice wd wl.length wcap] w0 (fun v w' => ∃ I', v = .bool true ∧ Ext w0 I0 w' I') := by
  have hr13 : 0 ≤ r % 13 ∧ r % 13 ≤ 65536 := by omega
  have hpw := madeP_wf (size := r % 13) hq hr13
  obtain ⟨hpk, hpo, hpl⟩ := madeP_ok (size := r % 13) hq hr13
  obtain ⟨p, hp⟩ : ∃ p, madeP l4 (r % 13) = p := ⟨_, rfl⟩
  rw [hp] at hpw hpk hpo hpl
  obtain ⟨hqk, hqs⟩ := cutP_ok wl hpk (by omega)
  have hqw := cutP_wf wl hpw hpk
  obtain ⟨h1, h2, h3, h4', h5, h6, h7⟩ := checkP_ok hpk
  have hsw := symsOf_wf1 hpw hpk
  have hin : 0 ≤ p.in_ ∧ p.in_ ≤ 65536 := ⟨h3, h4'⟩
  have hlen : (symsOf p.ops).length ≤ 4096 := by omega
  have hokL := (ops_ok _ h1).1
  have hcost : decide (sumC (optL (symsOf p.ops)) ≤ sumC (cutP p wl).ops) = true := by
    rw [decide_eq_true_eq, (optL_spec hokL).2.2.1]
    have := best_le (checkP_opsOk hqk)
    rwa [hqs] at this
  refine fn (n := 58) Try.func8 rfl rfl rfl ?_
  have hS := St.start hI
  refine wp_seq ?_
  refine reg ?_
  refine qe (d_box (cs := [.int .u8 _, .slice _ _ _]) hS rfl) ?_
  clear hS
  rintro _ w_1 ⟨b2, rfl, hS⟩
  refine qq hS (g_assignv (v := .bool _) rfl) ?_
  refine ol_nil (thenN ?_)
  refine wp_seq ?_
  refine reg ?_
  refine qe (d_call Try.call10 rfl (sanity_c _ _ hS.imm)) ?_
  rintro _ w_2 ⟨I_f, rfl, hE⟩
  replace hS := hS.callE hE
  replace h4 := h4.mono hE.ext
  replace hw := hw.mono hE.ext
  refine qq hS (g_assignv (v := .bool _) rfl) ?_
  refine ol_nil (thenN ?_)
  refine wp_seq ?_
  refine reg ?_
  refine qq hS (g_ldO 0 (vs := [.int .u8 _, .slice _ _ _]) Try.sizeOf24 Try.isAgg24 rfl rfl rfl rfl) ?_
  refine qe (d_call Try.call11 rfl (made_t r ad cap l4 p _ _ hS.imm h4 hq hr hp)) ?_
  rintro _ w_3 ⟨I_f, a14, m14, c14, rfl, hE, h14⟩
  replace hS := hS.callE hE
  replace h4 := h4.mono hE.ext
  replace hw := hw.mono hE.ext
  refine qe (d_alloc (cs := [.bool _, .int .i64 _, .int .i64 _, .slice _ _ _]) hS Try.zeroValue31 rfl) ?_
  clear hS
  rintro _ w_4 ⟨b6, rfl, hS⟩
  refine qe (d_store 0 hS Try.sizeOf31 rfl rfl rfl (vs := [.bool _, .int .i64 _, .int .i64 _, .slice _ _ _]) rfl rfl rfl (Nat.le_of_ble_eq_true rfl) (cs' := [_, _, _, _]) rfl) ?_
  clear hS
  rintro _ w_5 ⟨rfl, hS⟩
  refine ol_nil (thenN ?_)
  refine wp_seq ?_
  refine reg ?_
  refine qq hS (g_ldO 0 (vs := [.bool _, .int .i64 _, .int .i64 _, .slice _ _ _]) Try.sizeOf31 Try.isAgg31 rfl rfl rfl rfl) ?_
  refine qq hS (g_move _) ?_
  refine qe (d_call Try.call20 rfl (cut_c p a14 wd m14 c14 wcap wl _ _ hS.imm h14 hpw hpk hw hwb)) ?_
  rintro _ w_6 ⟨I_f, a17, m17, c17, rfl, hE, h17⟩
  replace hS := hS.callE hE
  replace h4 := h4.mono hE.ext
  replace hw := hw.mono hE.ext
  replace h14 := h14.mono hE.ext
  refine qe (d_alloc (cs := [.bool _, .int .i64 _, .int .i64 _, .slice _ _ _]) hS Try.zeroValue31 rfl) ?_
  clear hS
  rintro _ w_7 ⟨b7, rfl, hS⟩
  refine qe (d_store 0 hS Try.sizeOf31 rfl rfl rfl (vs := [.bool _, .int .i64 _, .int .i64 _, .slice _ _ _]) rfl rfl rfl (Nat.le_of_ble_eq_true rfl) (cs' := [_, _, _, _]) rfl) ?_
  clear hS
  rintro _ w_8 ⟨rfl, hS⟩
  refine ol_nil (thenN ?_)
  refine wp_seq ?_
  refine reg ?_
  refine qq hS (g_ldO 1 (vs := [.bool _, .int .i64 _, .int .i64 _, .slice _ _ _]) Try.sizeOf31 Try.isAgg31 rfl rfl rfl rfl) ?_
  refine qe (d_call Try.call13 rfl (form_ok p (symsOf p.ops) a14 m14 c14 _ _ hS.imm h14 hpw hpk rfl (by omega))) ?_
  rintro _ w_9 ⟨I_f, a20, m20, c20, rfl, hE, h20⟩
  replace hS := hS.callE hE
  replace h4 := h4.mono hE.ext
  replace hw := hw.mono hE.ext
  replace h14 := h14.mono hE.ext
  replace h17 := h17.mono hE.ext
  refine qq hS (g_move _) ?_
  refine qq hS (g_extract rfl rfl) ?_
  refine qq hS (g_extract (v := .int .i64 _) rfl rfl) ?_
  refine qe (d_alloc (cs := [.bool _, .int .i64 _, .int .i64 _, .slice _ _ _]) hS Try.zeroValue31 rfl) ?_
  clear hS
  rintro _ w_10 ⟨b8, rfl, hS⟩
  refine qe (d_store 0 hS Try.sizeOf31 rfl rfl rfl (vs := [.bool _, .int .i64 _, .int .i64 _, .slice _ _ _]) rfl rfl rfl (Nat.le_of_ble_eq_true rfl) (cs' := [_, _, _, _]) rfl) ?_
  clear hS
  rintro _ w_11 ⟨rfl, hS⟩
  refine qq hS (g_assignv (v := .int .i64 _) rfl) ?_
  refine ol_nil (thenN ?_)
  refine wp_seq ?_
  refine reg ?_
  refine qq hS (g_ldO 1 (vs := [.bool _, .int .i64 _, .int .i64 _, .slice _ _ _]) Try.sizeOf31 Try.isAgg31 rfl rfl rfl rfl) ?_
  refine qe (d_call Try.call13 rfl (form_ok (cutP p wl) (symsOf p.ops) a17 m17 c17 _ _ hS.imm h17 hqw hqk hqs.symm (by show p.out ≤ _; omega))) ?_
  rintro _ w_12 ⟨I_f, a25, m25, c25, rfl, hE, h25⟩
  replace hS := hS.callE hE
  replace h4 := h4.mono hE.ext
  replace hw := hw.mono hE.ext
  replace h14 := h14.mono hE.ext
  replace h17 := h17.mono hE.ext
  replace h20 := h20.mono hE.ext
  refine qq hS (g_move _) ?_
  refine qq hS (g_extract rfl rfl) ?_
  refine qq hS (g_extract (v := .int .i64 _) rfl rfl) ?_
  refine qe (d_alloc (cs := [.bool _, .int .i64 _, .int .i64 _, .slice _ _ _]) hS Try.zeroValue31 rfl) ?_
  clear hS
  rintro _ w_13 ⟨b10, rfl, hS⟩
  refine qe (d_store 0 hS Try.sizeOf31 rfl rfl rfl (vs := [.bool _, .int .i64 _, .int .i64 _, .slice _ _ _]) rfl rfl rfl (Nat.le_of_ble_eq_true rfl) (cs' := [_, _, _, _]) rfl) ?_
  clear hS
  rintro _ w_14 ⟨rfl, hS⟩
  refine qq hS (g_assignv (v := .int .i64 _) rfl) ?_
  refine ol_nil (thenN ?_)
  refine wp_seq ?_
  refine draw (.cons 0 .held (.cons 1 .eff (.cons 2 .pure (.cons 3 .held (.cons 4 .held (.cons 5 .eff (.cons 6 .pure (.cons 7 .pure (.cons 8 .pure (.cons 9 .pure (.cons 10 .pure (.cons 11 .pure (.cons 12 .pure (.cons 13 .pure (.cons 14 .pure (.cons 15 .pure (.cons 16 .held (.cons 17 .held (.cons 18 .eff (.cons 19 .pure (.cons 20 .pure (.cons 21 .held (.cons 23 .held (.cons 22 .eff (.cons 24 .eff (.cons 25 .pure (.cons 26 .pure (.cons 27 .pure (.cons 28 .pure (.cons 29 .pure (.cons 30 .pure .nil))))))))))))))))))))))))))))))) mixed (by kernel_rfl) hS ?_
  intro w_15 hS
  refine sh rfl (g_ldO 2 (vs := [.bool _, .int .i64 _, .int .i64 _, .slice _ _ _]) Try.sizeOf31 Try.isAgg31 rfl rfl rfl rfl) ?_
  have hS0 := hS
  refine se rfl (d_call Try.call21 rfl (right_ok (cutP p wl) a17 m17 c17 _ _ hS.imm h17 hqw hqk)) ?_
  rintro _ w_16 ⟨rfl, hE⟩
  replace hS := hS.call hE
  refine ⟨_, _, hS0.le hE.ext (List.Sublist.refl _), hS, ?_⟩
  refine sp rfl (g_movev (v := .bool _) rfl) ?_
  refine sht rfl rfl rfl (g_ldO 3 (vs := [.bool _, .int .i64 _, .int .i64 _, .slice _ _ _]) Try.sizeOf31 Try.isAgg31 rfl rfl rfl rfl) ?_
  refine sht rfl rfl rfl (g_ldO 2 (vs := [.bool _, .int .i64 _, .int .i64 _, .slice _ _ _]) Try.sizeOf31 Try.isAgg31 rfl rfl rfl rfl) ?_
  have hS0 := hS
  refine Inl.set rfl rfl rfl (d_call Try.call18 rfl (same_e p (cutP p wl) a14 a17 m14 c14 m17 c17 true _ _ hS.imm h14 hpw h17 hqw (by rw [sameP_iff hpk hqk, hqs, symsEq_iff.2 rfl]; simp [cutP]))) ?_
  rintro _ w_17 ⟨I_f, rfl, hE⟩
  replace hS := hS.call hE
  replace h4 := h4.mono hE.ext
  replace hw := hw.mono hE.ext
  replace h14 := h14.mono hE.ext
  replace h17 := h17.mono hE.ext
  replace h20 := h20.mono hE.ext
  replace h25 := h25.mono hE.ext
  refine ⟨_, _, hS0.le hE.ext (List.Sublist.refl _), hS, ?_⟩
  refine sp rfl (g_and rfl rfl (fun _ => rfl)) ?_
  refine sp rfl (g_movev (v := .bool _) rfl) ?_
  refine spt rfl rfl rfl (g_movev (v := .int .i64 _) rfl) ?_
  refine spt rfl rfl rfl (g_eql rfl rfl) ?_
  refine sp rfl (g_and rfl rfl (fun _ => rfl)) ?_
  refine sp rfl (g_movev (v := .bool _) rfl) ?_
  refine spt rfl rfl rfl (g_movev (v := .int .i64 _) rfl) ?_
  refine spt rfl rfl rfl (g_eql rfl rfl) ?_
  refine sp rfl (g_and rfl rfl (fun _ => rfl)) ?_
  refine sp rfl (g_movev (v := .bool _) rfl) ?_
  refine sht rfl rfl rfl (g_ldO 1 (vs := [.bool _, .int .i64 _, .int .i64 _, .slice _ _ _]) Try.sizeOf31 Try.isAgg31 rfl rfl rfl rfl) ?_
  refine sht rfl rfl rfl (g_ldO 0 (vs := [.bool _, .int .i64 _, .int .i64 _, .slice _ _ _]) Try.sizeOf31 Try.isAgg31 rfl rfl rfl rfl) ?_
  have hS0 := hS
  refine Inl.set rfl rfl rfl (d_call Try.call17 rfl (sameF p.lifted p.in_ (symsOf p.ops) a20 a25 m20 c20 m25 c25 _ _ hS.imm h20 h25 (formOf_wf hin hlen hokL hsw))) ?_
  rintro _ w_18 ⟨rfl, hE⟩
  replace hS := hS.call hE
  refine ⟨_, _, hS0.le hE.ext (List.Sublist.refl _), hS, ?_⟩
  refine sp rfl (g_and rfl rfl (fun _ => rfl)) ?_
  refine sp rfl (g_movev (v := .bool _) rfl) ?_
  refine sht rfl rfl rfl (g_ldO 0 (vs := [.bool _, .int .i64 _, .int .i64 _, .slice _ _ _]) Try.sizeOf31 Try.isAgg31 rfl rfl rfl rfl) ?_
  refine sht rfl rfl rfl (g_ldO 2 (vs := [.bool _, .int .i64 _, .int .i64 _, .slice _ _ _]) Try.sizeOf31 Try.isAgg31 rfl rfl rfl rfl) ?_
  have hS0 := hS
  refine Inl.set rfl rfl rfl (d_call Try.call25 rfl (patchCost_ok (formOf p.lifted p.in_ (symsOf p.ops)) a25 m25 c25 _ _ hS.imm h25 (formOf_wf hin hlen hokL hsw) (formOf_check hin hlen hokL))) ?_
  rintro _ w_19 ⟨rfl, hE⟩
  replace hS := hS.call hE
  refine ⟨_, _, hS0.le hE.ext (List.Sublist.refl _), hS, ?_⟩
  have hS0 := hS
  refine Inl.set rfl rfl rfl (d_call Try.call25 rfl (patchCost_ok (cutP p wl) a17 m17 c17 _ _ hS.imm h17 hqw hqk)) ?_
  rintro _ w_20 ⟨rfl, hE⟩
  replace hS := hS.call hE
  refine ⟨_, _, hS0.le hE.ext (List.Sublist.refl _), hS, ?_⟩
  refine spt rfl rfl rfl (g_leqE rfl rfl hcost) ?_
  refine sp rfl (g_and rfl rfl (fun _ => rfl)) ?_
  refine sp rfl (g_movev (v := .bool _) rfl) ?_
  refine spt rfl rfl rfl (g_movev (v := .bool _) rfl) ?_
  refine sp rfl (g_and rfl rfl (fun _ => rfl)) ?_
  refine sp rfl (g_assignv (v := .bool _) rfl) ?_
  refine sn (thenN ?_)
  refine wp_ret ?_
  refine ret1 Try.results8 (rv_tmp (v := .bool _) rfl) ?_
  exact ⟨_, rfl, hS.nil⟩

end Go.Proofs.Ytaoodcchleaoeaa
