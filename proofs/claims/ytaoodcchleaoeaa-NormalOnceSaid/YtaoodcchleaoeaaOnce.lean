/- inlaylaw08.NormalOnce: its function answers true. Conditions: arguments are bytes. -/
import Derived.Test.YtaoodcchleaoeaaCuts
namespace Go.Proofs.Ytaoodcchleaoeaa
open Go Go.RowKit Go.Inl
set_option linter.unusedSimpArgs false
set_option linter.unusedVariables false
theorem g_neqbE {P : Program} {n : Nat} {σ : Nat → Value} {S : World → Prop} {ty t t' : TypeId} {x y : Operand} {a b c : Bool} (ht : P.underlying t = some .bool) (hx : ev n σ x = .bool a) (hy : ev n σ y = .bool b) (hc : (a != b) = c) : Gives P (ev n σ) S (.binOp .neq t x y t') ty (.bool c) := by
  subst hc; exact g_neqb ht hx hy
theorem sameOps_eq : ∀ (a b : List OpL), a.length = b.length → sameOps a b 0 = true → a = b := fun a b hl h => by
  unfold sameOps at h
  rw [List.drop_zero, List.all_eq_true] at h
  apply List.ext_getElem hl
  intro i h1 h2
  exact sameOpS_iff.1 (h (a[i], b[i]) (List.mem_iff_getElem?.2 ⟨i, by rw [List.getElem?_zip_eq_some]; exact ⟨List.getElem?_eq_getElem h1, List.getElem?_eq_getElem h2⟩⟩))
/-- Forms are the same exactly if the symbols are. -/
theorem sameForm {b c : Bool} {n m : Int} {l k : List Sym} (h1 : okL n l) (h2 : okL m k) (hb : b = c) (hn : n = m) : samePR (formOf b n l) (formOf c m k) = symsEq l k := by
  rw [Bool.eq_iff_iff, symsEq_iff]
  constructor
  · intro h
    unfold samePR formOf at h
    simp only [Bool.and_eq_true, decide_eq_true_eq] at h
    have := sameOps_eq _ _ h.1.2 h.2
    rw [← (optL_spec h1).1, ← (optL_spec h2).1, this]
  · rintro rfl
    subst hb hn
    exact samePR_refl _
/-- The cells of a patch; a slice of patches. -/
def RPatC (I : Imm) (cs : List Value) (p : PatL) : Prop := ∃ ad m cap, cs = [.bool p.lifted, .int .i64 p.in_, .int .i64 p.out, .slice ad m cap] ∧ ROps I (.slice ad m cap) p.ops
theorem RPatC.mono {I J : Imm} {cs : List Value} {p : PatL} (h : RPatC I cs p) (hs : Inl.Sub I J) : RPatC J cs p := by
  obtain ⟨ad, m, cap, h1, h2⟩ := h
  exact ⟨ad, m, cap, h1, h2.mono hs⟩
def RPats (I : Imm) (v : Value) (l : List PatL) : Prop := RSl I 4 (RPatC I) v l
theorem RPats.mono {I J : Imm} {v : Value} {l : List PatL} (h : RPats I v l) (hs : Inl.Sub I J) : RPats J v l := RSl.mono h hs fun _ _ h => h.mono hs

set_option maxRecDepth 20000 in
set_option maxHeartbeats 4000000 in
theorem once_c (r r' : Int) (ad bd wd : Option Addr) (cap4 cap5 wcap : Nat) (l4 l5 : List Q4) (wl : List Int) (w0 : World) (I0 : Imm) (hI : Sat I0 w0) (hr : 0 ≤ r ∧ r ≤ 255) (h4 : RFl I0 4 q4C (.slice ad l4.length cap4) l4) (hq : ∀ q ∈ l4, q.wf) (h5 : RFl I0 4 q4C (.slice bd l5.length cap5) l5) (hq5 : ∀ q ∈ l5, q.wf) (hw : RBytes I0 (.slice wd wl.length wcap) wl) (hwb : ∀ y ∈ wl, 0 ≤ y ∧ y ≤ 255) :
    Ctr Try.prog 4 [.agg #[.int .u8 r, .slice ad l4.length cap4], .agg #[.int .u8 r', .slice bd l5.length cap5], .slice wd wl.length wcap] w0 (fun v w' => ∃ I', v = .bool true ∧ Ext w0 I0 w' I') := by
  have hr13 : 0 ≤ r % 13 ∧ r % 13 ≤ 65536 := by omega
  have hpw := madeP_wf (size := r % 13) hq hr13
  obtain ⟨hpk, hpo, hpl⟩ := madeP_ok (size := r % 13) hq hr13
  have hw2 := madeP_wf (size := r % 13) hq5 hr13
  obtain ⟨hk2, ho2, hpl2⟩ := madeP_ok (size := r % 13) hq5 hr13
  have hlif : (madeP l4 (r % 13)).lifted = (madeP l5 (r % 13)).lifted := rfl
  have hinn : (madeP l4 (r % 13)).in_ = (madeP l5 (r % 13)).in_ := rfl
  obtain ⟨p, hp⟩ : ∃ p, madeP l4 (r % 13) = p := ⟨_, rfl⟩
  obtain ⟨p2, hp2⟩ : ∃ p2, madeP l5 (r % 13) = p2 := ⟨_, rfl⟩
  rw [hp] at hpw hpk hpo hpl hlif hinn
  rw [hp2] at hw2 hk2 ho2 hlif hinn
  obtain ⟨hk3, hqs⟩ := cutP_ok wl hpk (by omega)
  have hw3 := cutP_wf wl hpw hpk
  have ho3 : (cutP p wl).out ≤ 30 := hpo
  obtain ⟨h1, h2, h3, h4', h5', h6, h7⟩ := checkP_ok hpk
  obtain ⟨k1, k2, k3, k4, k5, k6, k7⟩ := checkP_ok hk2
  have hsw := symsOf_wf1 hpw hpk
  have hsw2 := symsOf_wf1 hw2 hk2
  have hin : 0 ≤ p.in_ ∧ p.in_ ≤ 65536 := ⟨h3, h4'⟩
  have hin2 : 0 ≤ p2.in_ ∧ p2.in_ ≤ 65536 := ⟨k3, k4⟩
  have hlen : (symsOf p.ops).length ≤ 4096 := by omega
  have hlen2 : (symsOf p2.ops).length ≤ 4096 := by omega
  have hokL := (ops_ok _ h1).1
  have hokL2 := (ops_ok _ k1).1
  refine fn (n := 78) Try.func4 rfl rfl rfl ?_
  have hS := St.start hI
  refine wp_seq ?_
  refine reg ?_
  refine qe (d_box (cs := [.int .u8 _, .slice _ _ _]) hS rfl) ?_
  clear hS
  rintro _ w_1 ⟨b3, rfl, hS⟩
  refine qe (d_box (cs := [.int .u8 _, .slice _ _ _]) hS rfl) ?_
  clear hS
  rintro _ w_2 ⟨b4, rfl, hS⟩
  refine qq hS (g_assignv (v := .bool _) rfl) ?_
  refine ol_nil (thenN ?_)
  refine wp_seq ?_
  refine reg ?_
  refine qe (d_call Try.call10 rfl (sanity_c _ _ hS.imm)) ?_
  rintro _ w_3 ⟨I_f, rfl, hE⟩
  replace hS := hS.callE hE
  replace h4 := h4.mono hE.ext
  replace h5 := h5.mono hE.ext
  replace hw := hw.mono hE.ext
  refine qq hS (g_assignv (v := .bool _) rfl) ?_
  refine ol_nil (thenN ?_)
  refine wp_seq ?_
  refine reg ?_
  refine qq hS (g_fieldAddr (o' := 0) Try.underlying24 rfl Try.sizeOf5 rfl rfl rfl) ?_
  refine qq hS (g_ldO1 1 Try.isAgg5 rfl rfl rfl) ?_
  refine qq hS (g_fieldAddr (o' := 0) Try.underlying24 rfl Try.sizeOf5 rfl rfl rfl) ?_
  refine qe (d_store 0 hS Try.sizeOf5 rfl rfl rfl (vs := [.int .u8 _]) rfl rfl rfl (Nat.le_of_ble_eq_true rfl) (cs' := [_, _]) rfl) ?_
  clear hS
  rintro _ w_4 ⟨rfl, hS⟩
  refine ol_nil (thenN ?_)
  refine wp_seq ?_
  refine reg ?_
  refine qq hS (g_ldO 1 (vs := [.int .u8 _, .slice _ _ _]) Try.sizeOf24 Try.isAgg24 rfl rfl rfl rfl) ?_
  refine qe (d_call Try.call11 rfl (made_t r ad cap4 l4 p _ _ hS.imm h4 hq hr hp)) ?_
  rintro _ w_5 ⟨I_f, a22, m22, c22, rfl, hE, h22⟩
  replace hS := hS.callE hE
  replace h4 := h4.mono hE.ext
  replace h5 := h5.mono hE.ext
  replace hw := hw.mono hE.ext
  refine qe (d_alloc (cs := [.bool _, .int .i64 _, .int .i64 _, .slice _ _ _]) hS Try.zeroValue31 rfl) ?_
  clear hS
  rintro _ w_6 ⟨b8, rfl, hS⟩
  refine qe (d_store 0 hS Try.sizeOf31 rfl rfl rfl (vs := [.bool _, .int .i64 _, .int .i64 _, .slice _ _ _]) rfl rfl rfl (Nat.le_of_ble_eq_true rfl) (cs' := [_, _, _, _]) rfl) ?_
  clear hS
  rintro _ w_7 ⟨rfl, hS⟩
  refine ol_nil (thenN ?_)
  refine wp_seq ?_
  refine draw (.cons 0 .held (.cons 2 .held (.cons 3 .pure (.cons 1 .eff (.cons 4 .eff (.cons 5 .eff (.cons 6 .pure .nil))))))) mixed (by kernel_rfl) hS ?_
  intro w_8 hS
  refine sh rfl (g_ldO 1 (vs := [.int .u8 _, .slice _ _ _]) Try.sizeOf24 Try.isAgg24 rfl rfl rfl rfl) ?_
  refine sh rfl (g_ldO 0 (vs := [.bool _, .int .i64 _, .int .i64 _, .slice _ _ _]) Try.sizeOf31 Try.isAgg31 rfl rfl rfl rfl) ?_
  refine sp rfl (g_move _) ?_
  have hS0 := hS
  refine se rfl (d_call Try.call11 rfl (made_t r bd cap5 l5 p2 _ _ hS.imm h5 hq5 hr hp2)) ?_
  rintro _ w_9 ⟨I_f, a24, m24, c24, rfl, hE, h24⟩
  replace hS := hS.call hE
  replace h4 := h4.mono hE.ext
  replace h5 := h5.mono hE.ext
  replace hw := hw.mono hE.ext
  replace h22 := h22.mono hE.ext
  refine ⟨_, _, hS0.le hE.ext (List.Sublist.refl _), hS, ?_⟩
  have hS0 := hS
  refine se rfl (d_call Try.call20 rfl (cut_c p a22 wd m22 c22 wcap wl _ _ hS.imm h22 hpw hpk hw hwb)) ?_
  rintro _ w_10 ⟨I_f, a27, m27, c27, rfl, hE, h27⟩
  replace hS := hS.call hE
  replace h4 := h4.mono hE.ext
  replace h5 := h5.mono hE.ext
  replace hw := hw.mono hE.ext
  replace h22 := h22.mono hE.ext
  replace h24 := h24.mono hE.ext
  refine ⟨_, _, hS0.le hE.ext (List.Sublist.refl _), hS, ?_⟩
  have hS0 := hS
  refine se rfl (d_lit (vs := [.agg #[.bool _, .int .i64 _, .int .i64 _, .slice _ _ _], .agg #[.bool _, .int .i64 _, .int .i64 _, .slice _ _ _]]) (cs := [.bool _, .int .i64 _, .int .i64 _, .slice _ _ _, .bool _, .int .i64 _, .int .i64 _, .slice _ _ _]) hS Try.underlying43 Try.sizeOf31 Try.zeroValue31 rfl rfl rfl rfl (fun v hv => by simp only [List.mem_cons, List.not_mem_nil, or_false] at hv; rcases hv with rfl | rfl <;> rfl) rfl) ?_
  rintro _ w_11 ⟨b28, rfl, hS⟩
  have hF := hS.freeze1
  clear hS
  obtain ⟨I28, hS, hI28, hb28⟩ := hF
  replace h4 := h4.mono hI28
  replace h5 := h5.mono hI28
  replace hw := hw.mono hI28
  replace h22 := h22.mono hI28
  replace h24 := h24.mono hI28
  replace h27 := h27.mono hI28
  have h28 : RPats _ (.slice (some ⟨b28, 0, none⟩) 2 2) [p2, cutP p wl] := RSl.ofAt (css := [[.bool p2.lifted, .int .i64 p2.in_, .int .i64 p2.out, .slice a24 m24 c24], [.bool (cutP p wl).lifted, .int .i64 (cutP p wl).in_, .int .i64 (cutP p wl).out, .slice a27 m27 c27]]) hb28 rfl (by simp) (All2.two ⟨_, _, _, rfl, h24⟩ ⟨_, _, _, rfl, h27⟩) rfl (by show 2 ≤ maxLen; decide)
  refine ⟨_, _, hS0.le hI28 (List.Sublist.refl _), hS, ?_⟩
  refine sp rfl (g_assign _) ?_
  refine sn (thenN ?_)
  refine wp_seq ?_
  refine reg ?_
  refine qq hS (g_ldO 0 (vs := [.bool _, .int .i64 _, .int .i64 _, .slice _ _ _]) Try.sizeOf31 Try.isAgg31 rfl rfl rfl rfl) ?_
  refine qe (d_call Try.call13 rfl (form_ok p (symsOf p.ops) a22 m22 c22 _ _ hS.imm h22 hpw hpk rfl (by omega))) ?_
  rintro _ w_12 ⟨I_f, a31, m31, c31, rfl, hE, h31⟩
  replace hS := hS.callE hE
  replace h4 := h4.mono hE.ext
  replace h5 := h5.mono hE.ext
  replace hw := hw.mono hE.ext
  replace h22 := h22.mono hE.ext
  replace h24 := h24.mono hE.ext
  replace h27 := h27.mono hE.ext
  replace h28 := h28.mono hE.ext
  refine qq hS (g_move _) ?_
  refine qq hS (g_extract rfl rfl) ?_
  refine qq hS (g_extract (v := .int .i64 _) rfl rfl) ?_
  refine qe (d_alloc (cs := [.bool _, .int .i64 _, .int .i64 _, .slice _ _ _]) hS Try.zeroValue31 rfl) ?_
  clear hS
  rintro _ w_13 ⟨b10, rfl, hS⟩
  refine qe (d_store 0 hS Try.sizeOf31 rfl rfl rfl (vs := [.bool _, .int .i64 _, .int .i64 _, .slice _ _ _]) rfl rfl rfl (Nat.le_of_ble_eq_true rfl) (cs' := [_, _, _, _]) rfl) ?_
  clear hS
  rintro _ w_14 ⟨rfl, hS⟩
  refine qq hS (g_assignv (v := .int .i64 _) rfl) ?_
  refine ol_nil (thenN ?_)
  refine wp_seq ?_
  refine reg ?_
  refine qq hS (g_ldO 0 (vs := [.bool _, .int .i64 _, .int .i64 _, .slice _ _ _]) Try.sizeOf31 Try.isAgg31 rfl rfl rfl rfl) ?_
  refine qe (d_call Try.call13 rfl (form_e (formOf p.lifted p.in_ (symsOf p.ops)) a31 m31 c31 (formOf p.lifted p.in_ (symsOf p.ops)) 0 _ _ hS.imm h31 (formOf_wf hin hlen hokL hsw) (formP_form hin hlen hokL))) ?_
  rintro _ w_15 ⟨I36, a36, m36, c36, rfl, hE, h36⟩
  replace hS := hS.callE hE
  replace h4 := h4.mono hE.ext
  replace h5 := h5.mono hE.ext
  replace hw := hw.mono hE.ext
  replace h22 := h22.mono hE.ext
  replace h24 := h24.mono hE.ext
  replace h27 := h27.mono hE.ext
  replace h28 := h28.mono hE.ext
  replace h31 := h31.mono hE.ext
  refine qq hS (g_move _) ?_
  refine qq hS (g_extract rfl rfl) ?_
  refine qq hS (g_extract (v := .int .i64 _) rfl rfl) ?_
  refine qe (d_alloc (cs := [.bool _, .int .i64 _, .int .i64 _, .slice _ _ _]) hS Try.zeroValue31 rfl) ?_
  clear hS
  rintro _ w_16 ⟨b12, rfl, hS⟩
  refine qe (d_store 0 hS Try.sizeOf31 rfl rfl rfl (vs := [.bool _, .int .i64 _, .int .i64 _, .slice _ _ _]) rfl rfl rfl (Nat.le_of_ble_eq_true rfl) (cs' := [_, _, _, _]) rfl) ?_
  clear hS
  rintro _ w_17 ⟨rfl, hS⟩
  refine qq hS (g_assignv (v := .int .i64 _) rfl) ?_
  refine ol_nil (thenN ?_)
  refine wp_seq ?_
  refine wp_seq ?_
  refine reg ?_
  refine qq hS (g_movev (v := .int .i64 _) rfl) ?_
  refine qq hS (g_neq rfl rfl) ?_
  refine qq hS (g_movev (v := .bool _) rfl) ?_
  refine qqs rfl rfl hS (g_movev (v := .int .i64 _) rfl) ?_
  refine qqs rfl rfl hS (g_neq rfl rfl) ?_
  refine qq hS (g_or rfl rfl (fun _ => rfl)) ?_
  refine qq hS (g_movev (v := .bool _) rfl) ?_
  refine qqs rfl rfl hS (g_ldO 1 (vs := [.bool _, .int .i64 _, .int .i64 _, .slice _ _ _]) Try.sizeOf31 Try.isAgg31 rfl rfl rfl rfl) ?_
  refine qqs rfl rfl hS (g_ldO 0 (vs := [.bool _, .int .i64 _, .int .i64 _, .slice _ _ _]) Try.sizeOf31 Try.isAgg31 rfl rfl rfl rfl) ?_
  refine qes rfl rfl (d_call Try.call17 rfl (sameF p.lifted p.in_ (symsOf p.ops) a31 a36 m31 c31 m36 c36 _ _ hS.imm h31 h36 (formOf_wf hin hlen hokL hsw))) ?_
  rintro _ w_18 ⟨rfl, hE⟩
  replace hS := hS.callE hE
  refine qqs rfl rfl hS (g_not rfl) ?_
  refine qq hS (g_or rfl rfl (fun _ => rfl)) ?_
  refine ol_nil (thenN ?_)
  refine cond_f (rfl) ?_
  refine wp_skip ?_
  refine thenN ?_
  refine wp_seq ?_
  refine wp_seq ?_
  refine reg ?_
  refine qq hS (g_assignv (v := .int .i64 _) rfl) ?_
  refine ol_nil (thenN ?_)
  refine wp_block ?_
  refine loop (fun (i : Nat) σ w => okS σ [(7, .bool true), (8, .pointer (some ⟨b8, 0, none⟩)), (9, .slice (some ⟨b28, 0, none⟩) 2 2), (10, .pointer (some ⟨b10, 0, none⟩)), (14, .int .i64 i)] ∧ ∃ I, St [] w0 I0 I w [.cel b10 31 [.bool p.lifted, .int .i64 p.in_, .int .i64 (symsOf p.ops).length, .slice a31 m31 c31], .cel b8 31 [.bool p.lifted, .int .i64 p.in_, .int .i64 p.out, .slice a22 m22 c22]] ∧ i ≤ 2 ∧ Inl.Sub I36 I) (fun i => 2 - i) (0) ?_ ?_
  ·
    exact ⟨⟨rfl, rfl, rfl, rfl, rfl, trivial⟩, _, hS.sel [false, true, true, false, false], by omega, Sub.refl _⟩
  ·
    rintro i σ w_l ⟨hs, I, hS, hi0, hsub⟩
    rw [← upds_self hs]; clear hs
    refine wp_seq ?_
    refine wp_seq ?_
    refine reg ?_
    refine qq hS (g_movev (v := .int .i64 _) rfl) ?_
    refine qq hS (g_lss rfl rfl) ?_
    refine ol_nil (thenN ?_)
    refine cond_s rfl ?_ ?_
    ·
      intro hc52
      try simp only [Bool.and_eq_true, Bool.or_eq_true, Bool.not_eq_true', Bool.and_eq_false_imp, Bool.or_eq_false_iff, Bool.not_eq_false', decide_eq_true_eq, decide_eq_false_iff_not] at hc52
      obtain ⟨q, hqi⟩ : ∃ q, [p2, cutP p wl][i]? = some q := ⟨_, List.getElem?_eq_getElem (by simp; omega)⟩
      have hqm := List.mem_of_getElem? hqi
      have hqq : q.wf ∧ (checkP q).2 = 0 ∧ q.out ≤ 30 ∧ q.lifted = p.lifted ∧ q.in_ = p.in_ := by
        simp only [List.mem_cons, List.not_mem_nil, or_false] at hqm
        rcases hqm with rfl | rfl
        · exact ⟨hw2, hk2, ho2, hlif.symm, hinn.symm⟩
        · exact ⟨hw3, hk3, ho3, rfl, rfl⟩
      obtain ⟨qw, qk, qo, qlif, qin⟩ := hqq
      obtain ⟨cs, hcl, hqA, hro⟩ := RSl.at (h28.mono hsub) hqi
      obtain ⟨aq, mq, cq, rfl, hqo⟩ := hro
      replace h22 := h22.mono hsub
      replace h31 := h31.mono hsub
      have hokq := (ops_ok _ (checkP_opsOk qk)).1
      have hwq := symsOf_wf1 qw qk
      have hlq : (symsOf q.ops).length ≤ 4096 := by have := (checkP_ok qk).2.1; omega
      have hinq : 0 ≤ q.in_ ∧ q.in_ ≤ 65536 := ⟨(checkP_ok qk).2.2.1, (checkP_ok qk).2.2.2.1⟩
      refine wp_skip ?_
      refine thenN ?_
      refine wp_seq ?_
      refine wp_block ?_
      refine wp_seq ?_
      refine reg ?_
      refine qq hS (g_move _) ?_
      refine qq hS (g_movev (v := .int .i64 _) rfl) ?_
      refine qq hS (g_ixI Try.underlying43 Try.sizeOf31 h28 rfl rfl (by omega) (by simp; omega)) ?_
      refine qq hS (g_ldE (us := [.bool _, .int .i64 _, .int .i64 _, .slice _ _ _]) Try.sizeOf31 Try.isAgg31 hqA rfl rfl rfl) ?_
      refine qe (d_call Try.call13 rfl (form_ok q (symsOf q.ops) aq mq cq _ _ hS.imm hqo qw qk rfl (by omega))) ?_
      rintro _ w_19 ⟨I60, a60, m60, c60, rfl, hE, h60⟩
      replace hS := hS.callE hE
      replace h22 := h22.mono hE.ext
      replace h31 := h31.mono hE.ext
      replace hqA := hqA.mono hE.ext
      replace hqo := hqo.mono hE.ext
      have hE60 := hE.ext
      refine qq hS (g_move _) ?_
      refine qq hS (g_extract rfl rfl) ?_
      refine qq hS (g_extract (v := .int .i64 _) rfl rfl) ?_
      refine qe (d_alloc (cs := [.bool _, .int .i64 _, .int .i64 _, .slice _ _ _]) hS Try.zeroValue31 rfl) ?_
      clear hS
      rintro _ w_20 ⟨b15, rfl, hS⟩
      refine qe (d_store 0 hS Try.sizeOf31 rfl rfl rfl (vs := [.bool _, .int .i64 _, .int .i64 _, .slice _ _ _]) rfl rfl rfl (Nat.le_of_ble_eq_true rfl) (cs' := [_, _, _, _]) rfl) ?_
      clear hS
      rintro _ w_21 ⟨rfl, hS⟩
      refine qq hS (g_assignv (v := .int .i64 _) rfl) ?_
      refine ol_nil (thenN ?_)
      refine wp_seq ?_
      refine draw (.cons 0 .pure (.cons 1 .pure (.cons 2 .pure (.cons 3 .held (.cons 4 .held (.cons 6 .held (.cons 7 .pure (.cons 8 .pure (.cons 9 .pure (.cons 10 .held (.cons 5 .eff (.cons 11 .eff (.cons 12 .pure (.cons 13 .pure .nil)))))))))))))) mixed (by kernel_rfl) hS ?_
      intro w_22 hS
      refine sp rfl (g_movev (v := .int .i64 _) rfl) ?_
      refine sp rfl (g_neq rfl rfl) ?_
      refine sp rfl (g_movev (v := .bool _) rfl) ?_
      refine sht rfl rfl rfl (g_ldO 1 (vs := [.bool _, .int .i64 _, .int .i64 _, .slice _ _ _]) Try.sizeOf31 Try.isAgg31 rfl rfl rfl rfl) ?_
      refine sht rfl rfl rfl (g_ldO 0 (vs := [.bool _, .int .i64 _, .int .i64 _, .slice _ _ _]) Try.sizeOf31 Try.isAgg31 rfl rfl rfl rfl) ?_
      refine sht rfl rfl rfl (g_ldO 2 (vs := [.bool _, .int .i64 _, .int .i64 _, .slice _ _ _]) Try.sizeOf31 Try.isAgg31 rfl rfl rfl rfl) ?_
      refine spt rfl rfl rfl (g_move _) ?_
      refine spt rfl rfl rfl (g_movev (v := .int .i64 _) rfl) ?_
      refine spt rfl rfl rfl (g_ixI Try.underlying43 Try.sizeOf31 h28 rfl rfl (by omega) (by simp; omega)) ?_
      refine sht rfl rfl rfl (g_ldE (us := [.bool _, .int .i64 _, .int .i64 _, .slice _ _ _]) Try.sizeOf31 Try.isAgg31 hqA rfl rfl rfl) ?_
      have hS0 := hS
      refine Inl.set rfl rfl rfl (d_call Try.call17 rfl (sameR_e (formOf p.lifted p.in_ (symsOf p.ops)) (formOf q.lifted q.in_ (symsOf q.ops)) a31 a60 m31 c31 m60 c60 (symsEq (symsOf p.ops) (symsOf q.ops)) _ _ hS.imm h31 (formOf_wf hin hlen hokL hsw) h60 (formOf_wf hinq hlq hokq hwq) (sameForm hokL hokq qlif.symm qin.symm))) ?_
      rintro _ w_23 ⟨rfl, hE⟩
      replace hS := hS.call hE
      refine ⟨_, _, hS0.le hE.ext (List.Sublist.refl _), hS, ?_⟩
      have hS0 := hS
      refine Inl.set rfl rfl rfl (d_call Try.call18 rfl (same_e p q a22 aq m22 c22 mq cq (symsEq (symsOf p.ops) (symsOf q.ops)) _ _ hS.imm h22 hpw hqo qw (by rw [sameP_iff hpk qk, qlif, qin]; simp))) ?_
      rintro _ w_24 ⟨I74, rfl, hE⟩
      replace hS := hS.call hE
      replace h22 := h22.mono hE.ext
      replace h31 := h31.mono hE.ext
      replace hqA := hqA.mono hE.ext
      replace hqo := hqo.mono hE.ext
      replace h60 := h60.mono hE.ext
      refine ⟨_, _, hS0.le hE.ext (List.Sublist.refl _), hS, ?_⟩
      have hE74 := hE60.trans hE.ext
      refine spt rfl rfl rfl (g_neqbE (c := false) Try.underlying4 rfl rfl (bne_self_eq_false _)) ?_
      refine sp rfl (g_or rfl rfl (fun _ => rfl)) ?_
      refine sn (thenN ?_)
      refine cond_f (rfl) ?_
      refine wp_skip ?_
      refine blkN (thenN ?_)
      refine reg ?_
      refine qq hS (g_movev (v := .int .i64 _) rfl) ?_
      refine qq hS (g_add rfl rfl (by omega) (by omega)) ?_
      refine qq hS (g_assignv (v := .int .i64 _) rfl) ?_
      refine ol_nil (thenN ?_)
      exact ⟨i + 1, _, rfl, ⟨⟨rfl, rfl, rfl, rfl, rfl, trivial⟩, _, hS.sel [false, true, true], by omega, hsub.trans hE74⟩, by omega⟩
    ·
      intro hc52
      try simp only [Bool.and_eq_true, Bool.or_eq_true, Bool.not_eq_true', Bool.and_eq_false_imp, Bool.or_eq_false_iff, Bool.not_eq_false', decide_eq_true_eq, decide_eq_false_iff_not] at hc52
      refine wp_exit ?_
      refine thenE (thenE (blkE ?_))
      refine thenN ?_
      refine wp_seq ?_
      refine reg ?_
      refine qq hS (g_movev (v := .bool _) rfl) ?_
      refine qq hS (g_assignv (v := .bool _) rfl) ?_
      refine ol_nil (thenN ?_)
      refine wp_ret ?_
      refine ret1 Try.results4 (rv_tmp (v := .bool _) rfl) ?_
      exact ⟨_, rfl, hS.nil⟩

end Go.Proofs.Ytaoodcchleaoeaa
