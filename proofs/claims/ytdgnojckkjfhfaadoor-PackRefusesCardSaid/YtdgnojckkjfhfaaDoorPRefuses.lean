/- inlaylaw14.PackRefuses: its function answers true. Conditions: arguments are of their kinds. -/
import Derived.Test.YtdgnojckkjfhfaaDoorMk14
namespace Go.Proofs.YtdgnojckkjfhfaaDoor
open Go Go.RowKit Go.Inl
set_option linter.unusedSimpArgs false
set_option linter.unusedVariables false
theorem u16bd (a : Int) : 0 ≤ IntKind.u16.wrap a ∧ IntKind.u16.wrap a ≤ 65535 := by rw [IntKind.wrap_u16]; omega
theorem u32bd (a : Int) : 0 ≤ IntKind.u32.wrap a := by rw [IntKind.wrap_u32]; omega
/-- What is spoilt. -/
structure Spo (q : PatL) : Prop where
  wf : q.wf
  bad : (checkP q).2 ≠ 0
theorem spo_out {p : PatL} {n : Int} (hp : p.wf) (hk : (checkP p).2 = 0) (h : 0 < n ∧ n ≤ 65536) : Spo ⟨p.lifted, p.in_, p.out + n, p.ops⟩ := by
  obtain ⟨k1, k2, k3, k4, k5, k6, k7⟩ := checkP_ok hk
  refine ⟨⟨hp.in_, ⟨by dsimp only; omega, by dsimp only; omega⟩, hp.ops, hp.len⟩, fun h2 => ?_⟩
  have h3 := (checkP_ok h2).2.1
  dsimp only at h3
  omega
theorem spo_in {p : PatL} {n : Int} (hp : p.wf) (h : n < 0 ∧ -1000000 ≤ n ∨ 65536 < n ∧ n ≤ 1000000) : Spo ⟨p.lifted, n, p.out, p.ops⟩ := by
  refine ⟨⟨⟨by dsimp only; omega, by dsimp only; omega⟩, hp.out, hp.ops, hp.len⟩, fun h2 => ?_⟩
  obtain ⟨_, _, h3, h4, _⟩ := checkP_ok h2
  dsimp only at h3 h4
  omega
theorem spo_op {p : PatL} {n : Int} (hp : p.wf) (hk : (checkP p).2 = 0) (h : 5 ≤ n ∧ n ≤ 100000) : Spo ⟨p.lifted, p.in_, p.out + 1, p.ops ++ [⟨n, 0, 1, 0, []⟩]⟩ := by
  obtain ⟨k1, k2, k3, k4, k5, k6, k7⟩ := checkP_ok hk
  refine ⟨⟨hp.in_, ⟨by dsimp only; omega, by dsimp only; omega⟩, fun x hx => ?_, by simp; omega⟩, fun h2 => ?_⟩
  · rcases List.mem_append.1 hx with hx | hx
    · exact hp.ops x hx
    · simp only [List.mem_singleton] at hx
      subst hx
      exact ⟨⟨by dsimp only; omega, by dsimp only; omega⟩, ⟨by dsimp only; omega, by dsimp only; omega⟩, ⟨by dsimp only; omega, by dsimp only; omega⟩, ⟨by dsimp only; omega, by dsimp only; omega⟩, fun y hy => by cases hy⟩
  · have h3 := ((checkP_ok h2).1 ⟨n, 0, 1, 0, []⟩ (List.mem_append_right _ (List.mem_singleton.2 rfl))).2
    unfold rightP at h3
    rw [if_neg (by dsimp only; omega), if_neg (by dsimp only; omega), if_neg (by dsimp only; omega), if_neg (by dsimp only; omega)] at h3
    cases h3

set_option maxRecDepth 20000 in
set_option maxHeartbeats 4000000 in
theorem prefuses_c (r : Int) (ad : Option Addr) (cap : Nat) (l : List Q4) (x0 x1 : Int) (w0 : World) (I0 : Imm) (hI : Sat I0 w0) (hr : 0 ≤ r ∧ r ≤ 255) (h4 : RFl I0 4 q4C (.slice ad l.length cap) l) (hq : ∀ q ∈ l, q.wf) :
    Ctr Tryd.prog 7 [.agg #[.int .u8 r, .slice ad l.length cap], .agg #[.int .i32 x0, .int .i32 x1]] w0 (fun v w' => ∃ I', v = .bool true ∧ Ext w0 I0 w' I') := by
  have hr13 : 0 ≤ r % 13 ∧ r % 13 ≤ 65536 := by omega
  have hM := And.intro (madeP_wf (size := r % 13) hq hr13) (madeP_ok (size := r % 13) hq hr13).1
  have hpl := (madeP_ok (size := r % 13) hq hr13).2.2
  have hpo := (madeP_ok (size := r % 13) hq hr13).2.1
  have hpu := (madeP_out (size := r % 13) hq hr13.1).1
  have hwb := u16bd x1
  have hub := u32bd x0
  have hmd := made14r_c r ad cap l
  obtain ⟨p, hp⟩ : ∃ p, madeP l (r % 13) = p := ⟨_, rfl⟩
  rw [hp] at hM hpl hpo hpu hmd
  obtain ⟨B, hB⟩ : ∃ B, packP p = B := ⟨_, rfl⟩
  refine fn (n := 88) Tryd.func7 rfl rfl rfl ?_
  have hS := St.start hI
  refine wpIn_seq ?_
  refine reg ?_
  refine qe (d_box (cs := [.int .u8 _, .slice _ _ _]) hS rfl) ?_
  clear hS
  rintro _ w_1 ⟨b2, rfl, hS⟩
  refine qe (d_box (cs := [.int .i32 _, .int .i32 _]) hS rfl) ?_
  clear hS
  rintro _ w_2 ⟨b3, rfl, hS⟩
  refine qq hS (g_assignv (v := .bool _) rfl) ?_
  refine ol_nil (thenN ?_)
  refine wpIn_seq ?_
  refine reg ?_
  refine qe (d_call Tryd.call9 rfl (sanity14_c _ _ hS.imm)) ?_
  rintro _ w_3 ⟨I_f, rfl, hE⟩
  replace hS := hS.callE hE
  replace h4 := h4.mono hE.ext
  refine qq hS (g_assignv (v := .bool _) rfl) ?_
  refine ol_nil (thenN ?_)
  refine wpIn_seq ?_
  refine reg ?_
  refine qq hS (g_ldO 1 (vs := [.int .u8 _, .slice _ _ _]) Tryd.sizeOf24 Tryd.isAgg24 rfl rfl rfl rfl) ?_
  refine qe (d_call Tryd.call19 rfl (hmd _ _ hS.imm h4 hq hr)) ?_
  rintro _ w_4 ⟨I_f, a14, m14, c14, rfl, hE, h14⟩
  replace hS := hS.callE hE
  replace h4 := h4.mono hE.ext
  refine qe (d_alloc (cs := [.bool _, .int .i64 _, .int .i64 _, .slice _ _ _]) hS Tryd.zeroValue31 rfl) ?_
  clear hS
  rintro _ w_5 ⟨b6, rfl, hS⟩
  refine qe (d_store 0 hS Tryd.sizeOf31 rfl rfl rfl (vs := [.bool _, .int .i64 _, .int .i64 _, .slice _ _ _]) rfl rfl rfl (Nat.le_of_ble_eq_true rfl) (cs' := [_, _, _, _]) rfl) ?_
  clear hS
  rintro _ w_6 ⟨rfl, hS⟩
  refine ol_nil (thenN ?_)
  refine wpIn_seq ?_
  refine reg ?_
  refine qq hS (g_ldO 0 (vs := [.bool _, .int .i64 _, .int .i64 _, .slice _ _ _]) Tryd.sizeOf31 Tryd.isAgg31 rfl rfl rfl rfl) ?_
  refine qe (d_alloc (cs := [.bool _, .int .i64 _, .int .i64 _, .slice _ _ _]) hS Tryd.zeroValue31 rfl) ?_
  clear hS
  rintro _ w_7 ⟨b7, rfl, hS⟩
  refine qe (d_store 0 hS Tryd.sizeOf31 rfl rfl rfl (vs := [.bool _, .int .i64 _, .int .i64 _, .slice _ _ _]) rfl rfl rfl (Nat.le_of_ble_eq_true rfl) (cs' := [_, _, _, _]) rfl) ?_
  clear hS
  rintro _ w_8 ⟨rfl, hS⟩
  refine ol_nil (thenN ?_)
  refine meet (fun σ w => ∃ q J a m c, (okS σ [(5, .bool true), (6, .pointer (some ⟨b6, 0, none⟩)), (7, .pointer (some ⟨b7, 0, none⟩))] ∧ St [] w0 I0 J w [.cel b7 31 [.bool q.lifted, .int .i64 q.in_, .int .i64 q.out, .slice a m c], .cel b6 31 [.bool p.lifted, .int .i64 p.in_, .int .i64 p.out, .slice a14 m14 c14]]) ∧ Spo q ∧ ROps J (.slice a m c) q.ops ∧ ROps J (.slice a14 m14 c14) p.ops) ?_ ?_
  ·
    refine wpIn_seq ?_
    refine reg ?_
    refine qq hS (g_indexArr (o' := 0) Tryd.underlying49 Tryd.sizeOf21 rfl rfl (by decide) (by decide) rfl) ?_
    refine qq hS (g_ldO1 2 Tryd.isAgg21 rfl rfl rfl) ?_
    refine qq hS (g_conv Tryd.underlying21 Tryd.underlying51 rfl) ?_
    refine qq hS (g_rem rfl rfl (by omega) (by omega)) ?_
    refine ol_nil (thenN ?_)
    refine wpIn_block ?_
    refine wpIn_seq ?_
    refine reg ?_
    refine qq hS (g_eql rfl rfl) ?_
    refine qq hS (g_assignv (v := .bool _) rfl) ?_
    refine ol_nil (thenN ?_)
    refine cond_s rfl ?_ ?_
    ·
      intro hc37
      try simp only [Bool.and_eq_true, Bool.or_eq_true, Bool.not_eq_true', Bool.and_eq_false_imp, Bool.or_eq_false_iff, Bool.not_eq_false', decide_eq_true_eq, decide_eq_false_iff_not] at hc37
      refine reg ?_
      refine qq hS (g_fieldAddr (o' := 2) Tryd.underlying31 rfl Tryd.sizeOf3 rfl rfl rfl) ?_
      refine qq hS (g_ldO1 0 Tryd.isAgg3 rfl rfl rfl) ?_
      refine qq hS (g_indexArr (o' := 1) Tryd.underlying49 Tryd.sizeOf21 rfl rfl (by decide) (by decide) rfl) ?_
      refine qq hS (g_ldO1 2 Tryd.isAgg21 rfl rfl rfl) ?_
      refine qq hS (g_conv Tryd.underlying21 Tryd.underlying26 rfl) ?_
      refine qq hS (g_convi Tryd.underlying26 Tryd.underlying3 rfl (by omega) (by omega)) ?_
      refine qq hS (g_add rfl rfl (by omega) (by omega)) ?_
      refine qq hS (g_add rfl rfl (by omega) (by omega)) ?_
      refine qq hS (g_fieldAddr (o' := 2) Tryd.underlying31 rfl Tryd.sizeOf3 rfl rfl rfl) ?_
      refine qe (d_store 0 hS Tryd.sizeOf3 rfl rfl rfl (vs := [.int .i64 _]) rfl rfl rfl (Nat.le_of_ble_eq_true rfl) (cs' := [_, _, _, _]) rfl) ?_
      clear hS
      rintro _ w_9 ⟨rfl, hS⟩
      refine ol_nil (blkN (thenN ?_))
      first
        | exact ⟨_, rfl, ⟨p.lifted, p.in_, p.out + (1 + (IntKind.u16.wrap x1)), p.ops⟩, _, _, _, _, ⟨⟨rfl, rfl, rfl, trivial⟩, (hS.sel [true, true, false, false])⟩, spo_out hM.1 hM.2 (by omega), h14, h14⟩
        | exact ⟨_, rfl, ⟨p.lifted, -1 - (IntKind.u16.wrap x1), p.out, p.ops⟩, _, _, _, _, ⟨⟨rfl, rfl, rfl, trivial⟩, (hS.sel [true, true, false, false])⟩, spo_in hM.1 (by omega), h14, h14⟩
        | exact ⟨_, rfl, ⟨p.lifted, 65537 + (IntKind.u16.wrap x1), p.out, p.ops⟩, _, _, _, _, ⟨⟨rfl, rfl, rfl, trivial⟩, (hS.sel [true, true, false, false])⟩, spo_in hM.1 (by omega), h14, h14⟩
        | exact ⟨_, rfl, ⟨p.lifted, p.in_, p.out + 1, p.ops ++ [⟨5 + (IntKind.u16.wrap x1), 0, 1, 0, []⟩]⟩, _, _, _, _, ⟨⟨rfl, rfl, rfl, trivial⟩, (hS.sel [true, true, false, false])⟩, spo_op hM.1 hM.2 (by omega), hqo, h14⟩
    ·
      intro hc37
      try simp only [Bool.and_eq_true, Bool.or_eq_true, Bool.not_eq_true', Bool.and_eq_false_imp, Bool.or_eq_false_iff, Bool.not_eq_false', decide_eq_true_eq, decide_eq_false_iff_not] at hc37
      refine wpIn_seq ?_
      refine reg ?_
      refine qq hS (g_eql rfl rfl) ?_
      refine qq hS (g_assignv (v := .bool _) rfl) ?_
      refine ol_nil (thenN ?_)
      refine cond_s rfl ?_ ?_
      ·
        intro hc48
        try simp only [Bool.and_eq_true, Bool.or_eq_true, Bool.not_eq_true', Bool.and_eq_false_imp, Bool.or_eq_false_iff, Bool.not_eq_false', decide_eq_true_eq, decide_eq_false_iff_not] at hc48
        refine reg ?_
        refine qq hS (g_indexArr (o' := 1) Tryd.underlying49 Tryd.sizeOf21 rfl rfl (by decide) (by decide) rfl) ?_
        refine qq hS (g_ldO1 2 Tryd.isAgg21 rfl rfl rfl) ?_
        refine qq hS (g_conv Tryd.underlying21 Tryd.underlying26 rfl) ?_
        refine qq hS (g_convi Tryd.underlying26 Tryd.underlying3 rfl (by omega) (by omega)) ?_
        refine qq hS (g_sub rfl rfl (by omega) (by omega)) ?_
        refine qq hS (g_fieldAddr (o' := 1) Tryd.underlying31 rfl Tryd.sizeOf3 rfl rfl rfl) ?_
        refine qe (d_store 0 hS Tryd.sizeOf3 rfl rfl rfl (vs := [.int .i64 _]) rfl rfl rfl (Nat.le_of_ble_eq_true rfl) (cs' := [_, _, _, _]) rfl) ?_
        clear hS
        rintro _ w_10 ⟨rfl, hS⟩
        refine ol_nil (blkN (thenN ?_))
        first
          | exact ⟨_, rfl, ⟨p.lifted, p.in_, p.out + (1 + (IntKind.u16.wrap x1)), p.ops⟩, _, _, _, _, ⟨⟨rfl, rfl, rfl, trivial⟩, (hS.sel [true, true, false, false])⟩, spo_out hM.1 hM.2 (by omega), h14, h14⟩
          | exact ⟨_, rfl, ⟨p.lifted, -1 - (IntKind.u16.wrap x1), p.out, p.ops⟩, _, _, _, _, ⟨⟨rfl, rfl, rfl, trivial⟩, (hS.sel [true, true, false, false])⟩, spo_in hM.1 (by omega), h14, h14⟩
          | exact ⟨_, rfl, ⟨p.lifted, 65537 + (IntKind.u16.wrap x1), p.out, p.ops⟩, _, _, _, _, ⟨⟨rfl, rfl, rfl, trivial⟩, (hS.sel [true, true, false, false])⟩, spo_in hM.1 (by omega), h14, h14⟩
          | exact ⟨_, rfl, ⟨p.lifted, p.in_, p.out + 1, p.ops ++ [⟨5 + (IntKind.u16.wrap x1), 0, 1, 0, []⟩]⟩, _, _, _, _, ⟨⟨rfl, rfl, rfl, trivial⟩, (hS.sel [true, true, false, false])⟩, spo_op hM.1 hM.2 (by omega), hqo, h14⟩
      ·
        intro hc48
        try simp only [Bool.and_eq_true, Bool.or_eq_true, Bool.not_eq_true', Bool.and_eq_false_imp, Bool.or_eq_false_iff, Bool.not_eq_false', decide_eq_true_eq, decide_eq_false_iff_not] at hc48
        refine wpIn_seq ?_
        refine reg ?_
        refine qq hS (g_eql rfl rfl) ?_
        refine qq hS (g_assignv (v := .bool _) rfl) ?_
        refine ol_nil (thenN ?_)
        refine cond_s rfl ?_ ?_
        ·
          intro hc56
          try simp only [Bool.and_eq_true, Bool.or_eq_true, Bool.not_eq_true', Bool.and_eq_false_imp, Bool.or_eq_false_iff, Bool.not_eq_false', decide_eq_true_eq, decide_eq_false_iff_not] at hc56
          refine reg ?_
          refine qq hS (g_indexArr (o' := 1) Tryd.underlying49 Tryd.sizeOf21 rfl rfl (by decide) (by decide) rfl) ?_
          refine qq hS (g_ldO1 2 Tryd.isAgg21 rfl rfl rfl) ?_
          refine qq hS (g_conv Tryd.underlying21 Tryd.underlying26 rfl) ?_
          refine qq hS (g_convi Tryd.underlying26 Tryd.underlying3 rfl (by omega) (by omega)) ?_
          refine qq hS (g_add rfl rfl (by omega) (by omega)) ?_
          refine qq hS (g_fieldAddr (o' := 1) Tryd.underlying31 rfl Tryd.sizeOf3 rfl rfl rfl) ?_
          refine qe (d_store 0 hS Tryd.sizeOf3 rfl rfl rfl (vs := [.int .i64 _]) rfl rfl rfl (Nat.le_of_ble_eq_true rfl) (cs' := [_, _, _, _]) rfl) ?_
          clear hS
          rintro _ w_11 ⟨rfl, hS⟩
          refine ol_nil (blkN (thenN ?_))
          first
            | exact ⟨_, rfl, ⟨p.lifted, p.in_, p.out + (1 + (IntKind.u16.wrap x1)), p.ops⟩, _, _, _, _, ⟨⟨rfl, rfl, rfl, trivial⟩, (hS.sel [true, true, false, false])⟩, spo_out hM.1 hM.2 (by omega), h14, h14⟩
            | exact ⟨_, rfl, ⟨p.lifted, -1 - (IntKind.u16.wrap x1), p.out, p.ops⟩, _, _, _, _, ⟨⟨rfl, rfl, rfl, trivial⟩, (hS.sel [true, true, false, false])⟩, spo_in hM.1 (by omega), h14, h14⟩
            | exact ⟨_, rfl, ⟨p.lifted, 65537 + (IntKind.u16.wrap x1), p.out, p.ops⟩, _, _, _, _, ⟨⟨rfl, rfl, rfl, trivial⟩, (hS.sel [true, true, false, false])⟩, spo_in hM.1 (by omega), h14, h14⟩
            | exact ⟨_, rfl, ⟨p.lifted, p.in_, p.out + 1, p.ops ++ [⟨5 + (IntKind.u16.wrap x1), 0, 1, 0, []⟩]⟩, _, _, _, _, ⟨⟨rfl, rfl, rfl, trivial⟩, (hS.sel [true, true, false, false])⟩, spo_op hM.1 hM.2 (by omega), hqo, h14⟩
        ·
          intro hc56
          try simp only [Bool.and_eq_true, Bool.or_eq_true, Bool.not_eq_true', Bool.and_eq_false_imp, Bool.or_eq_false_iff, Bool.not_eq_false', decide_eq_true_eq, decide_eq_false_iff_not] at hc56
          refine wpIn_seq ?_
          refine drawS [true, true, true, true] (.cons 1 .pure (.cons 2 .held (.cons 4 .pure (.cons 5 .held (.cons 6 .pure (.cons 7 .pure (.cons 8 .pure (.cons 9 .pure (.fork 0 (.fork 3 (.cons 10 .eff (.cons 11 .eff (.cons 12 .pure (.cons 13 .bar .nil)))) 10 (.cons 3 .eff (.cons 11 .eff (.cons 12 .pure (.cons 13 .bar .nil))))) 10 (.cons 0 .eff (.cons 3 .eff (.cons 11 .eff (.cons 12 .pure (.cons 13 .bar .nil)))))))))))))) mixed (by kernel_rfl) hS ?_
          intro w_12 hS
          refine sp rfl (g_fieldAddr (o' := 3) Tryd.underlying31 rfl Tryd.sizeOf29 rfl rfl rfl) ?_
          refine sh rfl (g_ldO1 1 Tryd.isAgg29 rfl rfl rfl) ?_
          refine sp rfl (g_indexArr (o' := 1) Tryd.underlying49 Tryd.sizeOf21 rfl rfl (by decide) (by decide) rfl) ?_
          refine sh rfl (g_ldO1 2 Tryd.isAgg21 rfl rfl rfl) ?_
          refine sp rfl (g_conv Tryd.underlying21 Tryd.underlying26 rfl) ?_
          refine sp rfl (g_convi Tryd.underlying26 Tryd.underlying3 rfl (by omega) (by omega)) ?_
          refine sp rfl (g_add rfl rfl (by omega) (by omega)) ?_
          refine sp rfl (g_buildv (pl := [(0, 1), (1, 1), (2, 1), (3, 1), (4, 1)]) (cs := [.int .i64 _, .int .i64 _, .int .i64 _, .int .u8 _, .slice _ _ _]) Tryd.zeroValue53 Tryd.underlying53 (fun w => by simp [Tryd.sizeOf25, Tryd.sizeOf3, Tryd.sizeOf5]) (mp (v := .int .i64 _) rfl (mp (v := .int .i64 _) rfl mp0)) rfl) ?_
          refine sk ?_ ?_
          ·
            have hS0 := hS
            refine se rfl (d_buildSlice0 hS Tryd.underlying29 Tryd.sizeOf53) ?_
            rintro _ w_13 ⟨hS, b20_, rfl⟩
            refine ⟨_, _, fun _ h => h, hS.sel [false, true, true, true, true], ?_⟩
            refine sk ?_ ?_
            ·
              have hS0 := hS
              refine se rfl (i_appendR 0 hS rfl Tryd.underlying29 info53 rfl rfl rfl rfl ROp.one h14 rfl (by omega) (by omega)) ?_
              rintro _ w_14 ⟨a23, p23, css23, rfl, hcl23, hca23, hS⟩
              refine ⟨_, _, fun _ h => h, hS.sel [false, true, true, true, true], ?_⟩
              have hS0 := hS
              refine se rfl (d_lit (vs := [.agg #[.int .i64 _, .int .i64 _, .int .i64 _, .int .u8 _, .slice _ _ _]]) (cs := [.int .i64 _, .int .i64 _, .int .i64 _, .int .u8 _, .slice _ _ _]) hS Tryd.underlying29 Tryd.sizeOf53 Tryd.zeroValue53 rfl rfl rfl rfl (fun v hv => by simp only [List.mem_cons, List.not_mem_nil, or_false] at hv; subst hv; rfl) rfl) ?_
              rintro _ w_15 ⟨b30, rfl, hS⟩
              refine ⟨_, _, fun _ h => h, hS.sel [false, false, true, true, true, true], ?_⟩
              have hS0 := hS
              refine se rfl (i_appendO 1 0 hS rfl Tryd.underlying29 info53 rfl rfl rfl rfl rfl rfl rfl rfl (by omega) (by omega)) ?_
              rintro _ w_16 ⟨a31, p31, rfl, hS⟩
              refine ⟨_, _, fun _ h => h, hS.sel [false, false, true, true, true, true], ?_⟩
              refine sp rfl (g_fieldAddr (o' := 3) Tryd.underlying31 rfl Tryd.sizeOf29 rfl rfl rfl) ?_
              refine sb rfl (d_store 2 hS Tryd.sizeOf29 rfl rfl rfl (vs := [.slice _ _ _]) rfl rfl rfl (Nat.le_of_ble_eq_true rfl) (cs' := [_, _, _, _]) rfl) ?_
              rintro _ w_17 ⟨rfl, hS⟩
              refine ⟨_, _, hS, ?_⟩
              refine sn (thenN ?_)
              have hF := St.freezeRowR (u := .slice a31 (0 + p.ops.length + 1) p31) (m := (0 + p.ops.length + 1)) (xs := (p.ops ++ [⟨5 + (IntKind.u16.wrap x1), 0, 1, 0, []⟩])) (css := (css23 ++ [[.int .i64 (5 + (IntKind.u16.wrap x1)), .int .i64 0, .int .i64 1, .int .u8 0, .slice none 0 0]])) (by rw [List.flatten_append, List.flatten_singleton]; exact hS.ord [1, 0, 2, 3, 4, 5]) (by simp) (fun cs hcs => by
                  rcases List.mem_append.1 hcs with h | h
                  · exact hcl23 cs h
                  · simp only [List.mem_singleton] at h; subst h; rfl) (All2.snoc hca23 ⟨_, _, _, rfl, RFl.nil⟩)
              clear hS
              obtain ⟨I_hqo, hS, hI_hqo, hqo⟩ := hF
              replace h4 := h4.mono hI_hqo
              replace h14 := h14.mono hI_hqo
              replace hqo : ROps I_hqo (.slice a31 (0 + p.ops.length + 1) p31) ((p.ops ++ [⟨5 + (IntKind.u16.wrap x1), 0, 1, 0, []⟩])) := RSl.mono hqo (Sub.refl _) (fun _ _ h => h.mono hI_hqo)
              refine reg ?_
              refine qq hS (g_fieldAddr (o' := 2) Tryd.underlying31 rfl Tryd.sizeOf3 rfl rfl rfl) ?_
              refine qq hS (g_ldO1 1 Tryd.isAgg3 rfl rfl rfl) ?_
              refine qq hS (g_add rfl rfl (by omega) (by omega)) ?_
              refine qq hS (g_fieldAddr (o' := 2) Tryd.underlying31 rfl Tryd.sizeOf3 rfl rfl rfl) ?_
              refine qe (d_store 1 hS Tryd.sizeOf3 rfl rfl rfl (vs := [.int .i64 _]) rfl rfl rfl (Nat.le_of_ble_eq_true rfl) (cs' := [_, _, _, _]) rfl) ?_
              clear hS
              rintro _ w_18 ⟨rfl, hS⟩
              refine ol_nil (blkN (thenN ?_))
              first
                | exact ⟨_, rfl, ⟨p.lifted, p.in_, p.out + (1 + (IntKind.u16.wrap x1)), p.ops⟩, _, _, _, _, ⟨⟨rfl, rfl, rfl, trivial⟩, (hS.sel [false, true, true, false, false])⟩, spo_out hM.1 hM.2 (by omega), h14, h14⟩
                | exact ⟨_, rfl, ⟨p.lifted, -1 - (IntKind.u16.wrap x1), p.out, p.ops⟩, _, _, _, _, ⟨⟨rfl, rfl, rfl, trivial⟩, (hS.sel [false, true, true, false, false])⟩, spo_in hM.1 (by omega), h14, h14⟩
                | exact ⟨_, rfl, ⟨p.lifted, 65537 + (IntKind.u16.wrap x1), p.out, p.ops⟩, _, _, _, _, ⟨⟨rfl, rfl, rfl, trivial⟩, (hS.sel [false, true, true, false, false])⟩, spo_in hM.1 (by omega), h14, h14⟩
                | exact ⟨_, rfl, ⟨p.lifted, p.in_, p.out + 1, p.ops ++ [⟨5 + (IntKind.u16.wrap x1), 0, 1, 0, []⟩]⟩, _, _, _, _, ⟨⟨rfl, rfl, rfl, trivial⟩, (hS.sel [false, true, true, false, false])⟩, spo_op hM.1 hM.2 (by omega), hqo, h14⟩
            ·
              have hS0 := hS
              refine se rfl (d_lit (vs := [.agg #[.int .i64 _, .int .i64 _, .int .i64 _, .int .u8 _, .slice _ _ _]]) (cs := [.int .i64 _, .int .i64 _, .int .i64 _, .int .u8 _, .slice _ _ _]) hS Tryd.underlying29 Tryd.sizeOf53 Tryd.zeroValue53 rfl rfl rfl rfl (fun v hv => by simp only [List.mem_cons, List.not_mem_nil, or_false] at hv; subst hv; rfl) rfl) ?_
              rintro _ w_19 ⟨b30, rfl, hS⟩
              refine ⟨_, _, fun _ h => h, hS.sel [false, false, true, true, true, true], ?_⟩
              have hS0 := hS
              refine se rfl (i_appendR 1 hS rfl Tryd.underlying29 info53 rfl rfl rfl rfl ROp.one h14 rfl (by omega) (by omega)) ?_
              rintro _ w_20 ⟨a23, p23, css23, rfl, hcl23, hca23, hS⟩
              refine ⟨_, _, fun _ h => h, hS.sel [false, false, true, true, true, true], ?_⟩
              have hS0 := hS
              refine se rfl (i_appendO 1 0 hS rfl Tryd.underlying29 info53 rfl rfl rfl rfl rfl rfl rfl rfl (by omega) (by omega)) ?_
              rintro _ w_21 ⟨a31, p31, rfl, hS⟩
              refine ⟨_, _, fun _ h => h, hS.sel [false, false, true, true, true, true], ?_⟩
              refine sp rfl (g_fieldAddr (o' := 3) Tryd.underlying31 rfl Tryd.sizeOf29 rfl rfl rfl) ?_
              refine sb rfl (d_store 2 hS Tryd.sizeOf29 rfl rfl rfl (vs := [.slice _ _ _]) rfl rfl rfl (Nat.le_of_ble_eq_true rfl) (cs' := [_, _, _, _]) rfl) ?_
              rintro _ w_22 ⟨rfl, hS⟩
              refine ⟨_, _, hS, ?_⟩
              refine sn (thenN ?_)
              have hF := St.freezeRowR (u := .slice a31 (0 + p.ops.length + 1) p31) (m := (0 + p.ops.length + 1)) (xs := (p.ops ++ [⟨5 + (IntKind.u16.wrap x1), 0, 1, 0, []⟩])) (css := (css23 ++ [[.int .i64 (5 + (IntKind.u16.wrap x1)), .int .i64 0, .int .i64 1, .int .u8 0, .slice none 0 0]])) (by rw [List.flatten_append, List.flatten_singleton]; exact hS.ord [1, 0, 2, 3, 4, 5]) (by simp) (fun cs hcs => by
                  rcases List.mem_append.1 hcs with h | h
                  · exact hcl23 cs h
                  · simp only [List.mem_singleton] at h; subst h; rfl) (All2.snoc hca23 ⟨_, _, _, rfl, RFl.nil⟩)
              clear hS
              obtain ⟨I_hqo, hS, hI_hqo, hqo⟩ := hF
              replace h4 := h4.mono hI_hqo
              replace h14 := h14.mono hI_hqo
              replace hqo : ROps I_hqo (.slice a31 (0 + p.ops.length + 1) p31) ((p.ops ++ [⟨5 + (IntKind.u16.wrap x1), 0, 1, 0, []⟩])) := RSl.mono hqo (Sub.refl _) (fun _ _ h => h.mono hI_hqo)
              refine reg ?_
              refine qq hS (g_fieldAddr (o' := 2) Tryd.underlying31 rfl Tryd.sizeOf3 rfl rfl rfl) ?_
              refine qq hS (g_ldO1 1 Tryd.isAgg3 rfl rfl rfl) ?_
              refine qq hS (g_add rfl rfl (by omega) (by omega)) ?_
              refine qq hS (g_fieldAddr (o' := 2) Tryd.underlying31 rfl Tryd.sizeOf3 rfl rfl rfl) ?_
              refine qe (d_store 1 hS Tryd.sizeOf3 rfl rfl rfl (vs := [.int .i64 _]) rfl rfl rfl (Nat.le_of_ble_eq_true rfl) (cs' := [_, _, _, _]) rfl) ?_
              clear hS
              rintro _ w_23 ⟨rfl, hS⟩
              refine ol_nil (blkN (thenN ?_))
              first
                | exact ⟨_, rfl, ⟨p.lifted, p.in_, p.out + (1 + (IntKind.u16.wrap x1)), p.ops⟩, _, _, _, _, ⟨⟨rfl, rfl, rfl, trivial⟩, (hS.sel [false, true, true, false, false])⟩, spo_out hM.1 hM.2 (by omega), h14, h14⟩
                | exact ⟨_, rfl, ⟨p.lifted, -1 - (IntKind.u16.wrap x1), p.out, p.ops⟩, _, _, _, _, ⟨⟨rfl, rfl, rfl, trivial⟩, (hS.sel [false, true, true, false, false])⟩, spo_in hM.1 (by omega), h14, h14⟩
                | exact ⟨_, rfl, ⟨p.lifted, 65537 + (IntKind.u16.wrap x1), p.out, p.ops⟩, _, _, _, _, ⟨⟨rfl, rfl, rfl, trivial⟩, (hS.sel [false, true, true, false, false])⟩, spo_in hM.1 (by omega), h14, h14⟩
                | exact ⟨_, rfl, ⟨p.lifted, p.in_, p.out + 1, p.ops ++ [⟨5 + (IntKind.u16.wrap x1), 0, 1, 0, []⟩]⟩, _, _, _, _, ⟨⟨rfl, rfl, rfl, trivial⟩, (hS.sel [false, true, true, false, false])⟩, spo_op hM.1 hM.2 (by omega), hqo, h14⟩
          ·
            have hS0 := hS
            refine se rfl (d_lit (vs := [.agg #[.int .i64 _, .int .i64 _, .int .i64 _, .int .u8 _, .slice _ _ _]]) (cs := [.int .i64 _, .int .i64 _, .int .i64 _, .int .u8 _, .slice _ _ _]) hS Tryd.underlying29 Tryd.sizeOf53 Tryd.zeroValue53 rfl rfl rfl rfl (fun v hv => by simp only [List.mem_cons, List.not_mem_nil, or_false] at hv; subst hv; rfl) rfl) ?_
            rintro _ w_24 ⟨b30, rfl, hS⟩
            refine ⟨_, _, fun _ h => h, hS.sel [false, true, true, true, true], ?_⟩
            have hS0 := hS
            refine se rfl (d_buildSlice0 hS Tryd.underlying29 Tryd.sizeOf53) ?_
            rintro _ w_25 ⟨hS, b20_, rfl⟩
            refine ⟨_, _, fun _ h => h, hS.sel [false, false, true, true, true, true], ?_⟩
            have hS0 := hS
            refine se rfl (i_appendR 0 hS rfl Tryd.underlying29 info53 rfl rfl rfl rfl ROp.one h14 rfl (by omega) (by omega)) ?_
            rintro _ w_26 ⟨a23, p23, css23, rfl, hcl23, hca23, hS⟩
            refine ⟨_, _, fun _ h => h, hS.sel [false, false, true, true, true, true], ?_⟩
            have hS0 := hS
            refine se rfl (i_appendO 0 1 hS rfl Tryd.underlying29 info53 rfl rfl rfl rfl rfl rfl rfl rfl (by omega) (by omega)) ?_
            rintro _ w_27 ⟨a31, p31, rfl, hS⟩
            refine ⟨_, _, fun _ h => h, hS.sel [false, false, true, true, true, true], ?_⟩
            refine sp rfl (g_fieldAddr (o' := 3) Tryd.underlying31 rfl Tryd.sizeOf29 rfl rfl rfl) ?_
            refine sb rfl (d_store 2 hS Tryd.sizeOf29 rfl rfl rfl (vs := [.slice _ _ _]) rfl rfl rfl (Nat.le_of_ble_eq_true rfl) (cs' := [_, _, _, _]) rfl) ?_
            rintro _ w_28 ⟨rfl, hS⟩
            refine ⟨_, _, hS, ?_⟩
            refine sn (thenN ?_)
            have hF := St.freezeRowR (u := .slice a31 (0 + p.ops.length + 1) p31) (m := (0 + p.ops.length + 1)) (xs := (p.ops ++ [⟨5 + (IntKind.u16.wrap x1), 0, 1, 0, []⟩])) (css := (css23 ++ [[.int .i64 (5 + (IntKind.u16.wrap x1)), .int .i64 0, .int .i64 1, .int .u8 0, .slice none 0 0]])) (by rw [List.flatten_append, List.flatten_singleton]; exact hS.ord [0, 1, 2, 3, 4, 5]) (by simp) (fun cs hcs => by
                rcases List.mem_append.1 hcs with h | h
                · exact hcl23 cs h
                · simp only [List.mem_singleton] at h; subst h; rfl) (All2.snoc hca23 ⟨_, _, _, rfl, RFl.nil⟩)
            clear hS
            obtain ⟨I_hqo, hS, hI_hqo, hqo⟩ := hF
            replace h4 := h4.mono hI_hqo
            replace h14 := h14.mono hI_hqo
            replace hqo : ROps I_hqo (.slice a31 (0 + p.ops.length + 1) p31) ((p.ops ++ [⟨5 + (IntKind.u16.wrap x1), 0, 1, 0, []⟩])) := RSl.mono hqo (Sub.refl _) (fun _ _ h => h.mono hI_hqo)
            refine reg ?_
            refine qq hS (g_fieldAddr (o' := 2) Tryd.underlying31 rfl Tryd.sizeOf3 rfl rfl rfl) ?_
            refine qq hS (g_ldO1 1 Tryd.isAgg3 rfl rfl rfl) ?_
            refine qq hS (g_add rfl rfl (by omega) (by omega)) ?_
            refine qq hS (g_fieldAddr (o' := 2) Tryd.underlying31 rfl Tryd.sizeOf3 rfl rfl rfl) ?_
            refine qe (d_store 1 hS Tryd.sizeOf3 rfl rfl rfl (vs := [.int .i64 _]) rfl rfl rfl (Nat.le_of_ble_eq_true rfl) (cs' := [_, _, _, _]) rfl) ?_
            clear hS
            rintro _ w_29 ⟨rfl, hS⟩
            refine ol_nil (blkN (thenN ?_))
            first
              | exact ⟨_, rfl, ⟨p.lifted, p.in_, p.out + (1 + (IntKind.u16.wrap x1)), p.ops⟩, _, _, _, _, ⟨⟨rfl, rfl, rfl, trivial⟩, (hS.sel [false, true, true, false, false])⟩, spo_out hM.1 hM.2 (by omega), h14, h14⟩
              | exact ⟨_, rfl, ⟨p.lifted, -1 - (IntKind.u16.wrap x1), p.out, p.ops⟩, _, _, _, _, ⟨⟨rfl, rfl, rfl, trivial⟩, (hS.sel [false, true, true, false, false])⟩, spo_in hM.1 (by omega), h14, h14⟩
              | exact ⟨_, rfl, ⟨p.lifted, 65537 + (IntKind.u16.wrap x1), p.out, p.ops⟩, _, _, _, _, ⟨⟨rfl, rfl, rfl, trivial⟩, (hS.sel [false, true, true, false, false])⟩, spo_in hM.1 (by omega), h14, h14⟩
              | exact ⟨_, rfl, ⟨p.lifted, p.in_, p.out + 1, p.ops ++ [⟨5 + (IntKind.u16.wrap x1), 0, 1, 0, []⟩]⟩, _, _, _, _, ⟨⟨rfl, rfl, rfl, trivial⟩, (hS.sel [false, true, true, false, false])⟩, spo_op hM.1 hM.2 (by omega), hqo, h14⟩
  ·
    rintro σ w ⟨q, J, aq, mq, cq, ⟨hs, hS⟩, hqs, hqo, h14⟩
    rw [← upds_self hs]
    refine wpIn_seq ?_
    refine reg ?_
    refine qq hS (g_ldO 0 (vs := [.bool _, .int .i64 _, .int .i64 _, .slice _ _ _]) Tryd.sizeOf31 Tryd.isAgg31 rfl rfl rfl rfl) ?_
    refine qe (d_call Tryd.call11 rfl (pack_bad_c q _ _ _ _ _ hS.imm hqo hqs.wf hqs.bad)) ?_
    rintro _ w_30 ⟨rfl, hE⟩
    replace hS := hS.callE hE
    refine qq hS (g_move _) ?_
    refine qq hS (g_extract rfl rfl) ?_
    refine qq hS (g_extract (v := .int .i64 _) rfl rfl) ?_
    refine qq hS (g_assign _) ?_
    refine qq hS (g_assignv (v := .int .i64 _) rfl) ?_
    refine ol_nil (thenN ?_)
    refine wpIn_seq ?_
    refine reg ?_
    refine qq hS (g_ldO 1 (vs := [.bool _, .int .i64 _, .int .i64 _, .slice _ _ _]) Tryd.sizeOf31 Tryd.isAgg31 rfl rfl rfl rfl) ?_
    refine qe (d_call Tryd.call11 rfl (packB_c p B _ _ _ _ _ hS.imm h14 hM.1 hM.2 hB)) ?_
    rintro _ w_31 ⟨I_f, a71, c71, rfl, hE, h71⟩
    replace hS := hS.callE hE
    replace hqo := hqo.mono hE.ext
    replace h14 := h14.mono hE.ext
    refine qq hS (g_move _) ?_
    refine qq hS (g_extract rfl rfl) ?_
    refine qq hS (g_extract (v := .int .i64 _) rfl rfl) ?_
    refine qq hS (g_assign _) ?_
    refine qq hS (g_assignv (v := .int .i64 _) rfl) ?_
    refine ol_nil (thenN ?_)
    refine wpIn_seq ?_
    refine reg ?_
    refine qq hS (g_movev (v := .int .i64 _) rfl) ?_
    refine qq hS (g_eql rfl rfl) ?_
    refine qq hS (g_movev (v := .bool _) rfl) ?_
    refine qqs rfl rfl hS (g_move _) ?_
    refine qqs rfl rfl hS (g_lenS rfl Tryd.underlying25 rfl) ?_
    refine qqs rfl rfl hS (g_eql rfl rfl) ?_
    refine qq hS (g_and rfl rfl (fun _ => rfl)) ?_
    refine qq hS (g_movev (v := .bool _) rfl) ?_
    refine qqs rfl rfl hS (g_movev (v := .int .i64 _) rfl) ?_
    refine qqs rfl rfl hS (g_eql rfl rfl) ?_
    refine qq hS (g_and rfl rfl (fun _ => rfl)) ?_
    refine qq hS (g_movev (v := .bool _) rfl) ?_
    refine qqs rfl rfl hS (g_movev (v := .bool _) rfl) ?_
    refine qq hS (g_and rfl rfl (fun _ => rfl)) ?_
    refine qq hS (g_assignv (v := .bool _) rfl) ?_
    refine ol_nil (thenN ?_)
    refine wpIn_ret ?_
    refine ret1 Tryd.results7 (rv_tmp (v := .bool _) rfl) ?_
    exact ⟨_, rfl, hS.nil⟩

end Go.Proofs.YtdgnojckkjfhfaaDoor

