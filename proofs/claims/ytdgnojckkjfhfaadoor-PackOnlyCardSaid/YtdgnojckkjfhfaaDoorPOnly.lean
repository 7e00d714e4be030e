/- inlaylaw14.PackOnly: its function answers true. Conditions: arguments are of their kinds. -/
import Derived.Test.YtdgnojckkjfhfaaDoorMk14
import Derived.Test.YtdgnojckkjfhfaaDoorPInj
import Derived.Test.YtdgnojckkjfhfaaDoorRw14
import Derived.Test.YtdgnojckkjfhfaaDoorNum14
namespace Go.Proofs.YtdgnojckkjfhfaaDoor
open Go Go.RowKit Go.Inl
set_option linter.unusedSimpArgs false
set_option linter.unusedVariables false
/-- Unpack of any bytes. -/
theorem unpW_c (b : List Int) (hbb : Byt b) (ad : Option Addr) (n cap : Nat) (w0 : World) (I0 : Imm) (hI : Sat I0 w0) (hn : n = b.length) (hb : RBytes I0 (.slice ad n cap) b) :
    Ctr Tryd.prog 15 [.slice ad n cap] w0 (fun v w' => ∃ (I' : Imm) (q : PatL) (a : Option Addr) (m c : Nat) (e : Int), v = .tuple #[.agg #[.bool q.lifted, .int .i64 q.in_, .int .i64 q.out, .slice a m c], .int .i64 e] ∧ Ext w0 I0 w' I' ∧ (e = 0 → q.wf ∧ (checkP q).2 = 0 ∧ packP q = b ∧ ROps I' (.slice a m c) q.ops)) := by
  subst hn
  refine (unpack_c b (fun _ _ => True) hbb (fun _ _ => ⟨fun ad cap w0 I0 hI hb => readW_c b hbb ad cap w0 I0 hI hb⟩) ad cap w0 I0 hI hb).mono ?_
  rintro v w' (⟨q, a, m, c, I', _, h1, h2, h3, h4, h5, h6⟩ | ⟨I', h1, h2, _⟩)
  · exact ⟨I', q, a, m, c, 0, h4, h5, fun _ => ⟨h1, h2, h3, h6⟩⟩
  · exact ⟨I', PatL.zero, none, 0, 0, 140, h1, h2, fun h => absurd h (by decide)⟩
theorem sameOps_eq : ∀ (a b : List OpL), a.length = b.length → ((a.zip b).drop 0).all (fun p => sameOpS p.1 p.2) = true → a = b
  | [], [], _, _ => rfl
  | [], _ :: _, h, _ => by simp at h
  | _ :: _, [], h, _ => by simp at h
  | x :: a, y :: b, h, h2 => by
    rw [List.drop_zero, List.zip_cons_cons, List.all_cons, Bool.and_eq_true] at h2
    rw [show x = y from sameOpS_iff.1 h2.1, sameOps_eq a b (by simpa using h) (by rw [List.drop_zero]; exact h2.2)]
theorem samePR_eq {p q : PatL} (h : samePR p q = true) : p = q := by
  unfold samePR sameOps at h
  simp only [Bool.and_eq_true, decide_eq_true_eq, beq_iff_eq] at h
  obtain ⟨⟨⟨⟨h1, h2⟩, h3⟩, h4⟩, h5⟩ := h
  have h6 := sameOps_eq _ _ h4 h5
  cases p; cases q
  simp only at h1 h2 h3 h6
  subst h1 h2 h3 h6; rfl
theorem same_pack {p q : PatL} {B C : List Int} (hp : p.wf) (hk : (checkP p).2 = 0) (hq : q.wf) (hkq : (checkP q).2 = 0) (hB : packP p = B) (hC : packP q = C) : decide (B = C) = samePR p q := by
  subst hB hC
  by_cases h : p = q
  · subst h; rw [samePR_refl]; simp
  · rw [decide_eq_false (fun h2 => h (packP_inj hp hk hq hkq h2))]
    cases h2 : samePR p q with
    | false => rfl
    | true => exact absurd (samePR_eq h2) h

set_option maxRecDepth 20000 in
set_option maxHeartbeats 4000000 in
theorem ponly_c (r0 r1 : Int) (a0 a1 bd : Option Addr) (c0 c1 bc : Nat) (l0 l1 : List Q4) (bs : List Int) (f0 f1 : Bool) (w0 : World) (I0 : Imm) (hI : Sat I0 w0) (hr0 : 0 ≤ r0 ∧ r0 ≤ 255) (hr1 : 0 ≤ r1 ∧ r1 ≤ 255) (h4 : RFl I0 4 q4C (.slice a0 l0.length c0) l0) (hq : ∀ q ∈ l0, q.wf) (h5 : RFl I0 4 q4C (.slice a1 l1.length c1) l1) (hq2 : ∀ q ∈ l1, q.wf) (hb : RBytes I0 (.slice bd bs.length bc) bs) (hbb : ∀ y ∈ bs, 0 ≤ y ∧ y ≤ 255) :
    Ctr Tryd.prog 4 [.agg #[.int .u8 r0, .slice a0 l0.length c0, .int .u8 r1, .slice a1 l1.length c1], .slice bd bs.length bc, .agg #[.bool f0, .bool f1]] w0 (fun v w' => ∃ I', v = .bool true ∧ Ext w0 I0 w' I') := by
  obtain ⟨p, B, hM⟩ := mk14_of hq hr0 f0
  obtain ⟨q, C, hN⟩ := mk14_of hq2 hr1 f1
  have hsm := same_pack hM.wf hM.chk hN.wf hN.chk hM.pk hN.pk
  refine fn (n := 99) Tryd.func4 rfl rfl rfl ?_
  have hS := St.start hI
  refine wpIn_seq ?_
  refine reg ?_
  refine qe (d_box (cs := [.int .u8 _, .slice _ _ _, .int .u8 _, .slice _ _ _]) hS rfl) ?_
  clear hS
  rintro _ w_1 ⟨b3, rfl, hS⟩
  refine qe (d_box (cs := [.bool _, .bool _]) hS rfl) ?_
  clear hS
  rintro _ w_2 ⟨b5, rfl, hS⟩
  refine qq hS (g_assignv (v := .bool _) rfl) ?_
  refine ol_nil (thenN ?_)
  refine wpIn_seq ?_
  refine reg ?_
  refine qe (d_call Tryd.call9 rfl (sanity14_c _ _ hS.imm)) ?_
  rintro _ w_3 ⟨I_f, rfl, hE⟩
  replace hS := hS.callE hE
  replace h4 := h4.mono hE.ext
  replace h5 := h5.mono hE.ext
  replace hb := hb.mono hE.ext
  refine qq hS (g_assignv (v := .bool _) rfl) ?_
  refine ol_nil (thenN ?_)
  refine wpIn_seq ?_
  refine wpIn_seq ?_
  refine reg ?_
  refine qq hS (g_move _) ?_
  refine qq hS (g_lenI rfl Tryd.underlying25 hb rfl) ?_
  refine qq hS (g_gtr rfl rfl) ?_
  refine ol_nil (thenN ?_)
  refine cond_s rfl ?_ ?_
  ·
    intro hc23
    try simp only [Bool.and_eq_true, Bool.or_eq_true, Bool.not_eq_true', Bool.and_eq_false_imp, Bool.or_eq_false_iff, Bool.not_eq_false', decide_eq_true_eq, decide_eq_false_iff_not] at hc23
    refine wpIn_seq ?_
    refine reg ?_
    refine qq hS (g_movev (v := .bool _) rfl) ?_
    refine qq hS (g_assignv (v := .bool _) rfl) ?_
    refine ol_nil (thenN ?_)
    refine wpIn_ret ?_
    refine thenR ?_
    refine ret1 Tryd.results4 (rv_tmp (v := .bool _) rfl) ?_
    exact ⟨_, rfl, hS.nil⟩
  ·
    intro hc23
    try simp only [Bool.and_eq_true, Bool.or_eq_true, Bool.not_eq_true', Bool.and_eq_false_imp, Bool.or_eq_false_iff, Bool.not_eq_false', decide_eq_true_eq, decide_eq_false_iff_not] at hc23
    refine wpIn_skip ?_
    refine thenN ?_
    refine meet (fun σ w => ∃ b8 b9 J a29 m29 c29 a34 m34 c34, (okS σ [(1, .slice bd bs.length bc), (7, .bool true), (8, .pointer (some ⟨b8, 0, none⟩)), (9, .pointer (some ⟨b9, 0, none⟩))] ∧ St [] w0 I0 J w [.cel b8 31 [.bool p.lifted, .int .i64 p.in_, .int .i64 p.out, .slice a29 m29 c29], .cel b9 31 [.bool q.lifted, .int .i64 q.in_, .int .i64 q.out, .slice a34 m34 c34]]) ∧ ROps J (.slice a29 m29 c29) p.ops ∧ ROps J (.slice a34 m34 c34) q.ops ∧ RBytes J (.slice bd bs.length bc) bs) ?_ ?_
    ·
      refine draw (.cons 0 .pure (.cons 1 .held (.cons 2 .pure (.cons 3 .held (.cons 5 .pure (.cons 6 .held (.cons 7 .pure (.cons 8 .held (.fork3 4 (.fork3 9 (.fork 10 (.cons 11 .eff (.cons 12 .bar (.cons 13 .bar .nil))) 11 (.cons 10 .eff (.cons 12 .bar (.cons 13 .bar .nil)))) 10 (.fork 9 (.cons 11 .eff (.cons 12 .bar (.cons 13 .bar .nil))) 11 (.cons 9 .eff (.cons 12 .bar (.cons 13 .bar .nil)))) 11 (.fork 9 (.cons 10 .eff (.cons 12 .bar (.cons 13 .bar .nil))) 10 (.cons 9 .eff (.cons 12 .bar (.cons 13 .bar .nil))))) 10 (.fork 4 (.fork 9 (.cons 11 .eff (.cons 12 .bar (.cons 13 .bar .nil))) 11 (.cons 9 .eff (.cons 12 .bar (.cons 13 .bar .nil)))) 11 (.cons 4 .eff (.cons 9 .eff (.cons 12 .bar (.cons 13 .bar .nil))))) 11 (.fork 4 (.fork 9 (.cons 10 .eff (.cons 12 .bar (.cons 13 .bar .nil))) 10 (.cons 9 .eff (.cons 12 .bar (.cons 13 .bar .nil)))) 10 (.cons 4 .eff (.cons 9 .eff (.cons 12 .bar (.cons 13 .bar .nil)))))))))))))) mixed (by kernel_rfl) hS ?_
      intro w_4 hS
      refine sp rfl (g_indexArr (o' := 0) Tryd.underlying43 Tryd.sizeOf24 rfl rfl (by decide) (by decide) rfl) ?_
      refine sh rfl (g_ldO 1 (vs := [.int .u8 _, .slice _ _ _]) Tryd.sizeOf24 Tryd.isAgg24 rfl rfl rfl rfl) ?_
      refine sp rfl (g_indexArr (o' := 0) Tryd.underlying44 Tryd.sizeOf4 rfl rfl (by decide) (by decide) rfl) ?_
      refine sh rfl (g_ldO1 0 Tryd.isAgg4 rfl rfl rfl) ?_
      refine sp rfl (g_indexArr (o' := 2) Tryd.underlying43 Tryd.sizeOf24 rfl rfl (by decide) (by decide) rfl) ?_
      refine sh rfl (g_ldO 1 (vs := [.int .u8 _, .slice _ _ _]) Tryd.sizeOf24 Tryd.isAgg24 rfl rfl rfl rfl) ?_
      refine sp rfl (g_indexArr (o' := 1) Tryd.underlying44 Tryd.sizeOf4 rfl rfl (by decide) (by decide) rfl) ?_
      refine sh rfl (g_ldO1 0 Tryd.isAgg4 rfl rfl rfl) ?_
      refine sk3 ?_ ?_ ?_
      ·
        have hS0 := hS
        refine se rfl (d_call Tryd.call10 rfl (made14_c r0 f0 p a0 c0 l0 _ _ hS.imm h4 hq hr0 hM.eq)) ?_
        rintro _ w_5 ⟨I_f, a29, m29, c29, rfl, hE, h29⟩
        replace hS := hS.call hE
        replace h4 := h4.mono hE.ext
        replace h5 := h5.mono hE.ext
        replace hb := hb.mono hE.ext
        refine ⟨_, _, hS0.le hE.ext (List.Sublist.refl _), hS, ?_⟩
        refine sk3 ?_ ?_ ?_
        ·
          have hS0 := hS
          refine se rfl (d_call Tryd.call10 rfl (made14_c r1 f1 q a1 c1 l1 _ _ hS.imm h5 hq2 hr1 hN.eq)) ?_
          rintro _ w_6 ⟨I_f, a34, m34, c34, rfl, hE, h34⟩
          replace hS := hS.call hE
          replace h4 := h4.mono hE.ext
          replace h5 := h5.mono hE.ext
          replace hb := hb.mono hE.ext
          replace h29 := h29.mono hE.ext
          refine ⟨_, _, hS0.le hE.ext (List.Sublist.refl _), hS, ?_⟩
          refine sk ?_ ?_
          ·
            have hS0 := hS
            refine se rfl (d_alloc (cs := [.bool _, .int .i64 _, .int .i64 _, .slice _ _ _]) hS Tryd.zeroValue31 rfl) ?_
            rintro _ w_7 ⟨b8, rfl, hS⟩
            refine ⟨_, _, hS0.le (Sub.refl _) (List.sublist_cons_self _ _), hS, ?_⟩
            have hS0 := hS
            refine se rfl (d_alloc (cs := [.bool _, .int .i64 _, .int .i64 _, .slice _ _ _]) hS Tryd.zeroValue31 rfl) ?_
            rintro _ w_8 ⟨b9, rfl, hS⟩
            refine ⟨_, _, hS0.le (Sub.refl _) (List.sublist_cons_self _ _), hS, ?_⟩
            refine sb rfl (d_store 1 hS Tryd.sizeOf31 rfl rfl rfl (vs := [.bool _, .int .i64 _, .int .i64 _, .slice _ _ _]) rfl rfl rfl (Nat.le_of_ble_eq_true rfl) (cs' := [_, _, _, _]) rfl) ?_
            rintro _ w_9 ⟨rfl, hS⟩
            refine ⟨_, _, hS, ?_⟩
            refine sb rfl (d_store 0 hS Tryd.sizeOf31 rfl rfl rfl (vs := [.bool _, .int .i64 _, .int .i64 _, .slice _ _ _]) rfl rfl rfl (Nat.le_of_ble_eq_true rfl) (cs' := [_, _, _, _]) rfl) ?_
            rintro _ w_10 ⟨rfl, hS⟩
            refine ⟨_, _, hS, ?_⟩
            refine sn (thenN ?_)
            exact ⟨_, rfl, b8, b9, _, _, _, _, _, _, _, ⟨⟨rfl, rfl, rfl, rfl, trivial⟩, (hS.ord [1, 0])⟩, h29, h34, hb⟩
          ·
            have hS0 := hS
            refine se rfl (d_alloc (cs := [.bool _, .int .i64 _, .int .i64 _, .slice _ _ _]) hS Tryd.zeroValue31 rfl) ?_
            rintro _ w_11 ⟨b9, rfl, hS⟩
            refine ⟨_, _, hS0.le (Sub.refl _) (List.sublist_cons_self _ _), hS, ?_⟩
            have hS0 := hS
            refine se rfl (d_alloc (cs := [.bool _, .int .i64 _, .int .i64 _, .slice _ _ _]) hS Tryd.zeroValue31 rfl) ?_
            rintro _ w_12 ⟨b8, rfl, hS⟩
            refine ⟨_, _, hS0.le (Sub.refl _) (List.sublist_cons_self _ _), hS, ?_⟩
            refine sb rfl (d_store 0 hS Tryd.sizeOf31 rfl rfl rfl (vs := [.bool _, .int .i64 _, .int .i64 _, .slice _ _ _]) rfl rfl rfl (Nat.le_of_ble_eq_true rfl) (cs' := [_, _, _, _]) rfl) ?_
            rintro _ w_13 ⟨rfl, hS⟩
            refine ⟨_, _, hS, ?_⟩
            refine sb rfl (d_store 1 hS Tryd.sizeOf31 rfl rfl rfl (vs := [.bool _, .int .i64 _, .int .i64 _, .slice _ _ _]) rfl rfl rfl (Nat.le_of_ble_eq_true rfl) (cs' := [_, _, _, _]) rfl) ?_
            rintro _ w_14 ⟨rfl, hS⟩
            refine ⟨_, _, hS, ?_⟩
            refine sn (thenN ?_)
            exact ⟨_, rfl, b8, b9, _, _, _, _, _, _, _, ⟨⟨rfl, rfl, rfl, rfl, trivial⟩, (hS.sel [true, true, false, false])⟩, h29, h34, hb⟩
        ·
          have hS0 := hS
          refine se rfl (d_alloc (cs := [.bool _, .int .i64 _, .int .i64 _, .slice _ _ _]) hS Tryd.zeroValue31 rfl) ?_
          rintro _ w_15 ⟨b8, rfl, hS⟩
          refine ⟨_, _, hS0.le (Sub.refl _) (List.sublist_cons_self _ _), hS, ?_⟩
          refine sk ?_ ?_
          ·
            have hS0 := hS
            refine se rfl (d_call Tryd.call10 rfl (made14_c r1 f1 q a1 c1 l1 _ _ hS.imm h5 hq2 hr1 hN.eq)) ?_
            rintro _ w_16 ⟨I_f, a34, m34, c34, rfl, hE, h34⟩
            replace hS := hS.call hE
            replace h4 := h4.mono hE.ext
            replace h5 := h5.mono hE.ext
            replace hb := hb.mono hE.ext
            replace h29 := h29.mono hE.ext
            refine ⟨_, _, hS0.le hE.ext (List.Sublist.refl _), hS, ?_⟩
            have hS0 := hS
            refine se rfl (d_alloc (cs := [.bool _, .int .i64 _, .int .i64 _, .slice _ _ _]) hS Tryd.zeroValue31 rfl) ?_
            rintro _ w_17 ⟨b9, rfl, hS⟩
            refine ⟨_, _, hS0.le (Sub.refl _) (List.sublist_cons_self _ _), hS, ?_⟩
            refine sb rfl (d_store 1 hS Tryd.sizeOf31 rfl rfl rfl (vs := [.bool _, .int .i64 _, .int .i64 _, .slice _ _ _]) rfl rfl rfl (Nat.le_of_ble_eq_true rfl) (cs' := [_, _, _, _]) rfl) ?_
            rintro _ w_18 ⟨rfl, hS⟩
            refine ⟨_, _, hS, ?_⟩
            refine sb rfl (d_store 0 hS Tryd.sizeOf31 rfl rfl rfl (vs := [.bool _, .int .i64 _, .int .i64 _, .slice _ _ _]) rfl rfl rfl (Nat.le_of_ble_eq_true rfl) (cs' := [_, _, _, _]) rfl) ?_
            rintro _ w_19 ⟨rfl, hS⟩
            refine ⟨_, _, hS, ?_⟩
            refine sn (thenN ?_)
            exact ⟨_, rfl, b8, b9, _, _, _, _, _, _, _, ⟨⟨rfl, rfl, rfl, rfl, trivial⟩, (hS.ord [1, 0])⟩, h29, h34, hb⟩
          ·
            have hS0 := hS
            refine se rfl (d_alloc (cs := [.bool _, .int .i64 _, .int .i64 _, .slice _ _ _]) hS Tryd.zeroValue31 rfl) ?_
            rintro _ w_20 ⟨b9, rfl, hS⟩
            refine ⟨_, _, hS0.le (Sub.refl _) (List.sublist_cons_self _ _), hS, ?_⟩
            have hS0 := hS
            refine se rfl (d_call Tryd.call10 rfl (made14_c r1 f1 q a1 c1 l1 _ _ hS.imm h5 hq2 hr1 hN.eq)) ?_
            rintro _ w_21 ⟨I_f, a34, m34, c34, rfl, hE, h34⟩
            replace hS := hS.call hE
            replace h4 := h4.mono hE.ext
            replace h5 := h5.mono hE.ext
            replace hb := hb.mono hE.ext
            replace h29 := h29.mono hE.ext
            refine ⟨_, _, hS0.le hE.ext (List.Sublist.refl _), hS, ?_⟩
            refine sb rfl (d_store 1 hS Tryd.sizeOf31 rfl rfl rfl (vs := [.bool _, .int .i64 _, .int .i64 _, .slice _ _ _]) rfl rfl rfl (Nat.le_of_ble_eq_true rfl) (cs' := [_, _, _, _]) rfl) ?_
            rintro _ w_22 ⟨rfl, hS⟩
            refine ⟨_, _, hS, ?_⟩
            refine sb rfl (d_store 0 hS Tryd.sizeOf31 rfl rfl rfl (vs := [.bool _, .int .i64 _, .int .i64 _, .slice _ _ _]) rfl rfl rfl (Nat.le_of_ble_eq_true rfl) (cs' := [_, _, _, _]) rfl) ?_
            rintro _ w_23 ⟨rfl, hS⟩
            refine ⟨_, _, hS, ?_⟩
            refine sn (thenN ?_)
            exact ⟨_, rfl, b8, b9, _, _, _, _, _, _, _, ⟨⟨rfl, rfl, rfl, rfl, trivial⟩, (hS.ord [1, 0])⟩, h29, h34, hb⟩
        ·
          have hS0 := hS
          refine se rfl (d_alloc (cs := [.bool _, .int .i64 _, .int .i64 _, .slice _ _ _]) hS Tryd.zeroValue31 rfl) ?_
          rintro _ w_24 ⟨b9, rfl, hS⟩
          refine ⟨_, _, hS0.le (Sub.refl _) (List.sublist_cons_self _ _), hS, ?_⟩
          refine sk ?_ ?_
          ·
            have hS0 := hS
            refine se rfl (d_call Tryd.call10 rfl (made14_c r1 f1 q a1 c1 l1 _ _ hS.imm h5 hq2 hr1 hN.eq)) ?_
            rintro _ w_25 ⟨I_f, a34, m34, c34, rfl, hE, h34⟩
            replace hS := hS.call hE
            replace h4 := h4.mono hE.ext
            replace h5 := h5.mono hE.ext
            replace hb := hb.mono hE.ext
            replace h29 := h29.mono hE.ext
            refine ⟨_, _, hS0.le hE.ext (List.Sublist.refl _), hS, ?_⟩
            have hS0 := hS
            refine se rfl (d_alloc (cs := [.bool _, .int .i64 _, .int .i64 _, .slice _ _ _]) hS Tryd.zeroValue31 rfl) ?_
            rintro _ w_26 ⟨b8, rfl, hS⟩
            refine ⟨_, _, hS0.le (Sub.refl _) (List.sublist_cons_self _ _), hS, ?_⟩
            refine sb rfl (d_store 0 hS Tryd.sizeOf31 rfl rfl rfl (vs := [.bool _, .int .i64 _, .int .i64 _, .slice _ _ _]) rfl rfl rfl (Nat.le_of_ble_eq_true rfl) (cs' := [_, _, _, _]) rfl) ?_
            rintro _ w_27 ⟨rfl, hS⟩
            refine ⟨_, _, hS, ?_⟩
            refine sb rfl (d_store 1 hS Tryd.sizeOf31 rfl rfl rfl (vs := [.bool _, .int .i64 _, .int .i64 _, .slice _ _ _]) rfl rfl rfl (Nat.le_of_ble_eq_true rfl) (cs' := [_, _, _, _]) rfl) ?_
            rintro _ w_28 ⟨rfl, hS⟩
            refine ⟨_, _, hS, ?_⟩
            refine sn (thenN ?_)
            exact ⟨_, rfl, b8, b9, _, _, _, _, _, _, _, ⟨⟨rfl, rfl, rfl, rfl, trivial⟩, (hS.sel [true, true, false, false])⟩, h29, h34, hb⟩
          ·
            have hS0 := hS
            refine se rfl (d_alloc (cs := [.bool _, .int .i64 _, .int .i64 _, .slice _ _ _]) hS Tryd.zeroValue31 rfl) ?_
            rintro _ w_29 ⟨b8, rfl, hS⟩
            refine ⟨_, _, hS0.le (Sub.refl _) (List.sublist_cons_self _ _), hS, ?_⟩
            have hS0 := hS
            refine se rfl (d_call Tryd.call10 rfl (made14_c r1 f1 q a1 c1 l1 _ _ hS.imm h5 hq2 hr1 hN.eq)) ?_
            rintro _ w_30 ⟨I_f, a34, m34, c34, rfl, hE, h34⟩
            replace hS := hS.call hE
            replace h4 := h4.mono hE.ext
            replace h5 := h5.mono hE.ext
            replace hb := hb.mono hE.ext
            replace h29 := h29.mono hE.ext
            refine ⟨_, _, hS0.le hE.ext (List.Sublist.refl _), hS, ?_⟩
            refine sb rfl (d_store 0 hS Tryd.sizeOf31 rfl rfl rfl (vs := [.bool _, .int .i64 _, .int .i64 _, .slice _ _ _]) rfl rfl rfl (Nat.le_of_ble_eq_true rfl) (cs' := [_, _, _, _]) rfl) ?_
            rintro _ w_31 ⟨rfl, hS⟩
            refine ⟨_, _, hS, ?_⟩
            refine sb rfl (d_store 1 hS Tryd.sizeOf31 rfl rfl rfl (vs := [.bool _, .int .i64 _, .int .i64 _, .slice _ _ _]) rfl rfl rfl (Nat.le_of_ble_eq_true rfl) (cs' := [_, _, _, _]) rfl) ?_
            rintro _ w_32 ⟨rfl, hS⟩
            refine ⟨_, _, hS, ?_⟩
            refine sn (thenN ?_)
            exact ⟨_, rfl, b8, b9, _, _, _, _, _, _, _, ⟨⟨rfl, rfl, rfl, rfl, trivial⟩, (hS.sel [true, true, false, false])⟩, h29, h34, hb⟩
      ·
        have hS0 := hS
        refine se rfl (d_alloc (cs := [.bool _, .int .i64 _, .int .i64 _, .slice _ _ _]) hS Tryd.zeroValue31 rfl) ?_
        rintro _ w_33 ⟨b8, rfl, hS⟩
        refine ⟨_, _, hS0.le (Sub.refl _) (List.sublist_cons_self _ _), hS, ?_⟩
        refine sk ?_ ?_
        ·
          have hS0 := hS
          refine se rfl (d_call Tryd.call10 rfl (made14_c r0 f0 p a0 c0 l0 _ _ hS.imm h4 hq hr0 hM.eq)) ?_
          rintro _ w_34 ⟨I_f, a29, m29, c29, rfl, hE, h29⟩
          replace hS := hS.call hE
          replace h4 := h4.mono hE.ext
          replace h5 := h5.mono hE.ext
          replace hb := hb.mono hE.ext
          refine ⟨_, _, hS0.le hE.ext (List.Sublist.refl _), hS, ?_⟩
          refine sk ?_ ?_
          ·
            have hS0 := hS
            refine se rfl (d_call Tryd.call10 rfl (made14_c r1 f1 q a1 c1 l1 _ _ hS.imm h5 hq2 hr1 hN.eq)) ?_
            rintro _ w_35 ⟨I_f, a34, m34, c34, rfl, hE, h34⟩
            replace hS := hS.call hE
            replace h4 := h4.mono hE.ext
            replace h5 := h5.mono hE.ext
            replace hb := hb.mono hE.ext
            replace h29 := h29.mono hE.ext
            refine ⟨_, _, hS0.le hE.ext (List.Sublist.refl _), hS, ?_⟩
            have hS0 := hS
            refine se rfl (d_alloc (cs := [.bool _, .int .i64 _, .int .i64 _, .slice _ _ _]) hS Tryd.zeroValue31 rfl) ?_
            rintro _ w_36 ⟨b9, rfl, hS⟩
            refine ⟨_, _, hS0.le (Sub.refl _) (List.sublist_cons_self _ _), hS, ?_⟩
            refine sb rfl (d_store 1 hS Tryd.sizeOf31 rfl rfl rfl (vs := [.bool _, .int .i64 _, .int .i64 _, .slice _ _ _]) rfl rfl rfl (Nat.le_of_ble_eq_true rfl) (cs' := [_, _, _, _]) rfl) ?_
            rintro _ w_37 ⟨rfl, hS⟩
            refine ⟨_, _, hS, ?_⟩
            refine sb rfl (d_store 0 hS Tryd.sizeOf31 rfl rfl rfl (vs := [.bool _, .int .i64 _, .int .i64 _, .slice _ _ _]) rfl rfl rfl (Nat.le_of_ble_eq_true rfl) (cs' := [_, _, _, _]) rfl) ?_
            rintro _ w_38 ⟨rfl, hS⟩
            refine ⟨_, _, hS, ?_⟩
            refine sn (thenN ?_)
            exact ⟨_, rfl, b8, b9, _, _, _, _, _, _, _, ⟨⟨rfl, rfl, rfl, rfl, trivial⟩, (hS.ord [1, 0])⟩, h29, h34, hb⟩
          ·
            have hS0 := hS
            refine se rfl (d_alloc (cs := [.bool _, .int .i64 _, .int .i64 _, .slice _ _ _]) hS Tryd.zeroValue31 rfl) ?_
            rintro _ w_39 ⟨b9, rfl, hS⟩
            refine ⟨_, _, hS0.le (Sub.refl _) (List.sublist_cons_self _ _), hS, ?_⟩
            have hS0 := hS
            refine se rfl (d_call Tryd.call10 rfl (made14_c r1 f1 q a1 c1 l1 _ _ hS.imm h5 hq2 hr1 hN.eq)) ?_
            rintro _ w_40 ⟨I_f, a34, m34, c34, rfl, hE, h34⟩
            replace hS := hS.call hE
            replace h4 := h4.mono hE.ext
            replace h5 := h5.mono hE.ext
            replace hb := hb.mono hE.ext
            replace h29 := h29.mono hE.ext
            refine ⟨_, _, hS0.le hE.ext (List.Sublist.refl _), hS, ?_⟩
            refine sb rfl (d_store 1 hS Tryd.sizeOf31 rfl rfl rfl (vs := [.bool _, .int .i64 _, .int .i64 _, .slice _ _ _]) rfl rfl rfl (Nat.le_of_ble_eq_true rfl) (cs' := [_, _, _, _]) rfl) ?_
            rintro _ w_41 ⟨rfl, hS⟩
            refine ⟨_, _, hS, ?_⟩
            refine sb rfl (d_store 0 hS Tryd.sizeOf31 rfl rfl rfl (vs := [.bool _, .int .i64 _, .int .i64 _, .slice _ _ _]) rfl rfl rfl (Nat.le_of_ble_eq_true rfl) (cs' := [_, _, _, _]) rfl) ?_
            rintro _ w_42 ⟨rfl, hS⟩
            refine ⟨_, _, hS, ?_⟩
            refine sn (thenN ?_)
            exact ⟨_, rfl, b8, b9, _, _, _, _, _, _, _, ⟨⟨rfl, rfl, rfl, rfl, trivial⟩, (hS.ord [1, 0])⟩, h29, h34, hb⟩
        ·
          have hS0 := hS
          refine se rfl (d_alloc (cs := [.bool _, .int .i64 _, .int .i64 _, .slice _ _ _]) hS Tryd.zeroValue31 rfl) ?_
          rintro _ w_43 ⟨b9, rfl, hS⟩
          refine ⟨_, _, hS0.le (Sub.refl _) (List.sublist_cons_self _ _), hS, ?_⟩
          have hS0 := hS
          refine se rfl (d_call Tryd.call10 rfl (made14_c r0 f0 p a0 c0 l0 _ _ hS.imm h4 hq hr0 hM.eq)) ?_
          rintro _ w_44 ⟨I_f, a29, m29, c29, rfl, hE, h29⟩
          replace hS := hS.call hE
          replace h4 := h4.mono hE.ext
          replace h5 := h5.mono hE.ext
          replace hb := hb.mono hE.ext
          refine ⟨_, _, hS0.le hE.ext (List.Sublist.refl _), hS, ?_⟩
          have hS0 := hS
          refine se rfl (d_call Tryd.call10 rfl (made14_c r1 f1 q a1 c1 l1 _ _ hS.imm h5 hq2 hr1 hN.eq)) ?_
          rintro _ w_45 ⟨I_f, a34, m34, c34, rfl, hE, h34⟩
          replace hS := hS.call hE
          replace h4 := h4.mono hE.ext
          replace h5 := h5.mono hE.ext
          replace hb := hb.mono hE.ext
          replace h29 := h29.mono hE.ext
          refine ⟨_, _, hS0.le hE.ext (List.Sublist.refl _), hS, ?_⟩
          refine sb rfl (d_store 1 hS Tryd.sizeOf31 rfl rfl rfl (vs := [.bool _, .int .i64 _, .int .i64 _, .slice _ _ _]) rfl rfl rfl (Nat.le_of_ble_eq_true rfl) (cs' := [_, _, _, _]) rfl) ?_
          rintro _ w_46 ⟨rfl, hS⟩
          refine ⟨_, _, hS, ?_⟩
          refine sb rfl (d_store 0 hS Tryd.sizeOf31 rfl rfl rfl (vs := [.bool _, .int .i64 _, .int .i64 _, .slice _ _ _]) rfl rfl rfl (Nat.le_of_ble_eq_true rfl) (cs' := [_, _, _, _]) rfl) ?_
          rintro _ w_47 ⟨rfl, hS⟩
          refine ⟨_, _, hS, ?_⟩
          refine sn (thenN ?_)
          exact ⟨_, rfl, b8, b9, _, _, _, _, _, _, _, ⟨⟨rfl, rfl, rfl, rfl, trivial⟩, (hS.ord [1, 0])⟩, h29, h34, hb⟩
      ·
        have hS0 := hS
        refine se rfl (d_alloc (cs := [.bool _, .int .i64 _, .int .i64 _, .slice _ _ _]) hS Tryd.zeroValue31 rfl) ?_
        rintro _ w_48 ⟨b9, rfl, hS⟩
        refine ⟨_, _, hS0.le (Sub.refl _) (List.sublist_cons_self _ _), hS, ?_⟩
        refine sk ?_ ?_
        ·
          have hS0 := hS
          refine se rfl (d_call Tryd.call10 rfl (made14_c r0 f0 p a0 c0 l0 _ _ hS.imm h4 hq hr0 hM.eq)) ?_
          rintro _ w_49 ⟨I_f, a29, m29, c29, rfl, hE, h29⟩
          replace hS := hS.call hE
          replace h4 := h4.mono hE.ext
          replace h5 := h5.mono hE.ext
          replace hb := hb.mono hE.ext
          refine ⟨_, _, hS0.le hE.ext (List.Sublist.refl _), hS, ?_⟩
          refine sk ?_ ?_
          ·
            have hS0 := hS
            refine se rfl (d_call Tryd.call10 rfl (made14_c r1 f1 q a1 c1 l1 _ _ hS.imm h5 hq2 hr1 hN.eq)) ?_
            rintro _ w_50 ⟨I_f, a34, m34, c34, rfl, hE, h34⟩
            replace hS := hS.call hE
            replace h4 := h4.mono hE.ext
            replace h5 := h5.mono hE.ext
            replace hb := hb.mono hE.ext
            replace h29 := h29.mono hE.ext
            refine ⟨_, _, hS0.le hE.ext (List.Sublist.refl _), hS, ?_⟩
            have hS0 := hS
            refine se rfl (d_alloc (cs := [.bool _, .int .i64 _, .int .i64 _, .slice _ _ _]) hS Tryd.zeroValue31 rfl) ?_
            rintro _ w_51 ⟨b8, rfl, hS⟩
            refine ⟨_, _, hS0.le (Sub.refl _) (List.sublist_cons_self _ _), hS, ?_⟩
            refine sb rfl (d_store 0 hS Tryd.sizeOf31 rfl rfl rfl (vs := [.bool _, .int .i64 _, .int .i64 _, .slice _ _ _]) rfl rfl rfl (Nat.le_of_ble_eq_true rfl) (cs' := [_, _, _, _]) rfl) ?_
            rintro _ w_52 ⟨rfl, hS⟩
            refine ⟨_, _, hS, ?_⟩
            refine sb rfl (d_store 1 hS Tryd.sizeOf31 rfl rfl rfl (vs := [.bool _, .int .i64 _, .int .i64 _, .slice _ _ _]) rfl rfl rfl (Nat.le_of_ble_eq_true rfl) (cs' := [_, _, _, _]) rfl) ?_
            rintro _ w_53 ⟨rfl, hS⟩
            refine ⟨_, _, hS, ?_⟩
            refine sn (thenN ?_)
            exact ⟨_, rfl, b8, b9, _, _, _, _, _, _, _, ⟨⟨rfl, rfl, rfl, rfl, trivial⟩, (hS.sel [true, true, false, false])⟩, h29, h34, hb⟩
          ·
            have hS0 := hS
            refine se rfl (d_alloc (cs := [.bool _, .int .i64 _, .int .i64 _, .slice _ _ _]) hS Tryd.zeroValue31 rfl) ?_
            rintro _ w_54 ⟨b8, rfl, hS⟩
            refine ⟨_, _, hS0.le (Sub.refl _) (List.sublist_cons_self _ _), hS, ?_⟩
            have hS0 := hS
            refine se rfl (d_call Tryd.call10 rfl (made14_c r1 f1 q a1 c1 l1 _ _ hS.imm h5 hq2 hr1 hN.eq)) ?_
            rintro _ w_55 ⟨I_f, a34, m34, c34, rfl, hE, h34⟩
            replace hS := hS.call hE
            replace h4 := h4.mono hE.ext
            replace h5 := h5.mono hE.ext
            replace hb := hb.mono hE.ext
            replace h29 := h29.mono hE.ext
            refine ⟨_, _, hS0.le hE.ext (List.Sublist.refl _), hS, ?_⟩
            refine sb rfl (d_store 0 hS Tryd.sizeOf31 rfl rfl rfl (vs := [.bool _, .int .i64 _, .int .i64 _, .slice _ _ _]) rfl rfl rfl (Nat.le_of_ble_eq_true rfl) (cs' := [_, _, _, _]) rfl) ?_
            rintro _ w_56 ⟨rfl, hS⟩
            refine ⟨_, _, hS, ?_⟩
            refine sb rfl (d_store 1 hS Tryd.sizeOf31 rfl rfl rfl (vs := [.bool _, .int .i64 _, .int .i64 _, .slice _ _ _]) rfl rfl rfl (Nat.le_of_ble_eq_true rfl) (cs' := [_, _, _, _]) rfl) ?_
            rintro _ w_57 ⟨rfl, hS⟩
            refine ⟨_, _, hS, ?_⟩
            refine sn (thenN ?_)
            exact ⟨_, rfl, b8, b9, _, _, _, _, _, _, _, ⟨⟨rfl, rfl, rfl, rfl, trivial⟩, (hS.sel [true, true, false, false])⟩, h29, h34, hb⟩
        ·
          have hS0 := hS
          refine se rfl (d_alloc (cs := [.bool _, .int .i64 _, .int .i64 _, .slice _ _ _]) hS Tryd.zeroValue31 rfl) ?_
          rintro _ w_58 ⟨b8, rfl, hS⟩
          refine ⟨_, _, hS0.le (Sub.refl _) (List.sublist_cons_self _ _), hS, ?_⟩
          have hS0 := hS
          refine se rfl (d_call Tryd.call10 rfl (made14_c r0 f0 p a0 c0 l0 _ _ hS.imm h4 hq hr0 hM.eq)) ?_
          rintro _ w_59 ⟨I_f, a29, m29, c29, rfl, hE, h29⟩
          replace hS := hS.call hE
          replace h4 := h4.mono hE.ext
          replace h5 := h5.mono hE.ext
          replace hb := hb.mono hE.ext
          refine ⟨_, _, hS0.le hE.ext (List.Sublist.refl _), hS, ?_⟩
          have hS0 := hS
          refine se rfl (d_call Tryd.call10 rfl (made14_c r1 f1 q a1 c1 l1 _ _ hS.imm h5 hq2 hr1 hN.eq)) ?_
          rintro _ w_60 ⟨I_f, a34, m34, c34, rfl, hE, h34⟩
          replace hS := hS.call hE
          replace h4 := h4.mono hE.ext
          replace h5 := h5.mono hE.ext
          replace hb := hb.mono hE.ext
          replace h29 := h29.mono hE.ext
          refine ⟨_, _, hS0.le hE.ext (List.Sublist.refl _), hS, ?_⟩
          refine sb rfl (d_store 0 hS Tryd.sizeOf31 rfl rfl rfl (vs := [.bool _, .int .i64 _, .int .i64 _, .slice _ _ _]) rfl rfl rfl (Nat.le_of_ble_eq_true rfl) (cs' := [_, _, _, _]) rfl) ?_
          rintro _ w_61 ⟨rfl, hS⟩
          refine ⟨_, _, hS, ?_⟩
          refine sb rfl (d_store 1 hS Tryd.sizeOf31 rfl rfl rfl (vs := [.bool _, .int .i64 _, .int .i64 _, .slice _ _ _]) rfl rfl rfl (Nat.le_of_ble_eq_true rfl) (cs' := [_, _, _, _]) rfl) ?_
          rintro _ w_62 ⟨rfl, hS⟩
          refine ⟨_, _, hS, ?_⟩
          refine sn (thenN ?_)
          exact ⟨_, rfl, b8, b9, _, _, _, _, _, _, _, ⟨⟨rfl, rfl, rfl, rfl, trivial⟩, (hS.sel [true, true, false, false])⟩, h29, h34, hb⟩
    ·
      rintro σ w ⟨b8, b9, J, a29, m29, c29, a34, m34, c34, ⟨hs, hS⟩, h29, h34, hb⟩
      rw [← upds_self hs]
      refine wpIn_seq ?_
      refine reg ?_
      refine qq hS (g_ldO 0 (vs := [.bool _, .int .i64 _, .int .i64 _, .slice _ _ _]) Tryd.sizeOf31 Tryd.isAgg31 rfl rfl rfl rfl) ?_
      refine qe (d_call Tryd.call11 rfl (packB_c p B _ _ _ _ _ hS.imm h29 hM.wf hM.chk hM.pk)) ?_
      rintro _ w_63 ⟨I_f, a37, c37, rfl, hE, h37⟩
      replace hS := hS.callE hE
      replace h29 := h29.mono hE.ext
      replace h34 := h34.mono hE.ext
      replace hb := hb.mono hE.ext
      refine qq hS (g_move _) ?_
      refine qq hS (g_extract rfl rfl) ?_
      refine qq hS (g_extract (v := .int .i64 _) rfl rfl) ?_
      refine qq hS (g_assign _) ?_
      refine qq hS (g_assignv (v := .int .i64 _) rfl) ?_
      refine ol_nil (thenN ?_)
      refine wpIn_seq ?_
      refine reg ?_
      refine qq hS (g_ldO 1 (vs := [.bool _, .int .i64 _, .int .i64 _, .slice _ _ _]) Tryd.sizeOf31 Tryd.isAgg31 rfl rfl rfl rfl) ?_
      refine qe (d_call Tryd.call11 rfl (packB_c q C _ _ _ _ _ hS.imm h34 hN.wf hN.chk hN.pk)) ?_
      rintro _ w_64 ⟨I_f, a42, c42, rfl, hE, h42⟩
      replace hS := hS.callE hE
      replace h29 := h29.mono hE.ext
      replace h34 := h34.mono hE.ext
      replace hb := hb.mono hE.ext
      replace h37 := h37.mono hE.ext
      refine qq hS (g_move _) ?_
      refine qq hS (g_extract rfl rfl) ?_
      refine qq hS (g_extract (v := .int .i64 _) rfl rfl) ?_
      refine qq hS (g_assign _) ?_
      refine qq hS (g_assignv (v := .int .i64 _) rfl) ?_
      refine ol_nil (thenN ?_)
      refine wpIn_seq ?_
      refine wpIn_seq ?_
      refine draw (.cons 0 .pure (.cons 1 .pure (.cons 2 .pure (.cons 3 .pure (.cons 4 .pure (.cons 5 .pure (.cons 6 .pure (.cons 7 .pure (.cons 8 .pure (.cons 10 .held (.cons 11 .held (.cons 9 .eff (.cons 12 .eff (.cons 13 .pure (.cons 14 .pure .nil))))))))))))))) mixed (by kernel_rfl) hS ?_
      intro w_65 hS
      refine sp rfl (g_movev (v := .int .i64 _) rfl) ?_
      refine sp rfl (g_neq rfl rfl) ?_
      refine sp rfl (g_movev (v := .bool _) rfl) ?_
      refine spt rfl rfl rfl (g_movev (v := .int .i64 _) rfl) ?_
      refine spt rfl rfl rfl (g_neq rfl rfl) ?_
      refine sp rfl (g_or rfl rfl (fun _ => rfl)) ?_
      refine sp rfl (g_movev (v := .bool _) rfl) ?_
      refine spt rfl rfl rfl (g_move _) ?_
      refine spt rfl rfl rfl (g_move _) ?_
      refine sht rfl rfl rfl (g_ldO 0 (vs := [.bool _, .int .i64 _, .int .i64 _, .slice _ _ _]) Tryd.sizeOf31 Tryd.isAgg31 rfl rfl rfl rfl) ?_
      refine sht rfl rfl rfl (g_ldO 1 (vs := [.bool _, .int .i64 _, .int .i64 _, .slice _ _ _]) Tryd.sizeOf31 Tryd.isAgg31 rfl rfl rfl rfl) ?_
      have hS0 := hS
      refine Inl.set rfl rfl rfl (d_call Tryd.call13 rfl (same14_c _ _ B C _ _ hS.imm h37 h42)) ?_
      rintro _ w_66 ⟨rfl, hE⟩
      replace hS := hS.call hE
      refine ⟨_, _, hS0.le hE.ext (List.Sublist.refl _), hS, ?_⟩
      have hS0 := hS
      refine Inl.set rfl rfl rfl (d_call Tryd.call17 rfl (sameR_e p q _ _ _ _ _ _ (samePR p q) _ _ hS.imm h29 hM.wf h34 hN.wf rfl)) ?_
      rintro _ w_67 ⟨rfl, hE⟩
      replace hS := hS.call hE
      refine ⟨_, _, hS0.le hE.ext (List.Sublist.refl _), hS, ?_⟩
      refine spt rfl rfl rfl (g_castT (g_neqb Tryd.underlying4 rfl rfl) (congrArg Value.bool (show (decide (B = C) != samePR p q) = false by rw [hsm]; simp))) ?_
      refine sp rfl (g_or rfl rfl (fun _ => rfl)) ?_
      refine sn (thenN ?_)
      refine cond_f (rfl) ?_
      refine wpIn_skip ?_
      refine thenN ?_
      refine wpIn_seq ?_
      refine reg ?_
      refine qq hS (g_move _) ?_
      refine qe (d_buildSlice0 hS Tryd.underlying25 Tryd.sizeOf5) ?_
      clear hS
      rintro _ w_68 ⟨hS, b61_, rfl⟩
      refine qq hS (g_move _) ?_
      refine qe (i_appendF 0 hS rfl Tryd.underlying25 info5 rfl rfl rfl rfl byteC_len (fun _ => rfl) hb rfl (by omega) (by omega)) ?_
      clear hS
      rintro _ w_69 ⟨a63, p63, rfl, hS⟩
      refine qq hS (g_move _) ?_
      refine qe (d_call Tryd.call14 rfl (sumR_c _ _ _ bs _ _ hS.imm hb hbb rfl)) ?_
      rintro _ w_70 ⟨I_f, a65, _, c65, rfl, hE, h65, rfl⟩
      replace hS := hS.callE hE
      replace h29 := h29.mono hE.ext
      replace h34 := h34.mono hE.ext
      replace hb := hb.mono hE.ext
      replace h37 := h37.mono hE.ext
      replace h42 := h42.mono hE.ext
      have hl65 := sumP_len bs
      refine qe (i_appendF 0 hS rfl Tryd.underlying25 info5 rfl rfl rfl rfl byteC_len (fun _ => rfl) h65 rfl (by omega) (by omega)) ?_
      clear hS
      rintro _ w_71 ⟨a66, p66, rfl, hS⟩
      refine qe (d_lit (vs := [.slice _ _ _, .slice _ _ _]) (cs := [.slice _ _ _, .slice _ _ _]) hS Tryd.underlying38 Tryd.sizeOf25 Tryd.zeroValue25 rfl rfl rfl rfl (fun v hv => by simp only [List.mem_cons, List.not_mem_nil, or_false] at hv; rcases hv with rfl | rfl <;> rfl) rfl) ?_
      clear hS
      rintro _ w_72 ⟨b67, rfl, hS⟩
      refine qq hS (g_assign _) ?_
      refine ol_nil (thenN ?_)
      refine wpIn_seq ?_
      refine wpIn_seq ?_
      have hF := St.freezeRow (u := .slice a66 (0 + bs.length + 4) p66) (m := (0 + bs.length + 4)) (xs := (bs ++ Inl.sumP bs)) byteC_len (by rw [flat_append]; exact hS.ord [1, 0, 2, 3]) (by rw [List.length_append, sumP_len]; omega)
      clear hS
      obtain ⟨I_htx, hS, hI_htx, htx⟩ := hF
      replace h29 := h29.mono hI_htx
      replace h34 := h34.mono hI_htx
      replace hb := hb.mono hI_htx
      replace h37 := h37.mono hI_htx
      replace h42 := h42.mono hI_htx
      replace h65 := h65.mono hI_htx
      refine reg ?_
      refine qq hS (g_assignv (v := .int .i64 _) rfl) ?_
      refine ol_nil (thenN ?_)
      refine wpIn_block ?_
      refine loop (fun (k : Nat) σ w => okS σ [(7, .bool true), (14, .slice (some ⟨b67, 0, none⟩) 2 2), (15, .int .i64 k)] ∧ ∃ I, St [] w0 I0 I w [.cel b67 25 [.slice bd bs.length bc, .slice a66 (0 + bs.length + 4) p66]] ∧ k ≤ 2 ∧ RBytes I (.slice bd bs.length bc) bs ∧ RBytes I (.slice a66 (0 + bs.length + 4) p66) (bs ++ Inl.sumP bs)) (fun k => 2 - k) (0) ?_ ?_
      ·
        exact ⟨⟨rfl, rfl, rfl, trivial⟩, _, hS.sel [true, false, false], by omega, hb, htx⟩
      ·
        rintro k σ w_l ⟨hs, I, hS, hk0, hb, htx⟩
        rw [← upds_self hs]; clear hs
        refine wpIn_seq ?_
        refine wpIn_seq ?_
        refine reg ?_
        refine qq hS (g_movev (v := .int .i64 _) rfl) ?_
        refine qq hS (g_lss rfl rfl) ?_
        refine ol_nil (thenN ?_)
        refine cond_s rfl ?_ ?_
        ·
          intro hc69
          try simp only [Bool.and_eq_true, Bool.or_eq_true, Bool.not_eq_true', Bool.and_eq_false_imp, Bool.or_eq_false_iff, Bool.not_eq_false', decide_eq_true_eq, decide_eq_false_iff_not] at hc69
          refine wpIn_skip ?_
          refine thenN ?_
          refine wpIn_seq ?_
          refine wpIn_block ?_
          refine wpIn_seq ?_
          refine (show k = 0 ∨ k = 1 by omega).elim (fun hk1 => ?_) (fun hk1 => ?_)
          ·
            subst hk1
            refine reg ?_
            refine qq hS (g_move _) ?_
            refine qq hS (g_movev (v := .int .i64 _) rfl) ?_
            refine qq hS (g_indexAddr Tryd.underlying38 Tryd.sizeOf25 rfl rfl (by omega) (by omega)) ?_
            refine qq hS (g_ldO1 0 Tryd.isAgg25 rfl rfl rfl) ?_
            refine qe (d_call Tryd.call15 rfl (unpW_c bs hbb bd bs.length bc _ _ hS.imm rfl hb)) ?_
            rintro _ w_73 ⟨I_f, u, au, mu, cu, eu, rfl, hE, hu⟩
            replace hS := hS.callE hE
            replace hb := hb.mono hE.ext
            replace htx := htx.mono hE.ext
            refine qq hS (g_move _) ?_
            refine qq hS (g_extract rfl rfl) ?_
            refine qq hS (g_extract (v := .int .i64 _) rfl rfl) ?_
            refine qe (d_alloc (cs := [.bool _, .int .i64 _, .int .i64 _, .slice _ _ _]) hS Tryd.zeroValue31 rfl) ?_
            clear hS
            rintro _ w_74 ⟨b16, rfl, hS⟩
            refine qe (d_store 0 hS Tryd.sizeOf31 rfl rfl rfl (vs := [.bool _, .int .i64 _, .int .i64 _, .slice _ _ _]) rfl rfl rfl (Nat.le_of_ble_eq_true rfl) (cs' := [_, _, _, _]) rfl) ?_
            clear hS
            rintro _ w_75 ⟨rfl, hS⟩
            refine qq hS (g_assignv (v := .int .i64 _) rfl) ?_
            refine ol_nil (thenN ?_)
            refine wpIn_seq ?_
            refine wpIn_seq ?_
            refine reg ?_
            refine qq hS (g_movev (v := .int .i64 _) rfl) ?_
            refine qq hS (g_neq rfl rfl) ?_
            refine ol_nil (thenN ?_)
            refine cond_s rfl ?_ ?_
            ·
              intro hc81
              try simp only [Bool.and_eq_true, Bool.or_eq_true, Bool.not_eq_true', Bool.and_eq_false_imp, Bool.or_eq_false_iff, Bool.not_eq_false', decide_eq_true_eq, decide_eq_false_iff_not] at hc81
              refine wpIn_exit ?_
              refine thenE (blkE ?_)
              refine thenN ?_
              refine reg ?_
              refine qq hS (g_movev (v := .int .i64 _) rfl) ?_
              refine qq hS (g_add rfl rfl (by omega) (by omega)) ?_
              refine qq hS (g_assignv (v := .int .i64 _) rfl) ?_
              refine ol_nil (thenN ?_)
              exact ⟨_ + 1, _, rfl, ⟨⟨rfl, rfl, rfl, trivial⟩, _, hS.sel [false, true], by omega, hb, htx⟩, by omega⟩
            ·
              intro hc81
              try simp only [Bool.and_eq_true, Bool.or_eq_true, Bool.not_eq_true', Bool.and_eq_false_imp, Bool.or_eq_false_iff, Bool.not_eq_false', decide_eq_true_eq, decide_eq_false_iff_not] at hc81
              obtain ⟨huw, huk, hup, huo⟩ := hu (by omega)
              refine wpIn_skip ?_
              refine thenN ?_
              refine wpIn_seq ?_
              refine reg ?_
              refine qq hS (g_ldO 0 (vs := [.bool _, .int .i64 _, .int .i64 _, .slice _ _ _]) Tryd.sizeOf31 Tryd.isAgg31 rfl rfl rfl rfl) ?_
              refine qe (d_call Tryd.call11 rfl (packB_c u bs _ _ _ _ _ hS.imm huo huw huk hup)) ?_
              rintro _ w_76 ⟨I_f, a84, c84, rfl, hE, h84⟩
              replace hS := hS.callE hE
              replace hb := hb.mono hE.ext
              replace htx := htx.mono hE.ext
              replace huo := huo.mono hE.ext
              refine qq hS (g_move _) ?_
              refine qq hS (g_extract rfl rfl) ?_
              refine qq hS (g_extract (v := .int .i64 _) rfl rfl) ?_
              refine qq hS (g_assign _) ?_
              refine qq hS (g_assignv (v := .int .i64 _) rfl) ?_
              refine ol_nil (thenN ?_)
              refine wpIn_seq ?_
              refine reg ?_
              refine qq hS (g_movev (v := .int .i64 _) rfl) ?_
              refine qq hS (g_neq rfl rfl) ?_
              refine qq hS (g_movev (v := .bool _) rfl) ?_
              refine qqs rfl rfl hS (g_move _) ?_
              refine qqs rfl rfl hS (g_move _) ?_
              refine qqs rfl rfl hS (g_movev (v := .int .i64 _) rfl) ?_
              refine qqs rfl rfl hS (g_indexAddr Tryd.underlying38 Tryd.sizeOf25 rfl rfl (by omega) (by omega)) ?_
              refine qqs rfl rfl hS (g_ldO1 1 Tryd.isAgg25 rfl rfl rfl) ?_
              refine qes rfl rfl (d_call Tryd.call13 rfl (same14_E _ _ bs bs _ _ hS.imm h84 hb rfl)) ?_
              rintro _ w_77 ⟨rfl, hE⟩
              replace hS := hS.callE hE
              refine qqs rfl rfl hS (g_not rfl) ?_
              refine qq hS (g_or rfl rfl (fun _ => rfl)) ?_
              refine ol_nil (thenN ?_)
              refine cond_f (rfl) ?_
              refine wpIn_skip ?_
              refine blkN (thenN ?_)
              refine reg ?_
              refine qq hS (g_movev (v := .int .i64 _) rfl) ?_
              refine qq hS (g_add rfl rfl (by omega) (by omega)) ?_
              refine qq hS (g_assignv (v := .int .i64 _) rfl) ?_
              refine ol_nil (thenN ?_)
              exact ⟨_ + 1, _, rfl, ⟨⟨rfl, rfl, rfl, trivial⟩, _, hS.sel [false, true], by omega, hb, htx⟩, by omega⟩
          ·
            subst hk1
            refine reg ?_
            refine qq hS (g_move _) ?_
            refine qq hS (g_movev (v := .int .i64 _) rfl) ?_
            refine qq hS (g_indexAddr Tryd.underlying38 Tryd.sizeOf25 rfl rfl (by omega) (by omega)) ?_
            refine qq hS (g_ldO1 0 Tryd.isAgg25 rfl rfl rfl) ?_
            refine qe (d_call Tryd.call15 rfl (unpW_c (bs ++ Inl.sumP bs) (byt_app hbb (sumP_byt bs)) a66 (0 + bs.length + 4) p66 _ _ hS.imm (by rw [List.length_append, sumP_len]; omega) htx)) ?_
            rintro _ w_78 ⟨I_f, u, au, mu, cu, eu, rfl, hE, hu⟩
            replace hS := hS.callE hE
            replace hb := hb.mono hE.ext
            replace htx := htx.mono hE.ext
            refine qq hS (g_move _) ?_
            refine qq hS (g_extract rfl rfl) ?_
            refine qq hS (g_extract (v := .int .i64 _) rfl rfl) ?_
            refine qe (d_alloc (cs := [.bool _, .int .i64 _, .int .i64 _, .slice _ _ _]) hS Tryd.zeroValue31 rfl) ?_
            clear hS
            rintro _ w_79 ⟨b16, rfl, hS⟩
            refine qe (d_store 0 hS Tryd.sizeOf31 rfl rfl rfl (vs := [.bool _, .int .i64 _, .int .i64 _, .slice _ _ _]) rfl rfl rfl (Nat.le_of_ble_eq_true rfl) (cs' := [_, _, _, _]) rfl) ?_
            clear hS
            rintro _ w_80 ⟨rfl, hS⟩
            refine qq hS (g_assignv (v := .int .i64 _) rfl) ?_
            refine ol_nil (thenN ?_)
            refine wpIn_seq ?_
            refine wpIn_seq ?_
            refine reg ?_
            refine qq hS (g_movev (v := .int .i64 _) rfl) ?_
            refine qq hS (g_neq rfl rfl) ?_
            refine ol_nil (thenN ?_)
            refine cond_s rfl ?_ ?_
            ·
              intro hc81
              try simp only [Bool.and_eq_true, Bool.or_eq_true, Bool.not_eq_true', Bool.and_eq_false_imp, Bool.or_eq_false_iff, Bool.not_eq_false', decide_eq_true_eq, decide_eq_false_iff_not] at hc81
              refine wpIn_exit ?_
              refine thenE (blkE ?_)
              refine thenN ?_
              refine reg ?_
              refine qq hS (g_movev (v := .int .i64 _) rfl) ?_
              refine qq hS (g_add rfl rfl (by omega) (by omega)) ?_
              refine qq hS (g_assignv (v := .int .i64 _) rfl) ?_
              refine ol_nil (thenN ?_)
              exact ⟨_ + 1, _, rfl, ⟨⟨rfl, rfl, rfl, trivial⟩, _, hS.sel [false, true], by omega, hb, htx⟩, by omega⟩
            ·
              intro hc81
              try simp only [Bool.and_eq_true, Bool.or_eq_true, Bool.not_eq_true', Bool.and_eq_false_imp, Bool.or_eq_false_iff, Bool.not_eq_false', decide_eq_true_eq, decide_eq_false_iff_not] at hc81
              obtain ⟨huw, huk, hup, huo⟩ := hu (by omega)
              refine wpIn_skip ?_
              refine thenN ?_
              refine wpIn_seq ?_
              refine reg ?_
              refine qq hS (g_ldO 0 (vs := [.bool _, .int .i64 _, .int .i64 _, .slice _ _ _]) Tryd.sizeOf31 Tryd.isAgg31 rfl rfl rfl rfl) ?_
              refine qe (d_call Tryd.call11 rfl (packB_c u (bs ++ Inl.sumP bs) _ _ _ _ _ hS.imm huo huw huk hup)) ?_
              rintro _ w_81 ⟨I_f, a84, c84, rfl, hE, h84⟩
              replace hS := hS.callE hE
              replace hb := hb.mono hE.ext
              replace htx := htx.mono hE.ext
              replace huo := huo.mono hE.ext
              refine qq hS (g_move _) ?_
              refine qq hS (g_extract rfl rfl) ?_
              refine qq hS (g_extract (v := .int .i64 _) rfl rfl) ?_
              refine qq hS (g_assign _) ?_
              refine qq hS (g_assignv (v := .int .i64 _) rfl) ?_
              refine ol_nil (thenN ?_)
              refine wpIn_seq ?_
              refine reg ?_
              refine qq hS (g_movev (v := .int .i64 _) rfl) ?_
              refine qq hS (g_neq rfl rfl) ?_
              refine qq hS (g_movev (v := .bool _) rfl) ?_
              refine qqs rfl rfl hS (g_move _) ?_
              refine qqs rfl rfl hS (g_move _) ?_
              refine qqs rfl rfl hS (g_movev (v := .int .i64 _) rfl) ?_
              refine qqs rfl rfl hS (g_indexAddr Tryd.underlying38 Tryd.sizeOf25 rfl rfl (by omega) (by omega)) ?_
              refine qqs rfl rfl hS (g_ldO1 1 Tryd.isAgg25 rfl rfl rfl) ?_
              refine qes rfl rfl (d_call Tryd.call13 rfl (same14_E _ _ (bs ++ Inl.sumP bs) (bs ++ Inl.sumP bs) _ _ hS.imm h84 htx rfl)) ?_
              rintro _ w_82 ⟨rfl, hE⟩
              replace hS := hS.callE hE
              refine qqs rfl rfl hS (g_not rfl) ?_
              refine qq hS (g_or rfl rfl (fun _ => rfl)) ?_
              refine ol_nil (thenN ?_)
              refine cond_f (rfl) ?_
              refine wpIn_skip ?_
              refine blkN (thenN ?_)
              refine reg ?_
              refine qq hS (g_movev (v := .int .i64 _) rfl) ?_
              refine qq hS (g_add rfl rfl (by omega) (by omega)) ?_
              refine qq hS (g_assignv (v := .int .i64 _) rfl) ?_
              refine ol_nil (thenN ?_)
              exact ⟨_ + 1, _, rfl, ⟨⟨rfl, rfl, rfl, trivial⟩, _, hS.sel [false, true], by omega, hb, htx⟩, by omega⟩
        ·
          intro hc69
          try simp only [Bool.and_eq_true, Bool.or_eq_true, Bool.not_eq_true', Bool.and_eq_false_imp, Bool.or_eq_false_iff, Bool.not_eq_false', decide_eq_true_eq, decide_eq_false_iff_not] at hc69
          refine wpIn_exit ?_
          refine thenE (thenE (blkE ?_))
          refine thenN ?_
          refine wpIn_seq ?_
          refine reg ?_
          refine qq hS (g_movev (v := .bool _) rfl) ?_
          refine qq hS (g_assignv (v := .bool _) rfl) ?_
          refine ol_nil (thenN ?_)
          refine wpIn_ret ?_
          refine ret1 Tryd.results4 (rv_tmp (v := .bool _) rfl) ?_
          exact ⟨_, rfl, hS.nil⟩

end Go.Proofs.YtdgnojckkjfhfaaDoor

