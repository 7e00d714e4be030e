/- inlaylaw09.ComposeWhole, ComposeLeast, ComposeThrough: their functions answer true. Conditions: arguments are of their kinds. -/
import Derived.Test.YthningkgpanaoaaBase9
import Derived.Test.YthningkgpanaoaaLeastL
namespace Go.Proofs.Ythningkgpanaoaa
open Go Go.RowKit Go.Inl
set_option linter.unusedSimpArgs false
set_option linter.unusedVariables false
def lift (b : Bool) (p : PatL) : PatL := ⟨b, p.in_, p.out, p.ops⟩
theorem lift_wf {b : Bool} {p : PatL} (h : p.wf) : (lift b p).wf := ⟨h.in_, h.out, h.ops, h.len⟩
theorem whole_plain {p : PatL} (b : Bool) (hp : p.wf) (hk : (checkP p).2 = 0) (ho : p.out ≤ 4096) :
    formP (lift b p) = (formOf b p.in_ (symsOf p.ops), 0) ∧ composeP (lift b (wholeP p.in_)) (lift b p) = (formOf b p.in_ (symsOf p.ops), 0) ∧ composeP (lift b p) (lift b (wholeP p.out)) = (formOf b p.in_ (symsOf p.ops), 0) := by
  obtain ⟨k1, k2, k3, k4, k5, k6, k7⟩ := checkP_ok hk
  have hkb : (checkP (lift b p)).2 = 0 := hk
  have hwf := symsOf_wf hp
  rw [symbolsP_ok hk] at hwf
  have hby : ∀ s ∈ symsOf p.ops, 0 ≤ s.b ∧ s.b ≤ 255 := fun s hs => ⟨(hwf s hs).2.2.1, (hwf s hs).2.2.2⟩
  have hok := (ops_ok _ k1).1
  refine ⟨formP_ok hkb ho, ?_, ?_⟩
  · have h := composeP_ok (p := lift b (wholeP p.in_)) (q := lift b p) (wholeP_check ⟨k3, k4⟩) hkb rfl rfl ho
    have e1 : symsOf (lift b (wholeP p.in_)).ops = _ := wholeP_syms k3
    rw [e1] at h
    have e2 := whole_thr (n := p.in_.toNat) (l := symsOf p.ops) (by rw [show ((p.in_.toNat : Nat) : Int) = p.in_ by omega]; exact hok) hby
    have e3 : (symsOf (lift b p).ops) = symsOf p.ops := rfl
    rw [e3, e2] at h
    exact h
  · have h := composeP_ok (p := lift b p) (q := lift b (wholeP p.out)) hkb (wholeP_check ⟨k5, k6⟩) rfl rfl ho
    have e1 : symsOf (lift b (wholeP p.out)).ops = _ := wholeP_syms k5
    rw [e1, show p.out.toNat = (symsOf p.ops).length by omega] at h
    have e3 : (symsOf (lift b p).ops) = symsOf p.ops := rfl
    rw [e3, thr_whole hby] at h
    exact h
theorem sized_M (r : Int) (ad : Option Addr) (m cap : Nat) (l : List Q4) (size : Int) (p : PatL) (w0 : World) (I0 : Imm) (hI : Sat I0 w0) (hl : RFl I0 4 q4C (.slice ad m cap) l) (hm : m = l.length) (hq : ∀ q ∈ l, q.wf) (hs : 0 ≤ size ∧ size ≤ 65536) (hp : madeP l size = p) :
    Ctr Try.prog 25 [.agg #[.int .u8 r, .slice ad m cap], .int .i64 size] w0 (fun v w' => ∃ I' a m c, v = .agg #[.bool p.lifted, .int .i64 p.in_, .int .i64 p.out, .slice a m c] ∧ Ext w0 I0 w' I' ∧ ROps I' (.slice a m c) p.ops) := by
  subst hm; exact sized_E r ad cap l size p w0 I0 hI hl hq hs hp
theorem patchCost_f (b : Bool) (n : Int) (l : List Sym) (ad : Option Addr) (m cap : Nat) (w0 : World) (I0 : Imm) (hI : Sat I0 w0) (hops : ROps I0 (.slice ad m cap) (optL l)) (hw : ∀ s ∈ l, s.wf) (h0 : 0 ≤ n ∧ n ≤ 65536) (hn : l.length ≤ 4096) (ok : okL n l) :
    Ctr Try.prog 29 [.agg #[.bool b, .int .i64 n, .int .i64 l.length, .slice ad m cap]] w0 (fun v w' => v = .int .i64 (bestP l).cost ∧ Ext w0 I0 w' I0) := by
  obtain ⟨h1, h2, h3, h4⟩ := optL_spec ok
  have hb := ops_len_bd _ h2
  rw [h1] at hb
  have h := patchCost_c (formOf b n l) ad m cap w0 I0 hI hops (formOf_wf h0 hn ok hw) (fun x hx => by have := hb x hx; omega)
  have e : sumP (formOf b n l).ops = (bestP l).cost := (sumP_eq _ h2).trans h3
  rw [e] at h
  exact h
theorem run_E (ad bd : Option Addr) (m n cap capb : Nat) (lo : List Int) (l : List Sym) (R : List Int) (w0 : World) (I0 : Imm) (hI : Sat I0 w0) (ha : RBytes I0 (.slice ad m cap) lo) (hm : m = lo.length) (hb : RSyms I0 (.slice bd n capb) l) (hnl : n = l.length) (hwb : ∀ s ∈ l, s.wf) (hn : l.length ≤ 65536) (he : runP lo l = (R, 0)) :
    Ctr Try.prog 32 [.slice ad m cap, .slice bd n capb] w0 (fun v w' => ∃ I' a c, v = .tuple #[.slice a R.length c, .int .i64 0] ∧ Ext w0 I0 w' I' ∧ RBytes I' (.slice a R.length c) R) := by
  subst hm; subst hnl
  have h := run_c ad bd cap capb lo l w0 I0 hI ha hb hwb hn
  rw [he] at h
  exact h
theorem runP_ok {n : Int} {lo : List Int} {l : List Sym} (ok : okL n l) (h : n = lo.length) : runP lo l = (l.map (runB lo), 0) := by
  unfold runP
  rw [badT_ok ok h]; rfl
theorem run_runs {lo : List Int} {x y : List Sym} {n : Int} (hy : okL n y) (hn : n = x.length) : y.map (runB (x.map (runB lo))) = (y.map (thr x)).map (runB lo) := by
  rw [List.map_map]
  refine List.map_congr_left fun s hs => run_thr lo x s fun ho => ?_
  have := hy.in s hs ho
  omega
theorem sameB_T (va vb : Value) (a : List Int) (w0 : World) (I0 : Imm) (hI : Sat I0 w0) (ha : RBytes I0 va a) (hb : RBytes I0 vb a) :
    Ctr Try.prog 33 [va, vb] w0 (fun v w' => v = .bool true ∧ Ext w0 I0 w' I0) := by
  have h := sameB_c va vb a a w0 I0 hI ha hb
  rw [decide_eq_true rfl] at h
  exact h

set_option maxRecDepth 20000 in
set_option maxHeartbeats 4000000 in
theorem cwhole_c (r : Int) (ad : Option Addr) (cap : Nat) (l : List Q4) (b : Bool) (w0 : World) (I0 : Imm) (hI : Sat I0 w0) (hr : 0 ≤ r ∧ r ≤ 255) (h4 : RFl I0 4 q4C (.slice ad l.length cap) l) (hq : ∀ q ∈ l, q.wf) :
    Ctr Try.prog 6 [.agg #[.int .u8 r, .slice ad l.length cap], .bool b] w0 (fun v w' => ∃ I', v = .bool true ∧ Ext w0 I0 w' I') := by
  have hr13 : 0 ≤ r % 13 ∧ r % 13 ≤ 65536 := by omega
  have hpw := madeP_wf (size := r % 13) hq hr13
  obtain ⟨hpk, hpo, hpl⟩ := madeP_ok (size := r % 13) hq hr13
  have hlf : (madeP l (r % 13)).lifted = false := rfl
  obtain ⟨p, hp⟩ : ∃ p, madeP l (r % 13) = p := ⟨_, rfl⟩
  rw [hp] at hpw hpk hpo hpl hlf
  obtain ⟨e1, e2, e3⟩ := whole_plain b hpw hpk (by omega)
  obtain ⟨k1, k2, k3, k4, k5, k6, k7⟩ := checkP_ok hpk
  have hLw := lift_wf (b := b) hpw
  have hBw := lift_wf (b := b) (wholeP_wf ⟨k3, k4⟩)
  have hAw := lift_wf (b := b) (wholeP_wf ⟨k5, k6⟩)
  have hFw := formP_wf hLw
  rw [e1] at hFw
  dsimp only at hFw
  refine fn (n := 76) Try.func6 rfl rfl rfl ?_
  have hS := St.start hI
  refine wp_seq ?_
  refine reg ?_
  refine qe (d_box (cs := [.int .u8 _, .slice _ _ _]) hS rfl) ?_
  clear hS
  rintro _ w_1 ⟨b2, rfl, hS⟩
  refine qq hS (g_assignv (v := .bool _) rfl) ?_
  refine ol_nil (thenN ?_)
  refine wp_seq ?_
  refine reg ?_
  refine qe (d_call Try.call12 rfl (sanity9_c _ _ hS.imm)) ?_
  rintro _ w_2 ⟨I_f, rfl, hE⟩
  replace hS := hS.callE hE
  replace h4 := h4.mono hE.ext
  refine qq hS (g_assignv (v := .bool _) rfl) ?_
  refine ol_nil (thenN ?_)
  refine wp_seq ?_
  refine reg ?_
  refine qq hS (g_ldO 0 (vs := [.int .u8 _, .slice _ _ _]) Try.sizeOf47 Try.isAgg47 rfl rfl rfl rfl) ?_
  refine qe (d_call Try.call24 rfl (made_t r ad cap l p _ _ hS.imm h4 hq hr hp)) ?_
  rintro _ w_3 ⟨I_f, a17, m17, c17, rfl, hE, h17⟩
  replace hS := hS.callE hE
  replace h4 := h4.mono hE.ext
  refine qe (d_alloc (cs := [.bool _, .int .i64 _, .int .i64 _, .slice _ _ _]) hS Try.zeroValue31 rfl) ?_
  clear hS
  rintro _ w_4 ⟨b6, rfl, hS⟩
  refine qe (d_store 0 hS Try.sizeOf31 rfl rfl rfl (vs := [.bool _, .int .i64 _, .int .i64 _, .slice _ _ _]) rfl rfl rfl (Nat.le_of_ble_eq_true rfl) (cs' := [_, _, _, _]) rfl) ?_
  clear hS
  rintro _ w_5 ⟨rfl, hS⟩
  refine ol_nil (thenN ?_)
  refine wp_seq ?_
  refine reg ?_
  refine qq hS (g_movev (v := .bool _) rfl) ?_
  refine qq hS (g_fieldAddr (o' := 0) Try.underlying31 rfl Try.sizeOf4 rfl rfl rfl) ?_
  refine qe (d_store 0 hS Try.sizeOf4 rfl rfl rfl (vs := [.bool _]) rfl rfl rfl (Nat.le_of_ble_eq_true rfl) (cs' := [_, _, _, _]) rfl) ?_
  clear hS
  rintro _ w_6 ⟨rfl, hS⟩
  refine ol_nil (thenN ?_)
  refine meet (fun σ w => ∃ b7 b8 I a22 m22 c22 a25 m25 c25, okS σ [(1, .bool b), (5, .bool true), (6, .pointer (some ⟨b6, 0, none⟩)), (7, .pointer (some ⟨b7, 0, none⟩)), (8, .pointer (some ⟨b8, 0, none⟩))] ∧ St [] w0 I0 I w [.cel b7 31 [.bool (wholeP p.in_).lifted, .int .i64 (wholeP p.in_).in_, .int .i64 (wholeP p.in_).out, .slice a22 m22 c22], .cel b8 31 [.bool (wholeP p.out).lifted, .int .i64 (wholeP p.out).in_, .int .i64 (wholeP p.out).out, .slice a25 m25 c25], .cel b6 31 [.bool b, .int .i64 p.in_, .int .i64 p.out, .slice a17 m17 c17]] ∧ ROps I (.slice a22 m22 c22) (wholeP p.in_).ops ∧ ROps I (.slice a25 m25 c25) (wholeP p.out).ops ∧ ROps I (.slice a17 m17 c17) p.ops) ?_ ?_
  ·
    refine drawS [true, true] (.cons 0 .pure (.cons 1 .held (.cons 3 .pure (.cons 4 .held (.fork3 2 (.fork3 5 (.fork 6 (.cons 7 .eff (.cons 8 .eff (.cons 9 .eff .nil))) 7 (.cons 6 .eff (.cons 8 .eff (.cons 9 .eff .nil)))) 6 (.fork 5 (.cons 7 .eff (.cons 8 .eff (.cons 9 .eff .nil))) 7 (.cons 5 .eff (.cons 8 .eff (.cons 9 .eff .nil)))) 7 (.fork 5 (.cons 6 .eff (.cons 8 .eff (.cons 9 .eff .nil))) 6 (.cons 5 .eff (.cons 8 .eff (.cons 9 .eff .nil))))) 6 (.fork 2 (.fork 5 (.cons 7 .eff (.cons 8 .eff (.cons 9 .eff .nil))) 7 (.cons 5 .eff (.cons 8 .eff (.cons 9 .eff .nil)))) 7 (.cons 2 .eff (.cons 5 .eff (.cons 8 .eff (.cons 9 .eff .nil))))) 7 (.fork 2 (.fork 5 (.cons 6 .eff (.cons 8 .eff (.cons 9 .eff .nil))) 6 (.cons 5 .eff (.cons 8 .eff (.cons 9 .eff .nil)))) 6 (.cons 2 .eff (.cons 5 .eff (.cons 8 .eff (.cons 9 .eff .nil)))))))))) mixed (by kernel_rfl) hS ?_
    intro w_7 hS
    refine sp rfl (g_fieldAddr (o' := 1) Try.underlying31 rfl Try.sizeOf3 rfl rfl rfl) ?_
    refine sh rfl (g_ldO1 0 Try.isAgg3 rfl rfl rfl) ?_
    refine sp rfl (g_fieldAddr (o' := 2) Try.underlying31 rfl Try.sizeOf3 rfl rfl rfl) ?_
    refine sh rfl (g_ldO1 0 Try.isAgg3 rfl rfl rfl) ?_
    refine sk3 ?_ ?_ ?_
    ·
      have hS0 := hS
      refine se rfl (d_call Try.call26 rfl (patchWhole_c p.in_ _ _ hS.imm ⟨k3, k4⟩)) ?_
      rintro _ w_8 ⟨I_f, a22, m22, c22, rfl, hE, h22⟩
      replace hS := hS.call hE
      replace h4 := h4.mono hE.ext
      replace h17 := h17.mono hE.ext
      refine ⟨_, _, (hS0.sel [true, true]).le hE.ext (List.Sublist.refl _), hS.sel [true, true], ?_⟩
      refine sk3 ?_ ?_ ?_
      ·
        have hS0 := hS
        refine se rfl (d_call Try.call26 rfl (patchWhole_c p.out _ _ hS.imm ⟨k5, k6⟩)) ?_
        rintro _ w_9 ⟨I_f, a25, m25, c25, rfl, hE, h25⟩
        replace hS := hS.call hE
        replace h4 := h4.mono hE.ext
        replace h17 := h17.mono hE.ext
        replace h22 := h22.mono hE.ext
        refine ⟨_, _, (hS0.sel [true, true]).le hE.ext (List.Sublist.refl _), hS.sel [true, true], ?_⟩
        refine sk ?_ ?_
        ·
          have hS0 := hS
          refine se rfl (d_alloc (cs := [.bool _, .int .i64 _, .int .i64 _, .slice _ _ _]) hS Try.zeroValue31 rfl) ?_
          rintro _ w_10 ⟨b7, rfl, hS⟩
          refine ⟨_, _, fun _ h => h, hS.sel [false, true, true], ?_⟩
          have hS0 := hS
          refine se rfl (d_alloc (cs := [.bool _, .int .i64 _, .int .i64 _, .slice _ _ _]) hS Try.zeroValue31 rfl) ?_
          rintro _ w_11 ⟨b8, rfl, hS⟩
          refine ⟨_, _, fun _ h => h, hS.sel [false, false, true, true], ?_⟩
          have hS0 := hS
          refine se rfl (d_store 1 hS Try.sizeOf31 rfl rfl rfl (vs := [.bool _, .int .i64 _, .int .i64 _, .slice _ _ _]) rfl rfl rfl (Nat.le_of_ble_eq_true rfl) (cs' := [_, _, _, _]) rfl) ?_
          rintro _ w_12 ⟨rfl, hS⟩
          refine ⟨_, _, fun _ h => h, hS.sel [false, false, true, true], ?_⟩
          have hS0 := hS
          refine se rfl (d_store 0 hS Try.sizeOf31 rfl rfl rfl (vs := [.bool _, .int .i64 _, .int .i64 _, .slice _ _ _]) rfl rfl rfl (Nat.le_of_ble_eq_true rfl) (cs' := [_, _, _, _]) rfl) ?_
          rintro _ w_13 ⟨rfl, hS⟩
          refine ⟨_, _, fun _ h => h, hS.sel [false, false, true, true], ?_⟩
          refine sn (thenN ?_)
          exact ⟨_, rfl, b7, b8, _, a22, m22, c22, a25, m25, c25, ⟨rfl, rfl, rfl, rfl, rfl, trivial⟩, ((((hS.sel [true, true, true, false]).pick 2).pick 1).pick 2), h22, h25, h17⟩
        ·
          have hS0 := hS
          refine se rfl (d_alloc (cs := [.bool _, .int .i64 _, .int .i64 _, .slice _ _ _]) hS Try.zeroValue31 rfl) ?_
          rintro _ w_14 ⟨b8, rfl, hS⟩
          refine ⟨_, _, fun _ h => h, hS.sel [false, true, true], ?_⟩
          have hS0 := hS
          refine se rfl (d_alloc (cs := [.bool _, .int .i64 _, .int .i64 _, .slice _ _ _]) hS Try.zeroValue31 rfl) ?_
          rintro _ w_15 ⟨b7, rfl, hS⟩
          refine ⟨_, _, fun _ h => h, hS.sel [false, false, true, true], ?_⟩
          have hS0 := hS
          refine se rfl (d_store 0 hS Try.sizeOf31 rfl rfl rfl (vs := [.bool _, .int .i64 _, .int .i64 _, .slice _ _ _]) rfl rfl rfl (Nat.le_of_ble_eq_true rfl) (cs' := [_, _, _, _]) rfl) ?_
          rintro _ w_16 ⟨rfl, hS⟩
          refine ⟨_, _, fun _ h => h, hS.sel [false, false, true, true], ?_⟩
          have hS0 := hS
          refine se rfl (d_store 1 hS Try.sizeOf31 rfl rfl rfl (vs := [.bool _, .int .i64 _, .int .i64 _, .slice _ _ _]) rfl rfl rfl (Nat.le_of_ble_eq_true rfl) (cs' := [_, _, _, _]) rfl) ?_
          rintro _ w_17 ⟨rfl, hS⟩
          refine ⟨_, _, fun _ h => h, hS.sel [false, false, true, true], ?_⟩
          refine sn (thenN ?_)
          exact ⟨_, rfl, b7, b8, _, a22, m22, c22, a25, m25, c25, ⟨rfl, rfl, rfl, rfl, rfl, trivial⟩, (hS.sel [true, true, true, false]), h22, h25, h17⟩
      ·
        have hS0 := hS
        refine se rfl (d_alloc (cs := [.bool _, .int .i64 _, .int .i64 _, .slice _ _ _]) hS Try.zeroValue31 rfl) ?_
        rintro _ w_18 ⟨b7, rfl, hS⟩
        refine ⟨_, _, fun _ h => h, hS.sel [false, true, true], ?_⟩
        refine sk ?_ ?_
        ·
          have hS0 := hS
          refine se rfl (d_call Try.call26 rfl (patchWhole_c p.out _ _ hS.imm ⟨k5, k6⟩)) ?_
          rintro _ w_19 ⟨I_f, a25, m25, c25, rfl, hE, h25⟩
          replace hS := hS.call hE
          replace h4 := h4.mono hE.ext
          replace h17 := h17.mono hE.ext
          replace h22 := h22.mono hE.ext
          refine ⟨_, _, (hS0.sel [false, true, true]).le hE.ext (List.Sublist.refl _), hS.sel [false, true, true], ?_⟩
          have hS0 := hS
          refine se rfl (d_alloc (cs := [.bool _, .int .i64 _, .int .i64 _, .slice _ _ _]) hS Try.zeroValue31 rfl) ?_
          rintro _ w_20 ⟨b8, rfl, hS⟩
          refine ⟨_, _, fun _ h => h, hS.sel [false, false, true, true], ?_⟩
          have hS0 := hS
          refine se rfl (d_store 1 hS Try.sizeOf31 rfl rfl rfl (vs := [.bool _, .int .i64 _, .int .i64 _, .slice _ _ _]) rfl rfl rfl (Nat.le_of_ble_eq_true rfl) (cs' := [_, _, _, _]) rfl) ?_
          rintro _ w_21 ⟨rfl, hS⟩
          refine ⟨_, _, fun _ h => h, hS.sel [false, false, true, true], ?_⟩
          have hS0 := hS
          refine se rfl (d_store 0 hS Try.sizeOf31 rfl rfl rfl (vs := [.bool _, .int .i64 _, .int .i64 _, .slice _ _ _]) rfl rfl rfl (Nat.le_of_ble_eq_true rfl) (cs' := [_, _, _, _]) rfl) ?_
          rintro _ w_22 ⟨rfl, hS⟩
          refine ⟨_, _, fun _ h => h, hS.sel [false, false, true, true], ?_⟩
          refine sn (thenN ?_)
          exact ⟨_, rfl, b7, b8, _, a22, m22, c22, a25, m25, c25, ⟨rfl, rfl, rfl, rfl, rfl, trivial⟩, ((((hS.sel [true, true, true, false]).pick 2).pick 1).pick 2), h22, h25, h17⟩
        ·
          have hS0 := hS
          refine se rfl (d_alloc (cs := [.bool _, .int .i64 _, .int .i64 _, .slice _ _ _]) hS Try.zeroValue31 rfl) ?_
          rintro _ w_23 ⟨b8, rfl, hS⟩
          refine ⟨_, _, fun _ h => h, hS.sel [false, false, true, true], ?_⟩
          have hS0 := hS
          refine se rfl (d_call Try.call26 rfl (patchWhole_c p.out _ _ hS.imm ⟨k5, k6⟩)) ?_
          rintro _ w_24 ⟨I_f, a25, m25, c25, rfl, hE, h25⟩
          replace hS := hS.call hE
          replace h4 := h4.mono hE.ext
          replace h17 := h17.mono hE.ext
          replace h22 := h22.mono hE.ext
          refine ⟨_, _, (hS0.sel [false, false, true, true]).le hE.ext (List.Sublist.refl _), hS.sel [false, false, true, true], ?_⟩
          have hS0 := hS
          refine se rfl (d_store 1 hS Try.sizeOf31 rfl rfl rfl (vs := [.bool _, .int .i64 _, .int .i64 _, .slice _ _ _]) rfl rfl rfl (Nat.le_of_ble_eq_true rfl) (cs' := [_, _, _, _]) rfl) ?_
          rintro _ w_25 ⟨rfl, hS⟩
          refine ⟨_, _, fun _ h => h, hS.sel [false, false, true, true], ?_⟩
          have hS0 := hS
          refine se rfl (d_store 0 hS Try.sizeOf31 rfl rfl rfl (vs := [.bool _, .int .i64 _, .int .i64 _, .slice _ _ _]) rfl rfl rfl (Nat.le_of_ble_eq_true rfl) (cs' := [_, _, _, _]) rfl) ?_
          rintro _ w_26 ⟨rfl, hS⟩
          refine ⟨_, _, fun _ h => h, hS.sel [false, false, true, true], ?_⟩
          refine sn (thenN ?_)
          exact ⟨_, rfl, b7, b8, _, a22, m22, c22, a25, m25, c25, ⟨rfl, rfl, rfl, rfl, rfl, trivial⟩, ((((hS.sel [true, true, true, false]).pick 2).pick 1).pick 2), h22, h25, h17⟩
      ·
        have hS0 := hS
        refine se rfl (d_alloc (cs := [.bool _, .int .i64 _, .int .i64 _, .slice _ _ _]) hS Try.zeroValue31 rfl) ?_
        rintro _ w_27 ⟨b8, rfl, hS⟩
        refine ⟨_, _, fun _ h => h, hS.sel [false, true, true], ?_⟩
        refine sk ?_ ?_
        ·
          have hS0 := hS
          refine se rfl (d_call Try.call26 rfl (patchWhole_c p.out _ _ hS.imm ⟨k5, k6⟩)) ?_
          rintro _ w_28 ⟨I_f, a25, m25, c25, rfl, hE, h25⟩
          replace hS := hS.call hE
          replace h4 := h4.mono hE.ext
          replace h17 := h17.mono hE.ext
          replace h22 := h22.mono hE.ext
          refine ⟨_, _, (hS0.sel [false, true, true]).le hE.ext (List.Sublist.refl _), hS.sel [false, true, true], ?_⟩
          have hS0 := hS
          refine se rfl (d_alloc (cs := [.bool _, .int .i64 _, .int .i64 _, .slice _ _ _]) hS Try.zeroValue31 rfl) ?_
          rintro _ w_29 ⟨b7, rfl, hS⟩
          refine ⟨_, _, fun _ h => h, hS.sel [false, false, true, true], ?_⟩
          have hS0 := hS
          refine se rfl (d_store 0 hS Try.sizeOf31 rfl rfl rfl (vs := [.bool _, .int .i64 _, .int .i64 _, .slice _ _ _]) rfl rfl rfl (Nat.le_of_ble_eq_true rfl) (cs' := [_, _, _, _]) rfl) ?_
          rintro _ w_30 ⟨rfl, hS⟩
          refine ⟨_, _, fun _ h => h, hS.sel [false, false, true, true], ?_⟩
          have hS0 := hS
          refine se rfl (d_store 1 hS Try.sizeOf31 rfl rfl rfl (vs := [.bool _, .int .i64 _, .int .i64 _, .slice _ _ _]) rfl rfl rfl (Nat.le_of_ble_eq_true rfl) (cs' := [_, _, _, _]) rfl) ?_
          rintro _ w_31 ⟨rfl, hS⟩
          refine ⟨_, _, fun _ h => h, hS.sel [false, false, true, true], ?_⟩
          refine sn (thenN ?_)
          exact ⟨_, rfl, b7, b8, _, a22, m22, c22, a25, m25, c25, ⟨rfl, rfl, rfl, rfl, rfl, trivial⟩, (hS.sel [true, true, true, false]), h22, h25, h17⟩
        ·
          have hS0 := hS
          refine se rfl (d_alloc (cs := [.bool _, .int .i64 _, .int .i64 _, .slice _ _ _]) hS Try.zeroValue31 rfl) ?_
          rintro _ w_32 ⟨b7, rfl, hS⟩
          refine ⟨_, _, fun _ h => h, hS.sel [false, false, true, true], ?_⟩
          have hS0 := hS
          refine se rfl (d_call Try.call26 rfl (patchWhole_c p.out _ _ hS.imm ⟨k5, k6⟩)) ?_
          rintro _ w_33 ⟨I_f, a25, m25, c25, rfl, hE, h25⟩
          replace hS := hS.call hE
          replace h4 := h4.mono hE.ext
          replace h17 := h17.mono hE.ext
          replace h22 := h22.mono hE.ext
          refine ⟨_, _, (hS0.sel [false, false, true, true]).le hE.ext (List.Sublist.refl _), hS.sel [false, false, true, true], ?_⟩
          have hS0 := hS
          refine se rfl (d_store 0 hS Try.sizeOf31 rfl rfl rfl (vs := [.bool _, .int .i64 _, .int .i64 _, .slice _ _ _]) rfl rfl rfl (Nat.le_of_ble_eq_true rfl) (cs' := [_, _, _, _]) rfl) ?_
          rintro _ w_34 ⟨rfl, hS⟩
          refine ⟨_, _, fun _ h => h, hS.sel [false, false, true, true], ?_⟩
          have hS0 := hS
          refine se rfl (d_store 1 hS Try.sizeOf31 rfl rfl rfl (vs := [.bool _, .int .i64 _, .int .i64 _, .slice _ _ _]) rfl rfl rfl (Nat.le_of_ble_eq_true rfl) (cs' := [_, _, _, _]) rfl) ?_
          rintro _ w_35 ⟨rfl, hS⟩
          refine ⟨_, _, fun _ h => h, hS.sel [false, false, true, true], ?_⟩
          refine sn (thenN ?_)
          exact ⟨_, rfl, b7, b8, _, a22, m22, c22, a25, m25, c25, ⟨rfl, rfl, rfl, rfl, rfl, trivial⟩, (hS.sel [true, true, true, false]), h22, h25, h17⟩
    ·
      have hS0 := hS
      refine se rfl (d_alloc (cs := [.bool _, .int .i64 _, .int .i64 _, .slice _ _ _]) hS Try.zeroValue31 rfl) ?_
      rintro _ w_36 ⟨b7, rfl, hS⟩
      refine ⟨_, _, fun _ h => h, hS.sel [false, true, true], ?_⟩
      refine sk ?_ ?_
      ·
        have hS0 := hS
        refine se rfl (d_call Try.call26 rfl (patchWhole_c p.in_ _ _ hS.imm ⟨k3, k4⟩)) ?_
        rintro _ w_37 ⟨I_f, a22, m22, c22, rfl, hE, h22⟩
        replace hS := hS.call hE
        replace h4 := h4.mono hE.ext
        replace h17 := h17.mono hE.ext
        refine ⟨_, _, (hS0.sel [false, true, true]).le hE.ext (List.Sublist.refl _), hS.sel [false, true, true], ?_⟩
        refine sk ?_ ?_
        ·
          have hS0 := hS
          refine se rfl (d_call Try.call26 rfl (patchWhole_c p.out _ _ hS.imm ⟨k5, k6⟩)) ?_
          rintro _ w_38 ⟨I_f, a25, m25, c25, rfl, hE, h25⟩
          replace hS := hS.call hE
          replace h4 := h4.mono hE.ext
          replace h17 := h17.mono hE.ext
          replace h22 := h22.mono hE.ext
          refine ⟨_, _, (hS0.sel [false, true, true]).le hE.ext (List.Sublist.refl _), hS.sel [false, true, true], ?_⟩
          have hS0 := hS
          refine se rfl (d_alloc (cs := [.bool _, .int .i64 _, .int .i64 _, .slice _ _ _]) hS Try.zeroValue31 rfl) ?_
          rintro _ w_39 ⟨b8, rfl, hS⟩
          refine ⟨_, _, fun _ h => h, hS.sel [false, false, true, true], ?_⟩
          have hS0 := hS
          refine se rfl (d_store 1 hS Try.sizeOf31 rfl rfl rfl (vs := [.bool _, .int .i64 _, .int .i64 _, .slice _ _ _]) rfl rfl rfl (Nat.le_of_ble_eq_true rfl) (cs' := [_, _, _, _]) rfl) ?_
          rintro _ w_40 ⟨rfl, hS⟩
          refine ⟨_, _, fun _ h => h, hS.sel [false, false, true, true], ?_⟩
          have hS0 := hS
          refine se rfl (d_store 0 hS Try.sizeOf31 rfl rfl rfl (vs := [.bool _, .int .i64 _, .int .i64 _, .slice _ _ _]) rfl rfl rfl (Nat.le_of_ble_eq_true rfl) (cs' := [_, _, _, _]) rfl) ?_
          rintro _ w_41 ⟨rfl, hS⟩
          refine ⟨_, _, fun _ h => h, hS.sel [false, false, true, true], ?_⟩
          refine sn (thenN ?_)
          exact ⟨_, rfl, b7, b8, _, a22, m22, c22, a25, m25, c25, ⟨rfl, rfl, rfl, rfl, rfl, trivial⟩, ((((hS.sel [true, true, true, false]).pick 2).pick 1).pick 2), h22, h25, h17⟩
        ·
          have hS0 := hS
          refine se rfl (d_alloc (cs := [.bool _, .int .i64 _, .int .i64 _, .slice _ _ _]) hS Try.zeroValue31 rfl) ?_
          rintro _ w_42 ⟨b8, rfl, hS⟩
          refine ⟨_, _, fun _ h => h, hS.sel [false, false, true, true], ?_⟩
          have hS0 := hS
          refine se rfl (d_call Try.call26 rfl (patchWhole_c p.out _ _ hS.imm ⟨k5, k6⟩)) ?_
          rintro _ w_43 ⟨I_f, a25, m25, c25, rfl, hE, h25⟩
          replace hS := hS.call hE
          replace h4 := h4.mono hE.ext
          replace h17 := h17.mono hE.ext
          replace h22 := h22.mono hE.ext
          refine ⟨_, _, (hS0.sel [false, false, true, true]).le hE.ext (List.Sublist.refl _), hS.sel [false, false, true, true], ?_⟩
          have hS0 := hS
          refine se rfl (d_store 1 hS Try.sizeOf31 rfl rfl rfl (vs := [.bool _, .int .i64 _, .int .i64 _, .slice _ _ _]) rfl rfl rfl (Nat.le_of_ble_eq_true rfl) (cs' := [_, _, _, _]) rfl) ?_
          rintro _ w_44 ⟨rfl, hS⟩
          refine ⟨_, _, fun _ h => h, hS.sel [false, false, true, true], ?_⟩
          have hS0 := hS
          refine se rfl (d_store 0 hS Try.sizeOf31 rfl rfl rfl (vs := [.bool _, .int .i64 _, .int .i64 _, .slice _ _ _]) rfl rfl rfl (Nat.le_of_ble_eq_true rfl) (cs' := [_, _, _, _]) rfl) ?_
          rintro _ w_45 ⟨rfl, hS⟩
          refine ⟨_, _, fun _ h => h, hS.sel [false, false, true, true], ?_⟩
          refine sn (thenN ?_)
          exact ⟨_, rfl, b7, b8, _, a22, m22, c22, a25, m25, c25, ⟨rfl, rfl, rfl, rfl, rfl, trivial⟩, ((((hS.sel [true, true, true, false]).pick 2).pick 1).pick 2), h22, h25, h17⟩
      ·
        have hS0 := hS
        refine se rfl (d_alloc (cs := [.bool _, .int .i64 _, .int .i64 _, .slice _ _ _]) hS Try.zeroValue31 rfl) ?_
        rintro _ w_46 ⟨b8, rfl, hS⟩
        refine ⟨_, _, fun _ h => h, hS.sel [false, false, true, true], ?_⟩
        have hS0 := hS
        refine se rfl (d_call Try.call26 rfl (patchWhole_c p.in_ _ _ hS.imm ⟨k3, k4⟩)) ?_
        rintro _ w_47 ⟨I_f, a22, m22, c22, rfl, hE, h22⟩
        replace hS := hS.call hE
        replace h4 := h4.mono hE.ext
        replace h17 := h17.mono hE.ext
        refine ⟨_, _, (hS0.sel [false, false, true, true]).le hE.ext (List.Sublist.refl _), hS.sel [false, false, true, true], ?_⟩
        have hS0 := hS
        refine se rfl (d_call Try.call26 rfl (patchWhole_c p.out _ _ hS.imm ⟨k5, k6⟩)) ?_
        rintro _ w_48 ⟨I_f, a25, m25, c25, rfl, hE, h25⟩
        replace hS := hS.call hE
        replace h4 := h4.mono hE.ext
        replace h17 := h17.mono hE.ext
        replace h22 := h22.mono hE.ext
        refine ⟨_, _, (hS0.sel [false, false, true, true]).le hE.ext (List.Sublist.refl _), hS.sel [false, false, true, true], ?_⟩
        have hS0 := hS
        refine se rfl (d_store 1 hS Try.sizeOf31 rfl rfl rfl (vs := [.bool _, .int .i64 _, .int .i64 _, .slice _ _ _]) rfl rfl rfl (Nat.le_of_ble_eq_true rfl) (cs' := [_, _, _, _]) rfl) ?_
        rintro _ w_49 ⟨rfl, hS⟩
        refine ⟨_, _, fun _ h => h, hS.sel [false, false, true, true], ?_⟩
        have hS0 := hS
        refine se rfl (d_store 0 hS Try.sizeOf31 rfl rfl rfl (vs := [.bool _, .int .i64 _, .int .i64 _, .slice _ _ _]) rfl rfl rfl (Nat.le_of_ble_eq_true rfl) (cs' := [_, _, _, _]) rfl) ?_
        rintro _ w_50 ⟨rfl, hS⟩
        refine ⟨_, _, fun _ h => h, hS.sel [false, false, true, true], ?_⟩
        refine sn (thenN ?_)
        exact ⟨_, rfl, b7, b8, _, a22, m22, c22, a25, m25, c25, ⟨rfl, rfl, rfl, rfl, rfl, trivial⟩, ((((hS.sel [true, true, true, false]).pick 2).pick 1).pick 2), h22, h25, h17⟩
    ·
      have hS0 := hS
      refine se rfl (d_alloc (cs := [.bool _, .int .i64 _, .int .i64 _, .slice _ _ _]) hS Try.zeroValue31 rfl) ?_
      rintro _ w_51 ⟨b8, rfl, hS⟩
      refine ⟨_, _, fun _ h => h, hS.sel [false, true, true], ?_⟩
      refine sk ?_ ?_
      ·
        have hS0 := hS
        refine se rfl (d_call Try.call26 rfl (patchWhole_c p.in_ _ _ hS.imm ⟨k3, k4⟩)) ?_
        rintro _ w_52 ⟨I_f, a22, m22, c22, rfl, hE, h22⟩
        replace hS := hS.call hE
        replace h4 := h4.mono hE.ext
        replace h17 := h17.mono hE.ext
        refine ⟨_, _, (hS0.sel [false, true, true]).le hE.ext (List.Sublist.refl _), hS.sel [false, true, true], ?_⟩
        refine sk ?_ ?_
        ·
          have hS0 := hS
          refine se rfl (d_call Try.call26 rfl (patchWhole_c p.out _ _ hS.imm ⟨k5, k6⟩)) ?_
          rintro _ w_53 ⟨I_f, a25, m25, c25, rfl, hE, h25⟩
          replace hS := hS.call hE
          replace h4 := h4.mono hE.ext
          replace h17 := h17.mono hE.ext
          replace h22 := h22.mono hE.ext
          refine ⟨_, _, (hS0.sel [false, true, true]).le hE.ext (List.Sublist.refl _), hS.sel [false, true, true], ?_⟩
          have hS0 := hS
          refine se rfl (d_alloc (cs := [.bool _, .int .i64 _, .int .i64 _, .slice _ _ _]) hS Try.zeroValue31 rfl) ?_
          rintro _ w_54 ⟨b7, rfl, hS⟩
          refine ⟨_, _, fun _ h => h, hS.sel [false, false, true, true], ?_⟩
          have hS0 := hS
          refine se rfl (d_store 0 hS Try.sizeOf31 rfl rfl rfl (vs := [.bool _, .int .i64 _, .int .i64 _, .slice _ _ _]) rfl rfl rfl (Nat.le_of_ble_eq_true rfl) (cs' := [_, _, _, _]) rfl) ?_
          rintro _ w_55 ⟨rfl, hS⟩
          refine ⟨_, _, fun _ h => h, hS.sel [false, false, true, true], ?_⟩
          have hS0 := hS
          refine se rfl (d_store 1 hS Try.sizeOf31 rfl rfl rfl (vs := [.bool _, .int .i64 _, .int .i64 _, .slice _ _ _]) rfl rfl rfl (Nat.le_of_ble_eq_true rfl) (cs' := [_, _, _, _]) rfl) ?_
          rintro _ w_56 ⟨rfl, hS⟩
          refine ⟨_, _, fun _ h => h, hS.sel [false, false, true, true], ?_⟩
          refine sn (thenN ?_)
          exact ⟨_, rfl, b7, b8, _, a22, m22, c22, a25, m25, c25, ⟨rfl, rfl, rfl, rfl, rfl, trivial⟩, (hS.sel [true, true, true, false]), h22, h25, h17⟩
        ·
          have hS0 := hS
          refine se rfl (d_alloc (cs := [.bool _, .int .i64 _, .int .i64 _, .slice _ _ _]) hS Try.zeroValue31 rfl) ?_
          rintro _ w_57 ⟨b7, rfl, hS⟩
          refine ⟨_, _, fun _ h => h, hS.sel [false, false, true, true], ?_⟩
          have hS0 := hS
          refine se rfl (d_call Try.call26 rfl (patchWhole_c p.out _ _ hS.imm ⟨k5, k6⟩)) ?_
          rintro _ w_58 ⟨I_f, a25, m25, c25, rfl, hE, h25⟩
          replace hS := hS.call hE
          replace h4 := h4.mono hE.ext
          replace h17 := h17.mono hE.ext
          replace h22 := h22.mono hE.ext
          refine ⟨_, _, (hS0.sel [false, false, true, true]).le hE.ext (List.Sublist.refl _), hS.sel [false, false, true, true], ?_⟩
          have hS0 := hS
          refine se rfl (d_store 0 hS Try.sizeOf31 rfl rfl rfl (vs := [.bool _, .int .i64 _, .int .i64 _, .slice _ _ _]) rfl rfl rfl (Nat.le_of_ble_eq_true rfl) (cs' := [_, _, _, _]) rfl) ?_
          rintro _ w_59 ⟨rfl, hS⟩
          refine ⟨_, _, fun _ h => h, hS.sel [false, false, true, true], ?_⟩
          have hS0 := hS
          refine se rfl (d_store 1 hS Try.sizeOf31 rfl rfl rfl (vs := [.bool _, .int .i64 _, .int .i64 _, .slice _ _ _]) rfl rfl rfl (Nat.le_of_ble_eq_true rfl) (cs' := [_, _, _, _]) rfl) ?_
          rintro _ w_60 ⟨rfl, hS⟩
          refine ⟨_, _, fun _ h => h, hS.sel [false, false, true, true], ?_⟩
          refine sn (thenN ?_)
          exact ⟨_, rfl, b7, b8, _, a22, m22, c22, a25, m25, c25, ⟨rfl, rfl, rfl, rfl, rfl, trivial⟩, (hS.sel [true, true, true, false]), h22, h25, h17⟩
      ·
        have hS0 := hS
        refine se rfl (d_alloc (cs := [.bool _, .int .i64 _, .int .i64 _, .slice _ _ _]) hS Try.zeroValue31 rfl) ?_
        rintro _ w_61 ⟨b7, rfl, hS⟩
        refine ⟨_, _, fun _ h => h, hS.sel [false, false, true, true], ?_⟩
        have hS0 := hS
        refine se rfl (d_call Try.call26 rfl (patchWhole_c p.in_ _ _ hS.imm ⟨k3, k4⟩)) ?_
        rintro _ w_62 ⟨I_f, a22, m22, c22, rfl, hE, h22⟩
        replace hS := hS.call hE
        replace h4 := h4.mono hE.ext
        replace h17 := h17.mono hE.ext
        refine ⟨_, _, (hS0.sel [false, false, true, true]).le hE.ext (List.Sublist.refl _), hS.sel [false, false, true, true], ?_⟩
        have hS0 := hS
        refine se rfl (d_call Try.call26 rfl (patchWhole_c p.out _ _ hS.imm ⟨k5, k6⟩)) ?_
        rintro _ w_63 ⟨I_f, a25, m25, c25, rfl, hE, h25⟩
        replace hS := hS.call hE
        replace h4 := h4.mono hE.ext
        replace h17 := h17.mono hE.ext
        replace h22 := h22.mono hE.ext
        refine ⟨_, _, (hS0.sel [false, false, true, true]).le hE.ext (List.Sublist.refl _), hS.sel [false, false, true, true], ?_⟩
        have hS0 := hS
        refine se rfl (d_store 0 hS Try.sizeOf31 rfl rfl rfl (vs := [.bool _, .int .i64 _, .int .i64 _, .slice _ _ _]) rfl rfl rfl (Nat.le_of_ble_eq_true rfl) (cs' := [_, _, _, _]) rfl) ?_
        rintro _ w_64 ⟨rfl, hS⟩
        refine ⟨_, _, fun _ h => h, hS.sel [false, false, true, true], ?_⟩
        have hS0 := hS
        refine se rfl (d_store 1 hS Try.sizeOf31 rfl rfl rfl (vs := [.bool _, .int .i64 _, .int .i64 _, .slice _ _ _]) rfl rfl rfl (Nat.le_of_ble_eq_true rfl) (cs' := [_, _, _, _]) rfl) ?_
        rintro _ w_65 ⟨rfl, hS⟩
        refine ⟨_, _, fun _ h => h, hS.sel [false, false, true, true], ?_⟩
        refine sn (thenN ?_)
        exact ⟨_, rfl, b7, b8, _, a22, m22, c22, a25, m25, c25, ⟨rfl, rfl, rfl, rfl, rfl, trivial⟩, (hS.sel [true, true, true, false]), h22, h25, h17⟩
  ·
    rintro σ w ⟨b7, b8, I, a22, m22, c22, a25, m25, c25, hs, hS, h22, h25, h17⟩
    rw [← upds_self hs]
    refine wp_seq ?_
    refine reg ?_
    refine qq hS (g_movev (v := .bool _) rfl) ?_
    refine qq hS (g_movev (v := .bool _) rfl) ?_
    refine qq hS (g_fieldAddr (o' := 0) Try.underlying31 rfl Try.sizeOf4 rfl rfl rfl) ?_
    refine qe (d_store 0 hS Try.sizeOf4 rfl rfl rfl (vs := [.bool _]) rfl rfl rfl (Nat.le_of_ble_eq_true rfl) (cs' := [_, _, _, _]) rfl) ?_
    clear hS
    rintro _ w_66 ⟨rfl, hS⟩
    refine qq hS (g_fieldAddr (o' := 0) Try.underlying31 rfl Try.sizeOf4 rfl rfl rfl) ?_
    refine qe (d_store 1 hS Try.sizeOf4 rfl rfl rfl (vs := [.bool _]) rfl rfl rfl (Nat.le_of_ble_eq_true rfl) (cs' := [_, _, _, _]) rfl) ?_
    clear hS
    rintro _ w_67 ⟨rfl, hS⟩
    refine ol_nil (thenN ?_)
    refine wp_seq ?_
    refine reg ?_
    refine qq hS (g_ldO 2 (vs := [.bool _, .int .i64 _, .int .i64 _, .slice _ _ _]) Try.sizeOf31 Try.isAgg31 rfl rfl rfl rfl) ?_
    refine qe (d_call Try.call23 rfl (form_F (lift b p) _ _ _ ((formOf b p.in_ (symsOf p.ops)), 0) _ _ hS.imm h17 hLw e1)) ?_
    rintro _ w_68 ⟨I_f, a32, m32, c32, rfl, hE, h32⟩
    replace hS := hS.callE hE
    replace h17 := h17.mono hE.ext
    replace h22 := h22.mono hE.ext
    replace h25 := h25.mono hE.ext
    refine qq hS (g_move _) ?_
    refine qq hS (g_extract rfl rfl) ?_
    refine qq hS (g_extract (v := .int .i64 _) rfl rfl) ?_
    refine qe (d_alloc (cs := [.bool _, .int .i64 _, .int .i64 _, .slice _ _ _]) hS Try.zeroValue31 rfl) ?_
    clear hS
    rintro _ w_69 ⟨b9, rfl, hS⟩
    refine qe (d_store 0 hS Try.sizeOf31 rfl rfl rfl (vs := [.bool _, .int .i64 _, .int .i64 _, .slice _ _ _]) rfl rfl rfl (Nat.le_of_ble_eq_true rfl) (cs' := [_, _, _, _]) rfl) ?_
    clear hS
    rintro _ w_70 ⟨rfl, hS⟩
    refine qq hS (g_assignv (v := .int .i64 _) rfl) ?_
    refine ol_nil (thenN ?_)
    refine wp_seq ?_
    refine reg ?_
    refine qq hS (g_ldO 1 (vs := [.bool _, .int .i64 _, .int .i64 _, .slice _ _ _]) Try.sizeOf31 Try.isAgg31 rfl rfl rfl rfl) ?_
    refine qq hS (g_ldO 3 (vs := [.bool _, .int .i64 _, .int .i64 _, .slice _ _ _]) Try.sizeOf31 Try.isAgg31 rfl rfl rfl rfl) ?_
    refine qe (d_call Try.call17 rfl (compose_E (lift b (wholeP p.in_)) (lift b p) ((formOf b p.in_ (symsOf p.ops)), 0) _ _ _ _ _ _ _ _ hS.imm h22 hBw h17 hLw e2)) ?_
    rintro _ w_71 ⟨I_f, a38, m38, c38, rfl, hE, h38⟩
    replace hS := hS.callE hE
    replace h17 := h17.mono hE.ext
    replace h22 := h22.mono hE.ext
    replace h25 := h25.mono hE.ext
    replace h32 := h32.mono hE.ext
    refine qq hS (g_move _) ?_
    refine qq hS (g_extract rfl rfl) ?_
    refine qq hS (g_extract (v := .int .i64 _) rfl rfl) ?_
    refine qe (d_alloc (cs := [.bool _, .int .i64 _, .int .i64 _, .slice _ _ _]) hS Try.zeroValue31 rfl) ?_
    clear hS
    rintro _ w_72 ⟨b11, rfl, hS⟩
    refine qe (d_store 0 hS Try.sizeOf31 rfl rfl rfl (vs := [.bool _, .int .i64 _, .int .i64 _, .slice _ _ _]) rfl rfl rfl (Nat.le_of_ble_eq_true rfl) (cs' := [_, _, _, _]) rfl) ?_
    clear hS
    rintro _ w_73 ⟨rfl, hS⟩
    refine qq hS (g_assignv (v := .int .i64 _) rfl) ?_
    refine ol_nil (thenN ?_)
    refine wp_seq ?_
    refine reg ?_
    refine qq hS (g_ldO 4 (vs := [.bool _, .int .i64 _, .int .i64 _, .slice _ _ _]) Try.sizeOf31 Try.isAgg31 rfl rfl rfl rfl) ?_
    refine qq hS (g_ldO 3 (vs := [.bool _, .int .i64 _, .int .i64 _, .slice _ _ _]) Try.sizeOf31 Try.isAgg31 rfl rfl rfl rfl) ?_
    refine qe (d_call Try.call17 rfl (compose_E (lift b p) (lift b (wholeP p.out)) ((formOf b p.in_ (symsOf p.ops)), 0) _ _ _ _ _ _ _ _ hS.imm h17 hLw h25 hAw e3)) ?_
    rintro _ w_74 ⟨I_f, a44, m44, c44, rfl, hE, h44⟩
    replace hS := hS.callE hE
    replace h17 := h17.mono hE.ext
    replace h22 := h22.mono hE.ext
    replace h25 := h25.mono hE.ext
    replace h32 := h32.mono hE.ext
    replace h38 := h38.mono hE.ext
    refine qq hS (g_move _) ?_
    refine qq hS (g_extract rfl rfl) ?_
    refine qq hS (g_extract (v := .int .i64 _) rfl rfl) ?_
    refine qe (d_alloc (cs := [.bool _, .int .i64 _, .int .i64 _, .slice _ _ _]) hS Try.zeroValue31 rfl) ?_
    clear hS
    rintro _ w_75 ⟨b13, rfl, hS⟩
    refine qe (d_store 0 hS Try.sizeOf31 rfl rfl rfl (vs := [.bool _, .int .i64 _, .int .i64 _, .slice _ _ _]) rfl rfl rfl (Nat.le_of_ble_eq_true rfl) (cs' := [_, _, _, _]) rfl) ?_
    clear hS
    rintro _ w_76 ⟨rfl, hS⟩
    refine qq hS (g_assignv (v := .int .i64 _) rfl) ?_
    refine ol_nil (thenN ?_)
    refine wp_seq ?_
    refine reg ?_
    refine qq hS (g_movev (v := .int .i64 _) rfl) ?_
    refine qq hS (g_eqT rfl rfl rfl) ?_
    refine qq hS (g_movev (v := .bool _) rfl) ?_
    refine qqs rfl rfl hS (g_movev (v := .int .i64 _) rfl) ?_
    refine qqs rfl rfl hS (g_eqT rfl rfl rfl) ?_
    refine qq hS (g_and rfl rfl (fun _ => rfl)) ?_
    refine qq hS (g_movev (v := .bool _) rfl) ?_
    refine qqs rfl rfl hS (g_movev (v := .int .i64 _) rfl) ?_
    refine qqs rfl rfl hS (g_eqT rfl rfl rfl) ?_
    refine qq hS (g_and rfl rfl (fun _ => rfl)) ?_
    refine qq hS (g_movev (v := .bool _) rfl) ?_
    refine qqs rfl rfl hS (g_ldO 1 (vs := [.bool _, .int .i64 _, .int .i64 _, .slice _ _ _]) Try.sizeOf31 Try.isAgg31 rfl rfl rfl rfl) ?_
    refine qqs rfl rfl hS (g_ldO 2 (vs := [.bool _, .int .i64 _, .int .i64 _, .slice _ _ _]) Try.sizeOf31 Try.isAgg31 rfl rfl rfl rfl) ?_
    refine qes rfl rfl (d_call Try.call16 rfl (same_T (formOf b p.in_ (symsOf p.ops)) _ _ _ _ _ _ _ _ hS.imm h38 h32 hFw)) ?_
    rintro _ w_77 ⟨rfl, hE⟩
    replace hS := hS.callE hE
    refine qq hS (g_and rfl rfl (fun _ => rfl)) ?_
    refine qq hS (g_movev (v := .bool _) rfl) ?_
    refine qqs rfl rfl hS (g_ldO 0 (vs := [.bool _, .int .i64 _, .int .i64 _, .slice _ _ _]) Try.sizeOf31 Try.isAgg31 rfl rfl rfl rfl) ?_
    refine qqs rfl rfl hS (g_ldO 2 (vs := [.bool _, .int .i64 _, .int .i64 _, .slice _ _ _]) Try.sizeOf31 Try.isAgg31 rfl rfl rfl rfl) ?_
    refine qes rfl rfl (d_call Try.call16 rfl (same_T (formOf b p.in_ (symsOf p.ops)) _ _ _ _ _ _ _ _ hS.imm h44 h32 hFw)) ?_
    rintro _ w_78 ⟨rfl, hE⟩
    replace hS := hS.callE hE
    refine qq hS (g_and rfl rfl (fun _ => rfl)) ?_
    refine qq hS (g_movev (v := .bool _) rfl) ?_
    refine qqs rfl rfl hS (g_fieldAddr (o' := 0) Try.underlying31 rfl Try.sizeOf4 rfl rfl rfl) ?_
    refine qqs rfl rfl hS (g_ldO1 1 Try.isAgg4 rfl rfl rfl) ?_
    refine qqs rfl rfl hS (g_movev (v := .bool _) rfl) ?_
    refine qqs rfl rfl hS (g_eqbT Try.underlying4 rfl rfl rfl) ?_
    refine qq hS (g_and rfl rfl (fun _ => rfl)) ?_
    refine qq hS (g_movev (v := .bool _) rfl) ?_
    refine qqs rfl rfl hS (g_movev (v := .bool _) rfl) ?_
    refine qq hS (g_and rfl rfl (fun _ => rfl)) ?_
    refine qq hS (g_assignv (v := .bool _) rfl) ?_
    refine ol_nil (thenN ?_)
    refine wp_ret ?_
    refine ret1 Try.results6 (rv_tmp (v := .bool _) rfl) ?_
    exact ⟨_, rfl, hS.nil⟩

set_option maxRecDepth 20000 in
set_option maxHeartbeats 4000000 in
theorem cleast_c (r s : Int) (ad bd : Option Addr) (cap capb : Nat) (l lb : List Q4) (w0 : World) (I0 : Imm) (hI : Sat I0 w0) (hr : 0 ≤ r ∧ r ≤ 255) (h4 : RFl I0 4 q4C (.slice ad l.length cap) l) (hq : ∀ q ∈ l, q.wf) (h5 : RFl I0 4 q4C (.slice bd lb.length capb) lb) (hqb : ∀ q ∈ lb, q.wf) :
    Ctr Try.prog 7 [.agg #[.int .u8 r, .slice ad l.length cap], .agg #[.int .u8 s, .slice bd lb.length capb]] w0 (fun v w' => ∃ I', v = .bool true ∧ Ext w0 I0 w' I') := by
  have hr13 : 0 ≤ r % 13 ∧ r % 13 ≤ 65536 := by omega
  have hpw := madeP_wf (size := r % 13) hq hr13
  obtain ⟨hpk, hpo, hpl⟩ := madeP_ok (size := r % 13) hq hr13
  have hlf : (madeP l (r % 13)).lifted = false := rfl
  obtain ⟨p, hp⟩ : ∃ p, madeP l (r % 13) = p := ⟨_, rfl⟩
  rw [hp] at hpw hpk hpo hpl hlf
  obtain ⟨k1, k2, k3, k4, k5, k6, k7⟩ := checkP_ok hpk
  obtain ⟨k, hk⟩ : ∃ k : Nat, k = min lb.length 2 := ⟨_, rfl⟩
  have hk1 : k ≤ lb.length := by omega
  have hk2 : (if (2 : Int) < (lb.length : Int) then 2 else (lb.length : Int)) = k := by split <;> omega
  have hqk : ∀ q ∈ lb.take k, q.wf := fun q hq => hqb q (List.mem_of_mem_take hq)
  have hqw := madeP_wf (size := p.out) hqk ⟨k5, k6⟩
  obtain ⟨hqk2, hqo, hql⟩ := madeP_ok (size := p.out) hqk ⟨k5, k6⟩
  have hqf : (madeP (lb.take k) p.out).lifted = false := rfl
  have hqi : (madeP (lb.take k) p.out).in_ = p.out := rfl
  obtain ⟨q, hqe⟩ : ∃ q, madeP (lb.take k) p.out = q := ⟨_, rfl⟩
  rw [hqe] at hqw hqk2 hqo hql hqf hqi
  obtain ⟨j1, j2, j3, j4, j5, j6, j7⟩ := checkP_ok hqk2
  have hcap := (RSl.resl2 h5 lb.length lb.length (Nat.le_refl _) (Nat.le_refl _)).2.1
  have hA := symbolsP_ok hpk
  have hB := symbolsP_ok hqk2
  have hwA := symsOf_wf hpw
  have hwB := symsOf_wf hqw
  rw [hA] at hwA
  rw [hB] at hwB
  dsimp only at hwA hwB
  have hokA := (ops_ok _ k1).1
  have hokB := (ops_ok _ j1).1
  have hT := throughP_ok (a := symsOf p.ops) hokB (by omega)
  have hC := composeP_ok hpk hqk2 (hlf.trans hqf.symm) hqi.symm (by omega)
  rw [hlf] at hC
  have hWw := thrL_wf hwA hwB
  have hWok := thrL_ok hokA (symsOf q.ops)
  have hWl : ((symsOf q.ops).map (thr (symsOf p.ops))).length ≤ 4096 := by rw [List.length_map]; omega
  obtain ⟨W, hW⟩ : ∃ W, (symsOf q.ops).map (thr (symsOf p.ops)) = W := ⟨_, rfl⟩
  rw [hW] at hT hC hWw hWok hWl
  have hFw := formOf_wf (b := false) ⟨k3, k4⟩ hWl hWok hWw
  have hFs := formOf_symbols (b := false) ⟨k3, k4⟩ hWl hWok
  refine fn (n := 89) Try.func7 rfl rfl rfl ?_
  have hS := St.start hI
  refine wp_seq ?_
  refine reg ?_
  refine qe (d_box (cs := [.int .u8 _, .slice _ _ _]) hS rfl) ?_
  clear hS
  rintro _ w_1 ⟨b2, rfl, hS⟩
  refine qe (d_box (cs := [.int .u8 _, .slice _ _ _]) hS rfl) ?_
  clear hS
  rintro _ w_2 ⟨b3, rfl, hS⟩
  refine qq hS (g_assignv (v := .bool _) rfl) ?_
  refine ol_nil (thenN ?_)
  refine wp_seq ?_
  refine reg ?_
  refine qe (d_call Try.call12 rfl (sanity9_c _ _ hS.imm)) ?_
  rintro _ w_3 ⟨I_f, rfl, hE⟩
  replace hS := hS.callE hE
  replace h4 := h4.mono hE.ext
  replace h5 := h5.mono hE.ext
  refine qq hS (g_assignv (v := .bool _) rfl) ?_
  refine ol_nil (thenN ?_)
  refine wp_seq ?_
  refine reg ?_
  refine qq hS (g_ldO 1 (vs := [.int .u8 _, .slice _ _ _]) Try.sizeOf47 Try.isAgg47 rfl rfl rfl rfl) ?_
  refine qe (d_call Try.call24 rfl (made_t r ad cap l p _ _ hS.imm h4 hq hr hp)) ?_
  rintro _ w_4 ⟨I_f, a20, m20, c20, rfl, hE, h20⟩
  replace hS := hS.callE hE
  replace h4 := h4.mono hE.ext
  replace h5 := h5.mono hE.ext
  refine qe (d_alloc (cs := [.bool _, .int .i64 _, .int .i64 _, .slice _ _ _]) hS Try.zeroValue31 rfl) ?_
  clear hS
  rintro _ w_5 ⟨b6, rfl, hS⟩
  refine qe (d_store 0 hS Try.sizeOf31 rfl rfl rfl (vs := [.bool _, .int .i64 _, .int .i64 _, .slice _ _ _]) rfl rfl rfl (Nat.le_of_ble_eq_true rfl) (cs' := [_, _, _, _]) rfl) ?_
  clear hS
  rintro _ w_6 ⟨rfl, hS⟩
  refine ol_nil (thenN ?_)
  refine wp_seq ?_
  refine reg ?_
  refine qq hS (g_fieldAddr (o' := 1) Try.underlying47 rfl Try.sizeOf45 rfl rfl rfl) ?_
  refine qq hS (g_ldO1 1 Try.isAgg45 rfl rfl rfl) ?_
  refine qq hS (g_fieldAddr (o' := 1) Try.underlying47 rfl Try.sizeOf45 rfl rfl rfl) ?_
  refine qq hS (g_ldO1 1 Try.isAgg45 rfl rfl rfl) ?_
  refine qq hS (g_lenI rfl Try.underlying45 h5 rfl) ?_
  refine qq hS (g_minE rfl rfl hk2) ?_
  refine qq hS (g_sliceHN (h0 := k) Try.underlying45 Try.sizeOf88 rfl rfl (by omega) (by omega) (by omega)) ?_
  refine qq hS (g_fieldAddr (o' := 1) Try.underlying47 rfl Try.sizeOf45 rfl rfl rfl) ?_
  refine qe (d_store 1 hS Try.sizeOf45 rfl rfl rfl (vs := [.slice _ _ _]) rfl rfl rfl (Nat.le_of_ble_eq_true rfl) (cs' := [_, _]) rfl) ?_
  clear hS
  rintro _ w_7 ⟨rfl, hS⟩
  refine ol_nil (thenN ?_)
  refine wp_seq ?_
  refine reg ?_
  refine qq hS (g_ldO 1 (vs := [.int .u8 _, .slice _ _ _]) Try.sizeOf47 Try.isAgg47 rfl rfl rfl rfl) ?_
  refine qq hS (g_fieldAddr (o' := 2) Try.underlying31 rfl Try.sizeOf3 rfl rfl rfl) ?_
  refine qq hS (g_ldO1 0 Try.isAgg3 rfl rfl rfl) ?_
  refine qe (d_call Try.call25 rfl (sized_M s _ _ _ (lb.take k) p.out q _ _ hS.imm (RSl.slH h5 k hk1) (by rw [List.length_take]; omega) hqk ⟨k5, k6⟩ hqe)) ?_
  rintro _ w_8 ⟨I_f, a32, m32, c32, rfl, hE, h32⟩
  replace hS := hS.callE hE
  replace h4 := h4.mono hE.ext
  replace h5 := h5.mono hE.ext
  replace h20 := h20.mono hE.ext
  refine qe (d_alloc (cs := [.bool _, .int .i64 _, .int .i64 _, .slice _ _ _]) hS Try.zeroValue31 rfl) ?_
  clear hS
  rintro _ w_9 ⟨b7, rfl, hS⟩
  refine qe (d_store 0 hS Try.sizeOf31 rfl rfl rfl (vs := [.bool _, .int .i64 _, .int .i64 _, .slice _ _ _]) rfl rfl rfl (Nat.le_of_ble_eq_true rfl) (cs' := [_, _, _, _]) rfl) ?_
  clear hS
  rintro _ w_10 ⟨rfl, hS⟩
  refine ol_nil (thenN ?_)
  refine wp_seq ?_
  refine wp_seq ?_
  refine reg ?_
  refine qq hS (g_fieldAddr (o' := 2) Try.underlying31 rfl Try.sizeOf3 rfl rfl rfl) ?_
  refine qq hS (g_ldO1 0 Try.isAgg3 rfl rfl rfl) ?_
  refine qq hS (g_gtr rfl rfl) ?_
  refine ol_nil (thenN ?_)
  refine cond_s rfl ?_ ?_
  ·
    intro hc35
    try simp only [Bool.and_eq_true, Bool.or_eq_true, Bool.not_eq_true', Bool.and_eq_false_imp, Bool.or_eq_false_iff, Bool.not_eq_false', decide_eq_true_eq, decide_eq_false_iff_not] at hc35
    refine wp_seq ?_
    refine reg ?_
    refine qq hS (g_movev (v := .bool _) rfl) ?_
    refine qq hS (g_assignv (v := .bool _) rfl) ?_
    refine ol_nil (thenN ?_)
    refine wp_ret ?_
    refine thenR ?_
    refine ret1 Try.results7 (rv_tmp (v := .bool _) rfl) ?_
    exact ⟨_, rfl, hS.nil⟩
  ·
    intro hc35
    try simp only [Bool.and_eq_true, Bool.or_eq_true, Bool.not_eq_true', Bool.and_eq_false_imp, Bool.or_eq_false_iff, Bool.not_eq_false', decide_eq_true_eq, decide_eq_false_iff_not] at hc35
    refine wp_skip ?_
    refine thenN ?_
    refine wp_seq ?_
    refine reg ?_
    refine qq hS (g_ldO 1 (vs := [.bool _, .int .i64 _, .int .i64 _, .slice _ _ _]) Try.sizeOf31 Try.isAgg31 rfl rfl rfl rfl) ?_
    refine qq hS (g_ldO 0 (vs := [.bool _, .int .i64 _, .int .i64 _, .slice _ _ _]) Try.sizeOf31 Try.isAgg31 rfl rfl rfl rfl) ?_
    refine qe (d_call Try.call17 rfl (compose_E p q ((formOf false p.in_ W), 0) _ _ _ _ _ _ _ _ hS.imm h20 hpw h32 hqw hC)) ?_
    rintro _ w_11 ⟨I_f, a40, m40, c40, rfl, hE, h40⟩
    replace hS := hS.callE hE
    replace h4 := h4.mono hE.ext
    replace h5 := h5.mono hE.ext
    replace h20 := h20.mono hE.ext
    replace h32 := h32.mono hE.ext
    refine qq hS (g_move _) ?_
    refine qq hS (g_extract rfl rfl) ?_
    refine qq hS (g_extract (v := .int .i64 _) rfl rfl) ?_
    refine qe (d_alloc (cs := [.bool _, .int .i64 _, .int .i64 _, .slice _ _ _]) hS Try.zeroValue31 rfl) ?_
    clear hS
    rintro _ w_12 ⟨b8, rfl, hS⟩
    refine qe (d_store 0 hS Try.sizeOf31 rfl rfl rfl (vs := [.bool _, .int .i64 _, .int .i64 _, .slice _ _ _]) rfl rfl rfl (Nat.le_of_ble_eq_true rfl) (cs' := [_, _, _, _]) rfl) ?_
    clear hS
    rintro _ w_13 ⟨rfl, hS⟩
    refine qq hS (g_assignv (v := .int .i64 _) rfl) ?_
    refine ol_nil (thenN ?_)
    refine wp_seq ?_
    refine reg ?_
    refine qq hS (g_ldO 0 (vs := [.bool _, .int .i64 _, .int .i64 _, .slice _ _ _]) Try.sizeOf31 Try.isAgg31 rfl rfl rfl rfl) ?_
    refine qe (d_call Try.call27 rfl (symbols_e (formOf false p.in_ W) _ _ _ (W, 0) _ _ hS.imm h40 hFw hFs)) ?_
    rintro _ w_14 ⟨I_f, a45, c45, rfl, hE, h45⟩
    replace hS := hS.callE hE
    replace h4 := h4.mono hE.ext
    replace h5 := h5.mono hE.ext
    replace h20 := h20.mono hE.ext
    replace h32 := h32.mono hE.ext
    replace h40 := h40.mono hE.ext
    refine qq hS (g_move _) ?_
    refine qq hS (g_extract rfl rfl) ?_
    refine qq hS (g_extract (v := .int .i64 _) rfl rfl) ?_
    refine qq hS (g_assign _) ?_
    refine qq hS (g_assignv (v := .int .i64 _) rfl) ?_
    refine ol_nil (thenN ?_)
    refine wp_seq ?_
    refine reg ?_
    refine qq hS (g_ldO 2 (vs := [.bool _, .int .i64 _, .int .i64 _, .slice _ _ _]) Try.sizeOf31 Try.isAgg31 rfl rfl rfl rfl) ?_
    refine qe (d_call Try.call28 rfl (refSymbols_e p _ _ _ (symsOf p.ops, 0) _ _ hS.imm h20 hpw hA)) ?_
    rintro _ w_15 ⟨I_f, a50, c50, rfl, hE, h50⟩
    replace hS := hS.callE hE
    replace h4 := h4.mono hE.ext
    replace h5 := h5.mono hE.ext
    replace h20 := h20.mono hE.ext
    replace h32 := h32.mono hE.ext
    replace h40 := h40.mono hE.ext
    replace h45 := h45.mono hE.ext
    refine qq hS (g_move _) ?_
    refine qq hS (g_extract rfl rfl) ?_
    refine qq hS (g_extract (v := .int .i64 _) rfl rfl) ?_
    refine qq hS (g_assign _) ?_
    refine qq hS (g_assignv (v := .int .i64 _) rfl) ?_
    refine ol_nil (thenN ?_)
    refine wp_seq ?_
    refine reg ?_
    refine qq hS (g_ldO 1 (vs := [.bool _, .int .i64 _, .int .i64 _, .slice _ _ _]) Try.sizeOf31 Try.isAgg31 rfl rfl rfl rfl) ?_
    refine qe (d_call Try.call28 rfl (refSymbols_e q _ _ _ (symsOf q.ops, 0) _ _ hS.imm h32 hqw hB)) ?_
    rintro _ w_16 ⟨I_f, a55, c55, rfl, hE, h55⟩
    replace hS := hS.callE hE
    replace h4 := h4.mono hE.ext
    replace h5 := h5.mono hE.ext
    replace h20 := h20.mono hE.ext
    replace h32 := h32.mono hE.ext
    replace h40 := h40.mono hE.ext
    replace h45 := h45.mono hE.ext
    replace h50 := h50.mono hE.ext
    refine qq hS (g_move _) ?_
    refine qq hS (g_extract rfl rfl) ?_
    refine qq hS (g_extract (v := .int .i64 _) rfl rfl) ?_
    refine qq hS (g_assign _) ?_
    refine qq hS (g_assignv (v := .int .i64 _) rfl) ?_
    refine ol_nil (thenN ?_)
    refine wp_seq ?_
    refine reg ?_
    refine qq hS (g_move _) ?_
    refine qq hS (g_move _) ?_
    refine qe (d_call Try.call20 rfl (through_E _ _ _ _ _ _ (symsOf p.ops) (symsOf q.ops) (W, 0) _ _ hS.imm h50 rfl h55 rfl hwB (by omega) hT)) ?_
    rintro _ w_17 ⟨I_f, a61, c61, rfl, hE, h61⟩
    replace hS := hS.callE hE
    replace h4 := h4.mono hE.ext
    replace h5 := h5.mono hE.ext
    replace h20 := h20.mono hE.ext
    replace h32 := h32.mono hE.ext
    replace h40 := h40.mono hE.ext
    replace h45 := h45.mono hE.ext
    replace h50 := h50.mono hE.ext
    replace h55 := h55.mono hE.ext
    refine qq hS (g_move _) ?_
    refine qq hS (g_extract rfl rfl) ?_
    refine qq hS (g_extract (v := .int .i64 _) rfl rfl) ?_
    refine qq hS (g_assign _) ?_
    refine qq hS (g_assignv (v := .int .i64 _) rfl) ?_
    refine ol_nil (thenN ?_)
    refine wp_seq ?_
    refine reg ?_
    refine qq hS (g_movev (v := .int .i64 _) rfl) ?_
    refine qq hS (g_eqT rfl rfl rfl) ?_
    refine qq hS (g_movev (v := .bool _) rfl) ?_
    refine qqs rfl rfl hS (g_movev (v := .int .i64 _) rfl) ?_
    refine qqs rfl rfl hS (g_eqT rfl rfl rfl) ?_
    refine qq hS (g_and rfl rfl (fun _ => rfl)) ?_
    refine qq hS (g_movev (v := .bool _) rfl) ?_
    refine qqs rfl rfl hS (g_movev (v := .int .i64 _) rfl) ?_
    refine qqs rfl rfl hS (g_eqT rfl rfl rfl) ?_
    refine qq hS (g_and rfl rfl (fun _ => rfl)) ?_
    refine qq hS (g_movev (v := .bool _) rfl) ?_
    refine qqs rfl rfl hS (g_move _) ?_
    refine qqs rfl rfl hS (g_move _) ?_
    refine qes rfl rfl (d_call Try.call22 rfl (sameSyms_T _ _ W _ _ hS.imm h45 h61)) ?_
    rintro _ w_18 ⟨rfl, hE⟩
    replace hS := hS.callE hE
    refine qq hS (g_and rfl rfl (fun _ => rfl)) ?_
    refine qq hS (g_movev (v := .bool _) rfl) ?_
    refine qqs rfl rfl hS (g_ldO 0 (vs := [.bool _, .int .i64 _, .int .i64 _, .slice _ _ _]) Try.sizeOf31 Try.isAgg31 rfl rfl rfl rfl) ?_
    refine qes rfl rfl (d_call Try.call29 rfl (patchCost_f false p.in_ W _ _ _ _ _ hS.imm h40 hWw ⟨k3, k4⟩ hWl hWok)) ?_
    rintro _ w_19 ⟨rfl, hE⟩
    replace hS := hS.callE hE
    refine qqs rfl rfl hS (g_move _) ?_
    refine qes rfl rfl (d_call Try.call30 rfl (least_c _ W _ _ hS.imm h61 hWw hWok.gd (by omega))) ?_
    rintro _ w_20 ⟨rfl, hE⟩
    replace hS := hS.callE hE
    refine qqs rfl rfl hS (g_eqT rfl rfl rfl) ?_
    refine qq hS (g_and rfl rfl (fun _ => rfl)) ?_
    refine qq hS (g_movev (v := .bool _) rfl) ?_
    refine qqs rfl rfl hS (g_movev (v := .bool _) rfl) ?_
    refine qq hS (g_and rfl rfl (fun _ => rfl)) ?_
    refine qq hS (g_assignv (v := .bool _) rfl) ?_
    refine ol_nil (thenN ?_)
    refine wp_ret ?_
    refine ret1 Try.results7 (rv_tmp (v := .bool _) rfl) ?_
    exact ⟨_, rfl, hS.nil⟩

set_option maxRecDepth 20000 in
set_option maxHeartbeats 4000000 in
theorem cthrough_c (a0 a1 bd : Option Addr) (m0 m1 capb : Nat) (l0 l1 : List Q2) (bs : List Int) (w0 : World) (I0 : Imm) (hI : Sat I0 w0) (h0 : RFl I0 2 q2C (.slice a0 l0.length m0) l0) (hq0 : ∀ q ∈ l0, q.wf) (h1 : RFl I0 2 q2C (.slice a1 l1.length m1) l1) (hq1 : ∀ q ∈ l1, q.wf) (hb : RBytes I0 (.slice bd bs.length capb) bs) (hbb : ∀ y ∈ bs, 0 ≤ y ∧ y ≤ 255) :
    Ctr Try.prog 8 [.agg #[.slice a0 l0.length m0, .slice a1 l1.length m1], .slice bd bs.length capb] w0 (fun v w' => ∃ I', v = .bool true ∧ Ext w0 I0 w' I') := by
  have hXw := symsRaw_wf (size := 9) hq0 (by decide)
  have hXok := symsRaw_ok (size := 9) hq0
  have hXl := symsRaw_len l0 9
  obtain ⟨X, hX⟩ : ∃ X, symsRaw l0 9 = X := ⟨_, rfl⟩
  rw [hX] at hXw hXok hXl
  have hYw := symsRaw_wf (size := (X.length : Int)) hq1 (by omega)
  have hYok := symsRaw_ok (size := (X.length : Int)) hq1
  have hYl := symsRaw_len l1 (X.length : Int)
  obtain ⟨Y, hY⟩ : ∃ Y, symsRaw l1 (X.length : Int) = Y := ⟨_, rfl⟩
  rw [hY] at hYw hYok hYl
  have hT := throughP_ok (a := X) hYok rfl
  have hTw := thrL_wf hXw hYw
  have hTok := thrL_ok hXok Y
  have hOl := inputP_len bs 9
  have hR1 := runP_ok (lo := inputP bs 9) hXok (by rw [hOl]; rfl)
  have hR3 := runP_ok (lo := inputP bs 9) hTok (by rw [hOl]; rfl)
  have hR2 := runP_ok (lo := X.map (runB (inputP bs 9))) hYok (by rw [List.length_map])
  rw [run_runs (lo := inputP bs 9) hYok rfl] at hR2
  have hTl : (Y.map (thr X)).length ≤ 65536 := by rw [List.length_map]; omega
  generalize hTT : Y.map (thr X) = T at *
  generalize hO : inputP bs 9 = O at *
  generalize hR : T.map (runB O) = R at *
  generalize hN : X.map (runB O) = N at *
  refine fn (n := 74) Try.func8 rfl rfl rfl ?_
  have hS := St.start hI
  refine wp_seq ?_
  refine reg ?_
  refine qe (d_box (cs := [.slice _ _ _, .slice _ _ _]) hS rfl) ?_
  clear hS
  rintro _ w_1 ⟨b2, rfl, hS⟩
  refine qq hS (g_assignv (v := .bool _) rfl) ?_
  refine ol_nil (thenN ?_)
  refine wp_seq ?_
  refine reg ?_
  refine qe (d_call Try.call12 rfl (sanity9_c _ _ hS.imm)) ?_
  rintro _ w_2 ⟨I_f, rfl, hE⟩
  replace hS := hS.callE hE
  replace h0 := h0.mono hE.ext
  replace h1 := h1.mono hE.ext
  replace hb := hb.mono hE.ext
  refine qq hS (g_assignv (v := .bool _) rfl) ?_
  refine ol_nil (thenN ?_)
  refine wp_seq ?_
  refine reg ?_
  refine qq hS (g_move _) ?_
  refine qe (d_call Try.call31 rfl (input_c bd capb bs 9 _ _ hS.imm hb hbb (by decide))) ?_
  rintro _ w_3 ⟨I_f, a19, c19, rfl, hE, h19⟩
  replace hS := hS.callE hE
  replace h0 := h0.mono hE.ext
  replace h1 := h1.mono hE.ext
  replace hb := hb.mono hE.ext
  rw [hO] at h19
  refine qq hS (g_assign _) ?_
  refine ol_nil (thenN ?_)
  refine wp_seq ?_
  refine reg ?_
  refine qq hS (g_indexArr (o' := 0) Try.underlying24 Try.sizeOf23 rfl rfl (by decide) (by decide) rfl) ?_
  refine qq hS (g_ldO1 0 Try.isAgg23 rfl rfl rfl) ?_
  refine qe (d_call Try.call19 rfl (rawSyms_E a0 m0 l0 9 X _ _ hS.imm h0 hq0 (by decide) hX)) ?_
  rintro _ w_4 ⟨I_f, a22, c22, rfl, hE, h22⟩
  replace hS := hS.callE hE
  replace h0 := h0.mono hE.ext
  replace h1 := h1.mono hE.ext
  replace hb := hb.mono hE.ext
  replace h19 := h19.mono hE.ext
  refine qq hS (g_assign _) ?_
  refine ol_nil (thenN ?_)
  refine wp_seq ?_
  refine reg ?_
  refine qq hS (g_indexArr (o' := 1) Try.underlying24 Try.sizeOf23 rfl rfl (by decide) (by decide) rfl) ?_
  refine qq hS (g_ldO1 0 Try.isAgg23 rfl rfl rfl) ?_
  refine qq hS (g_move _) ?_
  refine qq hS (g_lenI rfl Try.underlying37 h22 rfl) ?_
  refine qe (d_call Try.call19 rfl (rawSyms_E a1 m1 l1 _ Y _ _ hS.imm h1 hq1 ⟨by omega, by omega⟩ hY)) ?_
  rintro _ w_5 ⟨I_f, a27, c27, rfl, hE, h27⟩
  replace hS := hS.callE hE
  replace h0 := h0.mono hE.ext
  replace h1 := h1.mono hE.ext
  replace hb := hb.mono hE.ext
  replace h19 := h19.mono hE.ext
  replace h22 := h22.mono hE.ext
  refine qq hS (g_assign _) ?_
  refine ol_nil (thenN ?_)
  refine wp_seq ?_
  refine reg ?_
  refine qq hS (g_move _) ?_
  refine qq hS (g_move _) ?_
  refine qe (d_call Try.call20 rfl (through_E _ _ _ _ _ _ X Y (T, 0) _ _ hS.imm h22 rfl h27 rfl hYw (by omega) hT)) ?_
  rintro _ w_6 ⟨I_f, a31, c31, rfl, hE, h31⟩
  replace hS := hS.callE hE
  replace h0 := h0.mono hE.ext
  replace h1 := h1.mono hE.ext
  replace hb := hb.mono hE.ext
  replace h19 := h19.mono hE.ext
  replace h22 := h22.mono hE.ext
  replace h27 := h27.mono hE.ext
  refine qq hS (g_move _) ?_
  refine qq hS (g_extract rfl rfl) ?_
  refine qq hS (g_extract (v := .int .i64 _) rfl rfl) ?_
  refine qq hS (g_assign _) ?_
  refine qq hS (g_assignv (v := .int .i64 _) rfl) ?_
  refine ol_nil (thenN ?_)
  refine wp_seq ?_
  refine reg ?_
  refine qq hS (g_move _) ?_
  refine qq hS (g_move _) ?_
  refine qe (d_call Try.call32 rfl (run_E _ _ _ _ _ _ O X N _ _ hS.imm h19 hOl.symm h22 rfl hXw (by omega) hR1)) ?_
  rintro _ w_7 ⟨I_f, a37, c37, rfl, hE, h37⟩
  replace hS := hS.callE hE
  replace h0 := h0.mono hE.ext
  replace h1 := h1.mono hE.ext
  replace hb := hb.mono hE.ext
  replace h19 := h19.mono hE.ext
  replace h22 := h22.mono hE.ext
  replace h27 := h27.mono hE.ext
  replace h31 := h31.mono hE.ext
  refine qq hS (g_move _) ?_
  refine qq hS (g_extract rfl rfl) ?_
  refine qq hS (g_extract (v := .int .i64 _) rfl rfl) ?_
  refine qq hS (g_assign _) ?_
  refine qq hS (g_assignv (v := .int .i64 _) rfl) ?_
  refine ol_nil (thenN ?_)
  refine wp_seq ?_
  refine reg ?_
  refine qq hS (g_move _) ?_
  refine qq hS (g_move _) ?_
  refine qe (d_call Try.call32 rfl (run_E _ _ _ _ _ _ N Y R _ _ hS.imm h37 rfl h27 rfl hYw (by omega) hR2)) ?_
  rintro _ w_8 ⟨I_f, a43, c43, rfl, hE, h43⟩
  replace hS := hS.callE hE
  replace h0 := h0.mono hE.ext
  replace h1 := h1.mono hE.ext
  replace hb := hb.mono hE.ext
  replace h19 := h19.mono hE.ext
  replace h22 := h22.mono hE.ext
  replace h27 := h27.mono hE.ext
  replace h31 := h31.mono hE.ext
  replace h37 := h37.mono hE.ext
  refine qq hS (g_move _) ?_
  refine qq hS (g_extract rfl rfl) ?_
  refine qq hS (g_extract (v := .int .i64 _) rfl rfl) ?_
  refine qq hS (g_assign _) ?_
  refine qq hS (g_assignv (v := .int .i64 _) rfl) ?_
  refine ol_nil (thenN ?_)
  refine wp_seq ?_
  refine reg ?_
  refine qq hS (g_move _) ?_
  refine qq hS (g_move _) ?_
  refine qe (d_call Try.call32 rfl (run_E _ _ _ _ _ _ O T R _ _ hS.imm h19 hOl.symm h31 rfl hTw hTl hR3)) ?_
  rintro _ w_9 ⟨I_f, a49, c49, rfl, hE, h49⟩
  replace hS := hS.callE hE
  replace h0 := h0.mono hE.ext
  replace h1 := h1.mono hE.ext
  replace hb := hb.mono hE.ext
  replace h19 := h19.mono hE.ext
  replace h22 := h22.mono hE.ext
  replace h27 := h27.mono hE.ext
  replace h31 := h31.mono hE.ext
  replace h37 := h37.mono hE.ext
  replace h43 := h43.mono hE.ext
  refine qq hS (g_move _) ?_
  refine qq hS (g_extract rfl rfl) ?_
  refine qq hS (g_extract (v := .int .i64 _) rfl rfl) ?_
  refine qq hS (g_assign _) ?_
  refine qq hS (g_assignv (v := .int .i64 _) rfl) ?_
  refine ol_nil (thenN ?_)
  refine wp_seq ?_
  refine reg ?_
  refine qq hS (g_movev (v := .int .i64 _) rfl) ?_
  refine qq hS (g_eqT rfl rfl rfl) ?_
  refine qq hS (g_movev (v := .bool _) rfl) ?_
  refine qqs rfl rfl hS (g_movev (v := .int .i64 _) rfl) ?_
  refine qqs rfl rfl hS (g_eqT rfl rfl rfl) ?_
  refine qq hS (g_and rfl rfl (fun _ => rfl)) ?_
  refine qq hS (g_movev (v := .bool _) rfl) ?_
  refine qqs rfl rfl hS (g_movev (v := .int .i64 _) rfl) ?_
  refine qqs rfl rfl hS (g_eqT rfl rfl rfl) ?_
  refine qq hS (g_and rfl rfl (fun _ => rfl)) ?_
  refine qq hS (g_movev (v := .bool _) rfl) ?_
  refine qqs rfl rfl hS (g_movev (v := .int .i64 _) rfl) ?_
  refine qqs rfl rfl hS (g_eqT rfl rfl rfl) ?_
  refine qq hS (g_and rfl rfl (fun _ => rfl)) ?_
  refine qq hS (g_movev (v := .bool _) rfl) ?_
  refine qqs rfl rfl hS (g_move _) ?_
  refine qqs rfl rfl hS (g_move _) ?_
  refine qes rfl rfl (d_call Try.call33 rfl (sameB_T _ _ R _ _ hS.imm h49 h43)) ?_
  rintro _ w_10 ⟨rfl, hE⟩
  replace hS := hS.callE hE
  refine qq hS (g_and rfl rfl (fun _ => rfl)) ?_
  refine qq hS (g_movev (v := .bool _) rfl) ?_
  refine qqs rfl rfl hS (g_movev (v := .bool _) rfl) ?_
  refine qq hS (g_and rfl rfl (fun _ => rfl)) ?_
  refine qq hS (g_assignv (v := .bool _) rfl) ?_
  refine ol_nil (thenN ?_)
  refine wp_ret ?_
  refine ret1 Try.results8 (rv_tmp (v := .bool _) rfl) ?_
  exact ⟨_, rfl, hS.nil⟩

end Go.Proofs.Ythningkgpanaoaa

