/- inlaylaw11.MergeOrder: its function answers true. Conditions: arguments are of their kinds. -/
import Derived.Test.YtalemnjjljnnpaaMClashes
namespace Go.Proofs.Ytalemnjjljnnpaa
open Go Go.RowKit Go.Inl
set_option linter.unusedSimpArgs false
set_option linter.unusedVariables false

set_option maxRecDepth 20000 in
set_option maxHeartbeats 4000000 in
theorem morder_c (r s t : Int) (ad bd cd : Option Addr) (cap capb capc : Nat) (l lb lc : List Q4) (w0 : World) (I0 : Imm) (hI : Sat I0 w0) (hr : 0 ≤ r ∧ r ≤ 255) (h4 : RFl I0 4 q4C (.slice ad l.length cap) l) (hq : ∀ q ∈ l, q.wf) (h5 : RFl I0 4 q4C (.slice bd lb.length capb) lb) (hqb : ∀ q ∈ lb, q.wf) (h6 : RFl I0 4 q4C (.slice cd lc.length capc) lc) (hqc : ∀ q ∈ lc, q.wf) :
    Ctr Try.prog 5 [.agg #[.int .u8 r, .slice ad l.length cap, .int .u8 s, .slice bd lb.length capb, .int .u8 t, .slice cd lc.length capc]] w0 (fun v w' => ∃ I', v = .bool true ∧ Ext w0 I0 w' I') := by
  refine fn (n := 150) Try.func5 rfl rfl rfl ?_
  have hS := St.start hI
  refine wpIn_seq ?_
  refine reg ?_
  refine qe (d_box (cs := [.int .u8 _, .slice _ _ _, .int .u8 _, .slice _ _ _, .int .u8 _, .slice _ _ _]) hS rfl) ?_
  clear hS
  rintro _ w_1 ⟨b1, rfl, hS⟩
  refine qq hS (g_assignv (v := .bool _) rfl) ?_
  refine ol_nil (thenN ?_)
  refine wpIn_seq ?_
  refine reg ?_
  refine qe (d_call Try.call7 rfl (sanity11_c _ _ hS.imm)) ?_
  rintro _ w_2 ⟨I_f, rfl, hE⟩
  replace hS := hS.callE hE
  replace h4 := h4.mono hE.ext
  replace h5 := h5.mono hE.ext
  replace h6 := h6.mono hE.ext
  refine qq hS (g_assignv (v := .bool _) rfl) ?_
  refine ol_nil (thenN ?_)
  refine wpIn_seq ?_
  refine reg ?_
  refine qq hS (g_indexArr (o' := 0) Try.underlying59 Try.sizeOf24 rfl rfl (by decide) (by decide) rfl) ?_
  refine qq hS (g_ldO 0 (vs := [.int .u8 _, .slice _ _ _]) Try.sizeOf24 Try.isAgg24 rfl rfl rfl rfl) ?_
  refine qe (d_call Try.call8 rfl (made11_c r ad cap l _ _ hS.imm hr h4 hq)) ?_
  rintro _ w_3 ⟨I_f, p, a28, m28, c28, rfl, hE, h28, hgp⟩
  replace hS := hS.callE hE
  replace h4 := h4.mono hE.ext
  replace h5 := h5.mono hE.ext
  replace h6 := h6.mono hE.ext
  refine qe (d_alloc (cs := [.bool _, .int .i64 _, .int .i64 _, .slice _ _ _]) hS Try.zeroValue31 rfl) ?_
  clear hS
  rintro _ w_4 ⟨b4, rfl, hS⟩
  refine qe (d_store 0 hS Try.sizeOf31 rfl rfl rfl (vs := [.bool _, .int .i64 _, .int .i64 _, .slice _ _ _]) rfl rfl rfl (Nat.le_of_ble_eq_true rfl) (cs' := [_, _, _, _]) rfl) ?_
  clear hS
  rintro _ w_5 ⟨rfl, hS⟩
  refine ol_nil (thenN ?_)
  have hpn : 0 ≤ p.in_ ∧ p.in_ ≤ 12 := by have := hgp.in_; omega
  replace hgp : Good11 p p.in_ := ⟨hgp.wf, hgp.ck, hgp.lif, rfl, by rw [hgp.out, hgp.in_]⟩
  have hn4 : 0 ≤ p.in_ ∧ p.in_ ≤ 4096 := by omega
  obtain ⟨hF, hPP⟩ := form_self hgp hn4
  have hPW := merge_whole hgp hn4
  have hFw : PatL.wf (formOf false p.in_ (symsP p)) := by have h := mergeP_wf hgp hgp hn4; rw [hPP] at h; exact h
  refine meet (fun σ w => ∃ I b5 b6 q u a33 m33 c33 a38 m38 c38, okS σ [(3, .bool true), (4, .pointer (some ⟨b4, 0, none⟩)), (5, .pointer (some ⟨b5, 0, none⟩)), (6, .pointer (some ⟨b6, 0, none⟩))] ∧ St [] w0 I0 I w [.cel b6 31 [.bool u.lifted, .int .i64 u.in_, .int .i64 u.out, .slice a38 m38 c38], .cel b5 31 [.bool q.lifted, .int .i64 q.in_, .int .i64 q.out, .slice a33 m33 c33], .cel b4 31 [.bool p.lifted, .int .i64 p.in_, .int .i64 p.out, .slice a28 m28 c28]] ∧ ROps I (.slice a28 m28 c28) p.ops ∧ ROps I (.slice a33 m33 c33) q.ops ∧ ROps I (.slice a38 m38 c38) u.ops ∧ Good11 q p.in_ ∧ Good11 u p.in_) ?_ ?_
  ·
    refine draw (.cons 0 .pure (.cons 1 .held (.cons 2 .pure (.cons 3 .held (.cons 5 .pure (.cons 6 .held (.cons 7 .pure (.cons 8 .held (.fork3 4 (.fork3 9 (.fork 10 (.cons 11 .eff (.cons 12 .bar (.cons 13 .bar .nil))) 11 (.cons 10 .eff (.cons 12 .bar (.cons 13 .bar .nil)))) 10 (.fork 9 (.cons 11 .eff (.cons 12 .bar (.cons 13 .bar .nil))) 11 (.cons 9 .eff (.cons 12 .bar (.cons 13 .bar .nil)))) 11 (.fork 9 (.cons 10 .eff (.cons 12 .bar (.cons 13 .bar .nil))) 10 (.cons 9 .eff (.cons 12 .bar (.cons 13 .bar .nil))))) 10 (.fork 4 (.fork 9 (.cons 11 .eff (.cons 12 .bar (.cons 13 .bar .nil))) 11 (.cons 9 .eff (.cons 12 .bar (.cons 13 .bar .nil)))) 11 (.cons 4 .eff (.cons 9 .eff (.cons 12 .bar (.cons 13 .bar .nil))))) 11 (.fork 4 (.fork 9 (.cons 10 .eff (.cons 12 .bar (.cons 13 .bar .nil))) 10 (.cons 9 .eff (.cons 12 .bar (.cons 13 .bar .nil)))) 10 (.cons 4 .eff (.cons 9 .eff (.cons 12 .bar (.cons 13 .bar .nil)))))))))))))) mixed (by kernel_rfl) hS ?_
    intro w_6 hS
    refine sp rfl (g_indexArr (o' := 2) Try.underlying59 Try.sizeOf24 rfl rfl (by decide) (by decide) rfl) ?_
    refine sh rfl (g_ldO 1 (vs := [.int .u8 _, .slice _ _ _]) Try.sizeOf24 Try.isAgg24 rfl rfl rfl rfl) ?_
    refine sp rfl (g_fieldAddr (o' := 1) Try.underlying31 rfl Try.sizeOf3 rfl rfl rfl) ?_
    refine sh rfl (g_ldO1 0 Try.isAgg3 rfl rfl rfl) ?_
    refine sp rfl (g_indexArr (o' := 4) Try.underlying59 Try.sizeOf24 rfl rfl (by decide) (by decide) rfl) ?_
    refine sh rfl (g_ldO 1 (vs := [.int .u8 _, .slice _ _ _]) Try.sizeOf24 Try.isAgg24 rfl rfl rfl rfl) ?_
    refine sp rfl (g_fieldAddr (o' := 1) Try.underlying31 rfl Try.sizeOf3 rfl rfl rfl) ?_
    refine sh rfl (g_ldO1 0 Try.isAgg3 rfl rfl rfl) ?_
    refine sk3 ?_ ?_ ?_
    ·
      have hS0 := hS
      refine se rfl (d_call Try.call9 rfl (sized11_c s p.in_ bd capb lb _ _ hS.imm h5 hqb hn4)) ?_
      rintro _ w_7 ⟨I_f, q, a33, m33, c33, rfl, hE, h33, hgq⟩
      replace hS := hS.call hE
      replace h4 := h4.mono hE.ext
      replace h5 := h5.mono hE.ext
      replace h6 := h6.mono hE.ext
      replace h28 := h28.mono hE.ext
      refine ⟨_, _, hS0.le hE.ext (List.Sublist.refl _), hS, ?_⟩
      refine sk3 ?_ ?_ ?_
      ·
        have hS0 := hS
        refine se rfl (d_call Try.call9 rfl (sized11_c t p.in_ cd capc lc _ _ hS.imm h6 hqc hn4)) ?_
        rintro _ w_8 ⟨I_f, u, a38, m38, c38, rfl, hE, h38, hgu⟩
        replace hS := hS.call hE
        replace h4 := h4.mono hE.ext
        replace h5 := h5.mono hE.ext
        replace h6 := h6.mono hE.ext
        replace h28 := h28.mono hE.ext
        replace h33 := h33.mono hE.ext
        refine ⟨_, _, hS0.le hE.ext (List.Sublist.refl _), hS, ?_⟩
        refine sk ?_ ?_
        ·
          have hS0 := hS
          refine se rfl (d_alloc (cs := [.bool _, .int .i64 _, .int .i64 _, .slice _ _ _]) hS Try.zeroValue31 rfl) ?_
          rintro _ w_9 ⟨b5, rfl, hS⟩
          refine ⟨_, _, hS0.le (Sub.refl _) (List.sublist_cons_self _ _), hS, ?_⟩
          have hS0 := hS
          refine se rfl (d_alloc (cs := [.bool _, .int .i64 _, .int .i64 _, .slice _ _ _]) hS Try.zeroValue31 rfl) ?_
          rintro _ w_10 ⟨b6, rfl, hS⟩
          refine ⟨_, _, hS0.le (Sub.refl _) (List.sublist_cons_self _ _), hS, ?_⟩
          refine sb rfl (d_store 1 hS Try.sizeOf31 rfl rfl rfl (vs := [.bool _, .int .i64 _, .int .i64 _, .slice _ _ _]) rfl rfl rfl (Nat.le_of_ble_eq_true rfl) (cs' := [_, _, _, _]) rfl) ?_
          rintro _ w_11 ⟨rfl, hS⟩
          refine ⟨_, _, hS, ?_⟩
          refine sb rfl (d_store 0 hS Try.sizeOf31 rfl rfl rfl (vs := [.bool _, .int .i64 _, .int .i64 _, .slice _ _ _]) rfl rfl rfl (Nat.le_of_ble_eq_true rfl) (cs' := [_, _, _, _]) rfl) ?_
          rintro _ w_12 ⟨rfl, hS⟩
          refine ⟨_, _, hS, ?_⟩
          refine sn (thenN ?_)
          exact ⟨_, rfl, _, b5, b6, q, u, a33, m33, c33, a38, m38, c38, ⟨rfl, rfl, rfl, rfl, trivial⟩, (hS.sel [true, true, true, false]), h28, h33, h38, hgq, hgu⟩
        ·
          have hS0 := hS
          refine se rfl (d_alloc (cs := [.bool _, .int .i64 _, .int .i64 _, .slice _ _ _]) hS Try.zeroValue31 rfl) ?_
          rintro _ w_13 ⟨b6, rfl, hS⟩
          refine ⟨_, _, hS0.le (Sub.refl _) (List.sublist_cons_self _ _), hS, ?_⟩
          have hS0 := hS
          refine se rfl (d_alloc (cs := [.bool _, .int .i64 _, .int .i64 _, .slice _ _ _]) hS Try.zeroValue31 rfl) ?_
          rintro _ w_14 ⟨b5, rfl, hS⟩
          refine ⟨_, _, hS0.le (Sub.refl _) (List.sublist_cons_self _ _), hS, ?_⟩
          refine sb rfl (d_store 0 hS Try.sizeOf31 rfl rfl rfl (vs := [.bool _, .int .i64 _, .int .i64 _, .slice _ _ _]) rfl rfl rfl (Nat.le_of_ble_eq_true rfl) (cs' := [_, _, _, _]) rfl) ?_
          rintro _ w_15 ⟨rfl, hS⟩
          refine ⟨_, _, hS, ?_⟩
          refine sb rfl (d_store 1 hS Try.sizeOf31 rfl rfl rfl (vs := [.bool _, .int .i64 _, .int .i64 _, .slice _ _ _]) rfl rfl rfl (Nat.le_of_ble_eq_true rfl) (cs' := [_, _, _, _]) rfl) ?_
          rintro _ w_16 ⟨rfl, hS⟩
          refine ⟨_, _, hS, ?_⟩
          refine sn (thenN ?_)
          exact ⟨_, rfl, _, b5, b6, q, u, a33, m33, c33, a38, m38, c38, ⟨rfl, rfl, rfl, rfl, trivial⟩, (hS.ord [1, 0, 2]), h28, h33, h38, hgq, hgu⟩
      ·
        have hS0 := hS
        refine se rfl (d_alloc (cs := [.bool _, .int .i64 _, .int .i64 _, .slice _ _ _]) hS Try.zeroValue31 rfl) ?_
        rintro _ w_17 ⟨b5, rfl, hS⟩
        refine ⟨_, _, hS0.le (Sub.refl _) (List.sublist_cons_self _ _), hS, ?_⟩
        refine sk ?_ ?_
        ·
          have hS0 := hS
          refine se rfl (d_call Try.call9 rfl (sized11_c t p.in_ cd capc lc _ _ hS.imm h6 hqc hn4)) ?_
          rintro _ w_18 ⟨I_f, u, a38, m38, c38, rfl, hE, h38, hgu⟩
          replace hS := hS.call hE
          replace h4 := h4.mono hE.ext
          replace h5 := h5.mono hE.ext
          replace h6 := h6.mono hE.ext
          replace h28 := h28.mono hE.ext
          replace h33 := h33.mono hE.ext
          refine ⟨_, _, hS0.le hE.ext (List.Sublist.refl _), hS, ?_⟩
          have hS0 := hS
          refine se rfl (d_alloc (cs := [.bool _, .int .i64 _, .int .i64 _, .slice _ _ _]) hS Try.zeroValue31 rfl) ?_
          rintro _ w_19 ⟨b6, rfl, hS⟩
          refine ⟨_, _, hS0.le (Sub.refl _) (List.sublist_cons_self _ _), hS, ?_⟩
          refine sb rfl (d_store 1 hS Try.sizeOf31 rfl rfl rfl (vs := [.bool _, .int .i64 _, .int .i64 _, .slice _ _ _]) rfl rfl rfl (Nat.le_of_ble_eq_true rfl) (cs' := [_, _, _, _]) rfl) ?_
          rintro _ w_20 ⟨rfl, hS⟩
          refine ⟨_, _, hS, ?_⟩
          refine sb rfl (d_store 0 hS Try.sizeOf31 rfl rfl rfl (vs := [.bool _, .int .i64 _, .int .i64 _, .slice _ _ _]) rfl rfl rfl (Nat.le_of_ble_eq_true rfl) (cs' := [_, _, _, _]) rfl) ?_
          rintro _ w_21 ⟨rfl, hS⟩
          refine ⟨_, _, hS, ?_⟩
          refine sn (thenN ?_)
          exact ⟨_, rfl, _, b5, b6, q, u, a33, m33, c33, a38, m38, c38, ⟨rfl, rfl, rfl, rfl, trivial⟩, (hS.sel [true, true, true, false]), h28, h33, h38, hgq, hgu⟩
        ·
          have hS0 := hS
          refine se rfl (d_alloc (cs := [.bool _, .int .i64 _, .int .i64 _, .slice _ _ _]) hS Try.zeroValue31 rfl) ?_
          rintro _ w_22 ⟨b6, rfl, hS⟩
          refine ⟨_, _, hS0.le (Sub.refl _) (List.sublist_cons_self _ _), hS, ?_⟩
          have hS0 := hS
          refine se rfl (d_call Try.call9 rfl (sized11_c t p.in_ cd capc lc _ _ hS.imm h6 hqc hn4)) ?_
          rintro _ w_23 ⟨I_f, u, a38, m38, c38, rfl, hE, h38, hgu⟩
          replace hS := hS.call hE
          replace h4 := h4.mono hE.ext
          replace h5 := h5.mono hE.ext
          replace h6 := h6.mono hE.ext
          replace h28 := h28.mono hE.ext
          replace h33 := h33.mono hE.ext
          refine ⟨_, _, hS0.le hE.ext (List.Sublist.refl _), hS, ?_⟩
          refine sb rfl (d_store 1 hS Try.sizeOf31 rfl rfl rfl (vs := [.bool _, .int .i64 _, .int .i64 _, .slice _ _ _]) rfl rfl rfl (Nat.le_of_ble_eq_true rfl) (cs' := [_, _, _, _]) rfl) ?_
          rintro _ w_24 ⟨rfl, hS⟩
          refine ⟨_, _, hS, ?_⟩
          refine sb rfl (d_store 0 hS Try.sizeOf31 rfl rfl rfl (vs := [.bool _, .int .i64 _, .int .i64 _, .slice _ _ _]) rfl rfl rfl (Nat.le_of_ble_eq_true rfl) (cs' := [_, _, _, _]) rfl) ?_
          rintro _ w_25 ⟨rfl, hS⟩
          refine ⟨_, _, hS, ?_⟩
          refine sn (thenN ?_)
          exact ⟨_, rfl, _, b5, b6, q, u, a33, m33, c33, a38, m38, c38, ⟨rfl, rfl, rfl, rfl, trivial⟩, (hS.sel [true, true, true, false]), h28, h33, h38, hgq, hgu⟩
      ·
        have hS0 := hS
        refine se rfl (d_alloc (cs := [.bool _, .int .i64 _, .int .i64 _, .slice _ _ _]) hS Try.zeroValue31 rfl) ?_
        rintro _ w_26 ⟨b6, rfl, hS⟩
        refine ⟨_, _, hS0.le (Sub.refl _) (List.sublist_cons_self _ _), hS, ?_⟩
        refine sk ?_ ?_
        ·
          have hS0 := hS
          refine se rfl (d_call Try.call9 rfl (sized11_c t p.in_ cd capc lc _ _ hS.imm h6 hqc hn4)) ?_
          rintro _ w_27 ⟨I_f, u, a38, m38, c38, rfl, hE, h38, hgu⟩
          replace hS := hS.call hE
          replace h4 := h4.mono hE.ext
          replace h5 := h5.mono hE.ext
          replace h6 := h6.mono hE.ext
          replace h28 := h28.mono hE.ext
          replace h33 := h33.mono hE.ext
          refine ⟨_, _, hS0.le hE.ext (List.Sublist.refl _), hS, ?_⟩
          have hS0 := hS
          refine se rfl (d_alloc (cs := [.bool _, .int .i64 _, .int .i64 _, .slice _ _ _]) hS Try.zeroValue31 rfl) ?_
          rintro _ w_28 ⟨b5, rfl, hS⟩
          refine ⟨_, _, hS0.le (Sub.refl _) (List.sublist_cons_self _ _), hS, ?_⟩
          refine sb rfl (d_store 0 hS Try.sizeOf31 rfl rfl rfl (vs := [.bool _, .int .i64 _, .int .i64 _, .slice _ _ _]) rfl rfl rfl (Nat.le_of_ble_eq_true rfl) (cs' := [_, _, _, _]) rfl) ?_
          rintro _ w_29 ⟨rfl, hS⟩
          refine ⟨_, _, hS, ?_⟩
          refine sb rfl (d_store 1 hS Try.sizeOf31 rfl rfl rfl (vs := [.bool _, .int .i64 _, .int .i64 _, .slice _ _ _]) rfl rfl rfl (Nat.le_of_ble_eq_true rfl) (cs' := [_, _, _, _]) rfl) ?_
          rintro _ w_30 ⟨rfl, hS⟩
          refine ⟨_, _, hS, ?_⟩
          refine sn (thenN ?_)
          exact ⟨_, rfl, _, b5, b6, q, u, a33, m33, c33, a38, m38, c38, ⟨rfl, rfl, rfl, rfl, trivial⟩, (hS.ord [1, 0, 2]), h28, h33, h38, hgq, hgu⟩
        ·
          have hS0 := hS
          refine se rfl (d_alloc (cs := [.bool _, .int .i64 _, .int .i64 _, .slice _ _ _]) hS Try.zeroValue31 rfl) ?_
          rintro _ w_31 ⟨b5, rfl, hS⟩
          refine ⟨_, _, hS0.le (Sub.refl _) (List.sublist_cons_self _ _), hS, ?_⟩
          have hS0 := hS
          refine se rfl (d_call Try.call9 rfl (sized11_c t p.in_ cd capc lc _ _ hS.imm h6 hqc hn4)) ?_
          rintro _ w_32 ⟨I_f, u, a38, m38, c38, rfl, hE, h38, hgu⟩
          replace hS := hS.call hE
          replace h4 := h4.mono hE.ext
          replace h5 := h5.mono hE.ext
          replace h6 := h6.mono hE.ext
          replace h28 := h28.mono hE.ext
          replace h33 := h33.mono hE.ext
          refine ⟨_, _, hS0.le hE.ext (List.Sublist.refl _), hS, ?_⟩
          refine sb rfl (d_store 0 hS Try.sizeOf31 rfl rfl rfl (vs := [.bool _, .int .i64 _, .int .i64 _, .slice _ _ _]) rfl rfl rfl (Nat.le_of_ble_eq_true rfl) (cs' := [_, _, _, _]) rfl) ?_
          rintro _ w_33 ⟨rfl, hS⟩
          refine ⟨_, _, hS, ?_⟩
          refine sb rfl (d_store 1 hS Try.sizeOf31 rfl rfl rfl (vs := [.bool _, .int .i64 _, .int .i64 _, .slice _ _ _]) rfl rfl rfl (Nat.le_of_ble_eq_true rfl) (cs' := [_, _, _, _]) rfl) ?_
          rintro _ w_34 ⟨rfl, hS⟩
          refine ⟨_, _, hS, ?_⟩
          refine sn (thenN ?_)
          exact ⟨_, rfl, _, b5, b6, q, u, a33, m33, c33, a38, m38, c38, ⟨rfl, rfl, rfl, rfl, trivial⟩, (hS.ord [1, 0, 2]), h28, h33, h38, hgq, hgu⟩
    ·
      have hS0 := hS
      refine se rfl (d_alloc (cs := [.bool _, .int .i64 _, .int .i64 _, .slice _ _ _]) hS Try.zeroValue31 rfl) ?_
      rintro _ w_35 ⟨b5, rfl, hS⟩
      refine ⟨_, _, hS0.le (Sub.refl _) (List.sublist_cons_self _ _), hS, ?_⟩
      refine sk ?_ ?_
      ·
        have hS0 := hS
        refine se rfl (d_call Try.call9 rfl (sized11_c s p.in_ bd capb lb _ _ hS.imm h5 hqb hn4)) ?_
        rintro _ w_36 ⟨I_f, q, a33, m33, c33, rfl, hE, h33, hgq⟩
        replace hS := hS.call hE
        replace h4 := h4.mono hE.ext
        replace h5 := h5.mono hE.ext
        replace h6 := h6.mono hE.ext
        replace h28 := h28.mono hE.ext
        refine ⟨_, _, hS0.le hE.ext (List.Sublist.refl _), hS, ?_⟩
        refine sk ?_ ?_
        ·
          have hS0 := hS
          refine se rfl (d_call Try.call9 rfl (sized11_c t p.in_ cd capc lc _ _ hS.imm h6 hqc hn4)) ?_
          rintro _ w_37 ⟨I_f, u, a38, m38, c38, rfl, hE, h38, hgu⟩
          replace hS := hS.call hE
          replace h4 := h4.mono hE.ext
          replace h5 := h5.mono hE.ext
          replace h6 := h6.mono hE.ext
          replace h28 := h28.mono hE.ext
          replace h33 := h33.mono hE.ext
          refine ⟨_, _, hS0.le hE.ext (List.Sublist.refl _), hS, ?_⟩
          have hS0 := hS
          refine se rfl (d_alloc (cs := [.bool _, .int .i64 _, .int .i64 _, .slice _ _ _]) hS Try.zeroValue31 rfl) ?_
          rintro _ w_38 ⟨b6, rfl, hS⟩
          refine ⟨_, _, hS0.le (Sub.refl _) (List.sublist_cons_self _ _), hS, ?_⟩
          refine sb rfl (d_store 1 hS Try.sizeOf31 rfl rfl rfl (vs := [.bool _, .int .i64 _, .int .i64 _, .slice _ _ _]) rfl rfl rfl (Nat.le_of_ble_eq_true rfl) (cs' := [_, _, _, _]) rfl) ?_
          rintro _ w_39 ⟨rfl, hS⟩
          refine ⟨_, _, hS, ?_⟩
          refine sb rfl (d_store 0 hS Try.sizeOf31 rfl rfl rfl (vs := [.bool _, .int .i64 _, .int .i64 _, .slice _ _ _]) rfl rfl rfl (Nat.le_of_ble_eq_true rfl) (cs' := [_, _, _, _]) rfl) ?_
          rintro _ w_40 ⟨rfl, hS⟩
          refine ⟨_, _, hS, ?_⟩
          refine sn (thenN ?_)
          exact ⟨_, rfl, _, b5, b6, q, u, a33, m33, c33, a38, m38, c38, ⟨rfl, rfl, rfl, rfl, trivial⟩, (hS.sel [true, true, true, false]), h28, h33, h38, hgq, hgu⟩
        ·
          have hS0 := hS
          refine se rfl (d_alloc (cs := [.bool _, .int .i64 _, .int .i64 _, .slice _ _ _]) hS Try.zeroValue31 rfl) ?_
          rintro _ w_41 ⟨b6, rfl, hS⟩
          refine ⟨_, _, hS0.le (Sub.refl _) (List.sublist_cons_self _ _), hS, ?_⟩
          have hS0 := hS
          refine se rfl (d_call Try.call9 rfl (sized11_c t p.in_ cd capc lc _ _ hS.imm h6 hqc hn4)) ?_
          rintro _ w_42 ⟨I_f, u, a38, m38, c38, rfl, hE, h38, hgu⟩
          replace hS := hS.call hE
          replace h4 := h4.mono hE.ext
          replace h5 := h5.mono hE.ext
          replace h6 := h6.mono hE.ext
          replace h28 := h28.mono hE.ext
          replace h33 := h33.mono hE.ext
          refine ⟨_, _, hS0.le hE.ext (List.Sublist.refl _), hS, ?_⟩
          refine sb rfl (d_store 1 hS Try.sizeOf31 rfl rfl rfl (vs := [.bool _, .int .i64 _, .int .i64 _, .slice _ _ _]) rfl rfl rfl (Nat.le_of_ble_eq_true rfl) (cs' := [_, _, _, _]) rfl) ?_
          rintro _ w_43 ⟨rfl, hS⟩
          refine ⟨_, _, hS, ?_⟩
          refine sb rfl (d_store 0 hS Try.sizeOf31 rfl rfl rfl (vs := [.bool _, .int .i64 _, .int .i64 _, .slice _ _ _]) rfl rfl rfl (Nat.le_of_ble_eq_true rfl) (cs' := [_, _, _, _]) rfl) ?_
          rintro _ w_44 ⟨rfl, hS⟩
          refine ⟨_, _, hS, ?_⟩
          refine sn (thenN ?_)
          exact ⟨_, rfl, _, b5, b6, q, u, a33, m33, c33, a38, m38, c38, ⟨rfl, rfl, rfl, rfl, trivial⟩, (hS.sel [true, true, true, false]), h28, h33, h38, hgq, hgu⟩
      ·
        have hS0 := hS
        refine se rfl (d_alloc (cs := [.bool _, .int .i64 _, .int .i64 _, .slice _ _ _]) hS Try.zeroValue31 rfl) ?_
        rintro _ w_45 ⟨b6, rfl, hS⟩
        refine ⟨_, _, hS0.le (Sub.refl _) (List.sublist_cons_self _ _), hS, ?_⟩
        have hS0 := hS
        refine se rfl (d_call Try.call9 rfl (sized11_c s p.in_ bd capb lb _ _ hS.imm h5 hqb hn4)) ?_
        rintro _ w_46 ⟨I_f, q, a33, m33, c33, rfl, hE, h33, hgq⟩
        replace hS := hS.call hE
        replace h4 := h4.mono hE.ext
        replace h5 := h5.mono hE.ext
        replace h6 := h6.mono hE.ext
        replace h28 := h28.mono hE.ext
        refine ⟨_, _, hS0.le hE.ext (List.Sublist.refl _), hS, ?_⟩
        have hS0 := hS
        refine se rfl (d_call Try.call9 rfl (sized11_c t p.in_ cd capc lc _ _ hS.imm h6 hqc hn4)) ?_
        rintro _ w_47 ⟨I_f, u, a38, m38, c38, rfl, hE, h38, hgu⟩
        replace hS := hS.call hE
        replace h4 := h4.mono hE.ext
        replace h5 := h5.mono hE.ext
        replace h6 := h6.mono hE.ext
        replace h28 := h28.mono hE.ext
        replace h33 := h33.mono hE.ext
        refine ⟨_, _, hS0.le hE.ext (List.Sublist.refl _), hS, ?_⟩
        refine sb rfl (d_store 1 hS Try.sizeOf31 rfl rfl rfl (vs := [.bool _, .int .i64 _, .int .i64 _, .slice _ _ _]) rfl rfl rfl (Nat.le_of_ble_eq_true rfl) (cs' := [_, _, _, _]) rfl) ?_
        rintro _ w_48 ⟨rfl, hS⟩
        refine ⟨_, _, hS, ?_⟩
        refine sb rfl (d_store 0 hS Try.sizeOf31 rfl rfl rfl (vs := [.bool _, .int .i64 _, .int .i64 _, .slice _ _ _]) rfl rfl rfl (Nat.le_of_ble_eq_true rfl) (cs' := [_, _, _, _]) rfl) ?_
        rintro _ w_49 ⟨rfl, hS⟩
        refine ⟨_, _, hS, ?_⟩
        refine sn (thenN ?_)
        exact ⟨_, rfl, _, b5, b6, q, u, a33, m33, c33, a38, m38, c38, ⟨rfl, rfl, rfl, rfl, trivial⟩, (hS.sel [true, true, true, false]), h28, h33, h38, hgq, hgu⟩
    ·
      have hS0 := hS
      refine se rfl (d_alloc (cs := [.bool _, .int .i64 _, .int .i64 _, .slice _ _ _]) hS Try.zeroValue31 rfl) ?_
      rintro _ w_50 ⟨b6, rfl, hS⟩
      refine ⟨_, _, hS0.le (Sub.refl _) (List.sublist_cons_self _ _), hS, ?_⟩
      refine sk ?_ ?_
      ·
        have hS0 := hS
        refine se rfl (d_call Try.call9 rfl (sized11_c s p.in_ bd capb lb _ _ hS.imm h5 hqb hn4)) ?_
        rintro _ w_51 ⟨I_f, q, a33, m33, c33, rfl, hE, h33, hgq⟩
        replace hS := hS.call hE
        replace h4 := h4.mono hE.ext
        replace h5 := h5.mono hE.ext
        replace h6 := h6.mono hE.ext
        replace h28 := h28.mono hE.ext
        refine ⟨_, _, hS0.le hE.ext (List.Sublist.refl _), hS, ?_⟩
        refine sk ?_ ?_
        ·
          have hS0 := hS
          refine se rfl (d_call Try.call9 rfl (sized11_c t p.in_ cd capc lc _ _ hS.imm h6 hqc hn4)) ?_
          rintro _ w_52 ⟨I_f, u, a38, m38, c38, rfl, hE, h38, hgu⟩
          replace hS := hS.call hE
          replace h4 := h4.mono hE.ext
          replace h5 := h5.mono hE.ext
          replace h6 := h6.mono hE.ext
          replace h28 := h28.mono hE.ext
          replace h33 := h33.mono hE.ext
          refine ⟨_, _, hS0.le hE.ext (List.Sublist.refl _), hS, ?_⟩
          have hS0 := hS
          refine se rfl (d_alloc (cs := [.bool _, .int .i64 _, .int .i64 _, .slice _ _ _]) hS Try.zeroValue31 rfl) ?_
          rintro _ w_53 ⟨b5, rfl, hS⟩
          refine ⟨_, _, hS0.le (Sub.refl _) (List.sublist_cons_self _ _), hS, ?_⟩
          refine sb rfl (d_store 0 hS Try.sizeOf31 rfl rfl rfl (vs := [.bool _, .int .i64 _, .int .i64 _, .slice _ _ _]) rfl rfl rfl (Nat.le_of_ble_eq_true rfl) (cs' := [_, _, _, _]) rfl) ?_
          rintro _ w_54 ⟨rfl, hS⟩
          refine ⟨_, _, hS, ?_⟩
          refine sb rfl (d_store 1 hS Try.sizeOf31 rfl rfl rfl (vs := [.bool _, .int .i64 _, .int .i64 _, .slice _ _ _]) rfl rfl rfl (Nat.le_of_ble_eq_true rfl) (cs' := [_, _, _, _]) rfl) ?_
          rintro _ w_55 ⟨rfl, hS⟩
          refine ⟨_, _, hS, ?_⟩
          refine sn (thenN ?_)
          exact ⟨_, rfl, _, b5, b6, q, u, a33, m33, c33, a38, m38, c38, ⟨rfl, rfl, rfl, rfl, trivial⟩, (hS.ord [1, 0, 2]), h28, h33, h38, hgq, hgu⟩
        ·
          have hS0 := hS
          refine se rfl (d_alloc (cs := [.bool _, .int .i64 _, .int .i64 _, .slice _ _ _]) hS Try.zeroValue31 rfl) ?_
          rintro _ w_56 ⟨b5, rfl, hS⟩
          refine ⟨_, _, hS0.le (Sub.refl _) (List.sublist_cons_self _ _), hS, ?_⟩
          have hS0 := hS
          refine se rfl (d_call Try.call9 rfl (sized11_c t p.in_ cd capc lc _ _ hS.imm h6 hqc hn4)) ?_
          rintro _ w_57 ⟨I_f, u, a38, m38, c38, rfl, hE, h38, hgu⟩
          replace hS := hS.call hE
          replace h4 := h4.mono hE.ext
          replace h5 := h5.mono hE.ext
          replace h6 := h6.mono hE.ext
          replace h28 := h28.mono hE.ext
          replace h33 := h33.mono hE.ext
          refine ⟨_, _, hS0.le hE.ext (List.Sublist.refl _), hS, ?_⟩
          refine sb rfl (d_store 0 hS Try.sizeOf31 rfl rfl rfl (vs := [.bool _, .int .i64 _, .int .i64 _, .slice _ _ _]) rfl rfl rfl (Nat.le_of_ble_eq_true rfl) (cs' := [_, _, _, _]) rfl) ?_
          rintro _ w_58 ⟨rfl, hS⟩
          refine ⟨_, _, hS, ?_⟩
          refine sb rfl (d_store 1 hS Try.sizeOf31 rfl rfl rfl (vs := [.bool _, .int .i64 _, .int .i64 _, .slice _ _ _]) rfl rfl rfl (Nat.le_of_ble_eq_true rfl) (cs' := [_, _, _, _]) rfl) ?_
          rintro _ w_59 ⟨rfl, hS⟩
          refine ⟨_, _, hS, ?_⟩
          refine sn (thenN ?_)
          exact ⟨_, rfl, _, b5, b6, q, u, a33, m33, c33, a38, m38, c38, ⟨rfl, rfl, rfl, rfl, trivial⟩, (hS.ord [1, 0, 2]), h28, h33, h38, hgq, hgu⟩
      ·
        have hS0 := hS
        refine se rfl (d_alloc (cs := [.bool _, .int .i64 _, .int .i64 _, .slice _ _ _]) hS Try.zeroValue31 rfl) ?_
        rintro _ w_60 ⟨b5, rfl, hS⟩
        refine ⟨_, _, hS0.le (Sub.refl _) (List.sublist_cons_self _ _), hS, ?_⟩
        have hS0 := hS
        refine se rfl (d_call Try.call9 rfl (sized11_c s p.in_ bd capb lb _ _ hS.imm h5 hqb hn4)) ?_
        rintro _ w_61 ⟨I_f, q, a33, m33, c33, rfl, hE, h33, hgq⟩
        replace hS := hS.call hE
        replace h4 := h4.mono hE.ext
        replace h5 := h5.mono hE.ext
        replace h6 := h6.mono hE.ext
        replace h28 := h28.mono hE.ext
        refine ⟨_, _, hS0.le hE.ext (List.Sublist.refl _), hS, ?_⟩
        have hS0 := hS
        refine se rfl (d_call Try.call9 rfl (sized11_c t p.in_ cd capc lc _ _ hS.imm h6 hqc hn4)) ?_
        rintro _ w_62 ⟨I_f, u, a38, m38, c38, rfl, hE, h38, hgu⟩
        replace hS := hS.call hE
        replace h4 := h4.mono hE.ext
        replace h5 := h5.mono hE.ext
        replace h6 := h6.mono hE.ext
        replace h28 := h28.mono hE.ext
        replace h33 := h33.mono hE.ext
        refine ⟨_, _, hS0.le hE.ext (List.Sublist.refl _), hS, ?_⟩
        refine sb rfl (d_store 0 hS Try.sizeOf31 rfl rfl rfl (vs := [.bool _, .int .i64 _, .int .i64 _, .slice _ _ _]) rfl rfl rfl (Nat.le_of_ble_eq_true rfl) (cs' := [_, _, _, _]) rfl) ?_
        rintro _ w_63 ⟨rfl, hS⟩
        refine ⟨_, _, hS, ?_⟩
        refine sb rfl (d_store 1 hS Try.sizeOf31 rfl rfl rfl (vs := [.bool _, .int .i64 _, .int .i64 _, .slice _ _ _]) rfl rfl rfl (Nat.le_of_ble_eq_true rfl) (cs' := [_, _, _, _]) rfl) ?_
        rintro _ w_64 ⟨rfl, hS⟩
        refine ⟨_, _, hS, ?_⟩
        refine sn (thenN ?_)
        exact ⟨_, rfl, _, b5, b6, q, u, a33, m33, c33, a38, m38, c38, ⟨rfl, rfl, rfl, rfl, trivial⟩, (hS.ord [1, 0, 2]), h28, h33, h38, hgq, hgu⟩
  ·
    rintro σ w ⟨I, b5, b6, q, u, a33, m33, c33, a38, m38, c38, hs, hS, h28, h33, h38, hgq, hgu⟩
    rw [← upds_self hs]
    refine wpIn_seq ?_
    refine reg ?_
    refine qq hS (g_ldO 2 (vs := [.bool _, .int .i64 _, .int .i64 _, .slice _ _ _]) Try.sizeOf31 Try.isAgg31 rfl rfl rfl rfl) ?_
    refine qe (d_call Try.call28 rfl (form_E p (formOf false p.in_ (symsP p)) 0 _ _ _ _ _ hS.imm h28 hgp.wf hF)) ?_
    rintro _ w_65 ⟨I_f, a41, m41, c41, rfl, hE, h41⟩
    replace hS := hS.callE hE
    replace h28 := h28.mono hE.ext
    replace h33 := h33.mono hE.ext
    replace h38 := h38.mono hE.ext
    refine qq hS (g_move _) ?_
    refine qq hS (g_extract rfl rfl) ?_
    refine qq hS (g_extract (v := .int .i64 _) rfl rfl) ?_
    refine qe (d_alloc (cs := [.bool _, .int .i64 _, .int .i64 _, .slice _ _ _]) hS Try.zeroValue31 rfl) ?_
    clear hS
    rintro _ w_66 ⟨b7, rfl, hS⟩
    refine qe (d_store 0 hS Try.sizeOf31 rfl rfl rfl (vs := [.bool _, .int .i64 _, .int .i64 _, .slice _ _ _]) rfl rfl rfl (Nat.le_of_ble_eq_true rfl) (cs' := [_, _, _, _]) rfl) ?_
    clear hS
    rintro _ w_67 ⟨rfl, hS⟩
    refine qq hS (g_assignv (v := .int .i64 _) rfl) ?_
    refine ol_nil (thenN ?_)
    refine wpIn_seq ?_
    refine reg ?_
    refine qq hS (g_ldO 3 (vs := [.bool _, .int .i64 _, .int .i64 _, .slice _ _ _]) Try.sizeOf31 Try.isAgg31 rfl rfl rfl rfl) ?_
    refine qq hS (g_ldO 3 (vs := [.bool _, .int .i64 _, .int .i64 _, .slice _ _ _]) Try.sizeOf31 Try.isAgg31 rfl rfl rfl rfl) ?_
    refine qe (d_call Try.call18 rfl (merge_E p _ _ _ p _ _ _ ((formOf false p.in_ (symsP p)), 0) _ _ hS.imm hgp.wf h28 hgp.wf h28 hPP)) ?_
    rintro _ w_68 ⟨I_f, a47, m47, c47, rfl, hE, h47⟩
    replace hS := hS.callE hE
    replace h28 := h28.mono hE.ext
    replace h33 := h33.mono hE.ext
    replace h38 := h38.mono hE.ext
    replace h41 := h41.mono hE.ext
    refine qq hS (g_move _) ?_
    refine qq hS (g_extract rfl rfl) ?_
    refine qq hS (g_extract (v := .int .i64 _) rfl rfl) ?_
    refine qe (d_alloc (cs := [.bool _, .int .i64 _, .int .i64 _, .slice _ _ _]) hS Try.zeroValue31 rfl) ?_
    clear hS
    rintro _ w_69 ⟨b9, rfl, hS⟩
    refine qe (d_store 0 hS Try.sizeOf31 rfl rfl rfl (vs := [.bool _, .int .i64 _, .int .i64 _, .slice _ _ _]) rfl rfl rfl (Nat.le_of_ble_eq_true rfl) (cs' := [_, _, _, _]) rfl) ?_
    clear hS
    rintro _ w_70 ⟨rfl, hS⟩
    refine qq hS (g_assignv (v := .int .i64 _) rfl) ?_
    refine ol_nil (thenN ?_)
    refine meet (fun σ w => ∃ I b11 a47 m47 c47 a41 m41 c41 a55 m55 c55, okS σ [(3, .bool true), (4, .pointer (some ⟨b4, 0, none⟩)), (5, .pointer (some ⟨b5, 0, none⟩)), (6, .pointer (some ⟨b6, 0, none⟩)), (7, .pointer (some ⟨b7, 0, none⟩)), (8, .int .i64 0), (9, .pointer (some ⟨b9, 0, none⟩)), (10, .int .i64 0), (11, .pointer (some ⟨b11, 0, none⟩)), (12, .int .i64 0)] ∧ St [] w0 I0 I w [.cel b11 31 [.bool (formOf false p.in_ (symsP p)).lifted, .int .i64 (formOf false p.in_ (symsP p)).in_, .int .i64 (formOf false p.in_ (symsP p)).out, .slice a55 m55 c55], .cel b9 31 [.bool (formOf false p.in_ (symsP p)).lifted, .int .i64 (formOf false p.in_ (symsP p)).in_, .int .i64 (formOf false p.in_ (symsP p)).out, .slice a47 m47 c47], .cel b7 31 [.bool (formOf false p.in_ (symsP p)).lifted, .int .i64 (formOf false p.in_ (symsP p)).in_, .int .i64 (formOf false p.in_ (symsP p)).out, .slice a41 m41 c41], .cel b6 31 [.bool u.lifted, .int .i64 u.in_, .int .i64 u.out, .slice a38 m38 c38], .cel b5 31 [.bool q.lifted, .int .i64 q.in_, .int .i64 q.out, .slice a33 m33 c33], .cel b4 31 [.bool p.lifted, .int .i64 p.in_, .int .i64 p.out, .slice a28 m28 c28]] ∧ ROps I (.slice a28 m28 c28) p.ops ∧ ROps I (.slice a33 m33 c33) q.ops ∧ ROps I (.slice a38 m38 c38) u.ops ∧ ROps I (.slice a41 m41 c41) (formOf false p.in_ (symsP p)).ops ∧ ROps I (.slice a47 m47 c47) (formOf false p.in_ (symsP p)).ops ∧ ROps I (.slice a55 m55 c55) (formOf false p.in_ (symsP p)).ops) ?_ ?_
    ·
      refine draw (.cons 0 .held (.cons 1 .pure (.cons 2 .held (.fork 3 (.fork 4 (.cons 5 .pure (.cons 6 .pure (.cons 7 .pure (.cons 8 .eff (.cons 9 .bar (.cons 10 .pure .nil)))))) 8 (.cons 4 .eff (.cons 5 .pure (.cons 6 .pure (.cons 7 .pure (.cons 9 .bar (.cons 10 .pure .nil))))))) 8 (.cons 3 .eff (.cons 4 .eff (.cons 5 .pure (.cons 6 .pure (.cons 7 .pure (.cons 9 .bar (.cons 10 .pure .nil))))))))))) mixed (by kernel_rfl) hS ?_
      intro w_71 hS
      refine sh rfl (g_ldO 4 (vs := [.bool _, .int .i64 _, .int .i64 _, .slice _ _ _]) Try.sizeOf31 Try.isAgg31 rfl rfl rfl rfl) ?_
      refine sp rfl (g_fieldAddr (o' := 1) Try.underlying31 rfl Try.sizeOf3 rfl rfl rfl) ?_
      refine sh rfl (g_ldO1 4 Try.isAgg3 rfl rfl rfl) ?_
      refine sk ?_ ?_
      ·
        have hS0 := hS
        refine se rfl (d_call Try.call29 rfl (patchWhole_c p.in_ _ _ hS.imm (by omega))) ?_
        rintro _ w_72 ⟨I_f, a54, m54, c54, rfl, hE, h54⟩
        replace hS := hS.call hE
        replace h28 := h28.mono hE.ext
        replace h33 := h33.mono hE.ext
        replace h38 := h38.mono hE.ext
        replace h41 := h41.mono hE.ext
        replace h47 := h47.mono hE.ext
        refine ⟨_, _, hS0.le hE.ext (List.Sublist.refl _), hS, ?_⟩
        refine sk ?_ ?_
        ·
          have hS0 := hS
          refine se rfl (d_call Try.call18 rfl (merge_E p _ _ _ (wholeP p.in_) _ _ _ ((formOf false p.in_ (symsP p)), 0) _ _ hS.imm hgp.wf h28 (whole_good hn4).wf h54 hPW)) ?_
          rintro _ w_73 ⟨I_f, a55, m55, c55, rfl, hE, h55⟩
          replace hS := hS.call hE
          replace h28 := h28.mono hE.ext
          replace h33 := h33.mono hE.ext
          replace h38 := h38.mono hE.ext
          replace h41 := h41.mono hE.ext
          replace h47 := h47.mono hE.ext
          replace h54 := h54.mono hE.ext
          refine ⟨_, _, hS0.le hE.ext (List.Sublist.refl _), hS, ?_⟩
          refine sp rfl (g_move _) ?_
          refine sp rfl (g_extract rfl rfl) ?_
          refine sp rfl (g_extract (v := .int .i64 _) rfl rfl) ?_
          have hS0 := hS
          refine se rfl (d_alloc (cs := [.bool _, .int .i64 _, .int .i64 _, .slice _ _ _]) hS Try.zeroValue31 rfl) ?_
          rintro _ w_74 ⟨b11, rfl, hS⟩
          refine ⟨_, _, hS0.le (Sub.refl _) (List.sublist_cons_self _ _), hS, ?_⟩
          refine sb rfl (d_store 0 hS Try.sizeOf31 rfl rfl rfl (vs := [.bool _, .int .i64 _, .int .i64 _, .slice _ _ _]) rfl rfl rfl (Nat.le_of_ble_eq_true rfl) (cs' := [_, _, _, _]) rfl) ?_
          rintro _ w_75 ⟨rfl, hS⟩
          refine ⟨_, _, hS, ?_⟩
          refine sp rfl (g_assignv (v := .int .i64 _) rfl) ?_
          refine sn (thenN ?_)
          exact ⟨_, rfl, _, b11, a47, m47, c47, a41, m41, c41, a55, m55, c55, ⟨rfl, rfl, rfl, rfl, rfl, rfl, rfl, rfl, rfl, rfl, trivial⟩, hS, h28, h33, h38, h41, h47, h55⟩
        ·
          have hS0 := hS
          refine se rfl (d_alloc (cs := [.bool _, .int .i64 _, .int .i64 _, .slice _ _ _]) hS Try.zeroValue31 rfl) ?_
          rintro _ w_76 ⟨b11, rfl, hS⟩
          refine ⟨_, _, hS0.le (Sub.refl _) (List.sublist_cons_self _ _), hS, ?_⟩
          have hS0 := hS
          refine se rfl (d_call Try.call18 rfl (merge_E p _ _ _ (wholeP p.in_) _ _ _ ((formOf false p.in_ (symsP p)), 0) _ _ hS.imm hgp.wf h28 (whole_good hn4).wf h54 hPW)) ?_
          rintro _ w_77 ⟨I_f, a55, m55, c55, rfl, hE, h55⟩
          replace hS := hS.call hE
          replace h28 := h28.mono hE.ext
          replace h33 := h33.mono hE.ext
          replace h38 := h38.mono hE.ext
          replace h41 := h41.mono hE.ext
          replace h47 := h47.mono hE.ext
          replace h54 := h54.mono hE.ext
          refine ⟨_, _, hS0.le hE.ext (List.Sublist.refl _), hS, ?_⟩
          refine sp rfl (g_move _) ?_
          refine sp rfl (g_extract rfl rfl) ?_
          refine sp rfl (g_extract (v := .int .i64 _) rfl rfl) ?_
          refine sb rfl (d_store 0 hS Try.sizeOf31 rfl rfl rfl (vs := [.bool _, .int .i64 _, .int .i64 _, .slice _ _ _]) rfl rfl rfl (Nat.le_of_ble_eq_true rfl) (cs' := [_, _, _, _]) rfl) ?_
          rintro _ w_78 ⟨rfl, hS⟩
          refine ⟨_, _, hS, ?_⟩
          refine sp rfl (g_assignv (v := .int .i64 _) rfl) ?_
          refine sn (thenN ?_)
          exact ⟨_, rfl, _, b11, a47, m47, c47, a41, m41, c41, a55, m55, c55, ⟨rfl, rfl, rfl, rfl, rfl, rfl, rfl, rfl, rfl, rfl, trivial⟩, hS, h28, h33, h38, h41, h47, h55⟩
      ·
        have hS0 := hS
        refine se rfl (d_alloc (cs := [.bool _, .int .i64 _, .int .i64 _, .slice _ _ _]) hS Try.zeroValue31 rfl) ?_
        rintro _ w_79 ⟨b11, rfl, hS⟩
        refine ⟨_, _, hS0.le (Sub.refl _) (List.sublist_cons_self _ _), hS, ?_⟩
        have hS0 := hS
        refine se rfl (d_call Try.call29 rfl (patchWhole_c p.in_ _ _ hS.imm (by omega))) ?_
        rintro _ w_80 ⟨I_f, a54, m54, c54, rfl, hE, h54⟩
        replace hS := hS.call hE
        replace h28 := h28.mono hE.ext
        replace h33 := h33.mono hE.ext
        replace h38 := h38.mono hE.ext
        replace h41 := h41.mono hE.ext
        replace h47 := h47.mono hE.ext
        refine ⟨_, _, hS0.le hE.ext (List.Sublist.refl _), hS, ?_⟩
        have hS0 := hS
        refine se rfl (d_call Try.call18 rfl (merge_E p _ _ _ (wholeP p.in_) _ _ _ ((formOf false p.in_ (symsP p)), 0) _ _ hS.imm hgp.wf h28 (whole_good hn4).wf h54 hPW)) ?_
        rintro _ w_81 ⟨I_f, a55, m55, c55, rfl, hE, h55⟩
        replace hS := hS.call hE
        replace h28 := h28.mono hE.ext
        replace h33 := h33.mono hE.ext
        replace h38 := h38.mono hE.ext
        replace h41 := h41.mono hE.ext
        replace h47 := h47.mono hE.ext
        replace h54 := h54.mono hE.ext
        refine ⟨_, _, hS0.le hE.ext (List.Sublist.refl _), hS, ?_⟩
        refine sp rfl (g_move _) ?_
        refine sp rfl (g_extract rfl rfl) ?_
        refine sp rfl (g_extract (v := .int .i64 _) rfl rfl) ?_
        refine sb rfl (d_store 0 hS Try.sizeOf31 rfl rfl rfl (vs := [.bool _, .int .i64 _, .int .i64 _, .slice _ _ _]) rfl rfl rfl (Nat.le_of_ble_eq_true rfl) (cs' := [_, _, _, _]) rfl) ?_
        rintro _ w_82 ⟨rfl, hS⟩
        refine ⟨_, _, hS, ?_⟩
        refine sp rfl (g_assignv (v := .int .i64 _) rfl) ?_
        refine sn (thenN ?_)
        exact ⟨_, rfl, _, b11, a47, m47, c47, a41, m41, c41, a55, m55, c55, ⟨rfl, rfl, rfl, rfl, rfl, rfl, rfl, rfl, rfl, rfl, trivial⟩, hS, h28, h33, h38, h41, h47, h55⟩
    ·
      rintro σ w ⟨I, b11, a47, m47, c47, a41, m41, c41, a55, m55, c55, hs, hS, h28, h33, h38, h41, h47, h55⟩
      rw [← upds_self hs]
      refine wpIn_seq ?_
      refine wpIn_seq ?_
      refine reg ?_
      refine qq hS (g_movev (v := .int .i64 _) rfl) ?_
      refine qq hS (g_neq rfl rfl) ?_
      refine qq hS (g_movev (v := .bool _) rfl) ?_
      refine qqs rfl rfl hS (g_movev (v := .int .i64 _) rfl) ?_
      refine qqs rfl rfl hS (g_neq rfl rfl) ?_
      refine qq hS (g_or rfl rfl (fun _ => rfl)) ?_
      refine qq hS (g_movev (v := .bool _) rfl) ?_
      refine qqs rfl rfl hS (g_movev (v := .int .i64 _) rfl) ?_
      refine qqs rfl rfl hS (g_neq rfl rfl) ?_
      refine qq hS (g_or rfl rfl (fun _ => rfl)) ?_
      refine qq hS (g_movev (v := .bool _) rfl) ?_
      refine qqs rfl rfl hS (g_ldO 2 (vs := [.bool _, .int .i64 _, .int .i64 _, .slice _ _ _]) Try.sizeOf31 Try.isAgg31 rfl rfl rfl rfl) ?_
      refine qqs rfl rfl hS (g_ldO 1 (vs := [.bool _, .int .i64 _, .int .i64 _, .slice _ _ _]) Try.sizeOf31 Try.isAgg31 rfl rfl rfl rfl) ?_
      refine qes rfl rfl (d_call Try.call20 rfl (same_T (formOf false p.in_ (symsP p)) _ _ _ _ _ _ _ _ hS.imm h41 h47 hFw)) ?_
      rintro _ w_83 ⟨rfl, hE⟩
      replace hS := hS.callE hE
      refine qqs rfl rfl hS (g_not rfl) ?_
      refine qq hS (g_or rfl rfl (fun _ => rfl)) ?_
      refine qq hS (g_movev (v := .bool _) rfl) ?_
      refine qqs rfl rfl hS (g_ldO 2 (vs := [.bool _, .int .i64 _, .int .i64 _, .slice _ _ _]) Try.sizeOf31 Try.isAgg31 rfl rfl rfl rfl) ?_
      refine qqs rfl rfl hS (g_ldO 0 (vs := [.bool _, .int .i64 _, .int .i64 _, .slice _ _ _]) Try.sizeOf31 Try.isAgg31 rfl rfl rfl rfl) ?_
      refine qes rfl rfl (d_call Try.call20 rfl (same_T (formOf false p.in_ (symsP p)) _ _ _ _ _ _ _ _ hS.imm h41 h55 hFw)) ?_
      rintro _ w_84 ⟨rfl, hE⟩
      replace hS := hS.callE hE
      refine qqs rfl rfl hS (g_not rfl) ?_
      refine qq hS (g_or rfl rfl (fun _ => rfl)) ?_
      refine ol_nil (thenN ?_)
      refine cond_f (rfl) ?_
      refine wpIn_skip ?_
      refine thenN ?_
      refine wpIn_seq ?_
      obtain ⟨M1, hM1⟩ : ∃ A, mergeP p q = A := ⟨_, rfl⟩
      have hM1b : mergeP q p = M1 := by rw [merge_comm hgp hgq hn4, hM1]
      obtain ⟨M2, hM2⟩ : ∃ A, mergeP q u = A := ⟨_, rfl⟩
      obtain ⟨M3, hM3⟩ : ∃ A, mergeP p u = A := ⟨_, rfl⟩
      have hM1w : M1.1.wf := by rw [← hM1]; exact mergeP_wf hgp hgq hn4
      have hM2w : M2.1.wf := by rw [← hM2]; exact mergeP_wf hgq hgu hn4
      refine reg ?_
      refine qq hS (g_ldO 5 (vs := [.bool _, .int .i64 _, .int .i64 _, .slice _ _ _]) Try.sizeOf31 Try.isAgg31 rfl rfl rfl rfl) ?_
      refine qq hS (g_ldO 4 (vs := [.bool _, .int .i64 _, .int .i64 _, .slice _ _ _]) Try.sizeOf31 Try.isAgg31 rfl rfl rfl rfl) ?_
      refine qe (d_call Try.call18 rfl (merge_E p _ _ _ q _ _ _ M1 _ _ hS.imm hgp.wf h28 hgq.wf h33 hM1)) ?_
      rintro _ w_85 ⟨I_f, a83, m83, c83, rfl, hE, h83⟩
      replace hS := hS.callE hE
      replace h28 := h28.mono hE.ext
      replace h33 := h33.mono hE.ext
      replace h38 := h38.mono hE.ext
      replace h41 := h41.mono hE.ext
      replace h47 := h47.mono hE.ext
      replace h55 := h55.mono hE.ext
      refine qq hS (g_move _) ?_
      refine qq hS (g_extract rfl rfl) ?_
      refine qq hS (g_extract (v := .int .i64 _) rfl rfl) ?_
      refine qe (d_alloc (cs := [.bool _, .int .i64 _, .int .i64 _, .slice _ _ _]) hS Try.zeroValue31 rfl) ?_
      clear hS
      rintro _ w_86 ⟨b13, rfl, hS⟩
      refine qe (d_store 0 hS Try.sizeOf31 rfl rfl rfl (vs := [.bool _, .int .i64 _, .int .i64 _, .slice _ _ _]) rfl rfl rfl (Nat.le_of_ble_eq_true rfl) (cs' := [_, _, _, _]) rfl) ?_
      clear hS
      rintro _ w_87 ⟨rfl, hS⟩
      refine qq hS (g_assignv (v := .int .i64 _) rfl) ?_
      refine ol_nil (thenN ?_)
      refine wpIn_seq ?_
      refine reg ?_
      refine qq hS (g_ldO 5 (vs := [.bool _, .int .i64 _, .int .i64 _, .slice _ _ _]) Try.sizeOf31 Try.isAgg31 rfl rfl rfl rfl) ?_
      refine qq hS (g_ldO 6 (vs := [.bool _, .int .i64 _, .int .i64 _, .slice _ _ _]) Try.sizeOf31 Try.isAgg31 rfl rfl rfl rfl) ?_
      refine qe (d_call Try.call18 rfl (merge_E q _ _ _ p _ _ _ M1 _ _ hS.imm hgq.wf h33 hgp.wf h28 hM1b)) ?_
      rintro _ w_88 ⟨I_f, a89, m89, c89, rfl, hE, h89⟩
      replace hS := hS.callE hE
      replace h28 := h28.mono hE.ext
      replace h33 := h33.mono hE.ext
      replace h38 := h38.mono hE.ext
      replace h41 := h41.mono hE.ext
      replace h47 := h47.mono hE.ext
      replace h55 := h55.mono hE.ext
      replace h83 := h83.mono hE.ext
      refine qq hS (g_move _) ?_
      refine qq hS (g_extract rfl rfl) ?_
      refine qq hS (g_extract (v := .int .i64 _) rfl rfl) ?_
      refine qe (d_alloc (cs := [.bool _, .int .i64 _, .int .i64 _, .slice _ _ _]) hS Try.zeroValue31 rfl) ?_
      clear hS
      rintro _ w_89 ⟨b15, rfl, hS⟩
      refine qe (d_store 0 hS Try.sizeOf31 rfl rfl rfl (vs := [.bool _, .int .i64 _, .int .i64 _, .slice _ _ _]) rfl rfl rfl (Nat.le_of_ble_eq_true rfl) (cs' := [_, _, _, _]) rfl) ?_
      clear hS
      rintro _ w_90 ⟨rfl, hS⟩
      refine qq hS (g_assignv (v := .int .i64 _) rfl) ?_
      refine ol_nil (thenN ?_)
      refine wpIn_seq ?_
      refine reg ?_
      refine qq hS (g_ldO 6 (vs := [.bool _, .int .i64 _, .int .i64 _, .slice _ _ _]) Try.sizeOf31 Try.isAgg31 rfl rfl rfl rfl) ?_
      refine qq hS (g_ldO 5 (vs := [.bool _, .int .i64 _, .int .i64 _, .slice _ _ _]) Try.sizeOf31 Try.isAgg31 rfl rfl rfl rfl) ?_
      refine qe (d_call Try.call18 rfl (merge_E q _ _ _ u _ _ _ M2 _ _ hS.imm hgq.wf h33 hgu.wf h38 hM2)) ?_
      rintro _ w_91 ⟨I_f, a95, m95, c95, rfl, hE, h95⟩
      replace hS := hS.callE hE
      replace h28 := h28.mono hE.ext
      replace h33 := h33.mono hE.ext
      replace h38 := h38.mono hE.ext
      replace h41 := h41.mono hE.ext
      replace h47 := h47.mono hE.ext
      replace h55 := h55.mono hE.ext
      replace h83 := h83.mono hE.ext
      replace h89 := h89.mono hE.ext
      refine qq hS (g_move _) ?_
      refine qq hS (g_extract rfl rfl) ?_
      refine qq hS (g_extract (v := .int .i64 _) rfl rfl) ?_
      refine qe (d_alloc (cs := [.bool _, .int .i64 _, .int .i64 _, .slice _ _ _]) hS Try.zeroValue31 rfl) ?_
      clear hS
      rintro _ w_92 ⟨b17, rfl, hS⟩
      refine qe (d_store 0 hS Try.sizeOf31 rfl rfl rfl (vs := [.bool _, .int .i64 _, .int .i64 _, .slice _ _ _]) rfl rfl rfl (Nat.le_of_ble_eq_true rfl) (cs' := [_, _, _, _]) rfl) ?_
      clear hS
      rintro _ w_93 ⟨rfl, hS⟩
      refine qq hS (g_assignv (v := .int .i64 _) rfl) ?_
      refine ol_nil (thenN ?_)
      refine wpIn_seq ?_
      refine reg ?_
      refine qq hS (g_ldO 8 (vs := [.bool _, .int .i64 _, .int .i64 _, .slice _ _ _]) Try.sizeOf31 Try.isAgg31 rfl rfl rfl rfl) ?_
      refine qq hS (g_ldO 6 (vs := [.bool _, .int .i64 _, .int .i64 _, .slice _ _ _]) Try.sizeOf31 Try.isAgg31 rfl rfl rfl rfl) ?_
      refine qe (d_call Try.call18 rfl (merge_E p _ _ _ u _ _ _ M3 _ _ hS.imm hgp.wf h28 hgu.wf h38 hM3)) ?_
      rintro _ w_94 ⟨I_f, a101, m101, c101, rfl, hE, h101⟩
      replace hS := hS.callE hE
      replace h28 := h28.mono hE.ext
      replace h33 := h33.mono hE.ext
      replace h38 := h38.mono hE.ext
      replace h41 := h41.mono hE.ext
      replace h47 := h47.mono hE.ext
      replace h55 := h55.mono hE.ext
      replace h83 := h83.mono hE.ext
      replace h89 := h89.mono hE.ext
      replace h95 := h95.mono hE.ext
      refine qq hS (g_move _) ?_
      refine qq hS (g_extract rfl rfl) ?_
      refine qq hS (g_extract (v := .int .i64 _) rfl rfl) ?_
      refine qe (d_alloc (cs := [.bool _, .int .i64 _, .int .i64 _, .slice _ _ _]) hS Try.zeroValue31 rfl) ?_
      clear hS
      rintro _ w_95 ⟨b19, rfl, hS⟩
      refine qe (d_store 0 hS Try.sizeOf31 rfl rfl rfl (vs := [.bool _, .int .i64 _, .int .i64 _, .slice _ _ _]) rfl rfl rfl (Nat.le_of_ble_eq_true rfl) (cs' := [_, _, _, _]) rfl) ?_
      clear hS
      rintro _ w_96 ⟨rfl, hS⟩
      refine qq hS (g_assignv (v := .int .i64 _) rfl) ?_
      refine ol_nil (thenN ?_)
      refine wpIn_seq ?_
      refine wpIn_seq ?_
      refine reg ?_
      refine qq hS (g_movev (v := .int .i64 _) rfl) ?_
      refine qq hS (g_movev (v := .int .i64 _) rfl) ?_
      refine qq hS (g_neqF rfl rfl rfl) ?_
      refine qq hS (g_movev (v := .bool _) rfl) ?_
      refine qqs rfl rfl hS (g_ldO 3 (vs := [.bool _, .int .i64 _, .int .i64 _, .slice _ _ _]) Try.sizeOf31 Try.isAgg31 rfl rfl rfl rfl) ?_
      refine qqs rfl rfl hS (g_ldO 2 (vs := [.bool _, .int .i64 _, .int .i64 _, .slice _ _ _]) Try.sizeOf31 Try.isAgg31 rfl rfl rfl rfl) ?_
      refine qes rfl rfl (d_call Try.call20 rfl (same_T M1.1 _ _ _ _ _ _ _ _ hS.imm h83 h89 hM1w)) ?_
      rintro _ w_97 ⟨rfl, hE⟩
      replace hS := hS.callE hE
      refine qqs rfl rfl hS (g_not rfl) ?_
      refine qq hS (g_or rfl rfl (fun _ => rfl)) ?_
      refine ol_nil (thenN ?_)
      refine cond_f (rfl) ?_
      refine wpIn_skip ?_
      refine thenN ?_
      refine wpIn_seq ?_
      refine wpIn_seq ?_
      refine reg ?_
      refine qq hS (g_movev (v := .int .i64 _) rfl) ?_
      refine qq hS (g_neq rfl rfl) ?_
      refine qq hS (g_movev (v := .bool _) rfl) ?_
      refine qu rfl rfl hS (fun hg => (g_movev (v := .int .i64 _) rfl)) ?_
      intro u116 hu116 hn116
      refine qu rfl rfl hS (fun hg => (g_neq (hu116 hg) rfl)) ?_
      intro u117 hu117 hn117
      refine qq hS (g_or rfl rfl (fun hq => hu117 hq)) ?_
      refine qq hS (g_movev (v := .bool _) rfl) ?_
      refine qu rfl rfl hS (fun hg => (g_movev (v := .int .i64 _) rfl)) ?_
      intro u120 hu120 hn120
      refine qu rfl rfl hS (fun hg => (g_neq (hu120 hg) rfl)) ?_
      intro u121 hu121 hn121
      refine qq hS (g_or rfl rfl (fun hq => hu121 hq)) ?_
      refine ol_nil (thenN ?_)
      refine cond_s rfl ?_ ?_
      ·
        intro hc122
        clear hu116 hn116 hu117 hn117 hu120 hn120 hu121 hn121
        try simp only [Bool.and_eq_true, Bool.or_eq_true, Bool.not_eq_true', Bool.and_eq_false_imp, Bool.or_eq_false_iff, Bool.not_eq_false', decide_eq_true_eq, decide_eq_false_iff_not] at hc122
        refine wpIn_seq ?_
        refine reg ?_
        refine qq hS (g_movev (v := .bool _) rfl) ?_
        refine qq hS (g_assignv (v := .bool _) rfl) ?_
        refine ol_nil (thenN ?_)
        refine wpIn_ret ?_
        refine thenR ?_
        refine ret1 Try.results5 (rv_tmp (v := .bool _) rfl) ?_
        exact ⟨_, rfl, hS.nil⟩
      ·
        intro hc122
        clear hu116 hn116 hu117 hn117 hu120 hn120 hu121 hn121
        try simp only [Bool.and_eq_true, Bool.or_eq_true, Bool.not_eq_true', Bool.and_eq_false_imp, Bool.or_eq_false_iff, Bool.not_eq_false', decide_eq_true_eq, decide_eq_false_iff_not] at hc122
        obtain ⟨X, hXw, hX1, hX2⟩ := merge_three hgp hgq hgu hn4 (by rw [hM1]; exact hc122.1.1) (by rw [hM2]; exact hc122.1.2) (by rw [hM3]; exact hc122.2)
        rw [hM1] at hX1
        rw [hM2] at hX2
        refine wpIn_skip ?_
        refine thenN ?_
        refine wpIn_seq ?_
        refine reg ?_
        refine qq hS (g_ldO 3 (vs := [.bool _, .int .i64 _, .int .i64 _, .slice _ _ _]) Try.sizeOf31 Try.isAgg31 rfl rfl rfl rfl) ?_
        refine qq hS (g_ldO 7 (vs := [.bool _, .int .i64 _, .int .i64 _, .slice _ _ _]) Try.sizeOf31 Try.isAgg31 rfl rfl rfl rfl) ?_
        refine qe (d_call Try.call18 rfl (merge_E M1.1 _ _ _ u _ _ _ (X, 0) _ _ hS.imm hM1w h83 hgu.wf h38 hX1)) ?_
        rintro _ w_98 ⟨I_f, a127, m127, c127, rfl, hE, h127⟩
        replace hS := hS.callE hE
        replace h28 := h28.mono hE.ext
        replace h33 := h33.mono hE.ext
        replace h38 := h38.mono hE.ext
        replace h41 := h41.mono hE.ext
        replace h47 := h47.mono hE.ext
        replace h55 := h55.mono hE.ext
        replace h83 := h83.mono hE.ext
        replace h89 := h89.mono hE.ext
        replace h95 := h95.mono hE.ext
        replace h101 := h101.mono hE.ext
        refine qq hS (g_move _) ?_
        refine qq hS (g_extract rfl rfl) ?_
        refine qq hS (g_extract (v := .int .i64 _) rfl rfl) ?_
        refine qe (d_alloc (cs := [.bool _, .int .i64 _, .int .i64 _, .slice _ _ _]) hS Try.zeroValue31 rfl) ?_
        clear hS
        rintro _ w_99 ⟨b21, rfl, hS⟩
        refine qe (d_store 0 hS Try.sizeOf31 rfl rfl rfl (vs := [.bool _, .int .i64 _, .int .i64 _, .slice _ _ _]) rfl rfl rfl (Nat.le_of_ble_eq_true rfl) (cs' := [_, _, _, _]) rfl) ?_
        clear hS
        rintro _ w_100 ⟨rfl, hS⟩
        refine qq hS (g_assignv (v := .int .i64 _) rfl) ?_
        refine ol_nil (thenN ?_)
        refine wpIn_seq ?_
        refine reg ?_
        refine qq hS (g_ldO 10 (vs := [.bool _, .int .i64 _, .int .i64 _, .slice _ _ _]) Try.sizeOf31 Try.isAgg31 rfl rfl rfl rfl) ?_
        refine qq hS (g_ldO 2 (vs := [.bool _, .int .i64 _, .int .i64 _, .slice _ _ _]) Try.sizeOf31 Try.isAgg31 rfl rfl rfl rfl) ?_
        refine qe (d_call Try.call18 rfl (merge_E p _ _ _ M2.1 _ _ _ (X, 0) _ _ hS.imm hgp.wf h28 hM2w h95 hX2)) ?_
        rintro _ w_101 ⟨I_f, a133, m133, c133, rfl, hE, h133⟩
        replace hS := hS.callE hE
        replace h28 := h28.mono hE.ext
        replace h33 := h33.mono hE.ext
        replace h38 := h38.mono hE.ext
        replace h41 := h41.mono hE.ext
        replace h47 := h47.mono hE.ext
        replace h55 := h55.mono hE.ext
        replace h83 := h83.mono hE.ext
        replace h89 := h89.mono hE.ext
        replace h95 := h95.mono hE.ext
        replace h101 := h101.mono hE.ext
        replace h127 := h127.mono hE.ext
        refine qq hS (g_move _) ?_
        refine qq hS (g_extract rfl rfl) ?_
        refine qq hS (g_extract (v := .int .i64 _) rfl rfl) ?_
        refine qe (d_alloc (cs := [.bool _, .int .i64 _, .int .i64 _, .slice _ _ _]) hS Try.zeroValue31 rfl) ?_
        clear hS
        rintro _ w_102 ⟨b23, rfl, hS⟩
        refine qe (d_store 0 hS Try.sizeOf31 rfl rfl rfl (vs := [.bool _, .int .i64 _, .int .i64 _, .slice _ _ _]) rfl rfl rfl (Nat.le_of_ble_eq_true rfl) (cs' := [_, _, _, _]) rfl) ?_
        clear hS
        rintro _ w_103 ⟨rfl, hS⟩
        refine qq hS (g_assignv (v := .int .i64 _) rfl) ?_
        refine ol_nil (thenN ?_)
        refine wpIn_seq ?_
        refine reg ?_
        refine qq hS (g_movev (v := .int .i64 _) rfl) ?_
        refine qq hS (g_eql rfl rfl) ?_
        refine qq hS (g_movev (v := .bool _) rfl) ?_
        refine qqs rfl rfl hS (g_movev (v := .int .i64 _) rfl) ?_
        refine qqs rfl rfl hS (g_eql rfl rfl) ?_
        refine qq hS (g_and rfl rfl (fun _ => rfl)) ?_
        refine qq hS (g_movev (v := .bool _) rfl) ?_
        refine qqs rfl rfl hS (g_ldO 1 (vs := [.bool _, .int .i64 _, .int .i64 _, .slice _ _ _]) Try.sizeOf31 Try.isAgg31 rfl rfl rfl rfl) ?_
        refine qqs rfl rfl hS (g_ldO 0 (vs := [.bool _, .int .i64 _, .int .i64 _, .slice _ _ _]) Try.sizeOf31 Try.isAgg31 rfl rfl rfl rfl) ?_
        refine qes rfl rfl (d_call Try.call20 rfl (same_T X _ _ _ _ _ _ _ _ hS.imm h127 h133 hXw)) ?_
        rintro _ w_104 ⟨rfl, hE⟩
        replace hS := hS.callE hE
        refine qq hS (g_and rfl rfl (fun _ => rfl)) ?_
        refine qq hS (g_movev (v := .bool _) rfl) ?_
        refine qqs rfl rfl hS (g_movev (v := .bool _) rfl) ?_
        refine qq hS (g_and rfl rfl (fun _ => rfl)) ?_
        refine qq hS (g_assignv (v := .bool _) rfl) ?_
        refine ol_nil (thenN ?_)
        refine wpIn_ret ?_
        refine ret1 Try.results5 (rv_tmp (v := .bool _) rfl) ?_
        exact ⟨_, rfl, hS.nil⟩

end Go.Proofs.Ytalemnjjljnnpaa

