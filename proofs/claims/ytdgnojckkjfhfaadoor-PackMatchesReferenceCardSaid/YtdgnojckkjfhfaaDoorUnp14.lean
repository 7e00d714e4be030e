/- pack.Unpack: what it computes, of what read gives. Conditions: none. -/
import Derived.Test.YtdgnojckkjfhfaaDoorRd14
namespace Go.Proofs.YtdgnojckkjfhfaaDoor
open Go Go.RowKit Go.Inl
set_option linter.unusedSimpArgs false
set_option linter.unusedVariables false
/-- What read does with some bytes. -/
structure RdC (b : List Int) (G : PatL → Bool → Prop) : Prop where
  c : ∀ (ad : Option Addr) (cap : Nat) (w0 : World) (I0 : Imm), Sat I0 w0 → RBytes I0 (.slice ad b.length cap) b → Ctr Tryd.prog 31 [.slice ad b.length cap] w0 (fun v w' => ∃ I' q ok a m c, v = .tuple #[.agg #[.bool q.lifted, .int .i64 q.in_, .int .i64 q.out, .slice a m c], .bool ok] ∧ Ext w0 I0 w' I' ∧ G q ok ∧ (ok = true → ROps I' (.slice a m c) q.ops ∧ q.wf))
theorem pack_ok_c (p : PatL) (ad : Option Addr) (m cap : Nat) (w0 : World) (I0 : Imm) (hI : Sat I0 w0) (hops : ROps I0 (.slice ad m cap) p.ops) (hp : p.wf) (hck : (checkP p).2 = 0) :
    Ctr Tryd.prog 11 [.agg #[.bool p.lifted, .int .i64 p.in_, .int .i64 p.out, .slice ad m cap]] w0 (fun v w' => ∃ I' a c, v = .tuple #[.slice a (packP p).length c, .int .i64 0] ∧ Ext w0 I0 w' I' ∧ RBytes I' (.slice a (packP p).length c) (packP p)) :=
  (pack_c p ad m cap w0 I0 hI hops hp).mono fun v w' h => h.elim (fun h => absurd hck h.1) fun h => h.2
theorem pack_bad_c (p : PatL) (ad : Option Addr) (m cap : Nat) (w0 : World) (I0 : Imm) (hI : Sat I0 w0) (hops : ROps I0 (.slice ad m cap) p.ops) (hp : p.wf) (hck : (checkP p).2 ≠ 0) :
    Ctr Tryd.prog 11 [.agg #[.bool p.lifted, .int .i64 p.in_, .int .i64 p.out, .slice ad m cap]] w0 (fun v w' => v = .tuple #[.slice none 0 0, .int .i64 60] ∧ Ext w0 I0 w' I0) :=
  (pack_c p ad m cap w0 I0 hI hops hp).mono fun v w' h => h.elim (fun h => h.2) fun h => absurd h.1 hck
theorem packP_byt {p : PatL} (h : PatG p) : Byt (packP p) := byt_app (bodyP_byt h) (numsB_byt _ _)
/-- What Unpack gives. -/
def UnpOk (G : PatL → Bool → Prop) (b : List Int) (w0 : World) (I0 : Imm) (v : Value) (w' : World) : Prop := ∃ q a m c I', G q true ∧ q.wf ∧ (checkP q).2 = 0 ∧ packP q = b ∧ v = .tuple #[.agg #[.bool q.lifted, .int .i64 q.in_, .int .i64 q.out, .slice a m c], .int .i64 0] ∧ Ext w0 I0 w' I' ∧ ROps I' (.slice a m c) q.ops
def UnpNo (G : PatL → Bool → Prop) (b : List Int) (w0 : World) (I0 : Imm) (v : Value) (w' : World) : Prop := ∃ I', v = .tuple #[.agg #[.bool false, .int .i64 0, .int .i64 0, .slice none 0 0], .int .i64 140] ∧ Ext w0 I0 w' I' ∧ (b.length < 26 ∨ sumP (b.take (b.length - 4)) ≠ b.drop (b.length - 4) ∨ ∃ q ok, G q ok ∧ ¬ (ok = true ∧ (checkP q).2 = 0 ∧ packP q = b))
theorem sumP_byt (l : List Int) : Byt (sumP l) := numsB_byt _ _
attribute [local irreducible] packP bodyP headP code1 code2 sumP numsB
theorem beq_c (va vb : Value) (x y : List Int) (w0 : World) (I0 : Imm) (hI : Sat I0 w0) (hx : RBytes I0 va x) (hy : RBytes I0 vb y) (bx : Byt x) (hby : Byt y) :
    Ctr Tryd.prog 30 [va, vb] w0 (fun v w' => v = .bool (decide (x = y)) ∧ Ext w0 I0 w' I0) := by
  refine fn (n := 10) Tryd.func30 rfl rfl rfl ?_
  have hS := St.start hI
  refine wpIn_seq ?_
  refine reg ?_
  refine qq hS (g_assignv (v := .bool _) rfl) ?_
  refine ol_nil (thenN ?_)
  refine wpIn_seq ?_
  refine reg ?_
  refine qq hS (g_move _) ?_
  refine qq hS (g_strI Tryd.underlying25 Tryd.underlying5 Tryd.underlying9 hx rfl) ?_
  refine qq hS (g_move _) ?_
  refine qq hS (g_strI Tryd.underlying25 Tryd.underlying5 Tryd.underlying9 hy rfl) ?_
  refine qq hS (g_eqlB bx hby rfl rfl) ?_
  refine qq hS (g_assignv (v := .bool _) rfl) ?_
  refine ol_nil (thenN ?_)
  refine wpIn_ret ?_
  refine ret1 Tryd.results30 (rv_tmp (v := .bool _) rfl) ?_
  exact ⟨rfl, hS.nil⟩

set_option maxHeartbeats 2000000 in
theorem unpack_c (b : List Int) (G : PatL → Bool → Prop) (hbb : Byt b) (hrd : 26 ≤ b.length → sumP (b.take (b.length - 4)) = b.drop (b.length - 4) → RdC b G) (ad : Option Addr) (cap : Nat) (w0 : World) (I0 : Imm) (hI : Sat I0 w0) (hb : RBytes I0 (.slice ad b.length cap) b) :
    Ctr Tryd.prog 15 [.slice ad b.length cap] w0 (fun v w' => UnpOk G b w0 I0 v w' ∨ UnpNo G b w0 I0 v w') := by
  have hll := RSl.le hb
  simp only [maxLen] at hll
  have hcc := (RSl.resl2 hb b.length b.length (Nat.le_refl _) (Nat.le_refl _)).2.1
  refine fn (n := 50) Tryd.func15 rfl rfl rfl ?_
  have hS := St.start hI
  refine wpIn_seq ?_
  refine reg ?_
  refine qe (d_alloc (cs := [.bool _, .int .i64 _, .int .i64 _, .slice _ _ _]) hS Tryd.zeroValue31 rfl) ?_
  clear hS
  rintro _ w_1 ⟨b2, rfl, hS⟩
  refine qq hS (g_assignv (v := .int .i64 _) rfl) ?_
  refine ol_nil (thenN ?_)
  refine wpIn_seq ?_
  refine wpIn_seq ?_
  refine (Classical.em (b.length < 26)).elim (fun hlt => ?_) (fun hge => ?_)
  ·
    refine draw (.cons 0 .pure (.cons 1 .pure (.cons 2 .pure (.cons 3 .pure (.cons 4 .pure (.cons 5 .pure (.cons 6 .pure (.cons 7 .pure (.cons 8 .pure (.cons 10 .pure (.cons 11 .pure (.cons 12 .pure (.cons 13 .pure (.cons 14 .pure (.cons 9 .eff (.cons 15 .eff (.cons 16 .pure (.cons 17 .pure .nil)))))))))))))))))) mixed (by kernel_rfl) hS ?_
    intro w_2 hS
    refine sp rfl (g_move _) ?_
    refine sp rfl (g_lenI rfl Tryd.underlying25 hb rfl) ?_
    refine sp rfl (g_castT (g_lss rfl rfl) (congrArg Value.bool (decide_eq_true (by omega)))) ?_
    refine sp rfl (g_movev (v := .bool _) rfl) ?_
    refine spf rfl rfl rfl rfl ?_
    refine spf rfl rfl rfl rfl ?_
    refine spf rfl rfl rfl rfl ?_
    refine spf rfl rfl rfl rfl ?_
    refine spf rfl rfl rfl rfl ?_
    refine spf rfl rfl rfl rfl ?_
    refine spf rfl rfl rfl rfl ?_
    refine spf rfl rfl rfl rfl ?_
    refine spf rfl rfl rfl rfl ?_
    refine spf rfl rfl rfl rfl ?_
    refine sgf rfl rfl rfl rfl (hS) ?_
    refine sgf rfl rfl rfl rfl (hS) ?_
    refine spf rfl rfl rfl rfl ?_
    refine sp rfl (g_or (b := false) rfl rfl (fun h => (by cases h))) ?_
    refine sn (thenN ?_)
    refine cond_t (rfl) ?_
    refine wpIn_seq ?_
    refine reg ?_
    refine qq hS (g_buildv (pl := [(0, 1), (1, 1), (2, 1), (3, 1)]) (cs := [.bool _, .int .i64 _, .int .i64 _, .slice _ _ _]) Tryd.zeroValue31 Tryd.underlying31 (fun w => by simp [Tryd.sizeOf29, Tryd.sizeOf3, Tryd.sizeOf4]) mp0 rfl) ?_
    refine qe (d_store 0 hS Tryd.sizeOf31 rfl rfl rfl (vs := [.bool _, .int .i64 _, .int .i64 _, .slice _ _ _]) rfl rfl rfl (Nat.le_of_ble_eq_true rfl) (cs' := [_, _, _, _]) rfl) ?_
    clear hS
    rintro _ w_3 ⟨rfl, hS⟩
    refine qq hS (g_assignv (v := .int .i64 _) rfl) ?_
    refine ol_nil (thenN ?_)
    refine wpIn_ret ?_
    refine thenR ?_
    refine ret2 Tryd.results15 (rv_cel 0 hS Tryd.sizeOf31 Tryd.isAgg31 rfl rfl rfl) (rv_tmp (v := .int .i64 _) rfl) ?_
    first
      | exact .inr ⟨_, rfl, hS.nil, .inl hlt⟩
      | exact .inr ⟨_, rfl, hS.nil, .inr (.inl hsum)⟩
      | exact .inr ⟨_, rfl, hS.nil, .inr (.inr ⟨q, ok, hGq, fun h => absurd (hok.symm.trans h.1) Bool.false_ne_true⟩)⟩
      | exact .inr ⟨_, rfl, hS.nil, .inr (.inr ⟨q, ok, hGq, fun h => hck h.2.1⟩)⟩
      | exact .inr ⟨_, rfl, hS.nil, .inr (.inr ⟨q, ok, hGq, fun h => hne h.2.2⟩)⟩
      | (subst hok; exact .inl ⟨q, aq, mq, cq, _, hGq, hqw, hck, heq, rfl, hS.nil, hq⟩)
  ·
    have hs1 := (RSl.resl2 hb 0 (b.length - 4) (by omega) (by omega)).1
    rw [List.drop_zero] at hs1
    obtain ⟨a1, c1, hv1, _⟩ := hs1.len
    rw [hv1] at hs1
    rw [List.length_take, Nat.min_eq_left (Nat.sub_le _ _)] at hv1 hs1
    have hs2 : RBytes I0 _ _ := RSl.slL hb (b.length - 4) (by omega)
    obtain ⟨a2, c2, hv2, _⟩ := hs2.len
    rw [hv2] at hs2
    refine draw (.cons 0 .pure (.cons 1 .pure (.cons 2 .pure (.cons 3 .pure (.cons 4 .pure (.cons 5 .pure (.cons 6 .pure (.cons 7 .pure (.cons 8 .pure (.cons 10 .pure (.cons 11 .pure (.cons 12 .pure (.cons 13 .pure (.cons 14 .pure (.cons 9 .eff (.cons 15 .eff (.cons 16 .pure (.cons 17 .pure .nil)))))))))))))))))) mixed (by kernel_rfl) hS ?_
    intro w_4 hS
    refine sp rfl (g_move _) ?_
    refine sp rfl (g_lenI rfl Tryd.underlying25 hb rfl) ?_
    refine sp rfl (g_castT (g_lss rfl rfl) (congrArg Value.bool (decide_eq_false (by omega)))) ?_
    refine sp rfl (g_movev (v := .bool _) rfl) ?_
    refine spt rfl rfl rfl (g_move _) ?_
    refine spt rfl rfl rfl (g_move _) ?_
    refine spt rfl rfl rfl (g_lenI rfl Tryd.underlying25 hb rfl) ?_
    refine spt rfl rfl rfl (g_sub rfl rfl (by omega) (by omega)) ?_
    refine spt rfl rfl rfl (g_castT (g_sliceHN (h0 := b.length - 4) Tryd.underlying25 Tryd.sizeOf5 rfl rfl (by omega) (by omega) (by omega)) hv1) ?_
    refine spt rfl rfl rfl (g_move _) ?_
    refine spt rfl rfl rfl (g_move _) ?_
    refine spt rfl rfl rfl (g_lenI rfl Tryd.underlying25 hb rfl) ?_
    refine spt rfl rfl rfl (g_sub rfl rfl (by omega) (by omega)) ?_
    refine spt rfl rfl rfl (g_castT (g_sliceLN (l0 := b.length - 4) Tryd.underlying25 Tryd.sizeOf5 rfl rfl (by omega) (by omega) (by omega)) hv2) ?_
    have hS0 := hS
    refine Inl.set rfl rfl rfl (d_call Tryd.call26 rfl (sum14_c _ _ _ (b.take (b.length - 4)) _ _ hS.imm hs1 (byt_take hbb _) (by rw [List.length_take]; omega))) ?_
    rintro _ w_5 ⟨I_f, a17, c17, rfl, hE, h17, _⟩
    replace hS := hS.call hE
    replace hb := hb.mono hE.ext
    refine ⟨_, _, hS0.le hE.ext (List.Sublist.refl _), hS, ?_⟩
    have hS0 := hS
    refine Inl.set rfl rfl rfl (d_call Tryd.call30 rfl (beq_c _ _ (sumP (b.take (b.length - 4))) (b.drop (b.length - 4)) _ _ hS.imm h17 (hs2.mono hS.ext) (sumP_byt _) (byt_drop hbb _))) ?_
    rintro _ w_6 ⟨rfl, hE⟩
    replace hS := hS.call hE
    refine ⟨_, _, hS0.le hE.ext (List.Sublist.refl _), hS, ?_⟩
    refine spt rfl rfl rfl (g_not rfl) ?_
    refine sp rfl (g_or rfl rfl (fun _ => rfl)) ?_
    refine sn (thenN ?_)
    refine cond_s rfl ?_ ?_
    ·
      intro hc25
      have hsum : ¬ sumP (b.take (b.length - 4)) = b.drop (b.length - 4) := by simpa using hc25
      refine wpIn_seq ?_
      refine reg ?_
      refine qq hS (g_buildv (pl := [(0, 1), (1, 1), (2, 1), (3, 1)]) (cs := [.bool _, .int .i64 _, .int .i64 _, .slice _ _ _]) Tryd.zeroValue31 Tryd.underlying31 (fun w => by simp [Tryd.sizeOf29, Tryd.sizeOf3, Tryd.sizeOf4]) mp0 rfl) ?_
      refine qe (d_store 0 hS Tryd.sizeOf31 rfl rfl rfl (vs := [.bool _, .int .i64 _, .int .i64 _, .slice _ _ _]) rfl rfl rfl (Nat.le_of_ble_eq_true rfl) (cs' := [_, _, _, _]) rfl) ?_
      clear hS
      rintro _ w_7 ⟨rfl, hS⟩
      refine qq hS (g_assignv (v := .int .i64 _) rfl) ?_
      refine ol_nil (thenN ?_)
      refine wpIn_ret ?_
      refine thenR ?_
      refine ret2 Tryd.results15 (rv_cel 0 hS Tryd.sizeOf31 Tryd.isAgg31 rfl rfl rfl) (rv_tmp (v := .int .i64 _) rfl) ?_
      first
        | exact .inr ⟨_, rfl, hS.nil, .inl hlt⟩
        | exact .inr ⟨_, rfl, hS.nil, .inr (.inl hsum)⟩
        | exact .inr ⟨_, rfl, hS.nil, .inr (.inr ⟨q, ok, hGq, fun h => absurd (hok.symm.trans h.1) Bool.false_ne_true⟩)⟩
        | exact .inr ⟨_, rfl, hS.nil, .inr (.inr ⟨q, ok, hGq, fun h => hck h.2.1⟩)⟩
        | exact .inr ⟨_, rfl, hS.nil, .inr (.inr ⟨q, ok, hGq, fun h => hne h.2.2⟩)⟩
        | (subst hok; exact .inl ⟨q, aq, mq, cq, _, hGq, hqw, hck, heq, rfl, hS.nil, hq⟩)
    ·
      intro hc25
      have hsum : sumP (b.take (b.length - 4)) = b.drop (b.length - 4) := by simpa using hc25
      refine wpIn_skip ?_
      refine thenN ?_
      refine wpIn_seq ?_
      refine reg ?_
      refine qq hS (g_move _) ?_
      refine qe (d_call Tryd.call31 rfl ((hrd (by omega) hsum).c ad cap _ _ hS.imm hb)) ?_
      rintro _ w_8 ⟨I_f, q, ok, aq, mq, cq, rfl, hE, hGq, hqq⟩
      replace hS := hS.callE hE
      replace hb := hb.mono hE.ext
      replace h17 := h17.mono hE.ext
      refine qq hS (g_move _) ?_
      refine qq hS (g_extract rfl rfl) ?_
      refine qq hS (g_extract (v := .bool _) rfl rfl) ?_
      refine qe (d_alloc (cs := [.bool _, .int .i64 _, .int .i64 _, .slice _ _ _]) hS Tryd.zeroValue31 rfl) ?_
      clear hS
      rintro _ w_9 ⟨b4, rfl, hS⟩
      refine qe (d_store 0 hS Tryd.sizeOf31 rfl rfl rfl (vs := [.bool _, .int .i64 _, .int .i64 _, .slice _ _ _]) rfl rfl rfl (Nat.le_of_ble_eq_true rfl) (cs' := [_, _, _, _]) rfl) ?_
      clear hS
      rintro _ w_10 ⟨rfl, hS⟩
      refine qq hS (g_assignv (v := .bool _) rfl) ?_
      refine ol_nil (thenN ?_)
      refine wpIn_seq ?_
      refine wpIn_seq ?_
      refine reg ?_
      refine qq hS (g_movev (v := .bool _) rfl) ?_
      refine qq hS (g_not rfl) ?_
      refine ol_nil (thenN ?_)
      refine cond_s rfl ?_ ?_
      ·
        intro hc33
        have hok : ok = false := by simpa using hc33
        refine wpIn_seq ?_
        refine reg ?_
        refine qq hS (g_buildv (pl := [(0, 1), (1, 1), (2, 1), (3, 1)]) (cs := [.bool _, .int .i64 _, .int .i64 _, .slice _ _ _]) Tryd.zeroValue31 Tryd.underlying31 (fun w => by simp [Tryd.sizeOf29, Tryd.sizeOf3, Tryd.sizeOf4]) mp0 rfl) ?_
        refine qe (d_store 1 hS Tryd.sizeOf31 rfl rfl rfl (vs := [.bool _, .int .i64 _, .int .i64 _, .slice _ _ _]) rfl rfl rfl (Nat.le_of_ble_eq_true rfl) (cs' := [_, _, _, _]) rfl) ?_
        clear hS
        rintro _ w_11 ⟨rfl, hS⟩
        refine qq hS (g_assignv (v := .int .i64 _) rfl) ?_
        refine ol_nil (thenN ?_)
        refine wpIn_ret ?_
        refine thenR ?_
        refine ret2 Tryd.results15 (rv_cel 1 hS Tryd.sizeOf31 Tryd.isAgg31 rfl rfl rfl) (rv_tmp (v := .int .i64 _) rfl) ?_
        first
          | exact .inr ⟨_, rfl, hS.nil, .inl hlt⟩
          | exact .inr ⟨_, rfl, hS.nil, .inr (.inl hsum)⟩
          | exact .inr ⟨_, rfl, hS.nil, .inr (.inr ⟨q, ok, hGq, fun h => absurd (hok.symm.trans h.1) Bool.false_ne_true⟩)⟩
          | exact .inr ⟨_, rfl, hS.nil, .inr (.inr ⟨q, ok, hGq, fun h => hck h.2.1⟩)⟩
          | exact .inr ⟨_, rfl, hS.nil, .inr (.inr ⟨q, ok, hGq, fun h => hne h.2.2⟩)⟩
          | (subst hok; exact .inl ⟨q, aq, mq, cq, _, hGq, hqw, hck, heq, rfl, hS.nil, hq⟩)
      ·
        intro hc33
        have hok : ok = true := by simpa using hc33
        obtain ⟨hq, hqw⟩ := hqq hok
        refine wpIn_skip ?_
        refine thenN ?_
        refine wpIn_seq ?_
        refine wpIn_seq ?_
        refine (Classical.em ((checkP q).2 = 0)).elim (fun hck => ?_) (fun hck => ?_)
        ·
          refine reg ?_
          refine qq hS (g_ldO 0 (vs := [.bool _, .int .i64 _, .int .i64 _, .slice _ _ _]) Tryd.sizeOf31 Tryd.isAgg31 rfl rfl rfl rfl) ?_
          refine qe (d_call Tryd.call11 rfl (pack_ok_c q aq mq cq _ _ hS.imm hq hqw hck)) ?_
          rintro _ w_12 ⟨I_f, a37, c37, rfl, hE, h37⟩
          replace hS := hS.callE hE
          replace hb := hb.mono hE.ext
          replace h17 := h17.mono hE.ext
          replace hq := hq.mono hE.ext
          refine qq hS (g_move _) ?_
          refine qq hS (g_extract rfl rfl) ?_
          refine qq hS (g_extract (v := .int .i64 _) rfl rfl) ?_
          refine qq hS (g_assign _) ?_
          refine qq hS (g_assignv (v := .int .i64 _) rfl) ?_
          refine ol_nil (thenN ?_)
          refine wpIn_seq ?_
          refine reg ?_
          refine qq hS (g_movev (v := .int .i64 _) rfl) ?_
          refine qq hS (g_neq rfl rfl) ?_
          refine qq hS (g_movev (v := .bool _) rfl) ?_
          refine qqs rfl rfl hS (g_move _) ?_
          refine qqs rfl rfl hS (g_move _) ?_
          refine qes rfl rfl (d_call Tryd.call30 rfl (beq_c _ _ (packP q) b _ _ hS.imm h37 hb (packP_byt (patG_of hqw hck)) hbb)) ?_
          rintro _ w_13 ⟨rfl, hE⟩
          replace hS := hS.callE hE
          refine qqs rfl rfl hS (g_not rfl) ?_
          refine qq hS (g_or rfl rfl (fun _ => rfl)) ?_
          refine ol_nil (thenN ?_)
          refine cond_s rfl ?_ ?_
          ·
            intro hc47
            have hne : ¬ packP q = b := by simpa using hc47
            refine wpIn_seq ?_
            refine reg ?_
            refine qq hS (g_buildv (pl := [(0, 1), (1, 1), (2, 1), (3, 1)]) (cs := [.bool _, .int .i64 _, .int .i64 _, .slice _ _ _]) Tryd.zeroValue31 Tryd.underlying31 (fun w => by simp [Tryd.sizeOf29, Tryd.sizeOf3, Tryd.sizeOf4]) mp0 rfl) ?_
            refine qe (d_store 1 hS Tryd.sizeOf31 rfl rfl rfl (vs := [.bool _, .int .i64 _, .int .i64 _, .slice _ _ _]) rfl rfl rfl (Nat.le_of_ble_eq_true rfl) (cs' := [_, _, _, _]) rfl) ?_
            clear hS
            rintro _ w_14 ⟨rfl, hS⟩
            refine qq hS (g_assignv (v := .int .i64 _) rfl) ?_
            refine ol_nil (thenN ?_)
            refine wpIn_ret ?_
            refine thenR ?_
            refine ret2 Tryd.results15 (rv_cel 1 hS Tryd.sizeOf31 Tryd.isAgg31 rfl rfl rfl) (rv_tmp (v := .int .i64 _) rfl) ?_
            first
              | exact .inr ⟨_, rfl, hS.nil, .inl hlt⟩
              | exact .inr ⟨_, rfl, hS.nil, .inr (.inl hsum)⟩
              | exact .inr ⟨_, rfl, hS.nil, .inr (.inr ⟨q, ok, hGq, fun h => absurd (hok.symm.trans h.1) Bool.false_ne_true⟩)⟩
              | exact .inr ⟨_, rfl, hS.nil, .inr (.inr ⟨q, ok, hGq, fun h => hck h.2.1⟩)⟩
              | exact .inr ⟨_, rfl, hS.nil, .inr (.inr ⟨q, ok, hGq, fun h => hne h.2.2⟩)⟩
              | (subst hok; exact .inl ⟨q, aq, mq, cq, _, hGq, hqw, hck, heq, rfl, hS.nil, hq⟩)
          ·
            intro hc47
            have heq : packP q = b := by simpa using hc47
            refine wpIn_skip ?_
            refine thenN ?_
            refine wpIn_seq ?_
            refine reg ?_
            refine qq hS (g_ldO 0 (vs := [.bool _, .int .i64 _, .int .i64 _, .slice _ _ _]) Tryd.sizeOf31 Tryd.isAgg31 rfl rfl rfl rfl) ?_
            refine qe (d_store 1 hS Tryd.sizeOf31 rfl rfl rfl (vs := [.bool _, .int .i64 _, .int .i64 _, .slice _ _ _]) rfl rfl rfl (Nat.le_of_ble_eq_true rfl) (cs' := [_, _, _, _]) rfl) ?_
            clear hS
            rintro _ w_15 ⟨rfl, hS⟩
            refine qq hS (g_assignv (v := .int .i64 _) rfl) ?_
            refine ol_nil (thenN ?_)
            refine wpIn_ret ?_
            refine ret2 Tryd.results15 (rv_cel 1 hS Tryd.sizeOf31 Tryd.isAgg31 rfl rfl rfl) (rv_tmp (v := .int .i64 _) rfl) ?_
            first
              | exact .inr ⟨_, rfl, hS.nil, .inl hlt⟩
              | exact .inr ⟨_, rfl, hS.nil, .inr (.inl hsum)⟩
              | exact .inr ⟨_, rfl, hS.nil, .inr (.inr ⟨q, ok, hGq, fun h => absurd (hok.symm.trans h.1) Bool.false_ne_true⟩)⟩
              | exact .inr ⟨_, rfl, hS.nil, .inr (.inr ⟨q, ok, hGq, fun h => hck h.2.1⟩)⟩
              | exact .inr ⟨_, rfl, hS.nil, .inr (.inr ⟨q, ok, hGq, fun h => hne h.2.2⟩)⟩
              | (subst hok; exact .inl ⟨q, aq, mq, cq, _, hGq, hqw, hck, heq, rfl, hS.nil, hq⟩)
        ·
          refine reg ?_
          refine qq hS (g_ldO 0 (vs := [.bool _, .int .i64 _, .int .i64 _, .slice _ _ _]) Tryd.sizeOf31 Tryd.isAgg31 rfl rfl rfl rfl) ?_
          refine qe (d_call Tryd.call11 rfl (pack_bad_c q aq mq cq _ _ hS.imm hq hqw hck)) ?_
          rintro _ w_16 ⟨rfl, hE⟩
          replace hS := hS.callE hE
          replace hb := hb.mono hE.ext
          replace h17 := h17.mono hE.ext
          replace hq := hq.mono hE.ext
          refine qq hS (g_move _) ?_
          refine qq hS (g_extract rfl rfl) ?_
          refine qq hS (g_extract (v := .int .i64 _) rfl rfl) ?_
          refine qq hS (g_assign _) ?_
          refine qq hS (g_assignv (v := .int .i64 _) rfl) ?_
          refine ol_nil (thenN ?_)
          refine wpIn_seq ?_
          refine reg ?_
          refine qq hS (g_movev (v := .int .i64 _) rfl) ?_
          refine qq hS (g_neq rfl rfl) ?_
          refine qq hS (g_movev (v := .bool _) rfl) ?_
          refine qsf rfl rfl rfl ?_
          refine qsf rfl rfl rfl ?_
          refine qsf rfl rfl rfl ?_
          refine qsf rfl rfl rfl ?_
          refine qq hS (g_or (b := false) rfl rfl (fun h => (by cases h))) ?_
          refine ol_nil (thenN ?_)
          refine cond_t (rfl) ?_
          refine wpIn_seq ?_
          refine reg ?_
          refine qq hS (g_buildv (pl := [(0, 1), (1, 1), (2, 1), (3, 1)]) (cs := [.bool _, .int .i64 _, .int .i64 _, .slice _ _ _]) Tryd.zeroValue31 Tryd.underlying31 (fun w => by simp [Tryd.sizeOf29, Tryd.sizeOf3, Tryd.sizeOf4]) mp0 rfl) ?_
          refine qe (d_store 1 hS Tryd.sizeOf31 rfl rfl rfl (vs := [.bool _, .int .i64 _, .int .i64 _, .slice _ _ _]) rfl rfl rfl (Nat.le_of_ble_eq_true rfl) (cs' := [_, _, _, _]) rfl) ?_
          clear hS
          rintro _ w_17 ⟨rfl, hS⟩
          refine qq hS (g_assignv (v := .int .i64 _) rfl) ?_
          refine ol_nil (thenN ?_)
          refine wpIn_ret ?_
          refine thenR ?_
          refine ret2 Tryd.results15 (rv_cel 1 hS Tryd.sizeOf31 Tryd.isAgg31 rfl rfl rfl) (rv_tmp (v := .int .i64 _) rfl) ?_
          first
            | exact .inr ⟨_, rfl, hS.nil, .inl hlt⟩
            | exact .inr ⟨_, rfl, hS.nil, .inr (.inl hsum)⟩
            | exact .inr ⟨_, rfl, hS.nil, .inr (.inr ⟨q, ok, hGq, fun h => absurd (hok.symm.trans h.1) Bool.false_ne_true⟩)⟩
            | exact .inr ⟨_, rfl, hS.nil, .inr (.inr ⟨q, ok, hGq, fun h => hck h.2.1⟩)⟩
            | exact .inr ⟨_, rfl, hS.nil, .inr (.inr ⟨q, ok, hGq, fun h => hne h.2.2⟩)⟩
            | (subst hok; exact .inl ⟨q, aq, mq, cq, _, hGq, hqw, hck, heq, rfl, hS.nil, hq⟩)

end Go.Proofs.YtdgnojckkjfhfaaDoor

