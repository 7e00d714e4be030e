/- inlaylaw14.PackMatchesReference: its function answers true. Conditions: arguments are of their kinds. -/
import Derived.Test.YtdgnojckkjfhfaaDoorRUnp14
import Derived.Test.YtdgnojckkjfhfaaDoorMk14
import Derived.Test.YtdgnojckkjfhfaaDoorPInj
import Derived.Test.YtdgnojckkjfhfaaDoorRw14
import Derived.Test.YtdgnojckkjfhfaaDoorNum14
namespace Go.Proofs.YtdgnojckkjfhfaaDoor
open Go Go.RowKit Go.Inl
set_option linter.unusedSimpArgs false
set_option linter.unusedVariables false
/-- What both Packs give. -/
def packE (p : PatL) : List Int × Int := if (checkP p).2 = 0 then (packP p, 0) else ([], 60)
theorem packA_c (p : PatL) (X : List Int) (e : Int) (hX : packE p = (X, e)) (ad : Option Addr) (m cap : Nat) (w0 : World) (I0 : Imm) (hI : Sat I0 w0) (hops : ROps I0 (.slice ad m cap) p.ops) (hp : p.wf) :
    Ctr Tryd.prog 11 [.agg #[.bool p.lifted, .int .i64 p.in_, .int .i64 p.out, .slice ad m cap]] w0 (fun v w' => ∃ I' a c, v = .tuple #[.slice a X.length c, .int .i64 e] ∧ Ext w0 I0 w' I' ∧ RBytes I' (.slice a X.length c) X) :=
  (pack_c p ad m cap w0 I0 hI hops hp).mono fun v w' h => by
    unfold packE at hX
    rcases h with ⟨h1, h2, h3⟩ | ⟨h1, I', a, c, h2, h3, h4⟩
    · rw [if_neg h1] at hX; cases hX; exact ⟨_, none, 0, h2, h3, RFl.nil⟩
    · rw [if_pos h1] at hX; cases hX; exact ⟨I', a, c, h2, h3, h4⟩
theorem packRA_c (p : PatL) (X : List Int) (e : Int) (hX : packE p = (X, e)) (ad : Option Addr) (m cap : Nat) (w0 : World) (I0 : Imm) (hI : Sat I0 w0) (hops : ROps I0 (.slice ad m cap) p.ops) (hp : p.wf) :
    Ctr Tryd.prog 12 [.agg #[.bool p.lifted, .int .i64 p.in_, .int .i64 p.out, .slice ad m cap]] w0 (fun v w' => ∃ I' a c, v = .tuple #[.slice a X.length c, .int .i64 e] ∧ Ext w0 I0 w' I' ∧ RBytes I' (.slice a X.length c) X) :=
  (packRef_c p ad m cap w0 I0 hI hops hp).mono fun v w' h => by
    unfold packE at hX
    rcases h with ⟨h1, h2, h3⟩ | ⟨h1, I', a, c, h2, h3, h4⟩
    · rw [if_neg h1] at hX; cases hX; exact ⟨_, none, 0, h2, h3, RFl.nil⟩
    · rw [if_pos h1] at hX; cases hX; exact ⟨I', a, c, h2, h3, h4⟩
/-- What both Unpacks give. -/
structure UnpB (b : List Int) (q : PatL) (e : Int) : Prop where
  wf : q.wf
  c1 : ∀ (ad : Option Addr) (n cap : Nat) (w0 : World) (I0 : Imm), Sat I0 w0 → n = b.length → RBytes I0 (.slice ad n cap) b → Ctr Tryd.prog 15 [.slice ad n cap] w0 (fun v w' => ∃ I' a m c, v = .tuple #[.agg #[.bool q.lifted, .int .i64 q.in_, .int .i64 q.out, .slice a m c], .int .i64 e] ∧ Ext w0 I0 w' I' ∧ ROps I' (.slice a m c) q.ops)
  c2 : ∀ (ad : Option Addr) (n cap : Nat) (w0 : World) (I0 : Imm), Sat I0 w0 → n = b.length → RBytes I0 (.slice ad n cap) b → Ctr Tryd.prog 16 [.slice ad n cap] w0 (fun v w' => ∃ I' a m c, v = .tuple #[.agg #[.bool q.lifted, .int .i64 q.in_, .int .i64 q.out, .slice a m c], .int .i64 e] ∧ Ext w0 I0 w' I' ∧ ROps I' (.slice a m c) q.ops)
theorem unpB_of {b : List Int} (hbb : Byt b) (hbl : b.length ≤ 1000000) : ∃ q e, UnpB b q e := by
  by_cases h : ∃ p, IsPk b p
  · obtain ⟨p, hp⟩ := h
    refine ⟨p, 0, hp.wf, fun ad n cap w0 I0 hI hn hb => ?_, fun ad n cap w0 I0 hI hn hb => ?_⟩
    · subst hn
      have hY : UnpY b p := by have := unp_right hp.wf hp.chk; rwa [hp.pk] at this
      exact hY.c ad cap w0 I0 hI hb
    · subst hn
      refine (unpRef_c b hbb hbl ad cap w0 I0 hI hb).mono ?_
      rintro v w' (⟨q, I', a, m, c, hq, h1, h2, h3⟩ | ⟨I', _, _, h3⟩)
      · have e : q = p := packP_inj hq.wf hq.chk hp.wf hp.chk (hq.pk.trans hp.pk.symm)
        subst e
        exact ⟨I', a, m, c, h1, h2, h3⟩
      · exact absurd hp (h3 p)
  · refine ⟨PatL.zero, 140, zero_wf, fun ad n cap w0 I0 hI hn hb => ?_, fun ad n cap w0 I0 hI hn hb => ?_⟩
    · subst hn
      refine (unpack_c b (fun q ok => ok = true → q.wf) hbb (fun _ _ => ⟨fun ad cap w0 I0 hI hb => ?_⟩) ad cap w0 I0 hI hb).mono ?_
      · refine (readW_c b hbb ad cap w0 I0 hI hb).mono ?_
        rintro v w' ⟨I', q, ok, a, m, c, h1, h2, _, h3⟩
        exact ⟨I', q, ok, a, m, c, h1, h2, fun h => (h3 h).2, h3⟩
      · rintro v w' (⟨q, a, m, c, I', _, h1, h2, h3, _⟩ | ⟨I', h1, h2, _⟩)
        · exact absurd ⟨q, ⟨h1, h2, h3⟩⟩ h
        · exact ⟨I', none, 0, 0, h1, h2, RSl.nilR⟩
    · subst hn
      refine (unpRef_c b hbb hbl ad cap w0 I0 hI hb).mono ?_
      rintro v w' (⟨q, I', a, m, c, hq, _⟩ | ⟨I', h1, h2, _⟩)
      · exact absurd ⟨q, hq⟩ h
      · exact ⟨I', none, 0, 0, h1, h2, RSl.nilR⟩
def movd (p : PatL) (d : Int) : PatL := { p with in_ := p.in_ + (d % 3 - 1) }

set_option maxRecDepth 20000 in
set_option maxHeartbeats 4000000 in
theorem pmr_c (r : Int) (ad : Option Addr) (cap : Nat) (l : List Q4) (md : Option Addr) (mc : Nat) (ms : List Int) (x0 x1 x2 : Int) (w0 : World) (I0 : Imm) (hI : Sat I0 w0) (hr : 0 ≤ r ∧ r ≤ 255) (h4 : RFl I0 4 q4C (.slice ad l.length cap) l) (hq : ∀ q ∈ l, q.wf) (hm : RBytes I0 (.slice md ms.length mc) ms) (hmb : ∀ y ∈ ms, 0 ≤ y ∧ y ≤ 255) (hx0 : 0 ≤ x0 ∧ x0 ≤ 65535) (hx1 : 0 ≤ x1 ∧ x1 ≤ 65535) (hx2 : 0 ≤ x2 ∧ x2 ≤ 65535) :
    Ctr Tryd.prog 3 [.agg #[.int .u8 r, .slice ad l.length cap], .slice md ms.length mc, .agg #[.int .u16 x0, .int .u16 x1, .int .u16 x2]] w0 (fun v w' => ∃ I', v = .bool true ∧ Ext w0 I0 w' I') := by
  obtain ⟨p, B, hM⟩ := mk14_of hq hr (decide (x2 % 2 = 1))
  have hB1 := hM.len
  have hB2 := hM.ge
  have hpin := checkP_ok hM.chk
  obtain ⟨X, e, hX⟩ : ∃ X e, packE (movd p x0) = (X, e) := ⟨_, _, rfl⟩
  have hpE : packE p = (B, 0) := by unfold packE; rw [if_pos hM.chk, hM.pk]
  have hqw : (movd p x0).wf := ⟨⟨by show _ ≤ p.in_ + _; have := hpin.2.2.1; omega, by show p.in_ + _ ≤ _; have := hpin.2.2.2.1; omega⟩, hM.wf.out, hM.wf.ops, hM.wf.len⟩
  have hmi : (movd p x0).in_ = p.in_ + (x0 % 3 - 1) := rfl
  have hmp := hpin.2.2.1
  have hmp2 := hpin.2.2.2.1
  refine fn (n := 158) Tryd.func3 rfl rfl rfl ?_
  have hS := St.start hI
  refine wpIn_seq ?_
  refine reg ?_
  refine qe (d_box (cs := [.int .u8 _, .slice _ _ _]) hS rfl) ?_
  clear hS
  rintro _ w_1 ⟨b3, rfl, hS⟩
  refine qe (d_box (cs := [.int .u16 _, .int .u16 _, .int .u16 _]) hS rfl) ?_
  clear hS
  rintro _ w_2 ⟨b5, rfl, hS⟩
  refine qq hS (g_assignv (v := .bool _) rfl) ?_
  refine ol_nil (thenN ?_)
  refine wpIn_seq ?_
  refine reg ?_
  refine qe (d_call Tryd.call9 rfl (sanity14_c _ _ hS.imm)) ?_
  rintro _ w_3 ⟨I_f, rfl, hE⟩
  replace hS := hS.callE hE
  replace h4 := h4.mono hE.ext
  replace hm := hm.mono hE.ext
  refine qq hS (g_assignv (v := .bool _) rfl) ?_
  refine ol_nil (thenN ?_)
  refine wpIn_seq ?_
  refine wpIn_seq ?_
  refine reg ?_
  refine qq hS (g_move _) ?_
  refine qq hS (g_lenI rfl Tryd.underlying25 hm rfl) ?_
  refine qq hS (g_gtr rfl rfl) ?_
  refine ol_nil (thenN ?_)
  refine cond_s rfl ?_ ?_
  ·
    intro hc31
    try simp only [Bool.and_eq_true, Bool.or_eq_true, Bool.not_eq_true', Bool.and_eq_false_imp, Bool.or_eq_false_iff, Bool.not_eq_false', decide_eq_true_eq, decide_eq_false_iff_not] at hc31
    refine wpIn_seq ?_
    refine reg ?_
    refine qq hS (g_movev (v := .bool _) rfl) ?_
    refine qq hS (g_assignv (v := .bool _) rfl) ?_
    refine ol_nil (thenN ?_)
    refine wpIn_ret ?_
    refine thenR ?_
    refine ret1 Tryd.results3 (rv_tmp (v := .bool _) rfl) ?_
    exact ⟨_, rfl, hS.nil⟩
  ·
    intro hc31
    try simp only [Bool.and_eq_true, Bool.or_eq_true, Bool.not_eq_true', Bool.and_eq_false_imp, Bool.or_eq_false_iff, Bool.not_eq_false', decide_eq_true_eq, decide_eq_false_iff_not] at hc31
    refine wpIn_skip ?_
    refine thenN ?_
    refine wpIn_seq ?_
    refine reg ?_
    refine qq hS (g_ldO 1 (vs := [.int .u8 _, .slice _ _ _]) Tryd.sizeOf24 Tryd.isAgg24 rfl rfl rfl rfl) ?_
    refine qq hS (g_indexArr (o' := 2) Tryd.underlying27 Tryd.sizeOf26 rfl rfl (by decide) (by decide) rfl) ?_
    refine qq hS (g_ldO1 0 Tryd.isAgg26 rfl rfl rfl) ?_
    refine qq hS (g_rem rfl rfl (by omega) (by decide)) ?_
    refine qq hS (g_eql rfl rfl) ?_
    refine qe (d_call Tryd.call10 rfl (made14_c r (decide (x2 % 2 = 1)) p ad cap l _ _ hS.imm h4 hq hr hM.eq)) ?_
    rintro _ w_4 ⟨I_f, a38, m38, c38, rfl, hE, h38⟩
    replace hS := hS.callE hE
    replace h4 := h4.mono hE.ext
    replace hm := hm.mono hE.ext
    refine qe (d_alloc (cs := [.bool _, .int .i64 _, .int .i64 _, .slice _ _ _]) hS Tryd.zeroValue31 rfl) ?_
    clear hS
    rintro _ w_5 ⟨b8, rfl, hS⟩
    refine qe (d_store 0 hS Tryd.sizeOf31 rfl rfl rfl (vs := [.bool _, .int .i64 _, .int .i64 _, .slice _ _ _]) rfl rfl rfl (Nat.le_of_ble_eq_true rfl) (cs' := [_, _, _, _]) rfl) ?_
    clear hS
    rintro _ w_6 ⟨rfl, hS⟩
    refine ol_nil (thenN ?_)
    refine wpIn_seq ?_
    refine reg ?_
    refine qq hS (g_ldO 0 (vs := [.bool _, .int .i64 _, .int .i64 _, .slice _ _ _]) Tryd.sizeOf31 Tryd.isAgg31 rfl rfl rfl rfl) ?_
    refine qe (d_alloc (cs := [.bool _, .int .i64 _, .int .i64 _, .slice _ _ _]) hS Tryd.zeroValue31 rfl) ?_
    clear hS
    rintro _ w_7 ⟨b9, rfl, hS⟩
    refine qe (d_store 0 hS Tryd.sizeOf31 rfl rfl rfl (vs := [.bool _, .int .i64 _, .int .i64 _, .slice _ _ _]) rfl rfl rfl (Nat.le_of_ble_eq_true rfl) (cs' := [_, _, _, _]) rfl) ?_
    clear hS
    rintro _ w_8 ⟨rfl, hS⟩
    refine ol_nil (thenN ?_)
    refine wpIn_seq ?_
    refine reg ?_
    refine qq hS (g_fieldAddr (o' := 1) Tryd.underlying31 rfl Tryd.sizeOf3 rfl rfl rfl) ?_
    refine qq hS (g_ldO1 0 Tryd.isAgg3 rfl rfl rfl) ?_
    refine qq hS (g_indexArr (o' := 0) Tryd.underlying27 Tryd.sizeOf26 rfl rfl (by decide) (by decide) rfl) ?_
    refine qq hS (g_ldO1 2 Tryd.isAgg26 rfl rfl rfl) ?_
    refine qq hS (g_rem rfl rfl (by omega) (by decide)) ?_
    refine qq hS (g_convi Tryd.underlying26 Tryd.underlying3 rfl (by omega) (by omega)) ?_
    refine qq hS (g_sub rfl rfl (by omega) (by omega)) ?_
    refine qq hS (g_add rfl rfl (by omega) (by omega)) ?_
    refine qq hS (g_fieldAddr (o' := 1) Tryd.underlying31 rfl Tryd.sizeOf3 rfl rfl rfl) ?_
    refine qe (d_store 0 hS Tryd.sizeOf3 rfl rfl rfl (vs := [.int .i64 _]) rfl rfl rfl (Nat.le_of_ble_eq_true rfl) (cs' := [_, _, _, _]) rfl) ?_
    clear hS
    rintro _ w_9 ⟨rfl, hS⟩
    refine ol_nil (thenN ?_)
    refine wpIn_seq ?_
    refine reg ?_
    refine qq hS (g_ldO 1 (vs := [.bool _, .int .i64 _, .int .i64 _, .slice _ _ _]) Tryd.sizeOf31 Tryd.isAgg31 rfl rfl rfl rfl) ?_
    refine qe (d_call Tryd.call11 rfl (packA_c p B 0 hpE _ _ _ _ _ hS.imm h38 hM.wf)) ?_
    rintro _ w_10 ⟨I_f, a51, c51, rfl, hE, h51⟩
    replace hS := hS.callE hE
    replace h4 := h4.mono hE.ext
    replace hm := hm.mono hE.ext
    replace h38 := h38.mono hE.ext
    refine qq hS (g_move _) ?_
    refine qq hS (g_extract rfl rfl) ?_
    refine qq hS (g_extract (v := .int .i64 _) rfl rfl) ?_
    refine qq hS (g_assign _) ?_
    refine qq hS (g_assignv (v := .int .i64 _) rfl) ?_
    refine ol_nil (thenN ?_)
    refine wpIn_seq ?_
    refine reg ?_
    refine qq hS (g_ldO 1 (vs := [.bool _, .int .i64 _, .int .i64 _, .slice _ _ _]) Tryd.sizeOf31 Tryd.isAgg31 rfl rfl rfl rfl) ?_
    refine qe (d_call Tryd.call12 rfl (packRA_c p B 0 hpE _ _ _ _ _ hS.imm h38 hM.wf)) ?_
    rintro _ w_11 ⟨I_f, a56, c56, rfl, hE, h56⟩
    replace hS := hS.callE hE
    replace h4 := h4.mono hE.ext
    replace hm := hm.mono hE.ext
    replace h38 := h38.mono hE.ext
    replace h51 := h51.mono hE.ext
    refine qq hS (g_move _) ?_
    refine qq hS (g_extract rfl rfl) ?_
    refine qq hS (g_extract (v := .int .i64 _) rfl rfl) ?_
    refine qq hS (g_assign _) ?_
    refine qq hS (g_assignv (v := .int .i64 _) rfl) ?_
    refine ol_nil (thenN ?_)
    refine wpIn_seq ?_
    refine reg ?_
    refine qq hS (g_ldO 0 (vs := [.bool _, .int .i64 _, .int .i64 _, .slice _ _ _]) Tryd.sizeOf31 Tryd.isAgg31 rfl rfl rfl rfl) ?_
    refine qe (d_call Tryd.call11 rfl (packA_c (movd p x0) X e hX _ _ _ _ _ hS.imm h38 hqw)) ?_
    rintro _ w_12 ⟨I_f, a61, c61, rfl, hE, h61⟩
    replace hS := hS.callE hE
    replace h4 := h4.mono hE.ext
    replace hm := hm.mono hE.ext
    replace h38 := h38.mono hE.ext
    replace h51 := h51.mono hE.ext
    replace h56 := h56.mono hE.ext
    refine qq hS (g_move _) ?_
    refine qq hS (g_extract rfl rfl) ?_
    refine qq hS (g_extract (v := .int .i64 _) rfl rfl) ?_
    refine qq hS (g_assign _) ?_
    refine qq hS (g_assignv (v := .int .i64 _) rfl) ?_
    refine ol_nil (thenN ?_)
    refine wpIn_seq ?_
    refine reg ?_
    refine qq hS (g_ldO 0 (vs := [.bool _, .int .i64 _, .int .i64 _, .slice _ _ _]) Tryd.sizeOf31 Tryd.isAgg31 rfl rfl rfl rfl) ?_
    refine qe (d_call Tryd.call12 rfl (packRA_c (movd p x0) X e hX _ _ _ _ _ hS.imm h38 hqw)) ?_
    rintro _ w_13 ⟨I_f, a66, c66, rfl, hE, h66⟩
    replace hS := hS.callE hE
    replace h4 := h4.mono hE.ext
    replace hm := hm.mono hE.ext
    replace h38 := h38.mono hE.ext
    replace h51 := h51.mono hE.ext
    replace h56 := h56.mono hE.ext
    replace h61 := h61.mono hE.ext
    refine qq hS (g_move _) ?_
    refine qq hS (g_extract rfl rfl) ?_
    refine qq hS (g_extract (v := .int .i64 _) rfl rfl) ?_
    refine qq hS (g_assign _) ?_
    refine qq hS (g_assignv (v := .int .i64 _) rfl) ?_
    refine ol_nil (thenN ?_)
    refine wpIn_seq ?_
    refine wpIn_seq ?_
    refine reg ?_
    refine qq hS (g_move _) ?_
    refine qq hS (g_move _) ?_
    refine qe (d_call Tryd.call13 rfl (same14_E _ _ B B _ _ hS.imm h51 h56 rfl)) ?_
    rintro _ w_14 ⟨rfl, hE⟩
    replace hS := hS.callE hE
    refine qq hS (g_not rfl) ?_
    refine qq hS (g_movev (v := .bool _) rfl) ?_
    refine qqs rfl rfl hS (g_movev (v := .int .i64 _) rfl) ?_
    refine qqs rfl rfl hS (g_movev (v := .int .i64 _) rfl) ?_
    refine qqs rfl rfl hS (g_castT (g_neq rfl rfl) (congrArg Value.bool (show (!decide _) = false by simp))) ?_
    refine qq hS (g_or rfl rfl (fun _ => rfl)) ?_
    refine qq hS (g_movev (v := .bool _) rfl) ?_
    refine qqs rfl rfl hS (g_move _) ?_
    refine qqs rfl rfl hS (g_move _) ?_
    refine qes rfl rfl (d_call Tryd.call13 rfl (same14_E _ _ X X _ _ hS.imm h61 h66 rfl)) ?_
    rintro _ w_15 ⟨rfl, hE⟩
    replace hS := hS.callE hE
    refine qqs rfl rfl hS (g_not rfl) ?_
    refine qq hS (g_or rfl rfl (fun _ => rfl)) ?_
    refine qq hS (g_movev (v := .bool _) rfl) ?_
    refine qqs rfl rfl hS (g_movev (v := .int .i64 _) rfl) ?_
    refine qqs rfl rfl hS (g_movev (v := .int .i64 _) rfl) ?_
    refine qqs rfl rfl hS (g_castT (g_neq rfl rfl) (congrArg Value.bool (show (!decide _) = false by simp))) ?_
    refine qq hS (g_or rfl rfl (fun _ => rfl)) ?_
    refine ol_nil (thenN ?_)
    refine cond_f (rfl) ?_
    refine wpIn_skip ?_
    refine thenN ?_
    refine wpIn_seq ?_
    refine reg ?_
    refine qq hS (g_move _) ?_
    refine qq hS (g_lenI rfl Tryd.underlying25 h56 rfl) ?_
    refine qq hS (g_sub rfl rfl (by omega) (by omega)) ?_
    refine qq hS (g_assignv (v := .int .i64 _) rfl) ?_
    refine ol_nil (thenN ?_)
    refine wpIn_seq ?_
    have hm0 := Int.emod_nonneg x0 (show ((B.length : Int) - 4 + 1) ≠ 0 by omega)
    have hm1 := Int.emod_lt_of_pos x0 (show 0 < ((B.length : Int) - 4 + 1) by omega)
    obtain ⟨i, hi, hib⟩ : ∃ i : Nat, x0 % ((B.length : Int) - 4 + 1) = (i : Int) ∧ i ≤ B.length - 4 := ⟨(x0 % ((B.length : Int) - 4 + 1)).toNat, by omega, by omega⟩
    obtain ⟨k, hk, hik, hkb⟩ : ∃ k : Nat, (if (B.length : Int) - 4 < (i : Int) + x1 % 8 then (B.length : Int) - 4 else (i : Int) + x1 % 8) = (k : Int) ∧ i ≤ k ∧ k ≤ B.length - 4 := ⟨(if (B.length : Int) - 4 < (i : Int) + x1 % 8 then (B.length : Int) - 4 else (i : Int) + x1 % 8).toNat, by split <;> omega, by split <;> omega, by split <;> omega⟩
    have hcc := (RSl.resl2 h56 B.length B.length (Nat.le_refl _) (Nat.le_refl _)).2.1
    have hs1 : RBytes _ _ _ := (RSl.resl2 h56 0 i (by omega) (by omega)).1
    rw [List.drop_zero] at hs1
    obtain ⟨a1, c1, hv1, _⟩ := hs1.len
    rw [hv1] at hs1
    have hs2 : RBytes _ _ _ := (RSl.resl2 h56 k (B.length - 4) (by omega) (by omega)).1
    obtain ⟨a2, c2, hv2, _⟩ := hs2.len
    rw [hv2] at hs2
    have hspb : Byt (B.take i ++ ms ++ (B.take (B.length - 4)).drop k) := byt_app (byt_app (byt_take hM.byt _) hmb) (byt_drop (byt_take hM.byt _) _)
    have hd1 : (B.take i).length ≤ 300 := by rw [List.length_take]; omega
    have hd2 : ((B.take (B.length - 4)).drop k).length ≤ 300 := by rw [List.length_drop, List.length_take]; omega
    have hspl : (B.take i ++ ms ++ (B.take (B.length - 4)).drop k).length = (B.take i).length + ms.length + ((B.take (B.length - 4)).drop k).length := by simp only [List.length_append]
    have hsl := sumP_len (B.take i ++ ms ++ (B.take (B.length - 4)).drop k)
    obtain ⟨q0, e0, hU0⟩ := unpB_of hmb (by omega)
    obtain ⟨q1, e1, hU1⟩ := unpB_of hspb (by omega)
    obtain ⟨q2, e2, hU2⟩ := unpB_of (byt_app hspb (sumP_byt (B.take i ++ ms ++ (B.take (B.length - 4)).drop k))) (by rw [List.length_append]; omega)
    refine reg ?_
    refine qq hS (g_indexArr (o' := 0) Tryd.underlying27 Tryd.sizeOf26 rfl rfl (by decide) (by decide) rfl) ?_
    refine qq hS (g_ldO1 2 Tryd.isAgg26 rfl rfl rfl) ?_
    refine qq hS (g_convi Tryd.underlying26 Tryd.underlying3 rfl (by omega) (by omega)) ?_
    refine qq hS (g_movev (v := .int .i64 _) rfl) ?_
    refine qq hS (g_add rfl rfl (by omega) (by omega)) ?_
    refine qq hS (g_castT (g_rem rfl rfl (by omega) (by omega)) (congrArg (Value.int .i64) hi)) ?_
    refine qq hS (g_assignv (v := .int .i64 _) rfl) ?_
    refine ol_nil (thenN ?_)
    refine wpIn_seq ?_
    refine reg ?_
    refine qq hS (g_movev (v := .int .i64 _) rfl) ?_
    refine qq hS (g_indexArr (o' := 1) Tryd.underlying27 Tryd.sizeOf26 rfl rfl (by decide) (by decide) rfl) ?_
    refine qq hS (g_ldO1 2 Tryd.isAgg26 rfl rfl rfl) ?_
    refine qq hS (g_rem rfl rfl (by omega) (by decide)) ?_
    refine qq hS (g_convi Tryd.underlying26 Tryd.underlying3 rfl (by omega) (by omega)) ?_
    refine qq hS (g_add rfl rfl (by omega) (by omega)) ?_
    refine qq hS (g_movev (v := .int .i64 _) rfl) ?_
    refine qq hS (g_castT (g_min rfl rfl) (congrArg (Value.int .i64) hk)) ?_
    refine qq hS (g_assignv (v := .int .i64 _) rfl) ?_
    refine ol_nil (thenN ?_)
    refine wpIn_seq ?_
    refine reg ?_
    refine qe (d_buildSlice0 hS Tryd.underlying25 Tryd.sizeOf5) ?_
    clear hS
    rintro _ w_16 ⟨hS, b106_, rfl⟩
    refine qq hS (g_move _) ?_
    refine qq hS (g_movev (v := .int .i64 _) rfl) ?_
    refine qq hS (g_castT (g_sliceHN (h0 := i) Tryd.underlying25 Tryd.sizeOf5 rfl rfl (by omega) (by omega) (by omega)) hv1) ?_
    refine qe (i_appendF 0 hS rfl Tryd.underlying25 info5 rfl rfl rfl rfl byteC_len (fun _ => rfl) hs1 rfl (by omega) (by omega)) ?_
    clear hS
    rintro _ w_17 ⟨a110, p110, rfl, hS⟩
    refine qq hS (g_move _) ?_
    refine qe (i_appendF 0 hS rfl Tryd.underlying25 info5 rfl rfl rfl rfl byteC_len (fun _ => rfl) hm rfl (by omega) (by omega)) ?_
    clear hS
    rintro _ w_18 ⟨a112, p112, rfl, hS⟩
    refine qq hS (g_assign _) ?_
    refine ol_nil (thenN ?_)
    refine wpIn_seq ?_
    refine reg ?_
    refine qq hS (g_move _) ?_
    refine qq hS (g_move _) ?_
    refine qq hS (g_movev (v := .int .i64 _) rfl) ?_
    refine qq hS (g_movev (v := .int .i64 _) rfl) ?_
    refine qq hS (g_castT (g_slice2N (l0 := k) (h0 := B.length - 4) Tryd.underlying25 Tryd.sizeOf5 rfl rfl rfl (by omega) (by omega) (by omega) (by omega) (by omega)) hv2) ?_
    refine qe (i_appendF 0 hS rfl Tryd.underlying25 info5 rfl rfl rfl rfl byteC_len (fun _ => rfl) hs2 rfl (by omega) (by omega)) ?_
    clear hS
    rintro _ w_19 ⟨a118, p118, rfl, hS⟩
    refine qq hS (g_assign _) ?_
    refine ol_nil (thenN ?_)
    refine wpIn_seq ?_
    have hF := St.freezeRow (u := .slice a118 (0 + (B.take i).length + ms.length + ((B.take (B.length - 4)).drop k).length) p118) (m := (0 + (B.take i).length + ms.length + ((B.take (B.length - 4)).drop k).length)) (xs := (B.take i ++ ms ++ (B.take (B.length - 4)).drop k)) byteC_len (by rw [flat_append, flat_append]; exact hS.ord [0, 1, 2, 3, 4]) (by simp only [List.length_append]; omega)
    clear hS
    obtain ⟨I_hsp, hS, hI_hsp, hsp⟩ := hF
    replace h4 := h4.mono hI_hsp
    replace hm := hm.mono hI_hsp
    replace h38 := h38.mono hI_hsp
    replace h51 := h51.mono hI_hsp
    replace h56 := h56.mono hI_hsp
    replace h61 := h61.mono hI_hsp
    replace h66 := h66.mono hI_hsp
    replace hs1 := hs1.mono hI_hsp
    replace hs2 := hs2.mono hI_hsp
    refine reg ?_
    refine qq hS (g_move _) ?_
    refine qq hS (g_move _) ?_
    refine qe (d_buildSlice0 hS Tryd.underlying25 Tryd.sizeOf5) ?_
    clear hS
    rintro _ w_20 ⟨hS, b121_, rfl⟩
    refine qq hS (g_move _) ?_
    refine qe (i_appendF 0 hS rfl Tryd.underlying25 info5 rfl rfl rfl rfl byteC_len (fun _ => rfl) hsp rfl (by omega) (by omega)) ?_
    clear hS
    rintro _ w_21 ⟨a123, p123, rfl, hS⟩
    refine qq hS (g_move _) ?_
    refine qe (d_call Tryd.call14 rfl (sumR_c _ _ _ (B.take i ++ ms ++ (B.take (B.length - 4)).drop k) _ _ hS.imm hsp hspb (by simp only [List.length_append]; omega))) ?_
    rintro _ w_22 ⟨I_f, a125, _, c125, rfl, hE, h125, rfl⟩
    replace hS := hS.callE hE
    replace h4 := h4.mono hE.ext
    replace hm := hm.mono hE.ext
    replace h38 := h38.mono hE.ext
    replace h51 := h51.mono hE.ext
    replace h56 := h56.mono hE.ext
    replace h61 := h61.mono hE.ext
    replace h66 := h66.mono hE.ext
    replace hs1 := hs1.mono hE.ext
    replace hs2 := hs2.mono hE.ext
    replace hsp := hsp.mono hE.ext
    refine qe (i_appendF 0 hS rfl Tryd.underlying25 info5 rfl rfl rfl rfl byteC_len (fun _ => rfl) h125 rfl (by omega) (by omega)) ?_
    clear hS
    rintro _ w_23 ⟨a126, p126, rfl, hS⟩
    refine qe (d_lit (vs := [.slice _ _ _, .slice _ _ _, .slice _ _ _]) (cs := [.slice _ _ _, .slice _ _ _, .slice _ _ _]) hS Tryd.underlying38 Tryd.sizeOf25 Tryd.zeroValue25 rfl rfl rfl rfl (fun v hv => by simp only [List.mem_cons, List.not_mem_nil, or_false] at hv; rcases hv with rfl | rfl | rfl <;> rfl) rfl) ?_
    clear hS
    rintro _ w_24 ⟨b127, rfl, hS⟩
    refine qq hS (g_assign _) ?_
    refine ol_nil (thenN ?_)
    refine wpIn_seq ?_
    refine wpIn_seq ?_
    have hF := St.freezeRow (u := .slice a126 (0 + (B.take i ++ ms ++ (B.take (B.length - 4)).drop k).length + 4) p126) (m := (0 + (B.take i ++ ms ++ (B.take (B.length - 4)).drop k).length + 4)) (xs := ((B.take i ++ ms ++ (B.take (B.length - 4)).drop k) ++ Inl.sumP (B.take i ++ ms ++ (B.take (B.length - 4)).drop k))) byteC_len (by rw [flat_append byteC (B.take i ++ ms ++ (B.take (B.length - 4)).drop k)]; exact hS.ord [1, 0, 2, 3, 4, 5]) (by simp only [List.length_append]; omega)
    clear hS
    obtain ⟨I_htx, hS, hI_htx, htx⟩ := hF
    replace h4 := h4.mono hI_htx
    replace hm := hm.mono hI_htx
    replace h38 := h38.mono hI_htx
    replace h51 := h51.mono hI_htx
    replace h56 := h56.mono hI_htx
    replace h61 := h61.mono hI_htx
    replace h66 := h66.mono hI_htx
    replace hs1 := hs1.mono hI_htx
    replace hs2 := hs2.mono hI_htx
    replace hsp := hsp.mono hI_htx
    replace h125 := h125.mono hI_htx
    refine reg ?_
    refine qq hS (g_assignv (v := .int .i64 _) rfl) ?_
    refine ol_nil (thenN ?_)
    refine wpIn_block ?_
    refine loop (fun (j : Nat) σ w => okS σ [(1, .slice md ms.length mc), (7, .bool true), (22, .slice (some ⟨b127, 0, none⟩) 3 3), (23, .int .i64 j)] ∧ ∃ I, St [] w0 I0 I w [.cel b127 25 [.slice md ms.length mc, .slice a118 (0 + (B.take i).length + ms.length + ((B.take (B.length - 4)).drop k).length) p118, .slice a126 (0 + (B.take i ++ ms ++ (B.take (B.length - 4)).drop k).length + 4) p126]] ∧ j ≤ 3 ∧ RBytes I (.slice md ms.length mc) ms ∧ RBytes I (.slice a118 (0 + (B.take i).length + ms.length + ((B.take (B.length - 4)).drop k).length) p118) (B.take i ++ ms ++ (B.take (B.length - 4)).drop k) ∧ RBytes I (.slice a126 (0 + (B.take i ++ ms ++ (B.take (B.length - 4)).drop k).length + 4) p126) ((B.take i ++ ms ++ (B.take (B.length - 4)).drop k) ++ Inl.sumP (B.take i ++ ms ++ (B.take (B.length - 4)).drop k))) (fun j => 3 - j) (0) ?_ ?_
    ·
      exact ⟨⟨rfl, rfl, rfl, rfl, trivial⟩, _, hS.sel [true, false, false, false, false], by omega, hm, hsp, htx⟩
    ·
      rintro j σ w_l ⟨hs, I, hS, hj0, hm, hsp, htx⟩
      rw [← upds_self hs]; clear hs
      refine wpIn_seq ?_
      refine wpIn_seq ?_
      refine reg ?_
      refine qq hS (g_movev (v := .int .i64 _) rfl) ?_
      refine qq hS (g_lss rfl rfl) ?_
      refine ol_nil (thenN ?_)
      refine cond_s rfl ?_ ?_
      ·
        intro hc129
        try simp only [Bool.and_eq_true, Bool.or_eq_true, Bool.not_eq_true', Bool.and_eq_false_imp, Bool.or_eq_false_iff, Bool.not_eq_false', decide_eq_true_eq, decide_eq_false_iff_not] at hc129
        refine wpIn_skip ?_
        refine thenN ?_
        refine wpIn_seq ?_
        refine wpIn_block ?_
        refine wpIn_seq ?_
        refine (show j = 0 ∨ j = 1 ∨ j = 2 by omega).elim (fun hk1 => ?_) fun h => h.elim (fun hk1 => ?_) (fun hk1 => ?_)
        ·
          subst hk1
          refine reg ?_
          refine qq hS (g_move _) ?_
          refine qq hS (g_movev (v := .int .i64 _) rfl) ?_
          refine qq hS (g_indexAddr Tryd.underlying38 Tryd.sizeOf25 rfl rfl (by omega) (by omega)) ?_
          refine qq hS (g_ldO1 0 Tryd.isAgg25 rfl rfl rfl) ?_
          refine qe (d_call Tryd.call15 rfl (hU0.c1 _ _ _ _ _ hS.imm rfl hm)) ?_
          rintro _ w_25 ⟨I_f, a137, m137, c137, rfl, hE, h137⟩
          replace hS := hS.callE hE
          replace hm := hm.mono hE.ext
          replace hsp := hsp.mono hE.ext
          replace htx := htx.mono hE.ext
          refine qq hS (g_move _) ?_
          refine qq hS (g_extract rfl rfl) ?_
          refine qq hS (g_extract (v := .int .i64 _) rfl rfl) ?_
          refine qe (d_alloc (cs := [.bool _, .int .i64 _, .int .i64 _, .slice _ _ _]) hS Tryd.zeroValue31 rfl) ?_
          clear hS
          rintro _ w_26 ⟨b24, rfl, hS⟩
          refine qe (d_store 0 hS Tryd.sizeOf31 rfl rfl rfl (vs := [.bool _, .int .i64 _, .int .i64 _, .slice _ _ _]) rfl rfl rfl (Nat.le_of_ble_eq_true rfl) (cs' := [_, _, _, _]) rfl) ?_
          clear hS
          rintro _ w_27 ⟨rfl, hS⟩
          refine qq hS (g_assignv (v := .int .i64 _) rfl) ?_
          refine ol_nil (thenN ?_)
          refine wpIn_seq ?_
          refine reg ?_
          refine qq hS (g_move _) ?_
          refine qq hS (g_movev (v := .int .i64 _) rfl) ?_
          refine qq hS (g_indexAddr Tryd.underlying38 Tryd.sizeOf25 rfl rfl (by omega) (by omega)) ?_
          refine qq hS (g_ldO1 1 Tryd.isAgg25 rfl rfl rfl) ?_
          refine qe (d_call Tryd.call16 rfl (hU0.c2 _ _ _ _ _ hS.imm rfl hm)) ?_
          rintro _ w_28 ⟨I_f, a145, m145, c145, rfl, hE, h145⟩
          replace hS := hS.callE hE
          replace hm := hm.mono hE.ext
          replace hsp := hsp.mono hE.ext
          replace htx := htx.mono hE.ext
          replace h137 := h137.mono hE.ext
          refine qq hS (g_move _) ?_
          refine qq hS (g_extract rfl rfl) ?_
          refine qq hS (g_extract (v := .int .i64 _) rfl rfl) ?_
          refine qe (d_alloc (cs := [.bool _, .int .i64 _, .int .i64 _, .slice _ _ _]) hS Tryd.zeroValue31 rfl) ?_
          clear hS
          rintro _ w_29 ⟨b26, rfl, hS⟩
          refine qe (d_store 0 hS Tryd.sizeOf31 rfl rfl rfl (vs := [.bool _, .int .i64 _, .int .i64 _, .slice _ _ _]) rfl rfl rfl (Nat.le_of_ble_eq_true rfl) (cs' := [_, _, _, _]) rfl) ?_
          clear hS
          rintro _ w_30 ⟨rfl, hS⟩
          refine qq hS (g_assignv (v := .int .i64 _) rfl) ?_
          refine ol_nil (thenN ?_)
          refine wpIn_seq ?_
          refine reg ?_
          refine qq hS (g_ldO 1 (vs := [.bool _, .int .i64 _, .int .i64 _, .slice _ _ _]) Tryd.sizeOf31 Tryd.isAgg31 rfl rfl rfl rfl) ?_
          refine qq hS (g_ldO 0 (vs := [.bool _, .int .i64 _, .int .i64 _, .slice _ _ _]) Tryd.sizeOf31 Tryd.isAgg31 rfl rfl rfl rfl) ?_
          refine qe (d_call Tryd.call17 rfl (sameR_e q0 q0 _ _ _ _ _ _ true _ _ hS.imm h137 hU0.wf h145 hU0.wf (samePR_refl _))) ?_
          rintro _ w_31 ⟨rfl, hE⟩
          replace hS := hS.callE hE
          refine qq hS (g_not rfl) ?_
          refine qq hS (g_movev (v := .bool _) rfl) ?_
          refine qqs rfl rfl hS (g_movev (v := .int .i64 _) rfl) ?_
          refine qqs rfl rfl hS (g_movev (v := .int .i64 _) rfl) ?_
          refine qqs rfl rfl hS (g_castT (g_neq rfl rfl) (congrArg Value.bool (show (!decide _) = false by simp))) ?_
          refine qq hS (g_or rfl rfl (fun _ => rfl)) ?_
          refine ol_nil (thenN ?_)
          refine cond_f (rfl) ?_
          refine wpIn_skip ?_
          refine blkN (thenN ?_)
          refine reg ?_
          refine qq hS (g_movev (v := .int .i64 _) rfl) ?_
          refine qq hS (g_add rfl rfl (by omega) (by omega)) ?_
          refine qq hS (g_assignv (v := .int .i64 _) rfl) ?_
          exact ⟨_ + 1, _, rfl, ⟨⟨rfl, rfl, rfl, rfl, trivial⟩, _, hS.sel [false, false, true], by omega, hm, hsp, htx⟩, by omega⟩
        ·
          subst hk1
          refine reg ?_
          refine qq hS (g_move _) ?_
          refine qq hS (g_movev (v := .int .i64 _) rfl) ?_
          refine qq hS (g_indexAddr Tryd.underlying38 Tryd.sizeOf25 rfl rfl (by omega) (by omega)) ?_
          refine qq hS (g_ldO1 0 Tryd.isAgg25 rfl rfl rfl) ?_
          refine qe (d_call Tryd.call15 rfl (hU1.c1 _ _ _ _ _ hS.imm (by omega) hsp)) ?_
          rintro _ w_32 ⟨I_f, a137, m137, c137, rfl, hE, h137⟩
          replace hS := hS.callE hE
          replace hm := hm.mono hE.ext
          replace hsp := hsp.mono hE.ext
          replace htx := htx.mono hE.ext
          refine qq hS (g_move _) ?_
          refine qq hS (g_extract rfl rfl) ?_
          refine qq hS (g_extract (v := .int .i64 _) rfl rfl) ?_
          refine qe (d_alloc (cs := [.bool _, .int .i64 _, .int .i64 _, .slice _ _ _]) hS Tryd.zeroValue31 rfl) ?_
          clear hS
          rintro _ w_33 ⟨b24, rfl, hS⟩
          refine qe (d_store 0 hS Tryd.sizeOf31 rfl rfl rfl (vs := [.bool _, .int .i64 _, .int .i64 _, .slice _ _ _]) rfl rfl rfl (Nat.le_of_ble_eq_true rfl) (cs' := [_, _, _, _]) rfl) ?_
          clear hS
          rintro _ w_34 ⟨rfl, hS⟩
          refine qq hS (g_assignv (v := .int .i64 _) rfl) ?_
          refine ol_nil (thenN ?_)
          refine wpIn_seq ?_
          refine reg ?_
          refine qq hS (g_move _) ?_
          refine qq hS (g_movev (v := .int .i64 _) rfl) ?_
          refine qq hS (g_indexAddr Tryd.underlying38 Tryd.sizeOf25 rfl rfl (by omega) (by omega)) ?_
          refine qq hS (g_ldO1 1 Tryd.isAgg25 rfl rfl rfl) ?_
          refine qe (d_call Tryd.call16 rfl (hU1.c2 _ _ _ _ _ hS.imm (by omega) hsp)) ?_
          rintro _ w_35 ⟨I_f, a145, m145, c145, rfl, hE, h145⟩
          replace hS := hS.callE hE
          replace hm := hm.mono hE.ext
          replace hsp := hsp.mono hE.ext
          replace htx := htx.mono hE.ext
          replace h137 := h137.mono hE.ext
          refine qq hS (g_move _) ?_
          refine qq hS (g_extract rfl rfl) ?_
          refine qq hS (g_extract (v := .int .i64 _) rfl rfl) ?_
          refine qe (d_alloc (cs := [.bool _, .int .i64 _, .int .i64 _, .slice _ _ _]) hS Tryd.zeroValue31 rfl) ?_
          clear hS
          rintro _ w_36 ⟨b26, rfl, hS⟩
          refine qe (d_store 0 hS Tryd.sizeOf31 rfl rfl rfl (vs := [.bool _, .int .i64 _, .int .i64 _, .slice _ _ _]) rfl rfl rfl (Nat.le_of_ble_eq_true rfl) (cs' := [_, _, _, _]) rfl) ?_
          clear hS
          rintro _ w_37 ⟨rfl, hS⟩
          refine qq hS (g_assignv (v := .int .i64 _) rfl) ?_
          refine ol_nil (thenN ?_)
          refine wpIn_seq ?_
          refine reg ?_
          refine qq hS (g_ldO 1 (vs := [.bool _, .int .i64 _, .int .i64 _, .slice _ _ _]) Tryd.sizeOf31 Tryd.isAgg31 rfl rfl rfl rfl) ?_
          refine qq hS (g_ldO 0 (vs := [.bool _, .int .i64 _, .int .i64 _, .slice _ _ _]) Tryd.sizeOf31 Tryd.isAgg31 rfl rfl rfl rfl) ?_
          refine qe (d_call Tryd.call17 rfl (sameR_e q1 q1 _ _ _ _ _ _ true _ _ hS.imm h137 hU1.wf h145 hU1.wf (samePR_refl _))) ?_
          rintro _ w_38 ⟨rfl, hE⟩
          replace hS := hS.callE hE
          refine qq hS (g_not rfl) ?_
          refine qq hS (g_movev (v := .bool _) rfl) ?_
          refine qqs rfl rfl hS (g_movev (v := .int .i64 _) rfl) ?_
          refine qqs rfl rfl hS (g_movev (v := .int .i64 _) rfl) ?_
          refine qqs rfl rfl hS (g_castT (g_neq rfl rfl) (congrArg Value.bool (show (!decide _) = false by simp))) ?_
          refine qq hS (g_or rfl rfl (fun _ => rfl)) ?_
          refine ol_nil (thenN ?_)
          refine cond_f (rfl) ?_
          refine wpIn_skip ?_
          refine blkN (thenN ?_)
          refine reg ?_
          refine qq hS (g_movev (v := .int .i64 _) rfl) ?_
          refine qq hS (g_add rfl rfl (by omega) (by omega)) ?_
          refine qq hS (g_assignv (v := .int .i64 _) rfl) ?_
          exact ⟨_ + 1, _, rfl, ⟨⟨rfl, rfl, rfl, rfl, trivial⟩, _, hS.sel [false, false, true], by omega, hm, hsp, htx⟩, by omega⟩
        ·
          subst hk1
          refine reg ?_
          refine qq hS (g_move _) ?_
          refine qq hS (g_movev (v := .int .i64 _) rfl) ?_
          refine qq hS (g_indexAddr Tryd.underlying38 Tryd.sizeOf25 rfl rfl (by omega) (by omega)) ?_
          refine qq hS (g_ldO1 0 Tryd.isAgg25 rfl rfl rfl) ?_
          refine qe (d_call Tryd.call15 rfl (hU2.c1 _ _ _ _ _ hS.imm (by simp only [List.length_append]; omega) htx)) ?_
          rintro _ w_39 ⟨I_f, a137, m137, c137, rfl, hE, h137⟩
          replace hS := hS.callE hE
          replace hm := hm.mono hE.ext
          replace hsp := hsp.mono hE.ext
          replace htx := htx.mono hE.ext
          refine qq hS (g_move _) ?_
          refine qq hS (g_extract rfl rfl) ?_
          refine qq hS (g_extract (v := .int .i64 _) rfl rfl) ?_
          refine qe (d_alloc (cs := [.bool _, .int .i64 _, .int .i64 _, .slice _ _ _]) hS Tryd.zeroValue31 rfl) ?_
          clear hS
          rintro _ w_40 ⟨b24, rfl, hS⟩
          refine qe (d_store 0 hS Tryd.sizeOf31 rfl rfl rfl (vs := [.bool _, .int .i64 _, .int .i64 _, .slice _ _ _]) rfl rfl rfl (Nat.le_of_ble_eq_true rfl) (cs' := [_, _, _, _]) rfl) ?_
          clear hS
          rintro _ w_41 ⟨rfl, hS⟩
          refine qq hS (g_assignv (v := .int .i64 _) rfl) ?_
          refine ol_nil (thenN ?_)
          refine wpIn_seq ?_
          refine reg ?_
          refine qq hS (g_move _) ?_
          refine qq hS (g_movev (v := .int .i64 _) rfl) ?_
          refine qq hS (g_indexAddr Tryd.underlying38 Tryd.sizeOf25 rfl rfl (by omega) (by omega)) ?_
          refine qq hS (g_ldO1 1 Tryd.isAgg25 rfl rfl rfl) ?_
          refine qe (d_call Tryd.call16 rfl (hU2.c2 _ _ _ _ _ hS.imm (by simp only [List.length_append]; omega) htx)) ?_
          rintro _ w_42 ⟨I_f, a145, m145, c145, rfl, hE, h145⟩
          replace hS := hS.callE hE
          replace hm := hm.mono hE.ext
          replace hsp := hsp.mono hE.ext
          replace htx := htx.mono hE.ext
          replace h137 := h137.mono hE.ext
          refine qq hS (g_move _) ?_
          refine qq hS (g_extract rfl rfl) ?_
          refine qq hS (g_extract (v := .int .i64 _) rfl rfl) ?_
          refine qe (d_alloc (cs := [.bool _, .int .i64 _, .int .i64 _, .slice _ _ _]) hS Tryd.zeroValue31 rfl) ?_
          clear hS
          rintro _ w_43 ⟨b26, rfl, hS⟩
          refine qe (d_store 0 hS Tryd.sizeOf31 rfl rfl rfl (vs := [.bool _, .int .i64 _, .int .i64 _, .slice _ _ _]) rfl rfl rfl (Nat.le_of_ble_eq_true rfl) (cs' := [_, _, _, _]) rfl) ?_
          clear hS
          rintro _ w_44 ⟨rfl, hS⟩
          refine qq hS (g_assignv (v := .int .i64 _) rfl) ?_
          refine ol_nil (thenN ?_)
          refine wpIn_seq ?_
          refine reg ?_
          refine qq hS (g_ldO 1 (vs := [.bool _, .int .i64 _, .int .i64 _, .slice _ _ _]) Tryd.sizeOf31 Tryd.isAgg31 rfl rfl rfl rfl) ?_
          refine qq hS (g_ldO 0 (vs := [.bool _, .int .i64 _, .int .i64 _, .slice _ _ _]) Tryd.sizeOf31 Tryd.isAgg31 rfl rfl rfl rfl) ?_
          refine qe (d_call Tryd.call17 rfl (sameR_e q2 q2 _ _ _ _ _ _ true _ _ hS.imm h137 hU2.wf h145 hU2.wf (samePR_refl _))) ?_
          rintro _ w_45 ⟨rfl, hE⟩
          replace hS := hS.callE hE
          refine qq hS (g_not rfl) ?_
          refine qq hS (g_movev (v := .bool _) rfl) ?_
          refine qqs rfl rfl hS (g_movev (v := .int .i64 _) rfl) ?_
          refine qqs rfl rfl hS (g_movev (v := .int .i64 _) rfl) ?_
          refine qqs rfl rfl hS (g_castT (g_neq rfl rfl) (congrArg Value.bool (show (!decide _) = false by simp))) ?_
          refine qq hS (g_or rfl rfl (fun _ => rfl)) ?_
          refine ol_nil (thenN ?_)
          refine cond_f (rfl) ?_
          refine wpIn_skip ?_
          refine blkN (thenN ?_)
          refine reg ?_
          refine qq hS (g_movev (v := .int .i64 _) rfl) ?_
          refine qq hS (g_add rfl rfl (by omega) (by omega)) ?_
          refine qq hS (g_assignv (v := .int .i64 _) rfl) ?_
          exact ⟨_ + 1, _, rfl, ⟨⟨rfl, rfl, rfl, rfl, trivial⟩, _, hS.sel [false, false, true], by omega, hm, hsp, htx⟩, by omega⟩
      ·
        intro hc129
        try simp only [Bool.and_eq_true, Bool.or_eq_true, Bool.not_eq_true', Bool.and_eq_false_imp, Bool.or_eq_false_iff, Bool.not_eq_false', decide_eq_true_eq, decide_eq_false_iff_not] at hc129
        refine wpIn_exit ?_
        refine thenE (thenE (blkE ?_))
        refine thenN ?_
        refine wpIn_seq ?_
        refine reg ?_
        refine qq hS (g_movev (v := .bool _) rfl) ?_
        refine qq hS (g_assignv (v := .bool _) rfl) ?_
        refine ol_nil (thenN ?_)
        refine wpIn_ret ?_
        refine ret1 Tryd.results3 (rv_tmp (v := .bool _) rfl) ?_
        exact ⟨_, rfl, hS.nil⟩

end Go.Proofs.YtdgnojckkjfhfaaDoor

