/- inlaylaw08.NormalMatchesReference: its function answers true. Conditions: arguments are of their kinds. -/
import Derived.Test.YtaoodcchleaoeaaRef8
import Derived.Test.YtaoodcchleaoeaaCuts
namespace Go.Proofs.Ytaoodcchleaoeaa
open Go Go.RowKit Go.Inl
set_option linter.unusedSimpArgs false
set_option linter.unusedVariables false
theorem g_eqlE {P : Program} {n : Nat} {σ : Nat → Value} {S : World → Prop} {ty t t' : TypeId} {x y : Operand} {k : IntKind} {a b : Int} {c : Bool} (hx : ev n σ x = .int k a) (hy : ev n σ y = .int k b) (hc : decide (a = b) = c) : Gives P (ev n σ) S (.binOp .eql t x y t') ty (.bool c) := by
  subst hc; exact g_eql hx hy
theorem g_eqlbE {P : Program} {n : Nat} {σ : Nat → Value} {S : World → Prop} {ty t t' : TypeId} {x y : Operand} {a b c : Bool} (ht : P.underlying t = some .bool) (hx : ev n σ x = .bool a) (hy : ev n σ y = .bool b) (hc : (a == b) = c) : Gives P (ev n σ) S (.binOp .eql t x y t') ty (.bool c) := by
  subst hc; exact g_eqlb ht hx hy
theorem tmod3_bd (a : Int) : -2 ≤ a.tmod 3 ∧ a.tmod 3 ≤ 2 := by
  rcases Int.le_total 0 a with h | h
  · rw [Int.tmod_eq_emod_of_nonneg h]; omega
  · obtain ⟨b, rfl⟩ : ∃ b, a = -b := ⟨-a, by omega⟩
    rw [Int.neg_tmod, Int.tmod_eq_emod_of_nonneg (by omega)]; omega
theorem u8_bd (a : Int) : 0 ≤ IntKind.u8.wrap a ∧ IntKind.u8.wrap a ≤ 255 := by rw [IntKind.wrap_u8]; omega
theorem refForm_e (p : PatL) (ad : Option Addr) (m cap : Nat) (q : PatL) (e : Int) (w0 : World) (I0 : Imm) (hI : Sat I0 w0) (hops : ROps I0 (.slice ad m cap) p.ops) (hp : p.wf) (he : formP p = (q, e)) :
    Ctr Try.prog 14 [.agg #[.bool p.lifted, .int .i64 p.in_, .int .i64 p.out, .slice ad m cap]] w0 (fun v w' => ∃ I' a m c, v = .tuple #[.agg #[.bool q.lifted, .int .i64 q.in_, .int .i64 q.out, .slice a m c], .int .i64 e] ∧ Ext w0 I0 w' I' ∧ ROps I' (.slice a m c) q.ops) := by
  have h := refForm_c p ad m cap w0 I0 hI hops hp
  rw [he] at h
  exact h
theorem refCheapest_e (ad : Option Addr) (m cap : Nat) (l : List Sym) (size : Int) (q : PatL) (e : Int) (w0 : World) (I0 : Imm) (hI : Sat I0 w0) (hl : RSyms I0 (.slice ad m cap) l) (hm : m = l.length) (hw : ∀ s ∈ l, s.wf) (hs : Mid size) (he : cheapP l size = (q, e)) :
    Ctr Try.prog 16 [.slice ad m cap, .int .i64 size] w0 (fun v w' => ∃ I' a m c, v = .tuple #[.agg #[.bool q.lifted, .int .i64 q.in_, .int .i64 q.out, .slice a m c], .int .i64 e] ∧ Ext w0 I0 w' I' ∧ ROps I' (.slice a m c) q.ops) := by
  subst hm
  have h := refCheapest_c ad cap l size w0 I0 hI hl hw hs
  rw [he] at h
  exact h

set_option maxRecDepth 20000 in
set_option maxHeartbeats 4000000 in
theorem mref_c (r : Int) (ad bd : Option Addr) (cap4 cap2 : Nat) (l4 : List Q4) (l2 : List Q2) (a b : Int) (w0 : World) (I0 : Imm) (hI : Sat I0 w0) (hr : 0 ≤ r ∧ r ≤ 255) (h4 : RFl I0 4 q4C (.slice ad l4.length cap4) l4) (hq : ∀ q ∈ l4, q.wf) (h2 : RFl I0 2 q2C (.slice bd l2.length cap2) l2) (hq2 : ∀ q ∈ l2, q.wf) (ha : -32768 ≤ a ∧ a ≤ 32767) (hb : -32768 ≤ b ∧ b ≤ 32767) :
    Ctr Try.prog 3 [.agg #[.int .u8 r, .slice ad l4.length cap4], .slice bd l2.length cap2, .agg #[.int .i16 a, .int .i16 b]] w0 (fun v w' => ∃ I', v = .bool true ∧ Ext w0 I0 w' I') := by
  have hr13 : 0 ≤ r % 13 ∧ r % 13 ≤ 65536 := by omega
  have hz := u8_bd a
  have ht := tmod3_bd b
  have hpw := madeP_wf (size := r % 13) hq hr13
  have hpo := madeP_out (size := r % 13) hq hr13.1
  obtain ⟨p, hp⟩ : ∃ p, madeP l4 (r % 13) = p := ⟨_, rfl⟩
  rw [hp] at hpw hpo
  have hPw : PatL.wf (⟨decide (a.tmod 2 = 0), p.in_, p.out, p.ops⟩ : PatL) := ⟨hpw.in_, hpw.out, hpw.ops, hpw.len⟩
  have hQw : PatL.wf (⟨decide (a.tmod 2 = 0), p.in_, p.out + b.tmod 3, p.ops⟩ : PatL) := ⟨hpw.in_, ⟨by dsimp only; omega, by dsimp only; omega⟩, hpw.ops, hpw.len⟩
  have hsw := symsRaw_wf (size := (IntKind.u8.wrap a)) hq2 (by omega)
  obtain ⟨S2, hS2⟩ : ∃ S, symsRaw l2 (IntKind.u8.wrap a) = S := ⟨_, rfl⟩
  rw [hS2] at hsw
  obtain ⟨fp, hfp⟩ : ∃ x, formP (⟨decide (a.tmod 2 = 0), p.in_, p.out, p.ops⟩ : PatL) = x := ⟨_, rfl⟩
  obtain ⟨fq, hfq⟩ : ∃ x, formP (⟨decide (a.tmod 2 = 0), p.in_, p.out + b.tmod 3, p.ops⟩ : PatL) = x := ⟨_, rfl⟩
  obtain ⟨cr, hcr⟩ : ∃ x, cheapP S2 b = x := ⟨_, rfl⟩
  obtain ⟨ct, hct⟩ : ∃ x, cheapP S2 (IntKind.u8.wrap a) = x := ⟨_, rfl⟩
  have hfpw : fp.1.wf := by rw [← hfp]; exact formP_wf hPw
  have hfqw : fq.1.wf := by rw [← hfq]; exact formP_wf hQw
  have hcrw : cr.1.wf := by rw [← hcr]; exact cheapP_wf hsw
  have hctw : ct.1.wf := by rw [← hct]; exact cheapP_wf hsw
  refine fn (n := 163) Try.func3 rfl rfl rfl ?_
  have hS := St.start hI
  refine wp_seq ?_
  refine reg ?_
  refine qe (d_box (cs := [.int .u8 _, .slice _ _ _]) hS rfl) ?_
  clear hS
  rintro _ w_1 ⟨b3, rfl, hS⟩
  refine qe (d_box (cs := [.int .i16 _, .int .i16 _]) hS rfl) ?_
  clear hS
  rintro _ w_2 ⟨b5, rfl, hS⟩
  refine qq hS (g_assignv (v := .bool _) rfl) ?_
  refine ol_nil (thenN ?_)
  refine wp_seq ?_
  refine reg ?_
  refine qe (d_call Try.call10 rfl (sanity_c _ _ hS.imm)) ?_
  rintro _ w_3 ⟨I_f, rfl, hE⟩
  replace hS := hS.callE hE
  replace h4 := h4.mono hE.ext
  replace h2 := h2.mono hE.ext
  refine qq hS (g_assignv (v := .bool _) rfl) ?_
  refine ol_nil (thenN ?_)
  refine wp_seq ?_
  refine reg ?_
  refine qq hS (g_ldO 1 (vs := [.int .u8 _, .slice _ _ _]) Try.sizeOf24 Try.isAgg24 rfl rfl rfl rfl) ?_
  refine qe (d_call Try.call11 rfl (made_t r ad cap4 l4 p _ _ hS.imm h4 hq hr hp)) ?_
  rintro _ w_4 ⟨I_f, a29, m29, c29, rfl, hE, h29⟩
  replace hS := hS.callE hE
  replace h4 := h4.mono hE.ext
  replace h2 := h2.mono hE.ext
  refine qe (d_alloc (cs := [.bool _, .int .i64 _, .int .i64 _, .slice _ _ _]) hS Try.zeroValue31 rfl) ?_
  clear hS
  rintro _ w_5 ⟨b8, rfl, hS⟩
  refine qe (d_store 0 hS Try.sizeOf31 rfl rfl rfl (vs := [.bool _, .int .i64 _, .int .i64 _, .slice _ _ _]) rfl rfl rfl (Nat.le_of_ble_eq_true rfl) (cs' := [_, _, _, _]) rfl) ?_
  clear hS
  rintro _ w_6 ⟨rfl, hS⟩
  refine ol_nil (thenN ?_)
  refine wp_seq ?_
  refine reg ?_
  refine qq hS (g_indexArr (o' := 0) Try.underlying27 Try.sizeOf26 rfl rfl (by decide) (by decide) rfl) ?_
  refine qq hS (g_ldO1 1 Try.isAgg26 rfl rfl rfl) ?_
  refine qq hS (g_remz rfl rfl (by decide)) ?_
  refine qq hS (g_eql rfl rfl) ?_
  refine qq hS (g_fieldAddr (o' := 0) Try.underlying31 rfl Try.sizeOf4 rfl rfl rfl) ?_
  refine qe (d_store 0 hS Try.sizeOf4 rfl rfl rfl (vs := [.bool _]) rfl rfl rfl (Nat.le_of_ble_eq_true rfl) (cs' := [_, _, _, _]) rfl) ?_
  clear hS
  rintro _ w_7 ⟨rfl, hS⟩
  refine ol_nil (thenN ?_)
  refine wp_seq ?_
  refine reg ?_
  refine qq hS (g_ldO 0 (vs := [.bool _, .int .i64 _, .int .i64 _, .slice _ _ _]) Try.sizeOf31 Try.isAgg31 rfl rfl rfl rfl) ?_
  refine qe (d_alloc (cs := [.bool _, .int .i64 _, .int .i64 _, .slice _ _ _]) hS Try.zeroValue31 rfl) ?_
  clear hS
  rintro _ w_8 ⟨b9, rfl, hS⟩
  refine qe (d_store 0 hS Try.sizeOf31 rfl rfl rfl (vs := [.bool _, .int .i64 _, .int .i64 _, .slice _ _ _]) rfl rfl rfl (Nat.le_of_ble_eq_true rfl) (cs' := [_, _, _, _]) rfl) ?_
  clear hS
  rintro _ w_9 ⟨rfl, hS⟩
  refine ol_nil (thenN ?_)
  refine wp_seq ?_
  refine reg ?_
  refine qq hS (g_fieldAddr (o' := 2) Try.underlying31 rfl Try.sizeOf3 rfl rfl rfl) ?_
  refine qq hS (g_ldO1 0 Try.isAgg3 rfl rfl rfl) ?_
  refine qq hS (g_indexArr (o' := 1) Try.underlying27 Try.sizeOf26 rfl rfl (by decide) (by decide) rfl) ?_
  refine qq hS (g_ldO1 2 Try.isAgg26 rfl rfl rfl) ?_
  refine qq hS (g_convi Try.underlying26 Try.underlying3 rfl (by omega) (by omega)) ?_
  refine qq hS (g_remz rfl rfl (by decide)) ?_
  refine qq hS (g_add rfl rfl (by omega) (by omega)) ?_
  refine qq hS (g_fieldAddr (o' := 2) Try.underlying31 rfl Try.sizeOf3 rfl rfl rfl) ?_
  refine qe (d_store 0 hS Try.sizeOf3 rfl rfl rfl (vs := [.int .i64 _]) rfl rfl rfl (Nat.le_of_ble_eq_true rfl) (cs' := [_, _, _, _]) rfl) ?_
  clear hS
  rintro _ w_10 ⟨rfl, hS⟩
  refine ol_nil (thenN ?_)
  refine wp_seq ?_
  refine reg ?_
  refine qq hS (g_move _) ?_
  refine qq hS (g_indexArr (o' := 0) Try.underlying27 Try.sizeOf26 rfl rfl (by decide) (by decide) rfl) ?_
  refine qq hS (g_ldO1 2 Try.isAgg26 rfl rfl rfl) ?_
  refine qq hS (g_conv Try.underlying26 Try.underlying5 rfl) ?_
  refine qq hS (g_convi Try.underlying5 Try.underlying3 rfl (by have := u8_bd a; omega) (by have := u8_bd a; omega)) ?_
  refine qe (d_call Try.call12 rfl (rawSyms_c bd cap2 l2 (IntKind.u8.wrap a) _ _ hS.imm h2 hq2 hz.1 (by omega))) ?_
  rintro _ w_11 ⟨I_f, a49, m49, c49, rfl, hE, h49, hm49⟩
  replace hS := hS.callE hE
  replace h4 := h4.mono hE.ext
  replace h2 := h2.mono hE.ext
  replace h29 := h29.mono hE.ext
  rw [hS2] at h49 hm49
  subst hm49
  refine qq hS (g_assign _) ?_
  refine ol_nil (thenN ?_)
  refine wp_seq ?_
  refine reg ?_
  refine qq hS (g_ldO 1 (vs := [.bool _, .int .i64 _, .int .i64 _, .slice _ _ _]) Try.sizeOf31 Try.isAgg31 rfl rfl rfl rfl) ?_
  refine qe (d_call Try.call13 rfl (form_e (⟨decide (a.tmod 2 = 0), p.in_, p.out, p.ops⟩ : PatL) a29 m29 c29 fp.1 fp.2 _ _ hS.imm h29 hPw (by rw [hfp]))) ?_
  rintro _ w_12 ⟨I_f, a52, m52, c52, rfl, hE, h52⟩
  replace hS := hS.callE hE
  replace h4 := h4.mono hE.ext
  replace h2 := h2.mono hE.ext
  replace h29 := h29.mono hE.ext
  replace h49 := h49.mono hE.ext
  refine qq hS (g_move _) ?_
  refine qq hS (g_extract rfl rfl) ?_
  refine qq hS (g_extract (v := .int .i64 _) rfl rfl) ?_
  refine qe (d_alloc (cs := [.bool _, .int .i64 _, .int .i64 _, .slice _ _ _]) hS Try.zeroValue31 rfl) ?_
  clear hS
  rintro _ w_13 ⟨b11, rfl, hS⟩
  refine qe (d_store 0 hS Try.sizeOf31 rfl rfl rfl (vs := [.bool _, .int .i64 _, .int .i64 _, .slice _ _ _]) rfl rfl rfl (Nat.le_of_ble_eq_true rfl) (cs' := [_, _, _, _]) rfl) ?_
  clear hS
  rintro _ w_14 ⟨rfl, hS⟩
  refine qq hS (g_assignv (v := .int .i64 _) rfl) ?_
  refine ol_nil (thenN ?_)
  refine wp_seq ?_
  refine reg ?_
  refine qq hS (g_ldO 2 (vs := [.bool _, .int .i64 _, .int .i64 _, .slice _ _ _]) Try.sizeOf31 Try.isAgg31 rfl rfl rfl rfl) ?_
  refine qe (d_call Try.call14 rfl (refForm_e (⟨decide (a.tmod 2 = 0), p.in_, p.out, p.ops⟩ : PatL) a29 m29 c29 fp.1 fp.2 _ _ hS.imm h29 hPw (by rw [hfp]))) ?_
  rintro _ w_15 ⟨I_f, a57, m57, c57, rfl, hE, h57⟩
  replace hS := hS.callE hE
  replace h4 := h4.mono hE.ext
  replace h2 := h2.mono hE.ext
  replace h29 := h29.mono hE.ext
  replace h49 := h49.mono hE.ext
  replace h52 := h52.mono hE.ext
  refine qq hS (g_move _) ?_
  refine qq hS (g_extract rfl rfl) ?_
  refine qq hS (g_extract (v := .int .i64 _) rfl rfl) ?_
  refine qe (d_alloc (cs := [.bool _, .int .i64 _, .int .i64 _, .slice _ _ _]) hS Try.zeroValue31 rfl) ?_
  clear hS
  rintro _ w_16 ⟨b13, rfl, hS⟩
  refine qe (d_store 0 hS Try.sizeOf31 rfl rfl rfl (vs := [.bool _, .int .i64 _, .int .i64 _, .slice _ _ _]) rfl rfl rfl (Nat.le_of_ble_eq_true rfl) (cs' := [_, _, _, _]) rfl) ?_
  clear hS
  rintro _ w_17 ⟨rfl, hS⟩
  refine qq hS (g_assignv (v := .int .i64 _) rfl) ?_
  refine ol_nil (thenN ?_)
  refine wp_seq ?_
  refine reg ?_
  refine qq hS (g_ldO 2 (vs := [.bool _, .int .i64 _, .int .i64 _, .slice _ _ _]) Try.sizeOf31 Try.isAgg31 rfl rfl rfl rfl) ?_
  refine qe (d_call Try.call13 rfl (form_e (⟨decide (a.tmod 2 = 0), p.in_, p.out + b.tmod 3, p.ops⟩ : PatL) a29 m29 c29 fq.1 fq.2 _ _ hS.imm h29 hQw (by rw [hfq]))) ?_
  rintro _ w_18 ⟨I_f, a62, m62, c62, rfl, hE, h62⟩
  replace hS := hS.callE hE
  replace h4 := h4.mono hE.ext
  replace h2 := h2.mono hE.ext
  replace h29 := h29.mono hE.ext
  replace h49 := h49.mono hE.ext
  replace h52 := h52.mono hE.ext
  replace h57 := h57.mono hE.ext
  refine qq hS (g_move _) ?_
  refine qq hS (g_extract rfl rfl) ?_
  refine qq hS (g_extract (v := .int .i64 _) rfl rfl) ?_
  refine qe (d_alloc (cs := [.bool _, .int .i64 _, .int .i64 _, .slice _ _ _]) hS Try.zeroValue31 rfl) ?_
  clear hS
  rintro _ w_19 ⟨b15, rfl, hS⟩
  refine qe (d_store 0 hS Try.sizeOf31 rfl rfl rfl (vs := [.bool _, .int .i64 _, .int .i64 _, .slice _ _ _]) rfl rfl rfl (Nat.le_of_ble_eq_true rfl) (cs' := [_, _, _, _]) rfl) ?_
  clear hS
  rintro _ w_20 ⟨rfl, hS⟩
  refine qq hS (g_assignv (v := .int .i64 _) rfl) ?_
  refine ol_nil (thenN ?_)
  refine wp_seq ?_
  refine reg ?_
  refine qq hS (g_ldO 3 (vs := [.bool _, .int .i64 _, .int .i64 _, .slice _ _ _]) Try.sizeOf31 Try.isAgg31 rfl rfl rfl rfl) ?_
  refine qe (d_call Try.call14 rfl (refForm_e (⟨decide (a.tmod 2 = 0), p.in_, p.out + b.tmod 3, p.ops⟩ : PatL) a29 m29 c29 fq.1 fq.2 _ _ hS.imm h29 hQw (by rw [hfq]))) ?_
  rintro _ w_21 ⟨I_f, a67, m67, c67, rfl, hE, h67⟩
  replace hS := hS.callE hE
  replace h4 := h4.mono hE.ext
  replace h2 := h2.mono hE.ext
  replace h29 := h29.mono hE.ext
  replace h49 := h49.mono hE.ext
  replace h52 := h52.mono hE.ext
  replace h57 := h57.mono hE.ext
  replace h62 := h62.mono hE.ext
  refine qq hS (g_move _) ?_
  refine qq hS (g_extract rfl rfl) ?_
  refine qq hS (g_extract (v := .int .i64 _) rfl rfl) ?_
  refine qe (d_alloc (cs := [.bool _, .int .i64 _, .int .i64 _, .slice _ _ _]) hS Try.zeroValue31 rfl) ?_
  clear hS
  rintro _ w_22 ⟨b17, rfl, hS⟩
  refine qe (d_store 0 hS Try.sizeOf31 rfl rfl rfl (vs := [.bool _, .int .i64 _, .int .i64 _, .slice _ _ _]) rfl rfl rfl (Nat.le_of_ble_eq_true rfl) (cs' := [_, _, _, _]) rfl) ?_
  clear hS
  rintro _ w_23 ⟨rfl, hS⟩
  refine qq hS (g_assignv (v := .int .i64 _) rfl) ?_
  refine ol_nil (thenN ?_)
  refine wp_seq ?_
  refine reg ?_
  refine qq hS (g_move _) ?_
  refine qq hS (g_indexArr (o' := 1) Try.underlying27 Try.sizeOf26 rfl rfl (by decide) (by decide) rfl) ?_
  refine qq hS (g_ldO1 6 Try.isAgg26 rfl rfl rfl) ?_
  refine qq hS (g_convi Try.underlying26 Try.underlying3 rfl (by omega) (by omega)) ?_
  refine qe (d_call Try.call15 rfl (cheapest_e a49 _ c49 S2 b cr.1 cr.2 _ _ hS.imm h49 rfl hsw (by rw [hcr]))) ?_
  rintro _ w_24 ⟨I_f, a75, m75, c75, rfl, hE, h75⟩
  replace hS := hS.callE hE
  replace h4 := h4.mono hE.ext
  replace h2 := h2.mono hE.ext
  replace h29 := h29.mono hE.ext
  replace h49 := h49.mono hE.ext
  replace h52 := h52.mono hE.ext
  replace h57 := h57.mono hE.ext
  replace h62 := h62.mono hE.ext
  replace h67 := h67.mono hE.ext
  refine qq hS (g_move _) ?_
  refine qq hS (g_extract rfl rfl) ?_
  refine qq hS (g_extract (v := .int .i64 _) rfl rfl) ?_
  refine qe (d_alloc (cs := [.bool _, .int .i64 _, .int .i64 _, .slice _ _ _]) hS Try.zeroValue31 rfl) ?_
  clear hS
  rintro _ w_25 ⟨b19, rfl, hS⟩
  refine qe (d_store 0 hS Try.sizeOf31 rfl rfl rfl (vs := [.bool _, .int .i64 _, .int .i64 _, .slice _ _ _]) rfl rfl rfl (Nat.le_of_ble_eq_true rfl) (cs' := [_, _, _, _]) rfl) ?_
  clear hS
  rintro _ w_26 ⟨rfl, hS⟩
  refine qq hS (g_assignv (v := .int .i64 _) rfl) ?_
  refine ol_nil (thenN ?_)
  refine wp_seq ?_
  refine reg ?_
  refine qq hS (g_move _) ?_
  refine qq hS (g_indexArr (o' := 1) Try.underlying27 Try.sizeOf26 rfl rfl (by decide) (by decide) rfl) ?_
  refine qq hS (g_ldO1 7 Try.isAgg26 rfl rfl rfl) ?_
  refine qq hS (g_convi Try.underlying26 Try.underlying3 rfl (by omega) (by omega)) ?_
  refine qe (d_call Try.call16 rfl (refCheapest_e a49 _ c49 S2 b cr.1 cr.2 _ _ hS.imm h49 rfl hsw ⟨by omega, by omega⟩ (by rw [hcr]))) ?_
  rintro _ w_27 ⟨I_f, a83, m83, c83, rfl, hE, h83⟩
  replace hS := hS.callE hE
  replace h4 := h4.mono hE.ext
  replace h2 := h2.mono hE.ext
  replace h29 := h29.mono hE.ext
  replace h49 := h49.mono hE.ext
  replace h52 := h52.mono hE.ext
  replace h57 := h57.mono hE.ext
  replace h62 := h62.mono hE.ext
  replace h67 := h67.mono hE.ext
  replace h75 := h75.mono hE.ext
  refine qq hS (g_move _) ?_
  refine qq hS (g_extract rfl rfl) ?_
  refine qq hS (g_extract (v := .int .i64 _) rfl rfl) ?_
  refine qe (d_alloc (cs := [.bool _, .int .i64 _, .int .i64 _, .slice _ _ _]) hS Try.zeroValue31 rfl) ?_
  clear hS
  rintro _ w_28 ⟨b21, rfl, hS⟩
  refine qe (d_store 0 hS Try.sizeOf31 rfl rfl rfl (vs := [.bool _, .int .i64 _, .int .i64 _, .slice _ _ _]) rfl rfl rfl (Nat.le_of_ble_eq_true rfl) (cs' := [_, _, _, _]) rfl) ?_
  clear hS
  rintro _ w_29 ⟨rfl, hS⟩
  refine qq hS (g_assignv (v := .int .i64 _) rfl) ?_
  refine ol_nil (thenN ?_)
  refine wp_seq ?_
  refine reg ?_
  refine qq hS (g_move _) ?_
  refine qq hS (g_indexArr (o' := 0) Try.underlying27 Try.sizeOf26 rfl rfl (by decide) (by decide) rfl) ?_
  refine qq hS (g_ldO1 8 Try.isAgg26 rfl rfl rfl) ?_
  refine qq hS (g_conv Try.underlying26 Try.underlying5 rfl) ?_
  refine qq hS (g_convi Try.underlying5 Try.underlying3 rfl (by have := u8_bd a; omega) (by have := u8_bd a; omega)) ?_
  refine qe (d_call Try.call15 rfl (cheapest_e a49 _ c49 S2 (IntKind.u8.wrap a) ct.1 ct.2 _ _ hS.imm h49 rfl hsw (by rw [hct]))) ?_
  rintro _ w_30 ⟨I_f, a92, m92, c92, rfl, hE, h92⟩
  replace hS := hS.callE hE
  replace h4 := h4.mono hE.ext
  replace h2 := h2.mono hE.ext
  replace h29 := h29.mono hE.ext
  replace h49 := h49.mono hE.ext
  replace h52 := h52.mono hE.ext
  replace h57 := h57.mono hE.ext
  replace h62 := h62.mono hE.ext
  replace h67 := h67.mono hE.ext
  replace h75 := h75.mono hE.ext
  replace h83 := h83.mono hE.ext
  refine qq hS (g_move _) ?_
  refine qq hS (g_extract rfl rfl) ?_
  refine qq hS (g_extract (v := .int .i64 _) rfl rfl) ?_
  refine qe (d_alloc (cs := [.bool _, .int .i64 _, .int .i64 _, .slice _ _ _]) hS Try.zeroValue31 rfl) ?_
  clear hS
  rintro _ w_31 ⟨b23, rfl, hS⟩
  refine qe (d_store 0 hS Try.sizeOf31 rfl rfl rfl (vs := [.bool _, .int .i64 _, .int .i64 _, .slice _ _ _]) rfl rfl rfl (Nat.le_of_ble_eq_true rfl) (cs' := [_, _, _, _]) rfl) ?_
  clear hS
  rintro _ w_32 ⟨rfl, hS⟩
  refine qq hS (g_assignv (v := .int .i64 _) rfl) ?_
  refine ol_nil (thenN ?_)
  refine wp_seq ?_
  refine reg ?_
  refine qq hS (g_move _) ?_
  refine qq hS (g_indexArr (o' := 0) Try.underlying27 Try.sizeOf26 rfl rfl (by decide) (by decide) rfl) ?_
  refine qq hS (g_ldO1 9 Try.isAgg26 rfl rfl rfl) ?_
  refine qq hS (g_conv Try.underlying26 Try.underlying5 rfl) ?_
  refine qq hS (g_convi Try.underlying5 Try.underlying3 rfl (by have := u8_bd a; omega) (by have := u8_bd a; omega)) ?_
  refine qe (d_call Try.call16 rfl (refCheapest_e a49 _ c49 S2 (IntKind.u8.wrap a) ct.1 ct.2 _ _ hS.imm h49 rfl hsw ⟨by omega, by omega⟩ (by rw [hct]))) ?_
  rintro _ w_33 ⟨I_f, a101, m101, c101, rfl, hE, h101⟩
  replace hS := hS.callE hE
  replace h4 := h4.mono hE.ext
  replace h2 := h2.mono hE.ext
  replace h29 := h29.mono hE.ext
  replace h49 := h49.mono hE.ext
  replace h52 := h52.mono hE.ext
  replace h57 := h57.mono hE.ext
  replace h62 := h62.mono hE.ext
  replace h67 := h67.mono hE.ext
  replace h75 := h75.mono hE.ext
  replace h83 := h83.mono hE.ext
  replace h92 := h92.mono hE.ext
  refine qq hS (g_move _) ?_
  refine qq hS (g_extract rfl rfl) ?_
  refine qq hS (g_extract (v := .int .i64 _) rfl rfl) ?_
  refine qe (d_alloc (cs := [.bool _, .int .i64 _, .int .i64 _, .slice _ _ _]) hS Try.zeroValue31 rfl) ?_
  clear hS
  rintro _ w_34 ⟨b25, rfl, hS⟩
  refine qe (d_store 0 hS Try.sizeOf31 rfl rfl rfl (vs := [.bool _, .int .i64 _, .int .i64 _, .slice _ _ _]) rfl rfl rfl (Nat.le_of_ble_eq_true rfl) (cs' := [_, _, _, _]) rfl) ?_
  clear hS
  rintro _ w_35 ⟨rfl, hS⟩
  refine qq hS (g_assignv (v := .int .i64 _) rfl) ?_
  refine ol_nil (thenN ?_)
  refine wp_seq ?_
  refine draw (.cons 0 .held (.cons 1 .held (.cons 2 .eff (.cons 3 .pure (.cons 4 .pure (.cons 5 .pure (.cons 6 .pure (.cons 7 .pure (.cons 8 .pure (.cons 9 .held (.cons 10 .held (.cons 11 .eff (.cons 12 .pure (.cons 13 .pure (.cons 14 .pure (.cons 15 .pure (.cons 16 .pure (.cons 17 .pure (.cons 18 .pure (.cons 19 .held (.cons 20 .held (.cons 21 .eff (.cons 22 .pure (.cons 23 .pure (.cons 24 .pure (.cons 25 .pure (.cons 26 .pure (.cons 27 .pure (.cons 28 .pure (.cons 29 .held (.cons 30 .held (.cons 31 .eff (.cons 32 .pure (.cons 33 .pure (.cons 34 .pure (.cons 35 .pure (.cons 36 .pure (.cons 37 .pure (.cons 38 .pure (.cons 39 .held (.cons 40 .held (.cons 42 .held (.cons 43 .held (.cons 41 .eff (.cons 44 .eff (.cons 45 .pure (.cons 46 .pure (.cons 47 .pure (.cons 48 .held (.cons 49 .held (.cons 51 .held (.cons 52 .held (.cons 50 .eff (.cons 53 .eff (.cons 54 .pure (.cons 55 .pure (.cons 56 .pure (.cons 57 .pure (.cons 58 .pure (.cons 59 .pure .nil)))))))))))))))))))))))))))))))))))))))))))))))))))))))))))) mixed (by kernel_rfl) hS ?_
  intro w_36 hS
  refine sh rfl (g_ldO 7 (vs := [.bool _, .int .i64 _, .int .i64 _, .slice _ _ _]) Try.sizeOf31 Try.isAgg31 rfl rfl rfl rfl) ?_
  refine sh rfl (g_ldO 6 (vs := [.bool _, .int .i64 _, .int .i64 _, .slice _ _ _]) Try.sizeOf31 Try.isAgg31 rfl rfl rfl rfl) ?_
  have hS0 := hS
  refine se rfl (d_call Try.call17 rfl (sameR_e fp.1 fp.1 a52 a57 m52 c52 m57 c57 true _ _ hS.imm h52 hfpw h57 hfpw (samePR_refl _))) ?_
  rintro _ w_37 ⟨rfl, hE⟩
  replace hS := hS.call hE
  refine ⟨_, _, hS0.le hE.ext (List.Sublist.refl _), hS, ?_⟩
  refine sp rfl (g_movev (v := .bool _) rfl) ?_
  refine spt rfl rfl rfl (g_movev (v := .int .i64 _) rfl) ?_
  refine spt rfl rfl rfl (g_movev (v := .int .i64 _) rfl) ?_
  refine spt rfl rfl rfl (g_eqlE (c := true) rfl rfl (decide_eq_true rfl)) ?_
  refine sp rfl (g_and rfl rfl (fun _ => rfl)) ?_
  refine sp rfl (g_movev (v := .bool _) rfl) ?_
  refine sht rfl rfl rfl (g_ldO 5 (vs := [.bool _, .int .i64 _, .int .i64 _, .slice _ _ _]) Try.sizeOf31 Try.isAgg31 rfl rfl rfl rfl) ?_
  refine sht rfl rfl rfl (g_ldO 4 (vs := [.bool _, .int .i64 _, .int .i64 _, .slice _ _ _]) Try.sizeOf31 Try.isAgg31 rfl rfl rfl rfl) ?_
  have hS0 := hS
  refine Inl.set rfl rfl rfl (d_call Try.call17 rfl (sameR_e fq.1 fq.1 a62 a67 m62 c62 m67 c67 true _ _ hS.imm h62 hfqw h67 hfqw (samePR_refl _))) ?_
  rintro _ w_38 ⟨rfl, hE⟩
  replace hS := hS.call hE
  refine ⟨_, _, hS0.le hE.ext (List.Sublist.refl _), hS, ?_⟩
  refine sp rfl (g_and rfl rfl (fun _ => rfl)) ?_
  refine sp rfl (g_movev (v := .bool _) rfl) ?_
  refine spt rfl rfl rfl (g_movev (v := .int .i64 _) rfl) ?_
  refine spt rfl rfl rfl (g_movev (v := .int .i64 _) rfl) ?_
  refine spt rfl rfl rfl (g_eqlE (c := true) rfl rfl (decide_eq_true rfl)) ?_
  refine sp rfl (g_and rfl rfl (fun _ => rfl)) ?_
  refine sp rfl (g_movev (v := .bool _) rfl) ?_
  refine sht rfl rfl rfl (g_ldO 3 (vs := [.bool _, .int .i64 _, .int .i64 _, .slice _ _ _]) Try.sizeOf31 Try.isAgg31 rfl rfl rfl rfl) ?_
  refine sht rfl rfl rfl (g_ldO 2 (vs := [.bool _, .int .i64 _, .int .i64 _, .slice _ _ _]) Try.sizeOf31 Try.isAgg31 rfl rfl rfl rfl) ?_
  have hS0 := hS
  refine Inl.set rfl rfl rfl (d_call Try.call17 rfl (sameR_e cr.1 cr.1 a75 a83 m75 c75 m83 c83 true _ _ hS.imm h75 hcrw h83 hcrw (samePR_refl _))) ?_
  rintro _ w_39 ⟨rfl, hE⟩
  replace hS := hS.call hE
  refine ⟨_, _, hS0.le hE.ext (List.Sublist.refl _), hS, ?_⟩
  refine sp rfl (g_and rfl rfl (fun _ => rfl)) ?_
  refine sp rfl (g_movev (v := .bool _) rfl) ?_
  refine spt rfl rfl rfl (g_movev (v := .int .i64 _) rfl) ?_
  refine spt rfl rfl rfl (g_movev (v := .int .i64 _) rfl) ?_
  refine spt rfl rfl rfl (g_eqlE (c := true) rfl rfl (decide_eq_true rfl)) ?_
  refine sp rfl (g_and rfl rfl (fun _ => rfl)) ?_
  refine sp rfl (g_movev (v := .bool _) rfl) ?_
  refine sht rfl rfl rfl (g_ldO 1 (vs := [.bool _, .int .i64 _, .int .i64 _, .slice _ _ _]) Try.sizeOf31 Try.isAgg31 rfl rfl rfl rfl) ?_
  refine sht rfl rfl rfl (g_ldO 0 (vs := [.bool _, .int .i64 _, .int .i64 _, .slice _ _ _]) Try.sizeOf31 Try.isAgg31 rfl rfl rfl rfl) ?_
  have hS0 := hS
  refine Inl.set rfl rfl rfl (d_call Try.call17 rfl (sameR_e ct.1 ct.1 a92 a101 m92 c92 m101 c101 true _ _ hS.imm h92 hctw h101 hctw (samePR_refl _))) ?_
  rintro _ w_40 ⟨rfl, hE⟩
  replace hS := hS.call hE
  refine ⟨_, _, hS0.le hE.ext (List.Sublist.refl _), hS, ?_⟩
  refine sp rfl (g_and rfl rfl (fun _ => rfl)) ?_
  refine sp rfl (g_movev (v := .bool _) rfl) ?_
  refine spt rfl rfl rfl (g_movev (v := .int .i64 _) rfl) ?_
  refine spt rfl rfl rfl (g_movev (v := .int .i64 _) rfl) ?_
  refine spt rfl rfl rfl (g_eqlE (c := true) rfl rfl (decide_eq_true rfl)) ?_
  refine sp rfl (g_and rfl rfl (fun _ => rfl)) ?_
  refine sp rfl (g_movev (v := .bool _) rfl) ?_
  refine sht rfl rfl rfl (g_ldO 9 (vs := [.bool _, .int .i64 _, .int .i64 _, .slice _ _ _]) Try.sizeOf31 Try.isAgg31 rfl rfl rfl rfl) ?_
  refine sht rfl rfl rfl (g_ldO 8 (vs := [.bool _, .int .i64 _, .int .i64 _, .slice _ _ _]) Try.sizeOf31 Try.isAgg31 rfl rfl rfl rfl) ?_
  refine sht rfl rfl rfl (g_ldO 9 (vs := [.bool _, .int .i64 _, .int .i64 _, .slice _ _ _]) Try.sizeOf31 Try.isAgg31 rfl rfl rfl rfl) ?_
  refine sht rfl rfl rfl (g_ldO 8 (vs := [.bool _, .int .i64 _, .int .i64 _, .slice _ _ _]) Try.sizeOf31 Try.isAgg31 rfl rfl rfl rfl) ?_
  have hS0 := hS
  refine Inl.set rfl rfl rfl (d_call Try.call18 rfl (same_c (⟨decide (a.tmod 2 = 0), p.in_, p.out, p.ops⟩ : PatL) (⟨decide (a.tmod 2 = 0), p.in_, p.out + b.tmod 3, p.ops⟩ : PatL) a29 a29 m29 c29 m29 c29 _ _ hS.imm h29 hPw h29 hQw)) ?_
  rintro _ w_41 ⟨I_f, rfl, hE⟩
  replace hS := hS.call hE
  replace h4 := h4.mono hE.ext
  replace h2 := h2.mono hE.ext
  replace h29 := h29.mono hE.ext
  replace h49 := h49.mono hE.ext
  replace h52 := h52.mono hE.ext
  replace h57 := h57.mono hE.ext
  replace h62 := h62.mono hE.ext
  replace h67 := h67.mono hE.ext
  replace h75 := h75.mono hE.ext
  replace h83 := h83.mono hE.ext
  replace h92 := h92.mono hE.ext
  replace h101 := h101.mono hE.ext
  refine ⟨_, _, hS0.le hE.ext (List.Sublist.refl _), hS, ?_⟩
  have hS0 := hS
  refine Inl.set rfl rfl rfl (d_call Try.call19 rfl (refSame_c (⟨decide (a.tmod 2 = 0), p.in_, p.out, p.ops⟩ : PatL) (⟨decide (a.tmod 2 = 0), p.in_, p.out + b.tmod 3, p.ops⟩ : PatL) a29 a29 m29 c29 m29 c29 _ _ hS.imm h29 hPw h29 hQw)) ?_
  rintro _ w_42 ⟨I_f, rfl, hE⟩
  replace hS := hS.call hE
  replace h4 := h4.mono hE.ext
  replace h2 := h2.mono hE.ext
  replace h29 := h29.mono hE.ext
  replace h49 := h49.mono hE.ext
  replace h52 := h52.mono hE.ext
  replace h57 := h57.mono hE.ext
  replace h62 := h62.mono hE.ext
  replace h67 := h67.mono hE.ext
  replace h75 := h75.mono hE.ext
  replace h83 := h83.mono hE.ext
  replace h92 := h92.mono hE.ext
  replace h101 := h101.mono hE.ext
  refine ⟨_, _, hS0.le hE.ext (List.Sublist.refl _), hS, ?_⟩
  refine spt rfl rfl rfl (g_eqlbE (c := true) Try.underlying4 rfl rfl (beq_self_eq_true _)) ?_
  refine sp rfl (g_and rfl rfl (fun _ => rfl)) ?_
  refine sp rfl (g_movev (v := .bool _) rfl) ?_
  refine sht rfl rfl rfl (g_ldO 9 (vs := [.bool _, .int .i64 _, .int .i64 _, .slice _ _ _]) Try.sizeOf31 Try.isAgg31 rfl rfl rfl rfl) ?_
  refine sht rfl rfl rfl (g_ldO 7 (vs := [.bool _, .int .i64 _, .int .i64 _, .slice _ _ _]) Try.sizeOf31 Try.isAgg31 rfl rfl rfl rfl) ?_
  refine sht rfl rfl rfl (g_ldO 9 (vs := [.bool _, .int .i64 _, .int .i64 _, .slice _ _ _]) Try.sizeOf31 Try.isAgg31 rfl rfl rfl rfl) ?_
  refine sht rfl rfl rfl (g_ldO 7 (vs := [.bool _, .int .i64 _, .int .i64 _, .slice _ _ _]) Try.sizeOf31 Try.isAgg31 rfl rfl rfl rfl) ?_
  have hS0 := hS
  refine Inl.set rfl rfl rfl (d_call Try.call18 rfl (same_c (⟨decide (a.tmod 2 = 0), p.in_, p.out, p.ops⟩ : PatL) fp.1 a29 a52 m29 c29 m52 c52 _ _ hS.imm h29 hPw h52 hfpw)) ?_
  rintro _ w_43 ⟨I_f, rfl, hE⟩
  replace hS := hS.call hE
  replace h4 := h4.mono hE.ext
  replace h2 := h2.mono hE.ext
  replace h29 := h29.mono hE.ext
  replace h49 := h49.mono hE.ext
  replace h52 := h52.mono hE.ext
  replace h57 := h57.mono hE.ext
  replace h62 := h62.mono hE.ext
  replace h67 := h67.mono hE.ext
  replace h75 := h75.mono hE.ext
  replace h83 := h83.mono hE.ext
  replace h92 := h92.mono hE.ext
  replace h101 := h101.mono hE.ext
  refine ⟨_, _, hS0.le hE.ext (List.Sublist.refl _), hS, ?_⟩
  have hS0 := hS
  refine Inl.set rfl rfl rfl (d_call Try.call19 rfl (refSame_c (⟨decide (a.tmod 2 = 0), p.in_, p.out, p.ops⟩ : PatL) fp.1 a29 a52 m29 c29 m52 c52 _ _ hS.imm h29 hPw h52 hfpw)) ?_
  rintro _ w_44 ⟨I_f, rfl, hE⟩
  replace hS := hS.call hE
  replace h4 := h4.mono hE.ext
  replace h2 := h2.mono hE.ext
  replace h29 := h29.mono hE.ext
  replace h49 := h49.mono hE.ext
  replace h52 := h52.mono hE.ext
  replace h57 := h57.mono hE.ext
  replace h62 := h62.mono hE.ext
  replace h67 := h67.mono hE.ext
  replace h75 := h75.mono hE.ext
  replace h83 := h83.mono hE.ext
  replace h92 := h92.mono hE.ext
  replace h101 := h101.mono hE.ext
  refine ⟨_, _, hS0.le hE.ext (List.Sublist.refl _), hS, ?_⟩
  refine spt rfl rfl rfl (g_eqlbE (c := true) Try.underlying4 rfl rfl (beq_self_eq_true _)) ?_
  refine sp rfl (g_and rfl rfl (fun _ => rfl)) ?_
  refine sp rfl (g_movev (v := .bool _) rfl) ?_
  refine spt rfl rfl rfl (g_movev (v := .bool _) rfl) ?_
  refine sp rfl (g_and rfl rfl (fun _ => rfl)) ?_
  refine sp rfl (g_assignv (v := .bool _) rfl) ?_
  refine sn (thenN ?_)
  refine wp_ret ?_
  refine ret1 Try.results3 (rv_tmp (v := .bool _) rfl) ?_
  exact ⟨_, rfl, hS.nil⟩

end Go.Proofs.Ytaoodcchleaoeaa
