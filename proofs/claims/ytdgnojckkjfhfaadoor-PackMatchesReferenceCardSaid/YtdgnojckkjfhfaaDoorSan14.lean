/- inlaylaw14.sanity: it is true; what Unpack does with packed patches, and with what is none. Conditions: none. -/
import Derived.Test.YtdgnojckkjfhfaaDoorUnp14
import Derived.Test.YtdgnojckkjfhfaaDoorKCore3
import Derived.Test.YtdgnojckkjfhfaaDoorKCut
namespace Go.Proofs.YtdgnojckkjfhfaaDoor
open Go Go.RowKit Go.Inl
set_option linter.unusedSimpArgs false
set_option linter.unusedVariables false
def WANT : List Int := [80, 0, 0, 0, 0, 0, 0, 0, 0, 0, 0, 0, 0, 0, 0, 0, 0, 0, 0, 0, 0, 0, 6, 246, 0, 81]
theorem packP_zero : packP PatL.zero = WANT := by kernel_rfl
/-- Unpack gives a patch. -/
structure UnpY (b : List Int) (p : PatL) : Prop where
  c : ∀ (ad : Option Addr) (cap : Nat) (w0 : World) (I0 : Imm), Sat I0 w0 → RBytes I0 (.slice ad b.length cap) b → Ctr Tryd.prog 15 [.slice ad b.length cap] w0 (fun v w' => ∃ I' a m c, v = .tuple #[.agg #[.bool p.lifted, .int .i64 p.in_, .int .i64 p.out, .slice a m c], .int .i64 0] ∧ Ext w0 I0 w' I' ∧ ROps I' (.slice a m c) p.ops)
/-- Unpack refuses. -/
structure UnpN (b : List Int) : Prop where
  c : ∀ (ad : Option Addr) (cap : Nat) (w0 : World) (I0 : Imm), Sat I0 w0 → RBytes I0 (.slice ad b.length cap) b → Ctr Tryd.prog 15 [.slice ad b.length cap] w0 (fun v w' => ∃ I', v = .tuple #[.agg #[.bool false, .int .i64 0, .int .i64 0, .slice none 0 0], .int .i64 140] ∧ Ext w0 I0 w' I')
theorem unpN_of {b : List Int} {G : PatL → Bool → Prop} (hbb : Byt b) (hrd : 26 ≤ b.length → Inl.sumP (b.take (b.length - 4)) = b.drop (b.length - 4) → RdC b G) (h : ∀ q, G q true → (checkP q).2 = 0 → packP q = b → 26 ≤ b.length → Inl.sumP (b.take (b.length - 4)) = b.drop (b.length - 4) → False) : UnpN b :=
  ⟨fun ad cap w0 I0 hI hb => by
    by_cases h1 : b.length < 26
    · refine (unpack_c b (fun _ _ => False) hbb (fun h => by omega) ad cap w0 I0 hI hb).mono ?_
      rintro v w' (⟨q, a, m, c, I', hG, _⟩ | ⟨I', h2, h3, _⟩)
      · exact hG.elim
      · exact ⟨I', h2, h3⟩
    · by_cases h2 : Inl.sumP (b.take (b.length - 4)) = b.drop (b.length - 4)
      · refine (unpack_c b G hbb hrd ad cap w0 I0 hI hb).mono ?_
        rintro v w' (⟨q, a, m, c, I', hG, _, hk, he, _⟩ | ⟨I', h3, h4, _⟩)
        · exact (h q hG hk he (by omega) h2).elim
        · exact ⟨I', h3, h4⟩
      · refine (unpack_c b (fun _ _ => False) hbb (fun _ h => absurd h h2) ad cap w0 I0 hI hb).mono ?_
        rintro v w' (⟨q, a, m, c, I', hG, _⟩ | ⟨I', h3, h4, _⟩)
        · exact hG.elim
        · exact ⟨I', h3, h4⟩⟩
theorem unp_short {b : List Int} (hb : Byt b) (h : b.length < 26) : UnpN b := unpN_of (G := fun _ _ => False) hb (fun h2 => by omega) fun q h _ _ _ _ => h
theorem unp_sum {b : List Int} (hb : Byt b) (h : Inl.sumP (b.take (b.length - 4)) ≠ b.drop (b.length - 4)) : UnpN b := unpN_of (G := fun _ _ => False) hb (fun _ h2 => absurd h2 h) fun q h _ _ _ _ => h
theorem opsS_of {p : PatL} (hk : (checkP p).2 = 0) : ∀ x ∈ p.ops, OpS x := fun x hx => opS_of ((checkP_ok hk).1 x hx).2
theorem sumP_len (l : List Int) : (Inl.sumP l).length = 4 := by unfold Inl.sumP; rw [numsB_len]; rfl
theorem packP_len {p : PatL} (h : PatG p) : (packP p).length = 26 + (code1 (lsP p.ops)).length + (code2 (dtP p.ops)).length := by
  unfold packP; rw [List.length_append, sumP_len, bodyP_len h]; omega
theorem packP_head (p : PatL) : packP p = headP p ++ (code1 (lsP p.ops) ++ (code2 (dtP p.ops) ++ Inl.sumP (bodyP p))) := by
  unfold packP bodyP; simp only [List.append_assoc]
theorem packP_take {p : PatL} (h : PatG p) : (packP p).take ((packP p).length - 4) = bodyP p := by
  have h1 : (packP p).length - 4 = (bodyP p).length := by rw [packP_len h, bodyP_len h]; omega
  rw [h1]; unfold packP; rw [List.take_append_of_le_length (Nat.le_refl _), List.take_length]
theorem packP_drop {p : PatL} (h : PatG p) : (packP p).drop ((packP p).length - 4) = Inl.sumP (bodyP p) := by
  have h1 : (packP p).length - 4 = (bodyP p).length := by rw [packP_len h, bodyP_len h]; omega
  rw [h1]; unfold packP; rw [List.drop_append_of_le_length (Nat.le_refl _), List.drop_length, List.nil_append]
theorem rest_byt {p : PatL} (h : PatG p) : Byt (code1 (lsP p.ops) ++ (code2 (dtP p.ops) ++ Inl.sumP (bodyP p))) := byt_app (code1_ok (lsP_byt _)).1 (byt_app (code2_ok (dtP_byt h.ops)).1 (sumP_byt _))
theorem unp_right {p : PatL} (hp : p.wf) (hk : (checkP p).2 = 0) : UnpY (packP p) p :=
  ⟨fun ad cap w0 I0 hI hb => by
    have hG := patG_of hp hk
    refine (unpack_c (packP p) (fun q ok => ok = true ∧ q = p) (packP_byt hG) (fun _ _ => ⟨fun ad cap w0 I0 hI hb => ?_⟩) ad cap w0 I0 hI hb).mono ?_
    · refine (read_c p hp hG (opsS_of hk) ad cap _ (packP p) (rest_byt hG) (packP_head p) (fun _ => ⟨_, rfl⟩) w0 I0 hI hb).mono ?_
      rintro v w' ⟨I', q, ok, a, m, c, h1, h2, h3, h4, h5, h6⟩
      have hok := h5.2 (packP_len hG)
      exact ⟨I', q, ok, a, m, c, h1, h2, ⟨hok, h6 hok⟩, fun _ => ⟨h3, h4⟩⟩
    · rintro v w' (⟨q, a, m, c, I', ⟨_, rfl⟩, _, _, _, h1, h2, h3⟩ | ⟨I', h1, h2, h3⟩)
      · exact ⟨I', a, m, c, h1, h2, h3⟩
      · rcases h3 with h3 | h3 | ⟨q, ok, ⟨rfl, rfl⟩, h3⟩
        · rw [packP_len hG] at h3; omega
        · exact absurd (by rw [packP_take hG, packP_drop hG]) h3
        · exact absurd ⟨rfl, hk, rfl⟩ h3⟩
theorem unp_nil : UnpN [] := unp_short (fun x hx => by cases hx) (by decide)
theorem wantB : Byt WANT := by
  intro x hx
  simp only [WANT, List.mem_cons, List.not_mem_nil, or_false] at hx
  omega
theorem want_other : Inl.sumP ((81 :: WANT.drop 1).take 22) ≠ (81 :: WANT.drop 1).drop 22 := by decide
theorem unp_other : UnpN (81 :: WANT.drop 1) := unp_sum (fun x hx => by
  rcases List.mem_cons.1 hx with rfl | hx
  · omega
  · exact wantB x (List.mem_of_mem_drop hx)) want_other
theorem unp_25 : UnpN (WANT.take 25) := unp_short (fun x hx => wantB x (List.mem_of_mem_take hx)) (by decide)
theorem unp_want : UnpY WANT PatL.zero := by have := unp_right zero_wf (show (checkP PatL.zero).2 = 0 from rfl); rwa [packP_zero] at this
theorem pack_zero_c (w0 : World) (I0 : Imm) (hI : Sat I0 w0) : Ctr Tryd.prog 11 [.agg #[.bool false, .int .i64 0, .int .i64 0, .slice none 0 0]] w0 (fun v w' => ∃ I' a c, v = .tuple #[.slice a 26 c, .int .i64 0] ∧ Ext w0 I0 w' I' ∧ RBytes I' (.slice a 26 c) WANT) := by
  have h := pack_ok_c PatL.zero none 0 0 w0 I0 hI RSl.nilR zero_wf rfl
  rw [packP_zero] at h
  exact h
theorem out1_wf : (⟨false, 0, 1, []⟩ : PatL).wf := ⟨⟨by decide, by decide⟩, ⟨by decide, by decide⟩, (fun x hx => by cases hx), by decide⟩
attribute [local irreducible] packP bodyP headP code1 code2 Inl.sumP numsB
theorem same14_c (va vb : Value) (a b : List Int) (w0 : World) (I0 : Imm) (hI : Sat I0 w0) (ha : RBytes I0 va a) (hb : RBytes I0 vb b) :
    Ctr Tryd.prog 13 [va, vb] w0 (fun v w' => v = .bool (decide (a = b)) ∧ Ext w0 I0 w' I0) := by
  have hla := RSl.le ha
  have hlb := RSl.le hb
  simp only [maxLen] at hla hlb
  refine fn (n := 26) Tryd.func13 rfl rfl rfl ?_
  have hS := St.start hI
  refine wpIn_seq ?_
  refine reg ?_
  refine qq hS (g_assignv (v := .bool _) rfl) ?_
  refine ol_nil (thenN ?_)
  refine wpIn_seq ?_
  refine wpIn_seq ?_
  refine reg ?_
  refine qq hS (g_move _) ?_
  refine qq hS (g_lenI rfl Tryd.underlying25 ha rfl) ?_
  refine qq hS (g_move _) ?_
  refine qq hS (g_lenI rfl Tryd.underlying25 hb rfl) ?_
  refine qq hS (g_neq rfl rfl) ?_
  refine ol_nil (thenN ?_)
  refine cond_s rfl ?_ ?_
  ·
    intro hc10
    try simp only [Bool.and_eq_true, Bool.or_eq_true, Bool.not_eq_true', Bool.and_eq_false_imp, Bool.or_eq_false_iff, Bool.not_eq_false', decide_eq_true_eq, decide_eq_false_iff_not] at hc10
    have e : decide (a = b) = false := decide_eq_false (fun h => by rw [h] at hc10; exact hc10 rfl)
    refine wpIn_seq ?_
    refine reg ?_
    refine qq hS (g_assignv (v := .bool _) rfl) ?_
    refine ol_nil (thenN ?_)
    refine wpIn_ret ?_
    refine thenR ?_
    refine ret1 Tryd.results13 (rv_tmp (v := .bool _) rfl) ?_
    rw [e]; exact ⟨rfl, hS.nil⟩
  ·
    intro hc10
    try simp only [Bool.and_eq_true, Bool.or_eq_true, Bool.not_eq_true', Bool.and_eq_false_imp, Bool.or_eq_false_iff, Bool.not_eq_false', decide_eq_true_eq, decide_eq_false_iff_not] at hc10
    have hlen : a.length = b.length := by omega
    refine wpIn_skip ?_
    refine thenN ?_
    refine wpIn_seq ?_
    refine wpIn_seq ?_
    refine reg ?_
    refine qq hS (g_assignv (v := .int .i64 _) rfl) ?_
    refine ol_nil (thenN ?_)
    refine wpIn_block ?_
    refine loop (fun (k : Nat) σ w => okS σ [(0, va), (1, vb), (5, .int .i64 k)] ∧ St [] w0 I0 I0 w [] ∧ k ≤ a.length ∧ a.take k = b.take k) (fun k => a.length - k) (0) ?_ ?_
    ·
      exact ⟨⟨rfl, rfl, rfl, trivial⟩, hS.sel [], by omega, by simp⟩
    ·
      rintro k σ w_l ⟨hs, hS, hk0, heq⟩
      rw [← upds_self hs]; clear hs
      refine wpIn_seq ?_
      refine wpIn_seq ?_
      refine reg ?_
      refine qq hS (g_movev (v := .int .i64 _) rfl) ?_
      refine qq hS (g_move _) ?_
      refine qq hS (g_lenI rfl Tryd.underlying25 ha rfl) ?_
      refine qq hS (g_lss rfl rfl) ?_
      refine ol_nil (thenN ?_)
      refine cond_s rfl ?_ ?_
      ·
        intro hc14
        try simp only [Bool.and_eq_true, Bool.or_eq_true, Bool.not_eq_true', Bool.and_eq_false_imp, Bool.or_eq_false_iff, Bool.not_eq_false', decide_eq_true_eq, decide_eq_false_iff_not] at hc14
        obtain ⟨x, hxi⟩ : ∃ x, a[k]? = some x := ⟨_, List.getElem?_eq_getElem (by omega)⟩
        obtain ⟨y, hyi⟩ : ∃ y, b[k]? = some y := ⟨_, List.getElem?_eq_getElem (by omega)⟩
        have hxA := ha.at hxi
        have hyA := hb.at hyi
        refine wpIn_skip ?_
        refine thenN ?_
        refine wpIn_seq ?_
        refine wpIn_block ?_
        refine wpIn_seq ?_
        refine draw (.cons 0 .pure (.cons 1 .pure (.cons 2 .pure (.cons 3 .held (.cons 4 .pure (.cons 5 .pure (.cons 6 .pure (.cons 7 .held (.cons 8 .pure .nil))))))))) mixed (by kernel_rfl) hS ?_
        intro w_1 hS
        refine sp rfl (g_move _) ?_
        refine sp rfl (g_movev (v := .int .i64 _) rfl) ?_
        refine sp rfl (g_ixI Tryd.underlying25 Tryd.sizeOf5 ha rfl rfl (by omega) (by omega)) ?_
        refine sh rfl (g_ldE1 Tryd.isAgg5 hxA rfl rfl) ?_
        refine sp rfl (g_move _) ?_
        refine sp rfl (g_movev (v := .int .i64 _) rfl) ?_
        refine sp rfl (g_ixI Tryd.underlying25 Tryd.sizeOf5 hb rfl rfl (by omega) (by omega)) ?_
        refine sh rfl (g_ldE1 Tryd.isAgg5 hyA rfl rfl) ?_
        refine sp rfl (g_neq rfl rfl) ?_
        refine sn (thenN ?_)
        refine cond_s rfl ?_ ?_
        ·
          intro hc25
          try simp only [Bool.and_eq_true, Bool.or_eq_true, Bool.not_eq_true', Bool.and_eq_false_imp, Bool.or_eq_false_iff, Bool.not_eq_false', decide_eq_true_eq, decide_eq_false_iff_not] at hc25
          have e : decide (a = b) = false := decide_eq_false (fun h => by rw [h, hyi] at hxi; exact hc25 (Option.some.inj hxi).symm)
          refine wpIn_seq ?_
          refine reg ?_
          refine qq hS (g_assignv (v := .bool _) rfl) ?_
          refine ol_nil (thenN ?_)
          refine wpIn_ret ?_
          refine blkR (thenR (thenR (blkR (thenR ?_))))
          refine ret1 Tryd.results13 (rv_tmp (v := .bool _) rfl) ?_
          rw [e]; exact ⟨rfl, hS.nil⟩
        ·
          intro hc25
          try simp only [Bool.and_eq_true, Bool.or_eq_true, Bool.not_eq_true', Bool.and_eq_false_imp, Bool.or_eq_false_iff, Bool.not_eq_false', decide_eq_true_eq, decide_eq_false_iff_not] at hc25
          have hnext : a.take (k + 1) = b.take (k + 1) := by rw [take_snoc hxi, take_snoc hyi, heq, hc25]
          refine wpIn_skip ?_
          refine blkN (thenN ?_)
          refine reg ?_
          refine qq hS (g_movev (v := .int .i64 _) rfl) ?_
          refine qq hS (g_add rfl rfl (by omega) (by omega)) ?_
          refine qq hS (g_assignv (v := .int .i64 _) rfl) ?_
          exact ⟨k + 1, _, rfl, ⟨⟨rfl, rfl, rfl, trivial⟩, hS.sel [], by omega, hnext⟩, by omega⟩
      ·
        intro hc14
        try simp only [Bool.and_eq_true, Bool.or_eq_true, Bool.not_eq_true', Bool.and_eq_false_imp, Bool.or_eq_false_iff, Bool.not_eq_false', decide_eq_true_eq, decide_eq_false_iff_not] at hc14
        have e : decide (a = b) = true := decide_eq_true (by
          have := heq
          rwa [List.take_of_length_le (by omega), List.take_of_length_le (by omega)] at this)
        refine wpIn_exit ?_
        refine thenE (thenE (blkE ?_))
        refine thenN ?_
        refine wpIn_seq ?_
        refine reg ?_
        refine qq hS (g_assignv (v := .bool _) rfl) ?_
        refine ol_nil (thenN ?_)
        refine wpIn_ret ?_
        refine ret1 Tryd.results13 (rv_tmp (v := .bool _) rfl) ?_
        rw [e]; exact ⟨rfl, hS.nil⟩

theorem same14_E (va vb : Value) (a b : List Int) (w0 : World) (I0 : Imm) (hI : Sat I0 w0) (ha : RBytes I0 va a) (hb : RBytes I0 vb b) (he : a = b) :
    Ctr Tryd.prog 13 [va, vb] w0 (fun v w' => v = .bool true ∧ Ext w0 I0 w' I0) := by
  have h := same14_c va vb a b w0 I0 hI ha hb
  rw [decide_eq_true he] at h
  exact h

theorem refN_c (b : List Int) (hN : UnpN b) (ad : Option Addr) (n cap : Nat) (w0 : World) (I0 : Imm) (hI : Sat I0 w0) (hn : n = b.length) (hb : RBytes I0 (.slice ad n cap) b) :
    Ctr Tryd.prog 18 [.slice ad n cap] w0 (fun v w' => ∃ I', v = .bool true ∧ Ext w0 I0 w' I') := by
  subst hn
  refine fn (n := 17) Tryd.func18 rfl rfl rfl ?_
  have hS := St.start hI
  refine wpIn_seq ?_
  refine reg ?_
  refine qq hS (g_assignv (v := .bool _) rfl) ?_
  refine ol_nil (thenN ?_)
  refine wpIn_seq ?_
  refine reg ?_
  refine qq hS (g_move _) ?_
  refine qe (d_call Tryd.call15 rfl (hN.c _ _ _ _ hS.imm hb)) ?_
  rintro _ w_1 ⟨I_f, rfl, hE⟩
  replace hS := hS.callE hE
  refine qq hS (g_move _) ?_
  refine qq hS (g_extract rfl rfl) ?_
  refine qq hS (g_extract (v := .int .i64 _) rfl rfl) ?_
  refine qe (d_alloc (cs := [.bool _, .int .i64 _, .int .i64 _, .slice _ _ _]) hS Tryd.zeroValue31 rfl) ?_
  clear hS
  rintro _ w_2 ⟨b3, rfl, hS⟩
  refine qe (d_store 0 hS Tryd.sizeOf31 rfl rfl rfl (vs := [.bool _, .int .i64 _, .int .i64 _, .slice _ _ _]) rfl rfl rfl (Nat.le_of_ble_eq_true rfl) (cs' := [_, _, _, _]) rfl) ?_
  clear hS
  rintro _ w_3 ⟨rfl, hS⟩
  refine qq hS (g_assignv (v := .int .i64 _) rfl) ?_
  refine ol_nil (thenN ?_)
  refine wpIn_seq ?_
  refine reg ?_
  refine qq hS (g_movev (v := .int .i64 _) rfl) ?_
  refine qq hS (g_eql rfl rfl) ?_
  refine qq hS (g_movev (v := .bool _) rfl) ?_
  refine qqs rfl rfl hS (g_ldO 0 (vs := [.bool _, .int .i64 _, .int .i64 _, .slice _ _ _]) Tryd.sizeOf31 Tryd.isAgg31 rfl rfl rfl rfl) ?_
  refine qqs rfl rfl hS (g_buildv (pl := [(0, 1), (1, 1), (2, 1), (3, 1)]) (cs := [.bool _, .int .i64 _, .int .i64 _, .slice _ _ _]) Tryd.zeroValue31 Tryd.underlying31 (fun w => by simp [Tryd.sizeOf29, Tryd.sizeOf3, Tryd.sizeOf4]) mp0 rfl) ?_
  refine qes rfl rfl (d_call Tryd.call17 rfl (sameR_e PatL.zero PatL.zero none none 0 0 0 0 true _ _ hS.imm RSl.nilR zero_wf RSl.nilR zero_wf (by kernel_rfl))) ?_
  rintro _ w_4 ⟨rfl, hE⟩
  replace hS := hS.callE hE
  refine qq hS (g_and rfl rfl (fun _ => rfl)) ?_
  refine qq hS (g_assignv (v := .bool _) rfl) ?_
  refine ol_nil (thenN ?_)
  refine wpIn_ret ?_
  refine ret1 Tryd.results18 (rv_tmp (v := .bool _) rfl) ?_
  exact ⟨_, rfl, hS.nil⟩

set_option maxRecDepth 20000 in
set_option maxHeartbeats 4000000 in
theorem sanity14_c (w0 : World) (I0 : Imm) (hI : Sat I0 w0) :
    Ctr Tryd.prog 9 [] w0 (fun v w' => ∃ I', v = .bool true ∧ Ext w0 I0 w' I') := by
  refine fn (n := 65) Tryd.func9 rfl rfl rfl ?_
  have hS := St.start hI
  refine wpIn_seq ?_
  refine reg ?_
  refine qq hS (g_assignv (v := .bool _) rfl) ?_
  refine ol_nil (thenN ?_)
  refine wpIn_seq ?_
  refine reg ?_
  refine qe (d_lit (vs := [.int .u8 _]) (cs := [.int .u8 _]) hS Tryd.underlying25 Tryd.sizeOf5 Tryd.zeroValue5 rfl rfl rfl rfl (fun v hv => by simp only [List.mem_cons, List.not_mem_nil, or_false] at hv; subst hv; rfl) rfl) ?_
  clear hS
  rintro _ w_1 ⟨b9, rfl, hS⟩
  refine qe (d_appendZG 0 (zs := List.replicate 21 (.int .u8 0)) (m := 21) hS rfl Tryd.underlying25 Tryd.underlying3 info5 rfl rfl rfl rfl rfl rfl (by decide) (by decide) (by decide) (by kernel_rfl)) ?_
  clear hS
  rintro _ w_2 ⟨b10, c10, rfl, hS⟩
  refine qq hS (g_assign _) ?_
  refine ol_nil (thenN ?_)
  refine wpIn_seq ?_
  refine reg ?_
  refine qq hS (g_move _) ?_
  refine qe (d_lit (vs := [.int .u8 _, .int .u8 _, .int .u8 _, .int .u8 _]) (cs := [.int .u8 _, .int .u8 _, .int .u8 _, .int .u8 _]) hS Tryd.underlying25 Tryd.sizeOf5 Tryd.zeroValue5 rfl rfl rfl rfl (fun v hv => by simp only [List.mem_cons, List.not_mem_nil, or_false] at hv; rcases hv with rfl | rfl | rfl | rfl <;> rfl) rfl) ?_
  clear hS
  rintro _ w_3 ⟨b12, rfl, hS⟩
  refine qe (i_appendO 1 0 hS rfl Tryd.underlying25 info5 rfl rfl rfl rfl rfl rfl rfl rfl (by omega) (by omega)) ?_
  clear hS
  rintro _ w_4 ⟨a13, p13, rfl, hS⟩
  refine qq hS (g_assign _) ?_
  refine ol_nil (thenN ?_)
  refine wpIn_seq ?_
  refine reg ?_
  refine qq hS (g_buildv (pl := [(0, 1), (1, 1), (2, 1), (3, 1)]) (cs := [.bool _, .int .i64 _, .int .i64 _, .slice _ _ _]) Tryd.zeroValue31 Tryd.underlying31 (fun w => by simp [Tryd.sizeOf29, Tryd.sizeOf3, Tryd.sizeOf4]) mp0 rfl) ?_
  refine qe (d_call Tryd.call11 rfl (pack_zero_c _ _ hS.imm)) ?_
  rintro _ w_5 ⟨I_f, a16, c16, rfl, hE, h16⟩
  replace hS := hS.callE hE
  refine qq hS (g_move _) ?_
  refine qq hS (g_extract rfl rfl) ?_
  refine qq hS (g_extract (v := .int .i64 _) rfl rfl) ?_
  refine qq hS (g_assign _) ?_
  refine qq hS (g_assignv (v := .int .i64 _) rfl) ?_
  refine ol_nil (thenN ?_)
  refine wpIn_seq ?_
  have hF := St.freezeRow (u := .slice a13 26 p13) (m := 26) (xs := WANT) byteC_len (by exact hS.ord [1, 0, 2]) (rfl)
  clear hS
  obtain ⟨I_hwant, hS, hI_hwant, hwant⟩ := hF
  replace h16 := h16.mono hI_hwant
  refine reg ?_
  refine qq hS (g_move _) ?_
  refine qe (d_call Tryd.call15 rfl (unp_want.c a13 p13 _ _ hS.imm hwant)) ?_
  rintro _ w_6 ⟨I_f, a21, m21, c21, rfl, hE, h21⟩
  replace hS := hS.callE hE
  replace h16 := h16.mono hE.ext
  replace hwant := hwant.mono hE.ext
  refine qq hS (g_move _) ?_
  refine qq hS (g_extract rfl rfl) ?_
  refine qq hS (g_extract (v := .int .i64 _) rfl rfl) ?_
  refine qe (d_alloc (cs := [.bool _, .int .i64 _, .int .i64 _, .slice _ _ _]) hS Tryd.zeroValue31 rfl) ?_
  clear hS
  rintro _ w_7 ⟨b4, rfl, hS⟩
  refine qe (d_store 0 hS Tryd.sizeOf31 rfl rfl rfl (vs := [.bool _, .int .i64 _, .int .i64 _, .slice _ _ _]) rfl rfl rfl (Nat.le_of_ble_eq_true rfl) (cs' := [_, _, _, _]) rfl) ?_
  clear hS
  rintro _ w_8 ⟨rfl, hS⟩
  refine qq hS (g_assignv (v := .int .i64 _) rfl) ?_
  refine ol_nil (thenN ?_)
  refine wpIn_seq ?_
  refine reg ?_
  refine qq hS (g_buildv (pl := [(0, 1), (1, 1), (2, 1), (3, 1)]) (cs := [.bool _, .int .i64 _, .int .i64 _, .slice _ _ _]) Tryd.zeroValue31 Tryd.underlying31 (fun w => by simp [Tryd.sizeOf29, Tryd.sizeOf3, Tryd.sizeOf4]) (mp (v := .int .i64 _) rfl mp0) rfl) ?_
  refine qe (d_call Tryd.call11 rfl (pack_bad_c ⟨false, 0, 1, []⟩ none 0 0 _ _ hS.imm RSl.nilR out1_wf (by decide))) ?_
  rintro _ w_9 ⟨rfl, hE⟩
  replace hS := hS.callE hE
  refine qq hS (g_move _) ?_
  refine qq hS (g_extract rfl rfl) ?_
  refine qq hS (g_extract (v := .int .i64 _) rfl rfl) ?_
  refine qq hS (g_assign _) ?_
  refine qq hS (g_assignv (v := .int .i64 _) rfl) ?_
  refine ol_nil (thenN ?_)
  refine wpIn_seq ?_
  refine reg ?_
  refine qe (d_lit (vs := [.int .u8 _]) (cs := [.int .u8 _]) hS Tryd.underlying25 Tryd.sizeOf5 Tryd.zeroValue5 rfl rfl rfl rfl (fun v hv => by simp only [List.mem_cons, List.not_mem_nil, or_false] at hv; subst hv; rfl) rfl) ?_
  clear hS
  rintro _ w_10 ⟨b29, rfl, hS⟩
  refine qq hS (g_move _) ?_
  have hs31 : RBytes _ _ _ := RSl.slL hwant 1 (by decide)
  obtain ⟨a31, c31, hv31, _⟩ := hs31.len
  rw [hv31] at hs31
  have hl31 : (WANT.drop 1).length = 25 := rfl
  refine qq hS (g_castT (g_sliceLN (l0 := 1) Tryd.underlying25 Tryd.sizeOf5 rfl rfl (by decide) (by decide) rfl) hv31) ?_
  replace hS := hS.asRow (k := 0) (sz := 1) (m := 1) rfl rfl (by decide)
  refine qe (i_appendF 0 hS rfl Tryd.underlying25 info5 rfl rfl rfl rfl byteC_len (fun _ => rfl) hs31 rfl (by omega) (by omega)) ?_
  clear hS
  rintro _ w_11 ⟨a32, p32, rfl, hS⟩
  refine qq hS (g_assign _) ?_
  refine ol_nil (thenN ?_)
  refine wpIn_seq ?_
  have hF := St.freezeRow (u := .slice a32 26 p32) (m := 26) (xs := (81 :: WANT.drop 1)) byteC_len (by exact hS.ord [0, 1, 2, 3]) (rfl)
  clear hS
  obtain ⟨I_hoth, hS, hI_hoth, hoth⟩ := hF
  replace h16 := h16.mono hI_hoth
  replace hwant := hwant.mono hI_hoth
  replace h21 := h21.mono hI_hoth
  have hcap := (RSl.resl2 hwant 26 26 (by decide) (by decide)).2.1
  have hs60 : RBytes _ _ _ := (RSl.resl2 hwant 0 25 (by decide) (by decide)).1
  rw [List.drop_zero] at hs60
  obtain ⟨a60, c60, hv60, _⟩ := hs60.len
  rw [hv60] at hs60
  refine reg ?_
  refine qq hS (g_movev (v := .int .i64 _) rfl) ?_
  refine qq hS (g_eql rfl rfl) ?_
  refine qq hS (g_movev (v := .bool _) rfl) ?_
  refine qqs rfl rfl hS (g_move _) ?_
  refine qqs rfl rfl hS (g_move _) ?_
  refine qes rfl rfl (d_call Tryd.call13 rfl (same14_E _ _ WANT WANT _ _ hS.imm h16 hwant rfl)) ?_
  rintro _ w_12 ⟨rfl, hE⟩
  replace hS := hS.callE hE
  refine qq hS (g_and rfl rfl (fun _ => rfl)) ?_
  refine qq hS (g_movev (v := .bool _) rfl) ?_
  refine qqs rfl rfl hS (g_movev (v := .int .i64 _) rfl) ?_
  refine qqs rfl rfl hS (g_eql rfl rfl) ?_
  refine qq hS (g_and rfl rfl (fun _ => rfl)) ?_
  refine qq hS (g_movev (v := .bool _) rfl) ?_
  refine qqs rfl rfl hS (g_ldO 0 (vs := [.bool _, .int .i64 _, .int .i64 _, .slice _ _ _]) Tryd.sizeOf31 Tryd.isAgg31 rfl rfl rfl rfl) ?_
  refine qqs rfl rfl hS (g_buildv (pl := [(0, 1), (1, 1), (2, 1), (3, 1)]) (cs := [.bool _, .int .i64 _, .int .i64 _, .slice _ _ _]) Tryd.zeroValue31 Tryd.underlying31 (fun w => by simp [Tryd.sizeOf29, Tryd.sizeOf3, Tryd.sizeOf4]) mp0 rfl) ?_
  refine qes rfl rfl (d_call Tryd.call17 rfl (sameR_e PatL.zero PatL.zero _ _ _ _ _ _ true _ _ hS.imm h21 zero_wf RSl.nilR zero_wf (by kernel_rfl))) ?_
  rintro _ w_13 ⟨rfl, hE⟩
  replace hS := hS.callE hE
  refine qq hS (g_and rfl rfl (fun _ => rfl)) ?_
  refine qq hS (g_movev (v := .bool _) rfl) ?_
  refine qqs rfl rfl hS (g_movev (v := .int .i64 _) rfl) ?_
  refine qqs rfl rfl hS (g_eql rfl rfl) ?_
  refine qq hS (g_and rfl rfl (fun _ => rfl)) ?_
  refine qq hS (g_movev (v := .bool _) rfl) ?_
  refine qqs rfl rfl hS (g_move _) ?_
  refine qes rfl rfl (d_call Tryd.call18 rfl (refN_c (81 :: WANT.drop 1) unp_other _ _ _ _ _ hS.imm (by decide) hoth)) ?_
  rintro _ w_14 ⟨I_f, rfl, hE⟩
  replace hS := hS.callE hE
  replace h16 := h16.mono hE.ext
  replace hwant := hwant.mono hE.ext
  replace h21 := h21.mono hE.ext
  replace hoth := hoth.mono hE.ext
  replace hs60 := hs60.mono hE.ext
  refine qq hS (g_and rfl rfl (fun _ => rfl)) ?_
  refine qq hS (g_movev (v := .bool _) rfl) ?_
  refine qqs rfl rfl hS (g_move _) ?_
  refine qqs rfl rfl hS (g_castT (g_sliceHN (h0 := 25) Tryd.underlying25 Tryd.sizeOf5 rfl rfl (by decide) (by omega) rfl) hv60) ?_
  refine qes rfl rfl (d_call Tryd.call18 rfl (refN_c (WANT.take 25) unp_25 _ _ _ _ _ hS.imm (by decide) hs60)) ?_
  rintro _ w_15 ⟨I_f, rfl, hE⟩
  replace hS := hS.callE hE
  replace h16 := h16.mono hE.ext
  replace hwant := hwant.mono hE.ext
  replace h21 := h21.mono hE.ext
  replace hoth := hoth.mono hE.ext
  replace hs60 := hs60.mono hE.ext
  refine qq hS (g_and rfl rfl (fun _ => rfl)) ?_
  refine qq hS (g_movev (v := .bool _) rfl) ?_
  refine qes rfl rfl (d_call Tryd.call18 rfl (refN_c [] unp_nil _ _ _ _ _ hS.imm rfl RFl.nil)) ?_
  rintro _ w_16 ⟨I_f, rfl, hE⟩
  replace hS := hS.callE hE
  replace h16 := h16.mono hE.ext
  replace hwant := hwant.mono hE.ext
  replace h21 := h21.mono hE.ext
  replace hoth := hoth.mono hE.ext
  replace hs60 := hs60.mono hE.ext
  refine qq hS (g_and rfl rfl (fun _ => rfl)) ?_
  refine qq hS (g_assignv (v := .bool _) rfl) ?_
  refine ol_nil (thenN ?_)
  refine wpIn_ret ?_
  refine ret1 Tryd.results9 (rv_tmp (v := .bool _) rfl) ?_
  exact ⟨_, rfl, hS.nil⟩

end Go.Proofs.YtdgnojckkjfhfaaDoor

