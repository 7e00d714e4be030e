/- Package inverse: Invert for lifted patches: what it computes. Conditions: numbers within bounds. inlayref10: first, Symbols, Input, Invert, Lost, Lifted; inlayref06.Apply of lifted patches: what they compute. Conditions: numbers within bounds. inlayref10.Lifted: what it computes; lifted patches between code as plain Lean. Conditions: numbers within bounds. -/
import Derived.Test.YtaklmbhfmpdinaaGreatInv10
import Derived.Test.YtaklmbhfmpdinaaGreatApplyL
import Derived.Test.YtaklmbhfmpdinaaGreatKRefL
import Derived.Test.YtaklmbhfmpdinaaGreatRefApply
import Derived.Test.YtaklmbhfmpdinaaGreatLost10
import Derived.Test.YtaklmbhfmpdinaaGreatKLaw
import Derived.Test.YtaklmbhfmpdinaaGreatKOpt
namespace Go.Proofs.YtaklmbhfmpdinaaGreat
open Go Go.RowKit Go.Inl
set_option linter.unusedSimpArgs false
set_option linter.unusedVariables false
def withL (b : Bool) (p : PatL) : PatL := ⟨b, p.in_, p.out, p.ops⟩
def invertLP (old : List Int) (p : PatL) : PatL × Int :=
  if (symbolsP p).2 ≠ 0 then (PatL.zero, (symbolsP p).2) else if (applyLP old p).2 ≠ 0 then (PatL.zero, (applyLP old p).2)
  else (withL (decide ((cheapP (invS (symbolsP p).1 (codeF old)) p.out).2 = 0)) (cheapP (invS (symbolsP p).1 (codeF old)) p.out).1, (cheapP (invS (symbolsP p).1 (codeF old)) p.out).2)
theorem applyLP_ok {old : List Int} {p : PatL} (h : (applyLP old p).2 = 0) : noCode old = false ∧ ((codeF old).length : Int) = p.in_ := by
  unfold applyLP at h
  split at h
  · split at h
    · cases h
    · rename_i h1
      split at h
      · rename_i h2; exact ⟨by simpa using h1, h2⟩
      · cases h
  · rename_i h1; exact absurd h h1
/-- What is known of the lifted form of code. -/
structure LiftB (old : List Int) (x : LiftL) : Prop where
  w : Wrds x.words
  l : Labs x.labels
  n0 : x.words.length = old.length / 4
  n1 : x.marks.length = old.length / 4
  n2 : x.labels.length ≤ old.length / 4
theorem lift_b {old : List Int} {x : LiftL} (hob : Byts old) (hnc : noCode old = false) (hxe : liftP (wordsN old (old.length / 4)) = x) : LiftB old x := by
  obtain ⟨hn4, hn5⟩ := noCode_f hnc
  have hwl := wordsN_len old (old.length / 4)
  refine ⟨?_, ?_, ?_, ?_, ?_⟩
  · rw [← hxe]; exact liftP_wrds (wordsN_wrds hob _) (by rw [hwl]; omega)
  · rw [← hxe]; intro n hn; have := liftP_labs (ws := wordsN old (old.length / 4)) (by rw [hwl]; omega) n hn; rw [hwl] at this; omega
  · rw [← hxe]; exact (liftW_len _ _ _).trans hwl
  · rw [← hxe]; exact (liftM_len _ _).trans hwl
  · rw [← hxe]; have := labelsP_len (wordsN old (old.length / 4)); rw [hwl] at this; exact this

set_option maxHeartbeats 1000000 in
theorem invertL_c (p : PatL) (ad bd : Option Addr) (m cap capb : Nat) (old : List Int) (q : PatL) (e : Int) (w0 : World) (I0 : Imm) (hI : Sat I0 w0) (hops : ROps I0 (.slice ad m cap) p.ops) (hp : p.wf) (hl : p.lifted = true) (ho : RBytes I0 (.slice bd old.length capb) old) (hob : Byts old) (hon : old.length ≤ 4294967296) (he : invertLP old p = (q, e)) :
    Ctr Tryz.prog 10 [.slice bd old.length capb, .agg #[.bool p.lifted, .int .i64 p.in_, .int .i64 p.out, .slice ad m cap]] w0 (fun v w' => ∃ I' a m c, v = .tuple #[.agg #[.bool q.lifted, .int .i64 q.in_, .int .i64 q.out, .slice a m c], .int .i64 e] ∧ Ext w0 I0 w' I' ∧ ROps I' (.slice a m c) q.ops) := by
  obtain ⟨plf, pin, pout, pops⟩ := p
  dsimp only at *
  subst hl
  have hwA := symsOf_wf hp
  have hlA := symbolsP_len (⟨true, pin, pout, pops⟩ : PatL)
  have hlo := RSl.le ho
  simp only [maxLen] at hlo
  unfold invertLP at he
  obtain ⟨A, eA, hA⟩ : ∃ A e, symbolsP (⟨true, pin, pout, pops⟩ : PatL) = (A, e) := ⟨_, _, rfl⟩
  obtain ⟨R, eR, hR⟩ : ∃ R e, applyLP old (⟨true, pin, pout, pops⟩ : PatL) = (R, e) := ⟨_, _, rfl⟩
  rw [hA, hR] at he
  rw [hA] at hwA hlA
  dsimp only at he hwA hlA
  refine fn (n := 99) Tryz.func10 rfl rfl rfl ?_
  have hS := St.start hI
  refine wpIn_seq ?_
  refine reg ?_
  refine qe (d_box (cs := [.bool _, .int .i64 _, .int .i64 _, .slice _ _ _]) hS rfl) ?_
  clear hS
  rintro _ w_1 ⟨b3, rfl, hS⟩
  refine qe (d_alloc (cs := [.bool _, .int .i64 _, .int .i64 _, .slice _ _ _]) hS Tryz.zeroValue31 rfl) ?_
  clear hS
  rintro _ w_2 ⟨b4, rfl, hS⟩
  refine qq hS (g_assignv (v := .int .i64 _) rfl) ?_
  refine ol_nil (thenN ?_)
  refine wpIn_seq ?_
  refine reg ?_
  refine qq hS (g_ldO 1 (vs := [.bool _, .int .i64 _, .int .i64 _, .slice _ _ _]) Tryz.sizeOf31 Tryz.isAgg31 rfl rfl rfl rfl) ?_
  refine qe (d_call Tryz.call25 rfl (symbols_L (⟨true, pin, pout, pops⟩ : PatL) _ _ _ A eA _ _ hS.imm hops hp hA)) ?_
  rintro _ w_3 ⟨I_f, a21, c21, rfl, hE, h21⟩
  replace hS := hS.callE hE
  replace hops := hops.mono hE.ext
  replace ho := ho.mono hE.ext
  refine qq hS (g_move _) ?_
  refine qq hS (g_extract rfl rfl) ?_
  refine qq hS (g_extract (v := .int .i64 _) rfl rfl) ?_
  refine qq hS (g_assign _) ?_
  refine qq hS (g_assignv (v := .int .i64 _) rfl) ?_
  refine ol_nil (thenN ?_)
  refine wpIn_seq ?_
  refine wpIn_seq ?_
  refine reg ?_
  refine qq hS (g_movev (v := .int .i64 _) rfl) ?_
  refine qq hS (g_neq rfl rfl) ?_
  refine ol_nil (thenN ?_)
  refine cond_s rfl ?_ ?_
  ·
    intro hc25
    try simp only [Bool.and_eq_true, Bool.or_eq_true, Bool.not_eq_true', Bool.and_eq_false_imp, Bool.or_eq_false_iff, Bool.not_eq_false', decide_eq_true_eq, decide_eq_false_iff_not] at hc25
    rw [if_pos hc25] at he
    obtain ⟨he1, he2⟩ := Prod.mk.inj he
    subst he1
    subst he2
    refine wpIn_seq ?_
    refine reg ?_
    refine qq hS (g_buildv (pl := [(0, 1), (1, 1), (2, 1), (3, 1)]) (cs := [.bool _, .int .i64 _, .int .i64 _, .slice _ _ _]) Tryz.zeroValue31 Tryz.underlying31 (fun w => by simp [Tryz.sizeOf29, Tryz.sizeOf3, Tryz.sizeOf4]) mp0 rfl) ?_
    refine qq hS (g_movev (v := .int .i64 _) rfl) ?_
    refine qe (d_store 0 hS Tryz.sizeOf31 rfl rfl rfl (vs := [.bool _, .int .i64 _, .int .i64 _, .slice _ _ _]) rfl rfl rfl (Nat.le_of_ble_eq_true rfl) (cs' := [_, _, _, _]) rfl) ?_
    clear hS
    rintro _ w_4 ⟨rfl, hS⟩
    refine qq hS (g_assignv (v := .int .i64 _) rfl) ?_
    refine ol_nil (thenN ?_)
    refine wpIn_ret ?_
    refine thenR ?_
    refine ret2 Tryz.results10 (rv_cel 0 hS Tryz.sizeOf31 Tryz.isAgg31 rfl rfl rfl) (rv_tmp (v := .int .i64 _) rfl) ?_
    exact ⟨_, none, 0, 0, rfl, hS.nil, RSl.nilR⟩
  ·
    intro hc25
    try simp only [Bool.and_eq_true, Bool.or_eq_true, Bool.not_eq_true', Bool.and_eq_false_imp, Bool.or_eq_false_iff, Bool.not_eq_false', decide_eq_true_eq, decide_eq_false_iff_not] at hc25
    rw [if_neg (by simp [hc25])] at he
    refine wpIn_skip ?_
    refine thenN ?_
    refine wpIn_seq ?_
    refine wpIn_seq ?_
    refine reg ?_
    refine qq hS (g_move _) ?_
    refine qq hS (g_ldO 1 (vs := [.bool _, .int .i64 _, .int .i64 _, .slice _ _ _]) Tryz.sizeOf31 Tryz.isAgg31 rfl rfl rfl rfl) ?_
    refine qe (d_call Tryz.call17 rfl (applyl_c (⟨true, pin, pout, pops⟩ : PatL) ad bd m cap capb old R eR _ _ hS.imm hops hp rfl ho hob hon hR)) ?_
    rintro _ w_5 ⟨I_f, a31, c31, rfl, hE, h31⟩
    replace hS := hS.callE hE
    replace hops := hops.mono hE.ext
    replace ho := ho.mono hE.ext
    replace h21 := h21.mono hE.ext
    refine qq hS (g_move _) ?_
    refine qq hS (g_extract rfl rfl) ?_
    refine qq hS (g_extract (v := .int .i64 _) rfl rfl) ?_
    refine qq hS (g_assign _) ?_
    refine qq hS (g_assignv (v := .int .i64 _) rfl) ?_
    refine ol_nil (thenN ?_)
    refine wpIn_seq ?_
    refine reg ?_
    refine qq hS (g_movev (v := .int .i64 _) rfl) ?_
    refine qq hS (g_neq rfl rfl) ?_
    refine ol_nil (thenN ?_)
    refine cond_s rfl ?_ ?_
    ·
      intro hc35
      try simp only [Bool.and_eq_true, Bool.or_eq_true, Bool.not_eq_true', Bool.and_eq_false_imp, Bool.or_eq_false_iff, Bool.not_eq_false', decide_eq_true_eq, decide_eq_false_iff_not] at hc35
      rw [if_pos hc35] at he
      obtain ⟨he1, he2⟩ := Prod.mk.inj he
      subst he1
      subst he2
      refine wpIn_seq ?_
      refine reg ?_
      refine qq hS (g_buildv (pl := [(0, 1), (1, 1), (2, 1), (3, 1)]) (cs := [.bool _, .int .i64 _, .int .i64 _, .slice _ _ _]) Tryz.zeroValue31 Tryz.underlying31 (fun w => by simp [Tryz.sizeOf29, Tryz.sizeOf3, Tryz.sizeOf4]) mp0 rfl) ?_
      refine qq hS (g_movev (v := .int .i64 _) rfl) ?_
      refine qe (d_store 0 hS Tryz.sizeOf31 rfl rfl rfl (vs := [.bool _, .int .i64 _, .int .i64 _, .slice _ _ _]) rfl rfl rfl (Nat.le_of_ble_eq_true rfl) (cs' := [_, _, _, _]) rfl) ?_
      clear hS
      rintro _ w_6 ⟨rfl, hS⟩
      refine qq hS (g_assignv (v := .int .i64 _) rfl) ?_
      refine ol_nil (thenN ?_)
      refine wpIn_ret ?_
      refine thenR ?_
      refine ret2 Tryz.results10 (rv_cel 0 hS Tryz.sizeOf31 Tryz.isAgg31 rfl rfl rfl) (rv_tmp (v := .int .i64 _) rfl) ?_
      exact ⟨_, none, 0, 0, rfl, hS.nil, RSl.nilR⟩
    ·
      intro hc35
      try simp only [Bool.and_eq_true, Bool.or_eq_true, Bool.not_eq_true', Bool.and_eq_false_imp, Bool.or_eq_false_iff, Bool.not_eq_false', decide_eq_true_eq, decide_eq_false_iff_not] at hc35
      have hck : (checkP (⟨true, pin, pout, pops⟩ : PatL)).2 = 0 := (symbolsP_ok' (by rw [hA]; exact hc25)).1
      rw [if_neg (by simp [hc35])] at he
      obtain ⟨hnc, hlen⟩ := applyLP_ok (old := old) (p := (⟨true, pin, pout, pops⟩ : PatL)) (by rw [hR]; exact hc35)
      have hin4 := (checkP_ok hck).2.2.2.1
      dsimp only at hin4 hlen
      obtain ⟨hn4, hn5⟩ := noCode_f hnc
      obtain ⟨x, hxe⟩ : ∃ x, liftP (wordsN old (old.length / 4)) = x := ⟨_, rfl⟩
      have hB := lift_b hob hnc hxe
      obtain ⟨Z, hcf⟩ : ∃ Z, formP x = Z := ⟨_, rfl⟩
      have hcZ : codeF old = Z := by unfold codeF; rw [hxe, hcf]
      rw [hcZ] at he hlen
      have hZb : ∀ y ∈ Z, 0 ≤ y ∧ y ≤ 255 := by rw [← hcf]; exact formP_byts x
      obtain ⟨qC, eC, hC⟩ : ∃ q e, cheapP (invS A Z) pout = (q, e) := ⟨_, _, rfl⟩
      rw [hC] at he
      obtain ⟨he1, he2⟩ := Prod.mk.inj he
      subst he1
      subst he2
      refine wpIn_skip ?_
      refine thenN ?_
      refine wpIn_seq ?_
      refine wpIn_seq ?_
      refine reg ?_
      refine qq hS (g_fieldAddr (o' := 0) Tryz.underlying31 rfl Tryz.sizeOf4 rfl rfl rfl) ?_
      refine qq hS (g_ldO1 1 Tryz.isAgg4 rfl rfl rfl) ?_
      refine ol_nil (thenN ?_)
      refine cond_t (rfl) ?_
      refine wpIn_seq ?_
      refine reg ?_
      refine qq hS (g_move _) ?_
      refine qe (d_call Tryz.call26 rfl (lift_ok bd capb old x _ _ hS.imm ho hob hnc hxe)) ?_
      rintro _ w_7 ⟨I_f, a0, c0, a1, c1, a2, c2, rfl, hE, hx⟩
      replace hS := hS.callE hE
      replace hops := hops.mono hE.ext
      replace ho := ho.mono hE.ext
      replace h21 := h21.mono hE.ext
      replace h31 := h31.mono hE.ext
      refine qq hS (g_move _) ?_
      refine qq hS (g_extract rfl rfl) ?_
      refine qq hS (g_extract (v := .int .i64 _) rfl rfl) ?_
      refine qe (d_alloc (cs := [.slice _ _ _, .slice _ _ _, .slice _ _ _]) hS Tryz.zeroValue70 rfl) ?_
      clear hS
      rintro _ w_8 ⟨b10, rfl, hS⟩
      refine qe (d_store 0 hS Tryz.sizeOf70 rfl rfl rfl (vs := [.slice _ _ _, .slice _ _ _, .slice _ _ _]) rfl rfl rfl (Nat.le_of_ble_eq_true rfl) (cs' := [_, _, _]) rfl) ?_
      clear hS
      rintro _ w_9 ⟨rfl, hS⟩
      refine qq hS (g_assignv (v := .int .i64 _) rfl) ?_
      refine ol_nil (thenN ?_)
      refine reg ?_
      refine qq hS (g_ldO 0 (vs := [.slice _ _ _, .slice _ _ _, .slice _ _ _]) Tryz.sizeOf70 Tryz.isAgg70 rfl rfl rfl rfl) ?_
      refine qe (d_call Tryz.call27 rfl (lform_c x a0 a1 a2 c0 c1 c2 _ _ hS.imm hx hB.w hB.l (by have := hB.n0; omega) (by have := hB.n1; omega) (by have := hB.n2; omega))) ?_
      rintro _ w_10 ⟨I_f, a46, c46, rfl, hE, h46⟩
      replace hS := hS.callE hE
      replace hops := hops.mono hE.ext
      replace ho := ho.mono hE.ext
      replace h21 := h21.mono hE.ext
      replace h31 := h31.mono hE.ext
      replace hx := hx.mono hE.ext
      rw [hcf] at h46 ⊢
      refine qq hS (g_assign _) ?_
      refine ol_nil (thenN ?_)
      refine wpIn_seq ?_
      refine reg ?_
      refine qq hS (g_move _) ?_
      refine qe (d_call Tryz.call28 rfl (places_c _ _ A _ _ hS.imm h21)) ?_
      rintro _ w_11 ⟨I_f, b48, rfl, hE, h48⟩
      replace hS := hS.callE hE
      replace hops := hops.mono hE.ext
      replace ho := ho.mono hE.ext
      replace h21 := h21.mono hE.ext
      replace h31 := h31.mono hE.ext
      replace hx := hx.mono hE.ext
      replace h46 := h46.mono hE.ext
      refine qq hS (g_assign _) ?_
      refine ol_nil (thenN ?_)
      refine wpIn_seq ?_
      refine reg ?_
      refine qq hS (g_move _) ?_
      refine qq hS (g_lenI rfl Tryz.underlying25 h46 rfl) ?_
      refine qe (d_makeF symC_len ⟨false, 0, 0⟩ Z.length hS Tryz.underlying74 info80 rfl rfl rfl rfl rfl (by omega) rfl) ?_
      clear hS
      rintro _ w_12 ⟨b51, rfl, hS⟩
      refine qq hS (g_assign _) ?_
      refine ol_nil (thenN ?_)
      refine wpIn_seq ?_
      refine wpIn_seq ?_
      refine reg ?_
      refine qq hS (g_move _) ?_
      refine qq hS (g_lenI rfl Tryz.underlying25 h46 rfl) ?_
      refine qq hS (g_movev (v := .int .i64 _) rfl) ?_
      refine ol_nil (thenN ?_)
      refine wpIn_block ?_
      refine loop (fun (i : Nat) σ w => okS σ [(3, .pointer (some ⟨b3, 0, none⟩)), (4, .pointer (some ⟨b4, 0, none⟩)), (6, .slice a21 A.length c21), (12, .map (some b48)), (13, .slice (some ⟨b51, 0, none⟩) Z.length Z.length), (52, .slice a46 Z.length c46), (53, .int .i64 Z.length), (54, .int .i64 i)] ∧ ∃ I, St [] w0 I0 I w [.row (.slice (some ⟨b51, 0, none⟩) Z.length Z.length) 80 3 Z.length (flat symC (invUp A Z i)), .cel b4 31 [.bool false, .int .i64 0, .int .i64 0, .slice none 0 0], .cel b3 31 [.bool true, .int .i64 pin, .int .i64 pout, .slice ad m cap]] ∧ i ≤ Z.length ∧ RBytes I (.slice a46 Z.length c46) Z ∧ RSyms I (.slice a21 A.length c21) A ∧ RMap I b48 (keptUp A A.length) ∧ ROps I (.slice ad m cap) pops) (fun i => Z.length - i) (0) ?_ ?_
      ·
        rw [← invUp_0 A Z] at hS
        exact ⟨⟨rfl, rfl, rfl, rfl, rfl, rfl, rfl, rfl, trivial⟩, _, (hS.sel [true, false, true, true]).celRow 0 (xs := flat symC (invUp A Z 0)) (rest := []) (by rw [List.append_nil]; rfl) (by rw [flat_length symC_len, invUp_len]) (Nat.le_refl _) (by simp only [maxLen]; omega) (by rw [List.append_nil, flat_length symC_len, invUp_len]), by omega, h46, h21, h48, hops⟩
      ·
        rintro i σ w_l ⟨hs, I, hS, hi0, h46, h21, h48, hops⟩
        rw [← upds_self hs]; clear hs
        refine wpIn_seq ?_
        refine reg ?_
        refine qq hS (g_lss rfl rfl) ?_
        refine ol_nil (thenN ?_)
        refine wpIn_seq ?_
        refine cond_s rfl ?_ ?_
        ·
          intro hc55
          try simp only [Bool.and_eq_true, Bool.or_eq_true, Bool.not_eq_true', Bool.and_eq_false_imp, Bool.or_eq_false_iff, Bool.not_eq_false', decide_eq_true_eq, decide_eq_false_iff_not] at hc55
          have hlt : i < Z.length := by omega
          obtain ⟨y, hyi⟩ : ∃ y, Z[i]? = some y := ⟨_, List.getElem?_eq_getElem hlt⟩
          have hyA := h46.at hyi
          have hyb := hZb y (List.mem_of_getElem? hyi)
          have hlN : Z.length = (invUp A Z i).length := (invUp_len A Z i).symm
          have hui : (invUp A Z i)[i]? = some ⟨false, 0, 0⟩ := by rw [invUp_at hlt, if_neg (by omega)]
          have hset := invUp_set (l := A) hlt
          have hiv : invAt A Z i = match kept A i with
            | some j => ⟨true, j, Go.IntKind.u8.wrap (-(sAt A j.toNat).b)⟩
            | none => ⟨false, 0, y⟩ := by unfold invAt; rw [List.getD_eq_getElem?_getD, hyi]; rfl
          unfold kept at hiv
          refine wpIn_skip ?_
          refine thenN ?_
          refine wpIn_seq ?_
          refine wpIn_block ?_
          refine wpIn_seq ?_
          refine reg ?_
          refine qq hS (g_movev (v := .int .i64 _) rfl) ?_
          refine qq hS (g_ixI Tryz.underlying25 Tryz.sizeOf5 h46 rfl rfl (by omega) (by omega)) ?_
          refine qq hS (g_ldE1 Tryz.isAgg5 hyA rfl rfl) ?_
          refine qq hS (g_assignv (v := .int .i64 _) rfl) ?_
          refine qq hS (g_assignv (v := .int .u8 _) rfl) ?_
          refine ol_nil (thenN ?_)
          refine wpIn_seq ?_
          refine reg ?_
          refine qq hS (g_move _) ?_
          refine qq hS (g_movev (v := .int .i64 _) rfl) ?_
          refine qq hS (g_movev (v := .int .u8 _) rfl) ?_
          refine qq hS (g_ixR 0 Tryz.underlying74 Tryz.sizeOf80 rfl rfl rfl (by omega) (by omega)) ?_
          refine qq hS (g_fieldE (c' := 2) Tryz.underlying80 rfl Tryz.sizeOf5 rfl rfl rfl) ?_
          refine qe (d_storeRow 0 symC_len ⟨false, 0, y⟩ hS hlN hui Tryz.sizeOf5 rfl rfl rfl (vs := [.int .u8 _]) rfl rfl rfl rfl rfl) ?_
          clear hS
          rintro _ w_13 ⟨rfl, hS⟩
          refine ol_nil (thenN ?_)
          refine wpIn_seq ?_
          refine reg ?_
          refine qq hS (g_move _) ?_
          refine qq hS (g_movev (v := .int .i64 _) rfl) ?_
          refine qq hS (g_lookF Tryz.underlying77 Tryz.underlying3 Tryz.zeroValue3 h48.hold rfl rfl) ?_
          refine qq hS (g_move _) ?_
          refine qq hS (g_extract (v := .int .i64 _) rfl rfl) ?_
          refine qq hS (g_extract (v := .bool _) rfl rfl) ?_
          refine qq hS (g_assignv (v := .int .i64 _) rfl) ?_
          refine qq hS (g_assignv (v := .bool _) rfl) ?_
          refine ol_nil (thenN ?_)
          refine wpIn_seq ?_
          refine reg ?_
          refine qq hS (g_movev (v := .bool _) rfl) ?_
          refine ol_nil (thenN ?_)
          refine cond_s rfl ?_ ?_
          ·
            intro hc70
            try simp only [Bool.and_eq_true, Bool.or_eq_true, Bool.not_eq_true', Bool.and_eq_false_imp, Bool.or_eq_false_iff, Bool.not_eq_false', decide_eq_true_eq, decide_eq_false_iff_not] at hc70
            obtain ⟨j, hj⟩ := Option.isSome_iff_exists.1 hc70
            have hjb := kept_bd (l := A) (a := (i : Int)) hj
            rw [hj] at hiv
            dsimp only at hiv
            have hj0 : (lookI (keptUp A A.length) (i : Int)).getD 0 = j := by rw [hj]; rfl
            obtain ⟨sj, hsj⟩ : ∃ s, A[j.toNat]? = some s := ⟨_, List.getElem?_eq_getElem (by omega)⟩
            rw [sAt_of hsj] at hiv
            have hjA : atI I (elA (.slice a21 A.length c21) ((lookI (keptUp A A.length) (i : Int)).getD 0).toNat 3 0) [.bool sj.old, .int .i64 sj.at_, .int .u8 sj.b] := by rw [hj0]; exact h21.at hsj
            have hlN2 : Z.length = ((invUp A Z i).set i ⟨false, 0, y⟩).length := by rw [List.length_set]; exact hlN
            have hui2 : ((invUp A Z i).set i ⟨false, 0, y⟩)[i]? = some ⟨false, 0, y⟩ := by rw [List.getElem?_set, if_pos rfl, if_pos (by omega)]
            have hst : ((invUp A Z i).set i ⟨false, 0, y⟩).set i ⟨true, (lookI (keptUp A A.length) (i : Int)).getD 0, IntKind.u8.wrap (-sj.b)⟩ = invUp A Z (i + 1) := by
              rw [List.set_set, hj0, ← hset, hiv]
            refine reg ?_
            refine qq hS (g_move _) ?_
            refine qq hS (g_movev (v := .int .i64 _) rfl) ?_
            refine qq hS (g_movev (v := .int .i64 _) rfl) ?_
            refine qq hS (g_move _) ?_
            refine qq hS (g_movev (v := .int .i64 _) rfl) ?_
            refine qq hS (g_ixI Tryz.underlying74 Tryz.sizeOf80 h21 rfl rfl (by omega) (by omega)) ?_
            refine qq hS (g_fieldE (c' := 2) Tryz.underlying80 rfl Tryz.sizeOf5 rfl rfl rfl) ?_
            refine qq hS (g_ldE1 Tryz.isAgg5 hjA rfl rfl) ?_
            refine qq hS (g_negw rfl) ?_
            refine qq hS (g_buildv (pl := [(0, 1), (1, 1), (2, 1)]) (cs := [.bool _, .int .i64 _, .int .u8 _]) Tryz.zeroValue80 Tryz.underlying80 (fun w => by simp [Tryz.sizeOf3, Tryz.sizeOf4, Tryz.sizeOf5]) (mp (v := .bool _) rfl (mp (v := .int .i64 _) rfl (mp (v := .int .u8 _) rfl mp0))) rfl) ?_
            refine qq hS (g_ixR 0 Tryz.underlying74 Tryz.sizeOf80 rfl rfl rfl (by omega) (by omega)) ?_
            refine qe (d_storeRow 0 symC_len ⟨true, (lookI (keptUp A A.length) (i : Int)).getD 0, IntKind.u8.wrap (-sj.b)⟩ hS hlN2 hui2 Tryz.sizeOf80 rfl rfl rfl (vs := [.bool _, .int .i64 _, .int .u8 _]) rfl rfl rfl rfl rfl) ?_
            clear hS
            rintro _ w_14 ⟨rfl, hS⟩
            refine ol_nil (blkN (thenN ?_))
            refine reg ?_
            refine qq hS (g_add rfl rfl (by omega) (by omega)) ?_
            refine qq hS (g_movev (v := .int .i64 _) rfl) ?_
            first
              | (refine ⟨i + 1, _, rfl, ⟨⟨rfl, rfl, rfl, rfl, rfl, rfl, rfl, rfl, trivial⟩, _, ?_, by omega, h46, h21, h48, hops⟩, by omega⟩
                 rw [← hsk]
                 exact hS.sel [true, true, true])
              | (refine ⟨i + 1, _, rfl, ⟨⟨rfl, rfl, rfl, rfl, rfl, rfl, rfl, rfl, trivial⟩, _, ?_, by omega, h46, h21, h48, hops⟩, by omega⟩
                 rw [← hst]
                 exact hS.sel [true, true, true])
          ·
            intro hc70
            try simp only [Bool.and_eq_true, Bool.or_eq_true, Bool.not_eq_true', Bool.and_eq_false_imp, Bool.or_eq_false_iff, Bool.not_eq_false', decide_eq_true_eq, decide_eq_false_iff_not] at hc70
            have hj : lookI (keptUp A A.length) (i : Int) = none := by
              cases h : lookI (keptUp A A.length) (i : Int) with
              | none => rfl
              | some j => rw [h] at hc70; cases hc70
            rw [hj] at hiv
            dsimp only at hiv
            have hsk : (invUp A Z i).set i ⟨false, 0, y⟩ = invUp A Z (i + 1) := by rw [← hset, hiv]
            refine wpIn_skip ?_
            refine blkN (thenN ?_)
            refine reg ?_
            refine qq hS (g_add rfl rfl (by omega) (by omega)) ?_
            refine qq hS (g_movev (v := .int .i64 _) rfl) ?_
            first
              | (refine ⟨i + 1, _, rfl, ⟨⟨rfl, rfl, rfl, rfl, rfl, rfl, rfl, rfl, trivial⟩, _, ?_, by omega, h46, h21, h48, hops⟩, by omega⟩
                 rw [← hsk]
                 exact hS.sel [true, true, true])
              | (refine ⟨i + 1, _, rfl, ⟨⟨rfl, rfl, rfl, rfl, rfl, rfl, rfl, rfl, trivial⟩, _, ?_, by omega, h46, h21, h48, hops⟩, by omega⟩
                 rw [← hst]
                 exact hS.sel [true, true, true])
        ·
          intro hc55
          try simp only [Bool.and_eq_true, Bool.or_eq_true, Bool.not_eq_true', Bool.and_eq_false_imp, Bool.or_eq_false_iff, Bool.not_eq_false', decide_eq_true_eq, decide_eq_false_iff_not] at hc55
          obtain rfl : i = Z.length := by omega
          rw [invUp_all] at hS
          refine wpIn_exit ?_
          refine thenE (thenE (blkE ?_))
          refine thenN ?_
          refine wpIn_seq ?_
          have hF := St.freezeRow (u := .slice (some ⟨b51, 0, none⟩) Z.length Z.length) (m := Z.length) (xs := invS A Z) symC_len (by exact hS.ord [0, 1, 2]) ((invS_len A Z).symm)
          clear hS
          obtain ⟨I_hsy, hS, hI_hsy, hsy⟩ := hF
          replace h46 := h46.mono hI_hsy
          replace h21 := h21.mono hI_hsy
          replace h48 := h48.mono hI_hsy
          replace hops := hops.mono hI_hsy
          refine reg ?_
          refine qq hS (g_move _) ?_
          refine qq hS (g_fieldAddr (o' := 2) Tryz.underlying31 rfl Tryz.sizeOf3 rfl rfl rfl) ?_
          refine qq hS (g_ldO1 1 Tryz.isAgg3 rfl rfl rfl) ?_
          refine qe (d_call Tryz.call29 rfl (cheapest_e _ _ _ (invS A Z) pout qC eC _ _ hS.imm hsy (invS_len A Z).symm (invS_wf (by omega) hZb) hC)) ?_
          rintro _ w_15 ⟨I_f, a87, m87, c87, rfl, hE, h87⟩
          replace hS := hS.callE hE
          replace h46 := h46.mono hE.ext
          replace h21 := h21.mono hE.ext
          replace h48 := h48.mono hE.ext
          replace hops := hops.mono hE.ext
          replace hsy := hsy.mono hE.ext
          refine qq hS (g_move _) ?_
          refine qq hS (g_extract rfl rfl) ?_
          refine qq hS (g_extract (v := .int .i64 _) rfl rfl) ?_
          refine qe (d_alloc (cs := [.bool _, .int .i64 _, .int .i64 _, .slice _ _ _]) hS Tryz.zeroValue31 rfl) ?_
          clear hS
          rintro _ w_16 ⟨b18, rfl, hS⟩
          refine qe (d_store 0 hS Tryz.sizeOf31 rfl rfl rfl (vs := [.bool _, .int .i64 _, .int .i64 _, .slice _ _ _]) rfl rfl rfl (Nat.le_of_ble_eq_true rfl) (cs' := [_, _, _, _]) rfl) ?_
          clear hS
          rintro _ w_17 ⟨rfl, hS⟩
          refine qq hS (g_assignv (v := .int .i64 _) rfl) ?_
          refine ol_nil (thenN ?_)
          refine wpIn_seq ?_
          refine reg ?_
          refine qq hS (g_fieldAddr (o' := 0) Tryz.underlying31 rfl Tryz.sizeOf4 rfl rfl rfl) ?_
          refine qq hS (g_ldO1 2 Tryz.isAgg4 rfl rfl rfl) ?_
          refine qq hS (g_movev (v := .bool _) rfl) ?_
          refine qqs rfl rfl hS (g_movev (v := .int .i64 _) rfl) ?_
          refine qqs rfl rfl hS (g_eql rfl rfl) ?_
          refine qq hS (g_and (b := decide (eC = 0)) rfl rfl (fun _ => rfl)) ?_
          refine qq hS (g_fieldAddr (o' := 0) Tryz.underlying31 rfl Tryz.sizeOf4 rfl rfl rfl) ?_
          refine qe (d_store 0 hS Tryz.sizeOf4 rfl rfl rfl (vs := [.bool _]) rfl rfl rfl (Nat.le_of_ble_eq_true rfl) (cs' := [_, _, _, _]) rfl) ?_
          clear hS
          rintro _ w_18 ⟨rfl, hS⟩
          refine ol_nil (thenN ?_)
          refine wpIn_seq ?_
          refine reg ?_
          refine qq hS (g_ldO 0 (vs := [.bool _, .int .i64 _, .int .i64 _, .slice _ _ _]) Tryz.sizeOf31 Tryz.isAgg31 rfl rfl rfl rfl) ?_
          refine qq hS (g_movev (v := .int .i64 _) rfl) ?_
          refine qe (d_store 1 hS Tryz.sizeOf31 rfl rfl rfl (vs := [.bool _, .int .i64 _, .int .i64 _, .slice _ _ _]) rfl rfl rfl (Nat.le_of_ble_eq_true rfl) (cs' := [_, _, _, _]) rfl) ?_
          clear hS
          rintro _ w_19 ⟨rfl, hS⟩
          refine qq hS (g_assignv (v := .int .i64 _) rfl) ?_
          refine ol_nil (thenN ?_)
          refine wpIn_ret ?_
          refine ret2 Tryz.results10 (rv_cel 1 hS Tryz.sizeOf31 Tryz.isAgg31 rfl rfl rfl) (rv_tmp (v := .int .i64 _) rfl) ?_
          exact ⟨_, a87, m87, c87, rfl, hS.nil, h87⟩

end Go.Proofs.YtaklmbhfmpdinaaGreat


namespace Go.Proofs.YtaklmbhfmpdinaaGreat
open Go Go.RowKit Go.Inl
set_option linter.unusedSimpArgs false
set_option linter.unusedVariables false
/-- A lifted patch that copies the beginning and has the rest. -/
def lifN (x y : List Int) (n : Nat) : PatL := ⟨true, x.length, y.length, (if 0 < n then [⟨1, 0, n, 0, []⟩] else []) ++ (if n < y.length then [⟨4, 0, (y.length : Int) - n, 0, y.drop n⟩] else [])⟩
theorem liftR_ok (ad : Option Addr) (cap : Nat) (b : List Int) (x : LiftL) (w0 : World) (I0 : Imm) (hI : Sat I0 w0) (hl : RBytes I0 (.slice ad b.length cap) b) (hb : Byts b) (h : noCode b = false) (hx : liftP (wordsN b (b.length / 4)) = x) :
    Ctr Tryz.prog 23 [.slice ad b.length cap] w0 (fun v w' => ∃ I' a0 c0 a1 c1 a2 c2, v = .tuple #[.agg #[.slice a0 x.words.length c0, .slice a1 x.marks.length c1, .slice a2 x.labels.length c2], .int .i64 0] ∧ Ext w0 I0 w' I' ∧ RLf I' a0 c0 a1 c1 a2 c2 x) := by
  obtain ⟨h1, h2⟩ := noCode_f h
  refine (liftR_c ad cap (b.length / 4) b w0 I0 hI hl hb h1 h2).mono ?_
  rintro v w' ⟨I', a0, c0, a1, c1, a2, c2, hv, hE, g1, g2, g3⟩
  have e1 : x.words.length = b.length / 4 := by rw [← hx]; exact (liftW_len _ _ _).trans (wordsN_len _ _)
  have e2 : x.marks.length = b.length / 4 := by rw [← hx]; exact (liftM_len _ _).trans (wordsN_len _ _)
  have e3 : x.labels.length = (labelsP (wordsN b (b.length / 4))).length := by rw [← hx]; rfl
  refine ⟨I', a0, c0, a1, c1, a2, c2, by rw [e1, e2, e3]; exact hv, hE, ?_, ?_, ?_⟩
  · rw [e1, ← hx]; exact g1
  · rw [e2, ← hx]; exact g2
  · rw [e3, ← hx]; exact g3
end Go.Proofs.YtaklmbhfmpdinaaGreat


namespace Go.Proofs.YtaklmbhfmpdinaaGreat
open Go Go.RowKit Go.Inl
set_option linter.unusedSimpArgs false
set_option linter.unusedVariables false
theorem lifN_chk {x y : List Int} {n : Nat} (hx : n ≤ x.length) (hy : n ≤ y.length) (h0 : x.length ≤ 65536) (h1 : y.length ≤ 65536) : (checkP (lifN x y n)).2 = 0 := by
  have hb : badP (lifN x y n) = false := by
    unfold badP lifN
    simp only [Bool.or_eq_false_iff, decide_eq_false_iff_not]
    refine ⟨⟨?_, ?_⟩, ?_⟩
    · split <;> omega
    · split <;> omega
    · by_cases h2 : 0 < n <;> by_cases h3 : n < y.length <;> simp [h2, h3]
  unfold checkP
  rw [hb, if_neg (by decide)]
  unfold lifN
  dsimp only
  by_cases h2 : 0 < n <;> by_cases h3 : n < y.length <;> simp only [h2, h3, if_true, if_false, List.nil_append, List.append_nil, List.singleton_append] <;> simp [checkGo, rightP, insideP] <;> (repeat' split) <;> first | rfl | (exfalso; omega)
theorem lifN_wf {x y : List Int} {n : Nat} (hx : n ≤ x.length) (hy : n ≤ y.length) (h0 : x.length ≤ 65536) (h1 : y.length ≤ 65536) (hb : Byts y) : (lifN x y n).wf := by
  refine ⟨by unfold lifN Mid; dsimp only; omega, by unfold lifN Mid; dsimp only; omega, ?_, ?_⟩
  · intro z hz
    unfold lifN at hz
    rcases List.mem_append.1 hz with h | h
    · split at h
      · rw [List.mem_singleton] at h; subst h
        exact ⟨by unfold Mid; dsimp only; omega, by unfold Mid; dsimp only; omega, by unfold Mid; dsimp only; omega, by dsimp only; omega, fun y hy => by cases hy⟩
      · cases h
    · split at h
      · rw [List.mem_singleton] at h; subst h
        exact ⟨by unfold Mid; dsimp only; omega, by unfold Mid; dsimp only; omega, by unfold Mid; dsimp only; omega, by dsimp only; omega, fun z hz => hb z (List.mem_of_mem_drop hz)⟩
      · cases h
  · unfold lifN
    dsimp only
    by_cases h2 : 0 < n <;> by_cases h3 : n < y.length <;> simp [h2, h3]
theorem run_copy {x : List Int} (hb : Byts x) {n : Nat} (hn : n ≤ x.length) : (symsOp ⟨1, 0, n, 0, []⟩).map (runB x) = x.take n := by
  refine List.ext_getElem? fun i => ?_
  unfold symsOp
  rw [List.getElem?_map, List.getElem?_map, List.getElem?_take]
  dsimp only
  by_cases h : i < n
  · rw [List.getElem?_range (by omega), if_pos h]
    have h2 := byts_getD hb i
    have h3 : x[i]? = some (x.getD i 0) := by rw [List.getD_eq_getElem?_getD, List.getElem?_eq_getElem (by omega)]; rfl
    rw [h3]
    simp only [Option.map_some, symS, runB, if_true, Int.zero_add, Int.toNat_natCast]
    rw [IntKind.wrap_u8]
    congr 1
    omega
  · rw [List.getElem?_eq_none (by simp; omega), if_neg h]; rfl
theorem run_lit {x d : List Int} {m : Int} (hm : m = d.length) : (symsOp ⟨4, 0, m, 0, d⟩).map (runB x) = d := by
  subst hm
  refine List.ext_getElem? fun i => ?_
  unfold symsOp
  rw [List.getElem?_map, List.getElem?_map]
  dsimp only
  by_cases h : i < d.length
  · rw [List.getElem?_range (by omega)]
    have h3 : d[i]? = some (d.getD i 0) := by rw [List.getD_eq_getElem?_getD, List.getElem?_eq_getElem (by omega)]; rfl
    rw [h3]
    simp [symS, runB]
  · rw [List.getElem?_eq_none (by simp; omega), List.getElem?_eq_none (by omega)]; rfl
theorem lifN_run {x y : List Int} {n : Nat} (hx : n ≤ x.length) (hy : n ≤ y.length) (hb : Byts x) (ht : x.take n = y.take n) : (symsOf (lifN x y n).ops).map (runB x) = y := by
  have e1 : (symsOf (if 0 < n then [⟨1, 0, n, 0, []⟩] else [])).map (runB x) = y.take n := by
    split
    · unfold symsOf
      rw [List.flatMap_singleton, run_copy hb hx, ht]
    · have : n = 0 := by omega
      subst this; rfl
  have e2 : (symsOf (if n < y.length then [⟨4, 0, (y.length : Int) - n, 0, y.drop n⟩] else [])).map (runB x) = y.drop n := by
    split
    · unfold symsOf
      rw [List.flatMap_singleton, run_lit (by rw [List.length_drop]; omega)]
    · rw [List.drop_eq_nil_of_le (by omega)]; rfl
  have e3 : symsOf (lifN x y n).ops = symsOf (if 0 < n then [⟨1, 0, n, 0, []⟩] else []) ++ symsOf (if n < y.length then [⟨4, 0, (y.length : Int) - n, 0, y.drop n⟩] else []) := by
    unfold lifN symsOf
    exact List.flatMap_append
  rw [e3, List.map_append, e1, e2, List.take_append_drop]
theorem take_same {x y : List Int} {n : Nat} (hx : n ≤ x.length) (hy : n ≤ y.length) (h : ∀ i, i < n → x[i]? = y[i]?) : x.take n = y.take n := by
  refine List.ext_getElem? fun i => ?_
  rw [List.getElem?_take, List.getElem?_take]
  split
  · exact h i (by assumption)
  · rfl

set_option maxHeartbeats 2000000 in
theorem lifted_c (bd ed : Option Addr) (capb cape : Nat) (old nw : List Int) (w0 : World) (I0 : Imm) (hI : Sat I0 w0) (ho : RBytes I0 (.slice bd old.length capb) old) (hob : Byts old) (hen : RBytes I0 (.slice ed nw.length cape) nw) (hnb : Byts nw) (hncA : noCode old = false) (hncB : noCode nw = false) :
    Ctr Tryz.prog 8 [.slice bd old.length capb, .slice ed nw.length cape] w0 (fun v w' => ∃ I' a m c n, v = .agg #[.bool true, .int .i64 (codeF old).length, .int .i64 (codeF nw).length, .slice a m c] ∧ Ext w0 I0 w' I' ∧ n ≤ (codeF old).length ∧ n ≤ (codeF nw).length ∧ (codeF old).take n = (codeF nw).take n ∧ ROps I' (.slice a m c) (lifN (codeF old) (codeF nw) n).ops) := by
  obtain ⟨x, hxeA⟩ : ∃ x, liftP (wordsN old (old.length / 4)) = x := ⟨_, rfl⟩
  have hBA := lift_b hob hncA hxeA
  have hcfA : codeF old = formP x := by unfold codeF; rw [hxeA]
  have hriA : Rise x.labels := by rw [← hxeA]; exact rise_lift _
  have hBA0 := hBA.n0
  have hBA1 := hBA.n1
  have hBA2 := hBA.n2
  obtain ⟨hnA4, hnA5⟩ := noCode_f hncA
  have hflA := formP_len x
  have hbyA := formP_byts x
  obtain ⟨y, hxeB⟩ : ∃ x, liftP (wordsN nw (nw.length / 4)) = x := ⟨_, rfl⟩
  have hBB := lift_b hnb hncB hxeB
  have hcfB : codeF nw = formP y := by unfold codeF; rw [hxeB]
  have hriB : Rise y.labels := by rw [← hxeB]; exact rise_lift _
  have hBB0 := hBB.n0
  have hBB1 := hBB.n1
  have hBB2 := hBB.n2
  obtain ⟨hnB4, hnB5⟩ := noCode_f hncB
  have hflB := formP_len y
  have hbyB := formP_byts y
  rw [hcfA, hcfB]
  refine fn (n := 82) Tryz.func8 rfl rfl rfl ?_
  have hS := St.start hI
  refine wpIn_seq ?_
  refine reg ?_
  refine qe (d_alloc (cs := [.bool _, .int .i64 _, .int .i64 _, .slice _ _ _]) hS Tryz.zeroValue31 rfl) ?_
  clear hS
  rintro _ w_1 ⟨b4, rfl, hS⟩
  refine ol_nil (thenN ?_)
  refine wpIn_seq ?_
  refine reg ?_
  refine qq hS (g_move _) ?_
  refine qe (d_call Tryz.call23 rfl (liftR_ok bd capb old x _ _ hS.imm ho hob hncA hxeA)) ?_
  rintro _ w_2 ⟨I_f, aA0, cA0, aA1, cA1, aA2, cA2, rfl, hE, hxA⟩
  replace hS := hS.callE hE
  replace ho := ho.mono hE.ext
  replace hen := hen.mono hE.ext
  refine qq hS (g_move _) ?_
  refine qq hS (g_extract rfl rfl) ?_
  refine qq hS (g_extract (v := .int .i64 _) rfl rfl) ?_
  refine qe (d_alloc (cs := [.slice _ _ _, .slice _ _ _, .slice _ _ _]) hS Tryz.zeroValue70 rfl) ?_
  clear hS
  rintro _ w_3 ⟨b5, rfl, hS⟩
  refine qe (d_store 0 hS Tryz.sizeOf70 rfl rfl rfl (vs := [.slice _ _ _, .slice _ _ _, .slice _ _ _]) rfl rfl rfl (Nat.le_of_ble_eq_true rfl) (cs' := [_, _, _]) rfl) ?_
  clear hS
  rintro _ w_4 ⟨rfl, hS⟩
  refine qq hS (g_assignv (v := .int .i64 _) rfl) ?_
  refine ol_nil (thenN ?_)
  refine wpIn_seq ?_
  refine reg ?_
  refine qq hS (g_move _) ?_
  refine qe (d_call Tryz.call23 rfl (liftR_ok ed cape nw y _ _ hS.imm hen hnb hncB hxeB)) ?_
  rintro _ w_5 ⟨I_f, aB0, cB0, aB1, cB1, aB2, cB2, rfl, hE, hxB⟩
  replace hS := hS.callE hE
  replace ho := ho.mono hE.ext
  replace hen := hen.mono hE.ext
  replace hxA := hxA.mono hE.ext
  refine qq hS (g_move _) ?_
  refine qq hS (g_extract rfl rfl) ?_
  refine qq hS (g_extract (v := .int .i64 _) rfl rfl) ?_
  refine qe (d_alloc (cs := [.slice _ _ _, .slice _ _ _, .slice _ _ _]) hS Tryz.zeroValue70 rfl) ?_
  clear hS
  rintro _ w_6 ⟨b7, rfl, hS⟩
  refine qe (d_store 0 hS Tryz.sizeOf70 rfl rfl rfl (vs := [.slice _ _ _, .slice _ _ _, .slice _ _ _]) rfl rfl rfl (Nat.le_of_ble_eq_true rfl) (cs' := [_, _, _]) rfl) ?_
  clear hS
  rintro _ w_7 ⟨rfl, hS⟩
  refine qq hS (g_assignv (v := .int .i64 _) rfl) ?_
  refine ol_nil (thenN ?_)
  refine wpIn_seq ?_
  refine reg ?_
  refine qq hS (g_ldO 1 (vs := [.slice _ _ _, .slice _ _ _, .slice _ _ _]) Tryz.sizeOf70 Tryz.isAgg70 rfl rfl rfl rfl) ?_
  refine qe (d_call Tryz.call24 rfl (lformR_c x aA0 aA1 aA2 cA0 cA1 cA2 _ _ hS.imm hxA hBA.w hBA.l (by omega) (by omega) (by omega) hriA)) ?_
  rintro _ w_8 ⟨I_f, a24, c24, rfl, hE, h24⟩
  replace hS := hS.callE hE
  replace ho := ho.mono hE.ext
  replace hen := hen.mono hE.ext
  replace hxA := hxA.mono hE.ext
  replace hxB := hxB.mono hE.ext
  refine qq hS (g_assign _) ?_
  refine ol_nil (thenN ?_)
  refine wpIn_seq ?_
  refine reg ?_
  refine qq hS (g_ldO 0 (vs := [.slice _ _ _, .slice _ _ _, .slice _ _ _]) Tryz.sizeOf70 Tryz.isAgg70 rfl rfl rfl rfl) ?_
  refine qe (d_call Tryz.call24 rfl (lformR_c y aB0 aB1 aB2 cB0 cB1 cB2 _ _ hS.imm hxB hBB.w hBB.l (by omega) (by omega) (by omega) hriB)) ?_
  rintro _ w_9 ⟨I_f, a26, c26, rfl, hE, h26⟩
  replace hS := hS.callE hE
  replace ho := ho.mono hE.ext
  replace hen := hen.mono hE.ext
  replace hxA := hxA.mono hE.ext
  replace hxB := hxB.mono hE.ext
  replace h24 := h24.mono hE.ext
  refine qq hS (g_assign _) ?_
  refine ol_nil (thenN ?_)
  refine wpIn_seq ?_
  refine reg ?_
  refine qq hS (g_assignv (v := .int .i64 _) rfl) ?_
  refine ol_nil (thenN ?_)
  refine wpIn_seq ?_
  refine wpIn_block ?_
  refine loop (fun (k : Nat) σ w => okS σ [(4, .pointer (some ⟨b4, 0, none⟩)), (9, .slice a24 (formP x).length c24), (10, .slice a26 (formP y).length c26), (11, .int .i64 k)] ∧ ∃ I, St [] w0 I0 I w [.cel b4 31 [.bool false, .int .i64 0, .int .i64 0, .slice none 0 0]] ∧ (k ≤ (formP x).length ∧ k ≤ (formP y).length) ∧ (∀ i, i < k → (formP x)[i]? = (formP y)[i]?) ∧ RBytes I (.slice a24 (formP x).length c24) (formP x) ∧ RBytes I (.slice a26 (formP y).length c26) (formP y)) (fun k => (formP x).length - k) (0) ?_ ?_
  ·
    exact ⟨⟨rfl, rfl, rfl, rfl, trivial⟩, _, hS.sel [false, false, true], by omega, fun i hi => by omega, h24, h26⟩
  ·
    rintro k σ w_l ⟨hs, I, hS, hk, hsame, h24, h26⟩
    rw [← upds_self hs]; clear hs
    have hXA : k < (formP x).length → atI I (elA (.slice a24 (formP x).length c24) k 1 0) [.int .u8 ((formP x).getD k 0)] := fun h => h24.at (getD_get h)
    have hYA : k < (formP y).length → atI I (elA (.slice a26 (formP y).length c26) k 1 0) [.int .u8 ((formP y).getD k 0)] := fun h => h26.at (getD_get h)
    refine wpIn_seq ?_
    refine wpIn_seq ?_
    refine draw (.cons 0 .pure (.cons 1 .pure (.cons 2 .pure (.cons 3 .pure (.cons 4 .pure (.cons 5 .pure (.cons 6 .pure (.cons 7 .pure (.cons 8 .pure (.cons 9 .pure (.cons 10 .pure (.cons 11 .pure (.cons 12 .pure (.cons 13 .pure (.cons 14 .held (.cons 15 .pure (.cons 16 .pure (.cons 17 .pure (.cons 18 .held (.cons 19 .pure (.cons 20 .pure .nil))))))))))))))))))))) mixed (by kernel_rfl) hS ?_
    intro w_10 hS
    refine sp rfl (g_movev (v := .int .i64 _) rfl) ?_
    refine sp rfl (g_move _) ?_
    refine sp rfl (g_lenI rfl Tryz.underlying25 h24 rfl) ?_
    refine sp rfl (g_lss rfl rfl) ?_
    refine sp rfl (g_movev (v := .bool _) rfl) ?_
    refine spu rfl rfl rfl (fun hg => (g_movev (v := .int .i64 _) rfl)) ?_
    intro u32 hu32 hn32
    refine spu rfl rfl rfl (fun hg => (g_move _)) ?_
    intro u33 hu33 hn33
    refine spu rfl rfl rfl (fun hg => (g_lenI rfl Tryz.underlying25 h26 (hu33 hg))) ?_
    intro u34 hu34 hn34
    refine spu rfl rfl rfl (fun hg => (g_lss (hu32 hg) (hu34 hg))) ?_
    intro u35 hu35 hn35
    refine sp rfl (g_and rfl rfl (fun hq => hu35 hq)) ?_
    refine sp rfl (g_movev (v := .bool _) rfl) ?_
    refine spu rfl rfl rfl (fun hg => (g_move _)) ?_
    intro u38 hu38 hn38
    refine spu rfl rfl rfl (fun hg => (g_movev (v := .int .i64 _) rfl)) ?_
    intro u39 hu39 hn39
    refine spu rfl rfl rfl (fun hg => (g_ixI Tryz.underlying25 Tryz.sizeOf5 h24 (hu38 hg) (hu39 hg) (by have h9 := hg; simp only [Bool.and_eq_true, decide_eq_true_eq] at h9; omega) (by have h9 := hg; simp only [Bool.and_eq_true, decide_eq_true_eq] at h9; omega))) ?_
    intro u40 hu40 hn40
    refine shu rfl rfl rfl (fun hg => (g_ldE1 Tryz.isAgg5 (hXA (by have h9 := hg; simp only [Bool.and_eq_true, decide_eq_true_eq] at h9; omega)) (hu40 hg) rfl)) ?_
    intro u41 hu41 hn41
    refine spu rfl rfl rfl (fun hg => (g_move _)) ?_
    intro u42 hu42 hn42
    refine spu rfl rfl rfl (fun hg => (g_movev (v := .int .i64 _) rfl)) ?_
    intro u43 hu43 hn43
    refine spu rfl rfl rfl (fun hg => (g_ixI Tryz.underlying25 Tryz.sizeOf5 h26 (hu42 hg) (hu43 hg) (by have h9 := hg; simp only [Bool.and_eq_true, decide_eq_true_eq] at h9; omega) (by have h9 := hg; simp only [Bool.and_eq_true, decide_eq_true_eq] at h9; omega))) ?_
    intro u44 hu44 hn44
    refine shu rfl rfl rfl (fun hg => (g_ldE1 Tryz.isAgg5 (hYA (by have h9 := hg; simp only [Bool.and_eq_true, decide_eq_true_eq] at h9; omega)) (hu44 hg) rfl)) ?_
    intro u45 hu45 hn45
    refine spu rfl rfl rfl (fun hg => (g_eql (hu41 hg) (hu45 hg))) ?_
    intro u46 hu46 hn46
    refine sp rfl (g_and rfl rfl (fun hq => hu46 hq)) ?_
    refine sn (thenN ?_)
    refine cond_s rfl ?_ ?_
    ·
      intro hc47
      clear hu32 hn32 hu33 hn33 hu34 hn34 hu35 hn35 hu38 hn38 hu39 hn39 hu40 hn40 hu41 hn41 hu42 hn42 hu43 hn43 hu44 hn44 hu45 hn45 hu46 hn46
      have h9 := hc47
      simp only [Bool.and_eq_true, decide_eq_true_eq] at h9
      have hs2 := ext_step hsame (getD_get (l := formP x) (i := k) (by omega)) (getD_get (l := formP y) (i := k) (by omega)) h9.2
      refine wpIn_skip ?_
      refine thenN ?_
      refine wpIn_block ?_
      refine reg ?_
      refine qq hS (g_movev (v := .int .i64 _) rfl) ?_
      refine qq hS (g_add rfl rfl (by omega) (by omega)) ?_
      refine qq hS (g_assignv (v := .int .i64 _) rfl) ?_
      exact ⟨k + 1, _, rfl, ⟨⟨rfl, rfl, rfl, rfl, trivial⟩, _, hS.sel [true], by omega, hs2, h24, h26⟩, by omega⟩
    ·
      intro hc47
      clear hu32 hn32 hu33 hn33 hu34 hn34 hu35 hn35 hu38 hn38 hu39 hn39 hu40 hn40 hu41 hn41 hu42 hn42 hu43 hn43 hu44 hn44 hu45 hn45 hu46 hn46
      refine wpIn_exit ?_
      refine thenE (thenE (blkE ?_))
      refine thenN ?_
      refine wpIn_seq ?_
      have hts := take_same hk.1 hk.2 hsame
      refine reg ?_
      refine qq hS (g_move _) ?_
      refine qq hS (g_lenI rfl Tryz.underlying25 h24 rfl) ?_
      refine qq hS (g_move _) ?_
      refine qq hS (g_lenI rfl Tryz.underlying25 h26 rfl) ?_
      refine qq hS (g_buildv (pl := [(0, 1), (1, 1), (2, 1), (3, 1)]) (cs := [.bool _, .int .i64 _, .int .i64 _, .slice _ _ _]) Tryz.zeroValue31 Tryz.underlying31 (fun w => by simp [Tryz.sizeOf29, Tryz.sizeOf3, Tryz.sizeOf4]) (mp (v := .bool _) rfl (mp (v := .int .i64 _) rfl (mp (v := .int .i64 _) rfl mp0))) rfl) ?_
      refine qe (d_alloc (cs := [.bool _, .int .i64 _, .int .i64 _, .slice _ _ _]) hS Tryz.zeroValue31 rfl) ?_
      clear hS
      rintro _ w_11 ⟨b12, rfl, hS⟩
      refine qe (d_store 0 hS Tryz.sizeOf31 rfl rfl rfl (vs := [.bool _, .int .i64 _, .int .i64 _, .slice _ _ _]) rfl rfl rfl (Nat.le_of_ble_eq_true rfl) (cs' := [_, _, _, _]) rfl) ?_
      clear hS
      rintro _ w_12 ⟨rfl, hS⟩
      refine ol_nil (thenN ?_)
      refine wpIn_seq ?_
      refine wpIn_seq ?_
      replace hS := hS.nilRow 53 5
      refine reg ?_
      refine qq hS (g_movev (v := .int .i64 _) rfl) ?_
      refine qq hS (g_gtr rfl rfl) ?_
      refine ol_nil (thenN ?_)
      refine cond_s rfl ?_ ?_
      ·
        intro hc56
        try simp only [Bool.and_eq_true, Bool.or_eq_true, Bool.not_eq_true', Bool.and_eq_false_imp, Bool.or_eq_false_iff, Bool.not_eq_false', decide_eq_true_eq, decide_eq_false_iff_not] at hc56
        refine reg ?_
        refine qq hS (g_fieldAddr (o' := 3) Tryz.underlying31 rfl Tryz.sizeOf29 rfl rfl rfl) ?_
        refine qq hS (g_ldO1 1 Tryz.isAgg29 rfl rfl rfl) ?_
        refine qq hS (g_movev (v := .int .i64 _) rfl) ?_
        refine qq hS (g_buildv (pl := [(0, 1), (1, 1), (2, 1), (3, 1), (4, 1)]) (cs := [.int .i64 _, .int .i64 _, .int .i64 _, .int .u8 _, .slice _ _ _]) Tryz.zeroValue53 Tryz.underlying53 (fun w => by simp [Tryz.sizeOf25, Tryz.sizeOf3, Tryz.sizeOf5]) (mp (v := .int .i64 _) rfl (mp (v := .int .i64 _) rfl mp0)) rfl) ?_
        refine qe (d_lit (vs := [.agg #[.int .i64 _, .int .i64 _, .int .i64 _, .int .u8 _, .slice _ _ _]]) (cs := [.int .i64 _, .int .i64 _, .int .i64 _, .int .u8 _, .slice _ _ _]) hS Tryz.underlying29 Tryz.sizeOf53 Tryz.zeroValue53 rfl rfl rfl rfl (fun v hv => by simp only [List.mem_cons, List.not_mem_nil, or_false] at hv; subst hv; rfl) rfl) ?_
        clear hS
        rintro _ w_13 ⟨b61, rfl, hS⟩
        refine qe (i_appendO 1 0 hS rfl Tryz.underlying29 info53 rfl rfl rfl rfl rfl rfl rfl rfl (by omega) (by omega)) ?_
        clear hS
        rintro _ w_14 ⟨a62, p62, rfl, hS⟩
        refine qq hS (g_fieldAddr (o' := 3) Tryz.underlying31 rfl Tryz.sizeOf29 rfl rfl rfl) ?_
        refine qe (d_store 2 hS Tryz.sizeOf29 rfl rfl rfl (vs := [.slice _ _ _]) rfl rfl rfl (Nat.le_of_ble_eq_true rfl) (cs' := [_, _, _, _]) rfl) ?_
        clear hS
        rintro _ w_15 ⟨rfl, hS⟩
        refine ol_nil (thenN ?_)
        refine wpIn_seq ?_
        refine wpIn_seq ?_
        refine reg ?_
        refine qq hS (g_movev (v := .int .i64 _) rfl) ?_
        refine qq hS (g_move _) ?_
        refine qq hS (g_lenI rfl Tryz.underlying25 h26 rfl) ?_
        refine qq hS (g_lss rfl rfl) ?_
        refine ol_nil (thenN ?_)
        refine cond_s rfl ?_ ?_
        ·
          intro hc67
          try simp only [Bool.and_eq_true, Bool.or_eq_true, Bool.not_eq_true', Bool.and_eq_false_imp, Bool.or_eq_false_iff, Bool.not_eq_false', decide_eq_true_eq, decide_eq_false_iff_not] at hc67
          have hs76 := RSl.slL h26 k hk.2
          obtain ⟨a76, c76, hv76, _⟩ := hs76.len
          rw [hv76] at hs76
          refine draw (.cons 0 .pure (.cons 1 .held (.cons 2 .pure (.cons 3 .pure (.cons 4 .pure (.cons 5 .pure (.cons 6 .pure (.cons 7 .pure (.cons 8 .pure (.cons 9 .pure (.cons 10 .eff (.cons 11 .bar (.cons 12 .pure (.cons 13 .bar .nil)))))))))))))) mixed (by kernel_rfl) hS ?_
          intro w_16 hS
          refine sp rfl (g_fieldAddr (o' := 3) Tryz.underlying31 rfl Tryz.sizeOf29 rfl rfl rfl) ?_
          refine sh rfl (g_ldO1 2 Tryz.isAgg29 rfl rfl rfl) ?_
          refine sp rfl (g_move _) ?_
          refine sp rfl (g_lenI rfl Tryz.underlying25 h26 rfl) ?_
          refine sp rfl (g_movev (v := .int .i64 _) rfl) ?_
          refine sp rfl (g_sub rfl rfl (by omega) (by omega)) ?_
          refine sp rfl (g_move _) ?_
          refine sp rfl (g_movev (v := .int .i64 _) rfl) ?_
          refine sp rfl (g_toV (g_sliceLN (l0 := k) Tryz.underlying25 Tryz.sizeOf5 rfl rfl (by omega) (by omega) (by omega)) hv76) ?_
          refine sp rfl (g_buildv (pl := [(0, 1), (1, 1), (2, 1), (3, 1), (4, 1)]) (cs := [.int .i64 _, .int .i64 _, .int .i64 _, .int .u8 _, .slice _ _ _]) Tryz.zeroValue53 Tryz.underlying53 (fun w => by simp [Tryz.sizeOf25, Tryz.sizeOf3, Tryz.sizeOf5]) (mp (v := .int .i64 _) rfl (mp (v := .int .i64 _) rfl (mp (v := .slice _ _ _) rfl mp0))) rfl) ?_
          have hS0 := hS
          refine se rfl (d_lit (vs := [.agg #[.int .i64 _, .int .i64 _, .int .i64 _, .int .u8 _, .slice _ _ _]]) (cs := [.int .i64 _, .int .i64 _, .int .i64 _, .int .u8 _, .slice _ _ _]) hS Tryz.underlying29 Tryz.sizeOf53 Tryz.zeroValue53 rfl rfl rfl rfl (fun v hv => by simp only [List.mem_cons, List.not_mem_nil, or_false] at hv; subst hv; rfl) rfl) ?_
          rintro _ w_17 ⟨b78, rfl, hS⟩
          refine ⟨_, _, hS0.le (Sub.refl _) (List.sublist_cons_self _ _), hS, ?_⟩
          refine sb rfl (i_appendO 2 0 hS rfl Tryz.underlying29 info53 rfl rfl rfl rfl rfl rfl rfl rfl (by omega) (by omega)) ?_
          rintro _ w_18 ⟨a79, p79, rfl, hS⟩
          refine ⟨_, _, hS, ?_⟩
          refine sp rfl (g_fieldAddr (o' := 3) Tryz.underlying31 rfl Tryz.sizeOf29 rfl rfl rfl) ?_
          refine sb rfl (d_store 3 hS Tryz.sizeOf29 rfl rfl rfl (vs := [.slice _ _ _]) rfl rfl rfl (Nat.le_of_ble_eq_true rfl) (cs' := [_, _, _, _]) rfl) ?_
          rintro _ w_19 ⟨rfl, hS⟩
          refine ⟨_, _, hS, ?_⟩
          refine sn (thenN ?_)
          refine wpIn_seq ?_
          refine reg ?_
          refine qq hS (g_ldO 3 (vs := [.bool _, .int .i64 _, .int .i64 _, .slice _ _ _]) Tryz.sizeOf31 Tryz.isAgg31 rfl rfl rfl rfl) ?_
          refine qe (d_store 4 hS Tryz.sizeOf31 rfl rfl rfl (vs := [.bool _, .int .i64 _, .int .i64 _, .slice _ _ _]) rfl rfl rfl (Nat.le_of_ble_eq_true rfl) (cs' := [_, _, _, _]) rfl) ?_
          clear hS
          rintro _ w_20 ⟨rfl, hS⟩
          refine ol_nil (thenN ?_)
          refine wpIn_ret ?_
          refine ret1 Tryz.results8 (rv_cel 4 hS Tryz.sizeOf31 Tryz.isAgg31 rfl rfl rfl) ?_
          first
            | (have hops2 : (lifN (formP x) (formP y) k).ops = [⟨1, 0, (k : Int), 0, []⟩, ⟨4, 0, ((formP y).length : Int) - k, 0, (formP y).drop k⟩] := by unfold lifN; dsimp only; rw [if_pos (by omega), if_pos (by omega)]; rfl
               obtain ⟨I2, hS2, hI2, hd2⟩ := St.freezeRowR (R := ROp I) (xs := [⟨1, 0, (k : Int), 0, []⟩, ⟨4, 0, ((formP y).length : Int) - k, 0, (formP y).drop k⟩]) (css := [[.int .i64 1, .int .i64 0, .int .i64 k, .int .u8 0, .slice none 0 0], [.int .i64 4, .int .i64 0, .int .i64 (((formP y).length : Int) - k), .int .u8 0, .slice a76 ((formP y).drop k).length c76]]) (hS.sel [false, false, true, false, false]) rfl (by simp) ((All2.cons ⟨_, _, _, rfl, RFl.nil⟩ (All2.cons ⟨_, _, _, rfl, hs76⟩ (All2.nil _))))
               exact ⟨I2, a79, _, p79, k, rfl, hS2.nil, by omega, by omega, hts, by rw [hops2]; exact RSl.mono hd2 (Sub.refl _) (fun _ _ h => h.mono hI2)⟩)
            | (have hops2 : (lifN (formP x) (formP y) k).ops = [⟨1, 0, (k : Int), 0, []⟩] := by unfold lifN; dsimp only; rw [if_pos (by omega), if_neg (by omega)]; rfl
               obtain ⟨I2, hS2, hI2, hd2⟩ := St.freezeRowR (R := ROp I) (xs := [⟨1, 0, (k : Int), 0, []⟩]) (css := [[.int .i64 1, .int .i64 0, .int .i64 k, .int .u8 0, .slice none 0 0]]) (hS.sel [false, false, true, false, false]) rfl (by simp) ((All2.cons ⟨_, _, _, rfl, RFl.nil⟩ (All2.nil _)))
               exact ⟨I2, a62, _, p62, k, rfl, hS2.nil, by omega, by omega, hts, by rw [hops2]; exact RSl.mono hd2 (Sub.refl _) (fun _ _ h => h.mono hI2)⟩)
            | (have hops2 : (lifN (formP x) (formP y) k).ops = [⟨4, 0, ((formP y).length : Int) - k, 0, (formP y).drop k⟩] := by unfold lifN; dsimp only; rw [if_neg (by omega), if_pos (by omega)]; rfl
               obtain ⟨I2, hS2, hI2, hd2⟩ := St.freezeRowR (R := ROp I) (xs := [⟨4, 0, ((formP y).length : Int) - k, 0, (formP y).drop k⟩]) (css := [[.int .i64 4, .int .i64 0, .int .i64 (((formP y).length : Int) - k), .int .u8 0, .slice a76 ((formP y).drop k).length c76]]) (hS.sel [false, false, true, false, false]) rfl (by simp) ((All2.cons ⟨_, _, _, rfl, hs76⟩ (All2.nil _)))
               exact ⟨I2, a79, _, p79, k, rfl, hS2.nil, by omega, by omega, hts, by rw [hops2]; exact RSl.mono hd2 (Sub.refl _) (fun _ _ h => h.mono hI2)⟩)
            | (have hops2 : (lifN (formP x) (formP y) k).ops = ([] : List OpL) := by unfold lifN; dsimp only; rw [if_neg (by omega), if_neg (by omega)]; rfl
               obtain ⟨I2, hS2, hI2, hd2⟩ := St.freezeRowR (R := ROp I) (xs := ([] : List OpL)) (css := []) (hS.sel [false, false, true, false, false]) rfl (by simp) (All2.nil _)
               exact ⟨I2, none, _, 0, k, rfl, hS2.nil, by omega, by omega, hts, by rw [hops2]; exact RSl.mono hd2 (Sub.refl _) (fun _ _ h => h.mono hI2)⟩)
        ·
          intro hc67
          try simp only [Bool.and_eq_true, Bool.or_eq_true, Bool.not_eq_true', Bool.and_eq_false_imp, Bool.or_eq_false_iff, Bool.not_eq_false', decide_eq_true_eq, decide_eq_false_iff_not] at hc67
          refine wpIn_skip ?_
          refine thenN ?_
          refine wpIn_seq ?_
          refine reg ?_
          refine qq hS (g_ldO 2 (vs := [.bool _, .int .i64 _, .int .i64 _, .slice _ _ _]) Tryz.sizeOf31 Tryz.isAgg31 rfl rfl rfl rfl) ?_
          refine qe (d_store 3 hS Tryz.sizeOf31 rfl rfl rfl (vs := [.bool _, .int .i64 _, .int .i64 _, .slice _ _ _]) rfl rfl rfl (Nat.le_of_ble_eq_true rfl) (cs' := [_, _, _, _]) rfl) ?_
          clear hS
          rintro _ w_21 ⟨rfl, hS⟩
          refine ol_nil (thenN ?_)
          refine wpIn_ret ?_
          refine ret1 Tryz.results8 (rv_cel 3 hS Tryz.sizeOf31 Tryz.isAgg31 rfl rfl rfl) ?_
          first
            | (have hops2 : (lifN (formP x) (formP y) k).ops = [⟨1, 0, (k : Int), 0, []⟩, ⟨4, 0, ((formP y).length : Int) - k, 0, (formP y).drop k⟩] := by unfold lifN; dsimp only; rw [if_pos (by omega), if_pos (by omega)]; rfl
               obtain ⟨I2, hS2, hI2, hd2⟩ := St.freezeRowR (R := ROp I) (xs := [⟨1, 0, (k : Int), 0, []⟩, ⟨4, 0, ((formP y).length : Int) - k, 0, (formP y).drop k⟩]) (css := [[.int .i64 1, .int .i64 0, .int .i64 k, .int .u8 0, .slice none 0 0], [.int .i64 4, .int .i64 0, .int .i64 (((formP y).length : Int) - k), .int .u8 0, .slice a76 ((formP y).drop k).length c76]]) (hS.sel [false, true, false, false]) rfl (by simp) ((All2.cons ⟨_, _, _, rfl, RFl.nil⟩ (All2.cons ⟨_, _, _, rfl, hs76⟩ (All2.nil _))))
               exact ⟨I2, a79, _, p79, k, rfl, hS2.nil, by omega, by omega, hts, by rw [hops2]; exact RSl.mono hd2 (Sub.refl _) (fun _ _ h => h.mono hI2)⟩)
            | (have hops2 : (lifN (formP x) (formP y) k).ops = [⟨1, 0, (k : Int), 0, []⟩] := by unfold lifN; dsimp only; rw [if_pos (by omega), if_neg (by omega)]; rfl
               obtain ⟨I2, hS2, hI2, hd2⟩ := St.freezeRowR (R := ROp I) (xs := [⟨1, 0, (k : Int), 0, []⟩]) (css := [[.int .i64 1, .int .i64 0, .int .i64 k, .int .u8 0, .slice none 0 0]]) (hS.sel [false, true, false, false]) rfl (by simp) ((All2.cons ⟨_, _, _, rfl, RFl.nil⟩ (All2.nil _)))
               exact ⟨I2, a62, _, p62, k, rfl, hS2.nil, by omega, by omega, hts, by rw [hops2]; exact RSl.mono hd2 (Sub.refl _) (fun _ _ h => h.mono hI2)⟩)
            | (have hops2 : (lifN (formP x) (formP y) k).ops = [⟨4, 0, ((formP y).length : Int) - k, 0, (formP y).drop k⟩] := by unfold lifN; dsimp only; rw [if_neg (by omega), if_pos (by omega)]; rfl
               obtain ⟨I2, hS2, hI2, hd2⟩ := St.freezeRowR (R := ROp I) (xs := [⟨4, 0, ((formP y).length : Int) - k, 0, (formP y).drop k⟩]) (css := [[.int .i64 4, .int .i64 0, .int .i64 (((formP y).length : Int) - k), .int .u8 0, .slice a76 ((formP y).drop k).length c76]]) (hS.sel [false, true, false, false]) rfl (by simp) ((All2.cons ⟨_, _, _, rfl, hs76⟩ (All2.nil _)))
               exact ⟨I2, a79, _, p79, k, rfl, hS2.nil, by omega, by omega, hts, by rw [hops2]; exact RSl.mono hd2 (Sub.refl _) (fun _ _ h => h.mono hI2)⟩)
            | (have hops2 : (lifN (formP x) (formP y) k).ops = ([] : List OpL) := by unfold lifN; dsimp only; rw [if_neg (by omega), if_neg (by omega)]; rfl
               obtain ⟨I2, hS2, hI2, hd2⟩ := St.freezeRowR (R := ROp I) (xs := ([] : List OpL)) (css := []) (hS.sel [false, true, false, false]) rfl (by simp) (All2.nil _)
               exact ⟨I2, none, _, 0, k, rfl, hS2.nil, by omega, by omega, hts, by rw [hops2]; exact RSl.mono hd2 (Sub.refl _) (fun _ _ h => h.mono hI2)⟩)
      ·
        intro hc56
        try simp only [Bool.and_eq_true, Bool.or_eq_true, Bool.not_eq_true', Bool.and_eq_false_imp, Bool.or_eq_false_iff, Bool.not_eq_false', decide_eq_true_eq, decide_eq_false_iff_not] at hc56
        refine wpIn_skip ?_
        refine thenN ?_
        refine wpIn_seq ?_
        refine wpIn_seq ?_
        refine reg ?_
        refine qq hS (g_movev (v := .int .i64 _) rfl) ?_
        refine qq hS (g_move _) ?_
        refine qq hS (g_lenI rfl Tryz.underlying25 h26 rfl) ?_
        refine qq hS (g_lss rfl rfl) ?_
        refine ol_nil (thenN ?_)
        refine cond_s rfl ?_ ?_
        ·
          intro hc67
          try simp only [Bool.and_eq_true, Bool.or_eq_true, Bool.not_eq_true', Bool.and_eq_false_imp, Bool.or_eq_false_iff, Bool.not_eq_false', decide_eq_true_eq, decide_eq_false_iff_not] at hc67
          have hs76 := RSl.slL h26 k hk.2
          obtain ⟨a76, c76, hv76, _⟩ := hs76.len
          rw [hv76] at hs76
          refine draw (.cons 0 .pure (.cons 1 .held (.cons 2 .pure (.cons 3 .pure (.cons 4 .pure (.cons 5 .pure (.cons 6 .pure (.cons 7 .pure (.cons 8 .pure (.cons 9 .pure (.cons 10 .eff (.cons 11 .bar (.cons 12 .pure (.cons 13 .bar .nil)))))))))))))) mixed (by kernel_rfl) hS ?_
          intro w_22 hS
          refine sp rfl (g_fieldAddr (o' := 3) Tryz.underlying31 rfl Tryz.sizeOf29 rfl rfl rfl) ?_
          refine sh rfl (g_ldO1 1 Tryz.isAgg29 rfl rfl rfl) ?_
          refine sp rfl (g_move _) ?_
          refine sp rfl (g_lenI rfl Tryz.underlying25 h26 rfl) ?_
          refine sp rfl (g_movev (v := .int .i64 _) rfl) ?_
          refine sp rfl (g_sub rfl rfl (by omega) (by omega)) ?_
          refine sp rfl (g_move _) ?_
          refine sp rfl (g_movev (v := .int .i64 _) rfl) ?_
          refine sp rfl (g_toV (g_sliceLN (l0 := k) Tryz.underlying25 Tryz.sizeOf5 rfl rfl (by omega) (by omega) (by omega)) hv76) ?_
          refine sp rfl (g_buildv (pl := [(0, 1), (1, 1), (2, 1), (3, 1), (4, 1)]) (cs := [.int .i64 _, .int .i64 _, .int .i64 _, .int .u8 _, .slice _ _ _]) Tryz.zeroValue53 Tryz.underlying53 (fun w => by simp [Tryz.sizeOf25, Tryz.sizeOf3, Tryz.sizeOf5]) (mp (v := .int .i64 _) rfl (mp (v := .int .i64 _) rfl (mp (v := .slice _ _ _) rfl mp0))) rfl) ?_
          have hS0 := hS
          refine se rfl (d_lit (vs := [.agg #[.int .i64 _, .int .i64 _, .int .i64 _, .int .u8 _, .slice _ _ _]]) (cs := [.int .i64 _, .int .i64 _, .int .i64 _, .int .u8 _, .slice _ _ _]) hS Tryz.underlying29 Tryz.sizeOf53 Tryz.zeroValue53 rfl rfl rfl rfl (fun v hv => by simp only [List.mem_cons, List.not_mem_nil, or_false] at hv; subst hv; rfl) rfl) ?_
          rintro _ w_23 ⟨b78, rfl, hS⟩
          refine ⟨_, _, hS0.le (Sub.refl _) (List.sublist_cons_self _ _), hS, ?_⟩
          refine sb rfl (i_appendO 1 0 hS rfl Tryz.underlying29 info53 rfl rfl rfl rfl rfl rfl rfl rfl (by omega) (by omega)) ?_
          rintro _ w_24 ⟨a79, p79, rfl, hS⟩
          refine ⟨_, _, hS, ?_⟩
          refine sp rfl (g_fieldAddr (o' := 3) Tryz.underlying31 rfl Tryz.sizeOf29 rfl rfl rfl) ?_
          refine sb rfl (d_store 2 hS Tryz.sizeOf29 rfl rfl rfl (vs := [.slice _ _ _]) rfl rfl rfl (Nat.le_of_ble_eq_true rfl) (cs' := [_, _, _, _]) rfl) ?_
          rintro _ w_25 ⟨rfl, hS⟩
          refine ⟨_, _, hS, ?_⟩
          refine sn (thenN ?_)
          refine wpIn_seq ?_
          refine reg ?_
          refine qq hS (g_ldO 2 (vs := [.bool _, .int .i64 _, .int .i64 _, .slice _ _ _]) Tryz.sizeOf31 Tryz.isAgg31 rfl rfl rfl rfl) ?_
          refine qe (d_store 3 hS Tryz.sizeOf31 rfl rfl rfl (vs := [.bool _, .int .i64 _, .int .i64 _, .slice _ _ _]) rfl rfl rfl (Nat.le_of_ble_eq_true rfl) (cs' := [_, _, _, _]) rfl) ?_
          clear hS
          rintro _ w_26 ⟨rfl, hS⟩
          refine ol_nil (thenN ?_)
          refine wpIn_ret ?_
          refine ret1 Tryz.results8 (rv_cel 3 hS Tryz.sizeOf31 Tryz.isAgg31 rfl rfl rfl) ?_
          first
            | (have hops2 : (lifN (formP x) (formP y) k).ops = [⟨1, 0, (k : Int), 0, []⟩, ⟨4, 0, ((formP y).length : Int) - k, 0, (formP y).drop k⟩] := by unfold lifN; dsimp only; rw [if_pos (by omega), if_pos (by omega)]; rfl
               obtain ⟨I2, hS2, hI2, hd2⟩ := St.freezeRowR (R := ROp I) (xs := [⟨1, 0, (k : Int), 0, []⟩, ⟨4, 0, ((formP y).length : Int) - k, 0, (formP y).drop k⟩]) (css := [[.int .i64 1, .int .i64 0, .int .i64 k, .int .u8 0, .slice none 0 0], [.int .i64 4, .int .i64 0, .int .i64 (((formP y).length : Int) - k), .int .u8 0, .slice a76 ((formP y).drop k).length c76]]) (hS.sel [false, true, false, false]) rfl (by simp) ((All2.cons ⟨_, _, _, rfl, RFl.nil⟩ (All2.cons ⟨_, _, _, rfl, hs76⟩ (All2.nil _))))
               exact ⟨I2, a79, _, p79, k, rfl, hS2.nil, by omega, by omega, hts, by rw [hops2]; exact RSl.mono hd2 (Sub.refl _) (fun _ _ h => h.mono hI2)⟩)
            | (have hops2 : (lifN (formP x) (formP y) k).ops = [⟨1, 0, (k : Int), 0, []⟩] := by unfold lifN; dsimp only; rw [if_pos (by omega), if_neg (by omega)]; rfl
               obtain ⟨I2, hS2, hI2, hd2⟩ := St.freezeRowR (R := ROp I) (xs := [⟨1, 0, (k : Int), 0, []⟩]) (css := [[.int .i64 1, .int .i64 0, .int .i64 k, .int .u8 0, .slice none 0 0]]) (hS.sel [false, true, false, false]) rfl (by simp) ((All2.cons ⟨_, _, _, rfl, RFl.nil⟩ (All2.nil _)))
               exact ⟨I2, a62, _, p62, k, rfl, hS2.nil, by omega, by omega, hts, by rw [hops2]; exact RSl.mono hd2 (Sub.refl _) (fun _ _ h => h.mono hI2)⟩)
            | (have hops2 : (lifN (formP x) (formP y) k).ops = [⟨4, 0, ((formP y).length : Int) - k, 0, (formP y).drop k⟩] := by unfold lifN; dsimp only; rw [if_neg (by omega), if_pos (by omega)]; rfl
               obtain ⟨I2, hS2, hI2, hd2⟩ := St.freezeRowR (R := ROp I) (xs := [⟨4, 0, ((formP y).length : Int) - k, 0, (formP y).drop k⟩]) (css := [[.int .i64 4, .int .i64 0, .int .i64 (((formP y).length : Int) - k), .int .u8 0, .slice a76 ((formP y).drop k).length c76]]) (hS.sel [false, true, false, false]) rfl (by simp) ((All2.cons ⟨_, _, _, rfl, hs76⟩ (All2.nil _)))
               exact ⟨I2, a79, _, p79, k, rfl, hS2.nil, by omega, by omega, hts, by rw [hops2]; exact RSl.mono hd2 (Sub.refl _) (fun _ _ h => h.mono hI2)⟩)
            | (have hops2 : (lifN (formP x) (formP y) k).ops = ([] : List OpL) := by unfold lifN; dsimp only; rw [if_neg (by omega), if_neg (by omega)]; rfl
               obtain ⟨I2, hS2, hI2, hd2⟩ := St.freezeRowR (R := ROp I) (xs := ([] : List OpL)) (css := []) (hS.sel [false, true, false, false]) rfl (by simp) (All2.nil _)
               exact ⟨I2, none, _, 0, k, rfl, hS2.nil, by omega, by omega, hts, by rw [hops2]; exact RSl.mono hd2 (Sub.refl _) (fun _ _ h => h.mono hI2)⟩)
        ·
          intro hc67
          try simp only [Bool.and_eq_true, Bool.or_eq_true, Bool.not_eq_true', Bool.and_eq_false_imp, Bool.or_eq_false_iff, Bool.not_eq_false', decide_eq_true_eq, decide_eq_false_iff_not] at hc67
          refine wpIn_skip ?_
          refine thenN ?_
          refine wpIn_seq ?_
          refine reg ?_
          refine qq hS (g_ldO 1 (vs := [.bool _, .int .i64 _, .int .i64 _, .slice _ _ _]) Tryz.sizeOf31 Tryz.isAgg31 rfl rfl rfl rfl) ?_
          refine qe (d_store 2 hS Tryz.sizeOf31 rfl rfl rfl (vs := [.bool _, .int .i64 _, .int .i64 _, .slice _ _ _]) rfl rfl rfl (Nat.le_of_ble_eq_true rfl) (cs' := [_, _, _, _]) rfl) ?_
          clear hS
          rintro _ w_27 ⟨rfl, hS⟩
          refine ol_nil (thenN ?_)
          refine wpIn_ret ?_
          refine ret1 Tryz.results8 (rv_cel 2 hS Tryz.sizeOf31 Tryz.isAgg31 rfl rfl rfl) ?_
          first
            | (have hops2 : (lifN (formP x) (formP y) k).ops = [⟨1, 0, (k : Int), 0, []⟩, ⟨4, 0, ((formP y).length : Int) - k, 0, (formP y).drop k⟩] := by unfold lifN; dsimp only; rw [if_pos (by omega), if_pos (by omega)]; rfl
               obtain ⟨I2, hS2, hI2, hd2⟩ := St.freezeRowR (R := ROp I) (xs := [⟨1, 0, (k : Int), 0, []⟩, ⟨4, 0, ((formP y).length : Int) - k, 0, (formP y).drop k⟩]) (css := [[.int .i64 1, .int .i64 0, .int .i64 k, .int .u8 0, .slice none 0 0], [.int .i64 4, .int .i64 0, .int .i64 (((formP y).length : Int) - k), .int .u8 0, .slice a76 ((formP y).drop k).length c76]]) (hS.sel [true, false, false]) rfl (by simp) ((All2.cons ⟨_, _, _, rfl, RFl.nil⟩ (All2.cons ⟨_, _, _, rfl, hs76⟩ (All2.nil _))))
               exact ⟨I2, a79, _, p79, k, rfl, hS2.nil, by omega, by omega, hts, by rw [hops2]; exact RSl.mono hd2 (Sub.refl _) (fun _ _ h => h.mono hI2)⟩)
            | (have hops2 : (lifN (formP x) (formP y) k).ops = [⟨1, 0, (k : Int), 0, []⟩] := by unfold lifN; dsimp only; rw [if_pos (by omega), if_neg (by omega)]; rfl
               obtain ⟨I2, hS2, hI2, hd2⟩ := St.freezeRowR (R := ROp I) (xs := [⟨1, 0, (k : Int), 0, []⟩]) (css := [[.int .i64 1, .int .i64 0, .int .i64 k, .int .u8 0, .slice none 0 0]]) (hS.sel [true, false, false]) rfl (by simp) ((All2.cons ⟨_, _, _, rfl, RFl.nil⟩ (All2.nil _)))
               exact ⟨I2, a62, _, p62, k, rfl, hS2.nil, by omega, by omega, hts, by rw [hops2]; exact RSl.mono hd2 (Sub.refl _) (fun _ _ h => h.mono hI2)⟩)
            | (have hops2 : (lifN (formP x) (formP y) k).ops = [⟨4, 0, ((formP y).length : Int) - k, 0, (formP y).drop k⟩] := by unfold lifN; dsimp only; rw [if_neg (by omega), if_pos (by omega)]; rfl
               obtain ⟨I2, hS2, hI2, hd2⟩ := St.freezeRowR (R := ROp I) (xs := [⟨4, 0, ((formP y).length : Int) - k, 0, (formP y).drop k⟩]) (css := [[.int .i64 4, .int .i64 0, .int .i64 (((formP y).length : Int) - k), .int .u8 0, .slice a76 ((formP y).drop k).length c76]]) (hS.sel [true, false, false]) rfl (by simp) ((All2.cons ⟨_, _, _, rfl, hs76⟩ (All2.nil _)))
               exact ⟨I2, a79, _, p79, k, rfl, hS2.nil, by omega, by omega, hts, by rw [hops2]; exact RSl.mono hd2 (Sub.refl _) (fun _ _ h => h.mono hI2)⟩)
            | (have hops2 : (lifN (formP x) (formP y) k).ops = ([] : List OpL) := by unfold lifN; dsimp only; rw [if_neg (by omega), if_neg (by omega)]; rfl
               obtain ⟨I2, hS2, hI2, hd2⟩ := St.freezeRowR (R := ROp I) (xs := ([] : List OpL)) (css := []) (hS.sel [true, false, false]) rfl (by simp) (All2.nil _)
               exact ⟨I2, none, _, 0, k, rfl, hS2.nil, by omega, by omega, hts, by rw [hops2]; exact RSl.mono hd2 (Sub.refl _) (fun _ _ h => h.mono hI2)⟩)

end Go.Proofs.YtaklmbhfmpdinaaGreat

