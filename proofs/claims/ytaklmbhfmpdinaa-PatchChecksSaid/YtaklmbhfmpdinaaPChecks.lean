/- inlaylaw06.PatchChecks: its function answers true. Conditions: arguments are of their kinds. -/
import Derived.Test.YtaklmbhfmpdinaaAny6
import Derived.Test.YtaklmbhfmpdinaaKCore3
import Derived.Test.YtaklmbhfmpdinaaSanity6
import Derived.Test.YtaklmbhfmpdinaaPSymbols
namespace Go.Proofs.Ytaklmbhfmpdinaa
open Go Go.RowKit Go.Inl
set_option linter.unusedSimpArgs false
set_option linter.unusedVariables false
theorem g_neqbX {P : Program} {n : Nat} {σ : Nat → Value} {S : World → Prop} {t t' ty : TypeId} {x y : Operand} {a b : Bool} (hT : P.underlying t = some .bool) (hx : ev n σ x = .bool a) (hy : ev n σ y = .bool b) (h : a = b) : Gives P (ev n σ) S (.binOp .neq t x y t') ty (.bool false) := g_toV (g_neqb hT hx hy) (by subst h; simp)
theorem u16w (a : Int) : 0 ≤ IntKind.u16.wrap a ∧ IntKind.u16.wrap a ≤ 65535 := by rw [IntKind.wrap_u16]; omega
theorem u8w (a : Int) : 0 ≤ IntKind.u8.wrap a ∧ IntKind.u8.wrap a ≤ 255 := by rw [IntKind.wrap_u8]; omega
/-- The four ways of changing an operation. -/
def chg (x : OpL) (t : Int) : List OpL := [⟨x.kind, x.from_ + t, x.len, x.b, x.data⟩, ⟨x.kind, x.from_, x.len + t, x.b, x.data⟩, ⟨t.tmod 6, x.from_, x.len, x.b, x.data⟩, ⟨x.kind, x.from_, x.len, IntKind.u8.wrap t, x.data⟩]
theorem fill4x5 (z0 z1 z2 z3 z4 z5 z6 z7 z8 z9 z10 z11 z12 z13 z14 z15 z16 z17 z18 z19 a0 a1 a2 a3 a4 b0 b1 b2 b3 b4 c0 c1 c2 c3 c4 d0 d1 d2 d3 d4 : Value) : Instr.fill (fun i => some (i * 5, 5)) #[z0, z1, z2, z3, z4, z5, z6, z7, z8, z9, z10, z11, z12, z13, z14, z15, z16, z17, z18, z19] [(0, .agg #[a0, a1, a2, a3, a4]), (1, .agg #[b0, b1, b2, b3, b4]), (2, .agg #[c0, c1, c2, c3, c4]), (3, .agg #[d0, d1, d2, d3, d4])] = some #[a0, a1, a2, a3, a4, b0, b1, b2, b3, b4, c0, c1, c2, c3, c4, d0, d1, d2, d3, d4] := by
  simp [Instr.fill, Value.cells, List.zipIdx]
theorem fill2x4 (z0 z1 z2 z3 z4 z5 z6 z7 a0 a1 a2 a3 b0 b1 b2 b3 : Value) : Instr.fill (fun i => some (i * 4, 4)) #[z0, z1, z2, z3, z4, z5, z6, z7] [(0, .agg #[a0, a1, a2, a3]), (1, .agg #[b0, b1, b2, b3])] = some #[a0, a1, a2, a3, b0, b1, b2, b3] := by
  simp [Instr.fill, Value.cells, List.zipIdx]
def opc (a : Option Addr) (m c : Nat) (x : OpL) : List Value := [.int .i64 x.kind, .int .i64 x.from_, .int .i64 x.len, .int .u8 x.b, .slice a m c]
theorem chg_b {x y : OpL} {t : Int} {k : Nat} (h : OpB x) (hy : (chg x t)[k]? = some y) : OpB y ∧ y.data = x.data := by
  match k, hy with
  | 0, hy => simp [chg] at hy; subst hy; exact ⟨h, rfl⟩
  | 1, hy => simp [chg] at hy; subst hy; exact ⟨h, rfl⟩
  | 2, hy => simp [chg] at hy; subst hy; exact ⟨h, rfl⟩
  | 3, hy => simp [chg] at hy; subst hy; exact ⟨⟨u8w t, h.2⟩, rfl⟩
  | k + 4, hy => simp [chg] at hy
theorem opc_cl (a : Option Addr) (m c : Nat) (l : List OpL) : ∀ cs ∈ l.map (opc a m c), cs.length = 5 := fun cs h => by
  obtain ⟨x, _, rfl⟩ := List.mem_map.1 h; rfl
theorem set_cl {css : List (List Value)} {vs : List Value} {i sz : Nat} (h : ∀ c ∈ css, c.length = sz) (hv : vs.length = sz) : ∀ c ∈ css.set i vs, c.length = sz := fun c hc => by
  rcases List.mem_or_eq_of_mem_set hc with h1 | rfl
  · exact h c h1
  · exact hv
theorem All2.setI {α : Type} {R : List Value → α → Prop} {css : List (List Value)} {xs : List α} {cs : List Value} {x : α} {i : Nat} (h : All2 R css xs) (hx : R cs x) : All2 R (css.set i cs) (xs.set i x) := by
  refine ⟨by simp [h.1], fun j c y h1 h2 => ?_⟩
  by_cases e : i = j
  · subst e
    have l1 : i < css.length := by have := (List.getElem?_eq_some_iff.1 h1).1; simpa using this
    have l2 : i < xs.length := by rw [← h.1]; exact l1
    rw [List.getElem?_set_self l1] at h1
    rw [List.getElem?_set_self l2] at h2
    cases h1; cases h2; exact hx
  · rw [List.getElem?_set_ne e] at h1 h2
    exact h.2 j c y h1 h2
theorem checkR_any (p : PatL) (ad : Option Addr) (m cap : Nat) (w0 : World) (I0 : Imm) (hI : Sat I0 w0) (hops : ROps I0 (.slice ad m cap) p.ops) :
    Ctr Try.prog 8 [.agg #[.bool p.lifted, .int .i64 p.in_, .int .i64 p.out, .slice ad m cap]] w0 (fun v w' => v = .tuple #[.int .i64 (checkP p).1, .int .i64 (checkP p).2] ∧ Ext w0 I0 w' I0) := by
  have := checkR_w p ad m cap w0 I0 hI hops
  rwa [checkR_all] at this

set_option maxRecDepth 20000 in
set_option maxHeartbeats 4000000 in
theorem pchecks_c (p1 : PatL) (a1 : Option Addr) (m1 c1 : Nat) (r : Int) (ad : Option Addr) (cap : Nat) (l : List Q4) (x0 x1 x2 x3 : Int) (w0 : World) (I0 : Imm) (hI : Sat I0 w0) (h1 : ROps I0 (.slice a1 m1 c1) p1.ops) (hb1 : ∀ x ∈ p1.ops, OpB x) (hr : 0 ≤ r ∧ r ≤ 255) (h4 : RFl I0 4 q4C (.slice ad l.length cap) l) (hq : ∀ q ∈ l, q.wf) (hx1 : -32768 ≤ x1 ∧ x1 ≤ 32767) :
    Ctr Try.prog 3 [.agg #[.bool p1.lifted, .int .i64 p1.in_, .int .i64 p1.out, .slice a1 m1 c1], .agg #[.int .u8 r, .slice ad l.length cap], .agg #[.int .i16 x0, .int .i16 x1, .int .i16 x2, .int .i16 x3]] w0 (fun v w' => ∃ I', v = .bool true ∧ Ext w0 I0 w' I') := by
  have hr13 : 0 ≤ r % 13 ∧ r % 13 ≤ 65536 := by omega
  have hpw := madeP_wf (size := r % 13) hq hr13
  obtain ⟨hpk, hpo, hpl⟩ := madeP_ok (size := r % 13) hq hr13
  obtain ⟨p, hp⟩ : ∃ p, madeP l (r % 13) = p := ⟨_, rfl⟩
  rw [hp] at hpw hpk hpo hpl
  obtain ⟨k1, k2, k3, k4, k5, k6, k7⟩ := checkP_ok hpk
  have hpb : ∀ x ∈ p.ops, OpB x := fun x hx => ⟨(hpw.ops x hx).b, (hpw.ops x hx).data⟩
  have hw0 := u16w x0
  have hw2 := u16w x2
  have hw3 := u16w x3
  refine fn (n := 203) Try.func3 rfl rfl rfl ?_
  have hS := St.start hI
  refine wpIn_seq ?_
  refine reg ?_
  refine qe (d_box (cs := [.bool _, .int .i64 _, .int .i64 _, .slice _ _ _]) hS rfl) ?_
  clear hS
  rintro _ w_1 ⟨b3, rfl, hS⟩
  refine qe (d_box (cs := [.int .u8 _, .slice _ _ _]) hS rfl) ?_
  clear hS
  rintro _ w_2 ⟨b4, rfl, hS⟩
  refine qe (d_box (cs := [.int .i16 _, .int .i16 _, .int .i16 _, .int .i16 _]) hS rfl) ?_
  clear hS
  rintro _ w_3 ⟨b5, rfl, hS⟩
  refine qq hS (g_assignv (v := .bool _) rfl) ?_
  refine ol_nil (thenN ?_)
  refine wpIn_seq ?_
  refine reg ?_
  refine qe (d_call Try.call5 rfl (sanity6_c _ _ hS.imm)) ?_
  rintro _ w_4 ⟨I_f, rfl, hE⟩
  replace hS := hS.callE hE
  replace h1 := h1.mono hE.ext
  replace h4 := h4.mono hE.ext
  refine qq hS (g_assignv (v := .bool _) rfl) ?_
  refine ol_nil (thenN ?_)
  refine wpIn_seq ?_
  refine wpIn_seq ?_
  refine reg ?_
  refine qq hS (g_fieldAddr (o' := 3) Try.underlying24 rfl Try.sizeOf22 rfl rfl rfl) ?_
  refine qq hS (g_ldO1 2 Try.isAgg22 rfl rfl rfl) ?_
  refine qq hS (g_lenI rfl Try.underlying22 h1 rfl) ?_
  refine qq hS (g_gtr rfl rfl) ?_
  refine ol_nil (thenN ?_)
  refine cond_s rfl ?_ ?_
  ·
    intro hc25
    try simp only [Bool.and_eq_true, Bool.or_eq_true, Bool.not_eq_true', Bool.and_eq_false_imp, Bool.or_eq_false_iff, Bool.not_eq_false', decide_eq_true_eq, decide_eq_false_iff_not] at hc25
    refine wpIn_seq ?_
    refine reg ?_
    refine qq hS (g_movev (v := .bool _) rfl) ?_
    refine qq hS (g_assignv (v := .bool _) rfl) ?_
    refine ol_nil (thenN ?_)
    refine wpIn_ret ?_
    refine thenR ?_
    refine ret1 Try.results3 (rv_tmp (v := .bool _) rfl) ?_
    exact ⟨_, rfl, hS.nil⟩
  ·
    intro hc25
    try simp only [Bool.and_eq_true, Bool.or_eq_true, Bool.not_eq_true', Bool.and_eq_false_imp, Bool.or_eq_false_iff, Bool.not_eq_false', decide_eq_true_eq, decide_eq_false_iff_not] at hc25
    refine wpIn_skip ?_
    refine thenN ?_
    refine wpIn_seq ?_
    refine reg ?_
    refine qq hS (g_ldO 1 (vs := [.int .u8 _, .slice _ _ _]) Try.sizeOf27 Try.isAgg27 rfl rfl rfl rfl) ?_
    refine qe (d_call Try.call6 rfl (made6_E r ad cap l p _ _ hS.imm h4 hq hr hp)) ?_
    rintro _ w_5 ⟨I_f, a28, m28, c28, rfl, hE, h28⟩
    replace hS := hS.callE hE
    replace h1 := h1.mono hE.ext
    replace h4 := h4.mono hE.ext
    refine qe (d_alloc (cs := [.bool _, .int .i64 _, .int .i64 _, .slice _ _ _]) hS Try.zeroValue24 rfl) ?_
    clear hS
    rintro _ w_6 ⟨b8, rfl, hS⟩
    refine qe (d_store 0 hS Try.sizeOf24 rfl rfl rfl (vs := [.bool _, .int .i64 _, .int .i64 _, .slice _ _ _]) rfl rfl rfl (Nat.le_of_ble_eq_true rfl) (cs' := [_, _, _, _]) rfl) ?_
    clear hS
    rintro _ w_7 ⟨rfl, hS⟩
    refine ol_nil (thenN ?_)
    refine wpIn_seq ?_
    refine reg ?_
    refine qe (d_buildSlice0 hS Try.underlying22 Try.sizeOf35) ?_
    clear hS
    rintro _ w_8 ⟨hS, b29_, rfl⟩
    refine qq hS (g_fieldAddr (o' := 3) Try.underlying24 rfl Try.sizeOf22 rfl rfl rfl) ?_
    refine qq hS (g_ldO1 1 Try.isAgg22 rfl rfl rfl) ?_
    refine qe (i_appendR 0 hS rfl Try.underlying22 info35 rfl rfl rfl rfl ROp.one h28 rfl (by omega) (by omega)) ?_
    clear hS
    rintro _ w_9 ⟨a32, p32, css32, rfl, hcl32, hca32, hS⟩
    refine qq hS (g_fieldAddr (o' := 3) Try.underlying24 rfl Try.sizeOf22 rfl rfl rfl) ?_
    refine qe (d_store 1 hS Try.sizeOf22 rfl rfl rfl (vs := [.slice _ _ _]) rfl rfl rfl (Nat.le_of_ble_eq_true rfl) (cs' := [_, _, _, _]) rfl) ?_
    clear hS
    rintro _ w_10 ⟨rfl, hS⟩
    refine ol_nil (thenN ?_)
    refine meet (fun σ w => ∃ (q : PatL) (J : Imm) (a : Option Addr) (N c : Nat) (css : List (List Value)), (okS σ [(3, .pointer (some ⟨b3, 0, none⟩)), (7, .bool true), (8, .pointer (some ⟨b8, 0, none⟩))] ∧ St [] w0 I0 J w [.cel b8 24 [.bool q.lifted, .int .i64 q.in_, .int .i64 q.out, .slice a N c], .row (.slice a N c) 35 5 N css.flatten, .cel b3 24 [.bool p1.lifted, .int .i64 p1.in_, .int .i64 p1.out, .slice a1 m1 c1]]) ∧ N = q.ops.length ∧ (∀ c ∈ css, c.length = 5) ∧ All2 (ROp J) css q.ops ∧ (∀ x ∈ q.ops, OpB x) ∧ ROps J (.slice a1 m1 c1) p1.ops) ?_ ?_
    ·
      refine wpIn_seq ?_
      refine reg ?_
      refine qq hS (g_indexArr (o' := 0) Try.underlying29 Try.sizeOf28 rfl rfl (by decide) (by decide) rfl) ?_
      refine qq hS (g_ldO1 2 Try.isAgg28 rfl rfl rfl) ?_
      refine qq hS (g_conv Try.underlying28 Try.underlying32 rfl) ?_
      refine qq hS (g_rem rfl rfl (by omega) (by omega)) ?_
      refine ol_nil (thenN ?_)
      refine wpIn_block ?_
      refine wpIn_seq ?_
      refine reg ?_
      refine qq hS (g_eql rfl rfl) ?_
      refine qq hS (g_assignv (v := .bool _) rfl) ?_
      refine ol_nil (thenN ?_)
      refine cond_s rfl ?_ ?_
      ·
        intro hc120
        try simp only [Bool.and_eq_true, Bool.or_eq_true, Bool.not_eq_true', Bool.and_eq_false_imp, Bool.or_eq_false_iff, Bool.not_eq_false', decide_eq_true_eq, decide_eq_false_iff_not] at hc120
        refine reg ?_
        refine qq hS (g_fieldAddr (o' := 1) Try.underlying24 rfl Try.sizeOf3 rfl rfl rfl) ?_
        refine qq hS (g_ldO1 1 Try.isAgg3 rfl rfl rfl) ?_
        refine qq hS (g_indexArr (o' := 1) Try.underlying29 Try.sizeOf28 rfl rfl (by decide) (by decide) rfl) ?_
        refine qq hS (g_ldO1 2 Try.isAgg28 rfl rfl rfl) ?_
        refine qq hS (g_convi Try.underlying28 Try.underlying3 rfl (by omega) (by omega)) ?_
        refine qq hS (g_add rfl rfl (by omega) (by omega)) ?_
        refine qq hS (g_fieldAddr (o' := 1) Try.underlying24 rfl Try.sizeOf3 rfl rfl rfl) ?_
        refine qe (d_store 1 hS Try.sizeOf3 rfl rfl rfl (vs := [.int .i64 _]) rfl rfl rfl (Nat.le_of_ble_eq_true rfl) (cs' := [_, _, _, _]) rfl) ?_
        clear hS
        rintro _ w_11 ⟨rfl, hS⟩
        refine ol_nil (blkN (thenN ?_))
        first
          | exact ⟨_, rfl, ⟨p.lifted, p.in_ + x1, p.out, p.ops⟩, _, _, _, _, _, ⟨⟨rfl, rfl, rfl, trivial⟩, (hS.ord [1, 0, 4])⟩, by simp, hcl32, hca32, hpb, h1⟩
          | exact ⟨_, rfl, ⟨p.lifted, p.in_, p.out + x1, p.ops⟩, _, _, _, _, _, ⟨⟨rfl, rfl, rfl, trivial⟩, (hS.ord [1, 0, 4])⟩, by simp, hcl32, hca32, hpb, h1⟩
          | exact ⟨_, rfl, ⟨p.lifted, p.in_, p.out, p.ops⟩, _, _, _, _, _, ⟨⟨rfl, rfl, rfl, trivial⟩, (hS.ord [1, 0, 4])⟩, by simp, hcl32, hca32, hpb, h1⟩
          | exact ⟨_, rfl, ⟨p.lifted, p.in_, p.out, p.ops.set i y⟩, _, _, _, _, _, ⟨⟨rfl, rfl, rfl, trivial⟩, (hS.ord [1, 0, 4])⟩, by simp, set_cl hcl32 rfl, All2.setI hca32 ⟨adx, mx, capx, rfl, hdy⟩, hpbs, h1⟩
      ·
        intro hc120
        try simp only [Bool.and_eq_true, Bool.or_eq_true, Bool.not_eq_true', Bool.and_eq_false_imp, Bool.or_eq_false_iff, Bool.not_eq_false', decide_eq_true_eq, decide_eq_false_iff_not] at hc120
        refine wpIn_seq ?_
        refine reg ?_
        refine qq hS (g_eql rfl rfl) ?_
        refine qq hS (g_assignv (v := .bool _) rfl) ?_
        refine ol_nil (thenN ?_)
        refine cond_s rfl ?_ ?_
        ·
          intro hc129
          try simp only [Bool.and_eq_true, Bool.or_eq_true, Bool.not_eq_true', Bool.and_eq_false_imp, Bool.or_eq_false_iff, Bool.not_eq_false', decide_eq_true_eq, decide_eq_false_iff_not] at hc129
          refine reg ?_
          refine qq hS (g_fieldAddr (o' := 2) Try.underlying24 rfl Try.sizeOf3 rfl rfl rfl) ?_
          refine qq hS (g_ldO1 1 Try.isAgg3 rfl rfl rfl) ?_
          refine qq hS (g_indexArr (o' := 1) Try.underlying29 Try.sizeOf28 rfl rfl (by decide) (by decide) rfl) ?_
          refine qq hS (g_ldO1 2 Try.isAgg28 rfl rfl rfl) ?_
          refine qq hS (g_convi Try.underlying28 Try.underlying3 rfl (by omega) (by omega)) ?_
          refine qq hS (g_add rfl rfl (by omega) (by omega)) ?_
          refine qq hS (g_fieldAddr (o' := 2) Try.underlying24 rfl Try.sizeOf3 rfl rfl rfl) ?_
          refine qe (d_store 1 hS Try.sizeOf3 rfl rfl rfl (vs := [.int .i64 _]) rfl rfl rfl (Nat.le_of_ble_eq_true rfl) (cs' := [_, _, _, _]) rfl) ?_
          clear hS
          rintro _ w_12 ⟨rfl, hS⟩
          refine ol_nil (blkN (thenN ?_))
          first
            | exact ⟨_, rfl, ⟨p.lifted, p.in_ + x1, p.out, p.ops⟩, _, _, _, _, _, ⟨⟨rfl, rfl, rfl, trivial⟩, (hS.ord [1, 0, 4])⟩, by simp, hcl32, hca32, hpb, h1⟩
            | exact ⟨_, rfl, ⟨p.lifted, p.in_, p.out + x1, p.ops⟩, _, _, _, _, _, ⟨⟨rfl, rfl, rfl, trivial⟩, (hS.ord [1, 0, 4])⟩, by simp, hcl32, hca32, hpb, h1⟩
            | exact ⟨_, rfl, ⟨p.lifted, p.in_, p.out, p.ops⟩, _, _, _, _, _, ⟨⟨rfl, rfl, rfl, trivial⟩, (hS.ord [1, 0, 4])⟩, by simp, hcl32, hca32, hpb, h1⟩
            | exact ⟨_, rfl, ⟨p.lifted, p.in_, p.out, p.ops.set i y⟩, _, _, _, _, _, ⟨⟨rfl, rfl, rfl, trivial⟩, (hS.ord [1, 0, 4])⟩, by simp, set_cl hcl32 rfl, All2.setI hca32 ⟨adx, mx, capx, rfl, hdy⟩, hpbs, h1⟩
        ·
          intro hc129
          try simp only [Bool.and_eq_true, Bool.or_eq_true, Bool.not_eq_true', Bool.and_eq_false_imp, Bool.or_eq_false_iff, Bool.not_eq_false', decide_eq_true_eq, decide_eq_false_iff_not] at hc129
          refine wpIn_seq ?_
          refine reg ?_
          refine qq hS (g_fieldAddr (o' := 3) Try.underlying24 rfl Try.sizeOf22 rfl rfl rfl) ?_
          refine qq hS (g_ldO1 1 Try.isAgg22 rfl rfl rfl) ?_
          refine qq hS (g_lenR 0 rfl Try.underlying22 rfl rfl) ?_
          refine qq hS (g_gtr rfl rfl) ?_
          refine ol_nil (thenN ?_)
          refine cond_s rfl ?_ ?_
          ·
            intro hc41
            try simp only [Bool.and_eq_true, Bool.or_eq_true, Bool.not_eq_true', Bool.and_eq_false_imp, Bool.or_eq_false_iff, Bool.not_eq_false', decide_eq_true_eq, decide_eq_false_iff_not] at hc41
            refine wpIn_seq ?_
            obtain ⟨i, hi, hil⟩ : ∃ i : Nat, IntKind.u16.wrap x2 % ((0 + p.ops.length : Nat) : Int) = i ∧ i < p.ops.length := by
              have e1 := Int.emod_nonneg (IntKind.u16.wrap x2) (show ((0 + p.ops.length : Nat) : Int) ≠ 0 by omega)
              have e2 := Int.emod_lt_of_pos (IntKind.u16.wrap x2) (show (0 : Int) < ((0 + p.ops.length : Nat) : Int) by omega)
              exact ⟨(IntKind.u16.wrap x2 % ((0 + p.ops.length : Nat) : Int)).toNat, by omega, by omega⟩
            obtain ⟨x, hxi⟩ : ∃ x, p.ops[i]? = some x := ⟨_, List.getElem?_eq_getElem hil⟩
            obtain ⟨cx, hcx⟩ : ∃ c, css32[i]? = some c := ⟨_, List.getElem?_eq_getElem (by rw [hca32.1]; exact hil)⟩
            obtain ⟨adx, mx, capx, rfl, hdx⟩ := hca32.2 i cx x hcx hxi
            obtain ⟨k4, hk4, hk4l⟩ : ∃ k : Nat, IntKind.u16.wrap x3 % 4 = k ∧ k < 4 := ⟨(IntKind.u16.wrap x3 % 4).toNat, by omega, by omega⟩
            obtain ⟨y, hy⟩ : ∃ y, (chg x x1)[k4]? = some y := ⟨_, List.getElem?_eq_getElem (by show k4 < 4; exact hk4l)⟩
            have hyc : ((chg x x1).map (opc adx mx capx))[((k4 : Int)).toNat]? = some (opc adx mx capx y) := by rw [Int.toNat_natCast, List.getElem?_map, hy]; rfl
            obtain ⟨hyb, hyd⟩ := chg_b (hpb x (List.mem_of_getElem? hxi)) hy
            have hdy := hdx
            rw [← hyd] at hdy
            have hpbs : ∀ z ∈ p.ops.set i y, OpB z := fun z hz => by
              rcases List.mem_or_eq_of_mem_set hz with h | rfl
              · exact hpb z h
              · exact hyb
            have hxw := hpw.ops x (List.mem_of_getElem? hxi)
            obtain ⟨⟨f1, f2⟩, ⟨f3, f4⟩, ⟨f5, f6⟩, f7, f8⟩ := hxw
            have hN : 0 + p.ops.length = css32.length := by rw [hca32.1]; omega
            refine reg ?_
            refine qq hS (g_indexArr (o' := 2) Try.underlying29 Try.sizeOf28 rfl rfl (by decide) (by decide) rfl) ?_
            refine qq hS (g_ldO1 2 Try.isAgg28 rfl rfl rfl) ?_
            refine qq hS (g_conv Try.underlying28 Try.underlying32 rfl) ?_
            refine qq hS (g_convi Try.underlying32 Try.underlying3 rfl (by omega) (by omega)) ?_
            refine qq hS (g_fieldAddr (o' := 3) Try.underlying24 rfl Try.sizeOf22 rfl rfl rfl) ?_
            refine qq hS (g_ldO1 1 Try.isAgg22 rfl rfl rfl) ?_
            refine qq hS (g_lenR 0 rfl Try.underlying22 rfl rfl) ?_
            refine qq hS (g_toV (g_rem rfl rfl (by omega) (by omega)) (congrArg (Value.int .i64) hi)) ?_
            refine qq hS (g_assignv (v := .int .i64 _) rfl) ?_
            refine ol_nil (thenN ?_)
            refine wpIn_seq ?_
            refine reg ?_
            refine qq hS (g_fieldAddr (o' := 3) Try.underlying24 rfl Try.sizeOf22 rfl rfl rfl) ?_
            refine qq hS (g_ldO1 1 Try.isAgg22 rfl rfl rfl) ?_
            refine qq hS (g_movev (v := .int .i64 _) rfl) ?_
            refine qq hS (g_ixR 0 Try.underlying22 Try.sizeOf35 rfl rfl rfl (by omega) (by omega)) ?_
            refine qq hS (g_ldRowC 0 (i := i) hcl32 hcx Try.sizeOf35 Try.isAgg35 rfl rfl) ?_
            refine qe (d_alloc (cs := [.int .i64 _, .int .i64 _, .int .i64 _, .int .u8 _, .slice _ _ _]) hS Try.zeroValue35 rfl) ?_
            clear hS
            rintro _ w_13 ⟨b10, rfl, hS⟩
            refine qe (d_store 0 hS Try.sizeOf35 rfl rfl rfl (vs := [.int .i64 _, .int .i64 _, .int .i64 _, .int .u8 _, .slice _ _ _]) rfl rfl rfl (Nat.le_of_ble_eq_true rfl) (cs' := [_, _, _, _, _]) rfl) ?_
            clear hS
            rintro _ w_14 ⟨rfl, hS⟩
            refine ol_nil (thenN ?_)
            refine draw (.cons 0 .pure (.cons 1 .held (.cons 2 .pure (.cons 3 .pure (.cons 4 .held (.cons 5 .pure (.cons 6 .held (.cons 7 .pure (.cons 8 .held (.cons 9 .pure (.cons 10 .pure (.cons 11 .pure (.cons 12 .held (.cons 13 .pure (.cons 14 .held (.cons 15 .pure (.cons 16 .held (.cons 17 .pure (.cons 18 .pure (.cons 19 .held (.cons 20 .pure (.cons 21 .held (.cons 22 .pure (.cons 23 .held (.cons 24 .pure (.cons 25 .held (.cons 26 .pure (.cons 27 .pure (.cons 28 .pure (.cons 29 .held (.cons 30 .pure (.cons 31 .held (.cons 32 .pure (.cons 33 .pure (.cons 34 .held (.cons 35 .pure (.cons 36 .pure (.cons 37 .pure (.cons 38 .held (.cons 39 .pure (.cons 40 .held (.cons 41 .pure (.cons 42 .held (.cons 43 .pure (.cons 44 .held (.cons 45 .pure (.cons 46 .pure (.cons 47 .held (.cons 48 .pure (.cons 49 .held (.cons 50 .pure (.cons 51 .held (.cons 52 .pure (.cons 53 .held (.cons 54 .pure (.cons 55 .pure (.cons 56 .held (.cons 57 .pure (.cons 58 .pure (.cons 59 .pure (.cons 60 .held (.cons 61 .pure (.cons 62 .pure (.cons 63 .pure (.cons 64 .held (.cons 65 .bar .nil)))))))))))))))))))))))))))))))))))))))))))))))))))))))))))))))))) mixed (by kernel_rfl) hS ?_
            intro w_15 hS
            refine sp rfl (g_fieldAddr (o' := 3) Try.underlying24 rfl Try.sizeOf22 rfl rfl rfl) ?_
            refine sh rfl (g_ldO1 2 Try.isAgg22 rfl rfl rfl) ?_
            refine sp rfl (g_movev (v := .int .i64 _) rfl) ?_
            refine sp rfl (g_fieldAddr (o' := 0) Try.underlying35 rfl Try.sizeOf3 rfl rfl rfl) ?_
            refine sh rfl (g_ldO1 0 Try.isAgg3 rfl rfl rfl) ?_
            refine sp rfl (g_fieldAddr (o' := 1) Try.underlying35 rfl Try.sizeOf3 rfl rfl rfl) ?_
            refine sh rfl (g_ldO1 0 Try.isAgg3 rfl rfl rfl) ?_
            refine sp rfl (g_indexArr (o' := 1) Try.underlying29 Try.sizeOf28 rfl rfl (by decide) (by decide) rfl) ?_
            refine sh rfl (g_ldO1 3 Try.isAgg28 rfl rfl rfl) ?_
            refine sp rfl (g_convi Try.underlying28 Try.underlying3 rfl (by omega) (by omega)) ?_
            refine sp rfl (g_add rfl rfl (by omega) (by omega)) ?_
            refine sp rfl (g_fieldAddr (o' := 2) Try.underlying35 rfl Try.sizeOf3 rfl rfl rfl) ?_
            refine sh rfl (g_ldO1 0 Try.isAgg3 rfl rfl rfl) ?_
            refine sp rfl (g_fieldAddr (o' := 3) Try.underlying35 rfl Try.sizeOf5 rfl rfl rfl) ?_
            refine sh rfl (g_ldO1 0 Try.isAgg5 rfl rfl rfl) ?_
            refine sp rfl (g_fieldAddr (o' := 4) Try.underlying35 rfl Try.sizeOf33 rfl rfl rfl) ?_
            refine sh rfl (g_ldO1 0 Try.isAgg33 rfl rfl rfl) ?_
            refine sp rfl (g_buildv (pl := [(0, 1), (1, 1), (2, 1), (3, 1), (4, 1)]) (cs := [.int .i64 _, .int .i64 _, .int .i64 _, .int .u8 _, .slice _ _ _]) Try.zeroValue35 Try.underlying35 (fun w => by simp [Try.sizeOf3, Try.sizeOf33, Try.sizeOf5]) (mp (v := .int .i64 _) rfl (mp (v := .int .i64 _) rfl (mp (v := .int .i64 _) rfl (mp (v := .int .u8 _) rfl (mp (v := .slice _ _ _) rfl mp0))))) rfl) ?_
            refine sp rfl (g_fieldAddr (o' := 0) Try.underlying35 rfl Try.sizeOf3 rfl rfl rfl) ?_
            refine sh rfl (g_ldO1 0 Try.isAgg3 rfl rfl rfl) ?_
            refine sp rfl (g_fieldAddr (o' := 1) Try.underlying35 rfl Try.sizeOf3 rfl rfl rfl) ?_
            refine sh rfl (g_ldO1 0 Try.isAgg3 rfl rfl rfl) ?_
            refine sp rfl (g_fieldAddr (o' := 2) Try.underlying35 rfl Try.sizeOf3 rfl rfl rfl) ?_
            refine sh rfl (g_ldO1 0 Try.isAgg3 rfl rfl rfl) ?_
            refine sp rfl (g_indexArr (o' := 1) Try.underlying29 Try.sizeOf28 rfl rfl (by decide) (by decide) rfl) ?_
            refine sh rfl (g_ldO1 3 Try.isAgg28 rfl rfl rfl) ?_
            refine sp rfl (g_convi Try.underlying28 Try.underlying3 rfl (by omega) (by omega)) ?_
            refine sp rfl (g_add rfl rfl (by omega) (by omega)) ?_
            refine sp rfl (g_fieldAddr (o' := 3) Try.underlying35 rfl Try.sizeOf5 rfl rfl rfl) ?_
            refine sh rfl (g_ldO1 0 Try.isAgg5 rfl rfl rfl) ?_
            refine sp rfl (g_fieldAddr (o' := 4) Try.underlying35 rfl Try.sizeOf33 rfl rfl rfl) ?_
            refine sh rfl (g_ldO1 0 Try.isAgg33 rfl rfl rfl) ?_
            refine sp rfl (g_buildv (pl := [(0, 1), (1, 1), (2, 1), (3, 1), (4, 1)]) (cs := [.int .i64 _, .int .i64 _, .int .i64 _, .int .u8 _, .slice _ _ _]) Try.zeroValue35 Try.underlying35 (fun w => by simp [Try.sizeOf3, Try.sizeOf33, Try.sizeOf5]) (mp (v := .int .i64 _) rfl (mp (v := .int .i64 _) rfl (mp (v := .int .i64 _) rfl (mp (v := .int .u8 _) rfl (mp (v := .slice _ _ _) rfl mp0))))) rfl) ?_
            refine sp rfl (g_indexArr (o' := 1) Try.underlying29 Try.sizeOf28 rfl rfl (by decide) (by decide) rfl) ?_
            refine sh rfl (g_ldO1 3 Try.isAgg28 rfl rfl rfl) ?_
            refine sp rfl (g_convi Try.underlying28 Try.underlying3 rfl (by omega) (by omega)) ?_
            refine sp rfl (g_remz rfl rfl (by decide)) ?_
            refine sp rfl (g_fieldAddr (o' := 1) Try.underlying35 rfl Try.sizeOf3 rfl rfl rfl) ?_
            refine sh rfl (g_ldO1 0 Try.isAgg3 rfl rfl rfl) ?_
            refine sp rfl (g_fieldAddr (o' := 2) Try.underlying35 rfl Try.sizeOf3 rfl rfl rfl) ?_
            refine sh rfl (g_ldO1 0 Try.isAgg3 rfl rfl rfl) ?_
            refine sp rfl (g_fieldAddr (o' := 3) Try.underlying35 rfl Try.sizeOf5 rfl rfl rfl) ?_
            refine sh rfl (g_ldO1 0 Try.isAgg5 rfl rfl rfl) ?_
            refine sp rfl (g_fieldAddr (o' := 4) Try.underlying35 rfl Try.sizeOf33 rfl rfl rfl) ?_
            refine sh rfl (g_ldO1 0 Try.isAgg33 rfl rfl rfl) ?_
            refine sp rfl (g_buildv (pl := [(0, 1), (1, 1), (2, 1), (3, 1), (4, 1)]) (cs := [.int .i64 _, .int .i64 _, .int .i64 _, .int .u8 _, .slice _ _ _]) Try.zeroValue35 Try.underlying35 (fun w => by simp [Try.sizeOf3, Try.sizeOf33, Try.sizeOf5]) (mp (v := .int .i64 _) rfl (mp (v := .int .i64 _) rfl (mp (v := .int .i64 _) rfl (mp (v := .int .u8 _) rfl (mp (v := .slice _ _ _) rfl mp0))))) rfl) ?_
            refine sp rfl (g_fieldAddr (o' := 0) Try.underlying35 rfl Try.sizeOf3 rfl rfl rfl) ?_
            refine sh rfl (g_ldO1 0 Try.isAgg3 rfl rfl rfl) ?_
            refine sp rfl (g_fieldAddr (o' := 1) Try.underlying35 rfl Try.sizeOf3 rfl rfl rfl) ?_
            refine sh rfl (g_ldO1 0 Try.isAgg3 rfl rfl rfl) ?_
            refine sp rfl (g_fieldAddr (o' := 2) Try.underlying35 rfl Try.sizeOf3 rfl rfl rfl) ?_
            refine sh rfl (g_ldO1 0 Try.isAgg3 rfl rfl rfl) ?_
            refine sp rfl (g_indexArr (o' := 1) Try.underlying29 Try.sizeOf28 rfl rfl (by decide) (by decide) rfl) ?_
            refine sh rfl (g_ldO1 3 Try.isAgg28 rfl rfl rfl) ?_
            refine sp rfl (g_conv Try.underlying28 Try.underlying5 rfl) ?_
            refine sp rfl (g_fieldAddr (o' := 4) Try.underlying35 rfl Try.sizeOf33 rfl rfl rfl) ?_
            refine sh rfl (g_ldO1 0 Try.isAgg33 rfl rfl rfl) ?_
            refine sp rfl (g_buildv (pl := [(0, 1), (1, 1), (2, 1), (3, 1), (4, 1)]) (cs := [.int .i64 _, .int .i64 _, .int .i64 _, .int .u8 _, .slice _ _ _]) Try.zeroValue35 Try.underlying35 (fun w => by simp [Try.sizeOf3, Try.sizeOf33, Try.sizeOf5]) (mp (v := .int .i64 _) rfl (mp (v := .int .i64 _) rfl (mp (v := .int .i64 _) rfl (mp (v := .int .u8 _) rfl (mp (v := .slice _ _ _) rfl mp0))))) rfl) ?_
            refine sp rfl (g_buildArr (cs := ((chg x x1).map (opc adx mx capx)).flatten) Try.zeroValue36 Try.underlying36 Try.sizeOf35 rfl (fill4x5 _ _ _ _ _ _ _ _ _ _ _ _ _ _ _ _ _ _ _ _ _ _ _ _ _ _ _ _ _ _ _ _ _ _ _ _ _ _ _ _)) ?_
            refine sp rfl (g_indexArr (o' := 3) Try.underlying29 Try.sizeOf28 rfl rfl (by decide) (by decide) rfl) ?_
            refine sh rfl (g_ldO1 3 Try.isAgg28 rfl rfl rfl) ?_
            refine sp rfl (g_conv Try.underlying28 Try.underlying32 rfl) ?_
            refine sp rfl (g_toV (g_rem rfl rfl (by omega) (by omega)) (congrArg (Value.int .u16) hk4)) ?_
            refine sp rfl (g_indexAggF (cs := opc adx mx capx y) (opc_cl adx mx capx (chg x x1)) hyc Try.underlying36 Try.sizeOf35 Try.isAgg35 rfl rfl (by omega) (by omega)) ?_
            refine sh rfl (g_ixR 1 Try.underlying22 Try.sizeOf35 rfl rfl rfl (by omega) (by omega)) ?_
            refine sb rfl (d_storeRowC 1 (vs := opc adx mx capx y) hcl32 hS hN hcx Try.sizeOf35 rfl rfl rfl rfl rfl) ?_
            rintro _ w_16 ⟨rfl, hS⟩
            refine ⟨_, _, hS, ?_⟩
            refine sn (blkN (thenN ?_))
            first
              | exact ⟨_, rfl, ⟨p.lifted, p.in_ + x1, p.out, p.ops⟩, _, _, _, _, _, ⟨⟨rfl, rfl, rfl, trivial⟩, (hS.ord [2, 1, 5])⟩, by simp, hcl32, hca32, hpb, h1⟩
              | exact ⟨_, rfl, ⟨p.lifted, p.in_, p.out + x1, p.ops⟩, _, _, _, _, _, ⟨⟨rfl, rfl, rfl, trivial⟩, (hS.ord [2, 1, 5])⟩, by simp, hcl32, hca32, hpb, h1⟩
              | exact ⟨_, rfl, ⟨p.lifted, p.in_, p.out, p.ops⟩, _, _, _, _, _, ⟨⟨rfl, rfl, rfl, trivial⟩, (hS.ord [2, 1, 5])⟩, by simp, hcl32, hca32, hpb, h1⟩
              | exact ⟨_, rfl, ⟨p.lifted, p.in_, p.out, p.ops.set i y⟩, _, _, _, _, _, ⟨⟨rfl, rfl, rfl, trivial⟩, (hS.ord [2, 1, 5])⟩, by simp, set_cl hcl32 rfl, All2.setI hca32 ⟨adx, mx, capx, rfl, hdy⟩, hpbs, h1⟩
          ·
            intro hc41
            try simp only [Bool.and_eq_true, Bool.or_eq_true, Bool.not_eq_true', Bool.and_eq_false_imp, Bool.or_eq_false_iff, Bool.not_eq_false', decide_eq_true_eq, decide_eq_false_iff_not] at hc41
            refine wpIn_skip ?_
            refine blkN (thenN ?_)
            first
              | exact ⟨_, rfl, ⟨p.lifted, p.in_ + x1, p.out, p.ops⟩, _, _, _, _, _, ⟨⟨rfl, rfl, rfl, trivial⟩, (hS.ord [1, 0, 4])⟩, by simp, hcl32, hca32, hpb, h1⟩
              | exact ⟨_, rfl, ⟨p.lifted, p.in_, p.out + x1, p.ops⟩, _, _, _, _, _, ⟨⟨rfl, rfl, rfl, trivial⟩, (hS.ord [1, 0, 4])⟩, by simp, hcl32, hca32, hpb, h1⟩
              | exact ⟨_, rfl, ⟨p.lifted, p.in_, p.out, p.ops⟩, _, _, _, _, _, ⟨⟨rfl, rfl, rfl, trivial⟩, (hS.ord [1, 0, 4])⟩, by simp, hcl32, hca32, hpb, h1⟩
              | exact ⟨_, rfl, ⟨p.lifted, p.in_, p.out, p.ops.set i y⟩, _, _, _, _, _, ⟨⟨rfl, rfl, rfl, trivial⟩, (hS.ord [1, 0, 4])⟩, by simp, set_cl hcl32 rfl, All2.setI hca32 ⟨adx, mx, capx, rfl, hdy⟩, hpbs, h1⟩
    ·
      rintro σ w ⟨q, J, aq, Nq, cq, css, ⟨hs, hS⟩, hNq, hclq, hcaq, hqb, h1⟩
      rw [← upds_self hs]
      refine wpIn_seq ?_
      have hF := St.freezeRowR (u := .slice aq Nq cq) (m := Nq) (xs := q.ops) (css := css) (by exact hS.ord [1, 0, 2]) (by omega) (hclq) (hcaq)
      clear hS
      obtain ⟨I_hqo, hS, hI_hqo, hqo⟩ := hF
      replace h1 := h1.mono hI_hqo
      replace hqo : ROps I_hqo (.slice aq Nq cq) (q.ops) := RSl.mono hqo (Sub.refl _) (fun _ _ h => h.mono hI_hqo)
      refine reg ?_
      refine qq hS (g_ldO 0 (vs := [.bool _, .int .i64 _, .int .i64 _, .slice _ _ _]) Try.sizeOf24 Try.isAgg24 rfl rfl rfl rfl) ?_
      refine qq hS (g_ldO 1 (vs := [.bool _, .int .i64 _, .int .i64 _, .slice _ _ _]) Try.sizeOf24 Try.isAgg24 rfl rfl rfl rfl) ?_
      refine qq hS (g_buildArr (cs := [.bool q.lifted, .int .i64 q.in_, .int .i64 q.out, .slice aq Nq cq, .bool p1.lifted, .int .i64 p1.in_, .int .i64 p1.out, .slice a1 m1 c1]) Try.zeroValue37 Try.underlying37 Try.sizeOf24 rfl (fill2x4 _ _ _ _ _ _ _ _ _ _ _ _ _ _ _ _)) ?_
      refine qe (d_alloc (cs := [.bool _, .int .i64 _, .int .i64 _, .slice _ _ _, .bool _, .int .i64 _, .int .i64 _, .slice _ _ _]) hS Try.zeroValue37 rfl) ?_
      clear hS
      rintro _ w_17 ⟨b11, rfl, hS⟩
      refine qe (d_store 0 hS Try.sizeOf37 rfl rfl rfl (vs := [.bool _, .int .i64 _, .int .i64 _, .slice _ _ _, .bool _, .int .i64 _, .int .i64 _, .slice _ _ _]) rfl rfl rfl (Nat.le_of_ble_eq_true rfl) (cs' := [_, _, _, _, _, _, _, _]) rfl) ?_
      clear hS
      rintro _ w_18 ⟨rfl, hS⟩
      refine ol_nil (thenN ?_)
      refine wpIn_seq ?_
      refine wpIn_seq ?_
      refine reg ?_
      refine qq hS (g_assignv (v := .int .i64 _) rfl) ?_
      refine ol_nil (thenN ?_)
      refine wpIn_block ?_
      refine loop (fun (i : Nat) σ w => okS σ [(7, .bool true), (11, .pointer (some ⟨b11, 0, none⟩)), (12, .int .i64 i)] ∧ ∃ I, St [] w0 I0 I w [.cel b11 37 [.bool q.lifted, .int .i64 q.in_, .int .i64 q.out, .slice aq Nq cq, .bool p1.lifted, .int .i64 p1.in_, .int .i64 p1.out, .slice a1 m1 c1]] ∧ i ≤ 2 ∧ ROps I (.slice aq Nq cq) q.ops ∧ ROps I (.slice a1 m1 c1) p1.ops) (fun i => 2 - i) (0) ?_ ?_
      ·
        exact ⟨⟨rfl, rfl, rfl, trivial⟩, _, hS.sel [true, false, false], by omega, hqo, h1⟩
      ·
        rintro i σ w_l ⟨hs, I, hS, hi0, hqo, h1⟩
        rw [← upds_self hs]; clear hs
        refine wpIn_seq ?_
        refine wpIn_seq ?_
        refine reg ?_
        refine qq hS (g_movev (v := .int .i64 _) rfl) ?_
        refine qq hS (g_lss rfl rfl) ?_
        refine ol_nil (thenN ?_)
        refine cond_s rfl ?_ ?_
        ·
          intro hc142
          try simp only [Bool.and_eq_true, Bool.or_eq_true, Bool.not_eq_true', Bool.and_eq_false_imp, Bool.or_eq_false_iff, Bool.not_eq_false', decide_eq_true_eq, decide_eq_false_iff_not] at hc142
          refine wpIn_skip ?_
          refine thenN ?_
          refine wpIn_seq ?_
          refine wpIn_block ?_
          refine wpIn_seq ?_
          refine (show i = 0 ∨ i = 1 by omega).elim (fun hi2 => ?_) (fun hi2 => ?_) <;> subst hi2
          ·
            refine reg ?_
            refine qq hS (g_movev (v := .int .i64 _) rfl) ?_
            refine qq hS (g_indexArr (o' := 0) Try.underlying37 Try.sizeOf24 rfl rfl (by decide) (by decide) rfl) ?_
            refine qq hS (g_ldO 0 (vs := [.bool _, .int .i64 _, .int .i64 _, .slice _ _ _]) Try.sizeOf24 Try.isAgg24 rfl rfl rfl rfl) ?_
            refine qe (d_call Try.call7 rfl (check_w q aq Nq cq _ _ hS.imm hqo)) ?_
            rintro _ w_19 ⟨rfl, hE⟩
            replace hS := hS.callE hE
            refine qq hS (g_move _) ?_
            refine qq hS (g_extract (v := .int .i64 _) rfl rfl) ?_
            refine qq hS (g_extract (v := .int .i64 _) rfl rfl) ?_
            refine qq hS (g_assignv (v := .int .i64 _) rfl) ?_
            refine qq hS (g_assignv (v := .int .i64 _) rfl) ?_
            refine ol_nil (thenN ?_)
            refine wpIn_seq ?_
            refine reg ?_
            refine qq hS (g_movev (v := .int .i64 _) rfl) ?_
            refine qq hS (g_indexArr (o' := 0) Try.underlying37 Try.sizeOf24 rfl rfl (by decide) (by decide) rfl) ?_
            refine qq hS (g_ldO 0 (vs := [.bool _, .int .i64 _, .int .i64 _, .slice _ _ _]) Try.sizeOf24 Try.isAgg24 rfl rfl rfl rfl) ?_
            refine qe (d_call Try.call8 rfl (checkR_any q aq Nq cq _ _ hS.imm hqo)) ?_
            rintro _ w_20 ⟨rfl, hE⟩
            replace hS := hS.callE hE
            refine qq hS (g_move _) ?_
            refine qq hS (g_extract (v := .int .i64 _) rfl rfl) ?_
            refine qq hS (g_extract (v := .int .i64 _) rfl rfl) ?_
            refine qq hS (g_assignv (v := .int .i64 _) rfl) ?_
            refine qq hS (g_assignv (v := .int .i64 _) rfl) ?_
            refine ol_nil (thenN ?_)
            refine wpIn_seq ?_
            refine reg ?_
            refine qq hS (g_movev (v := .int .i64 _) rfl) ?_
            refine qq hS (g_indexArr (o' := 0) Try.underlying37 Try.sizeOf24 rfl rfl (by decide) (by decide) rfl) ?_
            refine qq hS (g_ldO 0 (vs := [.bool _, .int .i64 _, .int .i64 _, .slice _ _ _]) Try.sizeOf24 Try.isAgg24 rfl rfl rfl rfl) ?_
            refine qe (d_call Try.call9 rfl (apply_any q aq Nq cq _ _ hS.imm hqo hqb)) ?_
            rintro _ w_21 ⟨I_f, aA, nA, cA, eA, rfl, hE, heA⟩
            replace hS := hS.callE hE
            replace hqo := hqo.mono hE.ext
            replace h1 := h1.mono hE.ext
            refine qq hS (g_move _) ?_
            refine qq hS (g_extract rfl rfl) ?_
            refine qq hS (g_extract (v := .int .i64 _) rfl rfl) ?_
            refine qq hS (g_assign _) ?_
            refine qq hS (g_assignv (v := .int .i64 _) rfl) ?_
            refine ol_nil (thenN ?_)
            refine wpIn_seq ?_
            refine reg ?_
            refine qq hS (g_movev (v := .int .i64 _) rfl) ?_
            refine qq hS (g_indexArr (o' := 0) Try.underlying37 Try.sizeOf24 rfl rfl (by decide) (by decide) rfl) ?_
            refine qq hS (g_ldO 0 (vs := [.bool _, .int .i64 _, .int .i64 _, .slice _ _ _]) Try.sizeOf24 Try.isAgg24 rfl rfl rfl rfl) ?_
            refine qe (d_call Try.call10 rfl (symbols_any q aq Nq cq _ _ hS.imm hqo hqb)) ?_
            rintro _ w_22 ⟨I_f, aS, nS, cS, rfl, hE, hnS⟩
            replace hS := hS.callE hE
            replace hqo := hqo.mono hE.ext
            replace h1 := h1.mono hE.ext
            refine qq hS (g_move _) ?_
            refine qq hS (g_extract rfl rfl) ?_
            refine qq hS (g_extract (v := .int .i64 _) rfl rfl) ?_
            refine qq hS (g_assign _) ?_
            refine qq hS (g_assignv (v := .int .i64 _) rfl) ?_
            refine ol_nil (thenN ?_)
            refine wpIn_seq ?_
            refine (Classical.em ((checkP q).2 = 0)).elim (fun hk => ?_) (fun hk => ?_)
            ·
              refine reg ?_
              refine qq hS (g_movev (v := .int .i64 _) rfl) ?_
              refine qq hS (g_movev (v := .int .i64 _) rfl) ?_
              refine qq hS (g_neqF rfl rfl rfl) ?_
              refine qq hS (g_movev (v := .bool _) rfl) ?_
              refine qqs rfl rfl hS (g_movev (v := .int .i64 _) rfl) ?_
              refine qqs rfl rfl hS (g_movev (v := .int .i64 _) rfl) ?_
              refine qqs rfl rfl hS (g_neqF rfl rfl rfl) ?_
              refine qq hS (g_or rfl rfl (fun _ => rfl)) ?_
              refine qq hS (g_movev (v := .bool _) rfl) ?_
              refine qqs rfl rfl hS (g_movev (v := .int .i64 _) rfl) ?_
              refine qqs rfl rfl hS (g_toV (g_eql rfl rfl) (congrArg Value.bool (decide_eq_false (fun h => heA.1 h hk)))) ?_
              refine qqs rfl rfl hS (g_movev (v := .int .i64 _) rfl) ?_
              refine qqs rfl rfl hS (g_neqF rfl rfl hk) ?_
              refine qqs rfl rfl hS (g_neqbX Try.underlying4 rfl rfl rfl) ?_
              refine qq hS (g_or rfl rfl (fun _ => rfl)) ?_
              refine qq hS (g_movev (v := .bool _) rfl) ?_
              refine qqs rfl rfl hS (g_movev (v := .int .i64 _) rfl) ?_
              refine qqs rfl rfl hS (g_movev (v := .int .i64 _) rfl) ?_
              refine qqs rfl rfl hS (g_neqF rfl rfl rfl) ?_
              refine qq hS (g_or rfl rfl (fun _ => rfl)) ?_
              refine qq hS (g_movev (v := .bool _) rfl) ?_
              refine qqs rfl rfl hS (g_movev (v := .int .i64 _) rfl) ?_
              refine qqs rfl rfl hS (g_neqF rfl rfl hk) ?_
              refine qqs rfl rfl hS (g_movev (v := .bool _) rfl) ?_
              refine qsf rfl rfl rfl ?_
              refine qsf rfl rfl rfl ?_
              refine qsf rfl rfl rfl ?_
              refine qqs rfl rfl hS (g_and (b := false) rfl rfl (fun h => (by cases h))) ?_
              refine qq hS (g_or rfl rfl (fun _ => rfl)) ?_
              refine ol_nil (thenN ?_)
              refine cond_f (rfl) ?_
              refine wpIn_skip ?_
              refine blkN (thenN ?_)
              refine reg ?_
              refine qq hS (g_movev (v := .int .i64 _) rfl) ?_
              refine qq hS (g_add rfl rfl (by omega) (by omega)) ?_
              refine qq hS (g_assignv (v := .int .i64 _) rfl) ?_
              refine ol_nil (thenN ?_)
              exact ⟨1, _, rfl, ⟨⟨rfl, rfl, rfl, trivial⟩, _, hS.sel [true], by omega, hqo, h1⟩, by omega⟩
            ·
              refine reg ?_
              refine qq hS (g_movev (v := .int .i64 _) rfl) ?_
              refine qq hS (g_movev (v := .int .i64 _) rfl) ?_
              refine qq hS (g_neqF rfl rfl rfl) ?_
              refine qq hS (g_movev (v := .bool _) rfl) ?_
              refine qqs rfl rfl hS (g_movev (v := .int .i64 _) rfl) ?_
              refine qqs rfl rfl hS (g_movev (v := .int .i64 _) rfl) ?_
              refine qqs rfl rfl hS (g_neqF rfl rfl rfl) ?_
              refine qq hS (g_or rfl rfl (fun _ => rfl)) ?_
              refine qq hS (g_movev (v := .bool _) rfl) ?_
              refine qqs rfl rfl hS (g_movev (v := .int .i64 _) rfl) ?_
              refine qqs rfl rfl hS (g_toV (g_eql rfl rfl) (congrArg Value.bool (decide_eq_true (heA.2 hk)))) ?_
              refine qqs rfl rfl hS (g_movev (v := .int .i64 _) rfl) ?_
              refine qqs rfl rfl hS (g_neqT rfl rfl hk) ?_
              refine qqs rfl rfl hS (g_neqbX Try.underlying4 rfl rfl rfl) ?_
              refine qq hS (g_or rfl rfl (fun _ => rfl)) ?_
              refine qq hS (g_movev (v := .bool _) rfl) ?_
              refine qqs rfl rfl hS (g_movev (v := .int .i64 _) rfl) ?_
              refine qqs rfl rfl hS (g_movev (v := .int .i64 _) rfl) ?_
              refine qqs rfl rfl hS (g_neqF rfl rfl rfl) ?_
              refine qq hS (g_or rfl rfl (fun _ => rfl)) ?_
              refine qq hS (g_movev (v := .bool _) rfl) ?_
              refine qqs rfl rfl hS (g_movev (v := .int .i64 _) rfl) ?_
              refine qqs rfl rfl hS (g_neqT rfl rfl hk) ?_
              refine qqs rfl rfl hS (g_movev (v := .bool _) rfl) ?_
              refine qqs rfl rfl hS (g_move _) ?_
              refine qqs rfl rfl hS (g_lenS rfl Try.underlying43 rfl) ?_
              refine qqs rfl rfl hS (g_toV (g_gtr rfl rfl) (congrArg Value.bool (decide_eq_false (by rw [hnS hk]; decide)))) ?_
              refine qqs rfl rfl hS (g_and rfl rfl (fun _ => rfl)) ?_
              refine qq hS (g_or rfl rfl (fun _ => rfl)) ?_
              refine ol_nil (thenN ?_)
              refine cond_f (rfl) ?_
              refine wpIn_skip ?_
              refine blkN (thenN ?_)
              refine reg ?_
              refine qq hS (g_movev (v := .int .i64 _) rfl) ?_
              refine qq hS (g_add rfl rfl (by omega) (by omega)) ?_
              refine qq hS (g_assignv (v := .int .i64 _) rfl) ?_
              refine ol_nil (thenN ?_)
              exact ⟨1, _, rfl, ⟨⟨rfl, rfl, rfl, trivial⟩, _, hS.sel [true], by omega, hqo, h1⟩, by omega⟩
          ·
            refine reg ?_
            refine qq hS (g_movev (v := .int .i64 _) rfl) ?_
            refine qq hS (g_indexArr (o' := 4) Try.underlying37 Try.sizeOf24 rfl rfl (by decide) (by decide) rfl) ?_
            refine qq hS (g_ldO 0 (vs := [.bool _, .int .i64 _, .int .i64 _, .slice _ _ _]) Try.sizeOf24 Try.isAgg24 rfl rfl rfl rfl) ?_
            refine qe (d_call Try.call7 rfl (check_w p1 a1 m1 c1 _ _ hS.imm h1)) ?_
            rintro _ w_23 ⟨rfl, hE⟩
            replace hS := hS.callE hE
            refine qq hS (g_move _) ?_
            refine qq hS (g_extract (v := .int .i64 _) rfl rfl) ?_
            refine qq hS (g_extract (v := .int .i64 _) rfl rfl) ?_
            refine qq hS (g_assignv (v := .int .i64 _) rfl) ?_
            refine qq hS (g_assignv (v := .int .i64 _) rfl) ?_
            refine ol_nil (thenN ?_)
            refine wpIn_seq ?_
            refine reg ?_
            refine qq hS (g_movev (v := .int .i64 _) rfl) ?_
            refine qq hS (g_indexArr (o' := 4) Try.underlying37 Try.sizeOf24 rfl rfl (by decide) (by decide) rfl) ?_
            refine qq hS (g_ldO 0 (vs := [.bool _, .int .i64 _, .int .i64 _, .slice _ _ _]) Try.sizeOf24 Try.isAgg24 rfl rfl rfl rfl) ?_
            refine qe (d_call Try.call8 rfl (checkR_any p1 a1 m1 c1 _ _ hS.imm h1)) ?_
            rintro _ w_24 ⟨rfl, hE⟩
            replace hS := hS.callE hE
            refine qq hS (g_move _) ?_
            refine qq hS (g_extract (v := .int .i64 _) rfl rfl) ?_
            refine qq hS (g_extract (v := .int .i64 _) rfl rfl) ?_
            refine qq hS (g_assignv (v := .int .i64 _) rfl) ?_
            refine qq hS (g_assignv (v := .int .i64 _) rfl) ?_
            refine ol_nil (thenN ?_)
            refine wpIn_seq ?_
            refine reg ?_
            refine qq hS (g_movev (v := .int .i64 _) rfl) ?_
            refine qq hS (g_indexArr (o' := 4) Try.underlying37 Try.sizeOf24 rfl rfl (by decide) (by decide) rfl) ?_
            refine qq hS (g_ldO 0 (vs := [.bool _, .int .i64 _, .int .i64 _, .slice _ _ _]) Try.sizeOf24 Try.isAgg24 rfl rfl rfl rfl) ?_
            refine qe (d_call Try.call9 rfl (apply_any p1 a1 m1 c1 _ _ hS.imm h1 hb1)) ?_
            rintro _ w_25 ⟨I_f, aA, nA, cA, eA, rfl, hE, heA⟩
            replace hS := hS.callE hE
            replace hqo := hqo.mono hE.ext
            replace h1 := h1.mono hE.ext
            refine qq hS (g_move _) ?_
            refine qq hS (g_extract rfl rfl) ?_
            refine qq hS (g_extract (v := .int .i64 _) rfl rfl) ?_
            refine qq hS (g_assign _) ?_
            refine qq hS (g_assignv (v := .int .i64 _) rfl) ?_
            refine ol_nil (thenN ?_)
            refine wpIn_seq ?_
            refine reg ?_
            refine qq hS (g_movev (v := .int .i64 _) rfl) ?_
            refine qq hS (g_indexArr (o' := 4) Try.underlying37 Try.sizeOf24 rfl rfl (by decide) (by decide) rfl) ?_
            refine qq hS (g_ldO 0 (vs := [.bool _, .int .i64 _, .int .i64 _, .slice _ _ _]) Try.sizeOf24 Try.isAgg24 rfl rfl rfl rfl) ?_
            refine qe (d_call Try.call10 rfl (symbols_any p1 a1 m1 c1 _ _ hS.imm h1 hb1)) ?_
            rintro _ w_26 ⟨I_f, aS, nS, cS, rfl, hE, hnS⟩
            replace hS := hS.callE hE
            replace hqo := hqo.mono hE.ext
            replace h1 := h1.mono hE.ext
            refine qq hS (g_move _) ?_
            refine qq hS (g_extract rfl rfl) ?_
            refine qq hS (g_extract (v := .int .i64 _) rfl rfl) ?_
            refine qq hS (g_assign _) ?_
            refine qq hS (g_assignv (v := .int .i64 _) rfl) ?_
            refine ol_nil (thenN ?_)
            refine wpIn_seq ?_
            refine (Classical.em ((checkP p1).2 = 0)).elim (fun hk => ?_) (fun hk => ?_)
            ·
              refine reg ?_
              refine qq hS (g_movev (v := .int .i64 _) rfl) ?_
              refine qq hS (g_movev (v := .int .i64 _) rfl) ?_
              refine qq hS (g_neqF rfl rfl rfl) ?_
              refine qq hS (g_movev (v := .bool _) rfl) ?_
              refine qqs rfl rfl hS (g_movev (v := .int .i64 _) rfl) ?_
              refine qqs rfl rfl hS (g_movev (v := .int .i64 _) rfl) ?_
              refine qqs rfl rfl hS (g_neqF rfl rfl rfl) ?_
              refine qq hS (g_or rfl rfl (fun _ => rfl)) ?_
              refine qq hS (g_movev (v := .bool _) rfl) ?_
              refine qqs rfl rfl hS (g_movev (v := .int .i64 _) rfl) ?_
              refine qqs rfl rfl hS (g_toV (g_eql rfl rfl) (congrArg Value.bool (decide_eq_false (fun h => heA.1 h hk)))) ?_
              refine qqs rfl rfl hS (g_movev (v := .int .i64 _) rfl) ?_
              refine qqs rfl rfl hS (g_neqF rfl rfl hk) ?_
              refine qqs rfl rfl hS (g_neqbX Try.underlying4 rfl rfl rfl) ?_
              refine qq hS (g_or rfl rfl (fun _ => rfl)) ?_
              refine qq hS (g_movev (v := .bool _) rfl) ?_
              refine qqs rfl rfl hS (g_movev (v := .int .i64 _) rfl) ?_
              refine qqs rfl rfl hS (g_movev (v := .int .i64 _) rfl) ?_
              refine qqs rfl rfl hS (g_neqF rfl rfl rfl) ?_
              refine qq hS (g_or rfl rfl (fun _ => rfl)) ?_
              refine qq hS (g_movev (v := .bool _) rfl) ?_
              refine qqs rfl rfl hS (g_movev (v := .int .i64 _) rfl) ?_
              refine qqs rfl rfl hS (g_neqF rfl rfl hk) ?_
              refine qqs rfl rfl hS (g_movev (v := .bool _) rfl) ?_
              refine qsf rfl rfl rfl ?_
              refine qsf rfl rfl rfl ?_
              refine qsf rfl rfl rfl ?_
              refine qqs rfl rfl hS (g_and (b := false) rfl rfl (fun h => (by cases h))) ?_
              refine qq hS (g_or rfl rfl (fun _ => rfl)) ?_
              refine ol_nil (thenN ?_)
              refine cond_f (rfl) ?_
              refine wpIn_skip ?_
              refine blkN (thenN ?_)
              refine reg ?_
              refine qq hS (g_movev (v := .int .i64 _) rfl) ?_
              refine qq hS (g_add rfl rfl (by omega) (by omega)) ?_
              refine qq hS (g_assignv (v := .int .i64 _) rfl) ?_
              refine ol_nil (thenN ?_)
              exact ⟨2, _, rfl, ⟨⟨rfl, rfl, rfl, trivial⟩, _, hS.sel [true], by omega, hqo, h1⟩, by omega⟩
            ·
              refine reg ?_
              refine qq hS (g_movev (v := .int .i64 _) rfl) ?_
              refine qq hS (g_movev (v := .int .i64 _) rfl) ?_
              refine qq hS (g_neqF rfl rfl rfl) ?_
              refine qq hS (g_movev (v := .bool _) rfl) ?_
              refine qqs rfl rfl hS (g_movev (v := .int .i64 _) rfl) ?_
              refine qqs rfl rfl hS (g_movev (v := .int .i64 _) rfl) ?_
              refine qqs rfl rfl hS (g_neqF rfl rfl rfl) ?_
              refine qq hS (g_or rfl rfl (fun _ => rfl)) ?_
              refine qq hS (g_movev (v := .bool _) rfl) ?_
              refine qqs rfl rfl hS (g_movev (v := .int .i64 _) rfl) ?_
              refine qqs rfl rfl hS (g_toV (g_eql rfl rfl) (congrArg Value.bool (decide_eq_true (heA.2 hk)))) ?_
              refine qqs rfl rfl hS (g_movev (v := .int .i64 _) rfl) ?_
              refine qqs rfl rfl hS (g_neqT rfl rfl hk) ?_
              refine qqs rfl rfl hS (g_neqbX Try.underlying4 rfl rfl rfl) ?_
              refine qq hS (g_or rfl rfl (fun _ => rfl)) ?_
              refine qq hS (g_movev (v := .bool _) rfl) ?_
              refine qqs rfl rfl hS (g_movev (v := .int .i64 _) rfl) ?_
              refine qqs rfl rfl hS (g_movev (v := .int .i64 _) rfl) ?_
              refine qqs rfl rfl hS (g_neqF rfl rfl rfl) ?_
              refine qq hS (g_or rfl rfl (fun _ => rfl)) ?_
              refine qq hS (g_movev (v := .bool _) rfl) ?_
              refine qqs rfl rfl hS (g_movev (v := .int .i64 _) rfl) ?_
              refine qqs rfl rfl hS (g_neqT rfl rfl hk) ?_
              refine qqs rfl rfl hS (g_movev (v := .bool _) rfl) ?_
              refine qqs rfl rfl hS (g_move _) ?_
              refine qqs rfl rfl hS (g_lenS rfl Try.underlying43 rfl) ?_
              refine qqs rfl rfl hS (g_toV (g_gtr rfl rfl) (congrArg Value.bool (decide_eq_false (by rw [hnS hk]; decide)))) ?_
              refine qqs rfl rfl hS (g_and rfl rfl (fun _ => rfl)) ?_
              refine qq hS (g_or rfl rfl (fun _ => rfl)) ?_
              refine ol_nil (thenN ?_)
              refine cond_f (rfl) ?_
              refine wpIn_skip ?_
              refine blkN (thenN ?_)
              refine reg ?_
              refine qq hS (g_movev (v := .int .i64 _) rfl) ?_
              refine qq hS (g_add rfl rfl (by omega) (by omega)) ?_
              refine qq hS (g_assignv (v := .int .i64 _) rfl) ?_
              refine ol_nil (thenN ?_)
              exact ⟨2, _, rfl, ⟨⟨rfl, rfl, rfl, trivial⟩, _, hS.sel [true], by omega, hqo, h1⟩, by omega⟩
        ·
          intro hc142
          try simp only [Bool.and_eq_true, Bool.or_eq_true, Bool.not_eq_true', Bool.and_eq_false_imp, Bool.or_eq_false_iff, Bool.not_eq_false', decide_eq_true_eq, decide_eq_false_iff_not] at hc142
          refine wpIn_exit ?_
          refine thenE (thenE (blkE ?_))
          refine thenN ?_
          refine wpIn_seq ?_
          refine reg ?_
          refine qq hS (g_movev (v := .bool _) rfl) ?_
          refine qq hS (g_assignv (v := .bool _) rfl) ?_
          refine ol_nil (thenN ?_)
          refine wpIn_ret ?_
          refine ret1 Try.results3 (rv_tmp (v := .bool _) rfl) ?_
          exact ⟨_, rfl, hS.nil⟩

end Go.Proofs.Ytaklmbhfmpdinaa

