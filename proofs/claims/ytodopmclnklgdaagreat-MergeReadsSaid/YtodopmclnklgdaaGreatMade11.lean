/- inlayref11.Sized and Made: they give even patches. inlayref05.SameRanges. Conditions: numbers within bounds. -/
import Derived.Test.YtodopmclnklgdaaGreatRef11b
import Derived.Test.YtodopmclnklgdaaGreatLeastL
import Derived.Test.YtodopmclnklgdaaGreatKComp
namespace Go.Proofs.YtodopmclnklgdaaGreat
open Go Go.RowKit Go.Inl
set_option linter.unusedSimpArgs false
set_option linter.unusedVariables false
theorem g_quou {P : Program} {n : Nat} {σ : Nat → Value} {S : World → Prop} {t t' ty : TypeId} {x y : Operand} {k : IntKind} {a b : Int} (hx : ev n σ x = .int k a) (hy : ev n σ y = .int k b) (ha : 0 ≤ a) (hb : 0 < b) (hk : k.wrap (a / b) = a / b) : Gives P (ev n σ) S (.binOp .quo t x y t') ty (.int k (a / b)) :=
  fun _ _ => int_run hx hy (by simp [binOp, Op.intDiv, show b ≠ 0 by omega, Int.tdiv_eq_ediv_of_nonneg ha, hk])
/-- An even patch for n bytes. -/
structure Good11 (p : PatL) (n : Int) : Prop where
  wf : p.wf
  ck : (checkP p).2 = 0
  lif : p.lifted = false
  in_ : p.in_ = n
  out : p.out = n
theorem refOf_E (ad : Option Addr) (m cap : Nat) (l : List Sym) (size : Int) (C : PatL × Int) (w0 : World) (I0 : Imm) (hI : Sat I0 w0) (hl : RSyms I0 (.slice ad m cap) l) (hm : m = l.length) (hw : ∀ s ∈ l, s.wf) (hs : Mid size) (he : ofPP l size = C) :
    Ctr Tryz.prog 72 [.slice ad m cap, .int .i64 size] w0 (fun v w' => ∃ I' a m c, v = .tuple #[.agg #[.bool C.1.lifted, .int .i64 C.1.in_, .int .i64 C.1.out, .slice a m c], .int .i64 C.2] ∧ Ext w0 I0 w' I' ∧ ROps I' (.slice a m c) C.1.ops) := by
  subst hm; subst he; exact refOf_c ad cap l size w0 I0 hI hl hw hs
structure SzOk (n : Int) (N : Nat) (S : List Sym) : Prop where
  len : S.length = N
  ok : okL n S
  wf : ∀ s ∈ S, s.wf
theorem SzOk.set {n : Int} {N : Nat} {S : List Sym} (h : SzOk n N S) (j : Nat) {s : Sym} (h1 : strange n s = false) (h2 : s.wf) : SzOk n N (S.set j s) := by
  refine ⟨by rw [List.length_set, h.len], fun t ht => ?_, fun t ht => ?_⟩
  · rcases List.mem_or_eq_of_mem_set ht with ht | rfl
    · exact h.ok t ht
    · exact h1
  · rcases List.mem_or_eq_of_mem_set ht with ht | rfl
    · exact h.wf t ht
    · exact h2
theorem okNew {n b : Int} (hb : 0 ≤ b ∧ b ≤ 255) : strange n ⟨false, 0, b⟩ = false ∧ Sym.wf ⟨false, 0, b⟩ := by
  refine ⟨by simp [strange], ?_⟩
  simp only [Sym.wf]; omega
theorem okOld {n a b : Int} (ha : 0 ≤ a) (hn : a < n) (hn2 : n ≤ 65536) (hb : 0 ≤ b ∧ b ≤ 255) : strange n ⟨true, a, b⟩ = false ∧ Sym.wf ⟨true, a, b⟩ := by
  refine ⟨by simp [strange]; omega, ?_⟩
  simp only [Sym.wf]; omega
theorem whole_sz {n : Int} (h : 0 ≤ n ∧ n ≤ 4096) : SzOk n n.toNat (symsP (wholeP n)) := by
  have h6 : 0 ≤ n ∧ n ≤ 65536 := by omega
  have hc := wholeP_check h6
  have hl := symsP_len hc
  have ho : (wholeP n).out = n := rfl
  have hi : (wholeP n).in_ = n := rfl
  have hk := (ops_ok _ (checkP_ok hc).1).1
  rw [hi] at hk
  exact ⟨by omega, hk, symsP_wf (wholeP_wf h6) hc⟩
theorem good_of {n : Int} {N : Nat} {S : List Sym} (h : SzOk n N S) (hn : 0 ≤ n ∧ n ≤ 4096) (hN : (N : Int) = n) : ofPP S n = (ofOf n S, 0) ∧ Good11 (ofOf n S) n := by
  have h1 : 0 ≤ n ∧ n ≤ 65536 := by omega
  have h2 : S.length ≤ 4096 := by rw [h.len]; omega
  refine ⟨ofPP_ok h1 h2 h.ok, ofOf_wf h1 h2 h.wf, ofOf_check h1 h2 h.ok, rfl, rfl, ?_⟩
  show (S.length : Int) = n
  rw [h.len]; exact hN
structure SzS where
  i : Nat
  S : List Sym
def rgEq (a b : Int × Int) : Bool := decide (a.1 = b.1) && decide (a.2 = b.2)
theorem rgEq_iff {a b : Int × Int} : rgEq a b = true ↔ a = b := by
  cases a; cases b; simp [rgEq]
theorem neqRg {n : Nat} {σ : Nat → Value} {S : World → Prop} {ty t' : TypeId} {x y : Operand} (a b : Int × Int) (hx : ev n σ x = .agg #[.int .i64 a.1, .int .i64 a.2]) (hy : ev n σ y = .agg #[.int .i64 b.1, .int .i64 b.2]) : Gives Tryz.prog (ev n σ) S (.binOp .neq 117 x y t') ty (.bool (!rgEq a b)) := fun w hw => by
  have hg : (eqGuard .neq 117 x y (.agg #[.int .i64 a.1, .int .i64 a.2]) (.agg #[.int .i64 b.1, .int .i64 b.2])).run Tryz.prog w = .ok () w := by simp [eqGuard, go_sem, Tryz.eqGuardType117]
  have hb : (binOp .neq 117 (.agg #[.int .i64 a.1, .int .i64 a.2]) (.agg #[.int .i64 b.1, .int .i64 b.2])).run Tryz.prog w = .ok (.bool (!rgEq a b)) w := by
    simp [go_sem, rgEq]
    by_cases h1 : a.1 = b.1 <;> by_cases h2 : a.2 = b.2 <;> simp [h1, h2]
  simp only [execOp, hx, hy, Sem.run_bind, hg, Result.andThen_ok, hb]; rfl

set_option maxHeartbeats 2000000 in
theorem sized11_c (r n : Int) (ad : Option Addr) (cap : Nat) (l : List Q4) (w0 : World) (I0 : Imm) (hI : Sat I0 w0) (hl : RFl I0 4 q4C (.slice ad l.length cap) l) (hq : ∀ q ∈ l, q.wf) (hn : 0 ≤ n ∧ n ≤ 4096) :
    Ctr Tryz.prog 30 [.agg #[.int .u8 r, .slice ad l.length cap], .int .i64 n] w0 (fun v w' => ∃ I' p a m c, v = .agg #[.bool p.lifted, .int .i64 p.in_, .int .i64 p.out, .slice a m c] ∧ Ext w0 I0 w' I' ∧ ROps I' (.slice a m c) p.ops ∧ Good11 p  n) := by
  have hn6 : 0 ≤ n ∧ n ≤ 65536 := by omega
  have hsz0 := whole_sz hn
  obtain ⟨N, hN⟩ : ∃ N, n.toNat = N := ⟨_, rfl⟩
  rw [hN] at hsz0
  have hNn : (N : Int) = n := by omega
  have hle := RSl.le hl
  simp only [maxLen] at hle
  refine fn (n := 119) Tryz.func30 rfl rfl rfl ?_
  have hS := St.start hI
  refine wpIn_seq ?_
  refine reg ?_
  refine qe (d_box (cs := [.int .u8 _, .slice _ _ _]) hS rfl) ?_
  clear hS
  rintro _ w_1 ⟨b2, rfl, hS⟩
  refine qe (d_alloc (cs := [.bool _, .int .i64 _, .int .i64 _, .slice _ _ _]) hS Tryz.zeroValue29 rfl) ?_
  clear hS
  rintro _ w_2 ⟨b4, rfl, hS⟩
  refine ol_nil (thenN ?_)
  refine wpIn_seq ?_
  refine reg ?_
  refine qq hS (g_movev (v := .int .i64 _) rfl) ?_
  refine qe (d_call Tryz.call60 rfl (refWhole_c n _ _ hS.imm hn6)) ?_
  rintro _ w_3 ⟨I13, a13, m13, c13, rfl, hE, h13⟩
  replace hS := hS.callE hE
  refine qe (d_call Tryz.call71 rfl (symbols11_o (wholeP n) (symsP (wholeP n)) N _ _ _ _ _ hS.imm (wholeP_wf hn6) h13 (wholeP_check hn6) rfl hsz0.len)) ?_
  rintro _ w_4 ⟨a14, c14, rfl, hE⟩
  replace hS := hS.call hE
  refine qq hS (g_assign _) ?_
  refine ol_nil (thenN ?_)
  refine wpIn_seq ?_
  refine wpIn_seq ?_
  refine reg ?_
  refine qq hS (g_assignv (v := .int .i64 _) rfl) ?_
  refine ol_nil (thenN ?_)
  refine wpIn_block ?_
  refine loop (fun (x : SzS) σ w => okS σ [(1, .int .i64 n), (2, .pointer (some ⟨b2, 0, none⟩)), (4, .pointer (some ⟨b4, 0, none⟩)), (5, .slice a14 N c14), (6, .int .i64 x.i)] ∧ ∃ I, St [] w0 I0 I w [.row (.slice a14 N c14) 81 3 N (flat symC x.S), .cel b4 29 [.bool false, .int .i64 0, .int .i64 0, .slice none 0 0], .cel b2 48 [.int .u8 r, .slice ad l.length cap]] ∧ x.i ≤ l.length ∧ SzOk n N x.S) (fun x => l.length - x.i) (⟨0, symsP (wholeP n)⟩) ?_ ?_
  ·
    exact ⟨⟨rfl, rfl, rfl, rfl, rfl, trivial⟩, _, hS.sel [true, true, true], by simp, hsz0⟩
  ·
    rintro ⟨i, S⟩ σ w_l ⟨hs, I, hS, hi0, hsz⟩
    dsimp only at hs hS hi0 hsz ⊢
    rw [← upds_self hs]; clear hs
    refine wpIn_seq ?_
    refine wpIn_seq ?_
    refine reg ?_
    refine qq hS (g_movev (v := .int .i64 _) rfl) ?_
    refine qq hS (g_fieldAddr (o' := 1) Tryz.underlying48 rfl Tryz.sizeOf22 rfl rfl rfl) ?_
    refine qq hS (g_ldO1 2 Tryz.isAgg22 rfl rfl rfl) ?_
    refine qq hS (g_lenI rfl Tryz.underlying22 (hl.mono hS.ext) rfl) ?_
    refine qq hS (g_lss rfl rfl) ?_
    refine qq hS (g_movev (v := .bool _) rfl) ?_
    refine qu rfl rfl hS (fun hg => (g_movev (v := .int .i64 _) rfl)) ?_
    intro u21 hu21 hn21
    refine qu rfl rfl hS (fun hg => (g_lss (hu21 hg) rfl)) ?_
    intro u22 hu22 hn22
    refine qq hS (g_and rfl rfl (fun hq => hu22 hq)) ?_
    refine qq hS (g_movev (v := .bool _) rfl) ?_
    refine qu rfl rfl hS (fun hg => (g_movev (v := .int .i64 _) rfl)) ?_
    intro u25 hu25 hn25
    refine qu rfl rfl hS (fun hg => (g_gtr (hu25 hg) rfl)) ?_
    intro u26 hu26 hn26
    refine qq hS (g_and rfl rfl (fun hq => hu26 hq)) ?_
    refine ol_nil (thenN ?_)
    refine cond_s rfl ?_ ?_
    ·
      intro hc27
      clear hu21 hn21 hu22 hn22 hu25 hn25 hu26 hn26
      try simp only [Bool.and_eq_true, Bool.or_eq_true, Bool.not_eq_true', Bool.and_eq_false_imp, Bool.or_eq_false_iff, Bool.not_eq_false', decide_eq_true_eq, decide_eq_false_iff_not] at hc27
      obtain ⟨⟨hil, hi5⟩, hn0⟩ := hc27
      obtain ⟨q, hqi⟩ : ∃ q, l[i]? = some q := ⟨_, List.getElem?_eq_getElem (by omega)⟩
      have hqA := (hl.mono hS.ext).at hqi
      obtain ⟨⟨qa1, qa2⟩, ⟨qb1, qb2⟩, ⟨qc1, qc2⟩, ⟨qd1, qd2⟩⟩ := hq q (List.mem_of_getElem? hqi)
      have hm1 := Int.emod_nonneg q.a (show n ≠ 0 by omega)
      have hm2 := Int.emod_lt_of_pos q.a (show 0 < n by omega)
      refine wpIn_skip ?_
      refine thenN ?_
      refine wpIn_seq ?_
      refine wpIn_block ?_
      refine wpIn_seq ?_
      refine reg ?_
      refine qq hS (g_fieldAddr (o' := 1) Tryz.underlying48 rfl Tryz.sizeOf22 rfl rfl rfl) ?_
      refine qq hS (g_ldO1 2 Tryz.isAgg22 rfl rfl rfl) ?_
      refine qq hS (g_movev (v := .int .i64 _) rfl) ?_
      refine qq hS (g_ixI Tryz.underlying22 Tryz.sizeOf130 (hl.mono hS.ext) rfl rfl (by omega) (by omega)) ?_
      refine qq hS (g_ldE (us := [.int .u8 _, .int .u8 _, .int .u8 _, .int .u8 _]) Tryz.sizeOf130 Tryz.isAgg130 hqA rfl rfl rfl) ?_
      refine qe (d_alloc (cs := [.int .u8 _, .int .u8 _, .int .u8 _, .int .u8 _]) hS Tryz.zeroValue130 rfl) ?_
      clear hS
      rintro _ w_5 ⟨b7, rfl, hS⟩
      refine qe (d_store 0 hS Tryz.sizeOf130 rfl rfl rfl (vs := [.int .u8 _, .int .u8 _, .int .u8 _, .int .u8 _]) rfl rfl rfl (Nat.le_of_ble_eq_true rfl) (cs' := [_, _, _, _]) rfl) ?_
      clear hS
      rintro _ w_6 ⟨rfl, hS⟩
      refine ol_nil (thenN ?_)
      refine wpIn_seq ?_
      refine reg ?_
      refine qq hS (g_indexArr (o' := 0) Tryz.underlying130 Tryz.sizeOf5 rfl rfl (by decide) (by decide) rfl) ?_
      refine qq hS (g_ldO1 0 Tryz.isAgg5 rfl rfl rfl) ?_
      refine qq hS (g_convi Tryz.underlying5 Tryz.underlying3 rfl (by omega) (by omega)) ?_
      refine qq hS (g_movev (v := .int .i64 _) rfl) ?_
      refine qq hS (g_rem rfl rfl (by omega) (by omega)) ?_
      refine qq hS (g_assignv (v := .int .i64 _) rfl) ?_
      refine ol_nil (thenN ?_)
      refine wpIn_seq ?_
      refine reg ?_
      refine qq hS (g_assignv (v := .int .i64 _) rfl) ?_
      refine ol_nil (thenN ?_)
      refine wpIn_block ?_
      refine loop (fun (x : SzS) σ w => okS σ [(1, .int .i64 n), (2, .pointer (some ⟨b2, 0, none⟩)), (4, .pointer (some ⟨b4, 0, none⟩)), (5, .slice a14 N c14), (6, .int .i64 i), (7, .pointer (some ⟨b7, 0, none⟩)), (8, .int .i64 (q.a % n)), (9, .int .i64 x.i)] ∧ ∃ I, St [] w0 I0 I w [.cel b7 130 [.int .u8 q.a, .int .u8 q.b, .int .u8 q.c, .int .u8 q.d], .row (.slice a14 N c14) 81 3 N (flat symC x.S), .cel b4 29 [.bool false, .int .i64 0, .int .i64 0, .slice none 0 0], .cel b2 48 [.int .u8 r, .slice ad l.length cap]] ∧ x.i ≤ 4 ∧ SzOk n N x.S) (fun x => 5 - x.i) (⟨0, S⟩) ?_ ?_
      ·
        exact ⟨⟨rfl, rfl, rfl, rfl, rfl, rfl, rfl, rfl, trivial⟩, _, hS.sel [true, true, true, true], by simp, hsz⟩
      ·
        rintro ⟨k, S⟩ σ w_l ⟨hs, I, hS, hk0, hsz⟩
        dsimp only at hs hS hk0 hsz ⊢
        rw [← upds_self hs]; clear hs
        refine wpIn_seq ?_
        refine wpIn_seq ?_
        refine reg ?_
        refine qq hS (g_movev (v := .int .i64 _) rfl) ?_
        refine qq hS (g_indexArr (o' := 1) Tryz.underlying130 Tryz.sizeOf5 rfl rfl (by decide) (by decide) rfl) ?_
        refine qq hS (g_ldO1 0 Tryz.isAgg5 rfl rfl rfl) ?_
        refine qq hS (g_quou rfl rfl (by omega) (by decide) (by rw [IntKind.wrap_u8]; omega)) ?_
        refine qq hS (g_convi Tryz.underlying5 Tryz.underlying3 rfl (by omega) (by omega)) ?_
        refine qq hS (g_rem rfl rfl (by omega) (by omega)) ?_
        refine qq hS (g_add rfl rfl (by omega) (by omega)) ?_
        refine qq hS (g_lss rfl rfl) ?_
        refine qq hS (g_movev (v := .bool _) rfl) ?_
        refine qu rfl rfl hS (fun hg => (g_movev (v := .int .i64 _) rfl)) ?_
        intro u49 hu49 hn49
        refine qu rfl rfl hS (fun hg => (g_movev (v := .int .i64 _) rfl)) ?_
        intro u50 hu50 hn50
        refine qu rfl rfl hS (fun hg => (g_add (hu49 hg) (hu50 hg) (by omega) (by omega))) ?_
        intro u51 hu51 hn51
        refine qu rfl rfl hS (fun hg => (g_movev (v := .int .i64 _) rfl)) ?_
        intro u52 hu52 hn52
        refine qu rfl rfl hS (fun hg => (g_lss (hu51 hg) (hu52 hg))) ?_
        intro u53 hu53 hn53
        refine qq hS (g_and rfl rfl (fun hq => hu53 hq)) ?_
        refine ol_nil (thenN ?_)
        refine cond_s rfl ?_ ?_
        ·
          intro hc54
          clear hu49 hn49 hu50 hn50 hu51 hn51 hu52 hn52 hu53 hn53
          try simp only [Bool.and_eq_true, Bool.or_eq_true, Bool.not_eq_true', Bool.and_eq_false_imp, Bool.or_eq_false_iff, Bool.not_eq_false', decide_eq_true_eq, decide_eq_false_iff_not] at hc54
          obtain ⟨hk3, hkn⟩ := hc54
          obtain ⟨u, hui⟩ : ∃ u, S[(q.a % n + (k : Int)).toNat]? = some u := ⟨_, List.getElem?_eq_getElem (by rw [hsz.len]; omega)⟩
          refine wpIn_skip ?_
          refine thenN ?_
          refine wpIn_seq ?_
          refine wpIn_block ?_
          refine wpIn_seq ?_
          refine reg ?_
          refine qq hS (g_indexArr (o' := 1) Tryz.underlying130 Tryz.sizeOf5 rfl rfl (by decide) (by decide) rfl) ?_
          refine qq hS (g_ldO1 0 Tryz.isAgg5 rfl rfl rfl) ?_
          refine qq hS (g_rem rfl rfl (by omega) (by omega)) ?_
          refine ol_nil (thenN ?_)
          refine wpIn_block ?_
          refine wpIn_seq ?_
          refine reg ?_
          refine qq hS (g_eql rfl rfl) ?_
          refine qq hS (g_assignv (v := .bool _) rfl) ?_
          refine ol_nil (thenN ?_)
          refine cond_s rfl ?_ ?_
          ·
            intro hc76
            try simp only [Bool.and_eq_true, Bool.or_eq_true, Bool.not_eq_true', Bool.and_eq_false_imp, Bool.or_eq_false_iff, Bool.not_eq_false', decide_eq_true_eq, decide_eq_false_iff_not] at hc76
            have hnew := okNew (n := n) (b := q.c) ⟨qc1, qc2⟩
            refine reg ?_
            refine qq hS (g_move _) ?_
            refine qq hS (g_movev (v := .int .i64 _) rfl) ?_
            refine qq hS (g_movev (v := .int .i64 _) rfl) ?_
            refine qq hS (g_add rfl rfl (by omega) (by omega)) ?_
            refine qq hS (g_indexArr (o' := 2) Tryz.underlying130 Tryz.sizeOf5 rfl rfl (by decide) (by decide) rfl) ?_
            refine qq hS (g_ldO1 0 Tryz.isAgg5 rfl rfl rfl) ?_
            refine qq hS (g_buildv (pl := [(0, 1), (1, 1), (2, 1)]) (cs := [.bool _, .int .i64 _, .int .u8 _]) Tryz.zeroValue81 Tryz.underlying81 (fun w => by simp [Tryz.sizeOf3, Tryz.sizeOf4, Tryz.sizeOf5]) (mp (v := .int .u8 _) rfl mp0) rfl) ?_
            refine qq hS (g_ixR 1 Tryz.underlying83 Tryz.sizeOf81 rfl rfl rfl (by omega) (by omega)) ?_
            refine qe (d_storeRow 1 symC_len ⟨false, 0, q.c⟩ hS hsz.len.symm hui Tryz.sizeOf81 rfl rfl rfl (vs := [.bool _, .int .i64 _, .int .u8 _]) rfl rfl rfl rfl rfl) ?_
            clear hS
            rintro _ w_7 ⟨rfl, hS⟩
            refine ol_nil (blkN (blkN (thenN ?_)))
            refine reg ?_
            refine qq hS (g_movev (v := .int .i64 _) rfl) ?_
            refine qq hS (g_add rfl rfl (by omega) (by omega)) ?_
            refine qq hS (g_assignv (v := .int .i64 _) rfl) ?_
            refine ol_nil (thenN ?_)
            exact ⟨⟨k + 1, _⟩, _, rfl, ⟨⟨rfl, rfl, rfl, rfl, rfl, rfl, rfl, rfl, trivial⟩, _, hS.sel [true, true, true, true], by dsimp only; omega, hsz.set _ hnew.1 hnew.2⟩, by dsimp only; omega⟩
          ·
            intro hc76
            try simp only [Bool.and_eq_true, Bool.or_eq_true, Bool.not_eq_true', Bool.and_eq_false_imp, Bool.or_eq_false_iff, Bool.not_eq_false', decide_eq_true_eq, decide_eq_false_iff_not] at hc76
            refine wpIn_seq ?_
            refine reg ?_
            refine qq hS (g_eql rfl rfl) ?_
            refine qq hS (g_assignv (v := .bool _) rfl) ?_
            refine ol_nil (thenN ?_)
            refine cond_s rfl ?_ ?_
            ·
              intro hc86
              try simp only [Bool.and_eq_true, Bool.or_eq_true, Bool.not_eq_true', Bool.and_eq_false_imp, Bool.or_eq_false_iff, Bool.not_eq_false', decide_eq_true_eq, decide_eq_false_iff_not] at hc86
              have hnew := okOld (n := n) (a := q.a % n + k) (b := q.d) (by omega) (by omega) (by omega) ⟨qd1, qd2⟩
              refine reg ?_
              refine qq hS (g_move _) ?_
              refine qq hS (g_movev (v := .int .i64 _) rfl) ?_
              refine qq hS (g_movev (v := .int .i64 _) rfl) ?_
              refine qq hS (g_add rfl rfl (by omega) (by omega)) ?_
              refine qq hS (g_movev (v := .int .i64 _) rfl) ?_
              refine qq hS (g_movev (v := .int .i64 _) rfl) ?_
              refine qq hS (g_add rfl rfl (by omega) (by omega)) ?_
              refine qq hS (g_indexArr (o' := 3) Tryz.underlying130 Tryz.sizeOf5 rfl rfl (by decide) (by decide) rfl) ?_
              refine qq hS (g_ldO1 0 Tryz.isAgg5 rfl rfl rfl) ?_
              refine qq hS (g_buildv (pl := [(0, 1), (1, 1), (2, 1)]) (cs := [.bool _, .int .i64 _, .int .u8 _]) Tryz.zeroValue81 Tryz.underlying81 (fun w => by simp [Tryz.sizeOf3, Tryz.sizeOf4, Tryz.sizeOf5]) (mp (v := .bool _) rfl (mp (v := .int .i64 _) rfl (mp (v := .int .u8 _) rfl mp0))) rfl) ?_
              refine qq hS (g_ixR 1 Tryz.underlying83 Tryz.sizeOf81 rfl rfl rfl (by omega) (by omega)) ?_
              refine qe (d_storeRow 1 symC_len ⟨true, q.a % n + k, q.d⟩ hS hsz.len.symm hui Tryz.sizeOf81 rfl rfl rfl (vs := [.bool _, .int .i64 _, .int .u8 _]) rfl rfl rfl rfl rfl) ?_
              clear hS
              rintro _ w_8 ⟨rfl, hS⟩
              refine ol_nil (blkN (blkN (thenN ?_)))
              refine reg ?_
              refine qq hS (g_movev (v := .int .i64 _) rfl) ?_
              refine qq hS (g_add rfl rfl (by omega) (by omega)) ?_
              refine qq hS (g_assignv (v := .int .i64 _) rfl) ?_
              refine ol_nil (thenN ?_)
              exact ⟨⟨k + 1, _⟩, _, rfl, ⟨⟨rfl, rfl, rfl, rfl, rfl, rfl, rfl, rfl, trivial⟩, _, hS.sel [true, true, true, true], by dsimp only; omega, hsz.set _ hnew.1 hnew.2⟩, by dsimp only; omega⟩
            ·
              intro hc86
              try simp only [Bool.and_eq_true, Bool.or_eq_true, Bool.not_eq_true', Bool.and_eq_false_imp, Bool.or_eq_false_iff, Bool.not_eq_false', decide_eq_true_eq, decide_eq_false_iff_not] at hc86
              refine wpIn_seq ?_
              refine reg ?_
              refine qq hS (g_eql rfl rfl) ?_
              refine qq hS (g_assignv (v := .bool _) rfl) ?_
              refine ol_nil (thenN ?_)
              refine cond_s rfl ?_ ?_
              ·
                intro hc99
                try simp only [Bool.and_eq_true, Bool.or_eq_true, Bool.not_eq_true', Bool.and_eq_false_imp, Bool.or_eq_false_iff, Bool.not_eq_false', decide_eq_true_eq, decide_eq_false_iff_not] at hc99
                have hnew := okOld (n := n) (a := q.c % n) (b := 0) (Int.emod_nonneg _ (by omega)) (Int.emod_lt_of_pos _ (by omega)) (by omega) (by decide)
                refine reg ?_
                refine qq hS (g_move _) ?_
                refine qq hS (g_movev (v := .int .i64 _) rfl) ?_
                refine qq hS (g_movev (v := .int .i64 _) rfl) ?_
                refine qq hS (g_add rfl rfl (by omega) (by omega)) ?_
                refine qq hS (g_indexArr (o' := 2) Tryz.underlying130 Tryz.sizeOf5 rfl rfl (by decide) (by decide) rfl) ?_
                refine qq hS (g_ldO1 0 Tryz.isAgg5 rfl rfl rfl) ?_
                refine qq hS (g_convi Tryz.underlying5 Tryz.underlying3 rfl (by omega) (by omega)) ?_
                refine qq hS (g_movev (v := .int .i64 _) rfl) ?_
                refine qq hS (g_rem rfl rfl (by omega) (by omega)) ?_
                refine qq hS (g_buildv (pl := [(0, 1), (1, 1), (2, 1)]) (cs := [.bool _, .int .i64 _, .int .u8 _]) Tryz.zeroValue81 Tryz.underlying81 (fun w => by simp [Tryz.sizeOf3, Tryz.sizeOf4, Tryz.sizeOf5]) (mp (v := .bool _) rfl (mp (v := .int .i64 _) rfl mp0)) rfl) ?_
                refine qq hS (g_ixR 1 Tryz.underlying83 Tryz.sizeOf81 rfl rfl rfl (by omega) (by omega)) ?_
                refine qe (d_storeRow 1 symC_len ⟨true, q.c % n, 0⟩ hS hsz.len.symm hui Tryz.sizeOf81 rfl rfl rfl (vs := [.bool _, .int .i64 _, .int .u8 _]) rfl rfl rfl rfl rfl) ?_
                clear hS
                rintro _ w_9 ⟨rfl, hS⟩
                refine ol_nil (blkN (blkN (thenN ?_)))
                refine reg ?_
                refine qq hS (g_movev (v := .int .i64 _) rfl) ?_
                refine qq hS (g_add rfl rfl (by omega) (by omega)) ?_
                refine qq hS (g_assignv (v := .int .i64 _) rfl) ?_
                refine ol_nil (thenN ?_)
                exact ⟨⟨k + 1, _⟩, _, rfl, ⟨⟨rfl, rfl, rfl, rfl, rfl, rfl, rfl, rfl, trivial⟩, _, hS.sel [true, true, true, true], by dsimp only; omega, hsz.set _ hnew.1 hnew.2⟩, by dsimp only; omega⟩
              ·
                intro hc99
                try simp only [Bool.and_eq_true, Bool.or_eq_true, Bool.not_eq_true', Bool.and_eq_false_imp, Bool.or_eq_false_iff, Bool.not_eq_false', decide_eq_true_eq, decide_eq_false_iff_not] at hc99
                have hnew := okOld (n := n) (a := (q.c + k) % n) (b := q.d % 3) (Int.emod_nonneg _ (by omega)) (Int.emod_lt_of_pos _ (by omega)) (by omega) (by omega)
                refine draw (.cons 0 .pure (.cons 1 .pure (.cons 2 .pure (.cons 3 .pure (.cons 4 .pure (.cons 5 .held (.cons 6 .pure (.cons 7 .pure (.cons 8 .pure (.cons 9 .pure (.cons 10 .pure (.cons 11 .pure (.cons 12 .held (.cons 13 .pure (.cons 14 .pure (.cons 15 .held (.cons 16 .bar .nil))))))))))))))))) mixed (by kernel_rfl) hS ?_
                intro w_10 hS
                refine sp rfl (g_move _) ?_
                refine sp rfl (g_movev (v := .int .i64 _) rfl) ?_
                refine sp rfl (g_movev (v := .int .i64 _) rfl) ?_
                refine sp rfl (g_add rfl rfl (by omega) (by omega)) ?_
                refine sp rfl (g_indexArr (o' := 2) Tryz.underlying130 Tryz.sizeOf5 rfl rfl (by decide) (by decide) rfl) ?_
                refine sh rfl (g_ldO1 0 Tryz.isAgg5 rfl rfl rfl) ?_
                refine sp rfl (g_convi Tryz.underlying5 Tryz.underlying3 rfl (by omega) (by omega)) ?_
                refine sp rfl (g_movev (v := .int .i64 _) rfl) ?_
                refine sp rfl (g_add rfl rfl (by omega) (by omega)) ?_
                refine sp rfl (g_movev (v := .int .i64 _) rfl) ?_
                refine sp rfl (g_rem rfl rfl (by omega) (by omega)) ?_
                refine sp rfl (g_indexArr (o' := 3) Tryz.underlying130 Tryz.sizeOf5 rfl rfl (by decide) (by decide) rfl) ?_
                refine sh rfl (g_ldO1 0 Tryz.isAgg5 rfl rfl rfl) ?_
                refine sp rfl (g_rem rfl rfl (by omega) (by omega)) ?_
                refine sp rfl (g_buildv (pl := [(0, 1), (1, 1), (2, 1)]) (cs := [.bool _, .int .i64 _, .int .u8 _]) Tryz.zeroValue81 Tryz.underlying81 (fun w => by simp [Tryz.sizeOf3, Tryz.sizeOf4, Tryz.sizeOf5]) (mp (v := .bool _) rfl (mp (v := .int .i64 _) rfl (mp (v := .int .u8 _) rfl mp0))) rfl) ?_
                refine sh rfl (g_ixR 1 Tryz.underlying83 Tryz.sizeOf81 rfl rfl rfl (by omega) (by omega)) ?_
                refine sb rfl (d_storeRow 1 symC_len ⟨true, (q.c + k) % n, q.d % 3⟩ hS hsz.len.symm hui Tryz.sizeOf81 rfl rfl rfl (vs := [.bool _, .int .i64 _, .int .u8 _]) rfl rfl rfl rfl rfl) ?_
                rintro _ w_11 ⟨rfl, hS⟩
                refine ⟨_, _, hS, ?_⟩
                refine sn (blkN (blkN (thenN ?_)))
                refine reg ?_
                refine qq hS (g_movev (v := .int .i64 _) rfl) ?_
                refine qq hS (g_add rfl rfl (by omega) (by omega)) ?_
                refine qq hS (g_assignv (v := .int .i64 _) rfl) ?_
                refine ol_nil (thenN ?_)
                exact ⟨⟨k + 1, _⟩, _, rfl, ⟨⟨rfl, rfl, rfl, rfl, rfl, rfl, rfl, rfl, trivial⟩, _, hS.sel [true, true, true, true], by dsimp only; omega, hsz.set _ hnew.1 hnew.2⟩, by dsimp only; omega⟩
        ·
          intro hc54
          clear hu49 hn49 hu50 hn50 hu51 hn51 hu52 hn52 hu53 hn53
          try simp only [Bool.and_eq_true, Bool.or_eq_true, Bool.not_eq_true', Bool.and_eq_false_imp, Bool.or_eq_false_iff, Bool.not_eq_false', decide_eq_true_eq, decide_eq_false_iff_not] at hc54
          refine wpIn_exit ?_
          refine thenE (thenE (blkE ?_))
          refine blkN (thenN ?_)
          refine reg ?_
          refine qq hS (g_movev (v := .int .i64 _) rfl) ?_
          refine qq hS (g_add rfl rfl (by omega) (by omega)) ?_
          refine qq hS (g_assignv (v := .int .i64 _) rfl) ?_
          refine ol_nil (thenN ?_)
          exact ⟨⟨i + 1, S⟩, _, rfl, ⟨⟨rfl, rfl, rfl, rfl, rfl, trivial⟩, _, hS.sel [false, true, true, true], by dsimp only; omega, hsz⟩, by dsimp only; omega⟩
    ·
      intro hc27
      clear hu21 hn21 hu22 hn22 hu25 hn25 hu26 hn26
      try simp only [Bool.and_eq_true, Bool.or_eq_true, Bool.not_eq_true', Bool.and_eq_false_imp, Bool.or_eq_false_iff, Bool.not_eq_false', decide_eq_true_eq, decide_eq_false_iff_not] at hc27
      refine wpIn_exit ?_
      refine thenE (thenE (blkE ?_))
      refine thenN ?_
      refine wpIn_seq ?_
      obtain ⟨hof, hgood⟩ := good_of hsz hn hNn
      obtain ⟨I9, hS9, hI9, h55⟩ := St.freezeRow symC_len hS hsz.len.symm
      clear hS
      replace hS := hS9
      clear hS9
      refine reg ?_
      refine qq hS (g_move _) ?_
      refine qq hS (g_movev (v := .int .i64 _) rfl) ?_
      refine qe (d_call Tryz.call72 rfl (refOf_E a14 N c14 S n (ofOf n S, 0) _ _ hS.imm h55 hsz.len.symm hsz.wf (by unfold Mid; omega) hof)) ?_
      rintro _ w_12 ⟨I_f, a58, m58, c58, rfl, hE, h58⟩
      replace hS := hS.callE hE
      refine qq hS (g_move _) ?_
      refine qq hS (g_extract rfl rfl) ?_
      refine qq hS (g_extract (v := .int .i64 _) rfl rfl) ?_
      refine qe (d_alloc (cs := [.bool _, .int .i64 _, .int .i64 _, .slice _ _ _]) hS Tryz.zeroValue29 rfl) ?_
      clear hS
      rintro _ w_13 ⟨b10, rfl, hS⟩
      refine qe (d_store 0 hS Tryz.sizeOf29 rfl rfl rfl (vs := [.bool _, .int .i64 _, .int .i64 _, .slice _ _ _]) rfl rfl rfl (Nat.le_of_ble_eq_true rfl) (cs' := [_, _, _, _]) rfl) ?_
      clear hS
      rintro _ w_14 ⟨rfl, hS⟩
      refine qq hS (g_assignv (v := .int .i64 _) rfl) ?_
      refine ol_nil (thenN ?_)
      refine wpIn_seq ?_
      refine reg ?_
      refine qq hS (g_ldO 0 (vs := [.bool _, .int .i64 _, .int .i64 _, .slice _ _ _]) Tryz.sizeOf29 Tryz.isAgg29 rfl rfl rfl rfl) ?_
      refine qe (d_store 1 hS Tryz.sizeOf29 rfl rfl rfl (vs := [.bool _, .int .i64 _, .int .i64 _, .slice _ _ _]) rfl rfl rfl (Nat.le_of_ble_eq_true rfl) (cs' := [_, _, _, _]) rfl) ?_
      clear hS
      rintro _ w_15 ⟨rfl, hS⟩
      refine ol_nil (thenN ?_)
      refine wpIn_ret ?_
      refine ret1 Tryz.results30 (rv_cel 1 hS Tryz.sizeOf29 Tryz.isAgg29 rfl rfl rfl) ?_
      exact ⟨_, _, a58, m58, c58, rfl, hS.nil, h58, hgood⟩

theorem made11_c (r : Int) (ad : Option Addr) (cap : Nat) (l : List Q4) (w0 : World) (I0 : Imm) (hI : Sat I0 w0) (hr : 0 ≤ r ∧ r ≤ 255) (hl : RFl I0 4 q4C (.slice ad l.length cap) l) (hq : ∀ q ∈ l, q.wf) :
    Ctr Tryz.prog 25 [.agg #[.int .u8 r, .slice ad l.length cap]] w0 (fun v w' => ∃ I' p a m c, v = .agg #[.bool p.lifted, .int .i64 p.in_, .int .i64 p.out, .slice a m c] ∧ Ext w0 I0 w' I' ∧ ROps I' (.slice a m c) p.ops ∧ Good11 p  (r % 13)) := by
  refine fn (n := 9) Tryz.func25 rfl rfl rfl ?_
  have hS := St.start hI
  refine wpIn_seq ?_
  refine reg ?_
  refine qe (d_box (cs := [.int .u8 _, .slice _ _ _]) hS rfl) ?_
  clear hS
  rintro _ w_1 ⟨b1, rfl, hS⟩
  refine qe (d_alloc (cs := [.bool _, .int .i64 _, .int .i64 _, .slice _ _ _]) hS Tryz.zeroValue29 rfl) ?_
  clear hS
  rintro _ w_2 ⟨b2, rfl, hS⟩
  refine ol_nil (thenN ?_)
  refine wpIn_seq ?_
  refine reg ?_
  refine qq hS (g_ldO 1 (vs := [.int .u8 _, .slice _ _ _]) Tryz.sizeOf48 Tryz.isAgg48 rfl rfl rfl rfl) ?_
  refine qq hS (g_fieldAddr (o' := 0) Tryz.underlying48 rfl Tryz.sizeOf5 rfl rfl rfl) ?_
  refine qq hS (g_ldO1 1 Tryz.isAgg5 rfl rfl rfl) ?_
  refine qq hS (g_convi Tryz.underlying5 Tryz.underlying3 rfl (by omega) (by omega)) ?_
  refine qq hS (g_rem rfl rfl (by omega) (by omega)) ?_
  refine qe (d_call Tryz.call30 rfl (sized11_c r (r % 13) ad cap l _ _ hS.imm (hl.mono hS.ext) hq (by omega))) ?_
  rintro _ w_3 ⟨I_f, p, a58, m58, c58, rfl, hE, h58, hgood⟩
  replace hS := hS.callE hE
  refine qe (d_store 0 hS Tryz.sizeOf29 rfl rfl rfl (vs := [.bool _, .int .i64 _, .int .i64 _, .slice _ _ _]) rfl rfl rfl (Nat.le_of_ble_eq_true rfl) (cs' := [_, _, _, _]) rfl) ?_
  clear hS
  rintro _ w_4 ⟨rfl, hS⟩
  refine ol_nil (thenN ?_)
  refine wpIn_ret ?_
  refine ret1 Tryz.results25 (rv_cel 0 hS Tryz.sizeOf29 Tryz.isAgg29 rfl rfl rfl) ?_
  exact ⟨_, _, a58, m58, c58, rfl, hS.nil, h58, hgood⟩

set_option maxHeartbeats 1000000 in
theorem sameRg_c (l k : List (Int × Int)) (ad bd : Option Addr) (cap capb : Nat) (w0 : World) (I0 : Imm) (hI : Sat I0 w0) (hl : RRgs I0 (.slice ad l.length cap) l) (hk : RRgs I0 (.slice bd k.length capb) k) :
    Ctr Tryz.prog 111 [.slice ad l.length cap, .slice bd k.length capb] w0 (fun v w' => v = .bool (decide (l = k)) ∧ Ext w0 I0 w' I0) := by
  have hle := RSl.le hl
  have hlk := RSl.le hk
  simp only [maxLen] at hle hlk
  refine fn (n := 26) Tryz.func111 rfl rfl rfl ?_
  have hS := St.start hI
  refine wpIn_seq ?_
  refine reg ?_
  refine qq hS (g_assignv (v := .bool _) rfl) ?_
  refine ol_nil (thenN ?_)
  refine wpIn_seq ?_
  refine wpIn_seq ?_
  refine reg ?_
  refine qq hS (g_move _) ?_
  refine qq hS (g_lenI rfl Tryz.underlying51 hl rfl) ?_
  refine qq hS (g_move _) ?_
  refine qq hS (g_lenI rfl Tryz.underlying51 hk rfl) ?_
  refine qq hS (g_neq rfl rfl) ?_
  refine ol_nil (thenN ?_)
  refine cond_s rfl ?_ ?_
  ·
    intro hc10
    try simp only [Bool.and_eq_true, Bool.or_eq_true, Bool.not_eq_true', Bool.and_eq_false_imp, Bool.or_eq_false_iff, Bool.not_eq_false', decide_eq_true_eq, decide_eq_false_iff_not] at hc10
    have e : decide (l = k) = false := decide_eq_false (fun h => by rw [h] at hc10; exact hc10 rfl)
    refine wpIn_seq ?_
    refine reg ?_
    refine qq hS (g_assignv (v := .bool _) rfl) ?_
    refine ol_nil (thenN ?_)
    refine wpIn_ret ?_
    refine thenR ?_
    refine ret1 Tryz.results111 (rv_tmp (v := .bool _) rfl) ?_
    rw [e]; exact ⟨rfl, hS.nil⟩
  ·
    intro hc10
    try simp only [Bool.and_eq_true, Bool.or_eq_true, Bool.not_eq_true', Bool.and_eq_false_imp, Bool.or_eq_false_iff, Bool.not_eq_false', decide_eq_true_eq, decide_eq_false_iff_not] at hc10
    have hlen : l.length = k.length := by omega
    refine wpIn_skip ?_
    refine thenN ?_
    refine wpIn_seq ?_
    refine wpIn_seq ?_
    refine reg ?_
    refine qq hS (g_assignv (v := .int .i64 _) rfl) ?_
    refine ol_nil (thenN ?_)
    refine wpIn_block ?_
    refine loop (fun (i : Nat) σ w => okS σ [(0, .slice ad l.length cap), (1, .slice bd k.length capb), (5, .int .i64 i)] ∧ St [] w0 I0 I0 w [] ∧ i ≤ l.length ∧ ∀ j, j < i → l[j]? = k[j]?) (fun i => l.length - i) (0) ?_ ?_
    ·
      exact ⟨⟨rfl, rfl, rfl, trivial⟩, hS.sel [], by simp, fun j h => absurd h (Nat.not_lt_zero j)⟩
    ·
      rintro i σ w_l ⟨hs, hS, hi0, hall⟩
      rw [← upds_self hs]; clear hs
      refine wpIn_seq ?_
      refine wpIn_seq ?_
      refine reg ?_
      refine qq hS (g_movev (v := .int .i64 _) rfl) ?_
      refine qq hS (g_move _) ?_
      refine qq hS (g_lenI rfl Tryz.underlying51 hl rfl) ?_
      refine qq hS (g_lss rfl rfl) ?_
      refine ol_nil (thenN ?_)
      refine cond_s rfl ?_ ?_
      ·
        intro hc14
        try simp only [Bool.and_eq_true, Bool.or_eq_true, Bool.not_eq_true', Bool.and_eq_false_imp, Bool.or_eq_false_iff, Bool.not_eq_false', decide_eq_true_eq, decide_eq_false_iff_not] at hc14
        obtain ⟨r, hri⟩ : ∃ r, l[i]? = some r := ⟨_, List.getElem?_eq_getElem (by omega)⟩
        obtain ⟨s, hsi⟩ : ∃ r, k[i]? = some r := ⟨_, List.getElem?_eq_getElem (by omega)⟩
        have hrA := hl.at hri
        have hsA := hk.at hsi
        refine wpIn_skip ?_
        refine thenN ?_
        refine wpIn_seq ?_
        refine wpIn_block ?_
        refine wpIn_seq ?_
        refine draw (.cons 0 .pure (.cons 1 .pure (.cons 2 .pure (.cons 3 .held (.cons 4 .pure (.cons 5 .pure (.cons 6 .pure (.cons 7 .held (.cons 8 .pure .nil))))))))) mixed (by kernel_rfl) hS ?_
        intro w_1 hS
        refine sp rfl (g_move _) ?_
        refine sp rfl (g_movev (v := .int .i64 _) rfl) ?_
        refine sp rfl (g_ixI Tryz.underlying51 Tryz.sizeOf117 hl rfl rfl (by omega) (by omega)) ?_
        refine sh rfl (g_ldE (us := [.int .i64 _, .int .i64 _]) Tryz.sizeOf117 Tryz.isAgg117 hrA rfl rfl rfl) ?_
        refine sp rfl (g_move _) ?_
        refine sp rfl (g_movev (v := .int .i64 _) rfl) ?_
        refine sp rfl (g_ixI Tryz.underlying51 Tryz.sizeOf117 hk rfl rfl (by omega) (by omega)) ?_
        refine sh rfl (g_ldE (us := [.int .i64 _, .int .i64 _]) Tryz.sizeOf117 Tryz.isAgg117 hsA rfl rfl rfl) ?_
        refine sp rfl (neqRg r s rfl rfl) ?_
        refine sn (thenN ?_)
        refine cond_s rfl ?_ ?_
        ·
          intro hc25
          have e : decide (l = k) = false := decide_eq_false (fun h => by
            subst h
            rw [hri] at hsi
            obtain rfl := Option.some.inj hsi
            rw [rgEq_iff.2 rfl] at hc25; cases hc25)
          refine wpIn_seq ?_
          refine reg ?_
          refine qq hS (g_assignv (v := .bool _) rfl) ?_
          refine ol_nil (thenN ?_)
          refine wpIn_ret ?_
          refine blkR (thenR (thenR (blkR (thenR ?_))))
          refine ret1 Tryz.results111 (rv_tmp (v := .bool _) rfl) ?_
          rw [e]; exact ⟨rfl, hS.nil⟩
        ·
          intro hc25
          have hrs : l[i]? = k[i]? := by rw [hri, hsi, (rgEq_iff (a := r) (b := s)).1 (by simpa using hc25)]
          refine wpIn_skip ?_
          refine blkN (thenN ?_)
          refine reg ?_
          refine qq hS (g_movev (v := .int .i64 _) rfl) ?_
          refine qq hS (g_add rfl rfl (by omega) (by omega)) ?_
          refine qq hS (g_assignv (v := .int .i64 _) rfl) ?_
          refine ol_nil (thenN ?_)
          exact ⟨i + 1, _, rfl, ⟨⟨rfl, rfl, rfl, trivial⟩, hS.sel [], by omega, fun j h => (Nat.lt_succ_iff_lt_or_eq.1 h).elim (hall j) (fun e => by rw [e]; exact hrs)⟩, by omega⟩
      ·
        intro hc14
        try simp only [Bool.and_eq_true, Bool.or_eq_true, Bool.not_eq_true', Bool.and_eq_false_imp, Bool.or_eq_false_iff, Bool.not_eq_false', decide_eq_true_eq, decide_eq_false_iff_not] at hc14
        have hi : i = l.length := by omega
        have e : decide (l = k) = true := decide_eq_true (by
          apply List.ext_getElem?
          intro j
          by_cases hj : j < i
          · exact hall j hj
          · rw [List.getElem?_eq_none (by omega), List.getElem?_eq_none (by omega)])
        refine wpIn_exit ?_
        refine thenE (thenE (blkE ?_))
        refine thenN ?_
        refine wpIn_seq ?_
        refine reg ?_
        refine qq hS (g_assignv (v := .bool _) rfl) ?_
        refine ol_nil (thenN ?_)
        refine wpIn_ret ?_
        refine ret1 Tryz.results111 (rv_tmp (v := .bool _) rfl) ?_
        rw [e]; exact ⟨rfl, hS.nil⟩

end Go.Proofs.YtodopmclnklgdaaGreat

