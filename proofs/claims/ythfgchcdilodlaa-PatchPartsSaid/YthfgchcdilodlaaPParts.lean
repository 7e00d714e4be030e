/- inlaylaw06.PatchParts: its function answers true. Conditions: arguments are of their kinds. -/
import Derived.Test.YthfgchcdilodlaaPSymbols
import Derived.Test.YthfgchcdilodlaaCore15
namespace Go.Proofs.Ythfgchcdilodlaa
open Go Go.RowKit Go.Inl
set_option linter.unusedSimpArgs false
set_option linter.unusedVariables false
def bothP (p q : PatL) : PatL := ⟨false, p.in_, p.out + q.out, p.ops ++ q.ops⟩
theorem OpsOk_append {n : Int} {a b : List OpL} (ha : OpsOk n a) (hb : OpsOk n b) : OpsOk n (a ++ b) := fun x hx => by
  rcases List.mem_append.1 hx with h | h
  · exact ha x h
  · exact hb x h
theorem bothP_check {p q : PatL} (hp : (checkP p).2 = 0) (hq : (checkP q).2 = 0) (hi : q.in_ = p.in_) (ho : p.out + q.out ≤ 65536) (hl : p.ops.length + q.ops.length ≤ 4096) : (checkP (bothP p q)).2 = 0 := by
  obtain ⟨k1, k2, k3, k4, k5, k6, k7⟩ := checkP_ok hp
  obtain ⟨j1, j2, j3, j4, j5, j6, j7⟩ := checkP_ok hq
  have h2 := checkP_opsOk hq
  rw [hi] at h2
  refine checkP_right ⟨k3, k4⟩ (OpsOk_append (checkP_opsOk hp) h2) ?_ ho ?_
  · show ((symsOf (p.ops ++ q.ops)).length : Int) = p.out + q.out
    rw [symsOf_append, List.length_append]; omega
  · show (p.ops ++ q.ops).length ≤ 4096
    rw [List.length_append]; exact hl
theorem bothP_wf {p q : PatL} (hp : p.wf) (hq : q.wf) (hm : Mid (p.out + q.out)) (hl : p.ops.length + q.ops.length ≤ 4096) : (bothP p q).wf := by
  refine ⟨hp.in_, hm, fun x hx => ?_, ?_⟩
  · rcases List.mem_append.1 hx with h | h
    · exact hp.ops x h
    · exact hq.ops x h
  · show ((p.ops ++ q.ops).length : Int) ≤ _
    rw [List.length_append]; omega
theorem sumC_append : ∀ (a b : List OpL), sumC (a ++ b) = sumC a + sumC b
  | [], b => by simp [sumC]
  | x :: a, b => by rw [List.cons_append]; simp only [sumC]; rw [sumC_append a b]; omega
theorem whole_runs {O : List Int} (hb : ∀ y ∈ O, 0 ≤ y ∧ y ≤ 255) : (symsOf (wholeP O.length).ops).map (runB O) = O := by
  rw [wholeP_syms (by omega), List.map_map]
  apply List.ext_getElem
  · simp
  · intro i h1 h2
    rw [List.getElem_map, List.getElem_range]
    have hy : O[((0 : Int) + (i : Nat)).toNat]? = some O[i] := by rw [show ((0 : Int) + (i : Nat)).toNat = i by omega]; exact List.getElem?_eq_getElem h2
    show runB O ⟨true, 0 + (i : Nat), 0⟩ = O[i]
    rw [runB_old rfl hy, Int.zero_add, wrap8 (hb _ (List.getElem_mem h2))]
theorem apply_whole {O : List Int} (hb : ∀ y ∈ O, 0 ≤ y ∧ y ≤ 255) (hl : O.length ≤ 65536) : applyP O (wholeP O.length) = (O, 0) := by
  rw [applyP_right (p := wholeP (O.length : Int)) (wholeP_check ⟨by omega, by omega⟩) rfl, whole_runs hb]
theorem sumC_le {n : Int} : ∀ (l : List OpL), OpsOk n l → 0 ≤ sumC l ∧ sumC l ≤ 4 * (l.length : Int) + ((symsOf l).length : Int)
  | [], _ => by simp [sumC, symsOf]
  | x :: l, h => by
    have ih := sumC_le l fun y hy => h y (List.mem_cons_of_mem _ hy)
    have hx := (h x (List.mem_cons_self ..)).1
    have ho := opc_pos (k := x.kind) (n := x.len) (by omega)
    have h2 : opc x.kind x.len ≤ 4 + x.len := by unfold opc; split <;> (try split) <;> (try split) <;> omega
    simp only [sumC, List.length_cons]
    rw [symsOf_cons, List.length_append, symsOp_length]
    constructor
    · omega
    · push_cast
      omega
theorem sumC_bd {p : PatL} (h : (checkP p).2 = 0) (hl : p.ops.length ≤ 4096) : 0 ≤ sumC p.ops ∧ sumC p.ops ≤ 1000000 := by
  obtain ⟨k1, k2, k3, k4, k5, k6, k7⟩ := checkP_ok h
  have := sumC_le _ (checkP_opsOk h)
  omega
theorem whole_sum {n : Int} (h : 0 < n) : sumC (wholeP n).ops = 4 := by rw [wholeP_pos h]; rfl
theorem sized6_E (r : Int) (ad : Option Addr) (cap : Nat) (l : List Q4) (size : Int) (p : PatL) (w0 : World) (I0 : Imm) (hI : Sat I0 w0) (hl : RFl I0 4 q4C (.slice ad l.length cap) l) (hq : ∀ q ∈ l, q.wf) (hs : 0 ≤ size ∧ size ≤ 65536) (hp : madeP l size = p) :
    Ctr Try.prog 23 [.agg #[.int .u8 r, .slice ad l.length cap], .int .i64 size] w0 (fun v w' => ∃ I' a m c, v = .agg #[.bool p.lifted, .int .i64 p.in_, .int .i64 p.out, .slice a m c] ∧ Ext w0 I0 w' I' ∧ ROps I' (.slice a m c) p.ops) := by
  subst hp; exact sized_c r ad cap l size w0 I0 hI hl hq hs.1 hs.2
theorem apply_L (p : PatL) (ad bd : Option Addr) (m cap n capb : Nat) (old R : List Int) (e : Int) (w0 : World) (I0 : Imm) (hI : Sat I0 w0) (hops : ROps I0 (.slice ad m cap) p.ops) (hp : p.wf) (hl : p.lifted = false) (ho : RBytes I0 (.slice bd n capb) old) (hn : n = old.length) (hR : applyP old p = (R, e)) :
    Ctr Try.prog 13 [.slice bd n capb, .agg #[.bool p.lifted, .int .i64 p.in_, .int .i64 p.out, .slice ad m cap]] w0 (fun v w' => ∃ I' a c, v = .tuple #[.slice a R.length c, .int .i64 e] ∧ Ext w0 I0 w' I' ∧ RBytes I' (.slice a R.length c) R) :=
  apply_E p ad bd m cap n capb old (R, e) w0 I0 hI hops hp hl ho hn hR
theorem symbols_L (p : PatL) (ad : Option Addr) (m cap : Nat) (A : List Sym) (e : Int) (w0 : World) (I0 : Imm) (hI : Sat I0 w0) (hops : ROps I0 (.slice ad m cap) p.ops) (hp : p.wf) (he : symbolsP p = (A, e)) :
    Ctr Try.prog 14 [.agg #[.bool p.lifted, .int .i64 p.in_, .int .i64 p.out, .slice ad m cap]] w0 (fun v w' => ∃ I' a c, v = .tuple #[.slice a A.length c, .int .i64 e] ∧ Ext w0 I0 w' I' ∧ RSyms I' (.slice a A.length c) A) :=
  symbols_e p ad m cap (A, e) w0 I0 hI hops hp he
theorem run6_L (ad bd : Option Addr) (m n cap capb : Nat) (lo : List Int) (l : List Sym) (R : List Int) (e : Int) (w0 : World) (I0 : Imm) (hI : Sat I0 w0) (ha : RBytes I0 (.slice ad m cap) lo) (hm : m = lo.length) (hb : RSyms I0 (.slice bd n capb) l) (hnl : n = l.length) (hwb : ∀ s ∈ l, s.wf) (hn : l.length ≤ 65536) (he : runP lo l = (R, e)) :
    Ctr Try.prog 16 [.slice ad m cap, .slice bd n capb] w0 (fun v w' => ∃ I' a c, v = .tuple #[.slice a R.length c, .int .i64 e] ∧ Ext w0 I0 w' I' ∧ RBytes I' (.slice a R.length c) R) :=
  run6_E ad bd m n cap capb lo l (R, e) w0 I0 hI ha hm hb hnl hwb hn he
theorem whole_L (n : Int) (p : PatL) (w0 : World) (I0 : Imm) (hI : Sat I0 w0) (h0 : 0 ≤ n ∧ n ≤ 65536) (he : wholeP n = p) :
    Ctr Try.prog 24 [.int .i64 n] w0 (fun v w' => ∃ I' a m c, v = .agg #[.bool p.lifted, .int .i64 p.in_, .int .i64 p.out, .slice a m c] ∧ Ext w0 I0 w' I' ∧ ROps I' (.slice a m c) p.ops) := by
  subst he; exact patchWhole_c n w0 I0 hI h0
theorem g_eqF6 {P : Program} {n : Nat} {σ : Nat → Value} {S : World → Prop} {t t' ty : TypeId} {x y : Operand} {k : IntKind} {a b : Int} (hx : ev n σ x = .int k a) (hy : ev n σ y = .int k b) (h : ¬ a = b) : Gives P (ev n σ) S (.binOp .eql t x y t') ty (.bool false) := by
  have := g_eql (P := P) (S := S) (t := t) (t' := t') (ty := ty) hx hy
  rw [decide_eq_false h] at this; exact this

set_option maxRecDepth 20000 in
set_option maxHeartbeats 4000000 in
theorem pparts_c (r r' : Int) (ad ed bd : Option Addr) (cap cape capb : Nat) (l l2 : List Q4) (bs : List Int) (w0 : World) (I0 : Imm) (hI : Sat I0 w0) (hr : 0 ≤ r ∧ r ≤ 255) (h4 : RFl I0 4 q4C (.slice ad l.length cap) l) (hq : ∀ q ∈ l, q.wf) (h5 : RFl I0 4 q4C (.slice ed l2.length cape) l2) (hq2 : ∀ q ∈ l2, q.wf) (hb : RBytes I0 (.slice bd bs.length capb) bs) (hbb : ∀ y ∈ bs, 0 ≤ y ∧ y ≤ 255) :
    Ctr Try.prog 6 [.agg #[.int .u8 r, .slice ad l.length cap], .agg #[.int .u8 r', .slice ed l2.length cape], .slice bd bs.length capb] w0 (fun v w' => ∃ I', v = .bool true ∧ Ext w0 I0 w' I') := by
  have hr13 : 0 ≤ r % 13 ∧ r % 13 ≤ 65536 := by omega
  have hpw := madeP_wf (size := r % 13) hq hr13
  obtain ⟨hpk, hpo, hpl⟩ := madeP_ok (size := r % 13) hq hr13
  have hlf : (madeP l (r % 13)).lifted = false := rfl
  have hin0 : (madeP l (r % 13)).in_ = r % 13 := rfl
  have hqw := madeP_wf (size := r % 13) hq2 hr13
  obtain ⟨hqk, hqo, hql⟩ := madeP_ok (size := r % 13) hq2 hr13
  have hqf : (madeP l2 (r % 13)).lifted = false := rfl
  have hqi : (madeP l2 (r % 13)).in_ = (madeP l (r % 13)).in_ := rfl
  obtain ⟨p, hp⟩ : ∃ p, madeP l (r % 13) = p := ⟨_, rfl⟩
  obtain ⟨q, hqq⟩ : ∃ q, madeP l2 (r % 13) = q := ⟨_, rfl⟩
  rw [hp] at hpw hpk hpo hpl hlf hin0 hqi
  rw [hqq] at hqw hqk hqo hql hqf hqi
  rw [← hin0] at hqq
  obtain ⟨k1, k2, k3, k4, k5, k6, k7⟩ := checkP_ok hpk
  obtain ⟨j1, j2, j3, j4, j5, j6, j7⟩ := checkP_ok hqk
  have hBk := bothP_check hpk hqk hqi (by omega) (by omega)
  have hBw := bothP_wf hpw hqw ⟨by omega, by omega⟩ (by omega)
  have hA := symbolsP_ok hpk
  have hB := symbolsP_ok hqk
  have hC := symbolsP_ok hBk
  rw [show (bothP p q).ops = p.ops ++ q.ops from rfl, symsOf_append] at hC
  have hOl := inputP_len bs p.in_.toNat
  have hOb := inputP_bd (n := p.in_.toNat) hbb
  obtain ⟨O, hO⟩ : ∃ O, inputP bs p.in_.toNat = O := ⟨_, rfl⟩
  rw [hO] at hOl hOb
  have hin : p.in_ = O.length := by omega
  have hXA := applyP_right hpk hin
  have hXB := applyP_right hqk (hqi.trans hin)
  have hXC := applyP_right hBk hin
  rw [show (bothP p q).ops = p.ops ++ q.ops from rfl, symsOf_append] at hXC
  have hXW := apply_whole hOb (by omega)
  have hWw := wholeP_wf (n := O.length) ⟨by omega, by omega⟩
  have hWk := wholeP_check (n := O.length) ⟨by omega, by omega⟩
  have hWl : (wholeP (O.length : Int)).lifted = false := rfl
  obtain ⟨W, hW⟩ : ∃ W, wholeP (O.length : Int) = W := ⟨_, rfl⟩
  rw [hW] at hXW hWw hWk hWl
  have hsum : sumC (p.ops ++ q.ops) = sumC p.ops + sumC q.ops := sumC_append _ _
  have hc1 : 0 ≤ sumC p.ops ∧ sumC p.ops ≤ 1000000 := sumC_bd hpk (by omega)
  have hc2 : 0 ≤ sumC q.ops ∧ sumC q.ops ≤ 1000000 := sumC_bd hqk (by omega)
  have hRl : ((symsOf p.ops).map (runB O)).length = (symsOf p.ops).length := List.length_map _
  have hRl2 : ((symsOf q.ops).map (runB O)).length = (symsOf q.ops).length := List.length_map _
  refine fn (n := 170) Try.func6 rfl rfl rfl ?_
  have hS := St.start hI
  refine wpIn_seq ?_
  refine reg ?_
  refine qe (d_box (cs := [.int .u8 _, .slice _ _ _]) hS rfl) ?_
  clear hS
  rintro _ w_1 ⟨b3, rfl, hS⟩
  refine qe (d_box (cs := [.int .u8 _, .slice _ _ _]) hS rfl) ?_
  clear hS
  rintro _ w_2 ⟨b4, rfl, hS⟩
  refine qq hS (g_assignv (v := .bool _) rfl) ?_
  refine ol_nil (thenN ?_)
  refine wpIn_seq ?_
  refine reg ?_
  refine qe (d_call Try.call9 rfl (sanity6_c _ _ hS.imm)) ?_
  rintro _ w_3 ⟨I_f, rfl, hE⟩
  replace hS := hS.callE hE
  replace h4 := h4.mono hE.ext
  replace h5 := h5.mono hE.ext
  replace hb := hb.mono hE.ext
  refine qq hS (g_assignv (v := .bool _) rfl) ?_
  refine ol_nil (thenN ?_)
  refine wpIn_seq ?_
  refine reg ?_
  refine qq hS (g_ldO 1 (vs := [.int .u8 _, .slice _ _ _]) Try.sizeOf27 Try.isAgg27 rfl rfl rfl rfl) ?_
  refine qe (d_call Try.call10 rfl (made6_E r ad cap l p _ _ hS.imm h4 hq hr hp)) ?_
  rintro _ w_4 ⟨I_f, a31, m31, c31, rfl, hE, h31⟩
  replace hS := hS.callE hE
  replace h4 := h4.mono hE.ext
  replace h5 := h5.mono hE.ext
  replace hb := hb.mono hE.ext
  refine qe (d_alloc (cs := [.bool _, .int .i64 _, .int .i64 _, .slice _ _ _]) hS Try.zeroValue24 rfl) ?_
  clear hS
  rintro _ w_5 ⟨b8, rfl, hS⟩
  refine qe (d_store 0 hS Try.sizeOf24 rfl rfl rfl (vs := [.bool _, .int .i64 _, .int .i64 _, .slice _ _ _]) rfl rfl rfl (Nat.le_of_ble_eq_true rfl) (cs' := [_, _, _, _]) rfl) ?_
  clear hS
  rintro _ w_6 ⟨rfl, hS⟩
  refine ol_nil (thenN ?_)
  refine wpIn_seq ?_
  refine reg ?_
  refine qq hS (g_ldO 1 (vs := [.int .u8 _, .slice _ _ _]) Try.sizeOf27 Try.isAgg27 rfl rfl rfl rfl) ?_
  refine qq hS (g_fieldAddr (o' := 1) Try.underlying24 rfl Try.sizeOf3 rfl rfl rfl) ?_
  refine qq hS (g_ldO1 0 Try.isAgg3 rfl rfl rfl) ?_
  refine qe (d_call Try.call23 rfl (sized6_E r' ed cape l2 p.in_ q _ _ hS.imm h5 hq2 ⟨k3, k4⟩ hqq)) ?_
  rintro _ w_7 ⟨I_35, a35, m35, c35, rfl, hE, h35⟩
  replace hS := hS.callE hE
  replace h4 := h4.mono hE.ext
  replace h5 := h5.mono hE.ext
  replace hb := hb.mono hE.ext
  replace h31 := h31.mono hE.ext
  refine qe (d_alloc (cs := [.bool _, .int .i64 _, .int .i64 _, .slice _ _ _]) hS Try.zeroValue24 rfl) ?_
  clear hS
  rintro _ w_8 ⟨b9, rfl, hS⟩
  refine qe (d_store 0 hS Try.sizeOf24 rfl rfl rfl (vs := [.bool _, .int .i64 _, .int .i64 _, .slice _ _ _]) rfl rfl rfl (Nat.le_of_ble_eq_true rfl) (cs' := [_, _, _, _]) rfl) ?_
  clear hS
  rintro _ w_9 ⟨rfl, hS⟩
  refine ol_nil (thenN ?_)
  refine meet (fun σ w => ∃ b10 a46 p46 css46, okS σ [(2, .slice bd bs.length capb), (7, .bool true), (8, .pointer (some ⟨b8, 0, none⟩)), (9, .pointer (some ⟨b9, 0, none⟩)), (10, .pointer (some ⟨b10, 0, none⟩))] ∧ (∀ c ∈ css46, c.length = 5) ∧ All2 (ROp I_35) css46 p.ops ∧ St [] w0 I0 I_35 w [.row (.slice a46 (0 + p.ops.length) p46) 35 5 (0 + p.ops.length) ([] ++ css46.flatten), .cel b10 24 [.bool false, .int .i64 p.in_, .int .i64 (p.out + q.out), .slice a46 (0 + p.ops.length) p46], .cel b9 24 [.bool q.lifted, .int .i64 q.in_, .int .i64 q.out, .slice a35 m35 c35], .cel b8 24 [.bool p.lifted, .int .i64 p.in_, .int .i64 p.out, .slice a31 m31 c31]]) ?_ ?_
  ·
    refine drawS [true, true, true, true] (.cons 0 .pure (.cons 1 .held (.cons 2 .pure (.cons 3 .held (.cons 4 .pure (.cons 5 .held (.cons 6 .pure (.cons 8 .pure (.cons 9 .held (.fork 7 (.fork 10 (.cons 11 .pure (.cons 12 .eff (.cons 13 .eff .nil))) 12 (.cons 10 .eff (.cons 11 .pure (.cons 13 .eff .nil)))) 12 (.cons 7 .eff (.cons 10 .eff (.cons 11 .pure (.cons 13 .eff .nil)))))))))))))) mixed (by kernel_rfl) hS ?_
    intro w_10 hS
    refine sp rfl (g_fieldAddr (o' := 1) Try.underlying24 rfl Try.sizeOf3 rfl rfl rfl) ?_
    refine sh rfl (g_ldO1 1 Try.isAgg3 rfl rfl rfl) ?_
    refine sp rfl (g_fieldAddr (o' := 2) Try.underlying24 rfl Try.sizeOf3 rfl rfl rfl) ?_
    refine sh rfl (g_ldO1 1 Try.isAgg3 rfl rfl rfl) ?_
    refine sp rfl (g_fieldAddr (o' := 2) Try.underlying24 rfl Try.sizeOf3 rfl rfl rfl) ?_
    refine sh rfl (g_ldO1 0 Try.isAgg3 rfl rfl rfl) ?_
    refine sp rfl (g_add rfl rfl (by omega) (by omega)) ?_
    refine sp rfl (g_fieldAddr (o' := 3) Try.underlying24 rfl Try.sizeOf22 rfl rfl rfl) ?_
    refine sh rfl (g_ldO1 1 Try.isAgg22 rfl rfl rfl) ?_
    refine sk ?_ ?_
    ·
      have hS0 := hS
      refine se rfl (d_buildSlice0 hS Try.underlying22 Try.sizeOf35) ?_
      rintro _ w_11 ⟨hS, b43_, rfl⟩
      refine ⟨_, _, fun _ h => h, hS.sel [false, true, true, true, true], ?_⟩
      refine sk ?_ ?_
      ·
        have hS0 := hS
        refine se rfl (i_appendR 0 hS rfl Try.underlying22 info35 rfl rfl rfl rfl ROp.one h31 rfl (by omega) (by omega)) ?_
        rintro _ w_12 ⟨a46, p46, css46, rfl, hcl46, hca46, hS⟩
        refine ⟨_, _, fun _ h => h, hS.sel [false, true, true, true, true], ?_⟩
        refine sp rfl (g_buildv (pl := [(0, 1), (1, 1), (2, 1), (3, 1)]) (cs := [.bool _, .int .i64 _, .int .i64 _, .slice _ _ _]) Try.zeroValue24 Try.underlying24 (fun w => by simp [Try.sizeOf22, Try.sizeOf3, Try.sizeOf4]) (mp (v := .int .i64 _) rfl (mp (v := .int .i64 _) rfl (mp (v := .slice _ _ _) rfl mp0))) rfl) ?_
        have hS0 := hS
        refine se rfl (d_alloc (cs := [.bool _, .int .i64 _, .int .i64 _, .slice _ _ _]) hS Try.zeroValue24 rfl) ?_
        rintro _ w_13 ⟨b10, rfl, hS⟩
        refine ⟨_, _, fun _ h => h, hS.sel [false, false, true, true, true, true], ?_⟩
        have hS0 := hS
        refine se rfl (d_store 0 hS Try.sizeOf24 rfl rfl rfl (vs := [.bool _, .int .i64 _, .int .i64 _, .slice _ _ _]) rfl rfl rfl (Nat.le_of_ble_eq_true rfl) (cs' := [_, _, _, _]) rfl) ?_
        rintro _ w_14 ⟨rfl, hS⟩
        refine ⟨_, _, fun _ h => h, hS.sel [false, false, true, true, true, true], ?_⟩
        refine sn (thenN ?_)
        exact ⟨_, rfl, _, _, _, _, ⟨rfl, rfl, rfl, rfl, rfl, trivial⟩, hcl46, hca46, (hS.ord [1, 0, 2, 3])⟩
      ·
        have hS0 := hS
        refine se rfl (d_alloc (cs := [.bool _, .int .i64 _, .int .i64 _, .slice _ _ _]) hS Try.zeroValue24 rfl) ?_
        rintro _ w_15 ⟨b10, rfl, hS⟩
        refine ⟨_, _, fun _ h => h, hS.sel [false, false, true, true, true, true], ?_⟩
        have hS0 := hS
        refine se rfl (i_appendR 1 hS rfl Try.underlying22 info35 rfl rfl rfl rfl ROp.one h31 rfl (by omega) (by omega)) ?_
        rintro _ w_16 ⟨a46, p46, css46, rfl, hcl46, hca46, hS⟩
        refine ⟨_, _, fun _ h => h, hS.sel [false, false, true, true, true, true], ?_⟩
        refine sp rfl (g_buildv (pl := [(0, 1), (1, 1), (2, 1), (3, 1)]) (cs := [.bool _, .int .i64 _, .int .i64 _, .slice _ _ _]) Try.zeroValue24 Try.underlying24 (fun w => by simp [Try.sizeOf22, Try.sizeOf3, Try.sizeOf4]) (mp (v := .int .i64 _) rfl (mp (v := .int .i64 _) rfl (mp (v := .slice _ _ _) rfl mp0))) rfl) ?_
        have hS0 := hS
        refine se rfl (d_store 0 hS Try.sizeOf24 rfl rfl rfl (vs := [.bool _, .int .i64 _, .int .i64 _, .slice _ _ _]) rfl rfl rfl (Nat.le_of_ble_eq_true rfl) (cs' := [_, _, _, _]) rfl) ?_
        rintro _ w_17 ⟨rfl, hS⟩
        refine ⟨_, _, fun _ h => h, hS.sel [false, false, true, true, true, true], ?_⟩
        refine sn (thenN ?_)
        exact ⟨_, rfl, _, _, _, _, ⟨rfl, rfl, rfl, rfl, rfl, trivial⟩, hcl46, hca46, (hS.ord [1, 0, 2, 3])⟩
    ·
      have hS0 := hS
      refine se rfl (d_alloc (cs := [.bool _, .int .i64 _, .int .i64 _, .slice _ _ _]) hS Try.zeroValue24 rfl) ?_
      rintro _ w_18 ⟨b10, rfl, hS⟩
      refine ⟨_, _, fun _ h => h, hS.sel [false, true, true, true, true], ?_⟩
      have hS0 := hS
      refine se rfl (d_buildSlice0 hS Try.underlying22 Try.sizeOf35) ?_
      rintro _ w_19 ⟨hS, b43_, rfl⟩
      refine ⟨_, _, fun _ h => h, hS.sel [false, false, true, true, true, true], ?_⟩
      have hS0 := hS
      refine se rfl (i_appendR 0 hS rfl Try.underlying22 info35 rfl rfl rfl rfl ROp.one h31 rfl (by omega) (by omega)) ?_
      rintro _ w_20 ⟨a46, p46, css46, rfl, hcl46, hca46, hS⟩
      refine ⟨_, _, fun _ h => h, hS.sel [false, false, true, true, true, true], ?_⟩
      refine sp rfl (g_buildv (pl := [(0, 1), (1, 1), (2, 1), (3, 1)]) (cs := [.bool _, .int .i64 _, .int .i64 _, .slice _ _ _]) Try.zeroValue24 Try.underlying24 (fun w => by simp [Try.sizeOf22, Try.sizeOf3, Try.sizeOf4]) (mp (v := .int .i64 _) rfl (mp (v := .int .i64 _) rfl (mp (v := .slice _ _ _) rfl mp0))) rfl) ?_
      have hS0 := hS
      refine se rfl (d_store 1 hS Try.sizeOf24 rfl rfl rfl (vs := [.bool _, .int .i64 _, .int .i64 _, .slice _ _ _]) rfl rfl rfl (Nat.le_of_ble_eq_true rfl) (cs' := [_, _, _, _]) rfl) ?_
      rintro _ w_21 ⟨rfl, hS⟩
      refine ⟨_, _, fun _ h => h, hS.sel [false, false, true, true, true, true], ?_⟩
      refine sn (thenN ?_)
      exact ⟨_, rfl, _, _, _, _, ⟨rfl, rfl, rfl, rfl, rfl, trivial⟩, hcl46, hca46, (hS.sel [true, true, true, true, false, false])⟩
  ·
    rintro σ w ⟨b10, a46, p46, css46, hs, hcl46, hca46, hS⟩
    rw [← upds_self hs]
    refine wpIn_seq ?_
    refine reg ?_
    refine qq hS (g_fieldAddr (o' := 3) Try.underlying24 rfl Try.sizeOf22 rfl rfl rfl) ?_
    refine qq hS (g_ldO1 1 Try.isAgg22 rfl rfl rfl) ?_
    refine qq hS (g_fieldAddr (o' := 3) Try.underlying24 rfl Try.sizeOf22 rfl rfl rfl) ?_
    refine qq hS (g_ldO1 2 Try.isAgg22 rfl rfl rfl) ?_
    refine qe (i_appendR 0 hS rfl Try.underlying22 info35 rfl rfl rfl rfl ROp.one h35 rfl (by omega) (by omega)) ?_
    clear hS
    rintro _ w_22 ⟨a52, p52, css52, rfl, hcl52, hca52, hS⟩
    refine qq hS (g_fieldAddr (o' := 3) Try.underlying24 rfl Try.sizeOf22 rfl rfl rfl) ?_
    refine qe (d_store 1 hS Try.sizeOf22 rfl rfl rfl (vs := [.slice _ _ _]) rfl rfl rfl (Nat.le_of_ble_eq_true rfl) (cs' := [_, _, _, _]) rfl) ?_
    clear hS
    rintro _ w_23 ⟨rfl, hS⟩
    refine ol_nil (thenN ?_)
    refine wpIn_seq ?_
    have hF := St.freezeRowR (u := .slice a52 (0 + p.ops.length + q.ops.length) p52) (m := 0 + p.ops.length + q.ops.length) (xs := (bothP p q).ops) (css := css46 ++ css52) (by rw [List.flatten_append]; exact hS.ord [0, 1, 2, 3]) (by show _ = (p.ops ++ q.ops).length; simp) (fun c hc => (List.mem_append.1 hc).elim (hcl46 c) (hcl52 c)) (All2.append hca46 hca52)
    clear hS
    obtain ⟨I_h52, hS, hI_h52, h52⟩ := hF
    replace h4 := h4.mono hI_h52
    replace h5 := h5.mono hI_h52
    replace hb := hb.mono hI_h52
    replace h31 := h31.mono hI_h52
    replace h35 := h35.mono hI_h52
    replace h52 : ROps I_h52 (.slice a52 (0 + p.ops.length + q.ops.length) p52) ((bothP p q).ops) := RSl.mono h52 (Sub.refl _) (fun _ _ h => h.mono hI_h52)
    refine reg ?_
    refine qq hS (g_move _) ?_
    refine qq hS (g_fieldAddr (o' := 1) Try.underlying24 rfl Try.sizeOf3 rfl rfl rfl) ?_
    refine qq hS (g_ldO1 2 Try.isAgg3 rfl rfl rfl) ?_
    refine qe (d_call Try.call15 rfl (input_E _ _ bs p.in_ O _ _ hS.imm hb hbb ⟨k3, k4⟩ hO)) ?_
    rintro _ w_24 ⟨I_f, a57, c57, rfl, hE, h57⟩
    replace hS := hS.callE hE
    replace h4 := h4.mono hE.ext
    replace h5 := h5.mono hE.ext
    replace hb := hb.mono hE.ext
    replace h31 := h31.mono hE.ext
    replace h35 := h35.mono hE.ext
    replace h52 := h52.mono hE.ext
    refine qq hS (g_assign _) ?_
    refine ol_nil (thenN ?_)
    refine wpIn_seq ?_
    refine reg ?_
    refine qq hS (g_move _) ?_
    refine qq hS (g_ldO 2 (vs := [.bool _, .int .i64 _, .int .i64 _, .slice _ _ _]) Try.sizeOf24 Try.isAgg24 rfl rfl rfl rfl) ?_
    refine qe (d_call Try.call13 rfl (apply_L p _ _ _ _ _ _ O ((symsOf p.ops).map (runB O)) 0 _ _ hS.imm h31 hpw hlf h57 rfl hXA)) ?_
    rintro _ w_25 ⟨I_f, a61, c61, rfl, hE, h61⟩
    replace hS := hS.callE hE
    replace h4 := h4.mono hE.ext
    replace h5 := h5.mono hE.ext
    replace hb := hb.mono hE.ext
    replace h31 := h31.mono hE.ext
    replace h35 := h35.mono hE.ext
    replace h52 := h52.mono hE.ext
    replace h57 := h57.mono hE.ext
    refine qq hS (g_move _) ?_
    refine qq hS (g_extract rfl rfl) ?_
    refine qq hS (g_extract (v := .int .i64 _) rfl rfl) ?_
    refine qq hS (g_assign _) ?_
    refine qq hS (g_assignv (v := .int .i64 _) rfl) ?_
    refine ol_nil (thenN ?_)
    refine wpIn_seq ?_
    refine reg ?_
    refine qq hS (g_move _) ?_
    refine qq hS (g_ldO 1 (vs := [.bool _, .int .i64 _, .int .i64 _, .slice _ _ _]) Try.sizeOf24 Try.isAgg24 rfl rfl rfl rfl) ?_
    refine qe (d_call Try.call13 rfl (apply_L q _ _ _ _ _ _ O ((symsOf q.ops).map (runB O)) 0 _ _ hS.imm h35 hqw hqf h57 rfl hXB)) ?_
    rintro _ w_26 ⟨I_f, a67, c67, rfl, hE, h67⟩
    replace hS := hS.callE hE
    replace h4 := h4.mono hE.ext
    replace h5 := h5.mono hE.ext
    replace hb := hb.mono hE.ext
    replace h31 := h31.mono hE.ext
    replace h35 := h35.mono hE.ext
    replace h52 := h52.mono hE.ext
    replace h57 := h57.mono hE.ext
    replace h61 := h61.mono hE.ext
    refine qq hS (g_move _) ?_
    refine qq hS (g_extract rfl rfl) ?_
    refine qq hS (g_extract (v := .int .i64 _) rfl rfl) ?_
    refine qq hS (g_assign _) ?_
    refine qq hS (g_assignv (v := .int .i64 _) rfl) ?_
    refine ol_nil (thenN ?_)
    refine wpIn_seq ?_
    refine reg ?_
    refine qq hS (g_move _) ?_
    refine qq hS (g_ldO 0 (vs := [.bool _, .int .i64 _, .int .i64 _, .slice _ _ _]) Try.sizeOf24 Try.isAgg24 rfl rfl rfl rfl) ?_
    refine qe (d_call Try.call13 rfl (apply_L (bothP p q) _ _ _ _ _ _ O ((symsOf p.ops ++ symsOf q.ops).map (runB O)) 0 _ _ hS.imm h52 hBw rfl h57 rfl hXC)) ?_
    rintro _ w_27 ⟨I_f, a73, c73, rfl, hE, h73⟩
    replace hS := hS.callE hE
    replace h4 := h4.mono hE.ext
    replace h5 := h5.mono hE.ext
    replace hb := hb.mono hE.ext
    replace h31 := h31.mono hE.ext
    replace h35 := h35.mono hE.ext
    replace h52 := h52.mono hE.ext
    replace h57 := h57.mono hE.ext
    replace h61 := h61.mono hE.ext
    replace h67 := h67.mono hE.ext
    refine qq hS (g_move _) ?_
    refine qq hS (g_extract rfl rfl) ?_
    refine qq hS (g_extract (v := .int .i64 _) rfl rfl) ?_
    refine qq hS (g_assign _) ?_
    refine qq hS (g_assignv (v := .int .i64 _) rfl) ?_
    refine ol_nil (thenN ?_)
    refine wpIn_seq ?_
    refine reg ?_
    refine qq hS (g_ldO 0 (vs := [.bool _, .int .i64 _, .int .i64 _, .slice _ _ _]) Try.sizeOf24 Try.isAgg24 rfl rfl rfl rfl) ?_
    refine qe (d_call Try.call14 rfl (symbols_L (bothP p q) _ _ _ (symsOf p.ops ++ symsOf q.ops) 0 _ _ hS.imm h52 hBw hC)) ?_
    rintro _ w_28 ⟨I_f, a78, c78, rfl, hE, h78⟩
    replace hS := hS.callE hE
    replace h4 := h4.mono hE.ext
    replace h5 := h5.mono hE.ext
    replace hb := hb.mono hE.ext
    replace h31 := h31.mono hE.ext
    replace h35 := h35.mono hE.ext
    replace h52 := h52.mono hE.ext
    replace h57 := h57.mono hE.ext
    replace h61 := h61.mono hE.ext
    replace h67 := h67.mono hE.ext
    replace h73 := h73.mono hE.ext
    refine qq hS (g_move _) ?_
    refine qq hS (g_extract rfl rfl) ?_
    refine qq hS (g_extract (v := .int .i64 _) rfl rfl) ?_
    refine qq hS (g_assign _) ?_
    refine qq hS (g_assignv (v := .int .i64 _) rfl) ?_
    refine ol_nil (thenN ?_)
    refine wpIn_seq ?_
    refine reg ?_
    refine qq hS (g_ldO 2 (vs := [.bool _, .int .i64 _, .int .i64 _, .slice _ _ _]) Try.sizeOf24 Try.isAgg24 rfl rfl rfl rfl) ?_
    refine qe (d_call Try.call14 rfl (symbols_L p _ _ _ (symsOf p.ops) 0 _ _ hS.imm h31 hpw hA)) ?_
    rintro _ w_29 ⟨I_f, a83, c83, rfl, hE, h83⟩
    replace hS := hS.callE hE
    replace h4 := h4.mono hE.ext
    replace h5 := h5.mono hE.ext
    replace hb := hb.mono hE.ext
    replace h31 := h31.mono hE.ext
    replace h35 := h35.mono hE.ext
    replace h52 := h52.mono hE.ext
    replace h57 := h57.mono hE.ext
    replace h61 := h61.mono hE.ext
    replace h67 := h67.mono hE.ext
    replace h73 := h73.mono hE.ext
    replace h78 := h78.mono hE.ext
    refine qq hS (g_move _) ?_
    refine qq hS (g_extract rfl rfl) ?_
    refine qq hS (g_extract (v := .int .i64 _) rfl rfl) ?_
    refine qq hS (g_assign _) ?_
    refine qq hS (g_assignv (v := .int .i64 _) rfl) ?_
    refine ol_nil (thenN ?_)
    refine wpIn_seq ?_
    refine reg ?_
    refine qq hS (g_ldO 1 (vs := [.bool _, .int .i64 _, .int .i64 _, .slice _ _ _]) Try.sizeOf24 Try.isAgg24 rfl rfl rfl rfl) ?_
    refine qe (d_call Try.call14 rfl (symbols_L q _ _ _ (symsOf q.ops) 0 _ _ hS.imm h35 hqw hB)) ?_
    rintro _ w_30 ⟨I_f, a88, c88, rfl, hE, h88⟩
    replace hS := hS.callE hE
    replace h4 := h4.mono hE.ext
    replace h5 := h5.mono hE.ext
    replace hb := hb.mono hE.ext
    replace h31 := h31.mono hE.ext
    replace h35 := h35.mono hE.ext
    replace h52 := h52.mono hE.ext
    replace h57 := h57.mono hE.ext
    replace h61 := h61.mono hE.ext
    replace h67 := h67.mono hE.ext
    replace h73 := h73.mono hE.ext
    replace h78 := h78.mono hE.ext
    replace h83 := h83.mono hE.ext
    refine qq hS (g_move _) ?_
    refine qq hS (g_extract rfl rfl) ?_
    refine qq hS (g_extract (v := .int .i64 _) rfl rfl) ?_
    refine qq hS (g_assign _) ?_
    refine qq hS (g_assignv (v := .int .i64 _) rfl) ?_
    refine ol_nil (thenN ?_)
    refine wpIn_seq ?_
    refine reg ?_
    refine qe (d_buildSlice0 hS Try.underlying33 Try.sizeOf5) ?_
    clear hS
    rintro _ w_31 ⟨hS, b91_, rfl⟩
    refine qq hS (g_move _) ?_
    refine qe (i_appendF 0 hS rfl Try.underlying33 info5 rfl rfl rfl rfl byteC_len (fun _ => rfl) h61 rfl (by omega) (by omega)) ?_
    clear hS
    rintro _ w_32 ⟨a93, p93, rfl, hS⟩
    refine qe (d_buildSlice0 hS Try.underlying43 Try.sizeOf51) ?_
    clear hS
    rintro _ w_33 ⟨hS, b94_, rfl⟩
    refine qq hS (g_move _) ?_
    refine qe (i_appendF 0 hS rfl Try.underlying43 info51 rfl rfl rfl rfl symC_len (fun _ => rfl) h83 rfl (by omega) (by omega)) ?_
    clear hS
    rintro _ w_34 ⟨a96, p96, rfl, hS⟩
    refine qq hS (g_assign _) ?_
    refine qq hS (g_assign _) ?_
    refine ol_nil (thenN ?_)
    refine wpIn_seq ?_
    refine reg ?_
    refine qq hS (g_move _) ?_
    refine qq hS (g_move _) ?_
    refine qe (i_appendF 1 hS rfl Try.underlying33 info5 rfl rfl rfl rfl byteC_len (fun _ => rfl) h67 rfl (by omega) (by omega)) ?_
    clear hS
    rintro _ w_35 ⟨a99, p99, rfl, hS⟩
    refine qq hS (g_move _) ?_
    refine qq hS (g_move _) ?_
    refine qe (i_appendF 0 hS rfl Try.underlying43 info51 rfl rfl rfl rfl symC_len (fun _ => rfl) h88 rfl (by omega) (by omega)) ?_
    clear hS
    rintro _ w_36 ⟨a102, p102, rfl, hS⟩
    refine qq hS (g_assign _) ?_
    refine qq hS (g_assign _) ?_
    refine ol_nil (thenN ?_)
    refine wpIn_seq ?_
    refine reg ?_
    refine qq hS (g_move _) ?_
    refine qq hS (g_move _) ?_
    refine qq hS (g_lenI rfl Try.underlying33 h57 rfl) ?_
    refine qe (d_call Try.call24 rfl (whole_L (O.length : Int) W _ _ hS.imm ⟨by omega, by omega⟩ hW)) ?_
    rintro _ w_37 ⟨I_f, a107, m107, c107, rfl, hE, h107⟩
    replace hS := hS.callE hE
    replace h4 := h4.mono hE.ext
    replace h5 := h5.mono hE.ext
    replace hb := hb.mono hE.ext
    replace h31 := h31.mono hE.ext
    replace h35 := h35.mono hE.ext
    replace h52 := h52.mono hE.ext
    replace h57 := h57.mono hE.ext
    replace h61 := h61.mono hE.ext
    replace h67 := h67.mono hE.ext
    replace h73 := h73.mono hE.ext
    replace h78 := h78.mono hE.ext
    replace h83 := h83.mono hE.ext
    replace h88 := h88.mono hE.ext
    refine qe (d_call Try.call13 rfl (apply_L W _ _ _ _ _ _ O O 0 _ _ hS.imm h107 hWw hWl h57 rfl hXW)) ?_
    rintro _ w_38 ⟨I_f, a108, c108, rfl, hE, h108⟩
    replace hS := hS.callE hE
    replace h4 := h4.mono hE.ext
    replace h5 := h5.mono hE.ext
    replace hb := hb.mono hE.ext
    replace h31 := h31.mono hE.ext
    replace h35 := h35.mono hE.ext
    replace h52 := h52.mono hE.ext
    replace h57 := h57.mono hE.ext
    replace h61 := h61.mono hE.ext
    replace h67 := h67.mono hE.ext
    replace h73 := h73.mono hE.ext
    replace h78 := h78.mono hE.ext
    replace h83 := h83.mono hE.ext
    replace h88 := h88.mono hE.ext
    replace h107 := h107.mono hE.ext
    refine qq hS (g_move _) ?_
    refine qq hS (g_extract rfl rfl) ?_
    refine qq hS (g_extract (v := .int .i64 _) rfl rfl) ?_
    refine qq hS (g_assign _) ?_
    refine qq hS (g_assignv (v := .int .i64 _) rfl) ?_
    refine ol_nil (thenN ?_)
    refine wpIn_seq ?_
    refine (Nat.eq_zero_or_pos O.length).elim (fun hz => ?_) (fun hz => ?_)
    ·
      refine draw (.cons 0 .held (.cons 2 .held (.cons 4 .held (.cons 1 .eff (.cons 3 .eff (.cons 5 .eff (.cons 6 .pure (.cons 7 .pure (.cons 8 .pure (.cons 9 .pure (.cons 10 .pure (.cons 11 .pure (.cons 12 .pure (.cons 13 .pure (.cons 14 .pure (.cons 15 .eff (.cons 16 .eff (.cons 17 .pure (.cons 18 .pure (.cons 19 .pure (.cons 20 .pure .nil))))))))))))))))))))) mixed (by kernel_rfl) hS ?_
      intro w_39 hS
      refine sh rfl (g_ldO 2 (vs := [.bool _, .int .i64 _, .int .i64 _, .slice _ _ _]) Try.sizeOf24 Try.isAgg24 rfl rfl rfl rfl) ?_
      refine sh rfl (g_ldO 4 (vs := [.bool _, .int .i64 _, .int .i64 _, .slice _ _ _]) Try.sizeOf24 Try.isAgg24 rfl rfl rfl rfl) ?_
      refine sh rfl (g_ldO 3 (vs := [.bool _, .int .i64 _, .int .i64 _, .slice _ _ _]) Try.sizeOf24 Try.isAgg24 rfl rfl rfl rfl) ?_
      have hS0 := hS
      refine se rfl (d_call Try.call25 rfl (costN_E (bothP p q) _ _ _ _ _ _ hS.imm h52 hBw hBk rfl)) ?_
      rintro _ w_40 ⟨rfl, hE⟩
      replace hS := hS.call hE
      refine ⟨_, _, hS0.le hE.ext (List.Sublist.refl _), hS, ?_⟩
      have hS0 := hS
      refine se rfl (d_call Try.call25 rfl (costN_E p _ _ _ _ _ _ hS.imm h31 hpw hpk rfl)) ?_
      rintro _ w_41 ⟨rfl, hE⟩
      replace hS := hS.call hE
      refine ⟨_, _, hS0.le hE.ext (List.Sublist.refl _), hS, ?_⟩
      have hS0 := hS
      refine se rfl (d_call Try.call25 rfl (costN_E q _ _ _ _ _ _ hS.imm h35 hqw hqk rfl)) ?_
      rintro _ w_42 ⟨rfl, hE⟩
      replace hS := hS.call hE
      refine ⟨_, _, hS0.le hE.ext (List.Sublist.refl _), hS, ?_⟩
      refine sp rfl (g_add rfl rfl (by omega) (by omega)) ?_
      refine sp rfl (g_eqT6 rfl rfl hsum) ?_
      refine sp rfl (g_movev (v := .bool _) rfl) ?_
      refine spt rfl rfl rfl (g_move _) ?_
      refine spt rfl rfl rfl (g_lenI rfl Try.underlying33 h57 rfl) ?_
      refine spt rfl rfl rfl (g_eqT6 rfl rfl (by omega)) ?_
      refine spt rfl rfl rfl (g_movev (v := .bool _) rfl) ?_
      refine spf rfl rfl rfl rfl ?_
      refine spf rfl rfl rfl rfl ?_
      refine sgf rfl rfl rfl rfl (hS) ?_
      refine sgf rfl rfl rfl rfl (hS) ?_
      refine spf rfl rfl rfl rfl ?_
      refine spt rfl rfl rfl (g_or (b := true) rfl rfl (fun h => by cases h)) ?_
      refine sp rfl (g_and rfl rfl (fun _ => rfl)) ?_
      refine sp rfl (g_assignv (v := .bool _) rfl) ?_
      refine sn (thenN ?_)
      refine wpIn_seq ?_
      have hF := St.freezeRow (u := .slice a99 (0 + ((symsOf p.ops).map (runB O)).length + ((symsOf q.ops).map (runB O)).length) p99) (m := 0 + ((symsOf p.ops).map (runB O)).length + ((symsOf q.ops).map (runB O)).length) (xs := ((symsOf p.ops).map (runB O)) ++ ((symsOf q.ops).map (runB O))) byteC_len (by rw [flat_append]; exact hS.ord [1, 0, 2, 3, 4]) (by simp)
      clear hS
      obtain ⟨I_hbytes, hS, hI_hbytes, hbytes⟩ := hF
      replace h4 := h4.mono hI_hbytes
      replace h5 := h5.mono hI_hbytes
      replace hb := hb.mono hI_hbytes
      replace h31 := h31.mono hI_hbytes
      replace h35 := h35.mono hI_hbytes
      replace h52 := h52.mono hI_hbytes
      replace h57 := h57.mono hI_hbytes
      replace h61 := h61.mono hI_hbytes
      replace h67 := h67.mono hI_hbytes
      replace h73 := h73.mono hI_hbytes
      replace h78 := h78.mono hI_hbytes
      replace h83 := h83.mono hI_hbytes
      replace h88 := h88.mono hI_hbytes
      replace h107 := h107.mono hI_hbytes
      replace h108 := h108.mono hI_hbytes
      have hF := St.freezeRow (u := .slice a102 (0 + (symsOf p.ops).length + (symsOf q.ops).length) p102) (m := 0 + (symsOf p.ops).length + (symsOf q.ops).length) (xs := (symsOf p.ops) ++ (symsOf q.ops)) symC_len (by rw [flat_append]; exact hS.ord [0, 1, 2, 3]) (by simp)
      clear hS
      obtain ⟨I_hall, hS, hI_hall, hall⟩ := hF
      replace h4 := h4.mono hI_hall
      replace h5 := h5.mono hI_hall
      replace hb := hb.mono hI_hall
      replace h31 := h31.mono hI_hall
      replace h35 := h35.mono hI_hall
      replace h52 := h52.mono hI_hall
      replace h57 := h57.mono hI_hall
      replace h61 := h61.mono hI_hall
      replace h67 := h67.mono hI_hall
      replace h73 := h73.mono hI_hall
      replace h78 := h78.mono hI_hall
      replace h83 := h83.mono hI_hall
      replace h88 := h88.mono hI_hall
      replace h107 := h107.mono hI_hall
      replace h108 := h108.mono hI_hall
      replace hbytes := hbytes.mono hI_hall
      refine reg ?_
      refine qq hS (g_movev (v := .int .i64 _) rfl) ?_
      refine qq hS (g_eql rfl rfl) ?_
      refine qq hS (g_movev (v := .bool _) rfl) ?_
      refine qqs rfl rfl hS (g_movev (v := .int .i64 _) rfl) ?_
      refine qqs rfl rfl hS (g_eql rfl rfl) ?_
      refine qq hS (g_and rfl rfl (fun _ => rfl)) ?_
      refine qq hS (g_movev (v := .bool _) rfl) ?_
      refine qqs rfl rfl hS (g_movev (v := .int .i64 _) rfl) ?_
      refine qqs rfl rfl hS (g_eql rfl rfl) ?_
      refine qq hS (g_and rfl rfl (fun _ => rfl)) ?_
      refine qq hS (g_movev (v := .bool _) rfl) ?_
      refine qqs rfl rfl hS (g_movev (v := .int .i64 _) rfl) ?_
      refine qqs rfl rfl hS (g_eql rfl rfl) ?_
      refine qq hS (g_and rfl rfl (fun _ => rfl)) ?_
      refine qq hS (g_movev (v := .bool _) rfl) ?_
      refine qqs rfl rfl hS (g_move _) ?_
      refine qqs rfl rfl hS (g_move _) ?_
      refine qes rfl rfl (d_call Try.call17 rfl (sameB_E _ _ (((symsOf p.ops).map (runB O)) ++ ((symsOf q.ops).map (runB O))) ((symsOf p.ops ++ symsOf q.ops).map (runB O)) _ _ hS.imm hbytes h73 List.map_append.symm)) ?_
      rintro _ w_43 ⟨rfl, hE⟩
      replace hS := hS.callE hE
      refine qq hS (g_and rfl rfl (fun _ => rfl)) ?_
      refine qq hS (g_movev (v := .bool _) rfl) ?_
      refine qqs rfl rfl hS (g_move _) ?_
      refine qqs rfl rfl hS (g_move _) ?_
      refine qes rfl rfl (d_call Try.call21 rfl (sameSyms_E _ _ (symsOf p.ops ++ symsOf q.ops) (symsOf p.ops ++ symsOf q.ops) _ _ hS.imm hall h78 (symsEq_iff.2 rfl))) ?_
      rintro _ w_44 ⟨rfl, hE⟩
      replace hS := hS.callE hE
      refine qq hS (g_and rfl rfl (fun _ => rfl)) ?_
      refine qq hS (g_movev (v := .bool _) rfl) ?_
      refine qqs rfl rfl hS (g_movev (v := .int .i64 _) rfl) ?_
      refine qqs rfl rfl hS (g_eql rfl rfl) ?_
      refine qq hS (g_and rfl rfl (fun _ => rfl)) ?_
      refine qq hS (g_movev (v := .bool _) rfl) ?_
      refine qqs rfl rfl hS (g_move _) ?_
      refine qqs rfl rfl hS (g_move _) ?_
      refine qes rfl rfl (d_call Try.call17 rfl (sameB_E _ _ O O _ _ hS.imm h108 h57 rfl)) ?_
      rintro _ w_45 ⟨rfl, hE⟩
      replace hS := hS.callE hE
      refine qq hS (g_and rfl rfl (fun _ => rfl)) ?_
      refine qq hS (g_movev (v := .bool _) rfl) ?_
      refine qqs rfl rfl hS (g_movev (v := .bool _) rfl) ?_
      refine qq hS (g_and rfl rfl (fun _ => rfl)) ?_
      refine qq hS (g_movev (v := .bool _) rfl) ?_
      refine qqs rfl rfl hS (g_movev (v := .bool _) rfl) ?_
      refine qq hS (g_and rfl rfl (fun _ => rfl)) ?_
      refine qq hS (g_assignv (v := .bool _) rfl) ?_
      refine ol_nil (thenN ?_)
      refine wpIn_ret ?_
      refine ret1 Try.results6 (rv_tmp (v := .bool _) rfl) ?_
      exact ⟨_, rfl, hS.nil⟩
    ·
      have hz0 : 0 < (O.length : Int) := by omega
      refine draw (.cons 0 .held (.cons 2 .held (.cons 4 .held (.cons 1 .eff (.cons 3 .eff (.cons 5 .eff (.cons 6 .pure (.cons 7 .pure (.cons 8 .pure (.cons 9 .pure (.cons 10 .pure (.cons 11 .pure (.cons 12 .pure (.cons 13 .pure (.cons 14 .pure (.cons 15 .eff (.cons 16 .eff (.cons 17 .pure (.cons 18 .pure (.cons 19 .pure (.cons 20 .pure .nil))))))))))))))))))))) mixed (by kernel_rfl) hS ?_
      intro w_46 hS
      refine sh rfl (g_ldO 2 (vs := [.bool _, .int .i64 _, .int .i64 _, .slice _ _ _]) Try.sizeOf24 Try.isAgg24 rfl rfl rfl rfl) ?_
      refine sh rfl (g_ldO 4 (vs := [.bool _, .int .i64 _, .int .i64 _, .slice _ _ _]) Try.sizeOf24 Try.isAgg24 rfl rfl rfl rfl) ?_
      refine sh rfl (g_ldO 3 (vs := [.bool _, .int .i64 _, .int .i64 _, .slice _ _ _]) Try.sizeOf24 Try.isAgg24 rfl rfl rfl rfl) ?_
      have hS0 := hS
      refine se rfl (d_call Try.call25 rfl (costN_E (bothP p q) _ _ _ _ _ _ hS.imm h52 hBw hBk rfl)) ?_
      rintro _ w_47 ⟨rfl, hE⟩
      replace hS := hS.call hE
      refine ⟨_, _, hS0.le hE.ext (List.Sublist.refl _), hS, ?_⟩
      have hS0 := hS
      refine se rfl (d_call Try.call25 rfl (costN_E p _ _ _ _ _ _ hS.imm h31 hpw hpk rfl)) ?_
      rintro _ w_48 ⟨rfl, hE⟩
      replace hS := hS.call hE
      refine ⟨_, _, hS0.le hE.ext (List.Sublist.refl _), hS, ?_⟩
      have hS0 := hS
      refine se rfl (d_call Try.call25 rfl (costN_E q _ _ _ _ _ _ hS.imm h35 hqw hqk rfl)) ?_
      rintro _ w_49 ⟨rfl, hE⟩
      replace hS := hS.call hE
      refine ⟨_, _, hS0.le hE.ext (List.Sublist.refl _), hS, ?_⟩
      refine sp rfl (g_add rfl rfl (by omega) (by omega)) ?_
      refine sp rfl (g_eqT6 rfl rfl hsum) ?_
      refine sp rfl (g_movev (v := .bool _) rfl) ?_
      refine spt rfl rfl rfl (g_move _) ?_
      refine spt rfl rfl rfl (g_lenI rfl Try.underlying33 h57 rfl) ?_
      refine spt rfl rfl rfl (g_eqF6 rfl rfl (by omega)) ?_
      refine spt rfl rfl rfl (g_movev (v := .bool _) rfl) ?_
      refine spt rfl rfl rfl (g_move _) ?_
      refine spt rfl rfl rfl (g_lenI rfl Try.underlying33 h57 rfl) ?_
      have hS0 := hS
      refine Inl.set rfl rfl rfl (d_call Try.call24 rfl (whole_L (O.length : Int) W _ _ hS.imm ⟨by omega, by omega⟩ hW)) ?_
      rintro _ w_50 ⟨I_f, a126, m126, c126, rfl, hE, h126⟩
      replace hS := hS.call hE
      replace h4 := h4.mono hE.ext
      replace h5 := h5.mono hE.ext
      replace hb := hb.mono hE.ext
      replace h31 := h31.mono hE.ext
      replace h35 := h35.mono hE.ext
      replace h52 := h52.mono hE.ext
      replace h57 := h57.mono hE.ext
      replace h61 := h61.mono hE.ext
      replace h67 := h67.mono hE.ext
      replace h73 := h73.mono hE.ext
      replace h78 := h78.mono hE.ext
      replace h83 := h83.mono hE.ext
      replace h88 := h88.mono hE.ext
      replace h107 := h107.mono hE.ext
      replace h108 := h108.mono hE.ext
      refine ⟨_, _, hS0.le hE.ext (List.Sublist.refl _), hS, ?_⟩
      have hS0 := hS
      refine Inl.set rfl rfl rfl (d_call Try.call25 rfl (costN_E W _ _ _ 4 _ _ hS.imm h126 hWw hWk (hW ▸ whole_sum hz0))) ?_
      rintro _ w_51 ⟨rfl, hE⟩
      replace hS := hS.call hE
      refine ⟨_, _, hS0.le hE.ext (List.Sublist.refl _), hS, ?_⟩
      refine spt rfl rfl rfl (g_eql rfl rfl) ?_
      refine spt rfl rfl rfl (g_or rfl rfl (fun _ => rfl)) ?_
      refine sp rfl (g_and rfl rfl (fun _ => rfl)) ?_
      refine sp rfl (g_assignv (v := .bool _) rfl) ?_
      refine sn (thenN ?_)
      refine wpIn_seq ?_
      have hF := St.freezeRow (u := .slice a99 (0 + ((symsOf p.ops).map (runB O)).length + ((symsOf q.ops).map (runB O)).length) p99) (m := 0 + ((symsOf p.ops).map (runB O)).length + ((symsOf q.ops).map (runB O)).length) (xs := ((symsOf p.ops).map (runB O)) ++ ((symsOf q.ops).map (runB O))) byteC_len (by rw [flat_append]; exact hS.ord [1, 0, 2, 3, 4]) (by simp)
      clear hS
      obtain ⟨I_hbytes, hS, hI_hbytes, hbytes⟩ := hF
      replace h4 := h4.mono hI_hbytes
      replace h5 := h5.mono hI_hbytes
      replace hb := hb.mono hI_hbytes
      replace h31 := h31.mono hI_hbytes
      replace h35 := h35.mono hI_hbytes
      replace h52 := h52.mono hI_hbytes
      replace h57 := h57.mono hI_hbytes
      replace h61 := h61.mono hI_hbytes
      replace h67 := h67.mono hI_hbytes
      replace h73 := h73.mono hI_hbytes
      replace h78 := h78.mono hI_hbytes
      replace h83 := h83.mono hI_hbytes
      replace h88 := h88.mono hI_hbytes
      replace h107 := h107.mono hI_hbytes
      replace h108 := h108.mono hI_hbytes
      replace h126 := h126.mono hI_hbytes
      have hF := St.freezeRow (u := .slice a102 (0 + (symsOf p.ops).length + (symsOf q.ops).length) p102) (m := 0 + (symsOf p.ops).length + (symsOf q.ops).length) (xs := (symsOf p.ops) ++ (symsOf q.ops)) symC_len (by rw [flat_append]; exact hS.ord [0, 1, 2, 3]) (by simp)
      clear hS
      obtain ⟨I_hall, hS, hI_hall, hall⟩ := hF
      replace h4 := h4.mono hI_hall
      replace h5 := h5.mono hI_hall
      replace hb := hb.mono hI_hall
      replace h31 := h31.mono hI_hall
      replace h35 := h35.mono hI_hall
      replace h52 := h52.mono hI_hall
      replace h57 := h57.mono hI_hall
      replace h61 := h61.mono hI_hall
      replace h67 := h67.mono hI_hall
      replace h73 := h73.mono hI_hall
      replace h78 := h78.mono hI_hall
      replace h83 := h83.mono hI_hall
      replace h88 := h88.mono hI_hall
      replace h107 := h107.mono hI_hall
      replace h108 := h108.mono hI_hall
      replace h126 := h126.mono hI_hall
      replace hbytes := hbytes.mono hI_hall
      refine reg ?_
      refine qq hS (g_movev (v := .int .i64 _) rfl) ?_
      refine qq hS (g_eql rfl rfl) ?_
      refine qq hS (g_movev (v := .bool _) rfl) ?_
      refine qqs rfl rfl hS (g_movev (v := .int .i64 _) rfl) ?_
      refine qqs rfl rfl hS (g_eql rfl rfl) ?_
      refine qq hS (g_and rfl rfl (fun _ => rfl)) ?_
      refine qq hS (g_movev (v := .bool _) rfl) ?_
      refine qqs rfl rfl hS (g_movev (v := .int .i64 _) rfl) ?_
      refine qqs rfl rfl hS (g_eql rfl rfl) ?_
      refine qq hS (g_and rfl rfl (fun _ => rfl)) ?_
      refine qq hS (g_movev (v := .bool _) rfl) ?_
      refine qqs rfl rfl hS (g_movev (v := .int .i64 _) rfl) ?_
      refine qqs rfl rfl hS (g_eql rfl rfl) ?_
      refine qq hS (g_and rfl rfl (fun _ => rfl)) ?_
      refine qq hS (g_movev (v := .bool _) rfl) ?_
      refine qqs rfl rfl hS (g_move _) ?_
      refine qqs rfl rfl hS (g_move _) ?_
      refine qes rfl rfl (d_call Try.call17 rfl (sameB_E _ _ (((symsOf p.ops).map (runB O)) ++ ((symsOf q.ops).map (runB O))) ((symsOf p.ops ++ symsOf q.ops).map (runB O)) _ _ hS.imm hbytes h73 List.map_append.symm)) ?_
      rintro _ w_52 ⟨rfl, hE⟩
      replace hS := hS.callE hE
      refine qq hS (g_and rfl rfl (fun _ => rfl)) ?_
      refine qq hS (g_movev (v := .bool _) rfl) ?_
      refine qqs rfl rfl hS (g_move _) ?_
      refine qqs rfl rfl hS (g_move _) ?_
      refine qes rfl rfl (d_call Try.call21 rfl (sameSyms_E _ _ (symsOf p.ops ++ symsOf q.ops) (symsOf p.ops ++ symsOf q.ops) _ _ hS.imm hall h78 (symsEq_iff.2 rfl))) ?_
      rintro _ w_53 ⟨rfl, hE⟩
      replace hS := hS.callE hE
      refine qq hS (g_and rfl rfl (fun _ => rfl)) ?_
      refine qq hS (g_movev (v := .bool _) rfl) ?_
      refine qqs rfl rfl hS (g_movev (v := .int .i64 _) rfl) ?_
      refine qqs rfl rfl hS (g_eql rfl rfl) ?_
      refine qq hS (g_and rfl rfl (fun _ => rfl)) ?_
      refine qq hS (g_movev (v := .bool _) rfl) ?_
      refine qqs rfl rfl hS (g_move _) ?_
      refine qqs rfl rfl hS (g_move _) ?_
      refine qes rfl rfl (d_call Try.call17 rfl (sameB_E _ _ O O _ _ hS.imm h108 h57 rfl)) ?_
      rintro _ w_54 ⟨rfl, hE⟩
      replace hS := hS.callE hE
      refine qq hS (g_and rfl rfl (fun _ => rfl)) ?_
      refine qq hS (g_movev (v := .bool _) rfl) ?_
      refine qqs rfl rfl hS (g_movev (v := .bool _) rfl) ?_
      refine qq hS (g_and rfl rfl (fun _ => rfl)) ?_
      refine qq hS (g_movev (v := .bool _) rfl) ?_
      refine qqs rfl rfl hS (g_movev (v := .bool _) rfl) ?_
      refine qq hS (g_and rfl rfl (fun _ => rfl)) ?_
      refine qq hS (g_assignv (v := .bool _) rfl) ?_
      refine ol_nil (thenN ?_)
      refine wpIn_ret ?_
      refine ret1 Try.results6 (rv_tmp (v := .bool _) rfl) ?_
      exact ⟨_, rfl, hS.nil⟩

end Go.Proofs.Ythfgchcdilodlaa

