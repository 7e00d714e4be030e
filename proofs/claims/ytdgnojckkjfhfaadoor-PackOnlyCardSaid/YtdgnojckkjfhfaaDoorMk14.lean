/- inlaylaw14.made: a right patch; sums of damaged bytes, prefixes. Conditions: none. -/
import Derived.Test.YtdgnojckkjfhfaaDoorSan14
namespace Go.Proofs.YtdgnojckkjfhfaaDoor
open Go Go.RowKit Go.Inl
set_option linter.unusedSimpArgs false
set_option linter.unusedVariables false
theorem adl_fst (l : List Int) : (adl l).1 = (1 + l.sum) % 65521 := by
  refine snoc_ind (p := fun l => (adl l).1 = (1 + l.sum) % 65521) (by decide) (fun l x ih => ?_) l
  have h1 : adl (l ++ [x]) = adlF (adl l) x := by unfold adl; rw [List.foldl_append]; rfl
  rw [h1, List.sum_append, List.sum_singleton]
  show ((adl l).1 + x) % 65521 = _
  rw [ih]; omega
theorem numsB_two (a b : Int) : numsB 2 [a, b] = numB 2 a ++ numB 2 b := by unfold numsB; simp
theorem sumP_fst {l m : List Int} (h : Inl.sumP l = Inl.sumP m) : (adl l).1 = (adl m).1 := by
  unfold Inl.sumP at h
  rw [numsB_two, numsB_two] at h
  have h2 := (List.append_inj h (by rw [numB_len, numB_len])).2
  obtain ⟨a1, a2, _, _⟩ := adl_bd l
  obtain ⟨b1, b2, _, _⟩ := adl_bd m
  have h3 := congrArg valC h2
  rwa [valC_num2 ⟨a1, by omega⟩, valC_num2 ⟨b1, by omega⟩] at h3
/-- One byte more or less is seen. -/
theorem damage {b : List Int} (hb : Byt b) (h4 : 4 ≤ b.length) (hs : Inl.sumP (b.take (b.length - 4)) = b.drop (b.length - 4)) {i : Nat} {x y : Int} (hi : b[i]? = some x) (hy : 0 ≤ y ∧ y ≤ 255) (hne : y ≠ x) :
    Inl.sumP ((b.set i y).take ((b.set i y).length - 4)) ≠ (b.set i y).drop ((b.set i y).length - 4) := by
  have hx := hb x (List.mem_of_getElem? hi)
  have hil := (List.getElem?_eq_some_iff.1 hi).1
  rw [List.length_set]
  intro h
  by_cases h1 : i < b.length - 4
  · rw [List.drop_set_of_lt h1, ← hs, List.take_set] at h
    have h2 := sumP_fst h
    rw [adl_fst, adl_fst, sum_set _ _ _ (by rw [List.length_take]; omega)] at h2
    have h3 : (b.take (b.length - 4)).getD i 0 = x := by rw [List.getD_eq_getElem?_getD, List.getElem?_take, if_pos h1, hi]; rfl
    rw [h3] at h2
    omega
  · rw [List.take_set_of_le (by omega), hs] at h
    have h2 := congrArg (fun l : List Int => l[i - (b.length - 4)]?) h
    rw [List.getElem?_drop, List.getElem?_drop, show b.length - 4 + (i - (b.length - 4)) = i by omega, hi, List.getElem?_set_self hil] at h2
    exact hne (Option.some.inj h2).symm
theorem unp_pre {p : PatL} (hp : p.wf) (hk : (checkP p).2 = 0) {k : Nat} (h : k < (packP p).length) : UnpN ((packP p).take k) := by
  have hG := patG_of hp hk
  have hbb := packP_byt hG
  by_cases h1 : k < 26
  · exact unp_short (byt_take hbb k) (by rw [List.length_take]; omega)
  · refine unp_head hp hk (rest := (code1 (lsP p.ops) ++ (code2 (dtP p.ops) ++ Inl.sumP (bodyP p))).take (k - 22)) (byt_take (rest_byt hG) _) ?_ (by rw [List.length_take]; omega)
    rw [packP_head, List.take_append, headP_len, List.take_of_length_le (by rw [headP_len]; omega)]
theorem unp_more {p : PatL} (hp : p.wf) (hk : (checkP p).2 = 0) {m : List Int} (hm : Byt m) (h : m ≠ []) : UnpN (packP p ++ m) := by
  have hG := patG_of hp hk
  refine unp_head hp hk (rest := (code1 (lsP p.ops) ++ (code2 (dtP p.ops) ++ Inl.sumP (bodyP p))) ++ m) (byt_app (rest_byt hG) hm) ?_ ?_
  · rw [packP_head, List.append_assoc]
  · rw [List.length_append]
    have := List.length_pos_iff.2 h
    omega
/-- What the patch of a law is. -/
structure Mk14 (l : List Q4) (r : Int) (lf : Bool) (p : PatL) (B : List Int) : Prop where
  eq : ({ madeP l (r % 13) with lifted := lf } : PatL) = p
  wf : p.wf
  chk : (checkP p).2 = 0
  six : p.ops.length ≤ 6
  out : p.out ≤ 30
  pk : packP p = B
  len : B.length ≤ 300
  ge : 26 ≤ B.length
  byt : Byt B
  sum : Inl.sumP (B.take (B.length - 4)) = B.drop (B.length - 4)
theorem mk14_of {l : List Q4} {r : Int} (hq : ∀ q ∈ l, q.wf) (hr : 0 ≤ r ∧ r ≤ 255) (lf : Bool) : ∃ p B, Mk14 l r lf p B := by
  have hr13 : 0 ≤ r % 13 ∧ r % 13 ≤ 65536 := by omega
  have hpw := madeP_wf (size := r % 13) hq hr13
  obtain ⟨hpk, hpo, hpl⟩ := madeP_ok (size := r % 13) hq hr13
  have hw : ({ madeP l (r % 13) with lifted := lf } : PatL).wf := ⟨hpw.in_, hpw.out, hpw.ops, hpw.len⟩
  have hk : (checkP ({ madeP l (r % 13) with lifted := lf } : PatL)).2 = 0 := hpk
  have hG := patG_of hw hk
  have hl := packP_len hG
  have h1 := (code1_ok (lsP_byt ({ madeP l (r % 13) with lifted := lf } : PatL).ops)).2
  have h2 := (code2_ok (dtP_byt hG.ops)).2
  have h3 := lsP_le ({ madeP l (r % 13) with lifted := lf } : PatL).ops
  have h4 := dtP_le ({ madeP l (r % 13) with lifted := lf } : PatL).ops (fun x hx => ⟨(hG.ops x hx).len.1, (hG.ops x hx).dat⟩)
  have h5 := (checkP_ok hk).2.1
  have h6 : ({ madeP l (r % 13) with lifted := lf } : PatL).ops.length ≤ 6 := hpl
  have h7 : ({ madeP l (r % 13) with lifted := lf } : PatL).out ≤ 30 := hpo
  exact ⟨_, _, rfl, hw, hk, h6, h7, rfl, by omega, by omega, packP_byt hG, by rw [packP_take hG, packP_drop hG]⟩
theorem packB_c (p : PatL) (B : List Int) (ad : Option Addr) (m cap : Nat) (w0 : World) (I0 : Imm) (hI : Sat I0 w0) (hops : ROps I0 (.slice ad m cap) p.ops) (hp : p.wf) (hck : (checkP p).2 = 0) (hB : packP p = B) :
    Ctr Tryd.prog 11 [.agg #[.bool p.lifted, .int .i64 p.in_, .int .i64 p.out, .slice ad m cap]] w0 (fun v w' => ∃ I' a c, v = .tuple #[.slice a B.length c, .int .i64 0] ∧ Ext w0 I0 w' I' ∧ RBytes I' (.slice a B.length c) B) := by
  subst hB; exact pack_ok_c p ad m cap w0 I0 hI hops hp hck
theorem made14r_c (r : Int) (ad : Option Addr) (cap : Nat) (l : List Q4) (w0 : World) (I0 : Imm) (hI : Sat I0 w0) (hl : RFl I0 4 q4C (.slice ad l.length cap) l) (hq : ∀ q ∈ l, q.wf) (hr : 0 ≤ r ∧ r ≤ 255) :
    Ctr Tryd.prog 19 [.agg #[.int .u8 r, .slice ad l.length cap]] w0 (fun v w' => ∃ I' a m c, v = .agg #[.bool (madeP l (r % 13)).lifted, .int .i64 (madeP l (r % 13)).in_, .int .i64 (madeP l (r % 13)).out, .slice a m c] ∧ Ext w0 I0 w' I' ∧ ROps I' (.slice a m c) (madeP l (r % 13)).ops) :=
  made_c r ad cap l w0 I0 hI hl hq hr.1 hr.2
theorem g_gtF14 {P : Program} {n : Nat} {σ : Nat → Value} {S : World → Prop} {t t' ty : TypeId} {x y : Operand} {k : IntKind} {a b : Int} (hx : ev n σ x = .int k a) (hy : ev n σ y = .int k b) (h : a ≤ b) : Gives P (ev n σ) S (.binOp .gtr t x y t') ty (.bool false) := by
  have := g_gtr (P := P) (S := S) (t := t) (t' := t') (ty := ty) hx hy
  rw [decide_eq_false (by omega)] at this; exact this

theorem made14_c (r : Int) (lf : Bool) (p : PatL) (ad : Option Addr) (cap : Nat) (l : List Q4) (w0 : World) (I0 : Imm) (hI : Sat I0 w0) (hl : RFl I0 4 q4C (.slice ad l.length cap) l) (hq : ∀ q ∈ l, q.wf) (hr : 0 ≤ r ∧ r ≤ 255) (hp : ({ madeP l (r % 13) with lifted := lf } : PatL) = p) :
    Ctr Tryd.prog 10 [.agg #[.int .u8 r, .slice ad l.length cap], .bool lf] w0 (fun v w' => ∃ I' a m c, v = .agg #[.bool p.lifted, .int .i64 p.in_, .int .i64 p.out, .slice a m c] ∧ Ext w0 I0 w' I' ∧ ROps I' (.slice a m c) p.ops) := by
  subst hp
  refine fn (n := 11) Tryd.func10 rfl rfl rfl ?_
  have hS := St.start hI
  refine wpIn_seq ?_
  refine reg ?_
  refine qe (d_box (cs := [.int .u8 _, .slice _ _ _]) hS rfl) ?_
  clear hS
  rintro _ w_1 ⟨b2, rfl, hS⟩
  refine qe (d_alloc (cs := [.bool _, .int .i64 _, .int .i64 _, .slice _ _ _]) hS Tryd.zeroValue31 rfl) ?_
  clear hS
  rintro _ w_2 ⟨b4, rfl, hS⟩
  refine ol_nil (thenN ?_)
  refine wpIn_seq ?_
  refine reg ?_
  refine qq hS (g_ldO 1 (vs := [.int .u8 _, .slice _ _ _]) Tryd.sizeOf24 Tryd.isAgg24 rfl rfl rfl rfl) ?_
  refine qe (d_call Tryd.call19 rfl (made14r_c r ad cap l _ _ hS.imm hl hq hr)) ?_
  rintro _ w_3 ⟨I_f, a7, m7, c7, rfl, hE, h7⟩
  replace hS := hS.callE hE
  replace hl := hl.mono hE.ext
  refine qe (d_alloc (cs := [.bool _, .int .i64 _, .int .i64 _, .slice _ _ _]) hS Tryd.zeroValue31 rfl) ?_
  clear hS
  rintro _ w_4 ⟨b5, rfl, hS⟩
  refine qe (d_store 0 hS Tryd.sizeOf31 rfl rfl rfl (vs := [.bool _, .int .i64 _, .int .i64 _, .slice _ _ _]) rfl rfl rfl (Nat.le_of_ble_eq_true rfl) (cs' := [_, _, _, _]) rfl) ?_
  clear hS
  rintro _ w_5 ⟨rfl, hS⟩
  refine ol_nil (thenN ?_)
  refine wpIn_seq ?_
  refine reg ?_
  refine qq hS (g_movev (v := .bool _) rfl) ?_
  refine qq hS (g_fieldAddr (o' := 0) Tryd.underlying31 rfl Tryd.sizeOf4 rfl rfl rfl) ?_
  refine qe (d_store 0 hS Tryd.sizeOf4 rfl rfl rfl (vs := [.bool _]) rfl rfl rfl (Nat.le_of_ble_eq_true rfl) (cs' := [_, _, _, _]) rfl) ?_
  clear hS
  rintro _ w_6 ⟨rfl, hS⟩
  refine ol_nil (thenN ?_)
  refine wpIn_seq ?_
  refine reg ?_
  refine qq hS (g_ldO 0 (vs := [.bool _, .int .i64 _, .int .i64 _, .slice _ _ _]) Tryd.sizeOf31 Tryd.isAgg31 rfl rfl rfl rfl) ?_
  refine qe (d_store 1 hS Tryd.sizeOf31 rfl rfl rfl (vs := [.bool _, .int .i64 _, .int .i64 _, .slice _ _ _]) rfl rfl rfl (Nat.le_of_ble_eq_true rfl) (cs' := [_, _, _, _]) rfl) ?_
  clear hS
  rintro _ w_7 ⟨rfl, hS⟩
  refine ol_nil (thenN ?_)
  refine wpIn_ret ?_
  refine ret1 Tryd.results10 (rv_cel 1 hS Tryd.sizeOf31 Tryd.isAgg31 rfl rfl rfl) ?_
  exact ⟨_, a7, m7, c7, rfl, hS.nil, h7⟩

end Go.Proofs.YtdgnojckkjfhfaaDoor

