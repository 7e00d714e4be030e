/- inlaylaw14.made: a right patch; sums of damaged bytes, prefixes. Conditions: none. -/
import Derived.Test.YtdgnojckkjfhfaaDoorSan14
namespace Go.Proofs.YtdgnojckkjfhfaaDoor
open Go Go.RowKit Go.Inl
set_option linter.unusedSimpArgs false
set_option linter.unusedVariables false
/-- What the patch of a law is. -/
structure Mk14 (l : List Q4) (r : Int) (lf : Bool) (p : PatL) (B : List Int) : Prop where
  eq : ({ madeP l (r % 13) with lifted := lf } : PatL) = p
  wf : p.wf
  chk : (checkP p).2 = 0
  six : p.ops.length ≤ 6
  out : p.out ≤ 30
  pk : packP p = B
  len : B.length ≤ 300
  ge : 26 ≤ B.length
  byt : Byt B
  sum : Inl.sumP (B.take (B.length - 4)) = B.drop (B.length - 4)
theorem mk14_of {l : List Q4} {r : Int} (hq : ∀ q ∈ l, q.wf) (hr : 0 ≤ r ∧ r ≤ 255) (lf : Bool) : ∃ p B, Mk14 l r lf p B := by
  have hr13 : 0 ≤ r % 13 ∧ r % 13 ≤ 65536 := by omega
  have hpw := madeP_wf (size := r % 13) hq hr13
  obtain ⟨hpk, hpo, hpl⟩ := madeP_ok (size := r % 13) hq hr13
  have hw : ({ madeP l (r % 13) with lifted := lf } : PatL).wf := ⟨hpw.in_, hpw.out, hpw.ops, hpw.len⟩
  have hk : (checkP ({ madeP l (r % 13) with lifted := lf } : PatL)).2 = 0 := hpk
  have hG := patG_of hw hk
  have hl := packP_len hG
  have h1 := (code1_ok (lsP_byt ({ madeP l (r % 13) with lifted := lf } : PatL).ops)).2
  have h2 := (code2_ok (dtP_byt hG.ops)).2
  have h3 := lsP_le ({ madeP l (r % 13) with lifted := lf } : PatL).ops
  have h4 := dtP_le ({ madeP l (r % 13) with lifted := lf } : PatL).ops (fun x hx => ⟨(hG.ops x hx).len.1, (hG.ops x hx).dat⟩)
  have h5 := (checkP_ok hk).2.1
  have h6 : ({ madeP l (r % 13) with lifted := lf } : PatL).ops.length ≤ 6 := hpl
  have h7 : ({ madeP l (r % 13) with lifted := lf } : PatL).out ≤ 30 := hpo
  exact ⟨_, _, rfl, hw, hk, h6, h7, rfl, by omega, by omega, packP_byt hG, by rw [packP_take hG, packP_drop hG]⟩
theorem made14r_c (r : Int) (ad : Option Addr) (cap : Nat) (l : List Q4) (w0 : World) (I0 : Imm) (hI : Sat I0 w0) (hl : RFl I0 4 q4C (.slice ad l.length cap) l) (hq : ∀ q ∈ l, q.wf) (hr : 0 ≤ r ∧ r ≤ 255) :
    Ctr Tryd.prog 19 [.agg #[.int .u8 r, .slice ad l.length cap]] w0 (fun v w' => ∃ I' a m c, v = .agg #[.bool (madeP l (r % 13)).lifted, .int .i64 (madeP l (r % 13)).in_, .int .i64 (madeP l (r % 13)).out, .slice a m c] ∧ Ext w0 I0 w' I' ∧ ROps I' (.slice a m c) (madeP l (r % 13)).ops) :=
  made_c r ad cap l w0 I0 hI hl hq hr.1 hr.2
theorem made14_c (r : Int) (lf : Bool) (p : PatL) (ad : Option Addr) (cap : Nat) (l : List Q4) (w0 : World) (I0 : Imm) (hI : Sat I0 w0) (hl : RFl I0 4 q4C (.slice ad l.length cap) l) (hq : ∀ q ∈ l, q.wf) (hr : 0 ≤ r ∧ r ≤ 255) (hp : ({ madeP l (r % 13) with lifted := lf } : PatL) = p) :
    Ctr Tryd.prog 10 [.agg #[.int .u8 r, .slice ad l.length cap], .bool lf] w0 (fun v w' => ∃ I' a m c, v = .agg #[.bool p.lifted, .int .i64 p.in_, .int .i64 p.out, .slice a m c] ∧ Ext w0 I0 w' I' ∧ ROps I' (.slice a m c) p.ops) := by
  subst hp
  refine fn (n := 11) Tryd.func10 rfl rfl rfl ?_
  have hS := St.start hI
  refine wpIn_seq ?_
  refine reg ?_
  refine qe (d_box (cs := [.int .u8 _, .slice _ _ _]) hS rfl) ?_
  clear hS
  rintro _ w_1 ⟨b2, rfl, hS⟩
  refine qe (d_alloc (cs := [.bool _, .int .i64 _, .int .i64 _, .slice _ _ _]) hS Tryd.zeroValue31 rfl) ?_
  clear hS
  rintro _ w_2 ⟨b4, rfl, hS⟩
  refine ol_nil (thenN ?_)
  refine wpIn_seq ?_
  refine reg ?_
  refine qq hS (g_ldO 1 (vs := [.int .u8 _, .slice _ _ _]) Tryd.sizeOf24 Tryd.isAgg24 rfl rfl rfl rfl) ?_
  refine qe (d_call Tryd.call19 rfl (made14r_c r ad cap l _ _ hS.imm hl hq hr)) ?_
  rintro _ w_3 ⟨I_f, a7, m7, c7, rfl, hE, h7⟩
  replace hS := hS.callE hE
  replace hl := hl.mono hE.ext
  refine qe (d_alloc (cs := [.bool _, .int .i64 _, .int .i64 _, .slice _ _ _]) hS Tryd.zeroValue31 rfl) ?_
  clear hS
  rintro _ w_4 ⟨b5, rfl, hS⟩
  refine qe (d_store 0 hS Tryd.sizeOf31 rfl rfl rfl (vs := [.bool _, .int .i64 _, .int .i64 _, .slice _ _ _]) rfl rfl rfl (Nat.le_of_ble_eq_true rfl) (cs' := [_, _, _, _]) rfl) ?_
  clear hS
  rintro _ w_5 ⟨rfl, hS⟩
  refine ol_nil (thenN ?_)
  refine wpIn_seq ?_
  refine reg ?_
  refine qq hS (g_movev (v := .bool _) rfl) ?_
  refine qq hS (g_fieldAddr (o' := 0) Tryd.underlying31 rfl Tryd.sizeOf4 rfl rfl rfl) ?_
  refine qe (d_store 0 hS Tryd.sizeOf4 rfl rfl rfl (vs := [.bool _]) rfl rfl rfl (Nat.le_of_ble_eq_true rfl) (cs' := [_, _, _, _]) rfl) ?_
  clear hS
  rintro _ w_6 ⟨rfl, hS⟩
  refine ol_nil (thenN ?_)
  refine wpIn_seq ?_
  refine reg ?_
  refine qq hS (g_ldO 0 (vs := [.bool _, .int .i64 _, .int .i64 _, .slice _ _ _]) Tryd.sizeOf31 Tryd.isAgg31 rfl rfl rfl rfl) ?_
  refine qe (d_store 1 hS Tryd.sizeOf31 rfl rfl rfl (vs := [.bool _, .int .i64 _, .int .i64 _, .slice _ _ _]) rfl rfl rfl (Nat.le_of_ble_eq_true rfl) (cs' := [_, _, _, _]) rfl) ?_
  clear hS
  rintro _ w_7 ⟨rfl, hS⟩
  refine ol_nil (thenN ?_)
  refine wpIn_ret ?_
  refine ret1 Tryd.results10 (rv_cel 1 hS Tryd.sizeOf31 Tryd.isAgg31 rfl rfl rfl) ?_
  exact ⟨_, a7, m7, c7, rfl, hS.nil, h7⟩

end Go.Proofs.YtdgnojckkjfhfaaDoor

