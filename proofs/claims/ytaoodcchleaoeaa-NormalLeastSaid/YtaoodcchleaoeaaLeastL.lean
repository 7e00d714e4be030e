/- inlaylaw08.NormalLeast: its function answers true. Conditions: arguments are bytes. -/
import Derived.Test.YtaoodcchleaoeaaOf
namespace Go.Proofs.Ytaoodcchleaoeaa
open Go Go.RowKit Go.Inl
set_option linter.unusedSimpArgs false
set_option linter.unusedVariables false
theorem g_minE {P : Program} {n : Nat} {σ : Nat → Value} {S : World → Prop} {ty : TypeId} {x y : Operand} {K : IntKind} {a b c : Int} {aT : Array TypeId} (hx : ev n σ x = .int K a) (hy : ev n σ y = .int K b) (hc : (if b < a then b else a) = c) : Gives P (ev n σ) S (.call { callee := .builtin .min, args := #[x, y], argTypes := aT }) ty (.int K c) := by
  subst hc; exact g_min hx hy
theorem ofGo_wf {L : Nat} : ∀ (m : Nat) (l : List Sym), (∀ s ∈ l, s.wf) → l.length ≤ 1000000 → ∀ x ∈ ofGo m l, x.wf
  | 0, l, _, _, x, hx => by simp [ofGo] at hx
  | m + 1, [], _, _, x, hx => by simp [ofGo] at hx
  | m + 1, s :: r, hw, hn, x, hx => by
    rw [ofGo] at hx
    rcases List.mem_cons.1 hx with rfl | hx
    · refine opS_wf ?_ (fun t ht => hw t (List.mem_of_mem_take ht)) (by rw [List.length_take]; omega)
      have := kindP_bd s
      unfold Mid; omega
    · exact ofGo_wf (L := L) m _ (fun t ht => hw t (List.mem_of_mem_drop ht)) (by rw [List.length_drop]; omega) x hx
def ofOf (n : Int) (l : List Sym) : PatL := ⟨false, n, l.length, ofP l⟩
theorem ofOf_wf {n : Int} {l : List Sym} (h0 : 0 ≤ n ∧ n ≤ 65536) (hl : l.length ≤ 4096) (hw : ∀ s ∈ l, s.wf) : (ofOf n l).wf := by
  refine ⟨⟨by show _ ≤ n; omega, by show n ≤ _; omega⟩, ⟨by show _ ≤ (l.length : Int); omega, by show (l.length : Int) ≤ _; omega⟩, ofGo_wf (L := 0) _ _ hw (by omega), ?_⟩
  have := ofGo_len l.length l
  show ((ofGo l.length l).length : Int) ≤ _
  omega
theorem ofOf_check {n : Int} {l : List Sym} (h0 : 0 ≤ n ∧ n ≤ 65536) (hl : l.length ≤ 4096) (ok : okL n l) : (checkP (ofOf n l)).2 = 0 := by
  obtain ⟨h1, h2⟩ := ofP_ok ok
  have := ofGo_len l.length l
  exact checkP_right h0 h1 (by show ((symsOf (ofP l)).length : Int) = l.length; rw [h2]) (by show (l.length : Int) ≤ _; omega) (by show (ofGo l.length l).length ≤ 4096; omega)
theorem ofPP_ok {n : Int} {l : List Sym} (h0 : 0 ≤ n ∧ n ≤ 65536) (hl : l.length ≤ 4096) (ok : okL n l) : ofPP l n = (ofOf n l, 0) := by
  unfold ofPP
  have h2 : l.any (strange n) = false := by rw [List.any_eq_false]; intro s hs; rw [ok s hs]; simp
  have := ofGo_len l.length l
  rw [if_neg (by simp [h2]; omega), if_neg (by show ¬ 4096 < ((ofGo l.length l).length : Int); omega)]
  rfl
theorem sumC_nonneg {n : Int} : ∀ (l : List OpL), OpsOk n l → 0 ≤ sumC l
  | [], _ => Int.le_refl _
  | x :: l, h => by
    have h1 := sumC_nonneg l fun y hy => h y (by simp [hy])
    have h2 := opc_pos (k := x.kind) (n := x.len) (by have := (h x (by simp)).1; omega)
    unfold sumC; omega

theorem patchOf_v (vl : Value) (l : List Sym) (size : Int) (w0 : World) (I0 : Imm) (hI : Sat I0 w0) (hl : RSyms I0 vl l) (hw : ∀ s ∈ l, s.wf) (h0 : 0 ≤ size ∧ size ≤ 65536) (hn : l.length ≤ 4096) (ok : okL size l) :
    Ctr Try.prog 26 [vl, .int .i64 size] w0 (fun v w' => ∃ I' a m c, v = .tuple #[.agg #[.bool false, .int .i64 size, .int .i64 l.length, .slice a m c], .int .i64 0] ∧ Ext w0 I0 w' I' ∧ ROps I' (.slice a m c) (ofP l)) := by
  obtain ⟨ad, cap, rfl, _⟩ := hl.len
  have h := patchOf_c ad cap l size w0 I0 hI hl hw
  rw [ofPP_ok h0 hn ok] at h
  exact h
theorem right_o (n : Int) (l : List Sym) (ad : Option Addr) (m cap : Nat) (w0 : World) (I0 : Imm) (hI : Sat I0 w0) (hops : ROps I0 (.slice ad m cap) (ofP l)) (hw : ∀ s ∈ l, s.wf) (h0 : 0 ≤ n ∧ n ≤ 65536) (hn : l.length ≤ 4096) (ok : okL n l) :
    Ctr Try.prog 21 [.agg #[.bool false, .int .i64 n, .int .i64 l.length, .slice ad m cap]] w0 (fun v w' => v = .bool true ∧ Ext w0 I0 w' I0) := by
  have h := rightP_c (ofOf n l) ad m cap w0 I0 hI hops (ofOf_wf h0 hn hw)
  rw [checkR_of (ofOf_check h0 hn ok)] at h
  exact h
theorem cost_o (n : Int) (l : List Sym) (ad : Option Addr) (m cap : Nat) (w0 : World) (I0 : Imm) (hI : Sat I0 w0) (hops : ROps I0 (.slice ad m cap) (ofP l)) (hw : ∀ s ∈ l, s.wf) (h0 : 0 ≤ n ∧ n ≤ 65536) (hn : l.length ≤ 4096) (ok : okL n l) :
    Ctr Try.prog 22 [.agg #[.bool false, .int .i64 n, .int .i64 l.length, .slice ad m cap]] w0 (fun v w' => v = .int .i64 (sumC (ofP l)) ∧ Ext w0 I0 w' I0) := by
  obtain ⟨h2, h1⟩ := ofP_ok ok
  have hb := ops_len_bd _ h2
  rw [h1] at hb
  have h := costR_c (ofOf n l) ad m cap w0 I0 hI hops (ofOf_wf h0 hn hw) (fun x hx => by have := hb x hx; omega)
  have e : sumR (ofOf n l).ops = sumC (ofP l) := sumR_eq _ h2
  rw [e] at h
  exact h

set_option maxRecDepth 20000 in
set_option maxHeartbeats 2000000 in
theorem leastl_c (ad : Option Addr) (cap : Nat) (l : List Q2) (z : Int) (w0 : World) (I0 : Imm) (hI : Sat I0 w0) (hl : RFl I0 2 q2C (.slice ad l.length cap) l) (hq : ∀ q ∈ l, q.wf) (hz : 0 ≤ z ∧ z ≤ 255) :
    Ctr Try.prog 9 [.slice ad l.length cap, .int .u8 z] w0 (fun v w' => ∃ I', v = .bool true ∧ Ext w0 I0 w' I') := by
  have hsl := symsRaw_len l (z % 12)
  have hz12 : 0 ≤ z % 12 ∧ z % 12 ≤ 65536 := by omega
  have hsw := symsRaw_wf (size := z % 12) hq hz12.2
  have hok := symsRaw_ok (size := z % 12) hq
  generalize hA : symsRaw l (z % 12) = A at *
  obtain ⟨k, hk⟩ : ∃ k : Nat, k = min A.length 8 := ⟨_, rfl⟩
  have hk1 : k ≤ A.length := by omega
  have hk2 : (if (8 : Int) < (A.length : Int) then 8 else (A.length : Int)) = k := by split <;> omega
  have hokT : okL (z % 12) (A.take k) := hok.take _
  have hwT : ∀ s ∈ A.take k, s.wf := fun s hs => hsw s (List.mem_of_mem_take hs)
  have hlT : (A.take k).length ≤ 4096 := by rw [List.length_take]; omega
  have hof := ofP_ok hok
  have hle := best_le hof.1
  rw [hof.2] at hle
  refine fn (n := 85) Try.func9 rfl rfl rfl ?_
  have hS := St.start hI
  refine wp_seq ?_
  refine reg ?_
  refine qq hS (g_assignv (v := .bool _) rfl) ?_
  refine ol_nil (thenN ?_)
  refine wp_seq ?_
  refine reg ?_
  refine qe (d_call Try.call10 rfl (sanity_c _ _ hS.imm)) ?_
  rintro _ w_1 ⟨I_f, rfl, hE⟩
  replace hS := hS.callE hE
  replace hl := hl.mono hE.ext
  refine qq hS (g_assignv (v := .bool _) rfl) ?_
  refine ol_nil (thenN ?_)
  refine wp_seq ?_
  refine reg ?_
  refine qq hS (g_movev (v := .int .u8 _) rfl) ?_
  refine qq hS (g_rem rfl rfl (by omega) (by omega)) ?_
  refine qq hS (g_convi Try.underlying5 Try.underlying3 rfl (by omega) (by omega)) ?_
  refine qq hS (g_assignv (v := .int .i64 _) rfl) ?_
  refine ol_nil (thenN ?_)
  refine wp_seq ?_
  refine reg ?_
  refine qq hS (g_move _) ?_
  refine qq hS (g_movev (v := .int .i64 _) rfl) ?_
  refine qe (d_call Try.call12 rfl (rawSyms_c ad cap l (z % 12) _ _ hS.imm hl hq hz12.1 hz12.2)) ?_
  rintro _ w_2 ⟨I_f, a21, m21, c21, rfl, hE, h21, hm21⟩
  replace hS := hS.callE hE
  replace hl := hl.mono hE.ext
  rw [hA] at h21 hm21
  subst hm21
  have hc21 := (h21.resl2 A.length A.length (Nat.le_refl _) (Nat.le_refl _)).2.1
  refine qq hS (g_assign _) ?_
  refine ol_nil (thenN ?_)
  refine wp_seq ?_
  refine reg ?_
  refine qq hS (g_move _) ?_
  refine qq hS (g_move _) ?_
  refine qq hS (g_lenI rfl Try.underlying33 h21 rfl) ?_
  refine qq hS (g_minE rfl rfl hk2) ?_
  refine qq hS (g_sliceHN (h0 := k) Try.underlying33 Try.sizeOf50 rfl rfl (by omega) (by omega) rfl) ?_
  refine qq hS (g_assign _) ?_
  refine ol_nil (thenN ?_)
  refine wp_seq ?_
  refine reg ?_
  refine qq hS (g_move _) ?_
  refine qq hS (g_movev (v := .int .i64 _) rfl) ?_
  refine qe (d_call Try.call15 rfl (cheapest_v _ (A.take k) (z % 12) _ _ hS.imm (h21.slH k hk1) hwT hz12 hlT hokT)) ?_
  rintro _ w_3 ⟨I_f, a30, m30, c30, rfl, hE, h30⟩
  replace hS := hS.callE hE
  replace hl := hl.mono hE.ext
  replace h21 := h21.mono hE.ext
  refine qq hS (g_move _) ?_
  refine qq hS (g_extract rfl rfl) ?_
  refine qq hS (g_extract (v := .int .i64 _) rfl rfl) ?_
  refine qe (d_alloc (cs := [.bool _, .int .i64 _, .int .i64 _, .slice _ _ _]) hS Try.zeroValue31 rfl) ?_
  clear hS
  rintro _ w_4 ⟨b9, rfl, hS⟩
  refine qe (d_store 0 hS Try.sizeOf31 rfl rfl rfl (vs := [.bool _, .int .i64 _, .int .i64 _, .slice _ _ _]) rfl rfl rfl (Nat.le_of_ble_eq_true rfl) (cs' := [_, _, _, _]) rfl) ?_
  clear hS
  rintro _ w_5 ⟨rfl, hS⟩
  refine qq hS (g_assignv (v := .int .i64 _) rfl) ?_
  refine ol_nil (thenN ?_)
  refine wp_seq ?_
  refine reg ?_
  refine qq hS (g_move _) ?_
  refine qq hS (g_movev (v := .int .i64 _) rfl) ?_
  refine qe (d_call Try.call15 rfl (cheapest_v _ A (z % 12) _ _ hS.imm h21 hsw hz12 (by omega) hok)) ?_
  rintro _ w_6 ⟨I_f, a36, m36, c36, rfl, hE, h36⟩
  replace hS := hS.callE hE
  replace hl := hl.mono hE.ext
  replace h21 := h21.mono hE.ext
  replace h30 := h30.mono hE.ext
  refine qq hS (g_move _) ?_
  refine qq hS (g_extract rfl rfl) ?_
  refine qq hS (g_extract (v := .int .i64 _) rfl rfl) ?_
  refine qe (d_alloc (cs := [.bool _, .int .i64 _, .int .i64 _, .slice _ _ _]) hS Try.zeroValue31 rfl) ?_
  clear hS
  rintro _ w_7 ⟨b11, rfl, hS⟩
  refine qe (d_store 0 hS Try.sizeOf31 rfl rfl rfl (vs := [.bool _, .int .i64 _, .int .i64 _, .slice _ _ _]) rfl rfl rfl (Nat.le_of_ble_eq_true rfl) (cs' := [_, _, _, _]) rfl) ?_
  clear hS
  rintro _ w_8 ⟨rfl, hS⟩
  refine qq hS (g_assignv (v := .int .i64 _) rfl) ?_
  refine ol_nil (thenN ?_)
  refine wp_seq ?_
  refine reg ?_
  refine qq hS (g_move _) ?_
  refine qq hS (g_movev (v := .int .i64 _) rfl) ?_
  refine qe (d_call Try.call26 rfl (patchOf_v _ A (z % 12) _ _ hS.imm h21 hsw hz12 (by omega) hok)) ?_
  rintro _ w_9 ⟨I_f, a42, m42, c42, rfl, hE, h42⟩
  replace hS := hS.callE hE
  replace hl := hl.mono hE.ext
  replace h21 := h21.mono hE.ext
  replace h30 := h30.mono hE.ext
  replace h36 := h36.mono hE.ext
  refine qq hS (g_move _) ?_
  refine qq hS (g_extract rfl rfl) ?_
  refine qq hS (g_extract (v := .int .i64 _) rfl rfl) ?_
  refine qe (d_alloc (cs := [.bool _, .int .i64 _, .int .i64 _, .slice _ _ _]) hS Try.zeroValue31 rfl) ?_
  clear hS
  rintro _ w_10 ⟨b13, rfl, hS⟩
  refine qe (d_store 0 hS Try.sizeOf31 rfl rfl rfl (vs := [.bool _, .int .i64 _, .int .i64 _, .slice _ _ _]) rfl rfl rfl (Nat.le_of_ble_eq_true rfl) (cs' := [_, _, _, _]) rfl) ?_
  clear hS
  rintro _ w_11 ⟨rfl, hS⟩
  refine qq hS (g_assignv (v := .int .i64 _) rfl) ?_
  refine ol_nil (thenN ?_)
  refine wp_seq ?_
  refine wp_seq ?_
  refine reg ?_
  refine qq hS (g_movev (v := .int .i64 _) rfl) ?_
  refine qq hS (g_neq rfl rfl) ?_
  refine qq hS (g_movev (v := .bool _) rfl) ?_
  refine qqs rfl rfl hS (g_movev (v := .int .i64 _) rfl) ?_
  refine qqs rfl rfl hS (g_neq rfl rfl) ?_
  refine qq hS (g_or rfl rfl (fun _ => rfl)) ?_
  refine qq hS (g_movev (v := .bool _) rfl) ?_
  refine qqs rfl rfl hS (g_movev (v := .int .i64 _) rfl) ?_
  refine qqs rfl rfl hS (g_neq rfl rfl) ?_
  refine qq hS (g_or rfl rfl (fun _ => rfl)) ?_
  refine qq hS (g_movev (v := .bool _) rfl) ?_
  refine qqs rfl rfl hS (g_ldO 2 (vs := [.bool _, .int .i64 _, .int .i64 _, .slice _ _ _]) Try.sizeOf31 Try.isAgg31 rfl rfl rfl rfl) ?_
  refine qes rfl rfl (d_call Try.call21 rfl (right_f false (z % 12) (A.take k) a30 m30 c30 _ _ hS.imm h30 hwT hz12 hlT hokT)) ?_
  rintro _ w_12 ⟨rfl, hE⟩
  replace hS := hS.callE hE
  refine qqs rfl rfl hS (g_not rfl) ?_
  refine qq hS (g_or rfl rfl (fun _ => rfl)) ?_
  refine qq hS (g_movev (v := .bool _) rfl) ?_
  refine qqs rfl rfl hS (g_ldO 1 (vs := [.bool _, .int .i64 _, .int .i64 _, .slice _ _ _]) Try.sizeOf31 Try.isAgg31 rfl rfl rfl rfl) ?_
  refine qes rfl rfl (d_call Try.call21 rfl (right_f false (z % 12) A a36 m36 c36 _ _ hS.imm h36 hsw hz12 (by omega) hok)) ?_
  rintro _ w_13 ⟨rfl, hE⟩
  replace hS := hS.callE hE
  refine qqs rfl rfl hS (g_not rfl) ?_
  refine qq hS (g_or rfl rfl (fun _ => rfl)) ?_
  refine qq hS (g_movev (v := .bool _) rfl) ?_
  refine qqs rfl rfl hS (g_ldO 0 (vs := [.bool _, .int .i64 _, .int .i64 _, .slice _ _ _]) Try.sizeOf31 Try.isAgg31 rfl rfl rfl rfl) ?_
  refine qes rfl rfl (d_call Try.call21 rfl (right_o (z % 12) A a42 m42 c42 _ _ hS.imm h42 hsw hz12 (by omega) hok)) ?_
  rintro _ w_14 ⟨rfl, hE⟩
  replace hS := hS.callE hE
  refine qqs rfl rfl hS (g_not rfl) ?_
  refine qq hS (g_or rfl rfl (fun _ => rfl)) ?_
  refine ol_nil (thenN ?_)
  refine cond_f (rfl) ?_
  refine wp_skip ?_
  refine thenN ?_
  refine wp_seq ?_
  refine draw (.cons 0 .held (.cons 2 .pure (.cons 1 .eff (.cons 3 .eff (.cons 4 .pure (.cons 5 .pure (.cons 6 .held (.cons 8 .held (.cons 7 .eff (.cons 9 .eff (.cons 10 .pure (.cons 11 .pure (.cons 12 .pure (.cons 13 .pure (.cons 14 .pure (.cons 15 .pure .nil)))))))))))))))) mixed (by kernel_rfl) hS ?_
  intro w_15 hS
  refine sh rfl (g_ldO 2 (vs := [.bool _, .int .i64 _, .int .i64 _, .slice _ _ _]) Try.sizeOf31 Try.isAgg31 rfl rfl rfl rfl) ?_
  refine sp rfl (g_move _) ?_
  have hS0 := hS
  refine se rfl (d_call Try.call22 rfl (cost_f false (z % 12) (A.take k) a30 m30 c30 _ _ hS.imm h30 hwT hz12 hlT hokT)) ?_
  rintro _ w_16 ⟨rfl, hE⟩
  replace hS := hS.call hE
  refine ⟨_, _, hS0.le hE.ext (List.Sublist.refl _), hS, ?_⟩
  have hS0 := hS
  refine se rfl (d_call Try.call27 rfl (least_c _ (A.take k) _ _ hS.imm (h21.slH k hk1) hwT hokT.gd (by omega))) ?_
  rintro _ w_17 ⟨rfl, hE⟩
  replace hS := hS.call hE
  refine ⟨_, _, hS0.le hE.ext (List.Sublist.refl _), hS, ?_⟩
  refine sp rfl (g_eql rfl rfl) ?_
  refine sp rfl (g_movev (v := .bool _) rfl) ?_
  refine shu rfl rfl rfl (fun hg => (g_ldO 1 (vs := [.bool _, .int .i64 _, .int .i64 _, .slice _ _ _]) Try.sizeOf31 Try.isAgg31 rfl rfl rfl rfl)) ?_
  intro u76 hu76 hn76
  refine shu rfl rfl rfl (fun hg => (g_ldO 0 (vs := [.bool _, .int .i64 _, .int .i64 _, .slice _ _ _]) Try.sizeOf31 Try.isAgg31 rfl rfl rfl rfl)) ?_
  intro u78 hu78 hn78
  refine scu rfl rfl rfl hS (fun hg => (d_call Try.call22 (ml (hu76 hg) ml0) (cost_f false (z % 12) A a36 m36 c36 _ _ hS.imm h36 hsw hz12 (by omega) hok))) ?_
  intro w_19 u77 hS hu77 hn77
  refine scu rfl rfl rfl hS (fun hg => (d_call Try.call22 (ml (hu78 hg) ml0) (cost_o (z % 12) A a42 m42 c42 _ _ hS.imm h42 hsw hz12 (by omega) hok))) ?_
  intro w_21 u79 hS hu79 hn79
  refine spu rfl rfl rfl (fun hg => (g_leq (hu77 hg) (hu79 hg))) ?_
  intro u80 hu80 hn80
  refine sp rfl (g_and rfl rfl (fun hq => hu80 hq)) ?_
  refine sp rfl (g_movev (v := .bool _) rfl) ?_
  refine spu rfl rfl rfl (fun hg => (g_movev (v := .bool _) rfl)) ?_
  intro u83 hu83 hn83
  refine sp rfl (g_and rfl rfl (fun hq => hu83 hq)) ?_
  refine sp rfl (g_assignv (v := .bool _) rfl) ?_
  refine sn (thenN ?_)
  refine wp_ret ?_
  refine ret1 Try.results9 (rv_tmp (v := .bool _) rfl) ?_
  refine ⟨_, congrArg Value.bool ?_, hS.nil⟩
  simp; omega

end Go.Proofs.Ytaoodcchleaoeaa
