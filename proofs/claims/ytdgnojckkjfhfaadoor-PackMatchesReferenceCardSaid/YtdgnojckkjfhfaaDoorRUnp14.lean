/- inlayref14.Unpack of any bytes. Conditions: at most 1000000 bytes. -/
import Derived.Test.YtdgnojckkjfhfaaDoorROps14
import Derived.Test.YtdgnojckkjfhfaaDoorCore32
namespace Go.Proofs.YtdgnojckkjfhfaaDoor
open Go Go.RowKit Go.Inl
set_option linter.unusedSimpArgs false
set_option linter.unusedVariables false
/-- Bytes of a right patch. -/
structure IsPk (b : List Int) (p : PatL) : Prop where
  wf : p.wf
  chk : (checkP p).2 = 0
  pk : packP p = b
theorem mid_eq {b X Y Z : List Int} {i j : Nat} (h : b = X ++ (Y ++ Z)) (hi : X.length = i) (hj : i + Y.length = j) : (b.take j).drop i = Y := by
  subst hi hj h
  rw [show X ++ (Y ++ Z) = (X ++ Y) ++ Z by rw [List.append_assoc], List.take_append_of_le_length (by rw [List.length_append]; omega), List.take_of_length_le (by rw [List.length_append]; omega), List.drop_append_of_le_length (Nat.le_refl _), List.drop_length, List.nil_append]
/-- What the bytes of a right patch tell. -/
structure PkF (b : List Int) (p : PatL) : Prop where
  G : PatG p
  s : ∀ x ∈ p.ops, OpS x
  len : b.length = 26 + (code1 (lsP p.ops)).length + (code2 (dtP p.ops)).length
  sum : Inl.sumP (b.take (b.length - 4)) = b.drop (b.length - 4)
  v1 : b[1]? = some (lft p)
  v2 : valC ((b.take 5).drop 2) = p.in_
  v5 : valC ((b.take 8).drop 5) = p.out
  v8 : valC ((b.take 10).drop 8) = (p.ops.length : Int)
  v10 : valC ((b.take 13).drop 10) = ((lsP p.ops).length : Int)
  v13 : valC ((b.take 16).drop 13) = ((code1 (lsP p.ops)).length : Int)
  v16 : valC ((b.take 19).drop 16) = ((dtP p.ops).length : Int)
  v19 : valC ((b.take 22).drop 19) = ((code2 (dtP p.ops)).length : Int)
  c1 : (b.take (22 + (code1 (lsP p.ops)).length)).drop 22 = code1 (lsP p.ops)
  c2 : (b.take (22 + (code1 (lsP p.ops)).length + (code2 (dtP p.ops)).length)).drop (22 + (code1 (lsP p.ops)).length) = code2 (dtP p.ops)
theorem IsPk.f {b : List Int} {p : PatL} (h : IsPk b p) : PkF b p := by
  have hG := patG_of h.wf h.chk
  have hl := packP_len hG
  have ht := packP_take hG
  have hd := packP_drop hG
  have hh := packP_head p
  rw [h.pk] at hl ht hd hh
  obtain ⟨i1, i2⟩ := hG.in_
  obtain ⟨o1, o2⟩ := hG.out
  have hn := hG.n
  have hdt := hG.dat
  have hl0 := lsP_le p.ops
  have hl1 := (code1_ok (lsP_byt p.ops)).2
  have hl2 := (code2_ok (dtP_byt hG.ops)).2
  obtain ⟨R, hR⟩ : ∃ R, code1 (lsP p.ops) ++ (code2 (dtP p.ops) ++ Inl.sumP (bodyP p)) = R := ⟨_, rfl⟩
  have hH := hh
  rw [hR, headP_app] at hH
  have q : ∀ (w : Nat) (n : Int), (numB w n).length = w := numB_len
  have m : ∀ (X : List Int) (w : Nat) (n : Int) (Z : List Int) (i : Nat), b = X ++ (numB w n ++ Z) → X.length = i → (b.take (i + w)).drop i = numB w n := fun X w n Z i e hi => mid_eq e hi (by rw [q])
  have e8 := hh
  refine ⟨hG, opsS_of h.chk, hl, by rw [ht, hd], ?_, ?_, ?_, ?_, ?_, ?_, ?_, ?_, ?_, ?_⟩
  · rw [hH]
    have l1 : numB 1 (lft p) = [lft p] := by
      show [lft p / 256 ^ 0 % 256] = _
      rcases lft_b p with h | h <;> rw [h] <;> rfl
    rw [l1]; rfl
  · rw [m (numB 1 80 ++ numB 1 (lft p)) 3 p.in_ _ 2 (by rw [hH]; simp only [List.append_assoc]; rfl) (by rw [List.length_append, q, q])]; exact valC_num3 ⟨by omega, by omega⟩
  · rw [m (numB 1 80 ++ (numB 1 (lft p) ++ numB 3 p.in_)) 3 p.out _ 5 (by rw [hH]; simp only [List.append_assoc]; rfl) (by simp only [List.length_append, q])]; exact valC_num3 ⟨by omega, by omega⟩
  · rw [m (numB 1 80 ++ (numB 1 (lft p) ++ (numB 3 p.in_ ++ numB 3 p.out))) 2 (p.ops.length : Int) _ 8 (by rw [hH]; simp only [List.append_assoc]; rfl) (by simp only [List.length_append, q])]; exact valC_num2 ⟨by omega, by omega⟩
  · rw [m (numB 1 80 ++ (numB 1 (lft p) ++ (numB 3 p.in_ ++ (numB 3 p.out ++ numB 2 (p.ops.length : Int))))) 3 ((lsP p.ops).length : Int) _ 10 (by rw [hH]; simp only [List.append_assoc]; rfl) (by simp only [List.length_append, q])]; exact valC_num3 ⟨by omega, by omega⟩
  · rw [m (numB 1 80 ++ (numB 1 (lft p) ++ (numB 3 p.in_ ++ (numB 3 p.out ++ (numB 2 (p.ops.length : Int) ++ numB 3 ((lsP p.ops).length : Int)))))) 3 ((code1 (lsP p.ops)).length : Int) _ 13 (by rw [hH]; simp only [List.append_assoc]; rfl) (by simp only [List.length_append, q])]; exact valC_num3 ⟨by omega, by omega⟩
  · rw [m (numB 1 80 ++ (numB 1 (lft p) ++ (numB 3 p.in_ ++ (numB 3 p.out ++ (numB 2 (p.ops.length : Int) ++ (numB 3 ((lsP p.ops).length : Int) ++ numB 3 ((code1 (lsP p.ops)).length : Int))))))) 3 ((dtP p.ops).length : Int) _ 16 (by rw [hH]; simp only [List.append_assoc]; rfl) (by simp only [List.length_append, q])]; exact valC_num3 ⟨by omega, by omega⟩
  · rw [m (numB 1 80 ++ (numB 1 (lft p) ++ (numB 3 p.in_ ++ (numB 3 p.out ++ (numB 2 (p.ops.length : Int) ++ (numB 3 ((lsP p.ops).length : Int) ++ (numB 3 ((code1 (lsP p.ops)).length : Int) ++ numB 3 ((dtP p.ops).length : Int)))))))) 3 ((code2 (dtP p.ops)).length : Int) R 19 (by rw [hH]; simp only [List.append_assoc]) (by simp only [List.length_append, q])]; exact valC_num3 ⟨by omega, by omega⟩
  · exact mid_eq (X := headP p) hh (headP_len p) rfl
  · exact mid_eq (X := headP p ++ code1 (lsP p.ops)) (by rw [hh, List.append_assoc]) (by rw [List.length_append, headP_len]) rfl
/-- A text of a part's code. -/
theorem PkF.t1 {b : List Int} {p : PatL} (h : PkF b p) {n1 n2 : Nat} (h1 : valC ((b.take 13).drop 10) = n1) (h2 : valC ((b.take 16).drop 13) = n2) : TextOf mdl1 adOne ((b.take (22 + n2)).drop 22) n1 (lsP p.ops) := by
  have e1 := h.v10
  have e2 := h.v13
  rw [h1] at e1
  rw [h2] at e2
  have hn := h.G.n
  have hl0 := lsP_le p.ops
  have : n2 = (code1 (lsP p.ops)).length := by omega
  subst this
  exact ⟨by omega, by omega, lsP_byt _, by rw [h.c1]; rfl⟩
theorem PkF.t2 {b : List Int} {p : PatL} (h : PkF b p) {n1 n2 n3 : Nat} (h1 : valC ((b.take 19).drop 16) = n1) (h2 : valC ((b.take 16).drop 13) = n2) (h3 : valC ((b.take 22).drop 19) = n3) : TextOf mdl2 s2z ((b.take (22 + n2 + n3)).drop (22 + n2)) n1 (dtP p.ops) := by
  have e1 := h.v16
  have e2 := h.v13
  have e3 := h.v19
  rw [h1] at e1
  rw [h2] at e2
  rw [h3] at e3
  have hd := h.G.dat
  have : n2 = (code1 (lsP p.ops)).length := by omega
  subst this
  have : n3 = (code2 (dtP p.ops)).length := by omega
  subst this
  exact ⟨by omega, by omega, dtP_byt h.G.ops, by rw [h.c2]; rfl⟩
theorem decr1_c (ad : Option Addr) (cap : Nat) (b : List Int) (N : Nat) (hN : N ≤ 16777216) (w0 : World) (I0 : Imm) (hI : Sat I0 w0) (hb : RBytes I0 (.slice ad b.length cap) b) (hbb : Byt b) (hbl : b.length ≤ 1000000) :
    Ctr Tryd.prog 33 [.int .i64 1, .slice ad b.length cap, .int .i64 N] w0 (fun v w' => ∃ (I' : Imm) (a : Option Addr) (c : Nat) (xs : List Int) (e : Int), v = .tuple #[.slice a xs.length c, .int .i64 e] ∧ Ext w0 I0 w' I' ∧ RBytes I' (.slice a xs.length c) xs ∧ ((e = 0 ∧ TextOf mdl1 adOne b N xs ∧ ∀ x, TextOf mdl1 adOne b N x → x = xs) ∨ (e = 130 ∧ xs = [] ∧ ∀ x, ¬ TextOf mdl1 adOne b N x))) :=
  decr_c mdl1 mdl1_ok 1 (.inl rfl) rep1 adOne adOne_ok rfl ad cap b N hN w0 I0 hI hb hbb hbl
theorem decr2_c (ad : Option Addr) (cap : Nat) (b : List Int) (N : Nat) (hN : N ≤ 16777216) (w0 : World) (I0 : Imm) (hI : Sat I0 w0) (hb : RBytes I0 (.slice ad b.length cap) b) (hbb : Byt b) (hbl : b.length ≤ 1000000) :
    Ctr Tryd.prog 33 [.int .i64 2, .slice ad b.length cap, .int .i64 N] w0 (fun v w' => ∃ (I' : Imm) (a : Option Addr) (c : Nat) (xs : List Int) (e : Int), v = .tuple #[.slice a xs.length c, .int .i64 e] ∧ Ext w0 I0 w' I' ∧ RBytes I' (.slice a xs.length c) xs ∧ ((e = 0 ∧ TextOf mdl2 s2z b N xs ∧ ∀ x, TextOf mdl2 s2z b N x → x = xs) ∨ (e = 130 ∧ xs = [] ∧ ∀ x, ¬ TextOf mdl2 s2z b N x))) :=
  decr_c mdl2 mdl2_ok 2 (.inr rfl) rep2 s2z s2z_ok rep2_z ad cap b N hN w0 I0 hI hb hbb hbl
theorem packRef_ok_c (p : PatL) (ad : Option Addr) (m cap : Nat) (w0 : World) (I0 : Imm) (hI : Sat I0 w0) (hops : ROps I0 (.slice ad m cap) p.ops) (hp : p.wf) (hck : (checkP p).2 = 0) :
    Ctr Tryd.prog 12 [.agg #[.bool p.lifted, .int .i64 p.in_, .int .i64 p.out, .slice ad m cap]] w0 (fun v w' => ∃ I' a c, v = .tuple #[.slice a (packP p).length c, .int .i64 0] ∧ Ext w0 I0 w' I' ∧ RBytes I' (.slice a (packP p).length c) (packP p)) :=
  (packRef_c p ad m cap w0 I0 hI hops hp).mono fun v w' h => h.elim (fun h => absurd hck h.1) fun h => h.2
theorem packRef_bad_c (p : PatL) (ad : Option Addr) (m cap : Nat) (w0 : World) (I0 : Imm) (hI : Sat I0 w0) (hops : ROps I0 (.slice ad m cap) p.ops) (hp : p.wf) (hck : (checkP p).2 ≠ 0) :
    Ctr Tryd.prog 12 [.agg #[.bool p.lifted, .int .i64 p.in_, .int .i64 p.out, .slice ad m cap]] w0 (fun v w' => v = .tuple #[.slice none 0 0, .int .i64 60] ∧ Ext w0 I0 w' I0) :=
  (packRef_c p ad m cap w0 I0 hI hops hp).mono fun v w' h => h.elim (fun h => h.2) fun h => absurd h.1 hck
attribute [local irreducible] packP bodyP headP code1 code2 Inl.sumP numsB
set_option maxRecDepth 20000 in
set_option maxHeartbeats 4000000 in
theorem unpRef_c (b : List Int) (hbb : Byt b) (hbl : b.length ≤ 1000000) (ad : Option Addr) (cap : Nat) (w0 : World) (I0 : Imm) (hI : Sat I0 w0) (hb : RBytes I0 (.slice ad b.length cap) b) :
    Ctr Tryd.prog 16 [.slice ad b.length cap] w0 (fun v w' => (∃ q I' a m c, IsPk b q ∧ v = .tuple #[.agg #[.bool q.lifted, .int .i64 q.in_, .int .i64 q.out, .slice a m c], .int .i64 0] ∧ Ext w0 I0 w' I' ∧ ROps I' (.slice a m c) q.ops) ∨ (∃ I', v = .tuple #[.agg #[.bool false, .int .i64 0, .int .i64 0, .slice none 0 0], .int .i64 140] ∧ Ext w0 I0 w' I' ∧ ∀ q, ¬ IsPk b q)) := by
  have hcc := (RSl.resl2 hb b.length b.length (Nat.le_refl _) (Nat.le_refl _)).2.1
  refine fn (n := 122) Tryd.func16 rfl rfl rfl ?_
  have hS := St.start hI
  refine wpIn_seq ?_
  refine reg ?_
  refine qe (d_alloc (cs := [.bool _, .int .i64 _, .int .i64 _, .slice _ _ _]) hS Tryd.zeroValue31 rfl) ?_
  clear hS
  rintro _ w_1 ⟨b2, rfl, hS⟩
  refine qq hS (g_assignv (v := .int .i64 _) rfl) ?_
  refine ol_nil (thenN ?_)
  refine wpIn_seq ?_
  refine wpIn_seq ?_
  refine (Classical.em (b.length < 26)).elim (fun hlt => ?_) (fun hge => ?_)
  ·
    have hno : ∀ q, ¬ IsPk b q := fun q hq => by have := hq.f.len; omega
    refine draw (.cons 0 .pure (.cons 1 .pure (.cons 2 .pure (.cons 3 .pure (.cons 4 .pure (.cons 5 .pure (.cons 6 .pure (.cons 7 .pure (.cons 8 .pure (.cons 10 .pure (.cons 11 .pure (.cons 12 .pure (.cons 13 .pure (.cons 14 .pure (.cons 9 .eff (.cons 15 .eff (.cons 16 .pure (.cons 17 .pure .nil)))))))))))))))))) mixed (by kernel_rfl) hS ?_
    intro w_2 hS
    refine sp rfl (g_move _) ?_
    refine sp rfl (g_lenI rfl Tryd.underlying25 (hb.mono hS.ext) rfl) ?_
    refine sp rfl (g_castT (g_lss rfl rfl) (congrArg Value.bool (decide_eq_true (by omega)))) ?_
    refine sp rfl (g_movev (v := .bool _) rfl) ?_
    refine spf rfl rfl rfl rfl ?_
    refine spf rfl rfl rfl rfl ?_
    refine spf rfl rfl rfl rfl ?_
    refine spf rfl rfl rfl rfl ?_
    refine spf rfl rfl rfl rfl ?_
    refine spf rfl rfl rfl rfl ?_
    refine spf rfl rfl rfl rfl ?_
    refine spf rfl rfl rfl rfl ?_
    refine spf rfl rfl rfl rfl ?_
    refine spf rfl rfl rfl rfl ?_
    refine sgf rfl rfl rfl rfl (hS) ?_
    refine sgf rfl rfl rfl rfl (hS) ?_
    refine spf rfl rfl rfl rfl ?_
    refine sp rfl (g_or (b := false) rfl rfl (fun h => (by cases h))) ?_
    refine sn (thenN ?_)
    refine cond_t (rfl) ?_
    refine wpIn_seq ?_
    refine reg ?_
    refine qq hS (g_buildv (pl := [(0, 1), (1, 1), (2, 1), (3, 1)]) (cs := [.bool _, .int .i64 _, .int .i64 _, .slice _ _ _]) Tryd.zeroValue31 Tryd.underlying31 (fun w => by simp [Tryd.sizeOf29, Tryd.sizeOf3, Tryd.sizeOf4]) mp0 rfl) ?_
    refine qe (d_store 0 hS Tryd.sizeOf31 rfl rfl rfl (vs := [.bool _, .int .i64 _, .int .i64 _, .slice _ _ _]) rfl rfl rfl (Nat.le_of_ble_eq_true rfl) (cs' := [_, _, _, _]) rfl) ?_
    clear hS
    rintro _ w_3 ⟨rfl, hS⟩
    refine qq hS (g_assignv (v := .int .i64 _) rfl) ?_
    refine ol_nil (thenN ?_)
    refine wpIn_ret ?_
    refine thenR ?_
    refine ret2 Tryd.results16 (rv_cel 0 hS Tryd.sizeOf31 Tryd.isAgg31 rfl rfl rfl) (rv_tmp (v := .int .i64 _) rfl) ?_
    first
      | exact .inr ⟨_, rfl, hS.nil, hno⟩
      | exact .inl ⟨⟨decide (y1 = 1), (n2 : Int), (n5 : Int), xs⟩, _, a98, m98, c98, ⟨hwf, hck, heq⟩, rfl, hS.nil, h98⟩
  ·
    have hs1 : RBytes I0 _ _ := (RSl.resl2 hb 0 (b.length - 4) (by omega) (by omega)).1
    rw [List.drop_zero] at hs1
    obtain ⟨a1, c1, hv1, _⟩ := hs1.len
    rw [hv1] at hs1
    rw [List.length_take, Nat.min_eq_left (Nat.sub_le _ _)] at hv1 hs1
    have hs2 : RBytes I0 _ _ := RSl.slL hb (b.length - 4) (by omega)
    obtain ⟨a2, c2, hv2, _⟩ := hs2.len
    rw [hv2] at hs2
    refine draw (.cons 0 .pure (.cons 1 .pure (.cons 2 .pure (.cons 3 .pure (.cons 4 .pure (.cons 5 .pure (.cons 6 .pure (.cons 7 .pure (.cons 8 .pure (.cons 10 .pure (.cons 11 .pure (.cons 12 .pure (.cons 13 .pure (.cons 14 .pure (.cons 9 .eff (.cons 15 .eff (.cons 16 .pure (.cons 17 .pure .nil)))))))))))))))))) mixed (by kernel_rfl) hS ?_
    intro w_4 hS
    refine sp rfl (g_move _) ?_
    refine sp rfl (g_lenI rfl Tryd.underlying25 (hb.mono hS.ext) rfl) ?_
    refine sp rfl (g_castT (g_lss rfl rfl) (congrArg Value.bool (decide_eq_false (by omega)))) ?_
    refine sp rfl (g_movev (v := .bool _) rfl) ?_
    refine spt rfl rfl rfl (g_move _) ?_
    refine spt rfl rfl rfl (g_move _) ?_
    refine spt rfl rfl rfl (g_lenI rfl Tryd.underlying25 (hb.mono hS.ext) rfl) ?_
    refine spt rfl rfl rfl (g_sub rfl rfl (by omega) (by omega)) ?_
    refine spt rfl rfl rfl (g_castT (g_sliceHN (h0 := b.length - 4) Tryd.underlying25 Tryd.sizeOf5 rfl rfl (by omega) (by omega) (by omega)) hv1) ?_
    refine spt rfl rfl rfl (g_move _) ?_
    refine spt rfl rfl rfl (g_move _) ?_
    refine spt rfl rfl rfl (g_lenI rfl Tryd.underlying25 (hb.mono hS.ext) rfl) ?_
    refine spt rfl rfl rfl (g_sub rfl rfl (by omega) (by omega)) ?_
    refine spt rfl rfl rfl (g_castT (g_sliceLN (l0 := b.length - 4) Tryd.underlying25 Tryd.sizeOf5 rfl rfl (by omega) (by omega) (by omega)) hv2) ?_
    have hS0 := hS
    refine Inl.set rfl rfl rfl (d_call Tryd.call14 rfl (sumR_c _ _ _ (b.take (b.length - 4)) _ _ hS.imm (hs1.mono hS.ext) (byt_take hbb _) (by rw [List.length_take]; omega))) ?_
    rintro _ w_5 ⟨I_f, a24, m24, c24, rfl, hE, h24, _⟩
    replace hS := hS.call hE
    refine ⟨_, _, hS0.le hE.ext (List.Sublist.refl _), hS, ?_⟩
    have hS0 := hS
    refine Inl.set rfl rfl rfl (d_call Tryd.call13 rfl (same14_c _ _ (Inl.sumP (b.take (b.length - 4))) (b.drop (b.length - 4)) _ _ hS.imm h24 (hs2.mono hS.ext))) ?_
    rintro _ w_6 ⟨rfl, hE⟩
    replace hS := hS.call hE
    refine ⟨_, _, hS0.le hE.ext (List.Sublist.refl _), hS, ?_⟩
    refine spt rfl rfl rfl (g_not rfl) ?_
    refine sp rfl (g_or rfl rfl (fun _ => rfl)) ?_
    refine sn (thenN ?_)
    refine cond_s rfl ?_ ?_
    ·
      intro hc32
      have hsum : ¬ Inl.sumP (b.take (b.length - 4)) = b.drop (b.length - 4) := by simpa using hc32
      have hno : ∀ q, ¬ IsPk b q := fun q hq => hsum hq.f.sum
      refine wpIn_seq ?_
      refine reg ?_
      refine qq hS (g_buildv (pl := [(0, 1), (1, 1), (2, 1), (3, 1)]) (cs := [.bool _, .int .i64 _, .int .i64 _, .slice _ _ _]) Tryd.zeroValue31 Tryd.underlying31 (fun w => by simp [Tryd.sizeOf29, Tryd.sizeOf3, Tryd.sizeOf4]) mp0 rfl) ?_
      refine qe (d_store 0 hS Tryd.sizeOf31 rfl rfl rfl (vs := [.bool _, .int .i64 _, .int .i64 _, .slice _ _ _]) rfl rfl rfl (Nat.le_of_ble_eq_true rfl) (cs' := [_, _, _, _]) rfl) ?_
      clear hS
      rintro _ w_7 ⟨rfl, hS⟩
      refine qq hS (g_assignv (v := .int .i64 _) rfl) ?_
      refine ol_nil (thenN ?_)
      refine wpIn_ret ?_
      refine thenR ?_
      refine ret2 Tryd.results16 (rv_cel 0 hS Tryd.sizeOf31 Tryd.isAgg31 rfl rfl rfl) (rv_tmp (v := .int .i64 _) rfl) ?_
      first
        | exact .inr ⟨_, rfl, hS.nil, hno⟩
        | exact .inl ⟨⟨decide (y1 = 1), (n2 : Int), (n5 : Int), xs⟩, _, a98, m98, c98, ⟨hwf, hck, heq⟩, rfl, hS.nil, h98⟩
    ·
      intro hc32
      have hsum : Inl.sumP (b.take (b.length - 4)) = b.drop (b.length - 4) := by simpa using hc32
      obtain ⟨y1, hy1⟩ : ∃ y, b[1]? = some y := ⟨_, List.getElem?_eq_getElem (by omega)⟩
      have hyA := (hb.mono hS.ext).at (show b[(1 : Int).toNat]? = some y1 from hy1)
      have hs39 : RBytes I0 _ _ := (RSl.resl2 hb (2) (5) (by omega) (by omega)).1
      obtain ⟨a39, c39, hv39, _⟩ := hs39.len
      rw [hv39] at hs39
      have hs42 : RBytes I0 _ _ := (RSl.resl2 hb (5) (8) (by omega) (by omega)).1
      obtain ⟨a42, c42, hv42, _⟩ := hs42.len
      rw [hv42] at hs42
      have hs46 : RBytes I0 _ _ := (RSl.resl2 hb (13) (16) (by omega) (by omega)).1
      obtain ⟨a46, c46, hv46, _⟩ := hs46.len
      rw [hv46] at hs46
      have hs49 : RBytes I0 _ _ := (RSl.resl2 hb (19) (22) (by omega) (by omega)).1
      obtain ⟨a49, c49, hv49, _⟩ := hs49.len
      rw [hv49] at hs49
      have hs65 : RBytes I0 _ _ := (RSl.resl2 hb (10) (13) (by omega) (by omega)).1
      obtain ⟨a65, c65, hv65, _⟩ := hs65.len
      rw [hv65] at hs65
      have hs80 : RBytes I0 _ _ := (RSl.resl2 hb (16) (19) (by omega) (by omega)).1
      obtain ⟨a80, c80, hv80, _⟩ := hs80.len
      rw [hv80] at hs80
      have hs96 : RBytes I0 _ _ := (RSl.resl2 hb (8) (10) (by omega) (by omega)).1
      obtain ⟨a96, c96, hv96, _⟩ := hs96.len
      rw [hv96] at hs96
      obtain ⟨n2, hn2, hbn2⟩ := valN (l := (b.take 5).drop 2) (byt_drop (byt_take hbb _) _) (by rw [List.length_drop, List.length_take]; omega)
      obtain ⟨n5, hn5, hbn5⟩ := valN (l := (b.take 8).drop 5) (byt_drop (byt_take hbb _) _) (by rw [List.length_drop, List.length_take]; omega)
      obtain ⟨n8, hn8, hbn8⟩ := valN (l := (b.take 10).drop 8) (byt_drop (byt_take hbb _) _) (by rw [List.length_drop, List.length_take]; omega)
      obtain ⟨n10, hn10, hbn10⟩ := valN (l := (b.take 13).drop 10) (byt_drop (byt_take hbb _) _) (by rw [List.length_drop, List.length_take]; omega)
      obtain ⟨n13, hn13, hbn13⟩ := valN (l := (b.take 16).drop 13) (byt_drop (byt_take hbb _) _) (by rw [List.length_drop, List.length_take]; omega)
      obtain ⟨n16, hn16, hbn16⟩ := valN (l := (b.take 19).drop 16) (byt_drop (byt_take hbb _) _) (by rw [List.length_drop, List.length_take]; omega)
      obtain ⟨n19, hn19, hbn19⟩ := valN (l := (b.take 22).drop 19) (byt_drop (byt_take hbb _) _) (by rw [List.length_drop, List.length_take]; omega)
      have hn65 : n8 ≤ 65535 := by
        have h1 := valC_bd ((b.take 10).drop 8) (byt_drop (byt_take hbb _) _)
        rw [hn8, List.length_drop, List.length_take, show min 10 b.length - 8 = 2 by omega] at h1
        have : (256 : Int) ^ 2 = 65536 := rfl
        omega
      refine wpIn_skip ?_
      refine thenN ?_
      refine wpIn_seq ?_
      refine drawA _ [(0, .pure), (1, .pure), (2, .held), (3, .pure), (4, .pure), (5, .pure), (7, .pure), (8, .pure), (6, .eff), (9, .eff), (10, .pure)] (.cons 12 .bar .nil) mixed (by kernel_rfl) (lays (lay_alloc (i := 11) (cs := [.bool _, .int .i64 _, .int .i64 _, .slice _ _ _]) rfl Tryd.zeroValue31 rfl) lays0) hS ?_
      refine oaP rfl rfl (fun x_ => (g_move _)) ?_
      refine oaP rfl rfl (fun x_ => (g_ixI Tryd.underlying25 Tryd.sizeOf5 (hb.mono hS.ext) rfl rfl (by omega) (by omega))) ?_
      refine oaH rfl rfl (fun x_ => (g_ldE1 Tryd.isAgg5 hyA rfl rfl)) ?_
      refine oaP rfl rfl (fun x_ => (g_eql rfl rfl)) ?_
      refine oaP rfl rfl (fun x_ => (g_move _)) ?_
      refine oaP rfl rfl (fun x_ => (g_castT (g_slice2N (l0 := 2) (h0 := 5) Tryd.underlying25 Tryd.sizeOf5 rfl rfl rfl (by omega) (by omega) (by omega) (by first | rfl | omega) (by first | rfl | omega)) hv39)) ?_
      refine oaP rfl rfl (fun x_ => (g_move _)) ?_
      refine oaP rfl rfl (fun x_ => (g_castT (g_slice2N (l0 := 5) (h0 := 8) Tryd.underlying25 Tryd.sizeOf5 rfl rfl rfl (by omega) (by omega) (by omega) (by first | rfl | omega) (by first | rfl | omega)) hv42)) ?_
      refine oaE rfl rfl (fun x_ T_ w_9 hS => (d_call Tryd.call32 rfl (valueN_c _ _ ((b.take 5).drop 2) n2 hn2 (by rw [List.length_drop, List.length_take]; omega) (byt_drop (byt_take hbb _) _) _ _ hS.imm (hs39.mono hS.ext)))) ?_
      rintro _ w_10 w_8 ⟨rfl, hE⟩
      refine ⟨_, hE, ?_⟩
      refine oaE rfl rfl (fun x_ T_ w_12 hS => (d_call Tryd.call32 rfl (valueN_c _ _ ((b.take 8).drop 5) n5 hn5 (by rw [List.length_drop, List.length_take]; omega) (byt_drop (byt_take hbb _) _) _ _ hS.imm (hs42.mono hS.ext)))) ?_
      rintro _ w_13 w_11 ⟨rfl, hE⟩
      refine ⟨_, hE, ?_⟩
      refine oaP rfl rfl (fun x_ => (g_buildv (pl := [(0, 1), (1, 1), (2, 1), (3, 1)]) (cs := [.bool _, .int .i64 _, .int .i64 _, .slice _ _ _]) Tryd.zeroValue31 Tryd.underlying31 (fun w => by simp [Tryd.sizeOf29, Tryd.sizeOf3, Tryd.sizeOf4]) (mp (v := .bool _) rfl (mp (v := .int .i64 _) rfl (mp (v := .int .i64 _) rfl mp0))) rfl)) ?_
      refine oaN ?_
      intro bs_ hbs_ w_14 hS
      obtain ⟨b4, rfl⟩ := len1 hbs_
      refine sb rfl (d_store 1 hS Tryd.sizeOf31 rfl rfl rfl (vs := [.bool _, .int .i64 _, .int .i64 _, .slice _ _ _]) rfl rfl rfl (Nat.le_of_ble_eq_true rfl) (cs' := [_, _, _, _]) rfl) ?_
      rintro _ w_15 ⟨rfl, hS⟩
      refine ⟨_, _, hS, ?_⟩
      refine sn (thenN ?_)
      refine wpIn_seq ?_
      refine draw (.cons 0 .pure (.cons 1 .pure (.cons 3 .pure (.cons 4 .pure (.cons 2 .eff (.cons 5 .eff (.cons 6 .pure (.cons 7 .pure .nil)))))))) mixed (by kernel_rfl) hS ?_
      intro w_16 hS
      refine sp rfl (g_move _) ?_
      refine sp rfl (g_castT (g_slice2N (l0 := 13) (h0 := 16) Tryd.underlying25 Tryd.sizeOf5 rfl rfl rfl (by omega) (by omega) (by omega) (by first | rfl | omega) (by first | rfl | omega)) hv46) ?_
      refine sp rfl (g_move _) ?_
      refine sp rfl (g_castT (g_slice2N (l0 := 19) (h0 := 22) Tryd.underlying25 Tryd.sizeOf5 rfl rfl rfl (by omega) (by omega) (by omega) (by first | rfl | omega) (by first | rfl | omega)) hv49) ?_
      have hS0 := hS
      refine se rfl (d_call Tryd.call32 rfl (valueN_c _ _ ((b.take 16).drop 13) n13 hn13 (by rw [List.length_drop, List.length_take]; omega) (byt_drop (byt_take hbb _) _) _ _ hS.imm (hs46.mono hS.ext))) ?_
      rintro _ w_17 ⟨rfl, hE⟩
      replace hS := hS.call hE
      refine ⟨_, _, hS0.le hE.ext (List.Sublist.refl _), hS, ?_⟩
      have hS0 := hS
      refine se rfl (d_call Tryd.call32 rfl (valueN_c _ _ ((b.take 22).drop 19) n19 hn19 (by rw [List.length_drop, List.length_take]; omega) (byt_drop (byt_take hbb _) _) _ _ hS.imm (hs49.mono hS.ext))) ?_
      rintro _ w_18 ⟨rfl, hE⟩
      replace hS := hS.call hE
      refine ⟨_, _, hS0.le hE.ext (List.Sublist.refl _), hS, ?_⟩
      refine sp rfl (g_assignv (v := .int .i64 _) rfl) ?_
      refine sp rfl (g_assignv (v := .int .i64 _) rfl) ?_
      refine sn (thenN ?_)
      refine wpIn_seq ?_
      refine wpIn_seq ?_
      refine reg ?_
      refine qq hS (g_move _) ?_
      refine qq hS (g_lenI rfl Tryd.underlying25 (hb.mono hS.ext) rfl) ?_
      refine qq hS (g_movev (v := .int .i64 _) rfl) ?_
      refine qq hS (g_add rfl rfl (by omega) (by omega)) ?_
      refine qq hS (g_movev (v := .int .i64 _) rfl) ?_
      refine qq hS (g_add rfl rfl (by omega) (by omega)) ?_
      refine qq hS (g_neq rfl rfl) ?_
      refine ol_nil (thenN ?_)
      refine cond_s rfl ?_ ?_
      ·
        intro hc57
        try simp only [Bool.and_eq_true, Bool.or_eq_true, Bool.not_eq_true', Bool.and_eq_false_imp, Bool.or_eq_false_iff, Bool.not_eq_false', decide_eq_true_eq, decide_eq_false_iff_not] at hc57
        have hlen : ¬ b.length = 26 + n13 + n19 := fun h => hc57 (by omega)
        have hno : ∀ q, ¬ IsPk b q := fun q hq => hlen (by
          have h1 := hq.f.len
          have h2 := hq.f.v13
          have h3 := hq.f.v19
          rw [hn13] at h2
          rw [hn19] at h3
          omega)
        refine wpIn_seq ?_
        refine reg ?_
        refine qq hS (g_buildv (pl := [(0, 1), (1, 1), (2, 1), (3, 1)]) (cs := [.bool _, .int .i64 _, .int .i64 _, .slice _ _ _]) Tryd.zeroValue31 Tryd.underlying31 (fun w => by simp [Tryd.sizeOf29, Tryd.sizeOf3, Tryd.sizeOf4]) mp0 rfl) ?_
        refine qe (d_store 0 hS Tryd.sizeOf31 rfl rfl rfl (vs := [.bool _, .int .i64 _, .int .i64 _, .slice _ _ _]) rfl rfl rfl (Nat.le_of_ble_eq_true rfl) (cs' := [_, _, _, _]) rfl) ?_
        clear hS
        rintro _ w_19 ⟨rfl, hS⟩
        refine qq hS (g_assignv (v := .int .i64 _) rfl) ?_
        refine ol_nil (thenN ?_)
        refine wpIn_ret ?_
        refine thenR ?_
        refine ret2 Tryd.results16 (rv_cel 0 hS Tryd.sizeOf31 Tryd.isAgg31 rfl rfl rfl) (rv_tmp (v := .int .i64 _) rfl) ?_
        first
          | exact .inr ⟨_, rfl, hS.nil, hno⟩
          | exact .inl ⟨⟨decide (y1 = 1), (n2 : Int), (n5 : Int), xs⟩, _, a98, m98, c98, ⟨hwf, hck, heq⟩, rfl, hS.nil, h98⟩
      ·
        intro hc57
        try simp only [Bool.and_eq_true, Bool.or_eq_true, Bool.not_eq_true', Bool.and_eq_false_imp, Bool.or_eq_false_iff, Bool.not_eq_false', decide_eq_true_eq, decide_eq_false_iff_not] at hc57
        have hlen : b.length = 26 + n13 + n19 := by omega
        have hs63 : RBytes I0 _ _ := (RSl.resl2 hb (22) (22 + n13) (by omega) (by omega)).1
        obtain ⟨a63, c63, hv63, _⟩ := hs63.len
        rw [hv63] at hs63
        have hs78 : RBytes I0 _ _ := (RSl.resl2 hb (22 + n13) (22 + n13 + n19) (by omega) (by omega)).1
        obtain ⟨a78, c78, hv78, _⟩ := hs78.len
        rw [hv78] at hs78
        refine wpIn_skip ?_
        refine thenN ?_
        refine wpIn_seq ?_
        refine draw (.cons 0 .pure (.cons 1 .pure (.cons 2 .pure (.cons 3 .pure (.cons 4 .pure (.cons 5 .pure (.cons 6 .eff (.cons 7 .eff (.cons 8 .pure (.cons 9 .pure (.cons 10 .pure (.cons 11 .pure (.cons 12 .pure .nil))))))))))))) mixed (by kernel_rfl) hS ?_
        intro w_20 hS
        refine sp rfl (g_move _) ?_
        refine sp rfl (g_movev (v := .int .i64 _) rfl) ?_
        refine sp rfl (g_add rfl rfl (by omega) (by omega)) ?_
        refine sp rfl (g_castT (g_slice2N (l0 := 22) (h0 := 22 + n13) Tryd.underlying25 Tryd.sizeOf5 rfl rfl rfl (by omega) (by omega) (by omega) (by first | rfl | omega) (by first | rfl | omega)) hv63) ?_
        refine sp rfl (g_move _) ?_
        refine sp rfl (g_castT (g_slice2N (l0 := 10) (h0 := 13) Tryd.underlying25 Tryd.sizeOf5 rfl rfl rfl (by omega) (by omega) (by omega) (by first | rfl | omega) (by first | rfl | omega)) hv65) ?_
        have hS0 := hS
        refine se rfl (d_call Tryd.call32 rfl (valueN_c _ _ ((b.take 13).drop 10) n10 hn10 (by rw [List.length_drop, List.length_take]; omega) (byt_drop (byt_take hbb _) _) _ _ hS.imm (hs65.mono hS.ext))) ?_
        rintro _ w_21 ⟨rfl, hE⟩
        replace hS := hS.call hE
        refine ⟨_, _, hS0.le hE.ext (List.Sublist.refl _), hS, ?_⟩
        have hS0 := hS
        refine se rfl (d_call Tryd.call33 rfl (decr1_c _ _ _ n10 (by omega) _ _ hS.imm (hs63.mono hS.ext) (byt_drop (byt_take hbb _) _) (by rw [List.length_drop, List.length_take]; omega))) ?_
        rintro _ w_22 ⟨I_f, a67, c67, ls, e1, rfl, hE, h67, hq1⟩
        replace hS := hS.call hE
        replace h24 := h24.mono hE.ext
        refine ⟨_, _, hS0.le hE.ext (List.Sublist.refl _), hS, ?_⟩
        refine sp rfl (g_move _) ?_
        refine sp rfl (g_extract rfl rfl) ?_
        refine sp rfl (g_extract (v := .int .i64 _) rfl rfl) ?_
        refine sp rfl (g_assign _) ?_
        refine sp rfl (g_assignv (v := .int .i64 _) rfl) ?_
        refine sn (thenN ?_)
        refine wpIn_seq ?_
        refine draw (.cons 0 .pure (.cons 1 .pure (.cons 2 .pure (.cons 3 .pure (.cons 4 .pure (.cons 5 .pure (.cons 6 .pure (.cons 7 .pure (.cons 8 .pure (.cons 9 .pure (.cons 10 .eff (.cons 11 .eff (.cons 12 .pure (.cons 13 .pure (.cons 14 .pure (.cons 15 .pure (.cons 16 .pure .nil))))))))))))))))) mixed (by kernel_rfl) hS ?_
        intro w_23 hS
        refine sp rfl (g_move _) ?_
        refine sp rfl (g_movev (v := .int .i64 _) rfl) ?_
        refine sp rfl (g_add rfl rfl (by omega) (by omega)) ?_
        refine sp rfl (g_movev (v := .int .i64 _) rfl) ?_
        refine sp rfl (g_add rfl rfl (by omega) (by omega)) ?_
        refine sp rfl (g_movev (v := .int .i64 _) rfl) ?_
        refine sp rfl (g_add rfl rfl (by omega) (by omega)) ?_
        refine sp rfl (g_castT (g_slice2N (l0 := 22 + n13) (h0 := 22 + n13 + n19) Tryd.underlying25 Tryd.sizeOf5 rfl rfl rfl (by omega) (by omega) (by omega) (by first | rfl | omega) (by first | rfl | omega)) hv78) ?_
        refine sp rfl (g_move _) ?_
        refine sp rfl (g_castT (g_slice2N (l0 := 16) (h0 := 19) Tryd.underlying25 Tryd.sizeOf5 rfl rfl rfl (by omega) (by omega) (by omega) (by first | rfl | omega) (by first | rfl | omega)) hv80) ?_
        have hS0 := hS
        refine se rfl (d_call Tryd.call32 rfl (valueN_c _ _ ((b.take 19).drop 16) n16 hn16 (by rw [List.length_drop, List.length_take]; omega) (byt_drop (byt_take hbb _) _) _ _ hS.imm (hs80.mono hS.ext))) ?_
        rintro _ w_24 ⟨rfl, hE⟩
        replace hS := hS.call hE
        refine ⟨_, _, hS0.le hE.ext (List.Sublist.refl _), hS, ?_⟩
        have hS0 := hS
        refine se rfl (d_call Tryd.call33 rfl (decr2_c _ _ _ n16 (by omega) _ _ hS.imm (hs78.mono hS.ext) (byt_drop (byt_take hbb _) _) (by rw [List.length_drop, List.length_take]; omega))) ?_
        rintro _ w_25 ⟨I_f, a82, c82, ds, e2, rfl, hE, h82, hq2⟩
        replace hS := hS.call hE
        replace h24 := h24.mono hE.ext
        replace h67 := h67.mono hE.ext
        refine ⟨_, _, hS0.le hE.ext (List.Sublist.refl _), hS, ?_⟩
        refine sp rfl (g_move _) ?_
        refine sp rfl (g_extract rfl rfl) ?_
        refine sp rfl (g_extract (v := .int .i64 _) rfl rfl) ?_
        refine sp rfl (g_assign _) ?_
        refine sp rfl (g_assignv (v := .int .i64 _) rfl) ?_
        refine sn (thenN ?_)
        refine wpIn_seq ?_
        refine wpIn_seq ?_
        refine reg ?_
        refine qq hS (g_movev (v := .int .i64 _) rfl) ?_
        refine qq hS (g_neq rfl rfl) ?_
        refine qq hS (g_movev (v := .bool _) rfl) ?_
        refine qu rfl rfl hS (fun hg => (g_movev (v := .int .i64 _) rfl)) ?_
        intro u88 hu88 hn88
        refine qu rfl rfl hS (fun hg => (g_neq (hu88 hg) rfl)) ?_
        intro u89 hu89 hn89
        refine qq hS (g_or rfl rfl (fun hq => hu89 hq)) ?_
        refine ol_nil (thenN ?_)
        refine cond_s rfl ?_ ?_
        ·
          intro hc90
          clear hu88 hn88 hu89 hn89
          have hno : ∀ q, ¬ IsPk b q := fun q hq => by
            rcases hq1 with ⟨f1, _⟩ | ⟨_, _, f1⟩
            · rcases hq2 with ⟨f2, _⟩ | ⟨_, _, f2⟩
              · subst f1 f2; revert hc90; decide
              · exact f2 _ (hq.f.t2 hn16 hn13 hn19)
            · exact f1 _ (hq.f.t1 hn10 hn13)
          refine wpIn_seq ?_
          refine reg ?_
          refine qq hS (g_buildv (pl := [(0, 1), (1, 1), (2, 1), (3, 1)]) (cs := [.bool _, .int .i64 _, .int .i64 _, .slice _ _ _]) Tryd.zeroValue31 Tryd.underlying31 (fun w => by simp [Tryd.sizeOf29, Tryd.sizeOf3, Tryd.sizeOf4]) mp0 rfl) ?_
          refine qe (d_store 0 hS Tryd.sizeOf31 rfl rfl rfl (vs := [.bool _, .int .i64 _, .int .i64 _, .slice _ _ _]) rfl rfl rfl (Nat.le_of_ble_eq_true rfl) (cs' := [_, _, _, _]) rfl) ?_
          clear hS
          rintro _ w_26 ⟨rfl, hS⟩
          refine qq hS (g_assignv (v := .int .i64 _) rfl) ?_
          refine ol_nil (thenN ?_)
          refine wpIn_ret ?_
          refine thenR ?_
          refine ret2 Tryd.results16 (rv_cel 0 hS Tryd.sizeOf31 Tryd.isAgg31 rfl rfl rfl) (rv_tmp (v := .int .i64 _) rfl) ?_
          first
            | exact .inr ⟨_, rfl, hS.nil, hno⟩
            | exact .inl ⟨⟨decide (y1 = 1), (n2 : Int), (n5 : Int), xs⟩, _, a98, m98, c98, ⟨hwf, hck, heq⟩, rfl, hS.nil, h98⟩
        ·
          intro hc90
          clear hu88 hn88 hu89 hn89
          have he : e1 = 0 ∧ e2 = 0 := by simpa using hc90
          obtain ⟨hl1, hlsu⟩ : TextOf mdl1 adOne ((b.take (22 + n13)).drop 22) n10 ls ∧ ∀ x, TextOf mdl1 adOne ((b.take (22 + n13)).drop 22) n10 x → x = ls := hq1.elim (fun h => h.2) fun h => absurd (h.1.symm.trans he.1) (by decide)
          obtain ⟨hd1, hdsu⟩ : TextOf mdl2 s2z ((b.take (22 + n13 + n19)).drop (22 + n13)) n16 ds ∧ ∀ x, TextOf mdl2 s2z ((b.take (22 + n13 + n19)).drop (22 + n13)) n16 x → x = ds := hq2.elim (fun h => h.2) fun h => absurd (h.1.symm.trans he.2) (by decide)
          have hlsb := hl1.byt
          have hdsb := hd1.byt
          refine wpIn_skip ?_
          refine thenN ?_
          refine wpIn_seq ?_
          refine reg ?_
          refine qq hS (g_move _) ?_
          refine qq hS (g_move _) ?_
          refine qq hS (g_move _) ?_
          refine qq hS (g_castT (g_slice2N (l0 := 8) (h0 := 10) Tryd.underlying25 Tryd.sizeOf5 rfl rfl rfl (by omega) (by omega) (by omega) (by first | rfl | omega) (by first | rfl | omega)) hv96) ?_
          refine qe (d_call Tryd.call32 rfl (valueN_c _ _ ((b.take 10).drop 8) n8 hn8 (by rw [List.length_drop, List.length_take]; omega) (byt_drop (byt_take hbb _) _) _ _ hS.imm (hs96.mono hS.ext))) ?_
          rintro _ w_27 ⟨rfl, hE⟩
          replace hS := hS.callE hE
          refine qe (d_call Tryd.call34 rfl (opsR_c n8 hn65 ls ds hlsb hdsb _ _ _ _ _ _ hS.imm h67 h82)) ?_
          rintro _ w_28 ⟨I_f, a98, m98, c98, ok, xs, rfl, hE, h98, hxw, hxl, hok⟩
          replace hS := hS.callE hE
          replace h24 := h24.mono hE.ext
          replace h67 := h67.mono hE.ext
          replace h82 := h82.mono hE.ext
          refine qq hS (g_move _) ?_
          refine qq hS (g_extract rfl rfl) ?_
          refine qq hS (g_extract (v := .bool _) rfl rfl) ?_
          refine qq hS (g_assign _) ?_
          refine qq hS (g_assignv (v := .bool _) rfl) ?_
          refine ol_nil (thenN ?_)
          refine wpIn_seq ?_
          refine reg ?_
          refine qq hS (g_move _) ?_
          refine qq hS (g_fieldAddr (o' := 3) Tryd.underlying31 rfl Tryd.sizeOf29 rfl rfl rfl) ?_
          refine qe (d_store 1 hS Tryd.sizeOf29 rfl rfl rfl (vs := [.slice _ _ _]) rfl rfl rfl (Nat.le_of_ble_eq_true rfl) (cs' := [_, _, _, _]) rfl) ?_
          clear hS
          rintro _ w_29 ⟨rfl, hS⟩
          refine ol_nil (thenN ?_)
          refine wpIn_seq ?_
          have hwf : (⟨decide (y1 = 1), (n2 : Int), (n5 : Int), xs⟩ : PatL).wf := ⟨⟨by dsimp only; omega, by dsimp only; omega⟩, ⟨by dsimp only; omega, by dsimp only; omega⟩, hxw, by dsimp only; omega⟩
          have hall : ∀ q, IsPk b q → ok = true ∧ q = ⟨decide (y1 = 1), (n2 : Int), (n5 : Int), xs⟩ := fun q hq => by
            have f := hq.f
            have e1 := hlsu _ (f.t1 hn10 hn13)
            have e2 := hdsu _ (f.t2 hn16 hn13 hn19)
            have h8 := f.v8
            rw [hn8] at h8
            have e3 := opsF_right q.ops f.G.ops f.s
            have e4 : q.ops.length = n8 := by omega
            rw [e4, e1, e2] at e3
            rcases hok with ⟨h1, h2⟩ | ⟨h1, h2⟩
            · refine ⟨h1, ?_⟩
              have e5 : q.ops = xs := by rw [e3] at h2; exact Option.some.inj h2
              have h2 := f.v2
              have h5 := f.v5
              have h1 := f.v1
              rw [hn2] at h2
              rw [hn5] at h5
              rw [hy1] at h1
              have e6 := Option.some.inj h1
              rw [e6, lft_bool, h2, h5, ← e5]
            · rw [e3] at h2; cases h2
          have hcase : (ok = true ∧ (checkP ⟨decide (y1 = 1), (n2 : Int), (n5 : Int), xs⟩).2 = 0) ∨ ok = false ∨ (ok = true ∧ (checkP ⟨decide (y1 = 1), (n2 : Int), (n5 : Int), xs⟩).2 ≠ 0) := by
            cases ok with
            | false => exact .inr (.inl rfl)
            | true => exact (Classical.em ((checkP ⟨decide (y1 = 1), (n2 : Int), (n5 : Int), xs⟩).2 = 0)).elim (fun h => .inl ⟨rfl, h⟩) fun h => .inr (.inr ⟨rfl, h⟩)
          refine hcase.elim (fun hA => ?_) fun h => h.elim (fun hB => ?_) (fun hC => ?_)
          ·
            obtain ⟨rfl, hck⟩ := hA
            refine reg ?_
            refine qq hS (g_ldO 1 (vs := [.bool _, .int .i64 _, .int .i64 _, .slice _ _ _]) Tryd.sizeOf31 Tryd.isAgg31 rfl rfl rfl rfl) ?_
            refine qe (d_call Tryd.call12 rfl (packRef_ok_c ⟨decide (y1 = 1), (n2 : Int), (n5 : Int), xs⟩ _ _ _ _ _ hS.imm h98 hwf hck)) ?_
            rintro _ w_30 ⟨I_f, a105, c105, rfl, hE, h105⟩
            replace hS := hS.callE hE
            replace h24 := h24.mono hE.ext
            replace h67 := h67.mono hE.ext
            replace h82 := h82.mono hE.ext
            replace h98 := h98.mono hE.ext
            refine qq hS (g_move _) ?_
            refine qq hS (g_extract rfl rfl) ?_
            refine qq hS (g_extract (v := .int .i64 _) rfl rfl) ?_
            refine qq hS (g_assign _) ?_
            refine qq hS (g_assignv (v := .int .i64 _) rfl) ?_
            refine ol_nil (thenN ?_)
            refine wpIn_seq ?_
            refine wpIn_seq ?_
            refine reg ?_
            refine qq hS (g_movev (v := .bool _) rfl) ?_
            refine qq hS (g_not rfl) ?_
            refine qq hS (g_movev (v := .bool _) rfl) ?_
            refine qqs rfl rfl hS (g_movev (v := .int .i64 _) rfl) ?_
            refine qqs rfl rfl hS (g_neq rfl rfl) ?_
            refine qq hS (g_or rfl rfl (fun _ => rfl)) ?_
            refine qq hS (g_movev (v := .bool _) rfl) ?_
            refine qqs rfl rfl hS (g_move _) ?_
            refine qqs rfl rfl hS (g_move _) ?_
            refine qes rfl rfl (d_call Tryd.call13 rfl (same14_c _ _ (packP ⟨decide (y1 = 1), (n2 : Int), (n5 : Int), xs⟩) b _ _ hS.imm h105 (hb.mono hS.ext))) ?_
            rintro _ w_31 ⟨rfl, hE⟩
            replace hS := hS.callE hE
            refine qqs rfl rfl hS (g_not rfl) ?_
            refine qq hS (g_or rfl rfl (fun _ => rfl)) ?_
            refine ol_nil (thenN ?_)
            refine cond_s rfl ?_ ?_
            ·
              intro hc119
              have hne : ¬ packP ⟨decide (y1 = 1), (n2 : Int), (n5 : Int), xs⟩ = b := by simpa using hc119
              have hno : ∀ q, ¬ IsPk b q := fun q hq => hne (by rw [← (hall q hq).2]; exact hq.pk)
              refine wpIn_seq ?_
              refine reg ?_
              refine qq hS (g_buildv (pl := [(0, 1), (1, 1), (2, 1), (3, 1)]) (cs := [.bool _, .int .i64 _, .int .i64 _, .slice _ _ _]) Tryd.zeroValue31 Tryd.underlying31 (fun w => by simp [Tryd.sizeOf29, Tryd.sizeOf3, Tryd.sizeOf4]) mp0 rfl) ?_
              refine qe (d_store 0 hS Tryd.sizeOf31 rfl rfl rfl (vs := [.bool _, .int .i64 _, .int .i64 _, .slice _ _ _]) rfl rfl rfl (Nat.le_of_ble_eq_true rfl) (cs' := [_, _, _, _]) rfl) ?_
              clear hS
              rintro _ w_32 ⟨rfl, hS⟩
              refine qq hS (g_assignv (v := .int .i64 _) rfl) ?_
              refine ol_nil (thenN ?_)
              refine wpIn_ret ?_
              refine thenR ?_
              refine ret2 Tryd.results16 (rv_cel 0 hS Tryd.sizeOf31 Tryd.isAgg31 rfl rfl rfl) (rv_tmp (v := .int .i64 _) rfl) ?_
              first
                | exact .inr ⟨_, rfl, hS.nil, hno⟩
                | exact .inl ⟨⟨decide (y1 = 1), (n2 : Int), (n5 : Int), xs⟩, _, a98, m98, c98, ⟨hwf, hck, heq⟩, rfl, hS.nil, h98⟩
            ·
              intro hc119
              have heq : packP ⟨decide (y1 = 1), (n2 : Int), (n5 : Int), xs⟩ = b := by simpa using hc119
              refine wpIn_skip ?_
              refine thenN ?_
              refine wpIn_seq ?_
              refine reg ?_
              refine qq hS (g_ldO 1 (vs := [.bool _, .int .i64 _, .int .i64 _, .slice _ _ _]) Tryd.sizeOf31 Tryd.isAgg31 rfl rfl rfl rfl) ?_
              refine qe (d_store 0 hS Tryd.sizeOf31 rfl rfl rfl (vs := [.bool _, .int .i64 _, .int .i64 _, .slice _ _ _]) rfl rfl rfl (Nat.le_of_ble_eq_true rfl) (cs' := [_, _, _, _]) rfl) ?_
              clear hS
              rintro _ w_33 ⟨rfl, hS⟩
              refine qq hS (g_assignv (v := .int .i64 _) rfl) ?_
              refine ol_nil (thenN ?_)
              refine wpIn_ret ?_
              refine ret2 Tryd.results16 (rv_cel 0 hS Tryd.sizeOf31 Tryd.isAgg31 rfl rfl rfl) (rv_tmp (v := .int .i64 _) rfl) ?_
              first
                | exact .inr ⟨_, rfl, hS.nil, hno⟩
                | exact .inl ⟨⟨decide (y1 = 1), (n2 : Int), (n5 : Int), xs⟩, _, a98, m98, c98, ⟨hwf, hck, heq⟩, rfl, hS.nil, h98⟩
          ·
            subst hB
            have hno : ∀ q, ¬ IsPk b q := fun q hq => absurd (hall q hq).1 (by decide)
            refine reg ?_
            refine qq hS (g_ldO 1 (vs := [.bool _, .int .i64 _, .int .i64 _, .slice _ _ _]) Tryd.sizeOf31 Tryd.isAgg31 rfl rfl rfl rfl) ?_
            refine qe (d_call Tryd.call12 rfl (packRef_c ⟨decide (y1 = 1), (n2 : Int), (n5 : Int), xs⟩ _ _ _ _ _ hS.imm h98 hwf)) ?_
            rintro v105 w_34 hpk
            obtain ⟨I_g, va, vm, vc, ve, rfl, hE, hpk⟩ : ∃ (I_g : Imm) (va : Option Addr) (vm vc : Nat) (ve : Int), v105 = .tuple #[.slice va vm vc, .int .i64 ve] ∧ Ext _ _ _ I_g ∧ True := by
              rcases hpk with ⟨_, h1, h2⟩ | ⟨_, I9, a9, c9, h1, h2, _⟩
              · exact ⟨_, none, 0, 0, 60, h1, h2, trivial⟩
              · exact ⟨I9, a9, _, c9, 0, h1, h2, trivial⟩
            replace hS := hS.callE hE
            refine qq hS (g_move _) ?_
            refine qq hS (g_extract rfl rfl) ?_
            refine qq hS (g_extract (v := .int .i64 _) rfl rfl) ?_
            refine qq hS (g_assign _) ?_
            refine qq hS (g_assignv (v := .int .i64 _) rfl) ?_
            refine ol_nil (thenN ?_)
            refine wpIn_seq ?_
            refine wpIn_seq ?_
            refine reg ?_
            refine qq hS (g_movev (v := .bool _) rfl) ?_
            refine qq hS (g_not rfl) ?_
            refine qq hS (g_movev (v := .bool _) rfl) ?_
            refine qsf rfl rfl rfl ?_
            refine qsf rfl rfl rfl ?_
            refine qq hS (g_or (b := false) rfl rfl (fun h => (by cases h))) ?_
            refine qq hS (g_movev (v := .bool _) rfl) ?_
            refine qsf rfl rfl rfl ?_
            refine qsf rfl rfl rfl ?_
            refine qsf rfl rfl rfl ?_
            refine qsf rfl rfl rfl ?_
            refine qq hS (g_or (b := false) rfl rfl (fun h => (by cases h))) ?_
            refine ol_nil (thenN ?_)
            refine cond_t (rfl) ?_
            refine wpIn_seq ?_
            refine reg ?_
            refine qq hS (g_buildv (pl := [(0, 1), (1, 1), (2, 1), (3, 1)]) (cs := [.bool _, .int .i64 _, .int .i64 _, .slice _ _ _]) Tryd.zeroValue31 Tryd.underlying31 (fun w => by simp [Tryd.sizeOf29, Tryd.sizeOf3, Tryd.sizeOf4]) mp0 rfl) ?_
            refine qe (d_store 0 hS Tryd.sizeOf31 rfl rfl rfl (vs := [.bool _, .int .i64 _, .int .i64 _, .slice _ _ _]) rfl rfl rfl (Nat.le_of_ble_eq_true rfl) (cs' := [_, _, _, _]) rfl) ?_
            clear hS
            rintro _ w_35 ⟨rfl, hS⟩
            refine qq hS (g_assignv (v := .int .i64 _) rfl) ?_
            refine ol_nil (thenN ?_)
            refine wpIn_ret ?_
            refine thenR ?_
            refine ret2 Tryd.results16 (rv_cel 0 hS Tryd.sizeOf31 Tryd.isAgg31 rfl rfl rfl) (rv_tmp (v := .int .i64 _) rfl) ?_
            first
              | exact .inr ⟨_, rfl, hS.nil, hno⟩
              | exact .inl ⟨⟨decide (y1 = 1), (n2 : Int), (n5 : Int), xs⟩, _, a98, m98, c98, ⟨hwf, hck, heq⟩, rfl, hS.nil, h98⟩
          ·
            obtain ⟨rfl, hck⟩ := hC
            have hno : ∀ q, ¬ IsPk b q := fun q hq => hck (by rw [← (hall q hq).2]; exact hq.chk)
            refine reg ?_
            refine qq hS (g_ldO 1 (vs := [.bool _, .int .i64 _, .int .i64 _, .slice _ _ _]) Tryd.sizeOf31 Tryd.isAgg31 rfl rfl rfl rfl) ?_
            refine qe (d_call Tryd.call12 rfl (packRef_bad_c ⟨decide (y1 = 1), (n2 : Int), (n5 : Int), xs⟩ _ _ _ _ _ hS.imm h98 hwf hck)) ?_
            rintro _ w_36 ⟨rfl, hE⟩
            replace hS := hS.callE hE
            replace h24 := h24.mono hE.ext
            replace h67 := h67.mono hE.ext
            replace h82 := h82.mono hE.ext
            replace h98 := h98.mono hE.ext
            refine qq hS (g_move _) ?_
            refine qq hS (g_extract rfl rfl) ?_
            refine qq hS (g_extract (v := .int .i64 _) rfl rfl) ?_
            refine qq hS (g_assign _) ?_
            refine qq hS (g_assignv (v := .int .i64 _) rfl) ?_
            refine ol_nil (thenN ?_)
            refine wpIn_seq ?_
            refine wpIn_seq ?_
            refine reg ?_
            refine qq hS (g_movev (v := .bool _) rfl) ?_
            refine qq hS (g_not rfl) ?_
            refine qq hS (g_movev (v := .bool _) rfl) ?_
            refine qqs rfl rfl hS (g_movev (v := .int .i64 _) rfl) ?_
            refine qqs rfl rfl hS (g_neq rfl rfl) ?_
            refine qq hS (g_or rfl rfl (fun _ => rfl)) ?_
            refine qq hS (g_movev (v := .bool _) rfl) ?_
            refine qsf rfl rfl rfl ?_
            refine qsf rfl rfl rfl ?_
            refine qsf rfl rfl rfl ?_
            refine qsf rfl rfl rfl ?_
            refine qq hS (g_or (b := false) rfl rfl (fun h => (by cases h))) ?_
            refine ol_nil (thenN ?_)
            refine cond_t (rfl) ?_
            refine wpIn_seq ?_
            refine reg ?_
            refine qq hS (g_buildv (pl := [(0, 1), (1, 1), (2, 1), (3, 1)]) (cs := [.bool _, .int .i64 _, .int .i64 _, .slice _ _ _]) Tryd.zeroValue31 Tryd.underlying31 (fun w => by simp [Tryd.sizeOf29, Tryd.sizeOf3, Tryd.sizeOf4]) mp0 rfl) ?_
            refine qe (d_store 0 hS Tryd.sizeOf31 rfl rfl rfl (vs := [.bool _, .int .i64 _, .int .i64 _, .slice _ _ _]) rfl rfl rfl (Nat.le_of_ble_eq_true rfl) (cs' := [_, _, _, _]) rfl) ?_
            clear hS
            rintro _ w_37 ⟨rfl, hS⟩
            refine qq hS (g_assignv (v := .int .i64 _) rfl) ?_
            refine ol_nil (thenN ?_)
            refine wpIn_ret ?_
            refine thenR ?_
            refine ret2 Tryd.results16 (rv_cel 0 hS Tryd.sizeOf31 Tryd.isAgg31 rfl rfl rfl) (rv_tmp (v := .int .i64 _) rfl) ?_
            first
              | exact .inr ⟨_, rfl, hS.nil, hno⟩
              | exact .inl ⟨⟨decide (y1 = 1), (n2 : Int), (n5 : Int), xs⟩, _, a98, m98, c98, ⟨hwf, hck, heq⟩, rfl, hS.nil, h98⟩

end Go.Proofs.YtdgnojckkjfhfaaDoor

