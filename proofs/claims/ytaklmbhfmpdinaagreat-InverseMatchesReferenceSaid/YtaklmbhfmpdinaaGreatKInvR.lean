/- Package inverse: Invert for lifted patches: what it computes. Conditions: numbers within bounds. inlayref10: first, Symbols, Input, Invert, Lost, Lifted; inlayref06.Apply of lifted patches: what they compute. Conditions: numbers within bounds. inlayref10.Lifted: what it computes; lifted patches between code as plain Lean. Conditions: numbers within bounds. -/
import Derived.Test.YtaklmbhfmpdinaaGreatInv10
import Derived.Test.YtaklmbhfmpdinaaGreatApplyL
import Derived.Test.YtaklmbhfmpdinaaGreatKRefL
import Derived.Test.YtaklmbhfmpdinaaGreatRefApply
import Derived.Test.YtaklmbhfmpdinaaGreatLost10
import Derived.Test.YtaklmbhfmpdinaaGreatMref
set_option linter.unusedSimpArgs false
set_option linter.unusedVariables false
namespace Go.Proofs.YtaklmbhfmpdinaaGreat
open Tryz
open Go Go.RowKit Go.Inl
def withL (b : Bool) (p : PatL) : PatL := ⟨b, p.in_, p.out, p.ops⟩
def invertLP (old : List Int) (p : PatL) : PatL × Int :=
 if (symbolsP p).2 ≠ 0 then (PatL.zero, (symbolsP p).2) else if (applyLP old p).2 ≠ 0 then (PatL.zero, (applyLP old p).2)
 else (withL (decide ((cheapP (invS (symbolsP p).1 (codeF old)) p.out).2 = 0)) (cheapP (invS (symbolsP p).1 (codeF old)) p.out).1, (cheapP (invS (symbolsP p).1 (codeF old)) p.out).2)
theorem yg {old : List Int} {p : PatL} (h : (applyLP old p).2 = 0) : noCode old = false ∧ ((codeF old).length : Int) = p.in_ := by
 unfold applyLP at h
 split at h
 · split at h
   · cases h
   · rename_i h1
     split at h
     · rename_i h2; exact ⟨by simpa using h1, h2⟩
     · cases h
 · rename_i h1; exact absurd h h1
structure LiftB (old : List Int) (x : LiftL) : Prop where
 w : Wrds x.words
 l : Labs x.labels
 n0 : x.words.length = old.length / 4
 n1 : x.marks.length = old.length / 4
 n2 : x.labels.length ≤ old.length / 4
theorem vi {old : List Int} {x : LiftL} (hob : Byts old) (hnc : noCode old = false) (hxe : liftP (wordsN old (old.length / 4)) = x) : LiftB old x := by
 obtain ⟨hn4, hn5⟩ := jK hnc
 have hwl := qX old (old.length / 4)
 refine ⟨?_, ?_, ?_, ?_, ?_⟩
 · rw [← hxe]; exact liftP_wrds (jU hob _) (by rw [hwl]; omega)
 · rw [← hxe]; intro n hn; have := liftP_labs (ws := wordsN old (old.length / 4)) (by rw [hwl]; omega) n hn; rw [hwl] at this; omega
 · rw [← hxe]; exact (ji _ _ _).trans hwl
 · rw [← hxe]; exact (jj _ _).trans hwl
 · rw [← hxe]; have := jE (wordsN old (old.length / 4)); rw [hwl] at this; exact this
set_option maxHeartbeats 1000000 in
theorem invertL_c (p : PatL) (ad bd : Option Addr) (m cap capb : Nat) (old : List Int) (q : PatL) (e : Int) (w0 : World) (I0 : Imm) (hI : Sat I0 w0) (hops : ROps I0 (.slice ad m cap) p.ops) (hp : p.wf) (hl : p.lifted = true) (ho : RBytes I0 (.slice bd old.length capb) old) (hob : Byts old) (hon : old.length ≤ 4294967296) (he : invertLP old p = (q, e)) :
 Ctr prog 10 [.slice bd old.length capb, .agg #[.bool p.lifted, .int .i64 p.in_, .int .i64 p.out, .slice ad m cap]] w0 (fun v w' => ∃ I' a m c, v = .tuple #[.agg #[.bool q.lifted, .int .i64 q.in_, .int .i64 q.out, .slice a m c], .int .i64 e] ∧ Ext w0 I0 w' I' ∧ ROps I' (.slice a m c) q.ops) := by
 obtain ⟨plf, pin, pout, pops⟩ := p
 dsimp only at *
 subst hl
 have hwA := jO hp
 have hlA := jf (⟨true, pin, pout, pops⟩ : PatL)
 have hlo := RSl.le ho
 simp only [maxLen] at hlo
 unfold invertLP at he
 obtain ⟨A, eA, hA⟩ : ∃ A e, symbolsP (⟨true, pin, pout, pops⟩ : PatL) = (A, e) := ⟨_, _, rfl⟩
 obtain ⟨R, eR, hR⟩ : ∃ R e, applyLP old (⟨true, pin, pout, pops⟩ : PatL) = (R, e) := ⟨_, _, rfl⟩
 rw [hA, hR] at he
 rw [hA] at hwA hlA
 dsimp only at he hwA hlA
 refine fn (n := 99) func10 rfl rfl rfl ?_
 have hS := St.start hI
 refine QwR ?_
 refine qe (d_box (cs := [.bool _, .int .i64 _, .int .i64 _, .slice _ _ _]) hS rfl) ?_
 clear hS
 rintro _ w_1 ⟨b3, rfl, hS⟩
 refine qe (qk (cs := [.bool _, .int .i64 _, .int .i64 _, .slice _ _ _]) hS zeroValue31 rfl) ?_
 clear hS
 rintro _ w_2 ⟨b4, rfl, hS⟩
 refine qq hS (Qai rfl) (QoR ?_)
 refine qq hS (g_ldO 1 (vs := [.bool _, .int .i64 _, .int .i64 _, .slice _ _ _]) sizeOf31 isAgg31 rfl rfl rfl rfl) ?_
 refine qe (qi call25 rfl (ke (⟨true, pin, pout, pops⟩ : PatL) _ _ _ A eA _ _ hS.imm hops hp hA)) ?_
 rintro _ w_3 ⟨I_f, a21, c21, rfl, hE, h21⟩
 replace hS := hS.callE hE
 replace hops := hops.mono hE.ext
 replace ho := ho.mono hE.ext
 refine qq hS (qb _) ?_
 refine qq hS (ql rfl rfl) ?_
 refine qq hS (Qxi rfl rfl) ?_
 refine qq hS (qf _) (qq hS (Qai rfl) (QoN (wpIn_seq (QwR (qq hS (Qmi rfl) ?_)))))
 refine qq hS (g_neq rfl rfl) ?_
 refine QoN ?_
 refine qh rfl ?_ ?_
 ·
  intro hc25
  try simp only [zA, zO, zN, zI, zF, zM, zT, zU] at hc25
  rw [if_pos hc25] at he
  obtain ⟨he1, he2⟩ := Prod.mk.inj he
  subst he1
  subst he2
  refine QwR ?_
  refine qq hS (qm (pl := [(0, 1), (1, 1), (2, 1), (3, 1)]) (cs := [.bool _, .int .i64 _, .int .i64 _, .slice _ _ _]) zeroValue31 underlying31 (fun w => by simp [sizeOf29, sizeOf3, sizeOf4]) mp0 rfl) ?_
  refine qq hS (Qmi rfl) ?_
  refine qe (qg 0 hS sizeOf31 rfl rfl rfl (vs := [.bool _, .int .i64 _, .int .i64 _, .slice _ _ _]) rfl rfl rfl (Nat.le_of_ble_eq_true rfl) (cs' := [_, _, _, _]) rfl) ?_
  clear hS
  rintro _ w_4 ⟨rfl, hS⟩
  refine qq hS (Qai rfl) (QoN (wpIn_ret ?_))
  refine thenR ?_
  refine ret2 results10 (qs 0 hS sizeOf31 isAgg31 rfl rfl rfl) (qd (v := .int .i64 _) rfl) ?_
  exact ⟨_, none, 0, 0, rfl, hS.nil, RSl.nilR⟩
 ·
  intro hc25
  try simp only [zA, zO, zN, zI, zF, zM, zT, zU] at hc25
  rw [if_neg (by simp [hc25])] at he
  refine wpIn_skip (thenN (wpIn_seq (QwR (qq hS (qb _) ?_))))
  refine qq hS (g_ldO 1 (vs := [.bool _, .int .i64 _, .int .i64 _, .slice _ _ _]) sizeOf31 isAgg31 rfl rfl rfl rfl) ?_
  refine qe (qi call17 rfl (applyl_c (⟨true, pin, pout, pops⟩ : PatL) ad bd m cap capb old R eR _ _ hS.imm hops hp rfl ho hob hon hR)) ?_
  rintro _ w_5 ⟨I_f, a31, c31, rfl, hE, h31⟩
  replace hS := hS.callE hE
  replace hops := hops.mono hE.ext
  replace ho := ho.mono hE.ext
  replace h21 := h21.mono hE.ext
  refine qq hS (qb _) ?_
  refine qq hS (ql rfl rfl) ?_
  refine qq hS (Qxi rfl rfl) ?_
  refine qq hS (qf _) (qq hS (Qai rfl) (QoR (qq hS (Qmi rfl) ?_)))
  refine qq hS (g_neq rfl rfl) ?_
  refine QoN ?_
  refine qh rfl ?_ ?_
  ·
   intro hc35
   try simp only [zA, zO, zN, zI, zF, zM, zT, zU] at hc35
   rw [if_pos hc35] at he
   obtain ⟨he1, he2⟩ := Prod.mk.inj he
   subst he1
   subst he2
   refine QwR ?_
   refine qq hS (qm (pl := [(0, 1), (1, 1), (2, 1), (3, 1)]) (cs := [.bool _, .int .i64 _, .int .i64 _, .slice _ _ _]) zeroValue31 underlying31 (fun w => by simp [sizeOf29, sizeOf3, sizeOf4]) mp0 rfl) ?_
   refine qq hS (Qmi rfl) ?_
   refine qe (qg 0 hS sizeOf31 rfl rfl rfl (vs := [.bool _, .int .i64 _, .int .i64 _, .slice _ _ _]) rfl rfl rfl (Nat.le_of_ble_eq_true rfl) (cs' := [_, _, _, _]) rfl) ?_
   clear hS
   rintro _ w_6 ⟨rfl, hS⟩
   refine qq hS (Qai rfl) (QoN (wpIn_ret ?_))
   refine thenR ?_
   refine ret2 results10 (qs 0 hS sizeOf31 isAgg31 rfl rfl rfl) (qd (v := .int .i64 _) rfl) ?_
   exact ⟨_, none, 0, 0, rfl, hS.nil, RSl.nilR⟩
  ·
   intro hc35
   try simp only [zA, zO, zN, zI, zF, zM, zT, zU] at hc35
   have hck : (checkP (⟨true, pin, pout, pops⟩ : PatL)).2 = 0 := (symbolsP_ok' (by rw [hA]; exact hc25)).1
   rw [if_neg (by simp [hc35])] at he
   obtain ⟨hnc, hlen⟩ := yg (old := old) (p := (⟨true, pin, pout, pops⟩ : PatL)) (by rw [hR]; exact hc35)
   have hin4 := (qV hck).2.2.2.1
   dsimp only at hin4 hlen
   obtain ⟨hn4, hn5⟩ := jK hnc
   obtain ⟨x, hxe⟩ : ∃ x, liftP (wordsN old (old.length / 4)) = x := ⟨_, rfl⟩
   have hB := vi hob hnc hxe
   obtain ⟨Z, hcf⟩ : ∃ Z, formP x = Z := ⟨_, rfl⟩
   have hcZ : codeF old = Z := by unfold codeF; rw [hxe, hcf]
   rw [hcZ] at he hlen
   have hZb : ∀ y ∈ Z, 0 ≤ y ∧ y ≤ 255 := by rw [← hcf]; exact jw x
   obtain ⟨qC, eC, hC⟩ : ∃ q e, cheapP (invS A Z) pout = (q, e) := ⟨_, _, rfl⟩
   rw [hC] at he
   obtain ⟨he1, he2⟩ := Prod.mk.inj he
   subst he1
   subst he2
   refine wpIn_skip (thenN (wpIn_seq (QwR ?_)))
   refine qq hS (qa (o' := 0) underlying31 rfl sizeOf4 rfl rfl rfl) ?_
   refine qq hS (qc 1 isAgg4 rfl rfl rfl) ?_
   refine QoN ?_
   refine jc (rfl) ?_
   refine QwR (qq hS (qb _) ?_)
   refine qe (qi call26 rfl (lift_ok bd capb old x _ _ hS.imm ho hob hnc hxe)) ?_
   rintro _ w_7 ⟨I_f, a0, c0, a1, c1, a2, c2, rfl, hE, hx⟩
   replace hS := hS.callE hE
   replace hops := hops.mono hE.ext
   replace ho := ho.mono hE.ext
   replace h21 := h21.mono hE.ext
   replace h31 := h31.mono hE.ext
   refine qq hS (qb _) ?_
   refine qq hS (ql rfl rfl) ?_
   refine qq hS (Qxi rfl rfl) ?_
   refine qe (qk (cs := [.slice _ _ _, .slice _ _ _, .slice _ _ _]) hS zeroValue70 rfl) ?_
   clear hS
   rintro _ w_8 ⟨b10, rfl, hS⟩
   refine qe (qg 0 hS sizeOf70 rfl rfl rfl (vs := [.slice _ _ _, .slice _ _ _, .slice _ _ _]) rfl rfl rfl (Nat.le_of_ble_eq_true rfl) (cs' := [_, _, _]) rfl) ?_
   clear hS
   rintro _ w_9 ⟨rfl, hS⟩
   refine qq hS (Qai rfl) (QoN (reg ?_))
   refine qq hS (g_ldO 0 (vs := [.slice _ _ _, .slice _ _ _, .slice _ _ _]) sizeOf70 isAgg70 rfl rfl rfl rfl) ?_
   refine qe (qi call27 rfl (vB x a0 a1 a2 c0 c1 c2 _ _ hS.imm hx hB.w hB.l (by have := hB.n0; omega) (by have := hB.n1; omega) (by have := hB.n2; omega))) ?_
   rintro _ w_10 ⟨I_f, a46, c46, rfl, hE, h46⟩
   replace hS := hS.callE hE
   replace hops := hops.mono hE.ext
   replace ho := ho.mono hE.ext
   replace h21 := h21.mono hE.ext
   replace h31 := h31.mono hE.ext
   replace hx := hx.mono hE.ext
   rw [hcf] at h46 ⊢
   refine qq hS (qf _) (QoR (qq hS (qb _) ?_))
   refine qe (qi call28 rfl (ve _ _ A _ _ hS.imm h21)) ?_
   rintro _ w_11 ⟨I_f, b48, rfl, hE, h48⟩
   replace hS := hS.callE hE
   replace hops := hops.mono hE.ext
   replace ho := ho.mono hE.ext
   replace h21 := h21.mono hE.ext
   replace h31 := h31.mono hE.ext
   replace hx := hx.mono hE.ext
   replace h46 := h46.mono hE.ext
   refine qq hS (qf _) (QoR (qq hS (qb _) ?_))
   refine qq hS (qo rfl underlying25 h46 rfl) ?_
   refine qe (jB je ⟨false, 0, 0⟩ Z.length hS underlying74 info80 rfl rfl rfl rfl rfl (by omega) rfl) ?_
   clear hS
   rintro _ w_12 ⟨b51, rfl, hS⟩
   refine qq hS (qf _) (QoN (wpIn_seq (QwR (qq hS (qb _) ?_))))
   refine qq hS (qo rfl underlying25 h46 rfl) ?_
   refine qq hS (Qmi rfl) (QoN (wpIn_block ?_))
   refine loop (fun (i : Nat) σ w => okS σ [(3, .pointer (some ⟨b3, 0, none⟩)), (4, .pointer (some ⟨b4, 0, none⟩)), (6, .slice a21 A.length c21), (12, .map (some b48)), (13, .slice (some ⟨b51, 0, none⟩) Z.length Z.length), (52, .slice a46 Z.length c46), (53, .int .i64 Z.length), (54, .int .i64 i)] ∧ ∃ I, St [] w0 I0 I w [.row (.slice (some ⟨b51, 0, none⟩) Z.length Z.length) 80 3 Z.length (flat symC (invUp A Z i)), .cel b4 31 [.bool false, .int .i64 0, .int .i64 0, .slice none 0 0], .cel b3 31 [.bool true, .int .i64 pin, .int .i64 pout, .slice ad m cap]] ∧ i ≤ Z.length ∧ RBytes I (.slice a46 Z.length c46) Z ∧ RSyms I (.slice a21 A.length c21) A ∧ RMap I b48 (keptUp A A.length) ∧ ROps I (.slice ad m cap) pops) (fun i => Z.length - i) (0) ?_ ?_
   ·
    rw [← invUp_0 A Z] at hS
    exact ⟨⟨rfl, rfl, rfl, rfl, rfl, rfl, rfl, rfl, trivial⟩, _, (hS.sel [true, false, true, true]).celRow 0 (xs := flat symC (invUp A Z 0)) (rest := []) (by rw [List.append_nil]; rfl) (by rw [qB je, js]) (Nat.le_refl _) (by simp only [maxLen]; omega) (by rw [List.append_nil, qB je, js]), by omega, h46, h21, h48, hops⟩
   ·
    rintro i σ w_l ⟨hs, I, hS, hi0, h46, h21, h48, hops⟩
    rw [← qj hs]; clear hs
    refine QwR ?_
    refine qq hS (g_lss rfl rfl) ?_
    refine QoN (wpIn_seq ?_)
    refine qh rfl ?_ ?_
    ·
     intro hc55
     try simp only [zA, zO, zN, zI, zF, zM, zT, zU] at hc55
     have hlt : i < Z.length := by omega
     obtain ⟨y, hyi⟩ : ∃ y, Z[i]? = some y := ⟨_, List.getElem?_eq_getElem hlt⟩
     have hyA := h46.at hyi
     have hyb := hZb y (List.mem_of_getElem? hyi)
     have hlN : Z.length = (invUp A Z i).length := (js A Z i).symm
     have hui : (invUp A Z i)[i]? = some ⟨false, 0, 0⟩ := by rw [kL hlt, if_neg (by omega)]
     have hset := invUp_set (l := A) hlt
     have hiv : invAt A Z i = match kept A i with
      | some j => ⟨true, j, Go.IntKind.u8.wrap (-(sAt A j.toNat).b)⟩
      | none => ⟨false, 0, y⟩ := by unfold invAt; rw [List.getD_eq_getElem?_getD, hyi]; rfl
     unfold kept at hiv
     refine wpIn_skip (thenN (wpIn_seq (wpIn_block (QwR (qq hS (Qmi rfl) ?_)))))
     refine qq hS (g_ixI underlying25 sizeOf5 h46 rfl rfl (by omega) (by omega)) ?_
     refine qq hS (qr isAgg5 hyA rfl rfl) ?_
     refine qq hS (Qai rfl) ?_
     refine qq hS (jk (v := .int .u8 _) rfl) ?_
     refine QoR (qq hS (qb _) (qq hS (Qmi rfl) ?_))
     refine qq hS (qO (v := .int .u8 _) rfl) ?_
     refine qq hS (g_ixR 0 underlying74 sizeOf80 rfl rfl rfl (by omega) (by omega)) ?_
     refine qq hS (qG (c' := 2) underlying80 rfl sizeOf5 rfl rfl rfl) ?_
     refine qe (jg 0 je ⟨false, 0, y⟩ hS hlN hui sizeOf5 rfl rfl rfl (vs := [.int .u8 _]) rfl rfl rfl rfl rfl) ?_
     clear hS
     rintro _ w_13 ⟨rfl, hS⟩
     refine QoR (qq hS (qb _) (qq hS (Qmi rfl) ?_))
     refine qq hS (vF underlying77 underlying3 zeroValue3 h48.hold rfl rfl) ?_
     refine qq hS (qb _) ?_
     refine qq hS (Qxi rfl rfl) ?_
     refine qq hS (ql (v := .bool _) rfl rfl) ?_
     refine qq hS (Qai rfl) (qq hS (Qab rfl) (QoR (qq hS (Qmb rfl) (QoN ?_))))
     refine qh rfl ?_ ?_
     ·
      intro hc70
      try simp only [zA, zO, zN, zI, zF, zM, zT, zU] at hc70
      obtain ⟨j, hj⟩ := Option.isSome_iff_exists.1 hc70
      have hjb := zE (l := A) (a := (i : Int)) hj
      rw [hj] at hiv
      dsimp only at hiv
      have hj0 : (lookI (keptUp A A.length) (i : Int)).getD 0 = j := by rw [hj]; rfl
      obtain ⟨sj, hsj⟩ : ∃ s, A[j.toNat]? = some s := ⟨_, List.getElem?_eq_getElem (by omega)⟩
      rw [yE hsj] at hiv
      have hjA : atI I (elA (.slice a21 A.length c21) ((lookI (keptUp A A.length) (i : Int)).getD 0).toNat 3 0) [.bool sj.old, .int .i64 sj.at_, .int .u8 sj.b] := by rw [hj0]; exact h21.at hsj
      have hlN2 : Z.length = ((invUp A Z i).set i ⟨false, 0, y⟩).length := by rw [List.length_set]; exact hlN
      have hui2 : ((invUp A Z i).set i ⟨false, 0, y⟩)[i]? = some ⟨false, 0, y⟩ := by rw [List.getElem?_set, if_pos rfl, if_pos (by omega)]
      have hst : ((invUp A Z i).set i ⟨false, 0, y⟩).set i ⟨true, (lookI (keptUp A A.length) (i : Int)).getD 0, IntKind.u8.wrap (-sj.b)⟩ = invUp A Z (i + 1) := by
       rw [List.set_set, hj0, ← hset, hiv]
      refine reg (qq hS (qb _) (qq hS (Qmi rfl) (qq hS (Qmi rfl) (qq hS (qb _) (qq hS (Qmi rfl) ?_)))))
      refine qq hS (g_ixI underlying74 sizeOf80 h21 rfl rfl (by omega) (by omega)) ?_
      refine qq hS (qG (c' := 2) underlying80 rfl sizeOf5 rfl rfl rfl) ?_
      refine qq hS (qr isAgg5 hjA rfl rfl) ?_
      refine qq hS (g_negw rfl) ?_
      refine qq hS (qm (pl := [(0, 1), (1, 1), (2, 1)]) (cs := [.bool _, .int .i64 _, .int .u8 _]) zeroValue80 underlying80 (fun w => by simp [sizeOf3, sizeOf4, sizeOf5]) (mp (v := .bool _) rfl (mp (v := .int .i64 _) rfl (mp (v := .int .u8 _) rfl mp0))) rfl) ?_
      refine qq hS (g_ixR 0 underlying74 sizeOf80 rfl rfl rfl (by omega) (by omega)) ?_
      refine qe (jg 0 je ⟨true, (lookI (keptUp A A.length) (i : Int)).getD 0, IntKind.u8.wrap (-sj.b)⟩ hS hlN2 hui2 sizeOf80 rfl rfl rfl (vs := [.bool _, .int .i64 _, .int .u8 _]) rfl rfl rfl rfl rfl) ?_
      clear hS
      rintro _ w_14 ⟨rfl, hS⟩
      refine qx (blkN (thenN ?_))
      refine reg ?_
      refine qq hS (g_add rfl rfl (by omega) (by omega)) ?_
      refine qq hS (Qmi rfl) ?_
      first
       | (refine ⟨i + 1, _, rfl, ⟨⟨rfl, rfl, rfl, rfl, rfl, rfl, rfl, rfl, trivial⟩, _, ?_, by omega, h46, h21, h48, hops⟩, by omega⟩
          rw [← hsk]
          exact hS.sel [true, true, true])
       | (refine ⟨i + 1, _, rfl, ⟨⟨rfl, rfl, rfl, rfl, rfl, rfl, rfl, rfl, trivial⟩, _, ?_, by omega, h46, h21, h48, hops⟩, by omega⟩
          rw [← hst]
          exact hS.sel [true, true, true])
     ·
      intro hc70
      try simp only [zA, zO, zN, zI, zF, zM, zT, zU] at hc70
      have hj : lookI (keptUp A A.length) (i : Int) = none := by
       cases h : lookI (keptUp A A.length) (i : Int) with
       | none => rfl
       | some j => rw [h] at hc70; cases hc70
      rw [hj] at hiv
      dsimp only at hiv
      have hsk : (invUp A Z i).set i ⟨false, 0, y⟩ = invUp A Z (i + 1) := by rw [← hset, hiv]
      refine wpIn_skip (blkN (thenN (reg ?_)))
      refine qq hS (g_add rfl rfl (by omega) (by omega)) ?_
      refine qq hS (Qmi rfl) ?_
      first
       | (refine ⟨i + 1, _, rfl, ⟨⟨rfl, rfl, rfl, rfl, rfl, rfl, rfl, rfl, trivial⟩, _, ?_, by omega, h46, h21, h48, hops⟩, by omega⟩
          rw [← hsk]
          exact hS.sel [true, true, true])
       | (refine ⟨i + 1, _, rfl, ⟨⟨rfl, rfl, rfl, rfl, rfl, rfl, rfl, rfl, trivial⟩, _, ?_, by omega, h46, h21, h48, hops⟩, by omega⟩
          rw [← hst]
          exact hS.sel [true, true, true])
    ·
     intro hc55
     try simp only [zA, zO, zN, zI, zF, zM, zT, zU] at hc55
     obtain rfl : i = Z.length := by omega
     rw [invUp_all] at hS
     refine wpIn_exit ?_
     refine thenE (thenE (blkE ?_))
     refine thenN (wpIn_seq ?_)
     have hF := St.freezeRow (u := .slice (some ⟨b51, 0, none⟩) Z.length Z.length) (m := Z.length) (xs := invS A Z) je (by exact hS.ord [0, 1, 2]) ((jz A Z).symm)
     clear hS
     obtain ⟨I_hsy, hS, hI_hsy, hsy⟩ := hF
     replace h46 := h46.mono hI_hsy
     replace h21 := h21.mono hI_hsy
     replace h48 := h48.mono hI_hsy
     replace hops := hops.mono hI_hsy
     refine reg (qq hS (qb _) ?_)
     refine qq hS (qa (o' := 2) underlying31 rfl sizeOf3 rfl rfl rfl) ?_
     refine qq hS (qc 1 isAgg3 rfl rfl rfl) ?_
     refine qe (qi call29 rfl (cheapest_e _ _ _ (invS A Z) pout qC eC _ _ hS.imm hsy (jz A Z).symm (kW (by omega) hZb) hC)) ?_
     rintro _ w_15 ⟨I_f, a87, m87, c87, rfl, hE, h87⟩
     replace hS := hS.callE hE
     replace h46 := h46.mono hE.ext
     replace h21 := h21.mono hE.ext
     replace h48 := h48.mono hE.ext
     replace hops := hops.mono hE.ext
     replace hsy := hsy.mono hE.ext
     refine qq hS (qb _) ?_
     refine qq hS (ql rfl rfl) ?_
     refine qq hS (Qxi rfl rfl) ?_
     refine qe (qk (cs := [.bool _, .int .i64 _, .int .i64 _, .slice _ _ _]) hS zeroValue31 rfl) ?_
     clear hS
     rintro _ w_16 ⟨b18, rfl, hS⟩
     refine qe (qg 0 hS sizeOf31 rfl rfl rfl (vs := [.bool _, .int .i64 _, .int .i64 _, .slice _ _ _]) rfl rfl rfl (Nat.le_of_ble_eq_true rfl) (cs' := [_, _, _, _]) rfl) ?_
     clear hS
     rintro _ w_17 ⟨rfl, hS⟩
     refine qq hS (Qai rfl) (QoR ?_)
     refine qq hS (qa (o' := 0) underlying31 rfl sizeOf4 rfl rfl rfl) ?_
     refine qq hS (qc 2 isAgg4 rfl rfl rfl) ?_
     refine qq hS (Qmb rfl) ?_
     refine qqs rfl rfl hS (Qmi rfl) ?_
     refine qqs rfl rfl hS (g_eql rfl rfl) ?_
     refine qq hS (g_and (b := decide (eC = 0)) rfl rfl (fun _ => rfl)) ?_
     refine qq hS (qa (o' := 0) underlying31 rfl sizeOf4 rfl rfl rfl) ?_
     refine qe (qg 0 hS sizeOf4 rfl rfl rfl (vs := [.bool _]) rfl rfl rfl (Nat.le_of_ble_eq_true rfl) (cs' := [_, _, _, _]) rfl) ?_
     clear hS
     rintro _ w_18 ⟨rfl, hS⟩
     refine QoR ?_
     refine qq hS (g_ldO 0 (vs := [.bool _, .int .i64 _, .int .i64 _, .slice _ _ _]) sizeOf31 isAgg31 rfl rfl rfl rfl) ?_
     refine qq hS (Qmi rfl) ?_
     refine qe (qg 1 hS sizeOf31 rfl rfl rfl (vs := [.bool _, .int .i64 _, .int .i64 _, .slice _ _ _]) rfl rfl rfl (Nat.le_of_ble_eq_true rfl) (cs' := [_, _, _, _]) rfl) ?_
     clear hS
     rintro _ w_19 ⟨rfl, hS⟩
     refine qq hS (Qai rfl) (QoN (wpIn_ret ?_))
     refine ret2 results10 (qs 1 hS sizeOf31 isAgg31 rfl rfl rfl) (qd (v := .int .i64 _) rfl) ?_
     exact ⟨_, a87, m87, c87, rfl, hS.nil, h87⟩
end Go.Proofs.YtaklmbhfmpdinaaGreat
namespace Go.Proofs.YtaklmbhfmpdinaaGreat
open Tryz
open Go Go.RowKit Go.Inl
def applyA (old : List Int) (p : PatL) : List Int × Int := if p.lifted = true then applyLP old p else applyP old p
def codeOr (old : List Int) (p : PatL) : List Int := if p.lifted = true then codeF old else old
def invertA (old : List Int) (p : PatL) : PatL × Int :=
 if (symbolsP p).2 ≠ 0 then (PatL.zero, 60) else if (applyA old p).2 ≠ 0 then (PatL.zero, (applyA old p).2)
 else (withL (p.lifted && decide ((cheapP (invS (symbolsP p).1 (codeOr old p)) p.out).2 = 0)) (cheapP (invS (symbolsP p).1 (codeOr old p)) p.out).1, (cheapP (invS (symbolsP p).1 (codeOr old p)) p.out).2)
theorem checkGo_e6 (n : Int) : ∀ (l : List OpL) (left i : Int), (checkGo n l left i).2 = 0 ∨ (checkGo n l left i).2 = 60
 | [], left, i => by unfold checkGo; split <;> simp
 | x :: r, left, i => by
   unfold checkGo
   split
   · right; rfl
   · exact checkGo_e6 n r _ _
theorem checkP_e6 (p : PatL) : (checkP p).2 = 0 ∨ (checkP p).2 = 60 := by
 unfold checkP
 split
 · right; rfl
 · exact checkGo_e6 _ _ _ _
theorem zf {p : PatL} (h : (symbolsP p).2 ≠ 0) : (symbolsP p).2 = 60 := by
 unfold symbolsP at h ⊢
 split at h
 · exact absurd rfl h
 · rename_i h2; rw [if_neg h2]; exact (checkP_e6 p).resolve_left h2
theorem withL_f (q : PatL) (h : q.lifted = false) : withL false q = q := by cases q; cases h; rfl
theorem cheapP_bad {l : List Sym} {n : Int} (h : (cheapP l n).2 ≠ 0) : (cheapP l n).1 = PatL.zero := by
 unfold cheapP at h ⊢
 split
 · rfl
 · split
   · rfl
   · rename_i h1 h2; rw [if_neg h1, if_neg h2] at h; exact absurd rfl h
theorem invertA_t {old : List Int} {p : PatL} (h : p.lifted = true) : invertA old p = invertLP old p := by
 unfold invertA invertLP applyA codeOr
 rw [h, if_pos rfl, if_pos rfl, Bool.true_and]
 by_cases g : (symbolsP p).2 ≠ 0
 · rw [if_pos g, if_pos g, zf g]
 · rw [if_neg g, if_neg g]
theorem invertA_f {old : List Int} {p : PatL} (h : p.lifted = false) : invertA old p = invertP old p := by
 unfold invertA invertP applyA codeOr
 simp only [h, Bool.false_eq_true, if_false, Bool.false_and]
 rw [withL_f _ (cheap_lif _ _)]
 by_cases g : (symbolsP p).2 ≠ 0
 · rw [if_pos g, if_pos g, zf g]
 · rw [if_neg g, if_neg g]
theorem kept_found {l : List Sym} {k : Nat} {a : Int} (hk : k < l.length) (h : hasAt l k a) (hb : ∀ i, i < k → ¬ hasAt l i a) : kept l a = some (k : Int) := by
 obtain ⟨h1, h2⟩ := zD l l.length a
 unfold kept
 cases e : lookI (keptUp l l.length) a with
 | none => exact absurd h (h1 e k hk)
 | some j =>
   obtain ⟨i, rfl, h3, h4, h5⟩ := h2 j e
   rcases Nat.lt_trichotomy i k with g | g | g
   · exact absurd h4 (hb i g)
   · rw [g]
   · exact absurd h (h5 k g)
theorem kept_no {l : List Sym} {a : Int} (hb : ∀ i, i < l.length → ¬ hasAt l i a) : kept l a = none := by
 obtain ⟨h1, h2⟩ := zD l l.length a
 unfold kept
 cases e : lookI (keptUp l l.length) a with
 | none => rfl
 | some j =>
   obtain ⟨i, rfl, h3, h4, h5⟩ := h2 j e
   exact absurd h4 (hb i h3)
theorem not_step {l : List Sym} {k : Nat} {a : Int} (hb : ∀ i, i < k → ¬ hasAt l i a) (h : ¬ hasAt l k a) : ∀ i, i < k + 1 → ¬ hasAt l i a := fun i hi => by
 rcases Nat.lt_succ_iff_lt_or_eq.1 hi with g | g
 · exact hb i g
 · subst g; exact h
def lifN (x y : List Int) (n : Nat) : PatL := ⟨true, x.length, y.length, (if 0 < n then [⟨1, 0, n, 0, []⟩] else []) ++ (if n < y.length then [⟨4, 0, (y.length : Int) - n, 0, y.drop n⟩] else [])⟩
theorem yt (ad : Option Addr) (cap : Nat) (b : List Int) (x : LiftL) (w0 : World) (I0 : Imm) (hI : Sat I0 w0) (hl : RBytes I0 (.slice ad b.length cap) b) (hb : Byts b) (h : noCode b = false) (hx : liftP (wordsN b (b.length / 4)) = x) :
 Ctr prog 23 [.slice ad b.length cap] w0 (fun v w' => ∃ I' a0 c0 a1 c1 a2 c2, v = .tuple #[.agg #[.slice a0 x.words.length c0, .slice a1 x.marks.length c1, .slice a2 x.labels.length c2], .int .i64 0] ∧ Ext w0 I0 w' I' ∧ RLf I' a0 c0 a1 c1 a2 c2 x) := by
 obtain ⟨h1, h2⟩ := jK h
 refine (liftR_c ad cap (b.length / 4) b w0 I0 hI hl hb h1 h2).mono ?_
 rintro v w' ⟨I', a0, c0, a1, c1, a2, c2, hv, hE, g1, g2, g3⟩
 have e1 : x.words.length = b.length / 4 := by rw [← hx]; exact (ji _ _ _).trans (qX _ _)
 have e2 : x.marks.length = b.length / 4 := by rw [← hx]; exact (jj _ _).trans (qX _ _)
 have e3 : x.labels.length = (labelsP (wordsN b (b.length / 4))).length := by rw [← hx]; rfl
 refine ⟨I', a0, c0, a1, c1, a2, c2, by rw [e1, e2, e3]; exact hv, hE, ?_, ?_, ?_⟩
 · rw [e1, ← hx]; exact g1
 · rw [e2, ← hx]; exact g2
 · rw [e3, ← hx]; exact g3
theorem zS (p : PatL) (ad : Option Addr) (m cap : Nat) (A : List Sym) (e : Int) (w0 : World) (I0 : Imm) (hI : Sat I0 w0) (hops : ROps I0 (.slice ad m cap) p.ops) (hp : p.wf) (he : symbolsP p = (A, e)) :
 Ctr prog 30 [.agg #[.bool p.lifted, .int .i64 p.in_, .int .i64 p.out, .slice ad m cap]] w0 (fun v w' => ∃ I' a c, v = .tuple #[.slice a A.length c, .int .i64 e] ∧ Ext w0 I0 w' I' ∧ RSyms I' (.slice a A.length c) A) :=
 symbolsR_e p ad m cap (A, e) w0 I0 hI hops hp he
theorem firstR_c (ad : Option Addr) (cap : Nat) (l : List Sym) (a : Int) (w0 : World) (I0 : Imm) (hI : Sat I0 w0) (hl : RSyms I0 (.slice ad l.length cap) l) :
 Ctr prog 36 [.slice ad l.length cap, .int .i64 a] w0 (fun v w' => v = .int .i64 ((kept l a).getD (-1)) ∧ Ext w0 I0 w' I0) := by
 have hle := RSl.le hl
 simp only [maxLen] at hle
 refine fn (n := 27) func36 rfl rfl rfl ?_
 have hS := St.start hI
 refine QwR (qq hS (Qai rfl) (QoN (wpIn_seq (QwR (qq hS (Qai rfl) ?_)))))
 refine QoN (wpIn_block ?_)
 refine loop (fun (k : Nat) σ w => okS σ [(0, .slice ad l.length cap), (1, .int .i64 a), (5, .int .i64 k)] ∧ St [] w0 I0 I0 w [] ∧ k ≤ l.length ∧ ∀ i, i < k → ¬ hasAt l i a) (fun k => l.length - k) (0) ?_ ?_
 ·
  exact ⟨⟨rfl, rfl, rfl, trivial⟩, hS.sel [], by omega, fun i hi => by omega⟩
 ·
  rintro k σ w_l ⟨hs, hS, hk, hno⟩
  rw [← qj hs]; clear hs
  refine wpIn_seq (QwR (qq hS (Qmi rfl) (qq hS (qb _) ?_)))
  refine qq hS (qo rfl underlying74 hl rfl) ?_
  refine qq hS (g_lss rfl rfl) ?_
  refine QoN ?_
  refine qh rfl ?_ ?_
  ·
   intro hc9
   try simp only [zA, zO, zN, zI, zF, zM, zT, zU] at hc9
   obtain ⟨s, hsi⟩ : ∃ s, l[k]? = some s := ⟨_, List.getElem?_eq_getElem (by omega)⟩
   have hsA := hl.at hsi
   refine wpIn_skip (thenN (wpIn_seq (wpIn_block (QwR (qq hS (qb _) ?_)))))
   refine qq hS (Qmi rfl) ?_
   refine qq hS (g_ixI underlying74 sizeOf80 hl rfl rfl (by omega) (by omega)) ?_
   refine qq hS (qG (c' := 0) underlying80 rfl sizeOf4 rfl rfl rfl) ?_
   refine qq hS (qr isAgg4 hsA rfl rfl) ?_
   refine qq hS (Qmb rfl) ?_
   refine qu rfl rfl hS (fun hg => (qb _)) ?_
   intro u18 hu18 hn18
   refine qu rfl rfl hS (fun hg => (Qmi rfl)) ?_
   intro u19 hu19 hn19
   refine qu rfl rfl hS (fun hg => (g_ixI underlying74 sizeOf80 hl (hu18 hg) (hu19 hg) (by omega) (by omega))) ?_
   intro u20 hu20 hn20
   refine qu rfl rfl hS (fun hg => (qG (c' := 1) underlying80 rfl sizeOf3 rfl (hu20 hg) rfl)) ?_
   intro u21 hu21 hn21
   refine qu rfl rfl hS (fun hg => (qr isAgg3 hsA (hu21 hg) rfl)) ?_
   intro u22 hu22 hn22
   refine qu rfl rfl hS (fun hg => (Qmi rfl)) ?_
   intro u23 hu23 hn23
   refine qu rfl rfl hS (fun hg => (g_eql (hu22 hg) (hu23 hg))) ?_
   intro u24 hu24 hn24
   refine qq hS (g_and rfl rfl (fun hq => hu24 hq)) ?_
   refine QoN ?_
   refine qh rfl ?_ ?_
   ·
    intro hc25
    clear hu18 hn18 hu19 hn19 hu20 hn20 hu21 hn21 hu22 hn22 hu23 hn23 hu24 hn24
    have hh : hasAt l k a := by unfold hasAt; rw [yE hsi]; simpa using hc25
    have hq : (k : Int) = (kept l a).getD (-1) := by rw [kept_found (by omega) hh hno]; rfl
    refine QwR (qq hS (Qmi rfl) (qq hS (Qai rfl) (QoN (wpIn_ret ?_))))
    refine blkR (thenR (thenR (blkR (thenR ?_))))
    refine ret1 results36 (qd (v := .int .i64 _) rfl) ?_
    exact ⟨by rw [← hq] <;> rfl, hS.nil⟩
   ·
    intro hc25
    clear hu18 hn18 hu19 hn19 hu20 hn20 hu21 hn21 hu22 hn22 hu23 hn23 hu24 hn24
    have hno2 := not_step hno (by unfold hasAt; rw [yE hsi]; simpa using hc25)
    refine wpIn_skip (blkN (thenN (reg (qq hS (Qmi rfl) ?_))))
    refine qq hS (g_add rfl rfl (by omega) (by omega)) ?_
    refine qq hS (Qai rfl) ?_
    exact ⟨k + 1, _, rfl, ⟨⟨rfl, rfl, rfl, trivial⟩, hS.sel [], by omega, hno2⟩, by omega⟩
  ·
   intro hc9
   try simp only [zA, zO, zN, zI, zF, zM, zT, zU] at hc9
   have hkn : k = l.length := by omega
   subst hkn
   have hq : (-1 : Int) = (kept l a).getD (-1) := by rw [kept_no hno]; rfl
   refine wpIn_exit ?_
   refine thenE (thenE (blkE ?_))
   refine thenN (QwR (qq hS (Qai rfl) (QoN (wpIn_ret ?_))))
   refine ret1 results36 (qd (v := .int .i64 _) rfl) ?_
   exact ⟨by rw [← hq] <;> rfl, hS.nil⟩
set_option maxHeartbeats 1000000 in
theorem zR (bd ad : Option Addr) (capb cap : Nat) (old : List Int) (l : List Sym) (w0 : World) (I0 : Imm) (hI : Sat I0 w0) (ho : RBytes I0 (.slice bd old.length capb) old) (hob : Byts old) (hl : RSyms I0 (.slice ad l.length cap) l) (hon : old.length ≤ 1073741824) :
 Ctr prog 33 [.slice bd old.length capb, .slice ad l.length cap] w0 (fun v w' => ∃ I' a c, v = .slice a old.length c ∧ Ext w0 I0 w' I' ∧ RSyms I' (.slice a old.length c) (invS l old)) := by
 have hle := RSl.le ho
 simp only [maxLen] at hle
 refine fn (n := 39) func33 rfl rfl rfl ?_
 have hS := St.start hI
 refine QwR (qq hS (qf _) (QoR ?_))
 refine qe (qI hS underlying74 sizeOf80) ?_
 clear hS
 rintro _ w_1 ⟨hS, b9_, rfl⟩
 refine qq hS (qf _) (QoN (wpIn_seq (QwR (qq hS (Qai rfl) (QoN ?_)))))
 refine wpIn_block ?_
 refine loop (fun (x : BtW) σ w => okS σ [(0, .slice bd old.length capb), (1, .slice ad l.length cap), (5, .slice x.a x.k x.c), (6, .int .i64 x.k)] ∧ St [] w0 I0 I0 w [.row (.slice x.a x.k x.c) 80 3 x.k (flat symC ((invS l old).take x.k))] ∧ x.k ≤ old.length) (fun x => old.length - x.k) (⟨0, some ⟨b9_, 0, none⟩, 0⟩) ?_ ?_
 ·
  exact ⟨⟨rfl, rfl, rfl, rfl, trivial⟩, hS.sel [true], by dsimp only; omega⟩
 ·
  rintro ⟨k, a, c⟩ σ w_l ⟨hs, hS, hk⟩
  dsimp only at hs hS hk ⊢
  rw [← qj hs]; clear hs
  refine wpIn_seq (QwR (qq hS (Qmi rfl) (qq hS (qb _) ?_)))
  refine qq hS (qo rfl underlying25 ho rfl) ?_
  refine qq hS (g_lss rfl rfl) ?_
  refine QoN ?_
  refine qh rfl ?_ ?_
  ·
   intro hc13
   try simp only [zA, zO, zN, zI, zF, zM, zT, zU] at hc13
   obtain ⟨y, hyi⟩ : ∃ y, old[k]? = some y := ⟨_, List.getElem?_eq_getElem (by omega)⟩
   have hyA := ho.at hyi
   have hkl : k < old.length := by omega
   have hiv : invAt l old k = match kept l k with
    | some j => ⟨true, j, Go.IntKind.u8.wrap (-(sAt l j.toNat).b)⟩
    | none => ⟨false, 0, y⟩ := by unfold invAt; rw [List.getD_eq_getElem?_getD, hyi]; rfl
   refine wpIn_skip (thenN (wpIn_seq (wpIn_block (QwR (qq hS (qb _) ?_)))))
   refine qq hS (Qmi rfl) ?_
   refine qe (qi call36 rfl (firstR_c ad cap l (k : Int) _ I0 hS.imm hl)) ?_
   rintro _ w_2 ⟨rfl, hE⟩
   replace hS := hS.callE hE
   refine qq hS (Qai rfl) (QoR (qq hS (qb _) (qq hS (Qmi rfl) ?_)))
   refine qq hS (g_ixI underlying25 sizeOf5 ho rfl rfl (by omega) (by omega)) ?_
   refine qq hS (qr isAgg5 hyA rfl rfl) ?_
   refine qq hS (qm (pl := [(0, 1), (1, 1), (2, 1)]) (cs := [.bool _, .int .i64 _, .int .u8 _]) zeroValue80 underlying80 (fun w => by simp [sizeOf3, sizeOf4, sizeOf5]) (mp (v := .int .u8 _) rfl mp0) rfl) ?_
   refine qe (qk (cs := [.bool _, .int .i64 _, .int .u8 _]) hS zeroValue80 rfl) ?_
   clear hS
   rintro _ w_3 ⟨b8, rfl, hS⟩
   refine qe (qg 0 hS sizeOf80 rfl rfl rfl (vs := [.bool _, .int .i64 _, .int .u8 _]) rfl rfl rfl (Nat.le_of_ble_eq_true rfl) (cs' := [_, _, _]) rfl) ?_
   clear hS
   rintro _ w_4 ⟨rfl, hS⟩
   refine QoN ?_
   refine meet (fun σ w => okS σ [(0, .slice bd old.length capb), (1, .slice ad l.length cap), (5, .slice a k c), (6, .int .i64 k), (8, .pointer (some ⟨b8, 0, none⟩))] ∧ St [] w0 I0 I0 w [.cel b8 80 (symC (invAt l old k)), .row (.slice a k c) 80 3 k (flat symC ((invS l old).take k))]) ?_ ?_
   ·
    refine QwR (qq hS (Qmi rfl) ?_)
    refine qq hS (g_geq rfl rfl) ?_
    refine QoN ?_
    refine qh rfl ?_ ?_
    ·
     intro hc25
     try simp only [zA, zO, zN, zI, zF, zM, zT, zU] at hc25
     obtain ⟨j, hj⟩ : ∃ j, kept l (k : Int) = some j := by
      cases h : kept l (k : Int) with
      | none => rw [h] at hc25; simp at hc25
      | some j => exact ⟨j, rfl⟩
     have hjb := zE hj
     have hjg : (kept l (k : Int)).getD (-1) = j := by rw [hj]; rfl
     rw [hj] at hiv
     dsimp only at hiv
     obtain ⟨sj, hsj⟩ : ∃ s, l[j.toNat]? = some s := ⟨_, List.getElem?_eq_getElem (by omega)⟩
     rw [yE hsj] at hiv
     have hjA : atI I0 (elA (.slice ad l.length cap) ((kept l (k : Int)).getD (-1)).toNat 3 0) [.bool sj.old, .int .i64 sj.at_, .int .u8 sj.b] := by rw [hjg]; exact hl.at hsj
     have hsy : symC ⟨true, (kept l (k : Int)).getD (-1), IntKind.u8.wrap (-sj.b)⟩ = symC (invAt l old k) := by rw [hiv, hjg]
     refine reg (qq hS (Qmi rfl) (qq hS (qb _) (qq hS (Qmi rfl) ?_)))
     refine qq hS (g_ixI underlying74 sizeOf80 hl rfl rfl (by omega) (by omega)) ?_
     refine qq hS (qG (c' := 2) underlying80 rfl sizeOf5 rfl rfl rfl) ?_
     refine qq hS (qr isAgg5 hjA rfl rfl) ?_
     refine qq hS (g_subK (c := IntKind.u8.wrap (-sj.b)) rfl rfl (by rw [Int.zero_sub])) ?_
     refine qq hS (qm (pl := [(0, 1), (1, 1), (2, 1)]) (cs := [.bool _, .int .i64 _, .int .u8 _]) zeroValue80 underlying80 (fun w => by simp [sizeOf3, sizeOf4, sizeOf5]) (mp (v := .bool _) rfl (mp (v := .int .i64 _) rfl (mp (v := .int .u8 _) rfl mp0))) rfl) ?_
     refine qe (qg 0 hS sizeOf80 rfl rfl rfl (vs := [.bool _, .int .i64 _, .int .u8 _]) rfl rfl rfl (Nat.le_of_ble_eq_true rfl) (cs' := [_, _, _]) rfl) ?_
     clear hS
     rintro _ w_5 ⟨rfl, hS⟩
     refine QoN ?_
     exact ⟨_, rfl, ⟨rfl, rfl, rfl, rfl, rfl, trivial⟩, by rw [← hsy]; exact hS.sel [true, true]⟩
    ·
     intro hc25
     try simp only [zA, zO, zN, zI, zF, zM, zT, zU] at hc25
     have hj : kept l (k : Int) = none := by
      cases h : kept l (k : Int) with
      | none => rfl
      | some j => have := zE h; rw [h] at hc25; simp at hc25; omega
     rw [hj] at hiv
     dsimp only at hiv
     have hsy : symC ⟨false, 0, y⟩ = symC (invAt l old k) := by rw [hiv]
     refine wpIn_skip (thenN ?_)
     exact ⟨_, rfl, ⟨rfl, rfl, rfl, rfl, rfl, trivial⟩, by rw [← hsy]; exact hS.sel [true, true]⟩
   ·
    rintro σ w_j ⟨hs, hS⟩
    rw [← qj hs]
    refine reg (qq hS (qb _) ?_)
    refine qq hS (g_ldO 0 (vs := [.bool _, .int .i64 _, .int .u8 _]) sizeOf80 isAgg80 rfl rfl rfl rfl) ?_
    refine qe (d_lit (vs := [.agg #[.bool _, .int .i64 _, .int .u8 _]]) (cs := [.bool _, .int .i64 _, .int .u8 _]) hS underlying74 sizeOf80 zeroValue80 rfl rfl rfl rfl (fun v hv => by simp only [List.mem_cons, List.not_mem_nil, or_false] at hv; subst hv; rfl) rfl) ?_
    clear hS
    rintro _ w_6 ⟨b36, rfl, hS⟩
    refine qe (qt 2 0 hS rfl underlying74 info80 rfl rfl rfl rfl rfl rfl rfl rfl (by omega) (by omega)) ?_
    clear hS
    rintro _ w_7 ⟨a37, p37, rfl, hS⟩
    refine qq hS (qf _) ?_
    refine qx (blkN (thenN ?_))
    refine reg (qq hS (Qmi rfl) ?_)
    refine qq hS (g_add rfl rfl (by omega) (by omega)) ?_
    refine qq hS (Qai rfl) ?_
    refine ⟨⟨k + 1, a37, p37⟩, _, rfl, ⟨⟨rfl, rfl, rfl, rfl, trivial⟩, ?_, by dsimp only; omega⟩, by dsimp only; omega⟩
    dsimp only
    rw [qL (invS_at hkl), qp, qA]
    exact hS.sel [false, false, true]
  ·
   intro hc13
   try simp only [zA, zO, zN, zI, zF, zM, zT, zU] at hc13
   have hkn : k = old.length := by omega
   subst hkn
   refine wpIn_exit ?_
   refine thenE (thenE (blkE ?_))
   refine thenN (QwR (qq hS (qb _) (qq hS (qf _) (QoN (wpIn_ret ?_)))))
   refine ret1 results33 (qd rfl) ?_
   rw [List.take_of_length_le (by rw [jz]; exact Nat.le_refl _)] at hS
   obtain ⟨I1, hE1, hI1, hd1⟩ := qE je (xs := invS l old) (hS.sel [true]) (jz l old).symm
   exact ⟨I1, a, c, rfl, hE1, hd1⟩
theorem liftR_no (ad : Option Addr) (cap : Nat) (b : List Int) (w0 : World) (I0 : Imm) (hI : Sat I0 w0) (hl : RBytes I0 (.slice ad b.length cap) b) (h : noCode b = true) :
 Ctr prog 23 [.slice ad b.length cap] w0 (fun v w' => v = .tuple #[.agg #[.slice none 0 0, .slice none 0 0, .slice none 0 0], .int .i64 30] ∧ Ext w0 I0 w' I0) := by
 refine fn (n := 90) func23 rfl rfl rfl ?_
 have hS := St.start hI
 refine QwR ?_
 refine qe (qk (cs := [.slice _ _ _, .slice _ _ _, .slice _ _ _]) hS zeroValue70 rfl) ?_
 clear hS
 rintro _ w_1 ⟨b2, rfl, hS⟩
 refine qq hS (Qai rfl) (QoN (wpIn_seq (QwR (qq hS (qb _) ?_))))
 refine qe (qi call45 rfl (isCode_c ad cap b _ _ hS.imm hl)) ?_
 rintro _ w_2 ⟨rfl, hE⟩
 replace hS := hS.callE hE
 refine qq hS (g_toV (g_not rfl) (congrArg Value.bool (show (!!noCode b) = true by rw [h]; rfl))) ?_
 refine QoN ?_
 refine jc (rfl) ?_
 refine QwR ?_
 refine qq hS (qm (pl := [(0, 1), (1, 1), (2, 1)]) (cs := [.slice _ _ _, .slice _ _ _, .slice _ _ _]) zeroValue70 underlying70 (fun w => by simp [sizeOf57, sizeOf67, sizeOf68]) mp0 rfl) ?_
 refine qe (qg 0 hS sizeOf70 rfl rfl rfl (vs := [.slice _ _ _, .slice _ _ _, .slice _ _ _]) rfl rfl rfl (Nat.le_of_ble_eq_true rfl) (cs' := [_, _, _]) rfl) ?_
 clear hS
 rintro _ w_3 ⟨rfl, hS⟩
 refine qq hS (Qai rfl) (QoN (wpIn_ret ?_))
 refine thenR ?_
 refine ret2 results23 (qs 0 hS sizeOf70 isAgg70 rfl rfl rfl) (qd (v := .int .i64 _) rfl) ?_
 exact ⟨rfl, hS.nil⟩
set_option maxHeartbeats 2000000 in
theorem refApplyL_c (p : PatL) (ad bd : Option Addr) (m cap capb : Nat) (old R : List Int) (e : Int) (w0 : World) (I0 : Imm) (hI : Sat I0 w0) (hops : ROps I0 (.slice ad m cap) p.ops) (hp : p.wf) (hl : p.lifted = true) (hk : (checkP p).2 = 0) (ho : RBytes I0 (.slice bd old.length capb) old) (hob : Byts old) (hR : applyLP old p = (R, e)) :
 Ctr prog 31 [.slice bd old.length capb, .agg #[.bool p.lifted, .int .i64 p.in_, .int .i64 p.out, .slice ad m cap]] w0 (fun v w' => ∃ I' a c, v = .tuple #[.slice a R.length c, .int .i64 e] ∧ Ext w0 I0 w' I' ∧ RBytes I' (.slice a R.length c) R) := by
 have hA := jD hk
 have hwA := jO hp
 rw [hA] at hwA
 dsimp only at hwA
 obtain ⟨k1, k2, k3, k4, k5, k6, k7⟩ := qV hk
 have hlo := RSl.le ho
 simp only [maxLen] at hlo
 unfold applyLP at hR
 rw [hA, if_pos rfl] at hR
 dsimp only at hR
 refine fn (n := 61) func31 rfl rfl rfl ?_
 have hS := St.start hI
 refine QwR ?_
 refine qe (d_box (cs := [.bool _, .int .i64 _, .int .i64 _, .slice _ _ _]) hS rfl) ?_
 clear hS
 rintro _ w_1 ⟨b3, rfl, hS⟩
 refine qq hS (qf _) (qq hS (Qai rfl) (QoR ?_))
 refine qq hS (g_ldO 0 (vs := [.bool _, .int .i64 _, .int .i64 _, .slice _ _ _]) sizeOf31 isAgg31 rfl rfl rfl rfl) ?_
 refine qe (qi call30 rfl (zS p ad m cap (symsOf p.ops) 0 _ _ hS.imm hops hp hA)) ?_
 rintro _ w_2 ⟨I_f, a17, c17, rfl, hE, h17⟩
 replace hS := hS.callE hE
 replace hops := hops.mono hE.ext
 replace ho := ho.mono hE.ext
 refine qq hS (qb _) ?_
 refine qq hS (ql rfl rfl) ?_
 refine qq hS (Qxi rfl rfl) ?_
 refine qq hS (qf _) (qq hS (Qai rfl) (QoN (wpIn_seq (QwR (qq hS (Qmi rfl) ?_)))))
 refine qq hS (g_neq rfl rfl) ?_
 refine QoN ?_
 refine jb (rfl) ?_
 refine wpIn_skip (thenN (QwR (qq hS (qb _) (qq hS (qf _) (QoN ?_)))))
 refine wpIn_seq (QwR ?_)
 refine qq hS (qa (o' := 0) underlying31 rfl sizeOf4 rfl rfl rfl) ?_
 refine qq hS (qc 0 isAgg4 rfl rfl rfl) ?_
 refine QoN ?_
 refine jc (congrArg Value.bool hl) ?_
 refine wpIn_seq ?_
 have hnc : noCode old = true ∨ noCode old = false := by cases noCode old <;> simp
 refine hnc.elim (fun hnc => ?_) (fun hnc => ?_)
 ·
  rw [if_pos hnc] at hR
  obtain ⟨rfl, rfl⟩ := Prod.mk.inj hR
  refine reg (qq hS (qb _) ?_)
  refine qe (qi call23 rfl (liftR_no bd capb old _ _ hS.imm ho hnc)) ?_
  rintro _ w_3 ⟨rfl, hE⟩
  replace hS := hS.callE hE
  refine qq hS (qb _) ?_
  refine qq hS (ql rfl rfl) ?_
  refine qq hS (Qxi rfl rfl) ?_
  refine qe (qk (cs := [.slice _ _ _, .slice _ _ _, .slice _ _ _]) hS zeroValue70 rfl) ?_
  clear hS
  rintro _ w_4 ⟨b9, rfl, hS⟩
  refine qe (qg 0 hS sizeOf70 rfl rfl rfl (vs := [.slice _ _ _, .slice _ _ _, .slice _ _ _]) rfl rfl rfl (Nat.le_of_ble_eq_true rfl) (cs' := [_, _, _]) rfl) ?_
  clear hS
  rintro _ w_5 ⟨rfl, hS⟩
  refine qq hS (Qai rfl) (QoN (wpIn_seq (QwR (qq hS (Qmi rfl) ?_))))
  refine qq hS (zm rfl rfl (by decide)) ?_
  refine QoN ?_
  refine jc (rfl) ?_
  refine QwR (qq hS (qf _) (qq hS (Qai rfl) (QoN (wpIn_ret ?_))))
  refine thenR (thenR ?_)
  refine ret2 results31 (qd rfl) (qd (v := .int .i64 _) rfl) ?_
  first | exact ⟨_, none, 0, rfl, hS.nil, RFl.nil⟩ | exact ⟨_, a58, c58, rfl, hS.nil, h58⟩
 ·
  rw [if_neg (by rw [hnc]; decide)] at hR
  obtain ⟨x, hxe⟩ : ∃ x, liftP (wordsN old (old.length / 4)) = x := ⟨_, rfl⟩
  have hB := vi hob hnc hxe
  have hcf : codeF old = formP x := by unfold codeF; rw [hxe]
  have hri : Rise x.labels := by rw [← hxe]; exact kH _
  have hB0 := hB.n0
  have hB1 := hB.n1
  have hB2 := hB.n2
  obtain ⟨hn4, hn5⟩ := jK hnc
  refine reg (qq hS (qb _) ?_)
  refine qe (qi call23 rfl (yt bd capb old x _ _ hS.imm ho hob hnc hxe)) ?_
  rintro _ w_6 ⟨I_f, a0, c0, a1, c1, a2, c2, rfl, hE, hx⟩
  replace hS := hS.callE hE
  replace hops := hops.mono hE.ext
  replace ho := ho.mono hE.ext
  replace h17 := h17.mono hE.ext
  refine qq hS (qb _) ?_
  refine qq hS (ql rfl rfl) ?_
  refine qq hS (Qxi rfl rfl) ?_
  refine qe (qk (cs := [.slice _ _ _, .slice _ _ _, .slice _ _ _]) hS zeroValue70 rfl) ?_
  clear hS
  rintro _ w_7 ⟨b9, rfl, hS⟩
  refine qe (qg 0 hS sizeOf70 rfl rfl rfl (vs := [.slice _ _ _, .slice _ _ _, .slice _ _ _]) rfl rfl rfl (Nat.le_of_ble_eq_true rfl) (cs' := [_, _, _]) rfl) ?_
  clear hS
  rintro _ w_8 ⟨rfl, hS⟩
  refine qq hS (Qai rfl) (QoN (wpIn_seq (QwR (qq hS (Qmi rfl) ?_))))
  refine qq hS (g_neqF rfl rfl rfl) ?_
  refine QoN ?_
  refine jb (rfl) ?_
  refine wpIn_skip (thenN (reg ?_))
  refine qq hS (g_ldO 0 (vs := [.slice _ _ _, .slice _ _ _, .slice _ _ _]) sizeOf70 isAgg70 rfl rfl rfl rfl) ?_
  refine qe (qi call24 rfl (zk x a0 a1 a2 c0 c1 c2 _ _ hS.imm hx hB.w hB.l (by omega) (by omega) (by omega) hri)) ?_
  rintro _ w_9 ⟨I_f, a34, c34, rfl, hE, h34⟩
  replace hS := hS.callE hE
  replace hops := hops.mono hE.ext
  replace ho := ho.mono hE.ext
  replace h17 := h17.mono hE.ext
  replace hx := hx.mono hE.ext
  refine qq hS (qf _) (QoN (wpIn_seq (QwR (qq hS (qb _) ?_))))
  refine qq hS (qo rfl underlying25 h34 rfl) ?_
  refine qq hS (qa (o' := 1) underlying31 rfl sizeOf3 rfl rfl rfl) ?_
  refine qq hS (qc 1 isAgg3 rfl rfl rfl) ?_
  refine qq hS (g_neq rfl rfl) ?_
  refine QoN ?_
  refine qh rfl ?_ ?_
  ·
   intro hc39
   try simp only [zA, zO, zN, zI, zF, zM, zT, zU] at hc39
   rw [if_neg (by rw [hcf]; omega)] at hR
   obtain ⟨rfl, rfl⟩ := Prod.mk.inj hR
   refine QwR (qq hS (qf _) (qq hS (Qai rfl) (QoN (wpIn_ret ?_))))
   refine thenR ?_
   refine ret2 results31 (qd rfl) (qd (v := .int .i64 _) rfl) ?_
   first | exact ⟨_, none, 0, rfl, hS.nil, RFl.nil⟩ | exact ⟨_, a58, c58, rfl, hS.nil, h58⟩
  ·
   intro hc39
   try simp only [zA, zO, zN, zI, zF, zM, zT, zU] at hc39
   rw [if_pos (by rw [hcf]; omega)] at hR
   obtain ⟨Q, hQ⟩ : ∃ Q, runP (formP x) (symsOf p.ops) = (Q, 0) := ⟨_, zV (lo := formP x) hk (by omega)⟩
   have hQb : Byts Q := by have := runP_byts (o := formP x) (l := symsOf p.ops) (jw x) hwA; rw [hQ] at this; exact this
   rw [hcf, hQ] at hR
   dsimp only at hR
   rw [if_pos rfl] at hR
   obtain ⟨y, ey, hy⟩ : ∃ y e, readR Q = (y, e) := ⟨_, _, rfl⟩
   have hyb := readR_x hQb
   rw [hy] at hR hyb
   dsimp only at hR hyb
   refine wpIn_skip (thenN (QwR (qq hS (qb _) (qq hS (qb _) ?_))))
   refine qe (qi call69 rfl (refRun_L _ _ _ _ _ _ (formP x) (symsOf p.ops) Q 0 _ _ hS.imm h34 rfl h17 rfl hwA (by omega) hQ)) ?_
   rintro _ w_10 ⟨I_f, a43, c43, rfl, hE, h43⟩
   replace hS := hS.callE hE
   replace hops := hops.mono hE.ext
   replace ho := ho.mono hE.ext
   replace h17 := h17.mono hE.ext
   replace hx := hx.mono hE.ext
   replace h34 := h34.mono hE.ext
   refine qq hS (qb _) ?_
   refine qq hS (ql rfl rfl) ?_
   refine qq hS (Qxi rfl rfl) ?_
   refine qq hS (qf _) (qq hS (Qai rfl) (QoN (wpIn_seq (QwR ?_))))
   refine qq hS (qa (o' := 0) underlying31 rfl sizeOf4 rfl rfl rfl) ?_
   refine qq hS (qc 1 isAgg4 rfl rfl rfl) ?_
   refine qq hS (g_not rfl) ?_
   refine QoN ?_
   refine jb (congrArg Value.bool (by simp [hl])) ?_
   refine wpIn_skip (thenN (QwR (qq hS (qb _) ?_)))
   refine qe (qi call70 rfl (lreadR_c Q a43 c43 y ey _ _ hS.imm h43 hQb hy)) ?_
   rintro _ w_11 ⟨I_f, a0y, c0y, a1y, c1y, a2y, c2y, rfl, hE, h52⟩
   replace hS := hS.callE hE
   replace hops := hops.mono hE.ext
   replace ho := ho.mono hE.ext
   replace h17 := h17.mono hE.ext
   replace hx := hx.mono hE.ext
   replace h34 := h34.mono hE.ext
   replace h43 := h43.mono hE.ext
   refine qq hS (qb _) ?_
   refine qq hS (ql rfl rfl) ?_
   refine qq hS (Qxi rfl rfl) ?_
   refine qe (qk (cs := [.slice _ _ _, .slice _ _ _, .slice _ _ _]) hS zeroValue70 rfl) ?_
   clear hS
   rintro _ w_12 ⟨b13, rfl, hS⟩
   refine qe (qg 0 hS sizeOf70 rfl rfl rfl (vs := [.slice _ _ _, .slice _ _ _, .slice _ _ _]) rfl rfl rfl (Nat.le_of_ble_eq_true rfl) (cs' := [_, _, _]) rfl) ?_
   clear hS
   rintro _ w_13 ⟨rfl, hS⟩
   refine qq hS (Qai rfl) (QoN (wpIn_seq (QwR (qq hS (Qmi rfl) ?_))))
   refine qq hS (g_neq rfl rfl) ?_
   refine QoN ?_
   refine qh rfl ?_ ?_
   ·
    intro hc56
    try simp only [zA, zO, zN, zI, zF, zM, zT, zU] at hc56
    rw [if_neg hc56] at hR
    obtain ⟨rfl, rfl⟩ := Prod.mk.inj hR
    refine QwR (qq hS (qf _) (qq hS (Qai rfl) (QoN (wpIn_ret ?_))))
    refine thenR ?_
    refine ret2 results31 (qd rfl) (qd (v := .int .i64 _) rfl) ?_
    first | exact ⟨_, none, 0, rfl, hS.nil, RFl.nil⟩ | exact ⟨_, a58, c58, rfl, hS.nil, h58⟩
   ·
    intro hc56
    try simp only [zA, zO, zN, zI, zF, zM, zT, zU] at hc56
    rw [if_pos hc56] at hR
    refine wpIn_skip (thenN (QwR ?_))
    refine qq hS (g_ldO 0 (vs := [.slice _ _ _, .slice _ _ _, .slice _ _ _]) sizeOf70 isAgg70 rfl rfl rfl rfl) ?_
    refine qe (qi call71 rfl (lowRR_c y a0y a1y a2y c0y c1y c2y R e _ _ hS.imm h52 hyb.1 hyb.2 hR)) ?_
    rintro _ w_14 ⟨I_f, a58, c58, rfl, hE, h58⟩
    replace hS := hS.callE hE
    replace hops := hops.mono hE.ext
    replace ho := ho.mono hE.ext
    replace h17 := h17.mono hE.ext
    replace hx := hx.mono hE.ext
    replace h34 := h34.mono hE.ext
    replace h43 := h43.mono hE.ext
    replace h52 := h52.mono hE.ext
    refine qq hS (ql rfl rfl) ?_
    refine qq hS (Qxi rfl rfl) ?_
    refine qq hS (qf _) (qq hS (Qai rfl) (QoN (wpIn_ret ?_)))
    refine ret2 results31 (qd rfl) (qd (v := .int .i64 _) rfl) ?_
    first | exact ⟨_, none, 0, rfl, hS.nil, RFl.nil⟩ | exact ⟨_, a58, c58, rfl, hS.nil, h58⟩
theorem inputIN_c (p : PatL) (ad bd : Option Addr) (m cap capb : Nat) (old : List Int) (w0 : World) (I0 : Imm) (hI : Sat I0 w0) (hl : p.lifted = false) (ho : RBytes I0 (.slice bd old.length capb) old) :
 Ctr prog 34 [.slice bd old.length capb, .agg #[.bool p.lifted, .int .i64 p.in_, .int .i64 p.out, .slice ad m cap]] w0 (fun v w' => v = .slice bd old.length capb ∧ Ext w0 I0 w' I0) := by
 refine fn (n := 18) func34 rfl rfl rfl ?_
 have hS := St.start hI
 refine QwR ?_
 refine qe (d_box (cs := [.bool _, .int .i64 _, .int .i64 _, .slice _ _ _]) hS rfl) ?_
 clear hS
 rintro _ w_1 ⟨b3, rfl, hS⟩
 refine qq hS (qf _) (QoN (wpIn_seq (QwR ?_)))
 refine qq hS (qa (o' := 0) underlying31 rfl sizeOf4 rfl rfl rfl) ?_
 refine qq hS (qc 0 isAgg4 rfl rfl rfl) ?_
 refine qq hS (g_not rfl) ?_
 refine QoN ?_
 refine jc (congrArg Value.bool (by simp [hl])) ?_
 refine QwR (qq hS (qb _) (qq hS (qf _) (QoN (wpIn_ret ?_))))
 refine thenR ?_
 refine ret1 results34 (qd rfl) ?_
 exact ⟨rfl, hS.nil⟩
theorem inputIL_c (p : PatL) (ad bd : Option Addr) (m cap capb : Nat) (old : List Int) (w0 : World) (I0 : Imm) (hI : Sat I0 w0) (hl : p.lifted = true) (ho : RBytes I0 (.slice bd old.length capb) old) (hob : Byts old) (hnc : noCode old = false) :
 Ctr prog 34 [.slice bd old.length capb, .agg #[.bool p.lifted, .int .i64 p.in_, .int .i64 p.out, .slice ad m cap]] w0 (fun v w' => ∃ I' a c, v = .slice a (codeF old).length c ∧ Ext w0 I0 w' I' ∧ RBytes I' (.slice a (codeF old).length c) (codeF old)) := by
 obtain ⟨x, hxe⟩ : ∃ x, liftP (wordsN old (old.length / 4)) = x := ⟨_, rfl⟩
 have hB := vi hob hnc hxe
 have hcf : codeF old = formP x := by unfold codeF; rw [hxe]
 have hri : Rise x.labels := by rw [← hxe]; exact kH _
 have hB0 := hB.n0
 have hB1 := hB.n1
 have hB2 := hB.n2
 obtain ⟨hn4, hn5⟩ := jK hnc
 refine fn (n := 18) func34 rfl rfl rfl ?_
 have hS := St.start hI
 refine QwR ?_
 refine qe (d_box (cs := [.bool _, .int .i64 _, .int .i64 _, .slice _ _ _]) hS rfl) ?_
 clear hS
 rintro _ w_1 ⟨b3, rfl, hS⟩
 refine qq hS (qf _) (QoN (wpIn_seq (QwR ?_)))
 refine qq hS (qa (o' := 0) underlying31 rfl sizeOf4 rfl rfl rfl) ?_
 refine qq hS (qc 0 isAgg4 rfl rfl rfl) ?_
 refine qq hS (g_not rfl) ?_
 refine QoN ?_
 refine jb (congrArg Value.bool (by simp [hl])) ?_
 refine wpIn_skip (thenN (QwR (qq hS (qb _) ?_)))
 refine qe (qi call23 rfl (yt bd capb old x _ _ hS.imm ho hob hnc hxe)) ?_
 rintro _ w_2 ⟨I_f, a0, c0, a1, c1, a2, c2, rfl, hE, hx⟩
 replace hS := hS.callE hE
 replace ho := ho.mono hE.ext
 refine qq hS (qb _) ?_
 refine qq hS (ql rfl rfl) ?_
 refine qq hS (Qxi rfl rfl) ?_
 refine qe (qk (cs := [.slice _ _ _, .slice _ _ _, .slice _ _ _]) hS zeroValue70 rfl) ?_
 clear hS
 rintro _ w_3 ⟨b5, rfl, hS⟩
 refine qe (qg 0 hS sizeOf70 rfl rfl rfl (vs := [.slice _ _ _, .slice _ _ _, .slice _ _ _]) rfl rfl rfl (Nat.le_of_ble_eq_true rfl) (cs' := [_, _, _]) rfl) ?_
 clear hS
 rintro _ w_4 ⟨rfl, hS⟩
 refine qq hS (Qai rfl) (QoR ?_)
 refine qq hS (g_ldO 0 (vs := [.slice _ _ _, .slice _ _ _, .slice _ _ _]) sizeOf70 isAgg70 rfl rfl rfl rfl) ?_
 refine qe (qi call24 rfl (zk x a0 a1 a2 c0 c1 c2 _ _ hS.imm hx hB.w hB.l (by omega) (by omega) (by omega) hri)) ?_
 rintro _ w_5 ⟨I_f, a17, c17, rfl, hE, h17⟩
 replace hS := hS.callE hE
 replace ho := ho.mono hE.ext
 replace hx := hx.mono hE.ext
 refine qq hS (qf _) (QoN (wpIn_ret ?_))
 refine ret1 results34 (qd rfl) ?_
 exact ⟨_, a17, c17, by rw [hcf] <;> rfl, hS.nil, by rw [hcf]; exact h17⟩
theorem inputI_E (p : PatL) (ad bd : Option Addr) (m cap capb : Nat) (old Z : List Int) (w0 : World) (I0 : Imm) (hI : Sat I0 w0) (ho : RBytes I0 (.slice bd old.length capb) old) (hob : Byts old) (hZ : codeOr old p = Z) (hnc : p.lifted = true → noCode old = false) :
 Ctr prog 34 [.slice bd old.length capb, .agg #[.bool p.lifted, .int .i64 p.in_, .int .i64 p.out, .slice ad m cap]] w0 (fun v w' => ∃ I' a c, v = .slice a Z.length c ∧ Ext w0 I0 w' I' ∧ RBytes I' (.slice a Z.length c) Z) := by
 subst hZ
 unfold codeOr
 cases h : p.lifted
 · rw [if_neg (by decide)]
   have := inputIN_c p ad bd m cap capb old w0 I0 hI h ho
   rw [h] at this
   exact this.mono fun v w' ⟨hv, hE⟩ => ⟨I0, bd, capb, hv, hE, ho⟩
 · rw [if_pos rfl]
   have := inputIL_c p ad bd m cap capb old w0 I0 hI h ho hob (hnc h)
   rw [h] at this
   exact this
theorem refApplyA_E (p : PatL) (ad bd : Option Addr) (m cap capb : Nat) (old R : List Int) (e : Int) (w0 : World) (I0 : Imm) (hI : Sat I0 w0) (hops : ROps I0 (.slice ad m cap) p.ops) (hp : p.wf) (hk : (checkP p).2 = 0) (ho : RBytes I0 (.slice bd old.length capb) old) (hob : Byts old) (hR : applyA old p = (R, e)) :
 Ctr prog 31 [.slice bd old.length capb, .agg #[.bool p.lifted, .int .i64 p.in_, .int .i64 p.out, .slice ad m cap]] w0 (fun v w' => ∃ I' a c, v = .tuple #[.slice a R.length c, .int .i64 e] ∧ Ext w0 I0 w' I' ∧ RBytes I' (.slice a R.length c) R) := by
 unfold applyA at hR
 cases h : p.lifted
 · rw [h, if_neg (by decide)] at hR
   have := refApply_L p ad bd m cap _ capb old R e w0 I0 hI hops hp h hk ho rfl hR
   rw [h] at this
   exact this
 · rw [h, if_pos rfl] at hR
   have := refApplyL_c p ad bd m cap capb old R e w0 I0 hI hops hp h hk ho hob hR
   rw [h] at this
   exact this
set_option maxHeartbeats 1000000 in
theorem invertR_c (p : PatL) (ad bd : Option Addr) (m cap capb : Nat) (old : List Int) (q : PatL) (e : Int) (w0 : World) (I0 : Imm) (hI : Sat I0 w0) (hops : ROps I0 (.slice ad m cap) p.ops) (hp : p.wf) (ho : RBytes I0 (.slice bd old.length capb) old) (hob : Byts old) (he : invertA old p = (q, e)) :
 Ctr prog 11 [.slice bd old.length capb, .agg #[.bool p.lifted, .int .i64 p.in_, .int .i64 p.out, .slice ad m cap]] w0 (fun v w' => ∃ I' a m c, v = .tuple #[.agg #[.bool q.lifted, .int .i64 q.in_, .int .i64 q.out, .slice a m c], .int .i64 e] ∧ Ext w0 I0 w' I' ∧ ROps I' (.slice a m c) q.ops) := by
 have hwA := jO hp
 have hlA := jf p
 have hlo := RSl.le ho
 simp only [maxLen] at hlo
 unfold invertA at he
 obtain ⟨A, eA, hA⟩ : ∃ A e, symbolsP p = (A, e) := ⟨_, _, rfl⟩
 obtain ⟨R, eR, hR⟩ : ∃ R e, applyA old p = (R, e) := ⟨_, _, rfl⟩
 obtain ⟨Z, hZ⟩ : ∃ Z, codeOr old p = Z := ⟨_, rfl⟩
 obtain ⟨qC, eC, hC⟩ : ∃ q e, cheapP (invS A Z) p.out = (q, e) := ⟨_, _, rfl⟩
 have hcb := cheapP_bad (l := invS A Z) (n := p.out)
 rw [hA, hR] at he
 rw [hA] at hwA hlA
 dsimp only at he hwA hlA
 rw [hZ, hC] at he
 rw [hC] at hcb
 dsimp only at he hcb
 refine fn (n := 49) func11 rfl rfl rfl ?_
 have hS := St.start hI
 refine QwR ?_
 refine qe (d_box (cs := [.bool _, .int .i64 _, .int .i64 _, .slice _ _ _]) hS rfl) ?_
 clear hS
 rintro _ w_1 ⟨b3, rfl, hS⟩
 refine qe (qk (cs := [.bool _, .int .i64 _, .int .i64 _, .slice _ _ _]) hS zeroValue31 rfl) ?_
 clear hS
 rintro _ w_2 ⟨b4, rfl, hS⟩
 refine qq hS (Qai rfl) (QoR ?_)
 refine qq hS (g_ldO 1 (vs := [.bool _, .int .i64 _, .int .i64 _, .slice _ _ _]) sizeOf31 isAgg31 rfl rfl rfl rfl) ?_
 refine qe (qi call30 rfl (zS p ad m cap A eA _ _ hS.imm hops hp hA)) ?_
 rintro _ w_3 ⟨I_f, a14, c14, rfl, hE, h14⟩
 replace hS := hS.callE hE
 replace hops := hops.mono hE.ext
 replace ho := ho.mono hE.ext
 refine qq hS (qb _) ?_
 refine qq hS (ql rfl rfl) ?_
 refine qq hS (Qxi rfl rfl) ?_
 refine qq hS (qf _) (qq hS (Qai rfl) (QoN (wpIn_seq (QwR (qq hS (Qmi rfl) ?_)))))
 refine qq hS (g_neq rfl rfl) ?_
 refine QoN ?_
 refine qh rfl ?_ ?_
 ·
  intro hc18
  try simp only [zA, zO, zN, zI, zF, zM, zT, zU] at hc18
  rw [if_pos hc18] at he
  obtain ⟨rfl, rfl⟩ := Prod.mk.inj he
  refine QwR ?_
  refine qq hS (qm (pl := [(0, 1), (1, 1), (2, 1), (3, 1)]) (cs := [.bool _, .int .i64 _, .int .i64 _, .slice _ _ _]) zeroValue31 underlying31 (fun w => by simp [sizeOf29, sizeOf3, sizeOf4]) mp0 rfl) ?_
  refine qe (qg 0 hS sizeOf31 rfl rfl rfl (vs := [.bool _, .int .i64 _, .int .i64 _, .slice _ _ _]) rfl rfl rfl (Nat.le_of_ble_eq_true rfl) (cs' := [_, _, _, _]) rfl) ?_
  clear hS
  rintro _ w_4 ⟨rfl, hS⟩
  refine qq hS (Qai rfl) (QoN (wpIn_ret ?_))
  refine thenR ?_
  refine ret2 results11 (qs 0 hS sizeOf31 isAgg31 rfl rfl rfl) (qd (v := .int .i64 _) rfl) ?_
  first | exact ⟨_, none, 0, 0, rfl, hS.nil, RSl.nilR⟩ | exact ⟨_, a38, m38, c38, by rw [hc42] <;> rfl, hS.nil, h38⟩
 ·
  intro hc18
  try simp only [zA, zO, zN, zI, zF, zM, zT, zU] at hc18
  rw [if_neg (by simp [hc18])] at he
  have hck : (checkP p).2 = 0 := (symbolsP_ok' (by rw [hA]; exact hc18)).1
  refine wpIn_skip (thenN (QwR (qq hS (qb _) ?_)))
  refine qq hS (g_ldO 1 (vs := [.bool _, .int .i64 _, .int .i64 _, .slice _ _ _]) sizeOf31 isAgg31 rfl rfl rfl rfl) ?_
  refine qe (qi call31 rfl (refApplyA_E p ad bd m cap capb old R eR _ _ hS.imm hops hp hck ho hob hR)) ?_
  rintro _ w_5 ⟨I_f, a23, c23, rfl, hE, h23⟩
  replace hS := hS.callE hE
  replace hops := hops.mono hE.ext
  replace ho := ho.mono hE.ext
  replace h14 := h14.mono hE.ext
  refine qq hS (qb _) ?_
  refine qq hS (ql rfl rfl) ?_
  refine qq hS (Qxi rfl rfl) ?_
  refine qq hS (qf _) (qq hS (Qai rfl) (QoN (wpIn_seq (QwR (qq hS (Qmi rfl) ?_)))))
  refine qq hS (g_neq rfl rfl) ?_
  refine QoN ?_
  refine qh rfl ?_ ?_
  ·
   intro hc27
   try simp only [zA, zO, zN, zI, zF, zM, zT, zU] at hc27
   rw [if_pos hc27] at he
   obtain ⟨rfl, rfl⟩ := Prod.mk.inj he
   refine QwR ?_
   refine qq hS (qm (pl := [(0, 1), (1, 1), (2, 1), (3, 1)]) (cs := [.bool _, .int .i64 _, .int .i64 _, .slice _ _ _]) zeroValue31 underlying31 (fun w => by simp [sizeOf29, sizeOf3, sizeOf4]) mp0 rfl) ?_
   refine qq hS (Qmi rfl) ?_
   refine qe (qg 0 hS sizeOf31 rfl rfl rfl (vs := [.bool _, .int .i64 _, .int .i64 _, .slice _ _ _]) rfl rfl rfl (Nat.le_of_ble_eq_true rfl) (cs' := [_, _, _, _]) rfl) ?_
   clear hS
   rintro _ w_6 ⟨rfl, hS⟩
   refine qq hS (Qai rfl) (QoN (wpIn_ret ?_))
   refine thenR ?_
   refine ret2 results11 (qs 0 hS sizeOf31 isAgg31 rfl rfl rfl) (qd (v := .int .i64 _) rfl) ?_
   first | exact ⟨_, none, 0, 0, rfl, hS.nil, RSl.nilR⟩ | exact ⟨_, a38, m38, c38, by rw [hc42] <;> rfl, hS.nil, h38⟩
  ·
   intro hc27
   try simp only [zA, zO, zN, zI, zF, zM, zT, zU] at hc27
   rw [if_neg (by simp [hc27])] at he
   have hnc : p.lifted = true → noCode old = false := fun h => by
    unfold applyA at hR
    rw [if_pos h] at hR
    exact (yg (old := old) (p := p) (by rw [hR]; exact hc27)).1
   have hzl : (Z.length : Int) = p.in_ := by
    rw [← hZ]
    unfold applyA at hR
    unfold codeOr
    split at hR
    · rename_i h
      rw [if_pos h]; exact (yg (old := old) (p := p) (by rw [hR]; exact hc27)).2
    · rename_i h
      rw [if_neg h]
      unfold applyP at hR
      rw [hA, if_pos hc18] at hR
      by_cases g : (old.length : Int) = p.in_
      · exact g
      · rw [if_neg g] at hR
        have := (Prod.mk.inj hR).2
        omega
   have hin4 := (qV hck).2.2.2.1
   have hZb : Byts Z := by
    rw [← hZ]
    unfold codeOr
    split
    · exact jw _
    · exact hob
   obtain ⟨he1, he2⟩ := Prod.mk.inj he
   subst he2
   refine wpIn_skip (thenN (wpIn_seq ?_))
   refine drawS [true, true] (.cons 0 .pure (.cons 1 .held (.cons 3 .pure (.cons 5 .pure (.cons 6 .held (.fork 2 (.fork 4 (.fork 7 (.cons 8 .pure (.cons 9 .pure (.cons 10 .pure (.cons 11 .eff (.cons 12 .eff (.cons 13 .pure .nil)))))) 11 (.cons 7 .eff (.cons 8 .pure (.cons 9 .pure (.cons 10 .pure (.cons 12 .eff (.cons 13 .pure .nil))))))) 11 (.cons 4 .eff (.cons 7 .eff (.cons 8 .pure (.cons 9 .pure (.cons 10 .pure (.cons 12 .eff (.cons 13 .pure .nil)))))))) 11 (.cons 2 .eff (.cons 4 .eff (.cons 7 .eff (.cons 8 .pure (.cons 9 .pure (.cons 10 .pure (.cons 12 .eff (.cons 13 .pure .nil)))))))))))))) mixed (by kernel_rfl) hS ?_
   intro w_7 hS
   refine sp rfl (qb _) ?_
   refine sh rfl (g_ldO 1 (vs := [.bool _, .int .i64 _, .int .i64 _, .slice _ _ _]) sizeOf31 isAgg31 rfl rfl rfl rfl) ?_
   refine sp rfl (qb _) ?_
   refine sp rfl (qa (o' := 2) underlying31 rfl sizeOf3 rfl rfl rfl) ?_
   refine sh rfl (qc 1 isAgg3 rfl rfl rfl) ?_
   refine sk ?_ ?_
   ·
    have hS0 := hS
    refine se rfl (qi call34 rfl (inputI_E p ad bd m cap capb old Z _ _ hS.imm ho hob hZ hnc)) ?_
    rintro _ w_8 ⟨I_f, a33, c33, rfl, hE, h33⟩
    replace hS := hS.call hE
    replace hops := hops.mono hE.ext
    replace ho := ho.mono hE.ext
    replace h14 := h14.mono hE.ext
    replace h23 := h23.mono hE.ext
    refine ⟨_, _, (hS0.sel [true, true]).le hE.ext (List.Sublist.refl _), hS.sel [true, true], ?_⟩
    refine sk ?_ ?_
    ·
     have hS0 := hS
     refine se rfl (qi call33 rfl (zR a33 a14 c33 c14 Z A _ _ hS.imm h33 hZb h14 (by omega))) ?_
     rintro _ w_9 ⟨I_f, a35, c35, rfl, hE, h35⟩
     replace hS := hS.call hE
     replace hops := hops.mono hE.ext
     replace ho := ho.mono hE.ext
     replace h14 := h14.mono hE.ext
     replace h23 := h23.mono hE.ext
     replace h33 := h33.mono hE.ext
     refine ⟨_, _, (hS0.sel [true, true]).le hE.ext (List.Sublist.refl _), hS.sel [true, true], ?_⟩
     refine sk ?_ ?_
     ·
      have hS0 := hS
      refine se rfl (qi call32 rfl (jS a35 _ c35 (invS A Z) p.out qC eC _ _ hS.imm h35 (jz A Z).symm (kW (by omega) hZb) hp.out hC)) ?_
      rintro _ w_10 ⟨I_f, a38, m38, c38, rfl, hE, h38⟩
      replace hS := hS.call hE
      replace hops := hops.mono hE.ext
      replace ho := ho.mono hE.ext
      replace h14 := h14.mono hE.ext
      replace h23 := h23.mono hE.ext
      replace h33 := h33.mono hE.ext
      replace h35 := h35.mono hE.ext
      refine ⟨_, _, (hS0.sel [true, true]).le hE.ext (List.Sublist.refl _), hS.sel [true, true], ?_⟩
      refine sp rfl (qb _) ?_
      refine sp rfl (ql rfl rfl) ?_
      refine sp rfl (Qxi rfl rfl) ?_
      have hS0 := hS
      refine se rfl (qk (cs := [.bool _, .int .i64 _, .int .i64 _, .slice _ _ _]) hS zeroValue31 rfl) ?_
      rintro _ w_11 ⟨b10, rfl, hS⟩
      refine ⟨_, _, fun _ h => h, hS.sel [false, true, true], ?_⟩
      have hS0 := hS
      refine se rfl (qg 0 hS sizeOf31 rfl rfl rfl (vs := [.bool _, .int .i64 _, .int .i64 _, .slice _ _ _]) rfl rfl rfl (Nat.le_of_ble_eq_true rfl) (cs' := [_, _, _, _]) rfl) ?_
      rintro _ w_12 ⟨rfl, hS⟩
      refine ⟨_, _, fun _ h => h, hS.sel [false, true, true], ?_⟩
      refine sp rfl (Qai rfl) ?_
      refine sn (thenN ?_)
      refine wpIn_seq (QwR (qq hS (Qmi rfl) ?_))
      refine qq hS (g_neq rfl rfl) ?_
      refine QoN ?_
      refine qh rfl ?_ ?_
      ·
       intro hc42
       try simp only [zA, zO, zN, zI, zF, zM, zT, zU] at hc42
       have hq : q = PatL.zero := by
        rw [← he1, hcb hc42, decide_eq_false hc42, Bool.and_false]; rfl
       subst hq
       refine QwR ?_
       refine qq hS (qm (pl := [(0, 1), (1, 1), (2, 1), (3, 1)]) (cs := [.bool _, .int .i64 _, .int .i64 _, .slice _ _ _]) zeroValue31 underlying31 (fun w => by simp [sizeOf29, sizeOf3, sizeOf4]) mp0 rfl) ?_
       refine qq hS (Qmi rfl) ?_
       refine qe (qg 1 hS sizeOf31 rfl rfl rfl (vs := [.bool _, .int .i64 _, .int .i64 _, .slice _ _ _]) rfl rfl rfl (Nat.le_of_ble_eq_true rfl) (cs' := [_, _, _, _]) rfl) ?_
       clear hS
       rintro _ w_13 ⟨rfl, hS⟩
       refine qq hS (Qai rfl) (QoN (wpIn_ret ?_))
       refine thenR ?_
       refine ret2 results11 (qs 1 hS sizeOf31 isAgg31 rfl rfl rfl) (qd (v := .int .i64 _) rfl) ?_
       first | exact ⟨_, none, 0, 0, rfl, hS.nil, RSl.nilR⟩ | exact ⟨_, a38, m38, c38, by rw [hc42] <;> rfl, hS.nil, h38⟩
      ·
       intro hc42
       try simp only [zA, zO, zN, zI, zF, zM, zT, zU] at hc42
       have hq : withL p.lifted qC = q := by
        rw [← he1, decide_eq_true hc42, Bool.and_true]
       subst hq
       refine wpIn_skip (thenN (QwR ?_))
       refine qq hS (qa (o' := 0) underlying31 rfl sizeOf4 rfl rfl rfl) ?_
       refine qq hS (qc 2 isAgg4 rfl rfl rfl) ?_
       refine qq hS (qa (o' := 0) underlying31 rfl sizeOf4 rfl rfl rfl) ?_
       refine qe (qg 0 hS sizeOf4 rfl rfl rfl (vs := [.bool _]) rfl rfl rfl (Nat.le_of_ble_eq_true rfl) (cs' := [_, _, _, _]) rfl) ?_
       clear hS
       rintro _ w_14 ⟨rfl, hS⟩
       refine QoR ?_
       refine qq hS (g_ldO 0 (vs := [.bool _, .int .i64 _, .int .i64 _, .slice _ _ _]) sizeOf31 isAgg31 rfl rfl rfl rfl) ?_
       refine qe (qg 1 hS sizeOf31 rfl rfl rfl (vs := [.bool _, .int .i64 _, .int .i64 _, .slice _ _ _]) rfl rfl rfl (Nat.le_of_ble_eq_true rfl) (cs' := [_, _, _, _]) rfl) ?_
       clear hS
       rintro _ w_15 ⟨rfl, hS⟩
       refine qq hS (Qai rfl) (QoN (wpIn_ret ?_))
       refine ret2 results11 (qs 1 hS sizeOf31 isAgg31 rfl rfl rfl) (qd (v := .int .i64 _) rfl) ?_
       first | exact ⟨_, none, 0, 0, rfl, hS.nil, RSl.nilR⟩ | exact ⟨_, a38, m38, c38, by rw [hc42] <;> rfl, hS.nil, h38⟩
     ·
      have hS0 := hS
      refine se rfl (qk (cs := [.bool _, .int .i64 _, .int .i64 _, .slice _ _ _]) hS zeroValue31 rfl) ?_
      rintro _ w_16 ⟨b10, rfl, hS⟩
      refine ⟨_, _, fun _ h => h, hS.sel [false, true, true], ?_⟩
      have hS0 := hS
      refine se rfl (qi call32 rfl (jS a35 _ c35 (invS A Z) p.out qC eC _ _ hS.imm h35 (jz A Z).symm (kW (by omega) hZb) hp.out hC)) ?_
      rintro _ w_17 ⟨I_f, a38, m38, c38, rfl, hE, h38⟩
      replace hS := hS.call hE
      replace hops := hops.mono hE.ext
      replace ho := ho.mono hE.ext
      replace h14 := h14.mono hE.ext
      replace h23 := h23.mono hE.ext
      replace h33 := h33.mono hE.ext
      replace h35 := h35.mono hE.ext
      refine ⟨_, _, (hS0.sel [false, true, true]).le hE.ext (List.Sublist.refl _), hS.sel [false, true, true], ?_⟩
      refine sp rfl (qb _) ?_
      refine sp rfl (ql rfl rfl) ?_
      refine sp rfl (Qxi rfl rfl) ?_
      have hS0 := hS
      refine se rfl (qg 0 hS sizeOf31 rfl rfl rfl (vs := [.bool _, .int .i64 _, .int .i64 _, .slice _ _ _]) rfl rfl rfl (Nat.le_of_ble_eq_true rfl) (cs' := [_, _, _, _]) rfl) ?_
      rintro _ w_18 ⟨rfl, hS⟩
      refine ⟨_, _, fun _ h => h, hS.sel [false, true, true], ?_⟩
      refine sp rfl (Qai rfl) ?_
      refine sn (thenN ?_)
      refine wpIn_seq (QwR (qq hS (Qmi rfl) ?_))
      refine qq hS (g_neq rfl rfl) ?_
      refine QoN ?_
      refine qh rfl ?_ ?_
      ·
       intro hc42
       try simp only [zA, zO, zN, zI, zF, zM, zT, zU] at hc42
       have hq : q = PatL.zero := by
        rw [← he1, hcb hc42, decide_eq_false hc42, Bool.and_false]; rfl
       subst hq
       refine QwR ?_
       refine qq hS (qm (pl := [(0, 1), (1, 1), (2, 1), (3, 1)]) (cs := [.bool _, .int .i64 _, .int .i64 _, .slice _ _ _]) zeroValue31 underlying31 (fun w => by simp [sizeOf29, sizeOf3, sizeOf4]) mp0 rfl) ?_
       refine qq hS (Qmi rfl) ?_
       refine qe (qg 1 hS sizeOf31 rfl rfl rfl (vs := [.bool _, .int .i64 _, .int .i64 _, .slice _ _ _]) rfl rfl rfl (Nat.le_of_ble_eq_true rfl) (cs' := [_, _, _, _]) rfl) ?_
       clear hS
       rintro _ w_19 ⟨rfl, hS⟩
       refine qq hS (Qai rfl) (QoN (wpIn_ret ?_))
       refine thenR ?_
       refine ret2 results11 (qs 1 hS sizeOf31 isAgg31 rfl rfl rfl) (qd (v := .int .i64 _) rfl) ?_
       first | exact ⟨_, none, 0, 0, rfl, hS.nil, RSl.nilR⟩ | exact ⟨_, a38, m38, c38, by rw [hc42] <;> rfl, hS.nil, h38⟩
      ·
       intro hc42
       try simp only [zA, zO, zN, zI, zF, zM, zT, zU] at hc42
       have hq : withL p.lifted qC = q := by
        rw [← he1, decide_eq_true hc42, Bool.and_true]
       subst hq
       refine wpIn_skip (thenN (QwR ?_))
       refine qq hS (qa (o' := 0) underlying31 rfl sizeOf4 rfl rfl rfl) ?_
       refine qq hS (qc 2 isAgg4 rfl rfl rfl) ?_
       refine qq hS (qa (o' := 0) underlying31 rfl sizeOf4 rfl rfl rfl) ?_
       refine qe (qg 0 hS sizeOf4 rfl rfl rfl (vs := [.bool _]) rfl rfl rfl (Nat.le_of_ble_eq_true rfl) (cs' := [_, _, _, _]) rfl) ?_
       clear hS
       rintro _ w_20 ⟨rfl, hS⟩
       refine QoR ?_
       refine qq hS (g_ldO 0 (vs := [.bool _, .int .i64 _, .int .i64 _, .slice _ _ _]) sizeOf31 isAgg31 rfl rfl rfl rfl) ?_
       refine qe (qg 1 hS sizeOf31 rfl rfl rfl (vs := [.bool _, .int .i64 _, .int .i64 _, .slice _ _ _]) rfl rfl rfl (Nat.le_of_ble_eq_true rfl) (cs' := [_, _, _, _]) rfl) ?_
       clear hS
       rintro _ w_21 ⟨rfl, hS⟩
       refine qq hS (Qai rfl) (QoN (wpIn_ret ?_))
       refine ret2 results11 (qs 1 hS sizeOf31 isAgg31 rfl rfl rfl) (qd (v := .int .i64 _) rfl) ?_
       first | exact ⟨_, none, 0, 0, rfl, hS.nil, RSl.nilR⟩ | exact ⟨_, a38, m38, c38, by rw [hc42] <;> rfl, hS.nil, h38⟩
    ·
     have hS0 := hS
     refine se rfl (qk (cs := [.bool _, .int .i64 _, .int .i64 _, .slice _ _ _]) hS zeroValue31 rfl) ?_
     rintro _ w_22 ⟨b10, rfl, hS⟩
     refine ⟨_, _, fun _ h => h, hS.sel [false, true, true], ?_⟩
     have hS0 := hS
     refine se rfl (qi call33 rfl (zR a33 a14 c33 c14 Z A _ _ hS.imm h33 hZb h14 (by omega))) ?_
     rintro _ w_23 ⟨I_f, a35, c35, rfl, hE, h35⟩
     replace hS := hS.call hE
     replace hops := hops.mono hE.ext
     replace ho := ho.mono hE.ext
     replace h14 := h14.mono hE.ext
     replace h23 := h23.mono hE.ext
     replace h33 := h33.mono hE.ext
     refine ⟨_, _, (hS0.sel [false, true, true]).le hE.ext (List.Sublist.refl _), hS.sel [false, true, true], ?_⟩
     have hS0 := hS
     refine se rfl (qi call32 rfl (jS a35 _ c35 (invS A Z) p.out qC eC _ _ hS.imm h35 (jz A Z).symm (kW (by omega) hZb) hp.out hC)) ?_
     rintro _ w_24 ⟨I_f, a38, m38, c38, rfl, hE, h38⟩
     replace hS := hS.call hE
     replace hops := hops.mono hE.ext
     replace ho := ho.mono hE.ext
     replace h14 := h14.mono hE.ext
     replace h23 := h23.mono hE.ext
     replace h33 := h33.mono hE.ext
     replace h35 := h35.mono hE.ext
     refine ⟨_, _, (hS0.sel [false, true, true]).le hE.ext (List.Sublist.refl _), hS.sel [false, true, true], ?_⟩
     refine sp rfl (qb _) ?_
     refine sp rfl (ql rfl rfl) ?_
     refine sp rfl (Qxi rfl rfl) ?_
     have hS0 := hS
     refine se rfl (qg 0 hS sizeOf31 rfl rfl rfl (vs := [.bool _, .int .i64 _, .int .i64 _, .slice _ _ _]) rfl rfl rfl (Nat.le_of_ble_eq_true rfl) (cs' := [_, _, _, _]) rfl) ?_
     rintro _ w_25 ⟨rfl, hS⟩
     refine ⟨_, _, fun _ h => h, hS.sel [false, true, true], ?_⟩
     refine sp rfl (Qai rfl) ?_
     refine sn (thenN ?_)
     refine wpIn_seq (QwR (qq hS (Qmi rfl) ?_))
     refine qq hS (g_neq rfl rfl) ?_
     refine QoN ?_
     refine qh rfl ?_ ?_
     ·
      intro hc42
      try simp only [zA, zO, zN, zI, zF, zM, zT, zU] at hc42
      have hq : q = PatL.zero := by
       rw [← he1, hcb hc42, decide_eq_false hc42, Bool.and_false]; rfl
      subst hq
      refine QwR ?_
      refine qq hS (qm (pl := [(0, 1), (1, 1), (2, 1), (3, 1)]) (cs := [.bool _, .int .i64 _, .int .i64 _, .slice _ _ _]) zeroValue31 underlying31 (fun w => by simp [sizeOf29, sizeOf3, sizeOf4]) mp0 rfl) ?_
      refine qq hS (Qmi rfl) ?_
      refine qe (qg 1 hS sizeOf31 rfl rfl rfl (vs := [.bool _, .int .i64 _, .int .i64 _, .slice _ _ _]) rfl rfl rfl (Nat.le_of_ble_eq_true rfl) (cs' := [_, _, _, _]) rfl) ?_
      clear hS
      rintro _ w_26 ⟨rfl, hS⟩
      refine qq hS (Qai rfl) (QoN (wpIn_ret ?_))
      refine thenR ?_
      refine ret2 results11 (qs 1 hS sizeOf31 isAgg31 rfl rfl rfl) (qd (v := .int .i64 _) rfl) ?_
      first | exact ⟨_, none, 0, 0, rfl, hS.nil, RSl.nilR⟩ | exact ⟨_, a38, m38, c38, by rw [hc42] <;> rfl, hS.nil, h38⟩
     ·
      intro hc42
      try simp only [zA, zO, zN, zI, zF, zM, zT, zU] at hc42
      have hq : withL p.lifted qC = q := by
       rw [← he1, decide_eq_true hc42, Bool.and_true]
      subst hq
      refine wpIn_skip (thenN (QwR ?_))
      refine qq hS (qa (o' := 0) underlying31 rfl sizeOf4 rfl rfl rfl) ?_
      refine qq hS (qc 2 isAgg4 rfl rfl rfl) ?_
      refine qq hS (qa (o' := 0) underlying31 rfl sizeOf4 rfl rfl rfl) ?_
      refine qe (qg 0 hS sizeOf4 rfl rfl rfl (vs := [.bool _]) rfl rfl rfl (Nat.le_of_ble_eq_true rfl) (cs' := [_, _, _, _]) rfl) ?_
      clear hS
      rintro _ w_27 ⟨rfl, hS⟩
      refine QoR ?_
      refine qq hS (g_ldO 0 (vs := [.bool _, .int .i64 _, .int .i64 _, .slice _ _ _]) sizeOf31 isAgg31 rfl rfl rfl rfl) ?_
      refine qe (qg 1 hS sizeOf31 rfl rfl rfl (vs := [.bool _, .int .i64 _, .int .i64 _, .slice _ _ _]) rfl rfl rfl (Nat.le_of_ble_eq_true rfl) (cs' := [_, _, _, _]) rfl) ?_
      clear hS
      rintro _ w_28 ⟨rfl, hS⟩
      refine qq hS (Qai rfl) (QoN (wpIn_ret ?_))
      refine ret2 results11 (qs 1 hS sizeOf31 isAgg31 rfl rfl rfl) (qd (v := .int .i64 _) rfl) ?_
      first | exact ⟨_, none, 0, 0, rfl, hS.nil, RSl.nilR⟩ | exact ⟨_, a38, m38, c38, by rw [hc42] <;> rfl, hS.nil, h38⟩
   ·
    have hS0 := hS
    refine se rfl (qk (cs := [.bool _, .int .i64 _, .int .i64 _, .slice _ _ _]) hS zeroValue31 rfl) ?_
    rintro _ w_29 ⟨b10, rfl, hS⟩
    refine ⟨_, _, fun _ h => h, hS.sel [false, true, true], ?_⟩
    have hS0 := hS
    refine se rfl (qi call34 rfl (inputI_E p ad bd m cap capb old Z _ _ hS.imm ho hob hZ hnc)) ?_
    rintro _ w_30 ⟨I_f, a33, c33, rfl, hE, h33⟩
    replace hS := hS.call hE
    replace hops := hops.mono hE.ext
    replace ho := ho.mono hE.ext
    replace h14 := h14.mono hE.ext
    replace h23 := h23.mono hE.ext
    refine ⟨_, _, (hS0.sel [false, true, true]).le hE.ext (List.Sublist.refl _), hS.sel [false, true, true], ?_⟩
    have hS0 := hS
    refine se rfl (qi call33 rfl (zR a33 a14 c33 c14 Z A _ _ hS.imm h33 hZb h14 (by omega))) ?_
    rintro _ w_31 ⟨I_f, a35, c35, rfl, hE, h35⟩
    replace hS := hS.call hE
    replace hops := hops.mono hE.ext
    replace ho := ho.mono hE.ext
    replace h14 := h14.mono hE.ext
    replace h23 := h23.mono hE.ext
    replace h33 := h33.mono hE.ext
    refine ⟨_, _, (hS0.sel [false, true, true]).le hE.ext (List.Sublist.refl _), hS.sel [false, true, true], ?_⟩
    have hS0 := hS
    refine se rfl (qi call32 rfl (jS a35 _ c35 (invS A Z) p.out qC eC _ _ hS.imm h35 (jz A Z).symm (kW (by omega) hZb) hp.out hC)) ?_
    rintro _ w_32 ⟨I_f, a38, m38, c38, rfl, hE, h38⟩
    replace hS := hS.call hE
    replace hops := hops.mono hE.ext
    replace ho := ho.mono hE.ext
    replace h14 := h14.mono hE.ext
    replace h23 := h23.mono hE.ext
    replace h33 := h33.mono hE.ext
    replace h35 := h35.mono hE.ext
    refine ⟨_, _, (hS0.sel [false, true, true]).le hE.ext (List.Sublist.refl _), hS.sel [false, true, true], ?_⟩
    refine sp rfl (qb _) ?_
    refine sp rfl (ql rfl rfl) ?_
    refine sp rfl (Qxi rfl rfl) ?_
    have hS0 := hS
    refine se rfl (qg 0 hS sizeOf31 rfl rfl rfl (vs := [.bool _, .int .i64 _, .int .i64 _, .slice _ _ _]) rfl rfl rfl (Nat.le_of_ble_eq_true rfl) (cs' := [_, _, _, _]) rfl) ?_
    rintro _ w_33 ⟨rfl, hS⟩
    refine ⟨_, _, fun _ h => h, hS.sel [false, true, true], ?_⟩
    refine sp rfl (Qai rfl) ?_
    refine sn (thenN ?_)
    refine wpIn_seq (QwR (qq hS (Qmi rfl) ?_))
    refine qq hS (g_neq rfl rfl) ?_
    refine QoN ?_
    refine qh rfl ?_ ?_
    ·
     intro hc42
     try simp only [zA, zO, zN, zI, zF, zM, zT, zU] at hc42
     have hq : q = PatL.zero := by
      rw [← he1, hcb hc42, decide_eq_false hc42, Bool.and_false]; rfl
     subst hq
     refine QwR ?_
     refine qq hS (qm (pl := [(0, 1), (1, 1), (2, 1), (3, 1)]) (cs := [.bool _, .int .i64 _, .int .i64 _, .slice _ _ _]) zeroValue31 underlying31 (fun w => by simp [sizeOf29, sizeOf3, sizeOf4]) mp0 rfl) ?_
     refine qq hS (Qmi rfl) ?_
     refine qe (qg 1 hS sizeOf31 rfl rfl rfl (vs := [.bool _, .int .i64 _, .int .i64 _, .slice _ _ _]) rfl rfl rfl (Nat.le_of_ble_eq_true rfl) (cs' := [_, _, _, _]) rfl) ?_
     clear hS
     rintro _ w_34 ⟨rfl, hS⟩
     refine qq hS (Qai rfl) (QoN (wpIn_ret ?_))
     refine thenR ?_
     refine ret2 results11 (qs 1 hS sizeOf31 isAgg31 rfl rfl rfl) (qd (v := .int .i64 _) rfl) ?_
     first | exact ⟨_, none, 0, 0, rfl, hS.nil, RSl.nilR⟩ | exact ⟨_, a38, m38, c38, by rw [hc42] <;> rfl, hS.nil, h38⟩
    ·
     intro hc42
     try simp only [zA, zO, zN, zI, zF, zM, zT, zU] at hc42
     have hq : withL p.lifted qC = q := by
      rw [← he1, decide_eq_true hc42, Bool.and_true]
     subst hq
     refine wpIn_skip (thenN (QwR ?_))
     refine qq hS (qa (o' := 0) underlying31 rfl sizeOf4 rfl rfl rfl) ?_
     refine qq hS (qc 2 isAgg4 rfl rfl rfl) ?_
     refine qq hS (qa (o' := 0) underlying31 rfl sizeOf4 rfl rfl rfl) ?_
     refine qe (qg 0 hS sizeOf4 rfl rfl rfl (vs := [.bool _]) rfl rfl rfl (Nat.le_of_ble_eq_true rfl) (cs' := [_, _, _, _]) rfl) ?_
     clear hS
     rintro _ w_35 ⟨rfl, hS⟩
     refine QoR ?_
     refine qq hS (g_ldO 0 (vs := [.bool _, .int .i64 _, .int .i64 _, .slice _ _ _]) sizeOf31 isAgg31 rfl rfl rfl rfl) ?_
     refine qe (qg 1 hS sizeOf31 rfl rfl rfl (vs := [.bool _, .int .i64 _, .int .i64 _, .slice _ _ _]) rfl rfl rfl (Nat.le_of_ble_eq_true rfl) (cs' := [_, _, _, _]) rfl) ?_
     clear hS
     rintro _ w_36 ⟨rfl, hS⟩
     refine qq hS (Qai rfl) (QoN (wpIn_ret ?_))
     refine ret2 results11 (qs 1 hS sizeOf31 isAgg31 rfl rfl rfl) (qd (v := .int .i64 _) rfl) ?_
     first | exact ⟨_, none, 0, 0, rfl, hS.nil, RSl.nilR⟩ | exact ⟨_, a38, m38, c38, by rw [hc42] <;> rfl, hS.nil, h38⟩
set_option maxHeartbeats 1000000 in
theorem lostR_c (p : PatL) (ad : Option Addr) (m cap : Nat) (RR : List (Int × Int)) (e : Int) (w0 : World) (I0 : Imm) (hI : Sat I0 w0) (hops : ROps I0 (.slice ad m cap) p.ops) (hp : p.wf) (he : lostP p = (RR, e)) :
 Ctr prog 13 [.agg #[.bool p.lifted, .int .i64 p.in_, .int .i64 p.out, .slice ad m cap]] w0 (fun v w' => ∃ I' a c, v = .tuple #[.slice a RR.length c, .int .i64 e] ∧ Ext w0 I0 w' I' ∧ RRgs I' (.slice a RR.length c) RR) := by
 have hlA := jf p
 have hse := zf (p := p)
 unfold lostP at he
 obtain ⟨A, eA, hA⟩ : ∃ A e, symbolsP p = (A, e) := ⟨_, _, rfl⟩
 rw [hA] at he hlA hse
 dsimp only at he hlA hse
 refine fn (n := 56) func13 rfl rfl rfl ?_
 have hS := St.start hI
 refine QwR ?_
 refine qe (d_box (cs := [.bool _, .int .i64 _, .int .i64 _, .slice _ _ _]) hS rfl) ?_
 clear hS
 rintro _ w_1 ⟨b1, rfl, hS⟩
 refine qq hS (qf _) (qq hS (Qai rfl) (QoR ?_))
 refine qq hS (g_ldO 0 (vs := [.bool _, .int .i64 _, .int .i64 _, .slice _ _ _]) sizeOf31 isAgg31 rfl rfl rfl rfl) ?_
 refine qe (qi call30 rfl (zS p ad m cap A eA _ _ hS.imm hops hp hA)) ?_
 rintro _ w_2 ⟨I_f, a11, c11, rfl, hE, h11⟩
 replace hS := hS.callE hE
 replace hops := hops.mono hE.ext
 refine qq hS (qb _) ?_
 refine qq hS (ql rfl rfl) ?_
 refine qq hS (Qxi rfl rfl) ?_
 refine qq hS (qf _) (qq hS (Qai rfl) (QoN (wpIn_seq (QwR (qq hS (Qmi rfl) ?_)))))
 refine qq hS (g_neq rfl rfl) ?_
 refine QoN ?_
 refine qh rfl ?_ ?_
 ·
  intro hc15
  try simp only [zA, zO, zN, zI, zF, zM, zT, zU] at hc15
  have h60 := hse hc15
  subst h60
  rw [if_pos (by decide)] at he
  obtain ⟨rfl, rfl⟩ := Prod.mk.inj he
  refine QwR (qq hS (qf _) (qq hS (Qai rfl) (QoN (wpIn_ret ?_))))
  refine thenR ?_
  refine ret2 results13 (qd rfl) (qd (v := .int .i64 _) rfl) ?_
  exact ⟨_, none, 0, rfl, hS.nil, RFl.nil⟩
 ·
  intro hc15
  try simp only [zA, zO, zN, zI, zF, zM, zT, zU] at hc15
  rw [if_neg (by simp [hc15])] at he
  obtain ⟨he1, he2⟩ := Prod.mk.inj he
  subst he2
  have hck : (checkP p).2 = 0 := (symbolsP_ok' (by rw [hA]; exact hc15)).1
  obtain ⟨k1, k2, k3, k4, k5, k6, k7⟩ := qV hck
  obtain ⟨N, hN⟩ : ∃ N : Nat, p.in_.toNat = N := ⟨_, rfl⟩
  rw [hN] at he1
  refine wpIn_skip (thenN (QwR ?_))
  refine qe (qI hS underlying42 sizeOf55) ?_
  clear hS
  rintro _ w_3 ⟨hS, b16_, rfl⟩
  refine qq hS (qf _) (QoN (wpIn_seq (QwR (qq hS (Qai rfl) (QoN ?_)))))
  refine wpIn_block ?_
  refine loop (fun (x : BtW) σ w => okS σ [(1, .pointer (some ⟨b1, 0, none⟩)), (4, .slice a11 A.length c11), (6, .slice x.a (rngs x.k (fun j => (kept A j).isNone)).length x.c), (7, .int .i64 x.k)] ∧ ∃ I, St [] w0 I0 I w [.row (.slice x.a (rngs x.k (fun j => (kept A j).isNone)).length x.c) 55 2 (rngs x.k (fun j => (kept A j).isNone)).length (flat rgC (rngs x.k (fun j => (kept A j).isNone))), .cel b1 31 [.bool p.lifted, .int .i64 p.in_, .int .i64 p.out, .slice ad m cap]] ∧ x.k ≤ N ∧ RSyms I (.slice a11 A.length c11) A) (fun x => N - x.k) (⟨0, some ⟨b16_, 0, none⟩, 0⟩) ?_ ?_
  ·
   exact ⟨⟨rfl, rfl, rfl, rfl, trivial⟩, _, hS.sel [true, true], by dsimp only; omega, h11⟩
  ·
   rintro ⟨k, a, c⟩ σ w_l ⟨hs, I, hS, hk0, h11⟩
   dsimp only at hs hS hk0 ⊢
   rw [← qj hs]; clear hs
   refine wpIn_seq (QwR (qq hS (Qmi rfl) ?_))
   refine qq hS (qa (o' := 1) underlying31 rfl sizeOf3 rfl rfl rfl) ?_
   refine qq hS (qc 1 isAgg3 rfl rfl rfl) ?_
   refine qq hS (g_lss rfl rfl) ?_
   refine QoN ?_
   refine qh rfl ?_ ?_
   ·
    intro hc20
    try simp only [zA, zO, zN, zI, zF, zM, zT, zU] at hc20
    have hrl : (rngs k (fun j => (kept A j).isNone)).length ≤ 65536 := by have := rngL_len (plc k (fun j => (kept A j).isNone)); have h2 : (plc k (fun j => (kept A j).isNone)).length ≤ k := (by unfold plc; exact Nat.le_trans (List.length_filter_le _ _) (by simp)); unfold rngs; omega
    have hrb : 0 < (rngs k (fun j => (kept A j).isNone)).length → 0 ≤ (lastR (rngs k (fun j => (kept A j).isNone))).2 ∧ (lastR (rngs k (fun j => (kept A j).isNone))).2 ≤ 4294967296 := fun h => by
     have h1 := ju h
     have h2 := (vy (fun j => (kept A j).isNone) k).each _ (List.mem_of_getLast? h1)
     omega
    have hsu := yF k (fun j => (kept A j).isNone)
    refine wpIn_skip (thenN (wpIn_seq (wpIn_block (wpIn_seq (QwR ?_)))))
    refine qq hS (qb _) (qq hS (Qmi rfl) ?_)
    refine qe (qi call36 rfl (firstR_c a11 c11 A (k : Int) _ _ hS.imm h11)) ?_
    rintro _ w_4 ⟨rfl, hE⟩
    replace hS := hS.callE hE
    refine qq hS (g_geq rfl rfl) ?_
    refine QoN ?_
    refine qh rfl ?_ ?_
    ·
     intro hc26
     try simp only [zA, zO, zN, zI, zF, zM, zT, zU] at hc26
     have hfk : (kept A (k : Int)).isNone = false := by
      cases h : kept A (k : Int) with
      | none => rw [h] at hc26; simp at hc26
      | some j => rfl
     rw [hfk] at hsu
     replace hsu : (rngs (k + 1) (fun j => (kept A j).isNone)) = (rngs k (fun j => (kept A j).isNone)) := hsu
     refine wpIn_exit ?_
     refine thenE (blkE ?_)
     refine thenN (reg (qq hS (Qmi rfl) ?_))
     refine qq hS (g_add rfl rfl (by omega) (by omega)) ?_
     refine qq hS (Qai rfl) ?_
     first
      | (refine ⟨⟨k + 1, a54, p54⟩, _, rfl, ⟨⟨rfl, rfl, by rw [hsu, List.length_append] <;> rfl, rfl, trivial⟩, _, ?_, by dsimp only; omega, h11⟩, by dsimp only; omega⟩
         dsimp only
         rw [hsu, List.length_append, qp, qA]
         exact hS.sel [true, true])
      | (refine ⟨⟨k + 1, a, c⟩, _, rfl, ⟨⟨rfl, rfl, by rw [hsu] <;> rfl, rfl, trivial⟩, _, ?_, by dsimp only; omega, h11⟩, by dsimp only; omega⟩
         dsimp only
         rw [hsu]
         exact hS.sel [true, true])
      | (refine ⟨⟨k + 1, a, c⟩, _, rfl, ⟨⟨rfl, rfl, by rw [hsu, List.length_set] <;> rfl, rfl, trivial⟩, _, ?_, by dsimp only; omega, h11⟩, by dsimp only; omega⟩
         dsimp only
         rw [hsu, List.length_set, ← show (((R.length : Int) - 1).toNat) = R.length - 1 by omega]
         exact hS.sel [true, true])
    ·
     intro hc26
     try simp only [zA, zO, zN, zI, zF, zM, zT, zU] at hc26
     have hfk : (kept A (k : Int)).isNone = true := by
      cases h : kept A (k : Int) with
      | none => rfl
      | some j => have := zE h; rw [h] at hc26; simp at hc26; omega
     rw [if_pos hfk] at hsu
     obtain ⟨R, hRE⟩ : ∃ R, (rngs k (fun j => (kept A j).isNone)) = R := ⟨_, rfl⟩
     rw [hRE] at hS hrl hrb hsu ⊢
     refine wpIn_skip (thenN (wpIn_seq ?_))
     refine (Nat.eq_zero_or_pos R.length).elim (fun hz => ?_) (fun hz => ?_)
     ·
      have he := yv (R := R) (i := (k : Int)) (fun h => by omega)
      rw [he] at hsu
      refine reg (qq hS (qb _) ?_)
      refine qq hS (vO 0 rfl underlying42 rfl rfl) ?_
      refine qq hS (Qai rfl) (QoR (qq hS (Qmi rfl) ?_))
      refine qq hS (g_gtF rfl rfl (by omega)) ?_
      refine qq hS (Qmb rfl) ?_
      refine qsf rfl rfl rfl ?_
      refine qsf rfl rfl rfl ?_
      refine qsf rfl rfl rfl ?_
      refine qsf rfl rfl rfl ?_
      refine qsf rfl rfl rfl ?_
      refine qsf rfl rfl rfl ?_
      refine qsf rfl rfl rfl ?_
      refine qsf rfl rfl rfl ?_
      refine qq hS (g_and (b := false) rfl rfl (fun h => by cases h)) ?_
      refine QoN ?_
      refine jb (rfl) ?_
      refine reg (qq hS (qb _) (qq hS (Qmi rfl) (qq hS (Qmi rfl) ?_)))
      refine qq hS (g_add rfl rfl (by omega) (by omega)) ?_
      refine qq hS (qm (pl := [(0, 1), (1, 1)]) (cs := [.int .i64 _, .int .i64 _]) zeroValue55 underlying55 (fun w => by simp [sizeOf3]) (mp (v := .int .i64 _) rfl (mp (v := .int .i64 _) rfl mp0)) rfl) ?_
      refine qe (d_lit (vs := [.agg #[.int .i64 _, .int .i64 _]]) (cs := [.int .i64 _, .int .i64 _]) hS underlying42 sizeOf55 zeroValue55 rfl rfl rfl rfl (fun v hv => by simp only [List.mem_cons, List.not_mem_nil, or_false] at hv; subst hv; rfl) rfl) ?_
      clear hS
      rintro _ w_5 ⟨b53, rfl, hS⟩
      refine qe (qt 1 0 hS rfl underlying42 info55 rfl rfl rfl rfl rfl rfl rfl rfl (by omega) (by omega)) ?_
      clear hS
      rintro _ w_6 ⟨a54, p54, rfl, hS⟩
      refine qq hS (qf _) ?_
      refine qx (blkN (thenN ?_))
      refine reg (qq hS (Qmi rfl) ?_)
      refine qq hS (g_add rfl rfl (by omega) (by omega)) ?_
      refine qq hS (Qai rfl) ?_
      first
       | (refine ⟨⟨k + 1, a54, p54⟩, _, rfl, ⟨⟨rfl, rfl, by rw [hsu, List.length_append] <;> rfl, rfl, trivial⟩, _, ?_, by dsimp only; omega, h11⟩, by dsimp only; omega⟩
          dsimp only
          rw [hsu, List.length_append, qp, qA]
          exact hS.sel [false, true, true])
       | (refine ⟨⟨k + 1, a, c⟩, _, rfl, ⟨⟨rfl, rfl, by rw [hsu] <;> rfl, rfl, trivial⟩, _, ?_, by dsimp only; omega, h11⟩, by dsimp only; omega⟩
          dsimp only
          rw [hsu]
          exact hS.sel [false, true, true])
       | (refine ⟨⟨k + 1, a, c⟩, _, rfl, ⟨⟨rfl, rfl, by rw [hsu, List.length_set] <;> rfl, rfl, trivial⟩, _, ?_, by dsimp only; omega, h11⟩, by dsimp only; omega⟩
          dsimp only
          rw [hsu, List.length_set, ← show (((R.length : Int) - 1).toNat) = R.length - 1 by omega]
          exact hS.sel [false, true, true])
     ·
      have hlast0 : R[R.length - 1]? = some (lastR R) := by rw [← List.getLast?_eq_getElem?]; exact ju hz
      have hlast : R[(((R.length : Int) - 1).toNat)]? = some (lastR R) := by rw [show (((R.length : Int) - 1).toNat) = R.length - 1 by omega]; exact hlast0
      have hc36 : (flat rgC R)[(((R.length : Int) - 1).toNat) * 2 + 1]? = some (.int .i64 (lastR R).2) := by rw [show (((R.length : Int) - 1).toNat) = R.length - 1 by omega]; exact (qJ kT R (R.length - 1) (lastR R) hlast0 1 _ rfl)
      have hlb : 0 ≤ (lastR R).2 ∧ (lastR R).2 ≤ 4294967296 := hrb hz
      refine reg (qq hS (qb _) ?_)
      refine qq hS (vO 0 rfl underlying42 rfl rfl) ?_
      refine qq hS (Qai rfl) (QoR (qq hS (Qmi rfl) ?_))
      refine qq hS (g_gtTK rfl rfl (by omega)) ?_
      refine qq hS (Qmb rfl) ?_
      refine qqs rfl rfl hS (qb _) ?_
      refine qqs rfl rfl hS (Qmi rfl) ?_
      refine qqs rfl rfl hS (g_sub rfl rfl (by omega) (by omega)) ?_
      refine qqs rfl rfl hS (g_ixR 0 underlying42 sizeOf55 rfl rfl rfl (by omega) (by omega)) ?_
      refine qqs rfl rfl hS (qG (c' := 1) underlying55 rfl sizeOf3 rfl rfl rfl) ?_
      refine qqs rfl rfl hS (yK 0 isAgg3 rfl rfl hc36) ?_
      refine qqs rfl rfl hS (Qmi rfl) ?_
      refine qqs rfl rfl hS (g_eql rfl rfl) ?_
      refine qq hS (g_and rfl rfl (fun _ => rfl)) ?_
      refine QoN ?_
      refine qh rfl ?_ ?_
      ·
       intro hc40
       try simp only [zA, zO, zN, zI, zF, zM, zT, zU] at hc40
       have he := (extR_set hz hc40.2).1
       rw [he] at hsu
       refine reg (qq hS (qb _) (qq hS (Qmi rfl) ?_))
       refine qq hS (g_sub rfl rfl (by omega) (by omega)) ?_
       refine qq hS (Qmi rfl) ?_
       refine qq hS (g_add rfl rfl (by omega) (by omega)) ?_
       refine qq hS (g_ixR 0 underlying42 sizeOf55 rfl rfl rfl (by omega) (by omega)) ?_
       refine qq hS (qG (c' := 1) underlying55 rfl sizeOf3 rfl rfl rfl) ?_
       refine qe (jg 0 kT ((lastR R).1, (k : Int) + 1) hS rfl hlast sizeOf3 rfl rfl rfl (vs := [.int .i64 _]) rfl rfl rfl rfl rfl) ?_
       clear hS
       rintro _ w_7 ⟨rfl, hS⟩
       refine qx (blkN (thenN ?_))
       refine reg (qq hS (Qmi rfl) ?_)
       refine qq hS (g_add rfl rfl (by omega) (by omega)) ?_
       refine qq hS (Qai rfl) ?_
       first
        | (refine ⟨⟨k + 1, a54, p54⟩, _, rfl, ⟨⟨rfl, rfl, by rw [hsu, List.length_append] <;> rfl, rfl, trivial⟩, _, ?_, by dsimp only; omega, h11⟩, by dsimp only; omega⟩
           dsimp only
           rw [hsu, List.length_append, qp, qA]
           exact hS.sel [true, true])
        | (refine ⟨⟨k + 1, a, c⟩, _, rfl, ⟨⟨rfl, rfl, by rw [hsu] <;> rfl, rfl, trivial⟩, _, ?_, by dsimp only; omega, h11⟩, by dsimp only; omega⟩
           dsimp only
           rw [hsu]
           exact hS.sel [true, true])
        | (refine ⟨⟨k + 1, a, c⟩, _, rfl, ⟨⟨rfl, rfl, by rw [hsu, List.length_set] <;> rfl, rfl, trivial⟩, _, ?_, by dsimp only; omega, h11⟩, by dsimp only; omega⟩
           dsimp only
           rw [hsu, List.length_set, ← show (((R.length : Int) - 1).toNat) = R.length - 1 by omega]
           exact hS.sel [true, true])
      ·
       intro hc40
       try simp only [zA, zO, zN, zI, zF, zM, zT, zU] at hc40
       have he := yv (R := R) (i := k) (fun _ => hc40 trivial)
       rw [he] at hsu
       refine reg (qq hS (qb _) (qq hS (Qmi rfl) (qq hS (Qmi rfl) ?_)))
       refine qq hS (g_add rfl rfl (by omega) (by omega)) ?_
       refine qq hS (qm (pl := [(0, 1), (1, 1)]) (cs := [.int .i64 _, .int .i64 _]) zeroValue55 underlying55 (fun w => by simp [sizeOf3]) (mp (v := .int .i64 _) rfl (mp (v := .int .i64 _) rfl mp0)) rfl) ?_
       refine qe (d_lit (vs := [.agg #[.int .i64 _, .int .i64 _]]) (cs := [.int .i64 _, .int .i64 _]) hS underlying42 sizeOf55 zeroValue55 rfl rfl rfl rfl (fun v hv => by simp only [List.mem_cons, List.not_mem_nil, or_false] at hv; subst hv; rfl) rfl) ?_
       clear hS
       rintro _ w_8 ⟨b53, rfl, hS⟩
       refine qe (qt 1 0 hS rfl underlying42 info55 rfl rfl rfl rfl rfl rfl rfl rfl (by omega) (by omega)) ?_
       clear hS
       rintro _ w_9 ⟨a54, p54, rfl, hS⟩
       refine qq hS (qf _) ?_
       refine qx (blkN (thenN ?_))
       refine reg (qq hS (Qmi rfl) ?_)
       refine qq hS (g_add rfl rfl (by omega) (by omega)) ?_
       refine qq hS (Qai rfl) ?_
       first
        | (refine ⟨⟨k + 1, a54, p54⟩, _, rfl, ⟨⟨rfl, rfl, by rw [hsu, List.length_append] <;> rfl, rfl, trivial⟩, _, ?_, by dsimp only; omega, h11⟩, by dsimp only; omega⟩
           dsimp only
           rw [hsu, List.length_append, qp, qA]
           exact hS.sel [false, true, true])
        | (refine ⟨⟨k + 1, a, c⟩, _, rfl, ⟨⟨rfl, rfl, by rw [hsu] <;> rfl, rfl, trivial⟩, _, ?_, by dsimp only; omega, h11⟩, by dsimp only; omega⟩
           dsimp only
           rw [hsu]
           exact hS.sel [false, true, true])
        | (refine ⟨⟨k + 1, a, c⟩, _, rfl, ⟨⟨rfl, rfl, by rw [hsu, List.length_set] <;> rfl, rfl, trivial⟩, _, ?_, by dsimp only; omega, h11⟩, by dsimp only; omega⟩
           dsimp only
           rw [hsu, List.length_set, ← show (((R.length : Int) - 1).toNat) = R.length - 1 by omega]
           exact hS.sel [false, true, true])
   ·
    intro hc20
    try simp only [zA, zO, zN, zI, zF, zM, zT, zU] at hc20
    obtain rfl : k = N := by omega
    rw [he1] at hS
    refine wpIn_exit ?_
    refine thenE (thenE (blkE ?_))
    refine thenN (QwR (qq hS (qb _) (qq hS (qf _) (qq hS (Qai rfl) (QoN ?_)))))
    refine wpIn_ret ?_
    refine ret2 results13 (qd rfl) (qd (v := .int .i64 _) rfl) ?_
    obtain ⟨I1, hE1, hI1, hd1⟩ := qE kT (xs := RR) (hS.sel [true, false]) rfl
    exact ⟨I1, a, c, by rw [← he1] <;> rfl, hE1, hd1⟩
end Go.Proofs.YtaklmbhfmpdinaaGreat
namespace Go.Proofs.YtaklmbhfmpdinaaGreat
open Tryz
open Go Go.RowKit Go.Inl
theorem lifN_wf {x y : List Int} {n : Nat} (hx : n ≤ x.length) (hy : n ≤ y.length) (h0 : x.length ≤ 65536) (h1 : y.length ≤ 65536) (hb : Byts y) : (lifN x y n).wf := by
 refine ⟨by unfold lifN Mid; dsimp only; omega, by unfold lifN Mid; dsimp only; omega, ?_, ?_⟩
 · intro z hz
   unfold lifN at hz
   rcases List.mem_append.1 hz with h | h
   · split at h
     · rw [List.mem_singleton] at h; subst h
       exact ⟨by unfold Mid; dsimp only; omega, by unfold Mid; dsimp only; omega, by unfold Mid; dsimp only; omega, by dsimp only; omega, fun y hy => by cases hy⟩
     · cases h
   · split at h
     · rw [List.mem_singleton] at h; subst h
       exact ⟨by unfold Mid; dsimp only; omega, by unfold Mid; dsimp only; omega, by unfold Mid; dsimp only; omega, by dsimp only; omega, fun z hz => hb z (List.mem_of_mem_drop hz)⟩
     · cases h
 · unfold lifN
   dsimp only
   by_cases h2 : 0 < n <;> by_cases h3 : n < y.length <;> simp [h2, h3]
theorem take_same {x y : List Int} {n : Nat} (hx : n ≤ x.length) (hy : n ≤ y.length) (h : ∀ i, i < n → x[i]? = y[i]?) : x.take n = y.take n := by
 refine List.ext_getElem? fun i => ?_
 rw [List.getElem?_take, List.getElem?_take]
 split
 · exact h i (by assumption)
 · rfl
set_option maxHeartbeats 2000000 in
theorem lifted_c (bd ed : Option Addr) (capb cape : Nat) (old nw : List Int) (w0 : World) (I0 : Imm) (hI : Sat I0 w0) (ho : RBytes I0 (.slice bd old.length capb) old) (hob : Byts old) (hen : RBytes I0 (.slice ed nw.length cape) nw) (hnb : Byts nw) (hncA : noCode old = false) (hncB : noCode nw = false) :
 Ctr prog 8 [.slice bd old.length capb, .slice ed nw.length cape] w0 (fun v w' => ∃ I' a m c n, v = .agg #[.bool true, .int .i64 (codeF old).length, .int .i64 (codeF nw).length, .slice a m c] ∧ Ext w0 I0 w' I' ∧ n ≤ (codeF old).length ∧ n ≤ (codeF nw).length ∧ (codeF old).take n = (codeF nw).take n ∧ ROps I' (.slice a m c) (lifN (codeF old) (codeF nw) n).ops) := by
 obtain ⟨x, hxeA⟩ : ∃ x, liftP (wordsN old (old.length / 4)) = x := ⟨_, rfl⟩
 have hBA := vi hob hncA hxeA
 have hcfA : codeF old = formP x := by unfold codeF; rw [hxeA]
 have hriA : Rise x.labels := by rw [← hxeA]; exact kH _
 have hBA0 := hBA.n0
 have hBA1 := hBA.n1
 have hBA2 := hBA.n2
 obtain ⟨hnA4, hnA5⟩ := jK hncA
 have hflA := kN x
 have hbyA := jw x
 obtain ⟨y, hxeB⟩ : ∃ x, liftP (wordsN nw (nw.length / 4)) = x := ⟨_, rfl⟩
 have hBB := vi hnb hncB hxeB
 have hcfB : codeF nw = formP y := by unfold codeF; rw [hxeB]
 have hriB : Rise y.labels := by rw [← hxeB]; exact kH _
 have hBB0 := hBB.n0
 have hBB1 := hBB.n1
 have hBB2 := hBB.n2
 obtain ⟨hnB4, hnB5⟩ := jK hncB
 have hflB := kN y
 have hbyB := jw y
 rw [hcfA, hcfB]
 refine fn (n := 82) func8 rfl rfl rfl ?_
 have hS := St.start hI
 refine QwR ?_
 refine qe (qk (cs := [.bool _, .int .i64 _, .int .i64 _, .slice _ _ _]) hS zeroValue31 rfl) ?_
 clear hS
 rintro _ w_1 ⟨b4, rfl, hS⟩
 refine QoR (qq hS (qb _) ?_)
 refine qe (qi call23 rfl (yt bd capb old x _ _ hS.imm ho hob hncA hxeA)) ?_
 rintro _ w_2 ⟨I_f, aA0, cA0, aA1, cA1, aA2, cA2, rfl, hE, hxA⟩
 replace hS := hS.callE hE
 replace ho := ho.mono hE.ext
 replace hen := hen.mono hE.ext
 refine qq hS (qb _) ?_
 refine qq hS (ql rfl rfl) ?_
 refine qq hS (Qxi rfl rfl) ?_
 refine qe (qk (cs := [.slice _ _ _, .slice _ _ _, .slice _ _ _]) hS zeroValue70 rfl) ?_
 clear hS
 rintro _ w_3 ⟨b5, rfl, hS⟩
 refine qe (qg 0 hS sizeOf70 rfl rfl rfl (vs := [.slice _ _ _, .slice _ _ _, .slice _ _ _]) rfl rfl rfl (Nat.le_of_ble_eq_true rfl) (cs' := [_, _, _]) rfl) ?_
 clear hS
 rintro _ w_4 ⟨rfl, hS⟩
 refine qq hS (Qai rfl) (QoR (qq hS (qb _) ?_))
 refine qe (qi call23 rfl (yt ed cape nw y _ _ hS.imm hen hnb hncB hxeB)) ?_
 rintro _ w_5 ⟨I_f, aB0, cB0, aB1, cB1, aB2, cB2, rfl, hE, hxB⟩
 replace hS := hS.callE hE
 replace ho := ho.mono hE.ext
 replace hen := hen.mono hE.ext
 replace hxA := hxA.mono hE.ext
 refine qq hS (qb _) ?_
 refine qq hS (ql rfl rfl) ?_
 refine qq hS (Qxi rfl rfl) ?_
 refine qe (qk (cs := [.slice _ _ _, .slice _ _ _, .slice _ _ _]) hS zeroValue70 rfl) ?_
 clear hS
 rintro _ w_6 ⟨b7, rfl, hS⟩
 refine qe (qg 0 hS sizeOf70 rfl rfl rfl (vs := [.slice _ _ _, .slice _ _ _, .slice _ _ _]) rfl rfl rfl (Nat.le_of_ble_eq_true rfl) (cs' := [_, _, _]) rfl) ?_
 clear hS
 rintro _ w_7 ⟨rfl, hS⟩
 refine qq hS (Qai rfl) (QoR ?_)
 refine qq hS (g_ldO 1 (vs := [.slice _ _ _, .slice _ _ _, .slice _ _ _]) sizeOf70 isAgg70 rfl rfl rfl rfl) ?_
 refine qe (qi call24 rfl (zk x aA0 aA1 aA2 cA0 cA1 cA2 _ _ hS.imm hxA hBA.w hBA.l (by omega) (by omega) (by omega) hriA)) ?_
 rintro _ w_8 ⟨I_f, a24, c24, rfl, hE, h24⟩
 replace hS := hS.callE hE
 replace ho := ho.mono hE.ext
 replace hen := hen.mono hE.ext
 replace hxA := hxA.mono hE.ext
 replace hxB := hxB.mono hE.ext
 refine qq hS (qf _) (QoR ?_)
 refine qq hS (g_ldO 0 (vs := [.slice _ _ _, .slice _ _ _, .slice _ _ _]) sizeOf70 isAgg70 rfl rfl rfl rfl) ?_
 refine qe (qi call24 rfl (zk y aB0 aB1 aB2 cB0 cB1 cB2 _ _ hS.imm hxB hBB.w hBB.l (by omega) (by omega) (by omega) hriB)) ?_
 rintro _ w_9 ⟨I_f, a26, c26, rfl, hE, h26⟩
 replace hS := hS.callE hE
 replace ho := ho.mono hE.ext
 replace hen := hen.mono hE.ext
 replace hxA := hxA.mono hE.ext
 replace hxB := hxB.mono hE.ext
 replace h24 := h24.mono hE.ext
 refine qq hS (qf _) (QoR (qq hS (Qai rfl) (QoN (wpIn_seq (wpIn_block ?_)))))
 refine loop (fun (k : Nat) σ w => okS σ [(4, .pointer (some ⟨b4, 0, none⟩)), (9, .slice a24 (formP x).length c24), (10, .slice a26 (formP y).length c26), (11, .int .i64 k)] ∧ ∃ I, St [] w0 I0 I w [.cel b4 31 [.bool false, .int .i64 0, .int .i64 0, .slice none 0 0]] ∧ (k ≤ (formP x).length ∧ k ≤ (formP y).length) ∧ (∀ i, i < k → (formP x)[i]? = (formP y)[i]?) ∧ RBytes I (.slice a24 (formP x).length c24) (formP x) ∧ RBytes I (.slice a26 (formP y).length c26) (formP y)) (fun k => (formP x).length - k) (0) ?_ ?_
 ·
  exact ⟨⟨rfl, rfl, rfl, rfl, trivial⟩, _, hS.sel [false, false, true], by omega, fun i hi => by omega, h24, h26⟩
 ·
  rintro k σ w_l ⟨hs, I, hS, hk, hsame, h24, h26⟩
  rw [← qj hs]; clear hs
  have hXA : k < (formP x).length → atI I (elA (.slice a24 (formP x).length c24) k 1 0) [.int .u8 ((formP x).getD k 0)] := fun h => h24.at (qM h)
  have hYA : k < (formP y).length → atI I (elA (.slice a26 (formP y).length c26) k 1 0) [.int .u8 ((formP y).getD k 0)] := fun h => h26.at (qM h)
  refine wpIn_seq (wpIn_seq ?_)
  refine draw (.cons 0 .pure (.cons 1 .pure (.cons 2 .pure (.cons 3 .pure (.cons 4 .pure (.cons 5 .pure (.cons 6 .pure (.cons 7 .pure (.cons 8 .pure (.cons 9 .pure (.cons 10 .pure (.cons 11 .pure (.cons 12 .pure (.cons 13 .pure (.cons 14 .held (.cons 15 .pure (.cons 16 .pure (.cons 17 .pure (.cons 18 .held (.cons 19 .pure (.cons 20 .pure .nil))))))))))))))))))))) mixed (by kernel_rfl) hS ?_
  intro w_10 hS
  refine sp rfl (Qmi rfl) ?_
  refine sp rfl (qb _) ?_
  refine sp rfl (qo rfl underlying25 h24 rfl) ?_
  refine sp rfl (g_lss rfl rfl) ?_
  refine sp rfl (Qmb rfl) ?_
  refine spu rfl rfl rfl (fun hg => (Qmi rfl)) ?_
  intro u32 hu32 hn32
  refine spu rfl rfl rfl (fun hg => (qb _)) ?_
  intro u33 hu33 hn33
  refine spu rfl rfl rfl (fun hg => (qo rfl underlying25 h26 (hu33 hg))) ?_
  intro u34 hu34 hn34
  refine spu rfl rfl rfl (fun hg => (g_lss (hu32 hg) (hu34 hg))) ?_
  intro u35 hu35 hn35
  refine sp rfl (g_and rfl rfl (fun hq => hu35 hq)) ?_
  refine sp rfl (Qmb rfl) ?_
  refine spu rfl rfl rfl (fun hg => (qb _)) ?_
  intro u38 hu38 hn38
  refine spu rfl rfl rfl (fun hg => (Qmi rfl)) ?_
  intro u39 hu39 hn39
  refine spu rfl rfl rfl (fun hg => (g_ixI underlying25 sizeOf5 h24 (hu38 hg) (hu39 hg) (by have h9 := hg; simp only [Bool.and_eq_true, decide_eq_true_eq] at h9; omega) (by have h9 := hg; simp only [Bool.and_eq_true, decide_eq_true_eq] at h9; omega))) ?_
  intro u40 hu40 hn40
  refine shu rfl rfl rfl (fun hg => (qr isAgg5 (hXA (by have h9 := hg; simp only [Bool.and_eq_true, decide_eq_true_eq] at h9; omega)) (hu40 hg) rfl)) ?_
  intro u41 hu41 hn41
  refine spu rfl rfl rfl (fun hg => (qb _)) ?_
  intro u42 hu42 hn42
  refine spu rfl rfl rfl (fun hg => (Qmi rfl)) ?_
  intro u43 hu43 hn43
  refine spu rfl rfl rfl (fun hg => (g_ixI underlying25 sizeOf5 h26 (hu42 hg) (hu43 hg) (by have h9 := hg; simp only [Bool.and_eq_true, decide_eq_true_eq] at h9; omega) (by have h9 := hg; simp only [Bool.and_eq_true, decide_eq_true_eq] at h9; omega))) ?_
  intro u44 hu44 hn44
  refine shu rfl rfl rfl (fun hg => (qr isAgg5 (hYA (by have h9 := hg; simp only [Bool.and_eq_true, decide_eq_true_eq] at h9; omega)) (hu44 hg) rfl)) ?_
  intro u45 hu45 hn45
  refine spu rfl rfl rfl (fun hg => (g_eql (hu41 hg) (hu45 hg))) ?_
  intro u46 hu46 hn46
  refine sp rfl (g_and rfl rfl (fun hq => hu46 hq)) ?_
  refine sn (thenN ?_)
  refine qh rfl ?_ ?_
  ·
   intro hc47
   clear hu32 hn32 hu33 hn33 hu34 hn34 hu35 hn35 hu38 hn38 hu39 hn39 hu40 hn40 hu41 hn41 hu42 hn42 hu43 hn43 hu44 hn44 hu45 hn45 hu46 hn46
   have h9 := hc47
   simp only [Bool.and_eq_true, decide_eq_true_eq] at h9
   have hs2 := zt hsame (qM (l := formP x) (i := k) (by omega)) (qM (l := formP y) (i := k) (by omega)) h9.2
   refine wpIn_skip (thenN (wpIn_block (reg (qq hS (Qmi rfl) ?_))))
   refine qq hS (g_add rfl rfl (by omega) (by omega)) ?_
   refine qq hS (Qai rfl) ?_
   exact ⟨k + 1, _, rfl, ⟨⟨rfl, rfl, rfl, rfl, trivial⟩, _, hS.sel [true], by omega, hs2, h24, h26⟩, by omega⟩
  ·
   intro hc47
   clear hu32 hn32 hu33 hn33 hu34 hn34 hu35 hn35 hu38 hn38 hu39 hn39 hu40 hn40 hu41 hn41 hu42 hn42 hu43 hn43 hu44 hn44 hu45 hn45 hu46 hn46
   refine wpIn_exit ?_
   refine thenE (thenE (blkE ?_))
   refine thenN (wpIn_seq ?_)
   have hts := take_same hk.1 hk.2 hsame
   refine reg (qq hS (qb _) ?_)
   refine qq hS (qo rfl underlying25 h24 rfl) ?_
   refine qq hS (qb _) ?_
   refine qq hS (qo rfl underlying25 h26 rfl) ?_
   refine qq hS (qm (pl := [(0, 1), (1, 1), (2, 1), (3, 1)]) (cs := [.bool _, .int .i64 _, .int .i64 _, .slice _ _ _]) zeroValue31 underlying31 (fun w => by simp [sizeOf29, sizeOf3, sizeOf4]) (mp (v := .bool _) rfl (mp (v := .int .i64 _) rfl (mp (v := .int .i64 _) rfl mp0))) rfl) ?_
   refine qe (qk (cs := [.bool _, .int .i64 _, .int .i64 _, .slice _ _ _]) hS zeroValue31 rfl) ?_
   clear hS
   rintro _ w_11 ⟨b12, rfl, hS⟩
   refine qe (qg 0 hS sizeOf31 rfl rfl rfl (vs := [.bool _, .int .i64 _, .int .i64 _, .slice _ _ _]) rfl rfl rfl (Nat.le_of_ble_eq_true rfl) (cs' := [_, _, _, _]) rfl) ?_
   clear hS
   rintro _ w_12 ⟨rfl, hS⟩
   refine QoN (wpIn_seq (wpIn_seq ?_))
   replace hS := hS.nilRow 53 5
   refine reg (qq hS (Qmi rfl) ?_)
   refine qq hS (g_gtr rfl rfl) ?_
   refine QoN ?_
   refine qh rfl ?_ ?_
   ·
    intro hc56
    try simp only [zA, zO, zN, zI, zF, zM, zT, zU] at hc56
    refine reg ?_
    refine qq hS (qa (o' := 3) underlying31 rfl sizeOf29 rfl rfl rfl) ?_
    refine qq hS (qc 1 isAgg29 rfl rfl rfl) ?_
    refine qq hS (Qmi rfl) ?_
    refine qq hS (qm (pl := [(0, 1), (1, 1), (2, 1), (3, 1), (4, 1)]) (cs := [.int .i64 _, .int .i64 _, .int .i64 _, .int .u8 _, .slice _ _ _]) zeroValue53 underlying53 (fun w => by simp [sizeOf25, sizeOf3, sizeOf5]) (mp (v := .int .i64 _) rfl (mp (v := .int .i64 _) rfl mp0)) rfl) ?_
    refine qe (d_lit (vs := [.agg #[.int .i64 _, .int .i64 _, .int .i64 _, .int .u8 _, .slice _ _ _]]) (cs := [.int .i64 _, .int .i64 _, .int .i64 _, .int .u8 _, .slice _ _ _]) hS underlying29 sizeOf53 zeroValue53 rfl rfl rfl rfl (fun v hv => by simp only [List.mem_cons, List.not_mem_nil, or_false] at hv; subst hv; rfl) rfl) ?_
    clear hS
    rintro _ w_13 ⟨b61, rfl, hS⟩
    refine qe (qt 1 0 hS rfl underlying29 info53 rfl rfl rfl rfl rfl rfl rfl rfl (by omega) (by omega)) ?_
    clear hS
    rintro _ w_14 ⟨a62, p62, rfl, hS⟩
    refine qq hS (qa (o' := 3) underlying31 rfl sizeOf29 rfl rfl rfl) ?_
    refine qe (qg 2 hS sizeOf29 rfl rfl rfl (vs := [.slice _ _ _]) rfl rfl rfl (Nat.le_of_ble_eq_true rfl) (cs' := [_, _, _, _]) rfl) ?_
    clear hS
    rintro _ w_15 ⟨rfl, hS⟩
    refine QoN (wpIn_seq (QwR (qq hS (Qmi rfl) (qq hS (qb _) ?_))))
    refine qq hS (qo rfl underlying25 h26 rfl) ?_
    refine qq hS (g_lss rfl rfl) ?_
    refine QoN ?_
    refine qh rfl ?_ ?_
    ·
     intro hc67
     try simp only [zA, zO, zN, zI, zF, zM, zT, zU] at hc67
     have hs76 := RSl.slL h26 k hk.2
     obtain ⟨a76, c76, hv76, _⟩ := hs76.len
     rw [hv76] at hs76
     refine draw (.cons 0 .pure (.cons 1 .held (.cons 2 .pure (.cons 3 .pure (.cons 4 .pure (.cons 5 .pure (.cons 6 .pure (.cons 7 .pure (.cons 8 .pure (.cons 9 .pure (.cons 10 .eff (.cons 11 .bar (.cons 12 .pure (.cons 13 .bar .nil)))))))))))))) mixed (by kernel_rfl) hS ?_
     intro w_16 hS
     refine sp rfl (qa (o' := 3) underlying31 rfl sizeOf29 rfl rfl rfl) ?_
     refine sh rfl (qc 2 isAgg29 rfl rfl rfl) ?_
     refine sp rfl (qb _) ?_
     refine sp rfl (qo rfl underlying25 h26 rfl) ?_
     refine sp rfl (Qmi rfl) ?_
     refine sp rfl (g_sub rfl rfl (by omega) (by omega)) ?_
     refine sp rfl (qb _) ?_
     refine sp rfl (Qmi rfl) ?_
     refine sp rfl (g_toV (jF (l0 := k) underlying25 sizeOf5 rfl rfl (by omega) (by omega) (by omega)) hv76) ?_
     refine sp rfl (qm (pl := [(0, 1), (1, 1), (2, 1), (3, 1), (4, 1)]) (cs := [.int .i64 _, .int .i64 _, .int .i64 _, .int .u8 _, .slice _ _ _]) zeroValue53 underlying53 (fun w => by simp [sizeOf25, sizeOf3, sizeOf5]) (mp (v := .int .i64 _) rfl (mp (v := .int .i64 _) rfl (mp (v := .slice _ _ _) rfl mp0))) rfl) ?_
     have hS0 := hS
     refine se rfl (d_lit (vs := [.agg #[.int .i64 _, .int .i64 _, .int .i64 _, .int .u8 _, .slice _ _ _]]) (cs := [.int .i64 _, .int .i64 _, .int .i64 _, .int .u8 _, .slice _ _ _]) hS underlying29 sizeOf53 zeroValue53 rfl rfl rfl rfl (fun v hv => by simp only [List.mem_cons, List.not_mem_nil, or_false] at hv; subst hv; rfl) rfl) ?_
     rintro _ w_17 ⟨b78, rfl, hS⟩
     refine ⟨_, _, hS0.le (Sub.refl _) (List.sublist_cons_self _ _), hS, ?_⟩
     refine sb rfl (qt 2 0 hS rfl underlying29 info53 rfl rfl rfl rfl rfl rfl rfl rfl (by omega) (by omega)) ?_
     rintro _ w_18 ⟨a79, p79, rfl, hS⟩
     refine ⟨_, _, hS, ?_⟩
     refine sp rfl (qa (o' := 3) underlying31 rfl sizeOf29 rfl rfl rfl) ?_
     refine sb rfl (qg 3 hS sizeOf29 rfl rfl rfl (vs := [.slice _ _ _]) rfl rfl rfl (Nat.le_of_ble_eq_true rfl) (cs' := [_, _, _, _]) rfl) ?_
     rintro _ w_19 ⟨rfl, hS⟩
     refine ⟨_, _, hS, ?_⟩
     refine sn (thenN ?_)
     refine QwR ?_
     refine qq hS (g_ldO 3 (vs := [.bool _, .int .i64 _, .int .i64 _, .slice _ _ _]) sizeOf31 isAgg31 rfl rfl rfl rfl) ?_
     refine qe (qg 4 hS sizeOf31 rfl rfl rfl (vs := [.bool _, .int .i64 _, .int .i64 _, .slice _ _ _]) rfl rfl rfl (Nat.le_of_ble_eq_true rfl) (cs' := [_, _, _, _]) rfl) ?_
     clear hS
     rintro _ w_20 ⟨rfl, hS⟩
     refine QoN (wpIn_ret ?_)
     refine ret1 results8 (qs 4 hS sizeOf31 isAgg31 rfl rfl rfl) ?_
     first
      | (have hops2 : (lifN (formP x) (formP y) k).ops = [⟨1, 0, (k : Int), 0, []⟩, ⟨4, 0, ((formP y).length : Int) - k, 0, (formP y).drop k⟩] := by unfold lifN; dsimp only; rw [if_pos (by omega), if_pos (by omega)]; rfl
         obtain ⟨I2, hS2, hI2, hd2⟩ := St.freezeRowR (R := ROp I) (xs := [⟨1, 0, (k : Int), 0, []⟩, ⟨4, 0, ((formP y).length : Int) - k, 0, (formP y).drop k⟩]) (css := [[.int .i64 1, .int .i64 0, .int .i64 k, .int .u8 0, .slice none 0 0], [.int .i64 4, .int .i64 0, .int .i64 (((formP y).length : Int) - k), .int .u8 0, .slice a76 ((formP y).drop k).length c76]]) (hS.sel [false, false, true, false, false]) rfl (by simp) ((All2.cons ⟨_, _, _, rfl, RFl.nil⟩ (All2.cons ⟨_, _, _, rfl, hs76⟩ (All2.nil _))))
         exact ⟨I2, a79, _, p79, k, rfl, hS2.nil, by omega, by omega, hts, by rw [hops2]; exact RSl.mono hd2 (Sub.refl _) (fun _ _ h => h.mono hI2)⟩)
      | (have hops2 : (lifN (formP x) (formP y) k).ops = [⟨1, 0, (k : Int), 0, []⟩] := by unfold lifN; dsimp only; rw [if_pos (by omega), if_neg (by omega)]; rfl
         obtain ⟨I2, hS2, hI2, hd2⟩ := St.freezeRowR (R := ROp I) (xs := [⟨1, 0, (k : Int), 0, []⟩]) (css := [[.int .i64 1, .int .i64 0, .int .i64 k, .int .u8 0, .slice none 0 0]]) (hS.sel [false, false, true, false, false]) rfl (by simp) ((All2.cons ⟨_, _, _, rfl, RFl.nil⟩ (All2.nil _)))
         exact ⟨I2, a62, _, p62, k, rfl, hS2.nil, by omega, by omega, hts, by rw [hops2]; exact RSl.mono hd2 (Sub.refl _) (fun _ _ h => h.mono hI2)⟩)
      | (have hops2 : (lifN (formP x) (formP y) k).ops = [⟨4, 0, ((formP y).length : Int) - k, 0, (formP y).drop k⟩] := by unfold lifN; dsimp only; rw [if_neg (by omega), if_pos (by omega)]; rfl
         obtain ⟨I2, hS2, hI2, hd2⟩ := St.freezeRowR (R := ROp I) (xs := [⟨4, 0, ((formP y).length : Int) - k, 0, (formP y).drop k⟩]) (css := [[.int .i64 4, .int .i64 0, .int .i64 (((formP y).length : Int) - k), .int .u8 0, .slice a76 ((formP y).drop k).length c76]]) (hS.sel [false, false, true, false, false]) rfl (by simp) ((All2.cons ⟨_, _, _, rfl, hs76⟩ (All2.nil _)))
         exact ⟨I2, a79, _, p79, k, rfl, hS2.nil, by omega, by omega, hts, by rw [hops2]; exact RSl.mono hd2 (Sub.refl _) (fun _ _ h => h.mono hI2)⟩)
      | (have hops2 : (lifN (formP x) (formP y) k).ops = ([] : List OpL) := by unfold lifN; dsimp only; rw [if_neg (by omega), if_neg (by omega)]; rfl
         obtain ⟨I2, hS2, hI2, hd2⟩ := St.freezeRowR (R := ROp I) (xs := ([] : List OpL)) (css := []) (hS.sel [false, false, true, false, false]) rfl (by simp) (All2.nil _)
         exact ⟨I2, none, _, 0, k, rfl, hS2.nil, by omega, by omega, hts, by rw [hops2]; exact RSl.mono hd2 (Sub.refl _) (fun _ _ h => h.mono hI2)⟩)
    ·
     intro hc67
     try simp only [zA, zO, zN, zI, zF, zM, zT, zU] at hc67
     refine wpIn_skip (thenN (QwR ?_))
     refine qq hS (g_ldO 2 (vs := [.bool _, .int .i64 _, .int .i64 _, .slice _ _ _]) sizeOf31 isAgg31 rfl rfl rfl rfl) ?_
     refine qe (qg 3 hS sizeOf31 rfl rfl rfl (vs := [.bool _, .int .i64 _, .int .i64 _, .slice _ _ _]) rfl rfl rfl (Nat.le_of_ble_eq_true rfl) (cs' := [_, _, _, _]) rfl) ?_
     clear hS
     rintro _ w_21 ⟨rfl, hS⟩
     refine QoN (wpIn_ret ?_)
     refine ret1 results8 (qs 3 hS sizeOf31 isAgg31 rfl rfl rfl) ?_
     first
      | (have hops2 : (lifN (formP x) (formP y) k).ops = [⟨1, 0, (k : Int), 0, []⟩, ⟨4, 0, ((formP y).length : Int) - k, 0, (formP y).drop k⟩] := by unfold lifN; dsimp only; rw [if_pos (by omega), if_pos (by omega)]; rfl
         obtain ⟨I2, hS2, hI2, hd2⟩ := St.freezeRowR (R := ROp I) (xs := [⟨1, 0, (k : Int), 0, []⟩, ⟨4, 0, ((formP y).length : Int) - k, 0, (formP y).drop k⟩]) (css := [[.int .i64 1, .int .i64 0, .int .i64 k, .int .u8 0, .slice none 0 0], [.int .i64 4, .int .i64 0, .int .i64 (((formP y).length : Int) - k), .int .u8 0, .slice a76 ((formP y).drop k).length c76]]) (hS.sel [false, true, false, false]) rfl (by simp) ((All2.cons ⟨_, _, _, rfl, RFl.nil⟩ (All2.cons ⟨_, _, _, rfl, hs76⟩ (All2.nil _))))
         exact ⟨I2, a79, _, p79, k, rfl, hS2.nil, by omega, by omega, hts, by rw [hops2]; exact RSl.mono hd2 (Sub.refl _) (fun _ _ h => h.mono hI2)⟩)
      | (have hops2 : (lifN (formP x) (formP y) k).ops = [⟨1, 0, (k : Int), 0, []⟩] := by unfold lifN; dsimp only; rw [if_pos (by omega), if_neg (by omega)]; rfl
         obtain ⟨I2, hS2, hI2, hd2⟩ := St.freezeRowR (R := ROp I) (xs := [⟨1, 0, (k : Int), 0, []⟩]) (css := [[.int .i64 1, .int .i64 0, .int .i64 k, .int .u8 0, .slice none 0 0]]) (hS.sel [false, true, false, false]) rfl (by simp) ((All2.cons ⟨_, _, _, rfl, RFl.nil⟩ (All2.nil _)))
         exact ⟨I2, a62, _, p62, k, rfl, hS2.nil, by omega, by omega, hts, by rw [hops2]; exact RSl.mono hd2 (Sub.refl _) (fun _ _ h => h.mono hI2)⟩)
      | (have hops2 : (lifN (formP x) (formP y) k).ops = [⟨4, 0, ((formP y).length : Int) - k, 0, (formP y).drop k⟩] := by unfold lifN; dsimp only; rw [if_neg (by omega), if_pos (by omega)]; rfl
         obtain ⟨I2, hS2, hI2, hd2⟩ := St.freezeRowR (R := ROp I) (xs := [⟨4, 0, ((formP y).length : Int) - k, 0, (formP y).drop k⟩]) (css := [[.int .i64 4, .int .i64 0, .int .i64 (((formP y).length : Int) - k), .int .u8 0, .slice a76 ((formP y).drop k).length c76]]) (hS.sel [false, true, false, false]) rfl (by simp) ((All2.cons ⟨_, _, _, rfl, hs76⟩ (All2.nil _)))
         exact ⟨I2, a79, _, p79, k, rfl, hS2.nil, by omega, by omega, hts, by rw [hops2]; exact RSl.mono hd2 (Sub.refl _) (fun _ _ h => h.mono hI2)⟩)
      | (have hops2 : (lifN (formP x) (formP y) k).ops = ([] : List OpL) := by unfold lifN; dsimp only; rw [if_neg (by omega), if_neg (by omega)]; rfl
         obtain ⟨I2, hS2, hI2, hd2⟩ := St.freezeRowR (R := ROp I) (xs := ([] : List OpL)) (css := []) (hS.sel [false, true, false, false]) rfl (by simp) (All2.nil _)
         exact ⟨I2, none, _, 0, k, rfl, hS2.nil, by omega, by omega, hts, by rw [hops2]; exact RSl.mono hd2 (Sub.refl _) (fun _ _ h => h.mono hI2)⟩)
   ·
    intro hc56
    try simp only [zA, zO, zN, zI, zF, zM, zT, zU] at hc56
    refine wpIn_skip (thenN (wpIn_seq (QwR (qq hS (Qmi rfl) (qq hS (qb _) ?_)))))
    refine qq hS (qo rfl underlying25 h26 rfl) ?_
    refine qq hS (g_lss rfl rfl) ?_
    refine QoN ?_
    refine qh rfl ?_ ?_
    ·
     intro hc67
     try simp only [zA, zO, zN, zI, zF, zM, zT, zU] at hc67
     have hs76 := RSl.slL h26 k hk.2
     obtain ⟨a76, c76, hv76, _⟩ := hs76.len
     rw [hv76] at hs76
     refine draw (.cons 0 .pure (.cons 1 .held (.cons 2 .pure (.cons 3 .pure (.cons 4 .pure (.cons 5 .pure (.cons 6 .pure (.cons 7 .pure (.cons 8 .pure (.cons 9 .pure (.cons 10 .eff (.cons 11 .bar (.cons 12 .pure (.cons 13 .bar .nil)))))))))))))) mixed (by kernel_rfl) hS ?_
     intro w_22 hS
     refine sp rfl (qa (o' := 3) underlying31 rfl sizeOf29 rfl rfl rfl) ?_
     refine sh rfl (qc 1 isAgg29 rfl rfl rfl) ?_
     refine sp rfl (qb _) ?_
     refine sp rfl (qo rfl underlying25 h26 rfl) ?_
     refine sp rfl (Qmi rfl) ?_
     refine sp rfl (g_sub rfl rfl (by omega) (by omega)) ?_
     refine sp rfl (qb _) ?_
     refine sp rfl (Qmi rfl) ?_
     refine sp rfl (g_toV (jF (l0 := k) underlying25 sizeOf5 rfl rfl (by omega) (by omega) (by omega)) hv76) ?_
     refine sp rfl (qm (pl := [(0, 1), (1, 1), (2, 1), (3, 1), (4, 1)]) (cs := [.int .i64 _, .int .i64 _, .int .i64 _, .int .u8 _, .slice _ _ _]) zeroValue53 underlying53 (fun w => by simp [sizeOf25, sizeOf3, sizeOf5]) (mp (v := .int .i64 _) rfl (mp (v := .int .i64 _) rfl (mp (v := .slice _ _ _) rfl mp0))) rfl) ?_
     have hS0 := hS
     refine se rfl (d_lit (vs := [.agg #[.int .i64 _, .int .i64 _, .int .i64 _, .int .u8 _, .slice _ _ _]]) (cs := [.int .i64 _, .int .i64 _, .int .i64 _, .int .u8 _, .slice _ _ _]) hS underlying29 sizeOf53 zeroValue53 rfl rfl rfl rfl (fun v hv => by simp only [List.mem_cons, List.not_mem_nil, or_false] at hv; subst hv; rfl) rfl) ?_
     rintro _ w_23 ⟨b78, rfl, hS⟩
     refine ⟨_, _, hS0.le (Sub.refl _) (List.sublist_cons_self _ _), hS, ?_⟩
     refine sb rfl (qt 1 0 hS rfl underlying29 info53 rfl rfl rfl rfl rfl rfl rfl rfl (by omega) (by omega)) ?_
     rintro _ w_24 ⟨a79, p79, rfl, hS⟩
     refine ⟨_, _, hS, ?_⟩
     refine sp rfl (qa (o' := 3) underlying31 rfl sizeOf29 rfl rfl rfl) ?_
     refine sb rfl (qg 2 hS sizeOf29 rfl rfl rfl (vs := [.slice _ _ _]) rfl rfl rfl (Nat.le_of_ble_eq_true rfl) (cs' := [_, _, _, _]) rfl) ?_
     rintro _ w_25 ⟨rfl, hS⟩
     refine ⟨_, _, hS, ?_⟩
     refine sn (thenN ?_)
     refine QwR ?_
     refine qq hS (g_ldO 2 (vs := [.bool _, .int .i64 _, .int .i64 _, .slice _ _ _]) sizeOf31 isAgg31 rfl rfl rfl rfl) ?_
     refine qe (qg 3 hS sizeOf31 rfl rfl rfl (vs := [.bool _, .int .i64 _, .int .i64 _, .slice _ _ _]) rfl rfl rfl (Nat.le_of_ble_eq_true rfl) (cs' := [_, _, _, _]) rfl) ?_
     clear hS
     rintro _ w_26 ⟨rfl, hS⟩
     refine QoN (wpIn_ret ?_)
     refine ret1 results8 (qs 3 hS sizeOf31 isAgg31 rfl rfl rfl) ?_
     first
      | (have hops2 : (lifN (formP x) (formP y) k).ops = [⟨1, 0, (k : Int), 0, []⟩, ⟨4, 0, ((formP y).length : Int) - k, 0, (formP y).drop k⟩] := by unfold lifN; dsimp only; rw [if_pos (by omega), if_pos (by omega)]; rfl
         obtain ⟨I2, hS2, hI2, hd2⟩ := St.freezeRowR (R := ROp I) (xs := [⟨1, 0, (k : Int), 0, []⟩, ⟨4, 0, ((formP y).length : Int) - k, 0, (formP y).drop k⟩]) (css := [[.int .i64 1, .int .i64 0, .int .i64 k, .int .u8 0, .slice none 0 0], [.int .i64 4, .int .i64 0, .int .i64 (((formP y).length : Int) - k), .int .u8 0, .slice a76 ((formP y).drop k).length c76]]) (hS.sel [false, true, false, false]) rfl (by simp) ((All2.cons ⟨_, _, _, rfl, RFl.nil⟩ (All2.cons ⟨_, _, _, rfl, hs76⟩ (All2.nil _))))
         exact ⟨I2, a79, _, p79, k, rfl, hS2.nil, by omega, by omega, hts, by rw [hops2]; exact RSl.mono hd2 (Sub.refl _) (fun _ _ h => h.mono hI2)⟩)
      | (have hops2 : (lifN (formP x) (formP y) k).ops = [⟨1, 0, (k : Int), 0, []⟩] := by unfold lifN; dsimp only; rw [if_pos (by omega), if_neg (by omega)]; rfl
         obtain ⟨I2, hS2, hI2, hd2⟩ := St.freezeRowR (R := ROp I) (xs := [⟨1, 0, (k : Int), 0, []⟩]) (css := [[.int .i64 1, .int .i64 0, .int .i64 k, .int .u8 0, .slice none 0 0]]) (hS.sel [false, true, false, false]) rfl (by simp) ((All2.cons ⟨_, _, _, rfl, RFl.nil⟩ (All2.nil _)))
         exact ⟨I2, a62, _, p62, k, rfl, hS2.nil, by omega, by omega, hts, by rw [hops2]; exact RSl.mono hd2 (Sub.refl _) (fun _ _ h => h.mono hI2)⟩)
      | (have hops2 : (lifN (formP x) (formP y) k).ops = [⟨4, 0, ((formP y).length : Int) - k, 0, (formP y).drop k⟩] := by unfold lifN; dsimp only; rw [if_neg (by omega), if_pos (by omega)]; rfl
         obtain ⟨I2, hS2, hI2, hd2⟩ := St.freezeRowR (R := ROp I) (xs := [⟨4, 0, ((formP y).length : Int) - k, 0, (formP y).drop k⟩]) (css := [[.int .i64 4, .int .i64 0, .int .i64 (((formP y).length : Int) - k), .int .u8 0, .slice a76 ((formP y).drop k).length c76]]) (hS.sel [false, true, false, false]) rfl (by simp) ((All2.cons ⟨_, _, _, rfl, hs76⟩ (All2.nil _)))
         exact ⟨I2, a79, _, p79, k, rfl, hS2.nil, by omega, by omega, hts, by rw [hops2]; exact RSl.mono hd2 (Sub.refl _) (fun _ _ h => h.mono hI2)⟩)
      | (have hops2 : (lifN (formP x) (formP y) k).ops = ([] : List OpL) := by unfold lifN; dsimp only; rw [if_neg (by omega), if_neg (by omega)]; rfl
         obtain ⟨I2, hS2, hI2, hd2⟩ := St.freezeRowR (R := ROp I) (xs := ([] : List OpL)) (css := []) (hS.sel [false, true, false, false]) rfl (by simp) (All2.nil _)
         exact ⟨I2, none, _, 0, k, rfl, hS2.nil, by omega, by omega, hts, by rw [hops2]; exact RSl.mono hd2 (Sub.refl _) (fun _ _ h => h.mono hI2)⟩)
    ·
     intro hc67
     try simp only [zA, zO, zN, zI, zF, zM, zT, zU] at hc67
     refine wpIn_skip (thenN (QwR ?_))
     refine qq hS (g_ldO 1 (vs := [.bool _, .int .i64 _, .int .i64 _, .slice _ _ _]) sizeOf31 isAgg31 rfl rfl rfl rfl) ?_
     refine qe (qg 2 hS sizeOf31 rfl rfl rfl (vs := [.bool _, .int .i64 _, .int .i64 _, .slice _ _ _]) rfl rfl rfl (Nat.le_of_ble_eq_true rfl) (cs' := [_, _, _, _]) rfl) ?_
     clear hS
     rintro _ w_27 ⟨rfl, hS⟩
     refine QoN (wpIn_ret ?_)
     refine ret1 results8 (qs 2 hS sizeOf31 isAgg31 rfl rfl rfl) ?_
     first
      | (have hops2 : (lifN (formP x) (formP y) k).ops = [⟨1, 0, (k : Int), 0, []⟩, ⟨4, 0, ((formP y).length : Int) - k, 0, (formP y).drop k⟩] := by unfold lifN; dsimp only; rw [if_pos (by omega), if_pos (by omega)]; rfl
         obtain ⟨I2, hS2, hI2, hd2⟩ := St.freezeRowR (R := ROp I) (xs := [⟨1, 0, (k : Int), 0, []⟩, ⟨4, 0, ((formP y).length : Int) - k, 0, (formP y).drop k⟩]) (css := [[.int .i64 1, .int .i64 0, .int .i64 k, .int .u8 0, .slice none 0 0], [.int .i64 4, .int .i64 0, .int .i64 (((formP y).length : Int) - k), .int .u8 0, .slice a76 ((formP y).drop k).length c76]]) (hS.sel [true, false, false]) rfl (by simp) ((All2.cons ⟨_, _, _, rfl, RFl.nil⟩ (All2.cons ⟨_, _, _, rfl, hs76⟩ (All2.nil _))))
         exact ⟨I2, a79, _, p79, k, rfl, hS2.nil, by omega, by omega, hts, by rw [hops2]; exact RSl.mono hd2 (Sub.refl _) (fun _ _ h => h.mono hI2)⟩)
      | (have hops2 : (lifN (formP x) (formP y) k).ops = [⟨1, 0, (k : Int), 0, []⟩] := by unfold lifN; dsimp only; rw [if_pos (by omega), if_neg (by omega)]; rfl
         obtain ⟨I2, hS2, hI2, hd2⟩ := St.freezeRowR (R := ROp I) (xs := [⟨1, 0, (k : Int), 0, []⟩]) (css := [[.int .i64 1, .int .i64 0, .int .i64 k, .int .u8 0, .slice none 0 0]]) (hS.sel [true, false, false]) rfl (by simp) ((All2.cons ⟨_, _, _, rfl, RFl.nil⟩ (All2.nil _)))
         exact ⟨I2, a62, _, p62, k, rfl, hS2.nil, by omega, by omega, hts, by rw [hops2]; exact RSl.mono hd2 (Sub.refl _) (fun _ _ h => h.mono hI2)⟩)
      | (have hops2 : (lifN (formP x) (formP y) k).ops = [⟨4, 0, ((formP y).length : Int) - k, 0, (formP y).drop k⟩] := by unfold lifN; dsimp only; rw [if_neg (by omega), if_pos (by omega)]; rfl
         obtain ⟨I2, hS2, hI2, hd2⟩ := St.freezeRowR (R := ROp I) (xs := [⟨4, 0, ((formP y).length : Int) - k, 0, (formP y).drop k⟩]) (css := [[.int .i64 4, .int .i64 0, .int .i64 (((formP y).length : Int) - k), .int .u8 0, .slice a76 ((formP y).drop k).length c76]]) (hS.sel [true, false, false]) rfl (by simp) ((All2.cons ⟨_, _, _, rfl, hs76⟩ (All2.nil _)))
         exact ⟨I2, a79, _, p79, k, rfl, hS2.nil, by omega, by omega, hts, by rw [hops2]; exact RSl.mono hd2 (Sub.refl _) (fun _ _ h => h.mono hI2)⟩)
      | (have hops2 : (lifN (formP x) (formP y) k).ops = ([] : List OpL) := by unfold lifN; dsimp only; rw [if_neg (by omega), if_neg (by omega)]; rfl
         obtain ⟨I2, hS2, hI2, hd2⟩ := St.freezeRowR (R := ROp I) (xs := ([] : List OpL)) (css := []) (hS.sel [true, false, false]) rfl (by simp) (All2.nil _)
         exact ⟨I2, none, _, 0, k, rfl, hS2.nil, by omega, by omega, hts, by rw [hops2]; exact RSl.mono hd2 (Sub.refl _) (fun _ _ h => h.mono hI2)⟩)
end Go.Proofs.YtaklmbhfmpdinaaGreat
