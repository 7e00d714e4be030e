/- inlayref13.Encode: it gives the same code as the coder. Conditions: at most 65536 bytes. -/
import Derived.Test.YtdgnojckkjfhfaaDoorRBeg13
namespace Go.Proofs.YtdgnojckkjfhfaaDoor
open Go Go.RowKit Go.Inl
set_option linter.unusedSimpArgs false
set_option linter.unusedVariables false
theorem norm_grow : ∀ (j : Nat) (s : Cs), (normC j s).out.length ≤ s.out.length + j
  | 0, s => Nat.le_refl _
  | j + 1, s => by
    unfold normC
    split
    · have := norm_grow j ⟨s.low % 16777216 * 256, s.size * 256, s.out ++ [s.low / 16777216]⟩
      dsimp only at this
      rw [List.length_append, List.length_singleton] at this
      omega
    · omega
/-- How a model's states are told by tables and the last byte. -/
structure MRep (M : Mdl) (m : Int) where
  rel : M.S → (Int → Ad) → Int → Prop
  tab : ∀ s T l, rel s T l → M.tab s = T (ixR m l)
  nxt : ∀ s T l (x : Nat), rel s T l → x < 256 → rel (M.nxt s x) (fun k => if k = ixR m l then sawA (T (ixR m l)) x else T k) x
def rep1 : MRep mdl1 1 := ⟨fun A T _ => A = T 0, fun s T l h => h, fun s T l x h hx => by
  show sawA s x = if (0 : Int) = ((ixR 1 l : Nat) : Int) then sawA (T (ixR 1 l)) x else T 0
  have : ixR 1 l = 0 := rfl
  rw [this]
  have h2 : s = T 0 := h
  rw [h2]; rfl⟩
def rep2 : MRep mdl2 2 := ⟨fun s T l => s.2 = l ∧ 0 ≤ l ∧ ∀ k : Nat, s.1 k = T k, fun s T l h => by
  obtain ⟨h1, h2, h3⟩ := h
  show s.1 s.2 = T (ixR 2 l)
  have : ixR 2 l = l.toNat := rfl
  rw [this, ← h3, h1, Int.toNat_of_nonneg h2], fun s T l x h hx => by
  obtain ⟨h1, h2, h3⟩ := h
  refine ⟨rfl, by omega, fun k => ?_⟩
  show (if (k : Int) = s.2 then sawA (s.1 s.2) x else s.1 k) = if (k : Int) = ((ixR 2 l : Nat) : Int) then sawA (T (ixR 2 l)) x else T k
  have : ixR 2 l = l.toNat := rfl
  rw [this, h1, ← h3, ← h3, Int.toNat_of_nonneg h2]⟩
structure NrmR where
  j : Nat
  s : Cs
  a : Option Addr
  c : Nat
structure EnrW (M : Mdl) where
  k : Nat
  cs : Cs
  s : M.S
  T : Int → Ad
  la : Int
  a : Option Addr
  c : Nat

set_option maxHeartbeats 1000000 in
theorem addr_c (ob tb : Nat) (cs : Cs) (A : Ad) (x : Nat) (y : Int) (hy : y = x) (hx : x < 256) (hA : AdOk A) (hGd : Good13 cs) (ao : Option Addr) (a0 : Nat) (hll : cs.out.length ≤ 900000) (XX : List Nat) (w0 : World) (I0 : Imm) (hT : RT I0 tb A) (hS0 : St XX w0 I0 I0 w0 [.row (.slice ao cs.out.length a0) 5 1 cs.out.length (flat byteC cs.out), .cel ob 98 [.int .i64 cs.low, .int .i64 cs.size, .slice ao cs.out.length a0]]) :
    Ctr Tryd.prog 43 [.pointer (some ⟨ob, 0, none⟩), .pointer (some ⟨tb, 0, none⟩), .int .u8 y] w0 (fun v w' => v = .tuple #[] ∧ ∃ a c, St XX w0 I0 I0 w' [.row (.slice a (stepC cs A x).out.length c) 5 1 (stepC cs A x).out.length (flat byteC (stepC cs A x).out), .cel ob 98 [.int .i64 (stepC cs A x).low, .int .i64 (stepC cs A x).size, .slice a (stepC cs A x).out.length c]]) := by
  subst hy
  have hl := hA.len
  obtain ⟨q1, q2, q3⟩ := sum_take_le A.c x hA.pos (by rw [hA.len]; omega)
  rw [hA.sum] at q3
  have hAt : 1 ≤ A.t ∧ A.t ≤ 65536 := ⟨by omega, hA.top⟩
  obtain ⟨r1, r2⟩ := quo_facts hGd.big hAt
  obtain ⟨u1, u2⟩ := hGd.ok.low
  obtain ⟨u3, u4⟩ := hGd.ok.size
  have hpo := put_ok hGd.ok (r := cs.size / A.t) (before := (A.c.take x).sum) (cnt := A.c.getD x 0) (t := A.t) (by omega) q1 q2 q3 r2
  obtain ⟨before, hbf⟩ : ∃ z, (A.c.take x).sum = z := ⟨_, rfl⟩
  obtain ⟨cnt, hct⟩ : ∃ z, A.c.getD x 0 = z := ⟨_, rfl⟩
  obtain ⟨r, hr⟩ : ∃ z, cs.size / A.t = z := ⟨_, rfl⟩
  have hcn : A.c[x]? = some cnt := by rw [← hct, List.getD_eq_getElem?_getD]; rw [List.getElem?_eq_getElem (show x < A.c.length by rw [hA.len]; omega)]; rfl
  rw [hbf] at q1 q3 hpo
  rw [hct] at q2 q3 hpo
  rw [hr] at r1 r2 hpo
  have e1 : r * before + r * cnt ≤ r * A.t := by rw [← Int.mul_add]; exact Int.mul_le_mul_of_nonneg_left q3 (by omega)
  have e2 : 0 ≤ r * before := Int.mul_nonneg (by omega) q1
  have e3 : 1 ≤ r * cnt := by have := Int.mul_le_mul (show 1 ≤ r by omega) q2 (by omega) (by omega); omega
  have hrle : r ≤ cs.size := by rw [← hr]; exact Int.ediv_le_self _ (by omega)
  obtain ⟨rb, hrb⟩ : ∃ z, r * before = z := ⟨_, rfl⟩
  obtain ⟨rc, hrc⟩ : ∃ z, r * cnt = z := ⟨_, rfl⟩
  rw [hrb] at e1 e2
  rw [hrc] at e1 e3
  have hrw : IntKind.i64.wrap (cs.size / A.t) = r := by rw [hr, IntKind.wrap_i64]; omega
  have hm1 : IntKind.i64.wrap (r * (A.c.take x).sum) = rb := by rw [hbf, hrb, IntKind.wrap_i64]; omega
  have hm4 : IntKind.i64.wrap (r * cnt) = rc := by rw [hrc, IntKind.wrap_i64]; omega
  have hstep : stepC cs A x = normC 4 (putC cs r before cnt) := by unfold stepC; rw [hr, hbf, hct]
  have hpl := put_len cs r before cnt
  obtain ⟨P1, hP1⟩ : ∃ P, putC cs r before cnt = P := ⟨_, rfl⟩
  have hPs : P1.size = rc := by rw [← hP1]; unfold putC; split <;> exact hrc
  rw [hP1] at hpo hstep hpl
  refine fn (n := 89) Tryd.func43 rfl rfl rfl ?_
  have hS := hS0
  refine wpIn_seq ?_
  refine draw (.cons 0 .pure (.cons 1 .pure (.cons 2 .pure (.cons 3 .held (.cons 4 .pure (.cons 5 .pure (.cons 6 .pure (.cons 7 .held (.cons 8 .pure (.cons 9 .pure .nil)))))))))) mixed (by kernel_rfl) hS ?_
  intro w_1 hS
  refine sp rfl (g_move _) ?_
  refine sp rfl (g_nilCheck rfl) ?_
  refine sp rfl (g_fieldAddr (o' := 1) Tryd.underlying98 rfl Tryd.sizeOf3 rfl rfl rfl) ?_
  refine sh rfl (g_ldO1 1 Tryd.isAgg3 rfl rfl rfl) ?_
  refine sp rfl (g_move _) ?_
  refine sp rfl (g_nilCheck rfl) ?_
  refine sp rfl (g_fieldAddr (o' := 256) Tryd.underlying113 rfl Tryd.sizeOf3 rfl rfl rfl) ?_
  refine sh rfl (g_ldA1 Tryd.isAgg3 (atCell hT.hold) rfl (rtL_t hl)) ?_
  refine sp rfl (g_quou13 rfl rfl (by omega) (by omega) hrw) ?_
  refine sp rfl (g_assignv (v := .int .i64 _) rfl) ?_
  refine sn (thenN ?_)
  refine wpIn_seq ?_
  refine draw (.cons 0 .pure (.cons 1 .pure (.cons 2 .pure (.cons 3 .held (.cons 4 .pure (.cons 5 .pure (.cons 6 .pure (.cons 7 .eff (.cons 8 .pure (.cons 9 .pure (.cons 10 .pure (.cons 11 .pure (.cons 12 .bar .nil))))))))))))) mixed (by kernel_rfl) hS ?_
  intro w_2 hS
  refine sp rfl (g_move _) ?_
  refine sp rfl (g_nilCheck rfl) ?_
  refine sp rfl (g_fieldAddr (o' := 0) Tryd.underlying98 rfl Tryd.sizeOf3 rfl rfl rfl) ?_
  refine sh rfl (g_ldO1 1 Tryd.isAgg3 rfl rfl rfl) ?_
  refine sp rfl (g_movev (v := .int .i64 _) rfl) ?_
  refine sp rfl (g_move _) ?_
  refine sp rfl (g_movev (v := .int .u8 _) rfl) ?_
  have hS0 := hS
  refine se rfl (d_call Tryd.call52 rfl (before_c tb A x _ rfl hx hA _ _ hS.imm hT)) ?_
  rintro _ w_3 ⟨rfl, hE⟩
  replace hS := hS.call hE
  refine ⟨_, _, hS0.le hE.ext (List.Sublist.refl _), hS, ?_⟩
  refine sp rfl (g_mulu rfl rfl hm1) ?_
  refine sp rfl (g_add rfl rfl (by omega) (by omega)) ?_
  refine sp rfl (g_nilCheck rfl) ?_
  refine sp rfl (g_fieldAddr (o' := 0) Tryd.underlying98 rfl Tryd.sizeOf3 rfl rfl rfl) ?_
  refine sb rfl (d_store 1 hS Tryd.sizeOf3 rfl rfl rfl (vs := [.int .i64 _]) rfl rfl rfl (Nat.le_of_ble_eq_true rfl) (cs' := [_, _, _]) rfl) ?_
  rintro _ w_4 ⟨rfl, hS⟩
  refine ⟨_, _, hS, ?_⟩
  refine sn (thenN ?_)
  refine meet (fun σ w => ∃ a c, okS σ [(0, .pointer (some ⟨ob, 0, none⟩)), (1, .pointer (some ⟨tb, 0, none⟩)), (2, .int .u8 x), (6, .int .i64 r)] ∧ St XX w0 I0 I0 w [.row (.slice a P1.out.length c) 5 1 P1.out.length (flat byteC P1.out), .cel ob 98 [.int .i64 P1.low, .int .i64 cs.size, .slice a P1.out.length c]]) ?_ ?_
  ·
    refine wpIn_seq ?_
    refine reg ?_
    refine qq hS (g_move _) ?_
    refine qq hS (g_nilCheck rfl) ?_
    refine qq hS (g_fieldAddr (o' := 0) Tryd.underlying98 rfl Tryd.sizeOf3 rfl rfl rfl) ?_
    refine qq hS (g_ldO1 1 Tryd.isAgg3 rfl rfl rfl) ?_
    refine qq hS (g_geq rfl rfl) ?_
    refine ol_nil (thenN ?_)
    refine cond_s rfl ?_ ?_
    ·
      intro hc32
      try simp only [Bool.and_eq_true, Bool.or_eq_true, Bool.not_eq_true', Bool.and_eq_false_imp, Bool.or_eq_false_iff, Bool.not_eq_false', decide_eq_true_eq, decide_eq_false_iff_not] at hc32
      have hPe : P1 = ⟨cs.low + rb - 4294967296, rc, carried cs.out⟩ := by rw [← hP1]; unfold putC; rw [hrb, hrc, if_pos (by omega)]
      refine wpIn_seq ?_
      refine reg ?_
      refine qq hS (g_move _) ?_
      refine qq hS (g_nilCheck rfl) ?_
      refine qq hS (g_fieldAddr (o' := 0) Tryd.underlying98 rfl Tryd.sizeOf3 rfl rfl rfl) ?_
      refine qq hS (g_ldO1 1 Tryd.isAgg3 rfl rfl rfl) ?_
      refine qq hS (g_sub rfl rfl (by omega) (by omega)) ?_
      refine qq hS (g_nilCheck rfl) ?_
      refine qq hS (g_fieldAddr (o' := 0) Tryd.underlying98 rfl Tryd.sizeOf3 rfl rfl rfl) ?_
      refine qe (d_store 1 hS Tryd.sizeOf3 rfl rfl rfl (vs := [.int .i64 _]) rfl rfl rfl (Nat.le_of_ble_eq_true rfl) (cs' := [_, _, _]) rfl) ?_
      clear hS
      rintro _ w_5 ⟨rfl, hS⟩
      refine ol_nil (thenN ?_)
      refine reg ?_
      refine qq hS (g_move _) ?_
      refine qe (d_call Tryd.call62 rfl (carryr_c ob (cs.low + rb - 4294967296) cs.size _ _ cs.out hGd.ok.byt (by omega) _ _ _ (St.ownL hS))) ?_
      rintro _ w_6 ⟨rfl, hE⟩
      replace hS := St.callL hS hE
      refine ol_nil (thenN ?_)
      rw [hPe]; exact ⟨_, rfl, ao, a0, ⟨rfl, rfl, rfl, rfl, trivial⟩, (by first | exact hS.sel [true, true] | (dsimp only; rw [carried_len]; exact hS.sel [true, true]))⟩
    ·
      intro hc32
      try simp only [Bool.and_eq_true, Bool.or_eq_true, Bool.not_eq_true', Bool.and_eq_false_imp, Bool.or_eq_false_iff, Bool.not_eq_false', decide_eq_true_eq, decide_eq_false_iff_not] at hc32
      have hPe : P1 = ⟨cs.low + rb, rc, cs.out⟩ := by rw [← hP1]; unfold putC; rw [hrb, hrc, if_neg (by omega)]
      refine wpIn_skip ?_
      refine thenN ?_
      rw [hPe]; exact ⟨_, rfl, ao, a0, ⟨rfl, rfl, rfl, rfl, trivial⟩, (by first | exact hS.sel [true, true] | (dsimp only; rw [carried_len]; exact hS.sel [true, true]))⟩
  ·
    rintro σ w ⟨a, c, hs, hS⟩
    rw [← upds_self hs]
    refine wpIn_seq ?_
    refine reg ?_
    refine qq hS (g_move _) ?_
    refine qq hS (g_movev (v := .int .i64 _) rfl) ?_
    refine qq hS (g_move _) ?_
    refine qq hS (g_movev (v := .int .u8 _) rfl) ?_
    refine qq hS (g_nilCheck rfl) ?_
    refine qq hS (g_fieldAddr (o' := 0) Tryd.underlying113 rfl Tryd.sizeOf111 rfl rfl rfl) ?_
    refine qq hS (g_indexArr (o' := x) Tryd.underlying111 Tryd.sizeOf3 rfl rfl (by omega) (by omega) (by omega)) ?_
    refine qq hS (g_ldA1 Tryd.isAgg3 (atCell hT.hold) rfl (rtL_at hcn)) ?_
    refine qq hS (g_mulu rfl rfl hm4) ?_
    refine qq hS (g_nilCheck rfl) ?_
    refine qq hS (g_fieldAddr (o' := 1) Tryd.underlying98 rfl Tryd.sizeOf3 rfl rfl rfl) ?_
    refine qe (d_store 1 hS Tryd.sizeOf3 rfl rfl rfl (vs := [.int .i64 _]) rfl rfl rfl (Nat.le_of_ble_eq_true rfl) (cs' := [_, _, _]) rfl) ?_
    clear hS
    rintro _ w_7 ⟨rfl, hS⟩
    refine ol_nil (thenN ?_)
    refine wpIn_block ?_
    refine loop (fun (z : NrmR) σ w => okS σ [(0, .pointer (some ⟨ob, 0, none⟩)), (1, .pointer (some ⟨tb, 0, none⟩)), (2, .int .u8 x)] ∧ St XX w0 I0 I0 w [.row (.slice z.a z.s.out.length z.c) 5 1 z.s.out.length (flat byteC z.s.out), .cel ob 98 [.int .i64 z.s.low, .int .i64 z.s.size, .slice z.a z.s.out.length z.c]] ∧ normC z.j z.s = normC 4 P1 ∧ CsOk z.s ∧ 16777216 ≤ z.s.size * 256 ^ z.j ∧ z.s.out.length + z.j ≤ P1.out.length + 4) (fun z => z.j) (⟨4, P1, a, c⟩) ?_ ?_
    ·
      refine ⟨⟨rfl, rfl, rfl, trivial⟩, ?_, rfl, hpo, ?_, Nat.le_refl _⟩
      · dsimp only; rw [hPs]; exact hS.sel [true, true]
      · dsimp only
        have := hpo.size.1
        omega
    ·
      rintro ⟨j, t, a, c⟩ σ w_l ⟨hs, hS, hne, hns, hnb, hnl⟩
      dsimp only at hs hS hne hns hnb hnl ⊢
      rw [← upds_self hs]; clear hs
      refine wpIn_seq ?_
      refine wpIn_seq ?_
      refine reg ?_
      refine qq hS (g_move _) ?_
      refine qq hS (g_nilCheck rfl) ?_
      refine qq hS (g_fieldAddr (o' := 1) Tryd.underlying98 rfl Tryd.sizeOf3 rfl rfl rfl) ?_
      refine qq hS (g_ldO1 1 Tryd.isAgg3 rfl rfl rfl) ?_
      refine qq hS (g_lss rfl rfl) ?_
      refine ol_nil (thenN ?_)
      refine cond_s rfl ?_ ?_
      ·
        intro hc57
        try simp only [Bool.and_eq_true, Bool.or_eq_true, Bool.not_eq_true', Bool.and_eq_false_imp, Bool.or_eq_false_iff, Bool.not_eq_false', decide_eq_true_eq, decide_eq_false_iff_not] at hc57
        obtain ⟨j', rfl⟩ : ∃ j', j = j' + 1 := by
          cases j with
          | zero => simp at hnb; omega
          | succ j' => exact ⟨j', rfl⟩
        have hno := norm_one hns hc57
        obtain ⟨v1, v2⟩ := hns.low
        obtain ⟨v3, v4⟩ := hns.size
        have hne2 : normC j' ⟨t.low % 16777216 * 256, t.size * 256, t.out ++ [t.low / 16777216]⟩ = normC 4 P1 := by
          rw [← hne]
          conv => rhs; unfold normC
          rw [if_pos hc57]
        have hn2 : IntKind.u8.wrap (t.low / 16777216) = t.low / 16777216 := by rw [IntKind.wrap_u8]; omega
        have hnb2 : 16777216 ≤ t.size * 256 * 256 ^ j' := by rw [pow_succ256, ← Int.mul_assoc] at hnb; exact hnb
        refine wpIn_skip ?_
        refine thenN ?_
        refine wpIn_block ?_
        refine wpIn_seq ?_
        refine draw (.cons 0 .pure (.cons 1 .pure (.cons 2 .pure (.cons 3 .pure (.cons 4 .held (.cons 5 .pure (.cons 6 .pure (.cons 7 .pure (.cons 8 .held (.cons 9 .pure (.cons 10 .pure (.cons 11 .eff (.cons 12 .bar (.cons 13 .pure (.cons 14 .pure (.cons 15 .bar .nil)))))))))))))))) mixed (by kernel_rfl) hS ?_
        intro w_8 hS
        refine sp rfl (g_move _) ?_
        refine sp rfl (g_move _) ?_
        refine sp rfl (g_nilCheck rfl) ?_
        refine sp rfl (g_fieldAddr (o' := 2) Tryd.underlying98 rfl Tryd.sizeOf25 rfl rfl rfl) ?_
        refine sh rfl (g_ldO1 1 Tryd.isAgg25 rfl rfl rfl) ?_
        refine sp rfl (g_move _) ?_
        refine sp rfl (g_nilCheck rfl) ?_
        refine sp rfl (g_fieldAddr (o' := 0) Tryd.underlying98 rfl Tryd.sizeOf3 rfl rfl rfl) ?_
        refine sh rfl (g_ldO1 1 Tryd.isAgg3 rfl rfl rfl) ?_
        refine sp rfl (g_quo rfl rfl (by omega) (by omega) (by omega)) ?_
        refine sp rfl (g_convu Tryd.underlying3 Tryd.underlying5 rfl hn2) ?_
        have hS0 := hS
        refine se rfl (d_lit (vs := [.int .u8 _]) (cs := [.int .u8 _]) hS Tryd.underlying25 Tryd.sizeOf5 Tryd.zeroValue5 rfl rfl rfl rfl (fun v hv => by simp only [List.mem_cons, List.not_mem_nil, or_false] at hv; subst hv; rfl) rfl) ?_
        rintro _ w_9 ⟨b_9, rfl, hS⟩
        refine ⟨_, _, hS0.le (Sub.refl _) (List.sublist_cons_self _ _), hS, ?_⟩
        refine sb rfl (i_appendO 1 0 hS rfl Tryd.underlying25 info5 rfl rfl rfl rfl rfl rfl rfl rfl (by omega) (by omega)) ?_
        rintro _ w_10 ⟨a70, p70, rfl, hS⟩
        refine ⟨_, _, hS, ?_⟩
        refine sp rfl (g_nilCheck rfl) ?_
        refine sp rfl (g_fieldAddr (o' := 2) Tryd.underlying98 rfl Tryd.sizeOf25 rfl rfl rfl) ?_
        refine sb rfl (d_store 2 hS Tryd.sizeOf25 rfl rfl rfl (vs := [.slice _ _ _]) rfl rfl rfl (Nat.le_of_ble_eq_true rfl) (cs' := [_, _, _]) rfl) ?_
        rintro _ w_11 ⟨rfl, hS⟩
        refine ⟨_, _, hS, ?_⟩
        refine sn (thenN ?_)
        refine wpIn_seq ?_
        refine reg ?_
        refine qq hS (g_move _) ?_
        refine qq hS (g_move _) ?_
        refine qq hS (g_nilCheck rfl) ?_
        refine qq hS (g_fieldAddr (o' := 0) Tryd.underlying98 rfl Tryd.sizeOf3 rfl rfl rfl) ?_
        refine qq hS (g_ldO1 2 Tryd.isAgg3 rfl rfl rfl) ?_
        refine qq hS (g_rem rfl rfl (by omega) (by omega)) ?_
        refine qq hS (g_mul rfl rfl (by omega) (by omega)) ?_
        refine qq hS (g_nilCheck rfl) ?_
        refine qq hS (g_fieldAddr (o' := 0) Tryd.underlying98 rfl Tryd.sizeOf3 rfl rfl rfl) ?_
        refine qe (d_store 2 hS Tryd.sizeOf3 rfl rfl rfl (vs := [.int .i64 _]) rfl rfl rfl (Nat.le_of_ble_eq_true rfl) (cs' := [_, _, _]) rfl) ?_
        clear hS
        rintro _ w_12 ⟨rfl, hS⟩
        refine ol_nil (thenN ?_)
        refine reg ?_
        refine qq hS (g_move _) ?_
        refine qq hS (g_nilCheck rfl) ?_
        refine qq hS (g_fieldAddr (o' := 1) Tryd.underlying98 rfl Tryd.sizeOf3 rfl rfl rfl) ?_
        refine qq hS (g_ldO1 2 Tryd.isAgg3 rfl rfl rfl) ?_
        refine qq hS (g_mul rfl rfl (by omega) (by omega)) ?_
        refine qq hS (g_nilCheck rfl) ?_
        refine qq hS (g_fieldAddr (o' := 1) Tryd.underlying98 rfl Tryd.sizeOf3 rfl rfl rfl) ?_
        refine qe (d_store 2 hS Tryd.sizeOf3 rfl rfl rfl (vs := [.int .i64 _]) rfl rfl rfl (Nat.le_of_ble_eq_true rfl) (cs' := [_, _, _]) rfl) ?_
        clear hS
        rintro _ w_13 ⟨rfl, hS⟩
        refine ⟨⟨j', ⟨t.low % 16777216 * 256, t.size * 256, t.out ++ [t.low / 16777216]⟩, a70, p70⟩, _, rfl, ⟨⟨rfl, rfl, rfl, trivial⟩, ?_, hne2, hno, hnb2, by dsimp only; rw [List.length_append]; simp at hnl ⊢; omega⟩, by dsimp only; omega⟩
        dsimp only
        rw [flat_append, flat_one, List.length_append]
        exact hS.sel [false, true, true]
      ·
        intro hc57
        try simp only [Bool.and_eq_true, Bool.or_eq_true, Bool.not_eq_true', Bool.and_eq_false_imp, Bool.or_eq_false_iff, Bool.not_eq_false', decide_eq_true_eq, decide_eq_false_iff_not] at hc57
        have hte : t = normC 4 P1 := by
          rw [← hne]
          cases j with
          | zero => rfl
          | succ j' => unfold normC; rw [if_neg (by omega)]
        refine wpIn_exit ?_
        refine thenE (thenE (blkE ?_))
        refine end0 Tryd.results43  ?_
        rw [hstep, ← hte]
        exact ⟨rfl, a, c, hS⟩

set_option maxHeartbeats 2000000 in
theorem encr_c (M : Mdl) (hM : MdlOk M) (m : Int) (hm : m = 1 ∨ m = 2) (R : MRep M m) (s0 : M.S) (hs0 : M.inv s0) (hr0 : R.rel s0 (fun _ => adOne) 0) (ad : Option Addr) (cap : Nat) (b : List Int) (w0 : World) (I0 : Imm) (hI : Sat I0 w0) (hb : RBytes I0 (.slice ad b.length cap) b) (hbb : ∀ y ∈ b, 0 ≤ y ∧ y ≤ 255) (hbl : b.length ≤ 65536) :
    Ctr Tryd.prog 28 [.int .i64 m, .slice ad b.length cap] w0 (fun v w' => ∃ I' a c, v = .tuple #[.slice a (encP M s0 b).length c, .int .i64 0] ∧ Ext w0 I0 w' I' ∧ RBytes I' (.slice a (encP M s0 b).length c) (encP M s0 b)) := by
  have hbl2 := RSl.le hb
  simp only [maxLen] at hbl2
  refine fn (n := 93) Tryd.func28 rfl rfl rfl ?_
  have hS := St.start hI
  refine wpIn_seq ?_
  refine reg ?_
  refine qq hS (g_assign _) ?_
  refine qq hS (g_assignv (v := .int .i64 _) rfl) ?_
  refine ol_nil (thenN ?_)
  refine wpIn_seq ?_
  refine wpIn_seq ?_
  refine reg ?_
  refine qq hS (g_movev (v := .int .i64 _) rfl) ?_
  refine qq hS (g_lss rfl rfl) ?_
  refine qq hS (g_movev (v := .bool _) rfl) ?_
  refine qu rfl rfl hS (fun hg => (g_movev (v := .int .i64 _) rfl)) ?_
  intro u13 hu13 hn13
  refine qu rfl rfl hS (fun hg => (g_gtr (hu13 hg) rfl)) ?_
  intro u14 hu14 hn14
  refine qq hS (g_or rfl rfl (fun hq => hu14 hq)) ?_
  refine ol_nil (thenN ?_)
  refine cond_f (congrArg Value.bool (by rw [decide_eq_false (show ¬ m < 0 by omega), decide_eq_false (show ¬ (2 : Int) < m by omega)]; rfl)) ?_
  refine wpIn_skip ?_
  refine thenN ?_
  refine wpIn_seq ?_
  refine wpIn_seq ?_
  refine reg ?_
  refine qq hS (g_move _) ?_
  refine qq hS (g_lenI rfl Tryd.underlying25 (hb.mono hS.ext) rfl) ?_
  refine qq hS (g_gtr rfl rfl) ?_
  refine ol_nil (thenN ?_)
  refine cond_f (congrArg Value.bool (decide_eq_false (by omega))) ?_
  refine wpIn_skip ?_
  refine thenN ?_
  refine wpIn_seq ?_
  refine reg ?_
  refine qq hS (g_movev (v := .int .i64 _) rfl) ?_
  refine qe (d_call Tryd.call42 rfl (beginr_c m _ _ hS.imm)) ?_
  rintro _ w_1 ⟨I1, bt, ps, rfl, hE, hH1, hF1⟩
  replace hS := hS.callE hE
  refine qq hS (g_assign _) ?_
  refine ol_nil (thenN ?_)
  refine wpIn_seq ?_
  refine reg ?_
  refine qq hS (g_buildv (pl := [(0, 1), (1, 1), (2, 1)]) (cs := [.int .i64 _, .int .i64 _, .slice _ _ _]) Tryd.zeroValue98 Tryd.underlying98 (fun w => by simp [Tryd.sizeOf25, Tryd.sizeOf3]) (mp (v := .int .i64 _) rfl mp0) rfl) ?_
  refine qe (d_box (cs := [.int .i64 _, .int .i64 _, .slice _ _ _]) hS rfl) ?_
  clear hS
  rintro _ w_2 ⟨ob, rfl, hS⟩
  refine qq hS (g_assign _) ?_
  refine ol_nil (thenN ?_)
  refine wpIn_seq ?_
  refine wpIn_seq ?_
  replace hS := hS.nilRow 5 1
  have hS_o : St _ _ _ _ _ [_, _] := hS.ord [0, 1]
  replace hS := hS_o
  clear hS_o
  refine reg ?_
  refine qq hS (g_assignv (v := .int .i64 _) rfl) ?_
  refine ol_nil (thenN ?_)
  refine wpIn_block ?_
  refine loop (fun (x : EnrW M) σ w => okS σ [(1, .slice ad b.length cap), (6, .pointer (some ⟨bt, 0, none⟩)), (7, .pointer (some ⟨ob, 0, none⟩)), (8, .int .i64 x.k)] ∧ ∃ I, St [] w0 I0 I w [.row (.slice x.a x.cs.out.length x.c) 5 1 x.cs.out.length (flat byteC x.cs.out), .cel ob 98 [.int .i64 x.cs.low, .int .i64 x.cs.size, .slice x.a x.cs.out.length x.c]] ∧ x.k ≤ b.length ∧ encUp M s0 b x.k = (x.cs, x.s) ∧ Good13 x.cs ∧ M.inv x.s ∧ R.rel x.s x.T x.la ∧ (0 ≤ x.la ∧ x.la ≤ 255) ∧ x.cs.out.length ≤ 4 * x.k ∧ HT I bt m x.T x.la ps ∧ (∀ c ∈ bt :: ps, w0.heap.size ≤ c)) (fun x => b.length - x.k) (⟨0, startC, s0, fun _ => adOne, 0, none, 0⟩) ?_ ?_
  ·
    exact ⟨⟨rfl, rfl, rfl, rfl, trivial⟩, _, hS.sel [true, true], by dsimp only; omega, rfl, ⟨start_ok, by show (16777216 : Int) ≤ 4294967295; decide⟩, hs0, hr0, ⟨Int.le_refl _, by show (0 : Int) ≤ 255; decide⟩, Nat.le_refl _, hH1, hF1⟩
  ·
    rintro ⟨k, cs, s, T, la, a, c⟩ σ w_l ⟨hs, I, hS, hk0, hup, hGd, hMi, hrel, hla, hol, hH, hFn⟩
    dsimp only at hs hS hk0 hup hGd hMi hrel hla hol hH ⊢
    rw [← upds_self hs]; clear hs
    refine wpIn_seq ?_
    refine wpIn_seq ?_
    refine reg ?_
    refine qq hS (g_movev (v := .int .i64 _) rfl) ?_
    refine qq hS (g_move _) ?_
    refine qq hS (g_lenI rfl Tryd.underlying25 (hb.mono hS.ext) rfl) ?_
    refine qq hS (g_lss rfl rfl) ?_
    refine ol_nil (thenN ?_)
    refine cond_s rfl ?_ ?_
    ·
      intro hc26
      clear hu13 hn13 hu14 hn14
      try simp only [Bool.and_eq_true, Bool.or_eq_true, Bool.not_eq_true', Bool.and_eq_false_imp, Bool.or_eq_false_iff, Bool.not_eq_false', decide_eq_true_eq, decide_eq_false_iff_not] at hc26
      obtain ⟨y, hyi⟩ : ∃ y, b[k]? = some y := ⟨_, List.getElem?_eq_getElem (by omega)⟩
      have hyA := (hb.mono hS.ext).at hyi
      have hyb := hbb y (List.mem_of_getElem? hyi)
      have hyt : ((y.toNat : Nat) : Int) = y := by omega
      have hnx := encUp_succ (M := M) (s0 := s0) hyi
      rw [hup] at hnx
      have hTe := R.tab s T la hrel
      have hA := hM.tab s hMi
      have hg2 := step_good hGd hA (show y.toNat < 256 by omega)
      have hMi2 := hM.nxt s y.toNat hMi (by omega)
      have hrel2 := R.nxt s T la y.toNat hrel (by omega)
      rw [hTe] at hA hg2
      rw [hyt] at hrel2
      replace hnx : encUp M s0 b (k + 1) = (stepC cs (T (ixR m la)) y.toNat, M.nxt s y.toNat) := by rw [hnx]; unfold encF; rw [hTe]
      have hgr : (stepC cs (T (ixR m la)) y.toNat).out.length ≤ cs.out.length + 4 := by
        unfold stepC
        have := norm_grow 4 (putC cs (cs.size / (T (ixR m la)).t) ((T (ixR m la)).c.take y.toNat).sum ((T (ixR m la)).c.getD y.toNat 0))
        rw [put_len] at this; exact this
      refine wpIn_skip ?_
      refine thenN ?_
      refine wpIn_seq ?_
      refine wpIn_block ?_
      refine wpIn_seq ?_
      refine draw (.cons 0 .pure (.cons 1 .pure (.cons 3 .pure (.cons 4 .pure (.cons 5 .pure (.cons 6 .held (.cons 2 .eff (.cons 7 .bar .nil)))))))) mixed (by kernel_rfl) hS ?_
      intro w_3 hS
      refine sp rfl (g_move _) ?_
      refine sp rfl (g_move _) ?_
      refine sp rfl (g_move _) ?_
      refine sp rfl (g_movev (v := .int .i64 _) rfl) ?_
      refine sp rfl (g_ixI Tryd.underlying25 Tryd.sizeOf5 (hb.mono hS.ext) rfl rfl (by omega) (by omega)) ?_
      refine sh rfl (g_ldE1 Tryd.isAgg5 hyA rfl rfl) ?_
      have hS0 := hS
      refine se rfl (d_call Tryd.call44 rfl (nowr_c hm hla _ _ hS.imm hH)) ?_
      rintro _ w_4 ⟨tb, rfl, htb, hE⟩
      replace hS := hS.call hE
      refine ⟨_, _, hS0.le hE.ext (List.Sublist.refl _), hS, ?_⟩
      refine sb rfl (d_call Tryd.call43 rfl (addr_c ob tb cs (T (ixR m la)) y.toNat y hyt.symm (by omega) hA hGd _ _ (by omega) _ _ _ (hH.tab _ _ htb) (St.ownL hS))) ?_
      rintro _ w_5 ⟨rfl, a36, c36, hE⟩
      replace hS := St.callL hS hE
      refine ⟨_, _, hS, ?_⟩
      refine sn (thenN ?_)
      refine reg ?_
      refine qq hS (g_move _) ?_
      refine qq hS (g_move _) ?_
      refine qq hS (g_movev (v := .int .i64 _) rfl) ?_
      refine qq hS (g_ixI Tryd.underlying25 Tryd.sizeOf5 (hb.mono hS.ext) rfl rfl (by omega) (by omega)) ?_
      refine qq hS (g_ldE1 Tryd.isAgg5 hyA rfl rfl) ?_
      refine qe (d_call Tryd.call45 rfl (sawt_c y.toNat y hyt.symm (by omega) hm hla hA _ _ hS.imm hH)) ?_
      rintro _ w_6 ⟨I3, rfl, hC, hH3⟩
      have hsz1 := hS.size
      replace hS := St.chg hI hS (fun c hc => ⟨hH.foot c hc, hFn c hc⟩) hC
      refine ol_nil (blkN (thenN ?_))
      refine reg ?_
      refine qq hS (g_movev (v := .int .i64 _) rfl) ?_
      refine qq hS (g_add rfl rfl (by omega) (by omega)) ?_
      refine qq hS (g_assignv (v := .int .i64 _) rfl) ?_
      exact ⟨⟨k + 1, stepC cs (T (ixR m la)) y.toNat, M.nxt s y.toNat, _, y, a36, c36⟩, _, rfl, ⟨⟨rfl, rfl, rfl, rfl, trivial⟩, _, hS.sel [true, true], by dsimp only; omega, hnx, hg2, hMi2, hrel2, ⟨by dsimp only; omega, by dsimp only; omega⟩, by dsimp only; omega, hyt ▸ hH3, hFn⟩, by dsimp only; omega⟩
    ·
      intro hc26
      clear hu13 hn13 hu14 hn14
      try simp only [Bool.and_eq_true, Bool.or_eq_true, Bool.not_eq_true', Bool.and_eq_false_imp, Bool.or_eq_false_iff, Bool.not_eq_false', decide_eq_true_eq, decide_eq_false_iff_not] at hc26
      obtain rfl : k = b.length := by omega
      obtain ⟨u1, u2⟩ := hGd.ok.low
      have hep : encP M s0 b = trimZ (tailC cs) := by unfold encP; rw [hup]
      have ht1 : IntKind.u8.wrap (cs.low / 16777216) = cs.low / 16777216 := by rw [IntKind.wrap_u8]; omega
      have ht2 : IntKind.u8.wrap (cs.low / 65536 % 256) = cs.low / 65536 % 256 := by rw [IntKind.wrap_u8]; omega
      have ht3 : IntKind.u8.wrap (cs.low / 256 % 256) = cs.low / 256 % 256 := by rw [IntKind.wrap_u8]; omega
      have ht4 : IntKind.u8.wrap (cs.low % 256) = cs.low % 256 := by rw [IntKind.wrap_u8]; omega
      refine wpIn_exit ?_
      refine thenE (thenE (blkE ?_))
      refine thenN ?_
      refine wpIn_seq ?_
      refine draw (.cons 0 .pure (.cons 1 .pure (.cons 2 .pure (.cons 3 .held (.cons 4 .pure (.cons 5 .pure (.cons 6 .pure (.cons 7 .held (.cons 8 .pure (.cons 9 .pure (.cons 10 .pure (.cons 11 .pure (.cons 12 .pure (.cons 13 .held (.cons 14 .pure (.cons 15 .pure (.cons 16 .pure (.cons 17 .pure (.cons 18 .pure (.cons 19 .pure (.cons 20 .held (.cons 21 .pure (.cons 22 .pure (.cons 23 .pure (.cons 24 .pure (.cons 25 .pure (.cons 26 .pure (.cons 27 .held (.cons 28 .pure (.cons 29 .pure (.cons 30 .eff (.cons 31 .bar (.cons 32 .pure .nil))))))))))))))))))))))))))))))))) mixed (by kernel_rfl) hS ?_
      intro w_7 hS
      refine sp rfl (g_move _) ?_
      refine sp rfl (g_nilCheck rfl) ?_
      refine sp rfl (g_fieldAddr (o' := 2) Tryd.underlying98 rfl Tryd.sizeOf25 rfl rfl rfl) ?_
      refine sh rfl (g_ldO1 1 Tryd.isAgg25 rfl rfl rfl) ?_
      refine sp rfl (g_move _) ?_
      refine sp rfl (g_nilCheck rfl) ?_
      refine sp rfl (g_fieldAddr (o' := 0) Tryd.underlying98 rfl Tryd.sizeOf3 rfl rfl rfl) ?_
      refine sh rfl (g_ldO1 1 Tryd.isAgg3 rfl rfl rfl) ?_
      refine sp rfl (g_quo rfl rfl (by omega) (by omega) (by omega)) ?_
      refine sp rfl (g_convu Tryd.underlying3 Tryd.underlying5 rfl ht1) ?_
      refine sp rfl (g_move _) ?_
      refine sp rfl (g_nilCheck rfl) ?_
      refine sp rfl (g_fieldAddr (o' := 0) Tryd.underlying98 rfl Tryd.sizeOf3 rfl rfl rfl) ?_
      refine sh rfl (g_ldO1 1 Tryd.isAgg3 rfl rfl rfl) ?_
      refine sp rfl (g_quo rfl rfl (by omega) (by omega) (by omega)) ?_
      refine sp rfl (g_rem rfl rfl (by omega) (by omega)) ?_
      refine sp rfl (g_convu Tryd.underlying3 Tryd.underlying5 rfl ht2) ?_
      refine sp rfl (g_move _) ?_
      refine sp rfl (g_nilCheck rfl) ?_
      refine sp rfl (g_fieldAddr (o' := 0) Tryd.underlying98 rfl Tryd.sizeOf3 rfl rfl rfl) ?_
      refine sh rfl (g_ldO1 1 Tryd.isAgg3 rfl rfl rfl) ?_
      refine sp rfl (g_quo rfl rfl (by omega) (by omega) (by omega)) ?_
      refine sp rfl (g_rem rfl rfl (by omega) (by omega)) ?_
      refine sp rfl (g_convu Tryd.underlying3 Tryd.underlying5 rfl ht3) ?_
      refine sp rfl (g_move _) ?_
      refine sp rfl (g_nilCheck rfl) ?_
      refine sp rfl (g_fieldAddr (o' := 0) Tryd.underlying98 rfl Tryd.sizeOf3 rfl rfl rfl) ?_
      refine sh rfl (g_ldO1 1 Tryd.isAgg3 rfl rfl rfl) ?_
      refine sp rfl (g_rem rfl rfl (by omega) (by omega)) ?_
      refine sp rfl (g_convu Tryd.underlying3 Tryd.underlying5 rfl ht4) ?_
      have hS0 := hS
      refine se rfl (d_lit (vs := [.int .u8 _, .int .u8 _, .int .u8 _, .int .u8 _]) (cs := [.int .u8 _, .int .u8 _, .int .u8 _, .int .u8 _]) hS Tryd.underlying25 Tryd.sizeOf5 Tryd.zeroValue5 rfl rfl rfl rfl (fun v hv => by simp only [List.mem_cons, List.not_mem_nil, or_false] at hv; rcases hv with rfl | rfl | rfl | rfl <;> rfl) rfl) ?_
      rintro _ w_8 ⟨b_8, rfl, hS⟩
      refine ⟨_, _, hS0.le (Sub.refl _) (List.sublist_cons_self _ _), hS, ?_⟩
      refine sb rfl (i_appendO 1 0 hS rfl Tryd.underlying25 info5 rfl rfl rfl rfl rfl rfl rfl rfl (by omega) (by omega)) ?_
      rintro _ w_9 ⟨a74, p74, rfl, hS⟩
      refine ⟨_, _, hS, ?_⟩
      refine sp rfl (g_assign _) ?_
      refine sn (thenN ?_)
      refine wpIn_seq ?_
      refine wpIn_block ?_
      have hF := St.freezeRow (u := .slice a74 (cs.out.length + 4) p74) (m := cs.out.length + 4) (xs := tailC cs) byteC_len (by rw [tail_flat]; exact hS.ord [1, 0, 2]) ((tail_len cs).symm)
      clear hS
      obtain ⟨I_f, hS, hI_f, hfz⟩ := hF
      have htl := tail_len cs
      obtain ⟨l, hl⟩ : ∃ l, tailC cs = l := ⟨_, rfl⟩
      rw [hl] at hfz hep htl
      rw [← htl] at hfz
      have hll := RSl.le hfz
      simp only [maxLen] at hll
      refine loop (fun (x : TrW) σ w => okS σ [(9, .slice x.a x.k x.c)] ∧ St [] w0 I0 I_f w [] ∧ x.k ≤ l.length ∧ RBytes I_f (.slice x.a x.k x.c) (l.take x.k) ∧ trimZ (l.take x.k) = trimZ l) (fun x => x.k) (⟨l.length, a74, p74⟩) ?_ ?_
      ·
        refine ⟨⟨?_, trivial⟩, hS.sel [false, false], Nat.le_refl _, by dsimp only; rw [List.take_length]; exact hfz, by dsimp only; rw [List.take_length]⟩
        dsimp only; rw [htl]; rfl
      ·
        rintro ⟨k, a, c⟩ σ w_l ⟨hs, hS, hk0, hT, htr⟩
        dsimp only at hs hS hk0 hT htr ⊢
        rw [← upds_self hs]; clear hs
        refine wpIn_seq ?_
        refine wpIn_seq ?_
        have hlt : (l.take k).length = k := by rw [List.length_take]; omega
        obtain ⟨d, hd⟩ : ∃ d, l.getD (k - 1) 0 = d := ⟨_, rfl⟩
        have hdi : 0 < k → l[k - 1]? = some d := fun h => by rw [← hd, List.getD_eq_getElem?_getD, List.getElem?_eq_getElem (show k - 1 < l.length by omega)]; rfl
        have hsp : 0 < k → l.take k = l.take (k - 1) ++ [d] := fun h => by have := take_snoc (hdi h); rwa [show k - 1 + 1 = k by omega] at this
        have hdA : 0 < ((l.take k).length : Int) → atI I_f (elA (.slice a k c) (((l.take k).length : Int) - 1).toNat 1 0) [.int .u8 d] := fun h => by
          have := hT.at (show (l.take k)[(((l.take k).length : Int) - 1).toNat]? = some d by rw [show (((l.take k).length : Int) - 1).toNat = k - 1 by omega, List.getElem?_take, if_pos (by omega)]; exact hdi (by omega))
          exact this
        refine reg ?_
        refine qq hS (g_move _) ?_
        refine qq hS (g_lenI rfl Tryd.underlying25 hT rfl) ?_
        refine qq hS (g_gtr rfl rfl) ?_
        refine qq hS (g_movev (v := .bool _) rfl) ?_
        refine qu rfl rfl hS (fun hg => (g_move _)) ?_
        intro u79 hu79 hn79
        refine qu rfl rfl hS (fun hg => (g_move _)) ?_
        intro u80 hu80 hn80
        refine qu rfl rfl hS (fun hg => (g_lenI rfl Tryd.underlying25 hT (hu80 hg))) ?_
        intro u81 hu81 hn81
        refine qu rfl rfl hS (fun hg => (g_sub (hu81 hg) rfl (by omega) (by omega))) ?_
        intro u82 hu82 hn82
        refine qu rfl rfl hS (fun hg => (g_ixI Tryd.underlying25 Tryd.sizeOf5 hT (hu79 hg) (hu82 hg) (by have := of_decide_eq_true hg; omega) (by have := of_decide_eq_true hg; omega))) ?_
        intro u83 hu83 hn83
        refine qu rfl rfl hS (fun hg => (g_ldE1 Tryd.isAgg5 (hdA (of_decide_eq_true hg)) (hu83 hg) rfl)) ?_
        intro u84 hu84 hn84
        refine qu rfl rfl hS (fun hg => (g_eql (hu84 hg) rfl)) ?_
        intro u85 hu85 hn85
        refine qq hS (g_and rfl rfl (fun hq => hu85 hq)) ?_
        refine ol_nil (thenN ?_)
        refine cond_s rfl ?_ ?_
        ·
          intro hc86
          clear hu79 hn79 hu80 hn80 hu81 hn81 hu82 hn82 hu83 hn83 hu84 hn84 hu85 hn85
          rw [Bool.and_eq_true, decide_eq_true_eq, decide_eq_true_eq] at hc86
          obtain ⟨hk1, hd0⟩ := hc86
          have hk2 : 0 < k := by omega
          have hs2 := RSl.slH hT (k - 1) (by rw [List.length_take]; omega)
          rw [List.take_take, show min (k - 1) k = k - 1 by omega] at hs2
          obtain ⟨a2, c2, hv2, _⟩ := hs2.len
          rw [hv2] at hs2
          rw [show (l.take (k - 1)).length = k - 1 by rw [List.length_take]; omega] at hv2 hs2
          have hcc := (RSl.resl2 hT k k (by first | omega | (rw [List.length_take]; omega)) (by first | omega | (rw [List.length_take]; omega))).2.1
          have htr2 : trimZ (l.take (k - 1)) = trimZ l := by
            rw [← htr, hsp hk2, hd0, trimZ_zero]
          refine wpIn_skip ?_
          refine thenN ?_
          refine wpIn_block ?_
          refine reg ?_
          refine qq hS (g_move _) ?_
          refine qq hS (g_move _) ?_
          refine qq hS (g_lenI rfl Tryd.underlying25 hT rfl) ?_
          refine qq hS (g_sub rfl rfl (by omega) (by omega)) ?_
          refine qq hS (g_castT (g_sliceHN (h0 := k - 1) Tryd.underlying25 Tryd.sizeOf5 rfl rfl (by omega) (by omega) (by omega)) hv2) ?_
          refine qq hS (g_assign _) ?_
          exact ⟨⟨k - 1, a2, c2⟩, _, rfl, ⟨⟨rfl, trivial⟩, hS.sel [], by dsimp only; omega, hs2, htr2⟩, by dsimp only; omega⟩
        ·
          intro hc86
          clear hu79 hn79 hu80 hn80 hu81 hn81 hu82 hn82 hu83 hn83 hu84 hn84 hu85 hn85
          have hfin : trimZ l = l.take k := by
            rw [← htr]
            rcases Nat.eq_zero_or_pos k with h | h
            · subst h; rfl
            · rw [hsp h]
              exact trimZ_ne _ (fun h0 => by rw [Bool.and_eq_false_iff, decide_eq_false_iff_not, decide_eq_false_iff_not] at hc86; omega)
          refine wpIn_exit ?_
          refine thenE (thenE (blkE ?_))
          refine thenN ?_
          refine wpIn_seq ?_
          refine reg ?_
          refine qq hS (g_move _) ?_
          refine qq hS (g_assign _) ?_
          refine qq hS (g_assignv (v := .int .i64 _) rfl) ?_
          refine ol_nil (thenN ?_)
          refine wpIn_ret ?_
          refine ret2 Tryd.results28 (rv_tmp rfl) (rv_tmp (v := .int .i64 _) rfl) ?_
          rw [hep]
          have hlk : (trimZ l).length = k := by rw [hfin, List.length_take]; omega
          rw [hlk, hfin]
          exact ⟨_, a, c, rfl, hS.nil, hT⟩

end Go.Proofs.YtdgnojckkjfhfaaDoor

