/- merge.places, merge.ranges: an iterator over the places where something holds, and their ranges. Conditions: numbers within bounds. -/
import Derived.Test.YtodopmclnklgdaaGreatForm
import Derived.Test.YtodopmclnklgdaaGreatPats
import Derived.Test.YtodopmclnklgdaaGreatCore13
import Derived.Test.YtodopmclnklgdaaGreatSpec11
namespace Go.Proofs.YtodopmclnklgdaaGreat
open Go Go.RowKit Go.Inl
set_option linter.unusedSimpArgs false
set_option linter.unusedVariables false
abbrev RBools (I : Imm) (v : Value) (l : List Bool) : Prop := RFl I 1 boolC v l
def rgC (r : Int × Int) : List Value := [.int .i64 r.1, .int .i64 r.2]
theorem rgC_len (r : Int × Int) : (rgC r).length = 2 := rfl
abbrev RRgs (I : Imm) (v : Value) (l : List (Int × Int)) : Prop := RFl I 2 rgC v l
/-- What an iterator over places yields. -/
def plA (l : List Nat) (k : Nat) : List Value := [.int .i64 (l.getD k 0 : Nat)]
theorem plA_at {l : List Nat} {k i : Nat} (h : l[k]? = some i) : plA l k = [.int .i64 (i : Nat)] := by
  unfold plA; rw [List.getD_eq_getElem?_getD, h]; rfl
theorem plc_at {f : Nat → Bool} {i : Nat} (hf : f i = true) : ∀ {n : Nat}, i < n → (plc n f)[(plc i f).length]? = some i
  | 0, h => by omega
  | n + 1, h => by
    rw [plc_succ]
    by_cases hn : i = n
    · subst hn
      rw [hf, if_pos rfl, List.getElem?_append_right (Nat.le_refl _), Nat.sub_self]; rfl
    · have ih := plc_at hf (n := n) (by omega)
      split
      · rw [List.getElem?_append_left (List.getElem?_eq_some_iff.1 ih).1, ih]
      · exact ih
theorem plc_lt {f : Nat → Bool} {i n : Nat} (hf : f i = true) (h : i < n) : (plc i f).length < (plc n f).length := (List.getElem?_eq_some_iff.1 (plc_at hf h)).1
theorem plc_one {f : Nat → Bool} {i : Nat} (hf : f i = true) : (plc (i + 1) f).length = (plc i f).length + 1 := by rw [plc_succ, hf, if_pos rfl, List.length_append]; rfl
theorem plc_none {f : Nat → Bool} {i : Nat} (hf : f i = false) : plc (i + 1) f = plc i f := by rw [plc_succ, hf, if_neg (by simp)]
theorem plc_le (n : Nat) (f : Nat → Bool) : (plc n f).length ≤ n := by
  have := List.length_filter_le f (List.range n)
  rwa [List.length_range] at this
def lastR (R : List (Int × Int)) : Int × Int := R.getLast?.getD (0, 0)
theorem lastR_some {R : List (Int × Int)} (h : 0 < R.length) : R.getLast? = some (lastR R) := by
  cases hl : R.getLast? with
  | none => rw [List.getLast?_eq_none_iff] at hl; subst hl; simp at h
  | some r => simp [lastR, hl]
theorem lastR_split {R : List (Int × Int)} (h : 0 < R.length) : ∃ D, R = D ++ [lastR R] ∧ D.length + 1 = R.length := by
  have h1 := lastR_some h
  obtain ⟨D, hD⟩ := List.getLast?_eq_some_iff.1 h1
  refine ⟨D, hD, ?_⟩
  have h2 := congrArg List.length hD
  rw [List.length_append, List.length_singleton] at h2
  omega
theorem extR_new {R : List (Int × Int)} {i : Int} (h : ¬ (0 < R.length ∧ (lastR R).2 = i)) : extR R i = R ++ [(i, i + 1)] := by
  by_cases h0 : 0 < R.length
  · rw [extR_last i (lastR_some h0), if_neg fun e => h ⟨h0, e⟩]
  · have : R = [] := List.length_eq_zero_iff.1 (by omega)
    subst this; rfl
theorem extR_same {D : List (Int × Int)} {r : Int × Int} {i : Int} (h : r.2 = i) : extR (D ++ [r]) i = D ++ [(r.1, i + 1)] := by
  rw [extR_last i (r := r) List.getLast?_concat, if_pos h, List.dropLast_concat]
theorem rngL_at {l : List Nat} {k i : Nat} (h : l[k]? = some i) : rngL (l.take (k + 1)) = extR (rngL (l.take k)) i := by rw [take_snoc h, rngL_snoc]
theorem lastR_cell {R : List (Int × Int)} {i : Nat} (h : 0 < R.length) (hi : i = R.length - 1) : (flat rgC R)[i * 2 + 1]? = some (.int .i64 (lastR R).2) := by
  subst hi
  obtain ⟨D, hD, hl⟩ := lastR_split h
  have h1 : R[R.length - 1]? = some (lastR R) := by
    have : R.length - 1 = D.length := by omega
    rw [this]
    conv => lhs; rw [hD]
    simp
  exact flat_get rgC_len R (R.length - 1) (lastR R) h1 1 _ rfl

set_option maxHeartbeats 1000000 in
theorem placesB_it (bs : List Bool) (va : Value) (b c : Nat) (g : FuncId) (caps : List Value) (f : Nat → Bool) (I0 : Imm) (hb : atI I0 ⟨b, 0, none⟩ [va]) (hc : atI I0 ⟨c, 0, none⟩ [.func (.func g) #[] caps.toArray]) (hl : RFl I0 1 boolC va bs)
    (hcg : ∀ args w, (callFunc g args).run Tryz.prog w = .ok (.enter g args) w) (hq : ∀ (I : Imm) (i : Nat) x w, bs[i]? = some x → Inl.Sub I0 I → Sat I w → Ctr Tryz.prog g (.int .i64 i :: .bool x :: caps) w (fun v w' => v = .bool (f i) ∧ Ext w I w' I)) :
    IterC Tryz.prog 112 [.pointer (some ⟨b, 0, none⟩), .pointer (some ⟨c, 0, none⟩)] (plA (plc bs.length f)) (plc bs.length f).length I0 := by
  intro lp J Jx w1 I1 hst hyc hsat hsub hJ0
  replace hb := hb.mono hsub
  replace hc := hc.mono hsub
  replace hl := hl.mono hsub
  have hle := RSl.le hl
  simp only [maxLen] at hle
  refine fn (n := 24) Tryz.func112 rfl rfl rfl ?_
  have hS := St.start hsat
  refine wpIn_seq ?_
  refine reg ?_
  refine qq hS (g_ldB1 (c := 0) Tryz.isAgg59 hb rfl rfl) ?_
  refine qq hS (g_lenI rfl Tryz.underlying59 hl rfl) ?_
  refine qq hS (g_movev (v := .int .i64 _) rfl) ?_
  refine ol_nil (thenN ?_)
  refine wpIn_block ?_
  refine loop (fun (k : Nat) σ w => okS σ [(0, .func (.yield lp) #[] #[]), (1, .pointer (some ⟨b, 0, none⟩)), (2, .pointer (some ⟨c, 0, none⟩)), (6, va), (7, .int .i64 bs.length), (8, .int .i64 k)] ∧ ∃ I, St [] w I I w [] ∧ k ≤ bs.length ∧ Inl.Sub I1 I ∧ J (plc k f).length I w) (fun k => bs.length - k) (0) ?_ ?_
  ·
    exact ⟨⟨rfl, rfl, rfl, rfl, rfl, rfl, trivial⟩, _, St.start hS.imm, by simp, Inl.Sub.refl _, hJ0⟩
  ·
    rintro k σ w_l ⟨hs, I, hS, hk0, hsub1, hJ⟩
    rw [← upds_self hs]; clear hs
    refine wpIn_seq ?_
    refine reg ?_
    refine qq hS (g_lss rfl rfl) ?_
    refine ol_nil (thenN ?_)
    refine wpIn_seq ?_
    refine cond_s rfl ?_ ?_
    ·
      intro hc9
      try simp only [Bool.and_eq_true, Bool.or_eq_true, Bool.not_eq_true', Bool.and_eq_false_imp, Bool.or_eq_false_iff, Bool.not_eq_false', decide_eq_true_eq, decide_eq_false_iff_not] at hc9
      obtain ⟨x, hxi⟩ : ∃ x, bs[k]? = some x := ⟨_, List.getElem?_eq_getElem (by omega)⟩
      have hkl : k < bs.length := by omega
      have hxA := (hl.mono hsub1).at hxi
      refine wpIn_skip ?_
      refine thenN ?_
      refine wpIn_seq ?_
      refine wpIn_block ?_
      refine wpIn_seq ?_
      refine reg ?_
      refine qq hS (g_movev (v := .int .i64 _) rfl) ?_
      refine qq hS (g_ixI Tryz.underlying59 Tryz.sizeOf4 (hl.mono hsub1) rfl rfl (by omega) (by omega)) ?_
      refine qq hS (g_ldE1 Tryz.isAgg4 hxA rfl rfl) ?_
      refine qq hS (g_assignv (v := .int .i64 _) rfl) ?_
      refine qq hS (g_assignv (v := .bool _) rfl) ?_
      refine ol_nil (thenN ?_)
      refine wpIn_seq ?_
      refine reg ?_
      refine qq hS (g_ldB1 (c := 0) Tryz.isAgg127 (hc.mono hsub1) rfl rfl) ?_
      refine qq hS (g_movev (v := .int .i64 _) rfl) ?_
      refine qq hS (g_movev (v := .bool _) rfl) ?_
      refine qe (d_callv hcg rfl rfl (hq I k x _ hxi (hsub.trans hsub1) hS.imm)) ?_
      rintro _ w_1 ⟨rfl, hE⟩
      replace hS := hS.callE hE
      refine qq hS (g_movev (v := .bool _) rfl) ?_
      refine qu rfl rfl hS (fun hg => (g_move _)) ?_
      intro u18 hu18 hn18
      refine qu rfl rfl hS (fun hg => (g_movev (v := .int .i64 _) rfl)) ?_
      intro u19 hu19 hn19
      refine gvu rfl rfl (fun hg => (d_yieldC (hu18 hg) (Eq.trans (ml (hu19 hg) ml0) (plA_at (plc_at hg hkl)).symm) hyc (plc_lt hg hkl) hS.imm (hst _ _ _ _ _ hJ hS.nil))) ?_
      rintro w20 u20 hor
      have hx : ∃ I2 bb, St [] w20 I2 I2 w20 [] ∧ Inl.Sub I I2 ∧ (f k = true → u20 = .bool bb) ∧ (f k = true → bb = true → J (plc (k + 1) f).length I2 w20) ∧ (f k = true → bb = false → Jx (plc k f).length I2 w20) ∧ (f k = false → J (plc (k + 1) f).length I2 w20) := by
        rcases hor with ⟨hg, bb, I2, h1, h2, h3, h4, h5⟩ | ⟨hg, h1, h2⟩
        · refine ⟨I2, bb, St.start h2, h3, fun _ => h1, fun h e => ?_, fun _ => h5, fun h => by rw [hg] at h; cases h⟩
          rw [plc_one h]; exact h4 e
        · subst h2
          refine ⟨I, true, St.start hS.imm, Inl.Sub.refl _, fun h => absurd h hg, fun h => absurd h hg, fun h => absurd h hg, fun h => ?_⟩
          rw [plc_none h]; exact hst _ _ _ _ _ hJ hS.nil
      clear hS hor
      obtain ⟨I2, bb, hS, hsub2, hu20, hyt, hyf, hyn⟩ := hx
      refine qu rfl rfl hS (fun hg => (g_not (hu20 hg))) ?_
      intro u21 hu21 hn21
      refine qq hS (g_and rfl rfl (fun hq => hu21 hq)) ?_
      refine ol_nil (thenN ?_)
      refine cond_s rfl ?_ ?_
      ·
        intro hc22
        clear hu18 hn18 hu19 hn19 hu20 hu21 hn21
        simp only [Bool.and_eq_true, Bool.not_eq_true'] at hc22
        have hfin := hyf hc22.1 hc22.2
        refine wpIn_ret ?_
        refine blkR (thenR (thenR (blkR ?_)))
        refine ret0 Tryz.results112  ?_
        exact ⟨_, hS.imm, hsub1.trans hsub2, .inr ⟨(plc k f).length, plc_lt hc22.1 hkl, hfin⟩⟩
      ·
        intro hc22
        clear hu18 hn18 hu19 hn19 hu20 hu21 hn21
        have hJ2 : J (plc (k + 1) f).length I2 w20 := by
          cases hf : f k with
          | true =>
            rw [hf, Bool.true_and] at hc22
            exact hyt hf (by simpa using hc22)
          | false => exact hyn hf
        refine wpIn_skip ?_
        refine blkN (thenN ?_)
        refine reg ?_
        refine qq hS (g_add rfl rfl (by omega) (by omega)) ?_
        refine qq hS (g_movev (v := .int .i64 _) rfl) ?_
        refine ol_nil (thenN ?_)
        exact ⟨k + 1, _, rfl, ⟨⟨rfl, rfl, rfl, rfl, rfl, rfl, trivial⟩, _, hS.sel [], by omega, hsub1.trans hsub2, hJ2⟩, by omega⟩
    ·
      intro hc9
      try simp only [Bool.and_eq_true, Bool.or_eq_true, Bool.not_eq_true', Bool.and_eq_false_imp, Bool.or_eq_false_iff, Bool.not_eq_false', decide_eq_true_eq, decide_eq_false_iff_not] at hc9
      have hk : k = bs.length := by omega
      subst hk
      refine wpIn_exit ?_
      refine thenE (thenE (blkE ?_))
      refine end0 Tryz.results112  ?_
      exact ⟨_, hS.imm, hsub1, .inl hJ⟩

theorem placesB_c (ad : Option Addr) (m cap : Nat) (g : FuncId) (caps : List Value) (w0 : World) (I0 : Imm) (hI : Sat I0 w0) :
    Ctr Tryz.prog 68 [.slice ad m cap, .func (.func g) #[] caps.toArray] w0 (fun v w' => ∃ I' b c, v = .func (.func 112) #[] [.pointer (some ⟨b, 0, none⟩), .pointer (some ⟨c, 0, none⟩)].toArray ∧ Ext w0 I0 w' I' ∧ atI I' ⟨b, 0, none⟩ [.slice ad m cap] ∧ atI I' ⟨c, 0, none⟩ [.func (.func g) #[] caps.toArray]) := by
  refine fn (n := 6) Tryz.func68 rfl rfl rfl ?_
  have hS := St.start hI
  refine wpIn_seq ?_
  refine reg ?_
  refine qe (d_box (cs := [.slice _ _ _]) hS rfl) ?_
  clear hS
  rintro _ w_1 ⟨b2, rfl, hS⟩
  refine qe (d_box (cs := [_]) hS rfl) ?_
  clear hS
  rintro _ w_2 ⟨b3, rfl, hS⟩
  refine qq hS (g_assign _) ?_
  refine ol_nil (thenN ?_)
  refine wpIn_seq ?_
  refine reg ?_
  refine qq hS (g_makeFuncL ml0 (ml rfl (ml rfl ml0))) ?_
  refine qq hS (g_assign _) ?_
  refine ol_nil (thenN ?_)
  refine wpIn_ret ?_
  refine ret1 Tryz.results68 (rv_tmp rfl) ?_
  obtain ⟨I2, hS2, hI2, hb3⟩ := hS.freeze1
  obtain ⟨I3, hS3, hI3, hb2⟩ := hS2.freeze1
  exact ⟨I3, b2, b3, rfl, hS3, hb2, hb3.mono hI3⟩

set_option maxHeartbeats 1000000 in
theorem placesS_it (bs : List Sym) (va : Value) (b c : Nat) (g : FuncId) (caps : List Value) (f : Nat → Bool) (I0 : Imm) (hb : atI I0 ⟨b, 0, none⟩ [va]) (hc : atI I0 ⟨c, 0, none⟩ [.func (.func g) #[] caps.toArray]) (hl : RFl I0 3 symC va bs)
    (hcg : ∀ args w, (callFunc g args).run Tryz.prog w = .ok (.enter g args) w) (hq : ∀ (I : Imm) (i : Nat) x w, bs[i]? = some x → Inl.Sub I0 I → Sat I w → Ctr Tryz.prog g (.int .i64 i :: symV x :: caps) w (fun v w' => v = .bool (f i) ∧ Ext w I w' I)) :
    IterC Tryz.prog 145 [.pointer (some ⟨b, 0, none⟩), .pointer (some ⟨c, 0, none⟩)] (plA (plc bs.length f)) (plc bs.length f).length I0 := by
  intro lp J Jx w1 I1 hst hyc hsat hsub hJ0
  replace hb := hb.mono hsub
  replace hc := hc.mono hsub
  replace hl := hl.mono hsub
  have hle := RSl.le hl
  simp only [maxLen] at hle
  refine fn (n := 24) Tryz.func145 rfl rfl rfl ?_
  have hS := St.start hsat
  refine wpIn_seq ?_
  refine reg ?_
  refine qq hS (g_ldB1 (c := 0) Tryz.isAgg83 hb rfl rfl) ?_
  refine qq hS (g_lenI rfl Tryz.underlying83 hl rfl) ?_
  refine qq hS (g_movev (v := .int .i64 _) rfl) ?_
  refine ol_nil (thenN ?_)
  refine wpIn_block ?_
  refine loop (fun (k : Nat) σ w => okS σ [(0, .func (.yield lp) #[] #[]), (1, .pointer (some ⟨b, 0, none⟩)), (2, .pointer (some ⟨c, 0, none⟩)), (6, va), (7, .int .i64 bs.length), (8, .int .i64 k)] ∧ ∃ I, St [] w I I w [] ∧ k ≤ bs.length ∧ Inl.Sub I1 I ∧ J (plc k f).length I w) (fun k => bs.length - k) (0) ?_ ?_
  ·
    exact ⟨⟨rfl, rfl, rfl, rfl, rfl, rfl, trivial⟩, _, St.start hS.imm, by simp, Inl.Sub.refl _, hJ0⟩
  ·
    rintro k σ w_l ⟨hs, I, hS, hk0, hsub1, hJ⟩
    rw [← upds_self hs]; clear hs
    refine wpIn_seq ?_
    refine reg ?_
    refine qq hS (g_lss rfl rfl) ?_
    refine ol_nil (thenN ?_)
    refine wpIn_seq ?_
    refine cond_s rfl ?_ ?_
    ·
      intro hc9
      try simp only [Bool.and_eq_true, Bool.or_eq_true, Bool.not_eq_true', Bool.and_eq_false_imp, Bool.or_eq_false_iff, Bool.not_eq_false', decide_eq_true_eq, decide_eq_false_iff_not] at hc9
      obtain ⟨x, hxi⟩ : ∃ x, bs[k]? = some x := ⟨_, List.getElem?_eq_getElem (by omega)⟩
      have hkl : k < bs.length := by omega
      have hxA := (hl.mono hsub1).at hxi
      refine wpIn_skip ?_
      refine thenN ?_
      refine wpIn_seq ?_
      refine wpIn_block ?_
      refine wpIn_seq ?_
      refine reg ?_
      refine qq hS (g_movev (v := .int .i64 _) rfl) ?_
      refine qq hS (g_ixI Tryz.underlying83 Tryz.sizeOf81 (hl.mono hsub1) rfl rfl (by omega) (by omega)) ?_
      refine qq hS (g_ldE (us := [.bool _, .int .i64 _, .int .u8 _]) Tryz.sizeOf81 Tryz.isAgg81 hxA rfl rfl rfl) ?_
      refine qe (d_alloc (cs := [.bool _, .int .i64 _, .int .u8 _]) hS Tryz.zeroValue81 rfl) ?_
      clear hS
      rintro _ w_1 ⟨b5, rfl, hS⟩
      refine qq hS (g_assignv (v := .int .i64 _) rfl) ?_
      refine qe (d_store 0 hS Tryz.sizeOf81 rfl rfl rfl (vs := [.bool _, .int .i64 _, .int .u8 _]) rfl rfl rfl (Nat.le_of_ble_eq_true rfl) (cs' := [_, _, _]) rfl) ?_
      clear hS
      rintro _ w_2 ⟨rfl, hS⟩
      refine ol_nil (thenN ?_)
      refine wpIn_seq ?_
      refine reg ?_
      refine qq hS (g_ldB1 (c := 0) Tryz.isAgg197 (hc.mono hsub1) rfl rfl) ?_
      refine qq hS (g_movev (v := .int .i64 _) rfl) ?_
      refine qq hS (g_ldO 0 (vs := [.bool _, .int .i64 _, .int .u8 _]) Tryz.sizeOf81 Tryz.isAgg81 rfl rfl rfl rfl) ?_
      refine qe (d_callv hcg rfl rfl (hq I k x _ hxi (hsub.trans hsub1) hS.imm)) ?_
      rintro _ w_3 ⟨rfl, hE⟩
      replace hS := hS.callE hE
      refine qq hS (g_movev (v := .bool _) rfl) ?_
      refine qu rfl rfl hS (fun hg => (g_move _)) ?_
      intro u18 hu18 hn18
      refine qu rfl rfl hS (fun hg => (g_movev (v := .int .i64 _) rfl)) ?_
      intro u19 hu19 hn19
      refine gvu rfl rfl (fun hg => (d_yieldC (hu18 hg) (Eq.trans (ml (hu19 hg) ml0) (plA_at (plc_at hg hkl)).symm) hyc (plc_lt hg hkl) hS.imm (hst _ _ _ _ _ hJ hS.nil))) ?_
      rintro w20 u20 hor
      have hx : ∃ I2 bb, St [] w20 I2 I2 w20 [] ∧ Inl.Sub I I2 ∧ (f k = true → u20 = .bool bb) ∧ (f k = true → bb = true → J (plc (k + 1) f).length I2 w20) ∧ (f k = true → bb = false → Jx (plc k f).length I2 w20) ∧ (f k = false → J (plc (k + 1) f).length I2 w20) := by
        rcases hor with ⟨hg, bb, I2, h1, h2, h3, h4, h5⟩ | ⟨hg, h1, h2⟩
        · refine ⟨I2, bb, St.start h2, h3, fun _ => h1, fun h e => ?_, fun _ => h5, fun h => by rw [hg] at h; cases h⟩
          rw [plc_one h]; exact h4 e
        · subst h2
          refine ⟨I, true, St.start hS.imm, Inl.Sub.refl _, fun h => absurd h hg, fun h => absurd h hg, fun h => absurd h hg, fun h => ?_⟩
          rw [plc_none h]; exact hst _ _ _ _ _ hJ hS.nil
      clear hS hor
      obtain ⟨I2, bb, hS, hsub2, hu20, hyt, hyf, hyn⟩ := hx
      refine qu rfl rfl hS (fun hg => (g_not (hu20 hg))) ?_
      intro u21 hu21 hn21
      refine qq hS (g_and rfl rfl (fun hq => hu21 hq)) ?_
      refine ol_nil (thenN ?_)
      refine cond_s rfl ?_ ?_
      ·
        intro hc22
        clear hu18 hn18 hu19 hn19 hu20 hu21 hn21
        simp only [Bool.and_eq_true, Bool.not_eq_true'] at hc22
        have hfin := hyf hc22.1 hc22.2
        refine wpIn_ret ?_
        refine blkR (thenR (thenR (blkR ?_)))
        refine ret0 Tryz.results145  ?_
        exact ⟨_, hS.imm, hsub1.trans hsub2, .inr ⟨(plc k f).length, plc_lt hc22.1 hkl, hfin⟩⟩
      ·
        intro hc22
        clear hu18 hn18 hu19 hn19 hu20 hu21 hn21
        have hJ2 : J (plc (k + 1) f).length I2 w20 := by
          cases hf : f k with
          | true =>
            rw [hf, Bool.true_and] at hc22
            exact hyt hf (by simpa using hc22)
          | false => exact hyn hf
        refine wpIn_skip ?_
        refine blkN (thenN ?_)
        refine reg ?_
        refine qq hS (g_add rfl rfl (by omega) (by omega)) ?_
        refine qq hS (g_movev (v := .int .i64 _) rfl) ?_
        refine ol_nil (thenN ?_)
        exact ⟨k + 1, _, rfl, ⟨⟨rfl, rfl, rfl, rfl, rfl, rfl, trivial⟩, _, hS.sel [], by omega, hsub1.trans hsub2, hJ2⟩, by omega⟩
    ·
      intro hc9
      try simp only [Bool.and_eq_true, Bool.or_eq_true, Bool.not_eq_true', Bool.and_eq_false_imp, Bool.or_eq_false_iff, Bool.not_eq_false', decide_eq_true_eq, decide_eq_false_iff_not] at hc9
      have hk : k = bs.length := by omega
      subst hk
      refine wpIn_exit ?_
      refine thenE (thenE (blkE ?_))
      refine end0 Tryz.results145  ?_
      exact ⟨_, hS.imm, hsub1, .inl hJ⟩

theorem placesS_c (ad : Option Addr) (m cap : Nat) (g : FuncId) (caps : List Value) (w0 : World) (I0 : Imm) (hI : Sat I0 w0) :
    Ctr Tryz.prog 117 [.slice ad m cap, .func (.func g) #[] caps.toArray] w0 (fun v w' => ∃ I' b c, v = .func (.func 145) #[] [.pointer (some ⟨b, 0, none⟩), .pointer (some ⟨c, 0, none⟩)].toArray ∧ Ext w0 I0 w' I' ∧ atI I' ⟨b, 0, none⟩ [.slice ad m cap] ∧ atI I' ⟨c, 0, none⟩ [.func (.func g) #[] caps.toArray]) := by
  refine fn (n := 6) Tryz.func117 rfl rfl rfl ?_
  have hS := St.start hI
  refine wpIn_seq ?_
  refine reg ?_
  refine qe (d_box (cs := [.slice _ _ _]) hS rfl) ?_
  clear hS
  rintro _ w_1 ⟨b2, rfl, hS⟩
  refine qe (d_box (cs := [_]) hS rfl) ?_
  clear hS
  rintro _ w_2 ⟨b3, rfl, hS⟩
  refine qq hS (g_assign _) ?_
  refine ol_nil (thenN ?_)
  refine wpIn_seq ?_
  refine reg ?_
  refine qq hS (g_makeFuncL ml0 (ml rfl (ml rfl ml0))) ?_
  refine qq hS (g_assign _) ?_
  refine ol_nil (thenN ?_)
  refine wpIn_ret ?_
  refine ret1 Tryz.results117 (rv_tmp rfl) ?_
  obtain ⟨I2, hS2, hI2, hb3⟩ := hS.freeze1
  obtain ⟨I3, hS3, hI3, hb2⟩ := hS2.freeze1
  exact ⟨I3, b2, b3, rfl, hS3, hb2, hb3.mono hI3⟩

theorem set_c (i : Int) (b : Bool) (w0 : World) (I0 : Imm) (hI : Sat I0 w0) :
    Ctr Tryz.prog 69 [.int .i64 i, .bool b] w0 (fun v w' => v = .bool b ∧ Ext w0 I0 w' I0) := by
  refine fn (n := 6) Tryz.func69 rfl rfl rfl ?_
  have hS := St.start hI
  refine wpIn_seq ?_
  refine reg ?_
  refine qq hS (g_assignv (v := .bool _) rfl) ?_
  refine ol_nil (thenN ?_)
  refine wpIn_seq ?_
  refine reg ?_
  refine qq hS (g_movev (v := .bool _) rfl) ?_
  refine qq hS (g_assignv (v := .bool _) rfl) ?_
  refine ol_nil (thenN ?_)
  refine wpIn_ret ?_
  refine ret1 Tryz.results69 (rv_tmp (v := .bool _) rfl) ?_
  exact ⟨rfl, hS.nil⟩

theorem iterC_mono11 {P : Program} {gf : FuncId} {lb : List Value} {arg : Nat → List Value} {N : Nat} {I I' : Imm} (h : IterC P gf lb arg N I) (hs : Inl.Sub I I') : IterC P gf lb arg N I' :=
  fun l J Jx w1 I1 h1 h2 h3 h4 h5 => h l J Jx w1 I1 h1 h2 h3 (hs.trans h4) h5

set_option maxHeartbeats 2000000 in
theorem ranges_c (pl : List Nat) (gf : FuncId) (lb : List Value) (w0 : World) (I0 : Imm) (hI : Sat I0 w0) (hpl : ∀ i ∈ pl, i < 65536) (hpn : pl.length ≤ 65536)
    (hcf : ∀ args w, (callFunc gf args).run Tryz.prog w = .ok (.enter gf args) w) (hit : IterC Tryz.prog gf lb (plA pl) pl.length I0) :
    Ctr Tryz.prog 67 [.func (.func gf) #[] lb.toArray] w0 (fun v w' => ∃ I' a c, v = .slice a (rngL pl).length c ∧ Ext w0 I0 w' I' ∧ RRgs I' (.slice a (rngL pl).length c) (rngL pl)) := by
  refine fnM (n := 39) Tryz.func67 rfl rfl rfl ?_
  have hS := St.start hI
  refine wpIn_seq ?_
  refine reg ?_
  refine qq hS (g_assign _) ?_
  refine ol_nil (thenN ?_)
  refine wpIn_seq ?_
  refine reg ?_
  refine qe (d_alloc (cs := [.slice _ _ _]) hS Tryz.zeroValue51 rfl) ?_
  clear hS
  rintro _ w_1 ⟨b3, rfl, hS⟩
  refine ol_nil (thenN ?_)
  refine wpIn_seq ?_
  refine wpIn_seq ?_
  refine reg ?_
  refine qq hS (g_move _) ?_
  refine ol_nil (thenN ?_)
  refine wpIn_block ?_
  replace hS := hS.nilRow 117 2
  refine range_wp (N := pl.length) (arg := plA pl) (fun k I L => ∃ a c, L = [.row (.slice a (rngL (pl.take k)).length c) 117 2 (rngL (pl.take k)).length (flat rgC (rngL (pl.take k))), .cel b3 51 [.slice a (rngL (pl.take k)).length c]]) (fun k c I L => False) hS rfl hcf (iterC_mono11 hit hS.ext) (fun _ => rfl) ?_ (⟨none, 0, rfl⟩) ?_ ?_ ?_
  ·
    rintro k I I' L h hs
    exact h
  ·
    rintro k l D oR oB I1 w1 L1 X1 hk ⟨a, c, rfl⟩ hS
    obtain ⟨i, hi⟩ : ∃ i, pl[k]? = some i := ⟨_, List.getElem?_eq_getElem hk⟩
    rw [plA_at hi]
    have hi6 := hpl i (List.mem_of_getElem? hi)
    have hrn := rngL_at hi
    have hrl0 := rngL_len (pl.take k)
    have hrl1 : (pl.take k).length ≤ 65536 := by rw [List.length_take]; omega
    show Code.wpIn _ _ _ _ _ (act _ [] (upd _ 7 _)) _
    refine reg ?_
    refine qq hS (g_assignv (v := .int .i64 _) rfl) ?_
    refine ol_nil ?_
    refine thenN ⟨_, _, _, rfl, hS, ?_⟩
    intro w_b hS
    refine wpIn_block ?_
    refine wpIn_seq ?_
    refine wpIn_seq ?_
    refine reg ?_
    refine qq hS (g_ldO1 3 Tryz.isAgg51 rfl rfl rfl) ?_
    refine qq hS (g_lenR 2 rfl Tryz.underlying51 rfl rfl) ?_
    refine qq hS (g_assignv (v := .int .i64 _) rfl) ?_
    refine ol_nil (thenN ?_)
    refine wpIn_seq ?_
    refine reg ?_
    refine qq hS (g_movev (v := .int .i64 _) rfl) ?_
    refine qq hS (g_gtr rfl rfl) ?_
    refine qq hS (g_movev (v := .bool _) rfl) ?_
    refine qu rfl rfl hS (fun hg => (g_ldO1 3 Tryz.isAgg51 rfl rfl rfl)) ?_
    intro u13 hu13 hn13
    refine qu rfl rfl hS (fun hg => (g_movev (v := .int .i64 _) rfl)) ?_
    intro u14 hu14 hn14
    refine qu rfl rfl hS (fun hg => (g_sub (hu14 hg) rfl (by omega) (by omega))) ?_
    intro u15 hu15 hn15
    refine qu rfl rfl hS (fun hg => (g_ixR 2 Tryz.underlying51 Tryz.sizeOf117 rfl (hu13 hg) (hu15 hg) (by have := of_decide_eq_true hg; omega) (by have := of_decide_eq_true hg; omega))) ?_
    intro u16 hu16 hn16
    refine qu rfl rfl hS (fun hg => (g_fieldE (c' := 1) Tryz.underlying117 rfl Tryz.sizeOf3 rfl (hu16 hg) rfl)) ?_
    intro u17 hu17 hn17
    refine qu rfl rfl hS (fun hg => (g_ldR1 2 Tryz.isAgg3 rfl (hu17 hg) (lastR_cell (by have := of_decide_eq_true hg; omega) (by have := of_decide_eq_true hg; omega)))) ?_
    intro u18 hu18 hn18
    refine qu rfl rfl hS (fun hg => (g_movev (v := .int .i64 _) rfl)) ?_
    intro u19 hu19 hn19
    refine qu rfl rfl hS (fun hg => (g_eql (hu18 hg) (hu19 hg))) ?_
    intro u20 hu20 hn20
    refine qq hS (g_and rfl rfl (fun hq => hu20 hq)) ?_
    refine ol_nil (thenN ?_)
    refine cond_s rfl ?_ ?_
    ·
      intro hc21
      clear hu13 hn13 hu14 hn14 hu15 hn15 hu16 hn16 hu17 hn17 hu18 hn18 hu19 hn19 hu20 hn20
      simp only [Bool.and_eq_true, decide_eq_true_eq, Bool.and_eq_false_imp, decide_eq_false_iff_not] at hc21
      obtain ⟨hn0, hlast⟩ := hc21
      have hn0' : 0 < (rngL (pl.take k)).length := by omega
      obtain ⟨D, hD, hDl⟩ := lastR_split hn0'
      obtain ⟨bo, rest, rfl, hnc, hcm, hrl, hxl, hS9⟩ := hS.rowCel 2 rfl hn0'
      replace hS := hS9
      clear hS9
      have hpre : D.length * 2 = (flat rgC D).length := (flat_length rgC_len D).symm
      have hof : (((rngL (pl.take k)).length : Int) - 1).toNat * 2 = D.length * 2 := by omega
      have hfl : flat rgC (rngL (pl.take k)) ++ rest = flat rgC D ++ (rgC (lastR (rngL (pl.take k))) ++ rest) := by
        conv => lhs; rw [hD]
        rw [flat_append, flat_one, List.append_assoc]
      rw [hfl] at hS hrl
      refine wpIn_seq ?_
      refine reg ?_
      refine qq hS (g_ldO1 3 Tryz.isAgg51 rfl rfl rfl) ?_
      refine qq hS (g_movev (v := .int .i64 _) rfl) ?_
      refine qq hS (g_sub rfl rfl (by omega) (by omega)) ?_
      refine qq hS (g_indexAddrV Tryz.underlying51 Tryz.sizeOf117 rfl rfl (by omega) (by omega) hof) ?_
      refine qq hS (g_fieldAddr (o' := D.length * 2 + 1) Tryz.underlying117 rfl Tryz.sizeOf3 rfl rfl rfl) ?_
      refine qq hS (g_ldF1 2 (c := 1) Tryz.isAgg3 rfl hpre rfl rfl) ?_
      refine qq hS (g_add rfl rfl (by omega) (by omega)) ?_
      refine qq hS (g_indexAddrV Tryz.underlying51 Tryz.sizeOf117 rfl rfl (by omega) (by omega) hof) ?_
      refine qq hS (g_fieldAddr (o' := D.length * 2 + 1) Tryz.underlying117 rfl Tryz.sizeOf3 rfl rfl rfl) ?_
      refine qe (d_storeF 2 (c := 1) hS Tryz.sizeOf3 rfl hpre rfl rfl (vs := [.int .i64 _]) rfl rfl rfl (Nat.le_of_ble_eq_true rfl) (row' := [_, _]) rfl) ?_
      clear hS
      rintro _ w_2 ⟨rfl, hS⟩
      refine ol_nil (thenN ?_)
      refine wpIn_exit ?_
      refine thenE (blkE ?_)
      first
        | (refine ⟨_, _, hS, a37, p37, ?_⟩
           rw [hrn, hext, List.length_append, flat_append, flat_one]; rfl)
        | (have hS9 := hS.celRow 2 (n := (rngL (pl.take k)).length) (c := c) (xs := flat rgC (D ++ [((lastR (rngL (pl.take k))).1, (lastR (rngL (pl.take k))).2 + 1)])) (rest := rest) (by rw [flat_append, flat_one, List.append_assoc]; rfl) (by rw [flat_length rgC_len, List.length_append, List.length_singleton, hDl]) hnc hcm (by rw [← hrl, flat_append, flat_one]; simp only [List.length_append, rgC_len]; omega)
           have hrn2 : rngL (pl.take (k + 1)) = D ++ [((lastR (rngL (pl.take k))).1, (lastR (rngL (pl.take k))).2 + 1)] := by
             rw [hrn]; conv => lhs; rw [hD]
             rw [extR_same hlast, hlast]
           have hlen2 : (rngL (pl.take (k + 1))).length = (rngL (pl.take k)).length := by rw [hrn2, List.length_append, List.length_singleton, hDl]
           refine ⟨_, _, hS9, some ⟨bo, 0, none⟩, c, ?_⟩
           rw [hlen2, hrn2]; rfl)
    ·
      intro hc21
      clear hu13 hn13 hu14 hn14 hu15 hn15 hu16 hn16 hu17 hn17 hu18 hn18 hu19 hn19 hu20 hn20
      simp only [Bool.and_eq_true, decide_eq_true_eq, Bool.and_eq_false_imp, decide_eq_false_iff_not] at hc21
      have hext := extR_new (R := rngL (pl.take k)) (i := (i : Int)) (by rintro ⟨e1, e2⟩; exact hc21 (by omega) e2)
      refine wpIn_skip ?_
      refine thenN ?_
      refine reg ?_
      refine qq hS (g_ldO1 3 Tryz.isAgg51 rfl rfl rfl) ?_
      refine qq hS (g_movev (v := .int .i64 _) rfl) ?_
      refine qq hS (g_movev (v := .int .i64 _) rfl) ?_
      refine qq hS (g_add rfl rfl (by omega) (by omega)) ?_
      refine qq hS (g_buildv (pl := [(0, 1), (1, 1)]) (cs := [.int .i64 _, .int .i64 _]) Tryz.zeroValue117 Tryz.underlying117 (fun w => by simp [Tryz.sizeOf3]) (mp (v := .int .i64 _) rfl (mp (v := .int .i64 _) rfl mp0)) rfl) ?_
      refine qe (d_lit (vs := [.agg #[.int .i64 _, .int .i64 _]]) (cs := [.int .i64 _, .int .i64 _]) hS Tryz.underlying51 Tryz.sizeOf117 Tryz.zeroValue117 rfl rfl rfl rfl (fun v hv => by simp only [List.mem_cons, List.not_mem_nil, or_false] at hv; subst hv; rfl) rfl) ?_
      clear hS
      rintro _ w_3 ⟨b_3, rfl, hS⟩
      refine qe (i_appendO 3 0 hS rfl Tryz.underlying51 info117 rfl rfl rfl rfl rfl rfl rfl rfl (by omega) (by omega)) ?_
      clear hS
      rintro _ w_4 ⟨a37, p37, rfl, hS⟩
      refine qe (d_store 4 hS Tryz.sizeOf51 rfl rfl rfl (vs := [.slice _ _ _]) rfl rfl rfl (Nat.le_of_ble_eq_true rfl) (cs' := [_]) rfl) ?_
      clear hS
      rintro _ w_5 ⟨rfl, hS⟩
      refine ol_nil (blkN ?_)
      first
        | (refine ⟨_, _, (hS.sel [false, true, true, true, true]), a37, p37, ?_⟩
           rw [hrn, hext, List.length_append, flat_append, flat_one]; rfl)
        | (have hS9 := hS.celRow 2 (n := (rngL (pl.take k)).length) (c := c) (xs := flat rgC (D ++ [((lastR (rngL (pl.take k))).1, (lastR (rngL (pl.take k))).2 + 1)])) (rest := rest) (by rw [flat_append, flat_one, List.append_assoc]; rfl) (by rw [flat_length rgC_len, List.length_append, List.length_singleton, hDl]) hnc hcm (by rw [← hrl, flat_append, flat_one]; simp only [List.length_append, rgC_len]; omega)
           have hrn2 : rngL (pl.take (k + 1)) = D ++ [((lastR (rngL (pl.take k))).1, (lastR (rngL (pl.take k))).2 + 1)] := by
             rw [hrn]; conv => lhs; rw [hD]
             rw [extR_same hlast, hlast]
           have hlen2 : (rngL (pl.take (k + 1))).length = (rngL (pl.take k)).length := by rw [hrn2, List.length_append, List.length_singleton, hDl]
           refine ⟨_, _, hS9, some ⟨bo, 0, none⟩, c, ?_⟩
           rw [hlen2, hrn2]; rfl)
  ·
    rintro D I1 w1 L1 ⟨a, c, rfl⟩ hS
    refine blkN (thenN ?_)
    refine wpIn_seq ?_
    refine reg ?_
    refine qq hS (g_ldO1 2 Tryz.isAgg51 rfl rfl rfl) ?_
    refine qq hS (g_assign _) ?_
    refine ol_nil (thenN ?_)
    refine wpIn_ret ?_
    refine retD1 Tryz.results67 hS (k := 0) rfl (fun w_r hS => ⟨_, (rv_tmp rfl), ?_⟩)
    rw [List.take_length] at hS
    obtain ⟨I1, hS1, hI1, hd1⟩ := St.freezeRow rgC_len (xs := rngL pl) (hS.ord [1, 2]) rfl
    exact ⟨I1, a, c, by show Value.slice a (rngL (pl.take pl.length)).length c = _; rw [List.take_length], hS1.nil, hd1⟩
  ·
    rintro D k c I1 w1 L1 hk h hS
    exact h.elim

end Go.Proofs.YtodopmclnklgdaaGreat

