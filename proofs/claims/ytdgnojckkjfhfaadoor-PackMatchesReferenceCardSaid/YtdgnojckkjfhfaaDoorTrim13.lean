/- bytes.TrimRight for zeros: what it computes. Conditions: none. -/
import Derived.Test.YtdgnojckkjfhfaaDoorMdl13
import Derived.Test.YtdgnojckkjfhfaaDoorKCore2
import Derived.Test.YtdgnojckkjfhfaaDoorKLaw
namespace Go.Proofs.YtdgnojckkjfhfaaDoor
open Go Go.RowKit Go.Inl
set_option linter.unusedSimpArgs false
set_option linter.unusedVariables false
theorem g_castT {P : Program} {ρ : Operand → Value} {S : World → Prop} {op : Op} {ty : TypeId} {v v' : Value} (h : Gives P ρ S op ty v) (e : v = v') : Gives P ρ S op ty v' := by subst e; exact h
theorem trimZ_zero (p : List Int) : trimZ (p ++ [0]) = trimZ p := by unfold trimZ; rw [List.reverse_append]; simp
theorem trimZ_ne (p : List Int) {d : Int} (h : d ≠ 0) : trimZ (p ++ [d]) = p ++ [d] := by unfold trimZ; rw [List.reverse_append]; simp [h]
def zeroS : ByteArray := ⟨#[0]⟩
theorem g_eqF13 {P : Program} {n : Nat} {σ : Nat → Value} {S : World → Prop} {t t' ty : TypeId} {x y : Operand} {k : IntKind} {a b : Int} (hx : ev n σ x = .int k a) (hy : ev n σ y = .int k b) (h : ¬ a = b) : Gives P (ev n σ) S (.binOp .eql t x y t') ty (.bool false) := by
  have := g_eql (P := P) (S := S) (t := t) (t' := t') (ty := ty) hx hy
  rwa [decide_eq_false h] at this
theorem zeroS_ne : Value.bool (zeroS.toList == (⟨#[]⟩ : ByteArray).toList) = .bool false := by kernel_rfl
structure TrW where
  k : Nat
  a : Option Addr
  c : Nat

set_option maxHeartbeats 1000000 in
theorem trimByte_c (ad : Option Addr) (cap : Nat) (l : List Int) (w0 : World) (I0 : Imm) (hI : Sat I0 w0) (hl : RBytes I0 (.slice ad l.length cap) l) :
    Ctr Tryd.prog 55 [.slice ad l.length cap, .int .u8 0] w0 (fun v w' => ∃ a c, v = .slice a (trimZ l).length c ∧ Ext w0 I0 w' I0 ∧ RBytes I0 (.slice a (trimZ l).length c) (trimZ l)) := by
  have hll := RSl.le hl
  simp only [maxLen] at hll
  refine fn (n := 24) Tryd.func55 rfl rfl rfl ?_
  have hS := St.start hI
  refine wpIn_seq ?_
  refine reg ?_
  refine qq hS (g_assign _) ?_
  refine ol_nil (thenN ?_)
  refine wpIn_seq ?_
  refine wpIn_block ?_
  refine loop (fun (x : TrW) σ w => okS σ [(0, .slice x.a x.k x.c), (1, .int .u8 0)] ∧ St [] w0 I0 I0 w [] ∧ x.k ≤ l.length ∧ RBytes I0 (.slice x.a x.k x.c) (l.take x.k) ∧ trimZ (l.take x.k) = trimZ l) (fun x => x.k) (⟨l.length, ad, cap⟩) ?_ ?_
  ·
    exact ⟨⟨rfl, rfl, trivial⟩, hS.sel [], Nat.le_refl _, by dsimp only; rw [List.take_length]; exact hl, by dsimp only; rw [List.take_length]⟩
  ·
    rintro ⟨k, a, c⟩ σ w_l ⟨hs, hS, hk0, hT, htr⟩
    dsimp only at hs hS hk0 hT htr ⊢
    rw [← upds_self hs]; clear hs
    refine wpIn_seq ?_
    refine wpIn_seq ?_
    have hlt : (l.take k).length = k := by rw [List.length_take]; omega
    obtain ⟨d, hd⟩ : ∃ d, l.getD (k - 1) 0 = d := ⟨_, rfl⟩
    have hdi : 0 < k → l[k - 1]? = some d := fun h => by rw [← hd, List.getD_eq_getElem?_getD, List.getElem?_eq_getElem (show k - 1 < l.length by omega)]; rfl
    have hsp : 0 < k → l.take k = l.take (k - 1) ++ [d] := fun h => by have := take_snoc (hdi h); rwa [show k - 1 + 1 = k by omega] at this
    have hdA : 0 < ((l.take k).length : Int) → atI I0 (elA (.slice a k c) (((l.take k).length : Int) - 1).toNat 1 0) [.int .u8 d] := fun h => by
      have := hT.at (show (l.take k)[(((l.take k).length : Int) - 1).toNat]? = some d by rw [show (((l.take k).length : Int) - 1).toNat = k - 1 by omega, List.getElem?_take, if_pos (by omega)]; exact hdi (by omega))
      exact this
    refine reg ?_
    refine qq hS (g_move _) ?_
    refine qq hS (g_lenI rfl Tryd.underlying25 hT rfl) ?_
    refine qq hS (g_gtr rfl rfl) ?_
    refine qq hS (g_movev (v := .bool _) rfl) ?_
    refine qu rfl rfl hS (fun hg => (g_move _)) ?_
    intro u9 hu9 hn9
    refine qu rfl rfl hS (fun hg => (g_move _)) ?_
    intro u10 hu10 hn10
    refine qu rfl rfl hS (fun hg => (g_lenI rfl Tryd.underlying25 hT (hu10 hg))) ?_
    intro u11 hu11 hn11
    refine qu rfl rfl hS (fun hg => (g_sub (hu11 hg) rfl (by omega) (by omega))) ?_
    intro u12 hu12 hn12
    refine qu rfl rfl hS (fun hg => (g_ixI Tryd.underlying25 Tryd.sizeOf5 hT (hu9 hg) (hu12 hg) (by have := of_decide_eq_true hg; omega) (by have := of_decide_eq_true hg; omega))) ?_
    intro u13 hu13 hn13
    refine qu rfl rfl hS (fun hg => (g_ldE1 Tryd.isAgg5 (hdA (of_decide_eq_true hg)) (hu13 hg) rfl)) ?_
    intro u14 hu14 hn14
    refine qu rfl rfl hS (fun hg => (g_movev (v := .int .u8 _) rfl)) ?_
    intro u15 hu15 hn15
    refine qu rfl rfl hS (fun hg => (g_eql (hu14 hg) (hu15 hg))) ?_
    intro u16 hu16 hn16
    refine qq hS (g_and rfl rfl (fun hq => hu16 hq)) ?_
    refine ol_nil (thenN ?_)
    refine cond_s rfl ?_ ?_
    ·
      intro hc17
      clear hu9 hn9 hu10 hn10 hu11 hn11 hu12 hn12 hu13 hn13 hu14 hn14 hu15 hn15 hu16 hn16
      rw [Bool.and_eq_true, decide_eq_true_eq, decide_eq_true_eq] at hc17
      obtain ⟨hk1, hd0⟩ := hc17
      have hk2 : 0 < k := by omega
      have hs2 := RSl.slH hT (k - 1) (by rw [List.length_take]; omega)
      rw [List.take_take, show min (k - 1) k = k - 1 by omega] at hs2
      obtain ⟨a2, c2, hv2, _⟩ := hs2.len
      rw [hv2] at hs2
      rw [show (l.take (k - 1)).length = k - 1 by rw [List.length_take]; omega] at hv2 hs2
      have hcc := (RSl.resl2 hT k k (by first | omega | (rw [List.length_take]; omega)) (by first | omega | (rw [List.length_take]; omega))).2.1
      have htr2 : trimZ (l.take (k - 1)) = trimZ l := by
        rw [← htr, hsp hk2, hd0, trimZ_zero]
      refine wpIn_skip ?_
      refine thenN ?_
      refine wpIn_block ?_
      refine reg ?_
      refine qq hS (g_move _) ?_
      refine qq hS (g_move _) ?_
      refine qq hS (g_lenI rfl Tryd.underlying25 hT rfl) ?_
      refine qq hS (g_sub rfl rfl (by omega) (by omega)) ?_
      refine qq hS (g_castT (g_sliceHN (h0 := k - 1) Tryd.underlying25 Tryd.sizeOf5 rfl rfl (by omega) (by omega) (by omega)) hv2) ?_
      refine qq hS (g_assign _) ?_
      exact ⟨⟨k - 1, a2, c2⟩, _, rfl, ⟨⟨rfl, rfl, trivial⟩, hS.sel [], by dsimp only; omega, hs2, htr2⟩, by dsimp only; omega⟩
    ·
      intro hc17
      clear hu9 hn9 hu10 hn10 hu11 hn11 hu12 hn12 hu13 hn13 hu14 hn14 hu15 hn15 hu16 hn16
      have hfin : trimZ l = l.take k := by
        rw [← htr]
        rcases Nat.eq_zero_or_pos k with h | h
        · subst h; rfl
        · rw [hsp h]
          exact trimZ_ne _ (fun h0 => by rw [Bool.and_eq_false_iff, decide_eq_false_iff_not, decide_eq_false_iff_not] at hc17; omega)
      refine wpIn_exit ?_
      refine thenE (thenE (blkE ?_))
      refine thenN ?_
      refine wpIn_seq ?_
      refine reg ?_
      refine qq hS (g_move _) ?_
      refine qq hS (g_assign _) ?_
      refine ol_nil (thenN ?_)
      refine wpIn_ret ?_
      refine ret1 Tryd.results55 (rv_tmp rfl) ?_
      have hlk : (trimZ l).length = k := by rw [hfin, List.length_take]; omega
      rw [hlk, hfin]
      exact ⟨a, c, rfl, hS.nil, hT⟩

set_option maxHeartbeats 1000000 in
theorem trim_c (ad : Option Addr) (cap n : Nat) (l : List Int) (w0 : World) (I0 : Imm) (hI : Sat I0 w0) (hl : RBytes I0 (.slice ad n cap) l) (hn : n = l.length) (h1 : 1 ≤ l.length) :
    Ctr Tryd.prog 40 [.slice ad n cap, .string zeroS] w0 (fun v w' => ∃ a c, v = .slice a (trimZ l).length c ∧ Ext w0 I0 w' I0 ∧ RBytes I0 (.slice a (trimZ l).length c) (trimZ l)) := by
  subst hn
  refine fn (n := 38) Tryd.func40 rfl rfl rfl ?_
  have hS := St.start hI
  refine wpIn_seq ?_
  refine reg ?_
  refine qq hS (g_assign _) ?_
  refine ol_nil (thenN ?_)
  refine wpIn_seq ?_
  refine wpIn_seq ?_
  refine reg ?_
  refine qq hS (g_move _) ?_
  refine qq hS (g_lenI rfl Tryd.underlying25 hl rfl) ?_
  refine qq hS (g_eqF13 rfl rfl (by omega)) ?_
  refine qq hS (g_movev (v := .bool _) rfl) ?_
  refine qqs rfl rfl hS (g_move _) ?_
  refine qqs rfl rfl hS (g_castT (g_eqlStr rfl rfl) zeroS_ne) ?_
  refine qq hS (g_or rfl rfl (fun _ => rfl)) ?_
  refine ol_nil (thenN ?_)
  refine cond_f (rfl) ?_
  refine wpIn_skip ?_
  refine thenN ?_
  refine wpIn_seq ?_
  refine wpIn_seq ?_
  refine reg ?_
  refine qq hS (g_move _) ?_
  refine qq hS (g_lenStr rfl Tryd.underlying9 rfl) ?_
  refine qq hS (g_eql rfl rfl) ?_
  refine qq hS (g_movev (v := .bool _) rfl) ?_
  refine qqs rfl rfl hS (g_move _) ?_
  refine qqs rfl rfl hS (g_indexStr (b := 0) Tryd.underlying9 rfl rfl (by decide) (by decide) rfl) ?_
  refine qqs rfl rfl hS (g_lss rfl rfl) ?_
  refine qq hS (g_and rfl rfl (fun _ => rfl)) ?_
  refine ol_nil (thenN ?_)
  refine cond_t (rfl) ?_
  refine wpIn_seq ?_
  refine reg ?_
  refine qq hS (g_move _) ?_
  refine qq hS (g_move _) ?_
  refine qq hS (g_indexStr (b := 0) Tryd.underlying9 rfl rfl (by decide) (by decide) rfl) ?_
  refine qe (d_call Tryd.call55 rfl (trimByte_c _ _ l _ _ hS.imm hl)) ?_
  rintro _ w_1 ⟨a26, c26, rfl, hE, h26⟩
  replace hS := hS.callE hE
  refine qq hS (g_assign _) ?_
  refine ol_nil (thenN ?_)
  refine wpIn_ret ?_
  refine thenR ?_
  refine ret1 Tryd.results40 (rv_tmp rfl) ?_
  exact ⟨a26, c26, rfl, hS.nil, h26⟩

end Go.Proofs.YtdgnojckkjfhfaaDoor

