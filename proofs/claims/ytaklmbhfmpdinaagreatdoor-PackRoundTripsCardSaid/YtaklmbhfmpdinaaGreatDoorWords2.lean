/- inst.Words and inst.Bytes: what they compute. Conditions: bytes are bytes, words are words. -/
import Derived.Test.YtaklmbhfmpdinaaGreatDoorKInst
import Derived.Test.YtaklmbhfmpdinaaGreatDoorKLaw
namespace Go.Proofs.YtaklmbhfmpdinaaGreatDoor
open Go Go.RowKit Go.Inl
set_option linter.unusedSimpArgs false
set_option linter.unusedVariables false
theorem g_toV {P : Program} {ρ : Operand → Value} {S : World → Prop} {op : Op} {ty : TypeId} {v v' : Value} (h : Gives P ρ S op ty v) (e : v = v') : Gives P ρ S op ty v' := by subst e; exact h
theorem drop_at {b : List Int} {n i : Nat} (h : n + i < b.length) : (b.drop n)[i]? = some (b.getD (n + i) 0) := by
  rw [List.getElem?_drop, List.getD_eq_getElem?_getD, List.getElem?_eq_getElem h]; rfl
structure WdW where
  k : Nat
  ar : Option Addr
  cr : Nat
  a : Option Addr
  c : Nat
theorem g_neqT {P : Program} {n : Nat} {σ : Nat → Value} {S : World → Prop} {t t' ty : TypeId} {x y : Operand} {k : IntKind} {a b : Int} (hx : ev n σ x = .int k a) (hy : ev n σ y = .int k b) (h : a ≠ b) : Gives P (ev n σ) S (.binOp .neq t x y t') ty (.bool true) := g_toV (g_neq hx hy) (by rw [decide_eq_false h]; rfl)
theorem g_neqF {P : Program} {n : Nat} {σ : Nat → Value} {S : World → Prop} {t t' ty : TypeId} {x y : Operand} {k : IntKind} {a b : Int} (hx : ev n σ x = .int k a) (hy : ev n σ y = .int k b) (h : a = b) : Gives P (ev n σ) S (.binOp .neq t x y t') ty (.bool false) := g_toV (g_neq hx hy) (by rw [decide_eq_true h]; rfl)
def oct4 (w : Int) (j : Nat) : List Int := (List.range j).map (octP w)
theorem oct4_succ (w : Int) (j : Nat) : oct4 w (j + 1) = oct4 w j ++ [octP w j] := by unfold oct4; rw [List.range_succ, List.map_append]; rfl
theorem oct4_four (w : Int) : oct4 w 4 = bytes4 w := rfl
structure BtW where
  k : Nat
  a : Option Addr
  c : Nat

set_option maxHeartbeats 1000000 in
theorem words_c (ad : Option Addr) (cap n : Nat) (b : List Int) (w0 : World) (I0 : Imm) (hI : Sat I0 w0) (hl : RBytes I0 (.slice ad b.length cap) b) (hb : Byts b) (hn : b.length = 4 * n) (hn1 : n ≤ 1073741824) :
    Ctr Tryz.prog 71 [.slice ad b.length cap] w0 (fun v w' => ∃ I' a c, v = .tuple #[.slice a n c, .int .i64 0] ∧ Ext w0 I0 w' I' ∧ RFl I' 1 u32C (.slice a n c) (wordsN b n)) := by
  refine fn (n := 40) Tryz.func71 rfl rfl rfl ?_
  have hS := St.start hI
  refine wpIn_seq ?_
  refine reg ?_
  refine qq hS (g_assign _) ?_
  refine qq hS (g_assignv (v := .int .i64 _) rfl) ?_
  refine ol_nil (thenN ?_)
  refine wpIn_seq ?_
  refine wpIn_seq ?_
  refine reg ?_
  refine qq hS (g_move _) ?_
  refine qq hS (g_lenI rfl Tryz.underlying22 hl rfl) ?_
  refine qq hS (g_rem rfl rfl (by omega) (by omega)) ?_
  refine qq hS (g_neqF rfl rfl (by omega)) ?_
  refine ol_nil (thenN ?_)
  refine cond_f (rfl) ?_
  refine wpIn_skip ?_
  refine thenN ?_
  refine wpIn_seq ?_
  refine reg ?_
  refine qq hS (g_assign _) ?_
  refine ol_nil (thenN ?_)
  refine wpIn_seq ?_
  refine wpIn_block ?_
  refine loop (fun (x : WdW) σ w => okS σ [(0, .slice x.ar (b.drop (4 * x.k)).length x.cr), (4, .slice x.a x.k x.c)] ∧ St [] w0 I0 I0 w [.row (.slice x.a x.k x.c) 93 1 x.k (flat u32C (wordsN b x.k))] ∧ x.k ≤ n ∧ RBytes I0 (.slice x.ar (b.drop (4 * x.k)).length x.cr) (b.drop (4 * x.k))) (fun x => n - x.k) (⟨0, ad, cap, none, 0⟩) ?_ ?_
  ·
    exact ⟨⟨rfl, rfl, trivial⟩, (hS.sel []).nilRow _ _, by dsimp only; omega, hl⟩
  ·
    rintro ⟨k, ar, cr, a, c⟩ σ w_l ⟨hs, hS, hk, hr⟩
    dsimp only at hs hS hk hr ⊢
    rw [← upds_self hs]; clear hs
    have hdl : (b.drop (4 * k)).length = b.length - 4 * k := List.length_drop
    refine wpIn_seq ?_
    refine wpIn_seq ?_
    refine reg ?_
    refine qq hS (g_move _) ?_
    refine qq hS (g_lenI rfl Tryz.underlying22 hr rfl) ?_
    refine qq hS (g_gtr rfl rfl) ?_
    refine ol_nil (thenN ?_)
    refine cond_s rfl ?_ ?_
    ·
      intro hc11
      try simp only [Bool.and_eq_true, Bool.or_eq_true, Bool.not_eq_true', Bool.and_eq_false_imp, Bool.or_eq_false_iff, Bool.not_eq_false', decide_eq_true_eq, decide_eq_false_iff_not] at hc11
      have hA0 := hr.at (drop_at (i := 0) (show 4 * k + 0 < b.length by omega))
      have hy0 := byts_getD hb (4 * k + 0)
      have hA1 := hr.at (drop_at (i := 1) (show 4 * k + 1 < b.length by omega))
      have hy1 := byts_getD hb (4 * k + 1)
      have hA2 := hr.at (drop_at (i := 2) (show 4 * k + 2 < b.length by omega))
      have hy2 := byts_getD hb (4 * k + 2)
      have hA3 := hr.at (drop_at (i := 3) (show 4 * k + 3 < b.length by omega))
      have hy3 := byts_getD hb (4 * k + 3)
      have hw4 : word4 b k = b.getD (4 * k + 0) 0 * 16777216 + b.getD (4 * k + 1) 0 * 65536 + b.getD (4 * k + 2) 0 * 256 + b.getD (4 * k + 3) 0 := rfl
      have hwb := word4_b hb k
      refine wpIn_skip ?_
      refine thenN ?_
      refine wpIn_seq ?_
      refine wpIn_block ?_
      refine draw (.cons 0 .pure (.cons 1 .pure (.cons 2 .pure (.cons 3 .held (.cons 4 .pure (.cons 5 .pure (.cons 6 .pure (.cons 7 .pure (.cons 8 .held (.cons 9 .pure (.cons 10 .pure (.cons 11 .pure (.cons 12 .pure (.cons 13 .pure (.cons 14 .held (.cons 15 .pure (.cons 16 .pure (.cons 17 .pure (.cons 18 .pure (.cons 19 .pure (.cons 20 .held (.cons 21 .pure (.cons 22 .pure (.cons 23 .eff (.cons 24 .bar (.cons 25 .pure .nil)))))))))))))))))))))))))) mixed (by kernel_rfl) hS ?_
      intro w_1 hS
      refine sp rfl (g_move _) ?_
      refine sp rfl (g_move _) ?_
      refine sp rfl (g_ixI Tryz.underlying22 Tryz.sizeOf5 hr rfl rfl (by omega) (by omega)) ?_
      refine sh rfl (g_ldE1 Tryz.isAgg5 hA0 rfl rfl) ?_
      refine sp rfl (g_convK (c := b.getD (4 * k + 0) 0) Tryz.underlying5 Tryz.underlying93 rfl (by rw [IntKind.wrap_u32]; omega)) ?_
      refine sp rfl (g_shlV (s := 24) (c := b.getD (4 * k + 0) 0 * 16777216) rfl rfl rfl rfl (by rw [IntKind.wrap_u32]; omega)) ?_
      refine sp rfl (g_move _) ?_
      refine sp rfl (g_ixI Tryz.underlying22 Tryz.sizeOf5 hr rfl rfl (by omega) (by omega)) ?_
      refine sh rfl (g_ldE1 Tryz.isAgg5 hA1 rfl rfl) ?_
      refine sp rfl (g_convK (c := b.getD (4 * k + 1) 0) Tryz.underlying5 Tryz.underlying93 rfl (by rw [IntKind.wrap_u32]; omega)) ?_
      refine sp rfl (g_shlV (s := 16) (c := b.getD (4 * k + 1) 0 * 65536) rfl rfl rfl rfl (by rw [IntKind.wrap_u32]; omega)) ?_
      refine sp rfl (g_orD (m := 24) (c := b.getD (4 * k + 0) 0 * 16777216 + b.getD (4 * k + 1) 0 * 65536) rfl rfl (by omega) (Int.lt_of_lt_of_le (show b.getD (4 * k + 0) 0 * 16777216 < 4294967296 by omega) (Int.le_refl _)) (by omega) (by omega) (by omega) (Int.lt_of_lt_of_le (show b.getD (4 * k + 1) 0 * 65536 < 4294967296 by omega) (Int.le_refl _)) (by rw [IntKind.wrap_u32]; omega)) ?_
      refine sp rfl (g_move _) ?_
      refine sp rfl (g_ixI Tryz.underlying22 Tryz.sizeOf5 hr rfl rfl (by omega) (by omega)) ?_
      refine sh rfl (g_ldE1 Tryz.isAgg5 hA2 rfl rfl) ?_
      refine sp rfl (g_convK (c := b.getD (4 * k + 2) 0) Tryz.underlying5 Tryz.underlying93 rfl (by rw [IntKind.wrap_u32]; omega)) ?_
      refine sp rfl (g_shlV (s := 8) (c := b.getD (4 * k + 2) 0 * 256) rfl rfl rfl rfl (by rw [IntKind.wrap_u32]; omega)) ?_
      refine sp rfl (g_orD (m := 16) (c := b.getD (4 * k + 0) 0 * 16777216 + b.getD (4 * k + 1) 0 * 65536 + b.getD (4 * k + 2) 0 * 256) rfl rfl (by omega) (Int.lt_of_lt_of_le (show b.getD (4 * k + 0) 0 * 16777216 + b.getD (4 * k + 1) 0 * 65536 < 4294967296 by omega) (Int.le_refl _)) (by omega) (by omega) (by omega) (Int.lt_of_lt_of_le (show b.getD (4 * k + 2) 0 * 256 < 4294967296 by omega) (Int.le_refl _)) (by rw [IntKind.wrap_u32]; omega)) ?_
      refine sp rfl (g_move _) ?_
      refine sp rfl (g_ixI Tryz.underlying22 Tryz.sizeOf5 hr rfl rfl (by omega) (by omega)) ?_
      refine sh rfl (g_ldE1 Tryz.isAgg5 hA3 rfl rfl) ?_
      refine sp rfl (g_convK (c := b.getD (4 * k + 3) 0) Tryz.underlying5 Tryz.underlying93 rfl (by rw [IntKind.wrap_u32]; omega)) ?_
      refine sp rfl (g_orD (m := 8) (c := b.getD (4 * k + 0) 0 * 16777216 + b.getD (4 * k + 1) 0 * 65536 + b.getD (4 * k + 2) 0 * 256 + b.getD (4 * k + 3) 0) rfl rfl (by omega) (Int.lt_of_lt_of_le (show b.getD (4 * k + 0) 0 * 16777216 + b.getD (4 * k + 1) 0 * 65536 + b.getD (4 * k + 2) 0 * 256 < 4294967296 by omega) (Int.le_refl _)) (by omega) (by omega) (by omega) (Int.lt_of_lt_of_le (show b.getD (4 * k + 3) 0 < 4294967296 by omega) (Int.le_refl _)) (by rw [IntKind.wrap_u32]; omega)) ?_
      have hS0 := hS
      refine se rfl (d_lit (vs := [.int .u32 _]) (cs := [.int .u32 _]) hS Tryz.underlying72 Tryz.sizeOf93 Tryz.zeroValue93 rfl rfl rfl rfl (fun v hv => by simp only [List.mem_cons, List.not_mem_nil, or_false] at hv; subst hv; rfl) rfl) ?_
      rintro _ w_2 ⟨b37, rfl, hS⟩
      refine ⟨_, _, hS0.le (Sub.refl _) (List.sublist_cons_self _ _), hS, ?_⟩
      refine sb rfl (i_appendO 1 0 hS rfl Tryz.underlying72 info93 rfl rfl rfl rfl rfl rfl rfl rfl (by omega) (by omega)) ?_
      rintro _ w_3 ⟨a38, p38, rfl, hS⟩
      refine ⟨_, _, hS, ?_⟩
      refine sp rfl (g_assign _) ?_
      refine sn (blkN (thenN ?_))
      refine reg ?_
      refine qq hS (g_move _) ?_
      have hs13 := RSl.slL hr 4 (by rw [List.length_drop]; omega)
      obtain ⟨a13, c13, hv13, _⟩ := hs13.len
      rw [hv13, List.drop_drop, show 4 * k + 4 = 4 * (k + 1) by omega] at hs13
      rw [List.drop_drop, show 4 * k + 4 = 4 * (k + 1) by omega] at hv13
      refine qq hS (g_toV (g_sliceLN (l0 := 4) Tryz.underlying22 Tryz.sizeOf5 rfl rfl (by decide) (by omega) rfl) hv13) ?_
      refine qq hS (g_assign _) ?_
      refine ⟨⟨k + 1, a13, c13, a38, p38⟩, _, rfl, ⟨⟨rfl, rfl, trivial⟩, ?_, by dsimp only; omega, hs13⟩, by dsimp only; omega⟩
      dsimp only
      rw [wordsN_succ, flat_append, flat_one, hw4]
      exact hS.sel [false, true]
    ·
      intro hc11
      try simp only [Bool.and_eq_true, Bool.or_eq_true, Bool.not_eq_true', Bool.and_eq_false_imp, Bool.or_eq_false_iff, Bool.not_eq_false', decide_eq_true_eq, decide_eq_false_iff_not] at hc11
      have hkn : k = n := by omega
      subst hkn
      refine wpIn_exit ?_
      refine thenE (thenE (blkE ?_))
      refine thenN ?_
      refine wpIn_seq ?_
      refine reg ?_
      refine qq hS (g_move _) ?_
      refine qq hS (g_assign _) ?_
      refine qq hS (g_assignv (v := .int .i64 _) rfl) ?_
      refine ol_nil (thenN ?_)
      refine wpIn_ret ?_
      refine ret2 Tryz.results71 (rv_tmp rfl) (rv_tmp (v := .int .i64 _) rfl) ?_
      obtain ⟨I1, hE1, hI1, hd1⟩ := row_freeze1 u32C_len (xs := wordsN b k) (hS.sel [true]) (wordsN_len b k).symm
      exact ⟨I1, a, c, rfl, hE1, hd1⟩

theorem words_bad (ad : Option Addr) (cap : Nat) (b : List Int) (w0 : World) (I0 : Imm) (hI : Sat I0 w0) (hl : RBytes I0 (.slice ad b.length cap) b) (hn : b.length % 4 ≠ 0) :
    Ctr Tryz.prog 71 [.slice ad b.length cap] w0 (fun v w' => v = .tuple #[.slice none 0 0, .int .i64 61] ∧ Ext w0 I0 w' I0) := by
  refine fn (n := 40) Tryz.func71 rfl rfl rfl ?_
  have hS := St.start hI
  refine wpIn_seq ?_
  refine reg ?_
  refine qq hS (g_assign _) ?_
  refine qq hS (g_assignv (v := .int .i64 _) rfl) ?_
  refine ol_nil (thenN ?_)
  refine wpIn_seq ?_
  refine wpIn_seq ?_
  refine reg ?_
  refine qq hS (g_move _) ?_
  refine qq hS (g_lenI rfl Tryz.underlying22 hl rfl) ?_
  refine qq hS (g_rem rfl rfl (by omega) (by omega)) ?_
  refine qq hS (g_neqT rfl rfl (by omega)) ?_
  refine ol_nil (thenN ?_)
  refine cond_t (rfl) ?_
  refine wpIn_seq ?_
  refine reg ?_
  refine qq hS (g_assign _) ?_
  refine qq hS (g_assignv (v := .int .i64 _) rfl) ?_
  refine ol_nil (thenN ?_)
  refine wpIn_ret ?_
  refine thenR ?_
  refine ret2 Tryz.results71 (rv_tmp rfl) (rv_tmp (v := .int .i64 _) rfl) ?_
  exact ⟨rfl, hS.nil⟩

set_option maxHeartbeats 1000000 in
theorem bytes_o (ad : Option Addr) (cap : Nat) (l : List Int) (w0 : World) (I0 : Imm) (hI : Sat I0 w0) (hl : RFl I0 1 u32C (.slice ad l.length cap) l) (hw : Wrds l) (hn : l.length ≤ 1073741824) :
    Ctr Tryz.prog 80 [.slice ad l.length cap] w0 (fun v w' => ∃ a c, v = .slice a (4 * l.length) c ∧ St [] w0 I0 I0 w' [.row (.slice a (4 * l.length) c) 5 1 (4 * l.length) (flat byteC (bytesP l))]) := by
  refine fn (n := 26) Tryz.func80 rfl rfl rfl ?_
  have hS := St.start hI
  refine wpIn_seq ?_
  refine reg ?_
  refine qq hS (g_assign _) ?_
  refine ol_nil (thenN ?_)
  refine wpIn_seq ?_
  refine reg ?_
  refine qq hS (g_assign _) ?_
  refine ol_nil (thenN ?_)
  refine wpIn_seq ?_
  refine wpIn_seq ?_
  refine reg ?_
  refine qq hS (g_move _) ?_
  refine qq hS (g_lenI rfl Tryz.underlying72 hl rfl) ?_
  refine qq hS (g_movev (v := .int .i64 _) rfl) ?_
  refine ol_nil (thenN ?_)
  refine wpIn_block ?_
  refine loop (fun (x : BtW) σ w => okS σ [(3, .slice x.a (4 * x.k) x.c), (7, .slice ad l.length cap), (8, .int .i64 l.length), (9, .int .i64 x.k)] ∧ St [] w0 I0 I0 w [.row (.slice x.a (4 * x.k) x.c) 5 1 (4 * x.k) (flat byteC (bytesP (l.take x.k)))] ∧ x.k ≤ l.length) (fun x => l.length - x.k) (⟨0, none, 0⟩) ?_ ?_
  ·
    exact ⟨⟨rfl, rfl, rfl, rfl, trivial⟩, (hS.sel []).nilRow _ _, by dsimp only; omega⟩
  ·
    rintro ⟨k, a, c⟩ σ w_l ⟨hs, hS, hk⟩
    dsimp only at hs hS hk ⊢
    rw [← upds_self hs]; clear hs
    refine wpIn_seq ?_
    refine reg ?_
    refine qq hS (g_lss rfl rfl) ?_
    refine ol_nil (thenN ?_)
    refine wpIn_seq ?_
    refine cond_s rfl ?_ ?_
    ·
      intro hc10
      try simp only [Bool.and_eq_true, Bool.or_eq_true, Bool.not_eq_true', Bool.and_eq_false_imp, Bool.or_eq_false_iff, Bool.not_eq_false', decide_eq_true_eq, decide_eq_false_iff_not] at hc10
      obtain ⟨y, hyi⟩ : ∃ y, l[k]? = some y := ⟨_, List.getElem?_eq_getElem (by omega)⟩
      have hsA := hl.at hyi
      have hyb := hw y (List.mem_of_getElem? hyi)
      refine wpIn_skip ?_
      refine thenN ?_
      refine wpIn_seq ?_
      refine wpIn_block ?_
      refine wpIn_seq ?_
      refine reg ?_
      refine qq hS (g_ixI Tryz.underlying72 Tryz.sizeOf93 hl rfl rfl (by omega) (by omega)) ?_
      refine qq hS (g_ldE1 Tryz.isAgg93 hsA rfl rfl) ?_
      refine qq hS (g_assignv (v := .int .u32 _) rfl) ?_
      refine ol_nil (thenN ?_)
      refine wpIn_seq ?_
      refine reg ?_
      refine qq hS (g_movev (v := .int .i64 _) rfl) ?_
      refine ol_nil (thenN ?_)
      refine wpIn_block ?_
      refine loop (fun (z : BtW) σ w => okS σ [(3, .slice z.a (4 * k + z.k) z.c), (5, .int .u32 y), (7, .slice ad l.length cap), (8, .int .i64 l.length), (9, .int .i64 k), (13, .int .i64 z.k)] ∧ St [] w0 I0 I0 w [.row (.slice z.a (4 * k + z.k) z.c) 5 1 (4 * k + z.k) (flat byteC (bytesP (l.take k)) ++ flat byteC (oct4 y z.k))] ∧ z.k ≤ 4) (fun z => 4 - z.k) (⟨0, a, c⟩) ?_ ?_
      ·
        refine ⟨⟨rfl, rfl, rfl, rfl, rfl, rfl, trivial⟩, ?_, by dsimp only; omega⟩
        dsimp only
        rw [show oct4 y 0 = [] from rfl, show flat byteC [] = [] from rfl, List.append_nil]
        exact hS.sel [true]
      ·
        rintro ⟨j, a2, c2⟩ σ w_l ⟨hs, hS, hj⟩
        dsimp only at hs hS hj ⊢
        rw [← upds_self hs]; clear hs
        refine wpIn_seq ?_
        refine reg ?_
        refine qq hS (g_lss rfl rfl) ?_
        refine ol_nil (thenN ?_)
        refine wpIn_seq ?_
        refine cond_s rfl ?_ ?_
        ·
          intro hc14
          try simp only [Bool.and_eq_true, Bool.or_eq_true, Bool.not_eq_true', Bool.and_eq_false_imp, Bool.or_eq_false_iff, Bool.not_eq_false', decide_eq_true_eq, decide_eq_false_iff_not] at hc14
          refine wpIn_skip ?_
          refine thenN ?_
          refine wpIn_seq ?_
          refine wpIn_block ?_
          refine wpIn_seq ?_
          refine reg ?_
          refine qq hS (g_movev (v := .int .i64 _) rfl) ?_
          refine qq hS (g_assignv (v := .int .i64 _) rfl) ?_
          refine ol_nil (thenN ?_)
          refine reg ?_
          refine qq hS (g_move _) ?_
          refine qq hS (g_movev (v := .int .u32 _) rfl) ?_
          refine qq hS (g_movev (v := .int .i64 _) rfl) ?_
          refine qe (d_call Tryz.call122 rfl (octet_c y j _ I0 hS.imm hyb.1 hyb.2 (by omega))) ?_
          rintro _ w_1 ⟨rfl, hE⟩
          replace hS := hS.callE hE
          refine qq hS (g_convK (c := octP y j) Tryz.underlying3 Tryz.underlying5 rfl (by have := oct_b y j; rw [IntKind.wrap_u8]; omega)) ?_
          refine qe (d_lit (vs := [.int .u8 _]) (cs := [.int .u8 _]) hS Tryz.underlying22 Tryz.sizeOf5 Tryz.zeroValue5 rfl rfl rfl rfl (fun v hv => by simp only [List.mem_cons, List.not_mem_nil, or_false] at hv; subst hv; rfl) rfl) ?_
          clear hS
          rintro _ w_2 ⟨b21, rfl, hS⟩
          refine qe (i_appendO 1 0 hS rfl Tryz.underlying22 info5 rfl rfl rfl rfl rfl rfl rfl rfl (by omega) (by omega)) ?_
          clear hS
          rintro _ w_3 ⟨a22, p22, rfl, hS⟩
          refine qq hS (g_assign _) ?_
          refine ol_nil (blkN (thenN ?_))
          refine reg ?_
          refine qq hS (g_add rfl rfl (by omega) (by omega)) ?_
          refine qq hS (g_movev (v := .int .i64 _) rfl) ?_
          refine ⟨⟨j + 1, a22, p22⟩, _, rfl, ⟨⟨rfl, rfl, rfl, rfl, rfl, rfl, trivial⟩, ?_, by dsimp only; omega⟩, by dsimp only; omega⟩
          dsimp only
          rw [oct4_succ, flat_append, flat_one, ← List.append_assoc]
          exact hS.sel [false, true]
        ·
          intro hc14
          try simp only [Bool.and_eq_true, Bool.or_eq_true, Bool.not_eq_true', Bool.and_eq_false_imp, Bool.or_eq_false_iff, Bool.not_eq_false', decide_eq_true_eq, decide_eq_false_iff_not] at hc14
          have hj : j = 4 := by omega
          subst hj
          refine wpIn_exit ?_
          refine thenE (thenE (blkE ?_))
          refine blkN (thenN ?_)
          refine reg ?_
          refine qq hS (g_add rfl rfl (by omega) (by omega)) ?_
          refine qq hS (g_movev (v := .int .i64 _) rfl) ?_
          refine ⟨⟨k + 1, a2, c2⟩, _, rfl, ⟨⟨rfl, rfl, rfl, rfl, trivial⟩, ?_, by dsimp only; omega⟩, by dsimp only; omega⟩
          dsimp only
          rw [take_snoc hyi, bytesP_snoc, ← oct4_four, flat_append]
          exact hS.sel [true]
    ·
      intro hc10
      try simp only [Bool.and_eq_true, Bool.or_eq_true, Bool.not_eq_true', Bool.and_eq_false_imp, Bool.or_eq_false_iff, Bool.not_eq_false', decide_eq_true_eq, decide_eq_false_iff_not] at hc10
      have hkn : k = l.length := by omega
      subst hkn
      refine wpIn_exit ?_
      refine thenE (thenE (blkE ?_))
      refine thenN ?_
      refine wpIn_seq ?_
      refine reg ?_
      refine qq hS (g_move _) ?_
      refine qq hS (g_assign _) ?_
      refine ol_nil (thenN ?_)
      refine wpIn_ret ?_
      refine ret1 Tryz.results80 (rv_tmp rfl) ?_
      rw [List.take_length] at hS
      exact ⟨a, c, rfl, hS.sel [true]⟩

theorem bytes_c (ad : Option Addr) (cap : Nat) (l : List Int) (w0 : World) (I0 : Imm) (hI : Sat I0 w0) (hl : RFl I0 1 u32C (.slice ad l.length cap) l) (hw : Wrds l) (hn : l.length ≤ 1073741824) :
    Ctr Tryz.prog 80 [.slice ad l.length cap] w0 (fun v w' => ∃ I' a c, v = .slice a (4 * l.length) c ∧ Ext w0 I0 w' I' ∧ RBytes I' (.slice a (4 * l.length) c) (bytesP l)) :=
  (bytes_o ad cap l w0 I0 hI hl hw hn).mono fun v w' ⟨a, c, hv, hS⟩ => by
    obtain ⟨I1, hE, _, hr⟩ := row_freeze1 byteC_len hS (bytesP_len l).symm
    exact ⟨I1, a, c, hv, hE, hr⟩

end Go.Proofs.YtaklmbhfmpdinaaGreatDoor

