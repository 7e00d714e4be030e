/- compose.Through, Compose, fold, All: what they compute. Conditions: numbers within bounds. compose.Compose, fold, All, and those of inlayref09: what they compute. Conditions: numbers within bounds. compose.fold, All, inlayref09.All: what they compute. Conditions: numbers within bounds. Whole, Chain, Run, Input, Same: what they compute. Conditions: numbers within bounds. -/
import Derived.Test.YtaklmbhfmpdinaaGreatDoorKSmall
import Derived.Test.YtaklmbhfmpdinaaGreatDoorKLaw
import Derived.Test.YtaklmbhfmpdinaaGreatDoorKRef6
import Derived.Test.YtaklmbhfmpdinaaGreatDoorKSpec
import Derived.Test.YtaklmbhfmpdinaaGreatDoorKCut
import Derived.Test.YtaklmbhfmpdinaaGreatDoorKOpt
namespace Go.Proofs.YtaklmbhfmpdinaaGreatDoor
open Go Go.RowKit Go.Inl
set_option linter.unusedSimpArgs false
set_option linter.unusedVariables false
end Go.Proofs.YtaklmbhfmpdinaaGreatDoor


namespace Go.Proofs.YtaklmbhfmpdinaaGreatDoor
open Go Go.RowKit Go.Inl
set_option linter.unusedSimpArgs false
set_option linter.unusedVariables false
theorem symbols_e (p : PatL) (ad : Option Addr) (m cap : Nat) (A : List Sym × Int) (w0 : World) (I0 : Imm) (hI : Sat I0 w0) (hops : ROps I0 (.slice ad m cap) p.ops) (hp : p.wf) (he : symbolsP p = A) :
    Ctr Tryz.prog 30 [.agg #[.bool p.lifted, .int .i64 p.in_, .int .i64 p.out, .slice ad m cap]] w0 (fun v w' => ∃ I' a c, v = .tuple #[.slice a A.1.length c, .int .i64 A.2] ∧ Ext w0 I0 w' I' ∧ RSyms I' (.slice a A.1.length c) A.1) := by
  subst he; exact symbols_c p ad m cap w0 I0 hI hops hp
theorem symbolsP_len (p : PatL) : (symbolsP p).1.length ≤ 65536 := by
  unfold symbolsP
  split
  · rename_i h
    obtain ⟨h1, h2, h3, h4, h5, h6, h7⟩ := checkP_ok h
    show (symsOf p.ops).length ≤ 65536
    omega
  · simp
end Go.Proofs.YtaklmbhfmpdinaaGreatDoor


namespace Go.Proofs.YtaklmbhfmpdinaaGreatDoor
open Go Go.RowKit Go.Inl
set_option linter.unusedSimpArgs false
set_option linter.unusedVariables false
end Go.Proofs.YtaklmbhfmpdinaaGreatDoor


namespace Go.Proofs.YtaklmbhfmpdinaaGreatDoor
open Go Go.RowKit Go.Inl
set_option linter.unusedSimpArgs false
set_option linter.unusedVariables false
/-! ### Bytes -/
def runB (old : List Int) (s : Sym) : Int := if s.old then IntKind.u8.wrap (s.b + old.getD s.at_.toNat 0) else s.b
def runP (old : List Int) (l : List Sym) : List Int × Int := if l.any (badT old.length) then ([], 61) else (l.map (runB old), 0)
theorem runP_bad {a : List Int} {b : List Sym} {s : Sym} (hs : s ∈ b) (h : badT a.length s = true) : runP a b = ([], 61) := by
  unfold runP; rw [if_pos (List.any_eq_true.2 ⟨s, hs, h⟩)]
theorem runP_good {a : List Int} {b : List Sym} (h : ∀ s ∈ b, badT a.length s = false) : runP a b = (b.map (runB a), 0) := by
  unfold runP
  rw [if_neg]
  intro hb
  obtain ⟨s, hs, h1⟩ := List.any_eq_true.1 hb
  rw [h s hs] at h1; cases h1
theorem runB_lit {a : List Int} {s : Sym} (h : s.old = false) : runB a s = s.b := by unfold runB; rw [h]; rfl
theorem runB_old {a : List Int} {s : Sym} {x : Int} (h : s.old = true) (hx : a[s.at_.toNat]? = some x) : runB a s = IntKind.u8.wrap (s.b + x) := by
  unfold runB
  rw [h, List.getD_eq_getElem?_getD, hx]; rfl
theorem runB_bd {a : List Int} {s : Sym} (hs : s.wf) : 0 ≤ runB a s ∧ runB a s ≤ 255 := by
  unfold runB
  split
  · rw [wrap8]; omega
  · exact hs.2.2
def inputB (b : List Int) (j : Nat) : Int := if j < b.length then b.getD j 0 else IntKind.u8.wrap (7 * (j : Int))
def inputP (b : List Int) (n : Nat) : List Int := (List.range n).map (inputB b)
theorem inputP_bd {b : List Int} {n : Nat} (hb : ∀ y ∈ b, 0 ≤ y ∧ y ≤ 255) : ∀ y ∈ inputP b n, 0 ≤ y ∧ y ≤ 255 := fun y hy => by
  obtain ⟨j, _, rfl⟩ := List.mem_map.1 hy
  unfold inputB
  split
  · rename_i h
    rw [List.getD_eq_getElem?_getD, List.getElem?_eq_getElem h]
    exact hb _ (List.getElem_mem h)
  · rw [wrap8]; omega
theorem inputP_len (b : List Int) (n : Nat) : (inputP b n).length = n := by simp [inputP]

set_option maxHeartbeats 1000000 in
theorem run_c (ad bd : Option Addr) (cap capb : Nat) (lo : List Int) (l : List Sym) (w0 : World) (I0 : Imm) (hI : Sat I0 w0) (ha : RBytes I0 (.slice ad lo.length cap) lo) (hb : RSyms I0 (.slice bd l.length capb) l) (hwb : ∀ s ∈ l, s.wf) (hn : l.length ≤ 65536) :
    Ctr Tryz.prog 35 [.slice ad lo.length cap, .slice bd l.length capb] w0 (fun v w' => ∃ I' a c, v = .tuple #[.slice a (runP lo l).1.length c, .int .i64 (runP lo l).2] ∧ Ext w0 I0 w' I' ∧ RBytes I' (.slice a (runP lo l).1.length c) (runP lo l).1) := by
  have hll := RSl.le hb
  have hlla := RSl.le ha
  simp only [maxLen] at hll hlla
  refine fn (n := 46) Tryz.func35 rfl rfl rfl ?_
  have hS := St.start hI
  refine wpIn_seq ?_
  refine reg ?_
  refine qq hS (g_assign _) ?_
  refine qq hS (g_assignv (v := .int .i64 _) rfl) ?_
  refine ol_nil (thenN ?_)
  refine wpIn_seq ?_
  refine reg ?_
  refine qq hS (g_move _) ?_
  refine qq hS (g_lenI rfl Tryz.underlying67 hb rfl) ?_
  refine qe (i_make0 hS Tryz.underlying22 info5 rfl rfl (by omega) (by omega) (by omega)) ?_
  clear hS
  rintro _ w_1 ⟨a11, p11, rfl, hS⟩
  refine qq hS (g_assign _) ?_
  refine ol_nil (thenN ?_)
  refine wpIn_seq ?_
  refine wpIn_seq ?_
  refine reg ?_
  refine qq hS (g_move _) ?_
  refine qq hS (g_lenI rfl Tryz.underlying67 hb rfl) ?_
  refine qq hS (g_movev (v := .int .i64 _) rfl) ?_
  refine ol_nil (thenN ?_)
  refine wpIn_block ?_
  refine loop (fun (x : Nat × Option Addr × Nat) σ w => okS σ [(0, .slice ad lo.length cap), (6, .slice x.2.1 x.1 x.2.2), (12, .slice bd l.length capb), (13, .int .i64 l.length), (14, .int .i64 x.1)] ∧ St [] w0 I0 I0 w [.row (.slice x.2.1 x.1 x.2.2) 5 1 x.1 (flat byteC ((l.take x.1).map (runB lo)))] ∧ x.1 ≤ l.length ∧ ∀ s ∈ l.take x.1, badT lo.length s = false) (fun x => l.length - x.1) ((0, a11, p11)) ?_ ?_
  ·
    exact ⟨⟨rfl, rfl, rfl, rfl, rfl, trivial⟩, hS.sel [true], by simp, by simp⟩
  ·
    rintro ⟨k, a, c⟩ σ w_l ⟨hs, hS, hk0, hbad⟩
    dsimp only at hs hS hk0 hbad ⊢
    rw [← upds_self hs]; clear hs
    refine wpIn_seq ?_
    refine reg ?_
    refine qq hS (g_lss rfl rfl) ?_
    refine ol_nil (thenN ?_)
    refine wpIn_seq ?_
    refine cond_s rfl ?_ ?_
    ·
      intro hc15
      try simp only [Bool.and_eq_true, Bool.or_eq_true, Bool.not_eq_true', Bool.and_eq_false_imp, Bool.or_eq_false_iff, Bool.not_eq_false', decide_eq_true_eq, decide_eq_false_iff_not] at hc15
      obtain ⟨s, hsi⟩ : ∃ s, l[k]? = some s := ⟨_, List.getElem?_eq_getElem (by omega)⟩
      have hsA := hb.at hsi
      have hsm := List.mem_of_getElem? hsi
      obtain ⟨sw1, sw2, sw3, sw4⟩ := hwb s hsm
      refine wpIn_skip ?_
      refine thenN ?_
      refine wpIn_seq ?_
      refine wpIn_block ?_
      refine wpIn_seq ?_
      refine reg ?_
      refine qq hS (g_ixI Tryz.underlying67 Tryz.sizeOf85 hb rfl rfl (by omega) (by omega)) ?_
      refine qq hS (g_ldE (us := [.bool _, .int .i64 _, .int .u8 _]) Tryz.sizeOf85 Tryz.isAgg85 hsA rfl rfl rfl) ?_
      refine qe (d_alloc (cs := [.bool _, .int .i64 _, .int .u8 _]) hS Tryz.zeroValue85 rfl) ?_
      clear hS
      rintro _ w_2 ⟨b8, rfl, hS⟩
      refine qe (d_store 0 hS Tryz.sizeOf85 rfl rfl rfl (vs := [.bool _, .int .i64 _, .int .u8 _]) rfl rfl rfl (Nat.le_of_ble_eq_true rfl) (cs' := [_, _, _]) rfl) ?_
      clear hS
      rintro _ w_3 ⟨rfl, hS⟩
      refine ol_nil (thenN ?_)
      refine meet (fun σ w => okS σ [(0, .slice ad lo.length cap), (6, .slice a k c), (12, .slice bd l.length capb), (13, .int .i64 l.length), (14, .int .i64 k), (8, .pointer (some ⟨b8, 0, none⟩))] ∧ St [] w0 I0 I0 w [.cel b8 85 [.bool s.old, .int .i64 s.at_, .int .u8 (runB lo s)], .row (.slice a k c) 5 1 k (flat byteC ((l.take k).map (runB lo)))] ∧ badT lo.length s = false) ?_ ?_
      ·
        refine wpIn_seq ?_
        refine reg ?_
        refine qq hS (g_fieldAddr (o' := 0) Tryz.underlying85 rfl Tryz.sizeOf4 rfl rfl rfl) ?_
        refine qq hS (g_ldO1 0 Tryz.isAgg4 rfl rfl rfl) ?_
        refine ol_nil (thenN ?_)
        refine cond_s rfl ?_ ?_
        ·
          intro hc19
          try simp only [Bool.and_eq_true, Bool.or_eq_true, Bool.not_eq_true', Bool.and_eq_false_imp, Bool.or_eq_false_iff, Bool.not_eq_false', decide_eq_true_eq, decide_eq_false_iff_not] at hc19
          have hso : s.old = true := hc19
          refine wpIn_seq ?_
          refine wpIn_seq ?_
          refine reg ?_
          refine qq hS (g_fieldAddr (o' := 1) Tryz.underlying85 rfl Tryz.sizeOf3 rfl rfl rfl) ?_
          refine qq hS (g_ldO1 0 Tryz.isAgg3 rfl rfl rfl) ?_
          refine qq hS (g_lss rfl rfl) ?_
          refine qq hS (g_movev (v := .bool _) rfl) ?_
          refine qu rfl rfl hS (fun hg => (g_fieldAddr (o' := 1) Tryz.underlying85 rfl Tryz.sizeOf3 rfl rfl rfl)) ?_
          intro u24 hu24 hn24
          refine qu rfl rfl hS (fun hg => (g_ldO1 0 Tryz.isAgg3 rfl (hu24 hg) rfl)) ?_
          intro u25 hu25 hn25
          refine qu rfl rfl hS (fun hg => (g_move _)) ?_
          intro u26 hu26 hn26
          refine qu rfl rfl hS (fun hg => (g_lenI rfl Tryz.underlying22 ha (hu26 hg))) ?_
          intro u27 hu27 hn27
          refine qu rfl rfl hS (fun hg => (g_geq (hu25 hg) (hu27 hg))) ?_
          intro u28 hu28 hn28
          refine qq hS (g_or rfl rfl (fun hq => hu28 hq)) ?_
          refine ol_nil (thenN ?_)
          refine cond_s rfl ?_ ?_
          ·
            intro hc29
            clear hu24 hn24 hu25 hn25 hu26 hn26 hu27 hn27 hu28 hn28
            have hbd : badT lo.length s = true := by unfold badT; rw [hso, Bool.true_and]; exact hc29
            have e := runP_bad hsm hbd
            refine wpIn_seq ?_
            refine reg ?_
            refine qq hS (g_assign _) ?_
            refine qq hS (g_assignv (v := .int .i64 _) rfl) ?_
            refine ol_nil (thenN ?_)
            refine wpIn_ret ?_
            refine thenR (thenR (blkR (thenR (thenR (blkR (thenR ?_))))))
            refine ret2 Tryz.results35 (rv_tmp rfl) (rv_tmp (v := .int .i64 _) rfl) ?_
            rw [e]; exact ⟨_, none, 0, rfl, hS.nil, RFl.nil⟩
          ·
            intro hc29
            clear hu24 hn24 hu25 hn25 hu26 hn26 hu27 hn27 hu28 hn28
            have hbd : badT lo.length s = false := by unfold badT; rw [hso, Bool.true_and]; exact hc29
            simp only [Bool.or_eq_false_iff, decide_eq_false_iff_not] at hc29
            have hin : s.at_.toNat < lo.length := by omega
            obtain ⟨x, hxi⟩ : ∃ x, lo[s.at_.toNat]? = some x := ⟨_, List.getElem?_eq_getElem hin⟩
            have hxA := ha.at hxi
            have ht := runB_old hso hxi
            refine wpIn_skip ?_
            refine thenN ?_
            refine draw (.cons 0 .pure (.cons 1 .held (.cons 2 .pure (.cons 3 .pure (.cons 4 .held (.cons 5 .pure (.cons 6 .held (.cons 7 .pure (.cons 8 .pure (.cons 9 .bar .nil)))))))))) mixed (by kernel_rfl) hS ?_
            intro w_4 hS
            refine sp rfl (g_fieldAddr (o' := 2) Tryz.underlying85 rfl Tryz.sizeOf5 rfl rfl rfl) ?_
            refine sh rfl (g_ldO1 0 Tryz.isAgg5 rfl rfl rfl) ?_
            refine sp rfl (g_move _) ?_
            refine sp rfl (g_fieldAddr (o' := 1) Tryz.underlying85 rfl Tryz.sizeOf3 rfl rfl rfl) ?_
            refine sh rfl (g_ldO1 0 Tryz.isAgg3 rfl rfl rfl) ?_
            refine sp rfl (g_ixI Tryz.underlying22 Tryz.sizeOf5 ha rfl rfl (by omega) (by omega)) ?_
            refine sh rfl (g_ldE1 Tryz.isAgg5 hxA rfl rfl) ?_
            refine sp rfl (g_addw rfl rfl) ?_
            refine sp rfl (g_fieldAddr (o' := 2) Tryz.underlying85 rfl Tryz.sizeOf5 rfl rfl rfl) ?_
            refine sb rfl (d_store 0 hS Tryz.sizeOf5 rfl rfl rfl (vs := [.int .u8 _]) rfl rfl rfl (Nat.le_of_ble_eq_true rfl) (cs' := [_, _, _]) rfl) ?_
            rintro _ w_5 ⟨rfl, hS⟩
            refine ⟨_, _, hS, ?_⟩
            refine sn (thenN ?_)
            refine ⟨_, rfl, ⟨rfl, rfl, rfl, rfl, rfl, rfl, trivial⟩, ?_, hbd⟩
            rw [ht]
            exact hS.sel [true, true]
        ·
          intro hc19
          try simp only [Bool.and_eq_true, Bool.or_eq_true, Bool.not_eq_true', Bool.and_eq_false_imp, Bool.or_eq_false_iff, Bool.not_eq_false', decide_eq_true_eq, decide_eq_false_iff_not] at hc19
          have hso : s.old = false := hc19
          have hbd : badT lo.length s = false := by unfold badT; rw [hso]; rfl
          have ht := runB_lit (a := lo) hso
          refine wpIn_skip ?_
          refine thenN ?_
          refine ⟨_, rfl, ⟨rfl, rfl, rfl, rfl, rfl, rfl, trivial⟩, ?_, hbd⟩
          rw [ht]
          exact hS.sel [true, true]
      ·
        rintro σ w ⟨hs, hS, hbd⟩
        rw [← upds_self hs]
        refine reg ?_
        refine qq hS (g_move _) ?_
        refine qq hS (g_fieldAddr (o' := 2) Tryz.underlying85 rfl Tryz.sizeOf5 rfl rfl rfl) ?_
        refine qq hS (g_ldO1 0 Tryz.isAgg5 rfl rfl rfl) ?_
        refine qe (d_lit (vs := [.int .u8 _]) (cs := [.int .u8 _]) hS Tryz.underlying22 Tryz.sizeOf5 Tryz.zeroValue5 rfl rfl rfl rfl (fun v hv => by simp only [List.mem_cons, List.not_mem_nil, or_false] at hv; subst hv; rfl) rfl) ?_
        clear hS
        rintro _ w_6 ⟨b_6, rfl, hS⟩
        refine qe (i_appendO 2 0 hS rfl Tryz.underlying22 info5 rfl rfl rfl rfl rfl rfl rfl rfl (by omega) (by omega)) ?_
        clear hS
        rintro _ w_7 ⟨a43, p43, rfl, hS⟩
        refine qq hS (g_assign _) ?_
        refine ol_nil (blkN (thenN ?_))
        refine reg ?_
        refine qq hS (g_add rfl rfl (by omega) (by omega)) ?_
        refine qq hS (g_movev (v := .int .i64 _) rfl) ?_
        refine ⟨(k + 1, a43, p43), _, rfl, ⟨⟨rfl, rfl, rfl, rfl, rfl, trivial⟩, ?_, by dsimp only; omega, any_take hsi hbad hbd⟩, by dsimp only; omega⟩
        dsimp only
        rw [take_snoc hsi, List.map_append, flat_append, List.map_cons, List.map_nil, flat_one]
        exact hS.sel [false, false, true]
    ·
      intro hc15
      try simp only [Bool.and_eq_true, Bool.or_eq_true, Bool.not_eq_true', Bool.and_eq_false_imp, Bool.or_eq_false_iff, Bool.not_eq_false', decide_eq_true_eq, decide_eq_false_iff_not] at hc15
      have hk : k = l.length := by omega
      subst hk
      rw [List.take_length] at hS hbad
      have e := runP_good hbad
      refine wpIn_exit ?_
      refine thenE (thenE (blkE ?_))
      refine thenN ?_
      refine wpIn_seq ?_
      refine reg ?_
      refine qq hS (g_move _) ?_
      refine qq hS (g_assign _) ?_
      refine qq hS (g_assignv (v := .int .i64 _) rfl) ?_
      refine ol_nil (thenN ?_)
      refine wpIn_ret ?_
      refine ret2 Tryz.results35 (rv_tmp rfl) (rv_tmp (v := .int .i64 _) rfl) ?_
      obtain ⟨I1, hE1, hI1, hd1⟩ := row_freeze1 byteC_len (xs := l.map (runB lo)) (hS.sel [true]) (by simp)
      have hlm : (l.map (runB lo)).length = l.length := List.length_map _
      have hl1 : (runP lo l).1.length = l.length := by rw [e]; exact hlm
      rw [hl1]
      exact ⟨I1, a, c, by rw [e]; rfl, hE1, by rw [e]; exact hd1⟩

set_option maxHeartbeats 1000000 in
theorem input_c (ad : Option Addr) (cap : Nat) (b : List Int) (n : Nat) (w0 : World) (I0 : Imm) (hI : Sat I0 w0) (hl : RBytes I0 (.slice ad b.length cap) b) (hb : ∀ y ∈ b, 0 ≤ y ∧ y ≤ 255) (hn : n ≤ 65536) :
    Ctr Tryz.prog 22 [.slice ad b.length cap, .int .i64 n] w0 (fun v w' => ∃ I' a c, v = .slice a n c ∧ Ext w0 I0 w' I' ∧ RBytes I' (.slice a n c) (inputP b n)) := by
  have hll := RSl.le hl
  simp only [maxLen] at hll
  refine fn (n := 30) Tryz.func22 rfl rfl rfl ?_
  have hS := St.start hI
  refine wpIn_seq ?_
  refine reg ?_
  refine qq hS (g_assign _) ?_
  refine ol_nil (thenN ?_)
  refine wpIn_seq ?_
  refine reg ?_
  refine qe (d_buildSlice0 hS Tryz.underlying22 Tryz.sizeOf5) ?_
  clear hS
  rintro _ w_1 ⟨hS, b8_, rfl⟩
  refine qq hS (g_assign _) ?_
  refine ol_nil (thenN ?_)
  refine wpIn_seq ?_
  refine wpIn_seq ?_
  refine reg ?_
  refine qq hS (g_assignv (v := .int .i64 _) rfl) ?_
  refine ol_nil (thenN ?_)
  refine wpIn_block ?_
  refine loop (fun (x : Nat × Option Addr × Nat) σ w => okS σ [(0, .slice ad b.length cap), (1, .int .i64 n), (5, .slice x.2.1 x.1 x.2.2), (6, .int .i64 x.1)] ∧ St [] w0 I0 I0 w [.row (.slice x.2.1 x.1 x.2.2) 5 1 x.1 (flat byteC (inputP b x.1))] ∧ x.1 ≤ n) (fun x => n - x.1) ((0, some ⟨b8_, 0, none⟩, 0)) ?_ ?_
  ·
    exact ⟨⟨rfl, rfl, rfl, rfl, trivial⟩, hS.sel [true], by simp⟩
  ·
    rintro ⟨k, a, c⟩ σ w_l ⟨hs, hS, hk0⟩
    dsimp only at hs hS hk0 ⊢
    rw [← upds_self hs]; clear hs
    refine wpIn_seq ?_
    refine wpIn_seq ?_
    refine reg ?_
    refine qq hS (g_movev (v := .int .i64 _) rfl) ?_
    refine qq hS (g_movev (v := .int .i64 _) rfl) ?_
    refine qq hS (g_lss rfl rfl) ?_
    refine ol_nil (thenN ?_)
    refine cond_s rfl ?_ ?_
    ·
      intro hc11
      try simp only [Bool.and_eq_true, Bool.or_eq_true, Bool.not_eq_true', Bool.and_eq_false_imp, Bool.or_eq_false_iff, Bool.not_eq_false', decide_eq_true_eq, decide_eq_false_iff_not] at hc11
      refine wpIn_skip ?_
      refine thenN ?_
      refine wpIn_seq ?_
      refine wpIn_block ?_
      refine wpIn_seq ?_
      refine reg ?_
      refine qq hS (g_movev (v := .int .i64 _) rfl) ?_
      refine qq hS (g_mul rfl rfl (by omega) (by omega)) ?_
      refine qq hS (g_conv Tryz.underlying3 Tryz.underlying5 rfl) ?_
      refine qq hS (g_assignv (v := .int .u8 _) rfl) ?_
      refine ol_nil (thenN ?_)
      refine meet (fun σ w => okS σ [(0, .slice ad b.length cap), (1, .int .i64 n), (5, .slice a k c), (6, .int .i64 k), (7, .int .u8 (inputB b k))] ∧ St [] w0 I0 I0 w [.row (.slice a k c) 5 1 k (flat byteC (inputP b k))]) ?_ ?_
      ·
        refine wpIn_seq ?_
        refine reg ?_
        refine qq hS (g_movev (v := .int .i64 _) rfl) ?_
        refine qq hS (g_move _) ?_
        refine qq hS (g_lenI rfl Tryz.underlying22 hl rfl) ?_
        refine qq hS (g_lss rfl rfl) ?_
        refine ol_nil (thenN ?_)
        refine cond_s rfl ?_ ?_
        ·
          intro hc20
          try simp only [Bool.and_eq_true, Bool.or_eq_true, Bool.not_eq_true', Bool.and_eq_false_imp, Bool.or_eq_false_iff, Bool.not_eq_false', decide_eq_true_eq, decide_eq_false_iff_not] at hc20
          obtain ⟨y, hyi⟩ : ∃ y, b[k]? = some y := ⟨_, List.getElem?_eq_getElem (by omega)⟩
          have hyA := hl.at hyi
          have ht : inputB b k = y := by unfold inputB; rw [if_pos (by omega), List.getD_eq_getElem?_getD, hyi]; rfl
          refine reg ?_
          refine qq hS (g_move _) ?_
          refine qq hS (g_movev (v := .int .i64 _) rfl) ?_
          refine qq hS (g_ixI Tryz.underlying22 Tryz.sizeOf5 hl rfl rfl (by omega) (by omega)) ?_
          refine qq hS (g_ldE1 Tryz.isAgg5 hyA rfl rfl) ?_
          refine qq hS (g_assignv (v := .int .u8 _) rfl) ?_
          refine ol_nil (thenN ?_)
          exact ⟨_, rfl, ⟨rfl, rfl, rfl, rfl, by rw [ht]; rfl, trivial⟩, hS.sel [true]⟩
        ·
          intro hc20
          try simp only [Bool.and_eq_true, Bool.or_eq_true, Bool.not_eq_true', Bool.and_eq_false_imp, Bool.or_eq_false_iff, Bool.not_eq_false', decide_eq_true_eq, decide_eq_false_iff_not] at hc20
          have ht : inputB b k = IntKind.u8.wrap (7 * (k : Int)) := if_neg (by omega)
          refine wpIn_skip ?_
          refine thenN ?_
          exact ⟨_, rfl, ⟨rfl, rfl, rfl, rfl, by rw [ht]; rfl, trivial⟩, hS.sel [true]⟩
      ·
        rintro σ w ⟨hs, hS⟩
        rw [← upds_self hs]
        refine reg ?_
        refine qq hS (g_move _) ?_
        refine qq hS (g_movev (v := .int .u8 _) rfl) ?_
        refine qe (d_lit (vs := [.int .u8 _]) (cs := [.int .u8 _]) hS Tryz.underlying22 Tryz.sizeOf5 Tryz.zeroValue5 rfl rfl rfl rfl (fun v hv => by simp only [List.mem_cons, List.not_mem_nil, or_false] at hv; subst hv; rfl) rfl) ?_
        clear hS
        rintro _ w_2 ⟨b_2, rfl, hS⟩
        refine qe (i_appendO 1 0 hS rfl Tryz.underlying22 info5 rfl rfl rfl rfl rfl rfl rfl rfl (by omega) (by omega)) ?_
        clear hS
        rintro _ w_3 ⟨a28, p28, rfl, hS⟩
        refine qq hS (g_assign _) ?_
        refine ol_nil (blkN (thenN ?_))
        refine reg ?_
        refine qq hS (g_movev (v := .int .i64 _) rfl) ?_
        refine qq hS (g_add rfl rfl (by omega) (by omega)) ?_
        refine qq hS (g_assignv (v := .int .i64 _) rfl) ?_
        refine ⟨(k + 1, a28, p28), _, rfl, ⟨⟨rfl, rfl, rfl, rfl, trivial⟩, ?_, by dsimp only; omega⟩, by dsimp only; omega⟩
        dsimp only
        rw [show inputP b (k + 1) = inputP b k ++ [inputB b k] by unfold inputP; rw [List.range_succ, List.map_append]; rfl, flat_append, flat_one]
        exact hS.sel [false, true]
    ·
      intro hc11
      try simp only [Bool.and_eq_true, Bool.or_eq_true, Bool.not_eq_true', Bool.and_eq_false_imp, Bool.or_eq_false_iff, Bool.not_eq_false', decide_eq_true_eq, decide_eq_false_iff_not] at hc11
      have hk : k = n := by omega
      subst hk
      refine wpIn_exit ?_
      refine thenE (thenE (blkE ?_))
      refine thenN ?_
      refine wpIn_seq ?_
      refine reg ?_
      refine qq hS (g_move _) ?_
      refine qq hS (g_assign _) ?_
      refine ol_nil (thenN ?_)
      refine wpIn_ret ?_
      refine ret1 Tryz.results22 (rv_tmp rfl) ?_
      obtain ⟨I1, hE1, hI1, hd1⟩ := row_freeze1 byteC_len (xs := inputP b k) (hS.sel [true]) (inputP_len b k).symm
      exact ⟨I1, a, c, rfl, hE1, hd1⟩

end Go.Proofs.YtaklmbhfmpdinaaGreatDoor

