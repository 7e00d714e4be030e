/- normal.table fills the table of places. Conditions: at most 65536 right symbols. -/
import Derived.Test.YtlhehhhpaebpoaaGreatSmall
import Derived.Test.YtlhehhhpaebpoaaGreatTabB
namespace Go.Proofs.YtlhehhhpaebpoaaGreat
open Go Go.RowKit Go.Inl
set_option linter.unusedSimpArgs false
set_option linter.unusedVariables false

set_option maxHeartbeats 1000000 in
theorem table_c (vl : Value) (l : List Sym) (w0 : World) (I0 : Imm) (hI : Sat I0 w0) (hl : RSyms I0 vl l) (hok : ∀ s ∈ l, s.ok) (hn : l.length ≤ 65536) :
    Ctr Tryz.prog 74 [vl] w0 (fun v w' => ∃ b, v = .slice (some ⟨b, 0, none⟩) (l.length + 1) (l.length + 1) ∧ St [] w0 I0 I0 w' [.cel b 128 (flat plC (tab l))]) := by
  refine fn (n := 168) Tryz.func74 rfl rfl rfl ?_
  have hS := St.start hI
  refine wpIn_seq ?_
  refine reg ?_
  refine qq hS (g_assign _) ?_
  refine ol_nil (thenN ?_)
  refine wpIn_seq ?_
  refine reg ?_
  refine qq hS (g_move _) ?_
  refine qq hS (g_lenI rfl Tryz.underlying54 hl rfl) ?_
  refine qq hS (g_add rfl rfl (by omega) (by omega)) ?_
  refine qe (i_make hS Tryz.underlying123 info128 rfl rfl (by omega) (by omega) (by omega) (by omega)) ?_
  clear hS
  rintro _ w_1 ⟨bt, rfl, hS⟩
  refine qq hS (g_assign _) ?_
  refine ol_nil (thenN ?_)
  refine wpIn_seq ?_
  refine wpIn_seq ?_
  refine reg ?_
  refine qq hS (g_move _) ?_
  refine qq hS (g_lenI rfl Tryz.underlying54 hl rfl) ?_
  refine qq hS (g_sub rfl rfl (by omega) (by omega)) ?_
  refine qq hS (g_assignv (v := .int .i64 _) rfl) ?_
  refine ol_nil (thenN ?_)
  refine wpIn_block ?_
  refine loop (fun (i : Int) σ w => okS σ [(0, vl), (3, .slice (some ⟨bt, 0, none⟩) (l.length + 1) (l.length + 1)), (4, .int .i64 i)] ∧ St [] w0 I0 I0 w [.cel bt 128 (flat plC (List.replicate (i + 1).toNat Pl.zero ++ tab (l.drop (i + 1).toNat)))] ∧ -1 ≤ i ∧ i < l.length) (fun i => (i + 1).toNat) ((l.length : Int) - 1) ?_ ?_
  ·
    refine ⟨⟨rfl, rfl, rfl, trivial⟩, ?_, by omega, by omega⟩
    have h1 := madeCells_flat plC_len (by decide) (l.length + 1) Pl.zero
    have h2 : (l.length : Int) - 1 + 1 = l.length := by omega
    rw [h2, Int.toNat_natCast, List.drop_length, show tab [] = [Pl.zero] from rfl, ← List.replicate_succ', ← h1]
    exact hS.sel [true]
  ·
    rintro i σ w_l ⟨hs, hS, hi0, hi1⟩
    rw [← upds_self hs]; clear hs
    refine wpIn_seq ?_
    refine wpIn_seq ?_
    refine reg ?_
    refine qq hS (g_movev (v := .int .i64 _) rfl) ?_
    refine qq hS (g_geq rfl rfl) ?_
    refine ol_nil (thenN ?_)
    refine cond_s rfl ?_ ?_
    ·
      intro hc18
      try simp only [Bool.and_eq_true, Bool.or_eq_true, Bool.not_eq_true', Bool.and_eq_false_imp, Bool.or_eq_false_iff, Bool.not_eq_false', decide_eq_true_eq, decide_eq_false_iff_not] at hc18
      have hm : (i + 1).toNat = i.toNat + 1 := by omega
      obtain ⟨s, hsi⟩ : ∃ s, l[i.toNat]? = some s := ⟨_, List.getElem?_eq_getElem (by omega)⟩
      have hsA := hl.at hsi
      have hsok := hok s (List.mem_of_getElem? hsi)
      have hdl : (l.drop (i.toNat + 1)).length = l.length - (i.toNat + 1) := by simp
      have htl := tab_length (l.drop (i.toNat + 1))
      obtain ⟨nx, hnx⟩ : ∃ nx, nx = (l.drop (i.toNat + 1)).headD s := ⟨_, rfl⟩
      obtain ⟨lst, hlst⟩ : ∃ b, b = decide (i = (l.length : Int) - 1) := ⟨_, rfl⟩
      have hle : lst = (l.drop (i.toNat + 1)).isEmpty := by rw [hlst, Bool.eq_iff_iff]; simp; omega
      obtain ⟨rest, hrest0⟩ : ∃ p, (tab (l.drop (i.toNat + 1)))[0]? = some p := ⟨_, List.getElem?_eq_getElem (by omega)⟩
      have hrh : (tab (l.drop (i.toNat + 1))).headD Pl.zero = rest := by rw [List.headD_eq_head?_getD, List.head?_eq_getElem?, hrest0]; rfl
      have hrg := tab_good (l.drop (i.toNat + 1)) 0 rest hrest0
      obtain ⟨pre, hpreq⟩ : ∃ p, p = flat plC (List.replicate i.toNat Pl.zero) := ⟨_, rfl⟩
      have hpl : pre.length = i.toNat * 12 := by rw [hpreq, flat_length plC_len]; simp
      have hpre : i.toNat * 12 = pre.length := hpl.symm
      replace hS : St [] w0 I0 I0 w_l [.cel bt 128 (pre ++ (plC Pl.zero ++ flat plC (tab (l.drop (i.toNat + 1)))))] := by rw [hm, focus_row, ← hpreq] at hS; exact hS
      refine wpIn_skip ?_
      refine thenN ?_
      refine wpIn_seq ?_
      refine wpIn_block ?_
      refine wpIn_seq ?_
      refine reg ?_
      refine qq hS (g_move _) ?_
      refine qq hS (g_movev (v := .int .i64 _) rfl) ?_
      refine qq hS (g_ixI Tryz.underlying54 Tryz.sizeOf60 hl rfl rfl (by omega) (by omega)) ?_
      refine qq hS (g_ldE (us := [.bool _, .int .i64 _, .int .u8 _]) Tryz.sizeOf60 Tryz.isAgg60 hsA rfl rfl rfl) ?_
      refine qq hS (g_movev (v := .int .i64 _) rfl) ?_
      refine qq hS (g_move _) ?_
      refine qq hS (g_lenI rfl Tryz.underlying54 hl rfl) ?_
      refine qq hS (g_sub rfl rfl (by omega) (by omega)) ?_
      refine qq hS (g_eql rfl rfl) ?_
      refine qe (d_alloc (cs := [.bool _, .int .i64 _, .int .u8 _]) hS Tryz.zeroValue60 rfl) ?_
      clear hS
      rintro _ w_2 ⟨b5, rfl, hS⟩
      refine qe (d_store 0 hS Tryz.sizeOf60 rfl rfl rfl (vs := [.bool _, .int .i64 _, .int .u8 _]) rfl rfl rfl (Nat.le_of_ble_eq_true rfl) (cs' := [_, _, _]) rfl) ?_
      clear hS
      rintro _ w_3 ⟨rfl, hS⟩
      refine qq hS (g_assignv (v := .bool _) rfl) ?_
      refine ol_nil (thenN ?_)
      refine wpIn_seq ?_
      refine reg ?_
      refine qq hS (g_ldO 0 (vs := [.bool _, .int .i64 _, .int .u8 _]) Tryz.sizeOf60 Tryz.isAgg60 rfl rfl rfl rfl) ?_
      refine qe (d_alloc (cs := [.bool _, .int .i64 _, .int .u8 _]) hS Tryz.zeroValue60 rfl) ?_
      clear hS
      rintro _ w_4 ⟨b7, rfl, hS⟩
      refine qe (d_store 0 hS Tryz.sizeOf60 rfl rfl rfl (vs := [.bool _, .int .i64 _, .int .u8 _]) rfl rfl rfl (Nat.le_of_ble_eq_true rfl) (cs' := [_, _, _]) rfl) ?_
      clear hS
      rintro _ w_5 ⟨rfl, hS⟩
      refine ol_nil (thenN ?_)
      refine meet (fun σ w => okS σ [(0, vl), (3, .slice (some ⟨bt, 0, none⟩) (l.length + 1) (l.length + 1)), (4, .int .i64 i), (5, .pointer (some ⟨b5, 0, none⟩)), (6, .bool lst), (7, .pointer (some ⟨b7, 0, none⟩))] ∧ St [] w0 I0 I0 w [.cel b7 60 (symC nx), .cel b5 60 (symC s), .cel bt 128 (pre ++ (plC Pl.zero ++ flat plC (tab (l.drop (i.toNat + 1)))))]) ?_ ?_
      ·
        refine wpIn_seq ?_
        refine reg ?_
        refine qq hS (g_movev (v := .bool _) rfl) ?_
        refine qq hS (g_not rfl) ?_
        refine ol_nil (thenN ?_)
        refine cond_s rfl ?_ ?_
        ·
          intro hc32
          have hlt : i.toNat + 1 < l.length := by
            have : lst = false := by rw [hlst]; simpa using hc32
            rw [this] at hle
            have := hle.symm
            simp at this
            omega
          have hnA := hl.at (i := (i + 1).toNat) (x := nx) (by rw [hm, hnx, List.headD_eq_head?_getD, List.head?_drop]; rw [List.getElem?_eq_getElem hlt]; rfl)
          refine reg ?_
          refine qq hS (g_move _) ?_
          refine qq hS (g_movev (v := .int .i64 _) rfl) ?_
          refine qq hS (g_add rfl rfl (by omega) (by omega)) ?_
          refine qq hS (g_ixI Tryz.underlying54 Tryz.sizeOf60 hl rfl rfl (by omega) (by omega)) ?_
          refine qq hS (g_ldE (us := [.bool _, .int .i64 _, .int .u8 _]) Tryz.sizeOf60 Tryz.isAgg60 hnA rfl rfl rfl) ?_
          refine qe (d_store 0 hS Tryz.sizeOf60 rfl rfl rfl (vs := [.bool _, .int .i64 _, .int .u8 _]) rfl rfl rfl (Nat.le_of_ble_eq_true rfl) (cs' := [_, _, _]) rfl) ?_
          clear hS
          rintro _ w_6 ⟨rfl, hS⟩
          refine ol_nil (thenN ?_)
          exact ⟨_, rfl, ⟨rfl, rfl, rfl, rfl, by subst hlst; rfl, rfl, trivial⟩, hS.sel [true, true, true]⟩
        ·
          intro hc32
          have hns : nx = s := by
            have : lst = true := by rw [hlst]; simpa using hc32
            rw [this] at hle
            rw [hnx]
            have h2 := List.isEmpty_iff.1 hle.symm
            rw [h2]; rfl
          subst hns
          refine wpIn_skip ?_
          refine thenN ?_
          exact ⟨_, rfl, ⟨rfl, rfl, rfl, rfl, by subst hlst; rfl, rfl, trivial⟩, hS.sel [true, true, true]⟩
      ·
        rintro σ w ⟨hs, hS⟩
        rw [← upds_self hs]
        refine wpIn_seq ?_
        refine draw (.cons 0 .pure (.cons 1 .pure (.cons 2 .pure (.cons 3 .pure (.cons 4 .pure (.cons 5 .pure (.cons 6 .pure (.cons 7 .held (.cons 8 .eff (.cons 9 .pure (.cons 10 .bar .nil))))))))))) mixed (by kernel_rfl) hS ?_
        intro w_7 hS
        refine sp rfl (g_move _) ?_
        refine sp rfl (g_movev (v := .int .i64 _) rfl) ?_
        refine sp rfl (g_indexAddrV (o := i.toNat * 12) Tryz.underlying123 Tryz.sizeOf128 rfl rfl (by omega) (by omega) (by omega)) ?_
        refine sp rfl (g_move _) ?_
        refine sp rfl (g_movev (v := .int .i64 _) rfl) ?_
        refine sp rfl (g_add rfl rfl (by omega) (by omega)) ?_
        refine sp rfl (g_indexAddrV (o := (i.toNat + 1) * 12) Tryz.underlying123 Tryz.sizeOf128 rfl rfl (by omega) (by omega) (by omega)) ?_
        refine sh rfl (g_ldL 2 (vs := plC rest) Tryz.sizeOf128 Tryz.isAgg128 rfl rfl (fun j v hv => post_get hpl rfl hrest0 rfl hv) rfl) ?_
        have hS0 := hS
        refine se rfl (d_alloc (cs := [.int .i64 _, .int .i64 _, .int .i64 _, .int .i64 _, .int .i64 _, .int .i64 _, .int .i64 _, .int .i64 _, .int .i64 _, .int .i64 _, .int .i64 _, .int .i64 _]) hS Tryz.zeroValue128 rfl) ?_
        rintro _ w_8 ⟨b9, rfl, hS⟩
        refine ⟨_, _, hS0.le (Sub.refl _) (List.sublist_cons_self _ _), hS, ?_⟩
        refine sp rfl (g_assign _) ?_
        refine sb rfl (d_store 0 hS Tryz.sizeOf128 rfl rfl rfl (vs := [.int .i64 _, .int .i64 _, .int .i64 _, .int .i64 _, .int .i64 _, .int .i64 _, .int .i64 _, .int .i64 _, .int .i64 _, .int .i64 _, .int .i64 _, .int .i64 _]) rfl rfl rfl (Nat.le_of_ble_eq_true rfl) (cs' := [_, _, _, _, _, _, _, _, _, _, _, _]) rfl) ?_
        rintro _ w_9 ⟨rfl, hS⟩
        refine ⟨_, _, hS, ?_⟩
        refine sn (thenN ?_)
        refine wpIn_seq ?_
        obtain ⟨p1, hp1⟩ : ∃ p, p = pl1 s nx rest lst (tab (l.drop (i.toNat + 1))) := ⟨_, rfl⟩
        obtain ⟨hrb1, hrb2, hrb3, hrb4, hrb5, hrb6⟩ := runs_bd (s := s) (next := nx) (rest := rest) (last := lst) (n := (l.drop (i.toNat + 1)).length + 1) (by have := hrg; simpa using this) (by omega)
        refine reg ?_
        refine qq hS (g_move _) ?_
        refine qq hS (g_move _) ?_
        refine qq hS (g_ldO 2 (vs := [.bool _, .int .i64 _, .int .u8 _]) Tryz.sizeOf60 Tryz.isAgg60 rfl rfl rfl rfl) ?_
        refine qq hS (g_ldO 1 (vs := [.bool _, .int .i64 _, .int .u8 _]) Tryz.sizeOf60 Tryz.isAgg60 rfl rfl rfl rfl) ?_
        refine qq hS (g_ldO 0 (vs := [.int .i64 _, .int .i64 _, .int .i64 _, .int .i64 _, .int .i64 _, .int .i64 _, .int .i64 _, .int .i64 _, .int .i64 _, .int .i64 _, .int .i64 _, .int .i64 _]) Tryz.sizeOf128 Tryz.isAgg128 rfl rfl rfl rfl) ?_
        refine qq hS (g_movev (v := .bool _) rfl) ?_
        refine qe (d_call Tryz.call102 rfl (runs_c s nx rest lst _ I0 hS.imm hsok ⟨hrg.c0, by have := hrg.c1; omega⟩ ⟨hrg.e0, by have := hrg.e1; omega⟩)) ?_
        rintro _ w_10 ⟨rfl, hE⟩
        replace hS := hS.callE hE
        refine qq hS (g_move _) ?_
        refine qq hS (g_extract (v := .int .i64 _) rfl rfl) ?_
        refine qq hS (g_extract (v := .int .i64 _) rfl rfl) ?_
        refine qq hS (g_nilCheck rfl) ?_
        refine qq hS (g_fieldAddr (o' := i.toNat * 12 + 10) Tryz.underlying128 rfl Tryz.sizeOf3 rfl rfl rfl) ?_
        refine qe (d_storeF 3 (c := 10) hS Tryz.sizeOf3 rfl hpre rfl rfl (vs := [.int .i64 _]) rfl rfl rfl (Nat.le_of_ble_eq_true rfl) (row' := [_, _, _, _, _, _, _, _, _, _, _, _]) rfl) ?_
        clear hS
        rintro _ w_11 ⟨rfl, hS⟩
        refine qq hS (g_nilCheck rfl) ?_
        refine qq hS (g_fieldAddr (o' := i.toNat * 12 + 11) Tryz.underlying128 rfl Tryz.sizeOf3 rfl rfl rfl) ?_
        refine qe (d_storeF 3 (c := 11) hS Tryz.sizeOf3 rfl hpre rfl rfl (vs := [.int .i64 _]) rfl rfl rfl (Nat.le_of_ble_eq_true rfl) (row' := [_, _, _, _, _, _, _, _, _, _, _, _]) rfl) ?_
        clear hS
        rintro _ w_12 ⟨rfl, hS⟩
        refine ol_nil (thenN ?_)
        refine meet (fun σ w => okS σ [(0, vl), (3, .slice (some ⟨bt, 0, none⟩) (l.length + 1) (l.length + 1)), (4, .int .i64 i), (5, .pointer (some ⟨b5, 0, none⟩)), (6, .bool lst), (7, .pointer (some ⟨b7, 0, none⟩)), (8, .pointer (some ⟨bt, i.toNat * 12, none⟩)), (9, .pointer (some ⟨b9, 0, none⟩))] ∧ St [] w0 I0 I0 w [.cel b9 128 (plC rest), .cel b7 60 (symC nx), .cel b5 60 (symC s), .cel bt 128 (pre ++ (plC p1 ++ flat plC (tab (l.drop (i.toNat + 1)))))]) ?_ ?_
        ·
          refine wpIn_seq ?_
          refine reg ?_
          refine qq hS (g_move _) ?_
          refine qq hS (g_nilCheck rfl) ?_
          refine qq hS (g_fieldAddr (o' := i.toNat * 12 + 10) Tryz.underlying128 rfl Tryz.sizeOf3 rfl rfl rfl) ?_
          refine qq hS (g_ldF1 3 (c := 10) Tryz.isAgg3 rfl hpre rfl rfl) ?_
          refine qq hS (g_gtr rfl rfl) ?_
          refine ol_nil (thenN ?_)
          refine cond_s rfl ?_ ?_
          ·
            intro hc64
            try simp only [Bool.and_eq_true, Bool.or_eq_true, Bool.not_eq_true', Bool.and_eq_false_imp, Bool.or_eq_false_iff, Bool.not_eq_false', decide_eq_true_eq, decide_eq_false_iff_not] at hc64
            obtain ⟨pk, hpk⟩ : ∃ p, (tab (l.drop (i.toNat + 1)))[(runsS s nx rest lst).1.toNat - 1]? = some p := ⟨_, List.getElem?_eq_getElem (by omega)⟩
            have hpkg := tab_good (l.drop (i.toNat + 1)) _ pk hpk
            have hp1' : p1 = tryS { Pl.zero with copyRun := (runsS s nx rest lst).1, equalRun := (runsS s nx rest lst).2 } 1 (runsS s nx rest lst).1 (pk.best.plus 4 1) := by
              rw [hp1, pl1, if_pos hc64, nthBest_eq (p := pk)]
              rw [show ((runsS s nx rest lst).1 - 1).toNat = (runsS s nx rest lst).1.toNat - 1 by omega]; exact hpk
            refine draw (.cons 0 .pure (.cons 1 .pure (.cons 2 .pure (.cons 3 .pure (.cons 4 .held (.cons 5 .pure (.cons 6 .pure (.cons 7 .pure (.cons 8 .pure (.cons 9 .pure (.cons 10 .held (.cons 11 .pure (.cons 12 .pure (.cons 13 .pure (.cons 14 .held (.cons 15 .eff (.cons 16 .bar .nil))))))))))))))))) mixed (by kernel_rfl) hS ?_
            intro w_13 hS
            refine sp rfl (g_move _) ?_
            refine sp rfl (g_move _) ?_
            refine sp rfl (g_nilCheck rfl) ?_
            refine sp rfl (g_fieldAddr (o' := i.toNat * 12 + 10) Tryz.underlying128 rfl Tryz.sizeOf3 rfl rfl rfl) ?_
            refine sh rfl (g_ldF1 3 (c := 10) Tryz.isAgg3 rfl hpre rfl rfl) ?_
            refine sp rfl (g_move _) ?_
            refine sp rfl (g_movev (v := .int .i64 _) rfl) ?_
            refine sp rfl (g_move _) ?_
            refine sp rfl (g_nilCheck rfl) ?_
            refine sp rfl (g_fieldAddr (o' := i.toNat * 12 + 10) Tryz.underlying128 rfl Tryz.sizeOf3 rfl rfl rfl) ?_
            refine sh rfl (g_ldF1 3 (c := 10) Tryz.isAgg3 rfl hpre rfl rfl) ?_
            refine sp rfl (g_add rfl rfl (by omega) (by omega)) ?_
            refine sp rfl (g_indexAddrV (o := (i.toNat + (runsS s nx rest lst).1.toNat) * 12) Tryz.underlying123 Tryz.sizeOf128 rfl rfl (by omega) (by omega) (by omega)) ?_
            refine sp rfl (g_fieldAddr (o' := (i.toNat + (runsS s nx rest lst).1.toNat) * 12) Tryz.underlying128 rfl Tryz.sizeOf126 rfl rfl rfl) ?_
            refine sh rfl (g_ldL 3 (vs := [.int .i64 pk.best.cost, .int .i64 pk.best.ops]) Tryz.sizeOf126 Tryz.isAgg126 rfl rfl (fun j v hv => post_get hpl rfl hpk (by omega) (plC_best j v hv)) rfl) ?_
            have hS0 := hS
            refine se rfl (d_call Tryz.call104 rfl (plus_c pk.best 4 1 _ I0 hS.imm (Pr.ok_mono hpkg.best (by omega)) (by omega) (by omega))) ?_
            rintro _ w_14 ⟨rfl, hE⟩
            replace hS := hS.call hE
            refine ⟨_, _, hS0.le hE.ext (List.Sublist.refl _), hS, ?_⟩
            refine sb rfl (d_call Tryz.call103 rfl (try_c bt (i.toNat * 12) _ pre _ hpre ({ Pl.zero with copyRun := (runsS s nx rest lst).1, equalRun := (runsS s nx rest lst).2 }) 1 (runsS s nx rest lst).1 (pk.best.plus 4 1) _ I0 hS.imm (own_heap (k := 3) hS rfl) (own_none (k := 3) hS rfl))) ?_
            rintro _ w_15 ⟨rfl, hE⟩
            replace hS := hS.callX (k := 3) rfl hE
            refine ⟨_, _, hS, ?_⟩
            refine sn (thenN ?_)
            subst hp1'; exact ⟨_, rfl, ⟨rfl, rfl, rfl, rfl, rfl, rfl, rfl, rfl, trivial⟩, hS.sel [true, true, true, true]⟩
          ·
            intro hc64
            try simp only [Bool.and_eq_true, Bool.or_eq_true, Bool.not_eq_true', Bool.and_eq_false_imp, Bool.or_eq_false_iff, Bool.not_eq_false', decide_eq_true_eq, decide_eq_false_iff_not] at hc64
            have hp1' : p1 = { Pl.zero with copyRun := (runsS s nx rest lst).1, equalRun := (runsS s nx rest lst).2 } := by rw [hp1, pl1, if_neg hc64]
            refine wpIn_skip ?_
            refine thenN ?_
            subst hp1'; exact ⟨_, rfl, ⟨rfl, rfl, rfl, rfl, rfl, rfl, rfl, rfl, trivial⟩, hS.sel [true, true, true, true]⟩
        ·
          rintro σ w ⟨hs, hS⟩
          have hpe0 : p1.equalRun = (runsS s nx rest lst).2 := by rw [hp1, pl1_equal]
          rw [← upds_self hs]
          refine wpIn_seq ?_
          refine wpIn_seq ?_
          refine reg ?_
          refine qq hS (g_fieldAddr (o' := 0) Tryz.underlying60 rfl Tryz.sizeOf4 rfl rfl rfl) ?_
          refine qq hS (g_ldO1 2 Tryz.isAgg4 rfl rfl rfl) ?_
          refine ol_nil (thenN ?_)
          refine cond_s rfl ?_ ?_
          ·
            intro hc83
            try simp only [Bool.and_eq_true, Bool.or_eq_true, Bool.not_eq_true', Bool.and_eq_false_imp, Bool.or_eq_false_iff, Bool.not_eq_false', decide_eq_true_eq, decide_eq_false_iff_not] at hc83
            have hob := open_bd (on := !lst && goesOn s nx) (n := (l.drop (i.toNat + 1)).length + 1) (Pr.ok_mono hrg.best (by omega)) (Pr.ok_mono hrg.diff (by omega)) hrg.d0 (by have := hrg.d1; omega)
            refine wpIn_seq ?_
            refine draw (.cons 0 .pure (.cons 1 .pure (.cons 2 .held (.cons 3 .pure (.cons 4 .held (.cons 5 .pure (.cons 6 .held (.cons 7 .pure (.cons 8 .pure (.cons 9 .pure (.cons 10 .held (.cons 11 .held (.cons 12 .eff (.cons 13 .pure (.cons 14 .eff (.cons 15 .pure (.cons 16 .pure (.cons 17 .pure (.cons 18 .pure (.cons 19 .pure (.cons 20 .bar (.cons 21 .pure (.cons 22 .pure (.cons 23 .bar .nil)))))))))))))))))))))))) mixed (by kernel_rfl) hS ?_
            intro w_16 hS
            refine sp rfl (g_move _) ?_
            refine sp rfl (g_move _) ?_
            refine sh rfl (g_ldO 0 (vs := [.int .i64 _, .int .i64 _, .int .i64 _, .int .i64 _, .int .i64 _, .int .i64 _, .int .i64 _, .int .i64 _, .int .i64 _, .int .i64 _, .int .i64 _, .int .i64 _]) Tryz.sizeOf128 Tryz.isAgg128 rfl rfl rfl rfl) ?_
            refine sp rfl (g_fieldAddr (o' := 4) Tryz.underlying128 rfl Tryz.sizeOf126 rfl rfl rfl) ?_
            refine sh rfl (g_ldO 0 (vs := [.int .i64 _, .int .i64 _]) Tryz.sizeOf126 Tryz.isAgg126 rfl rfl rfl rfl) ?_
            refine sp rfl (g_fieldAddr (o' := 6) Tryz.underlying128 rfl Tryz.sizeOf3 rfl rfl rfl) ?_
            refine sh rfl (g_ldO1 0 Tryz.isAgg3 rfl rfl rfl) ?_
            refine sp rfl (g_movev (v := .bool _) rfl) ?_
            refine sp rfl (g_not rfl) ?_
            refine sp rfl (g_movev (v := .bool _) rfl) ?_
            refine shu rfl rfl rfl (fun hg => (g_ldO 2 (vs := [.bool _, .int .i64 _, .int .u8 _]) Tryz.sizeOf60 Tryz.isAgg60 rfl rfl rfl rfl)) ?_
            intro u95 hu95 hn95
            refine shu rfl rfl rfl (fun hg => (g_ldO 1 (vs := [.bool _, .int .i64 _, .int .u8 _]) Tryz.sizeOf60 Tryz.isAgg60 rfl rfl rfl rfl)) ?_
            intro u96 hu96 hn96
            refine scu rfl rfl rfl hS (fun hg => (d_call Tryz.call106 (ml (hu95 hg) (ml (hu96 hg) ml0)) (goesOn_c s nx _ I0 hS.imm hsok))) ?_
            intro w_18 u97 hS hu97 hn97
            refine sp rfl (g_and rfl rfl (fun hq => hu97 hq)) ?_
            have hS0 := hS
            refine se rfl (d_call Tryz.call105 rfl (open_c rest rest.diff rest.diffLen (!lst && goesOn s nx) _ I0 hS.imm (Pr.ok_mono hrg.best (by omega)) (Pr.ok_mono hrg.diff (by omega)) ⟨hrg.d0, by have := hrg.d1; omega⟩)) ?_
            rintro _ w_19 ⟨rfl, hE⟩
            replace hS := hS.call hE
            refine ⟨_, _, hS0.le hE.ext (List.Sublist.refl _), hS, ?_⟩
            refine sp rfl (g_move _) ?_
            refine sp rfl (g_extract rfl rfl) ?_
            refine sp rfl (g_extract (v := .int .i64 _) rfl rfl) ?_
            refine sp rfl (g_nilCheck rfl) ?_
            refine sp rfl (g_fieldAddr (o' := i.toNat * 12 + 4) Tryz.underlying128 rfl Tryz.sizeOf126 rfl rfl rfl) ?_
            refine sb rfl (d_storeF 3 (c := 4) hS Tryz.sizeOf126 rfl hpre rfl rfl (vs := [.int .i64 _, .int .i64 _]) rfl rfl rfl (Nat.le_of_ble_eq_true rfl) (row' := [_, _, _, _, _, _, _, _, _, _, _, _]) rfl) ?_
            rintro _ w_20 ⟨rfl, hS⟩
            refine ⟨_, _, hS, ?_⟩
            refine sp rfl (g_nilCheck rfl) ?_
            refine sp rfl (g_fieldAddr (o' := i.toNat * 12 + 6) Tryz.underlying128 rfl Tryz.sizeOf3 rfl rfl rfl) ?_
            refine sb rfl (d_storeF 3 (c := 6) hS Tryz.sizeOf3 rfl hpre rfl rfl (vs := [.int .i64 _]) rfl rfl rfl (Nat.le_of_ble_eq_true rfl) (row' := [_, _, _, _, _, _, _, _, _, _, _, _]) rfl) ?_
            rintro _ w_21 ⟨rfl, hS⟩
            refine ⟨_, _, hS, ?_⟩
            refine sn (thenN ?_)
            refine wpIn_seq ?_
            refine draw (.cons 0 .pure (.cons 1 .pure (.cons 2 .pure (.cons 3 .pure (.cons 4 .held (.cons 5 .pure (.cons 6 .pure (.cons 7 .pure (.cons 8 .held (.cons 9 .eff (.cons 10 .bar .nil))))))))))) mixed (by kernel_rfl) hS ?_
            intro w_22 hS
            refine sp rfl (g_move _) ?_
            refine sp rfl (g_move _) ?_
            refine sp rfl (g_nilCheck rfl) ?_
            refine sp rfl (g_fieldAddr (o' := i.toNat * 12 + 6) Tryz.underlying128 rfl Tryz.sizeOf3 rfl rfl rfl) ?_
            refine sh rfl (g_ldF1 3 (c := 6) Tryz.isAgg3 rfl hpre rfl rfl) ?_
            refine sp rfl (g_move _) ?_
            refine sp rfl (g_nilCheck rfl) ?_
            refine sp rfl (g_fieldAddr (o' := i.toNat * 12 + 4) Tryz.underlying128 rfl Tryz.sizeOf126 rfl rfl rfl) ?_
            refine sh rfl (g_ldF 3 (c := 4) (vs := [.int .i64 _, .int .i64 _]) Tryz.sizeOf126 Tryz.isAgg126 rfl hpre rfl rfl rfl) ?_
            have hS0 := hS
            refine se rfl (d_call Tryz.call104 rfl (plus_c (openS rest rest.diff rest.diffLen (!lst && goesOn s nx)).1 4 1 _ I0 hS.imm (Pr.ok_mono hob.1 (by omega)) (by omega) (by omega))) ?_
            rintro _ w_23 ⟨rfl, hE⟩
            replace hS := hS.call hE
            refine ⟨_, _, hS0.le hE.ext (List.Sublist.refl _), hS, ?_⟩
            refine sb rfl (d_call Tryz.call103 rfl (try_c bt (i.toNat * 12) _ pre _ hpre ({ p1 with diff := (openS rest rest.diff rest.diffLen (!lst && goesOn s nx)).1, diffLen := (openS rest rest.diff rest.diffLen (!lst && goesOn s nx)).2 }) 2 (openS rest rest.diff rest.diffLen (!lst && goesOn s nx)).2 ((openS rest rest.diff rest.diffLen (!lst && goesOn s nx)).1.plus 4 1) _ I0 hS.imm (own_heap (k := 3) hS rfl) (own_none (k := 3) hS rfl))) ?_
            rintro _ w_24 ⟨rfl, hE⟩
            replace hS := hS.callX (k := 3) rfl hE
            refine ⟨_, _, hS, ?_⟩
            refine sn (thenN ?_)
            refine wpIn_exit ?_
            refine thenE (blkE ?_)
            refine thenN ?_
            refine reg ?_
            refine qq hS (g_movev (v := .int .i64 _) rfl) ?_
            refine qq hS (g_sub rfl rfl (by omega) (by omega)) ?_
            refine qq hS (g_assignv (v := .int .i64 _) rfl) ?_
            refine ol_nil (thenN ?_)
            refine ⟨i - 1, _, rfl, ⟨⟨rfl, rfl, rfl, trivial⟩, ?_, by omega, by omega⟩, by omega⟩
            rw [show (i - 1 + 1).toNat = i.toNat by omega, ← unfocus hsi (p := mkPl s nx lst (tab (l.drop (i.toNat + 1)))) (by rw [hnx, hle]), ← hpreq]
            first
              | rw [mkPl_t hc83 hrh hp1]; exact hS.sel [false, false, false, true]
              | rw [mkPl_f hc83 hrh hp1 hp2']; exact hS.sel [false, false, false, true]
          ·
            intro hc83
            try simp only [Bool.and_eq_true, Bool.or_eq_true, Bool.not_eq_true', Bool.and_eq_false_imp, Bool.or_eq_false_iff, Bool.not_eq_false', decide_eq_true_eq, decide_eq_false_iff_not] at hc83
            have hob := open_bd (on := !lst && !nx.old) (n := (l.drop (i.toNat + 1)).length + 1) (Pr.ok_mono hrg.best (by omega)) (Pr.ok_mono hrg.lit (by omega)) hrg.l0 (by have := hrg.l1; omega)
            have hpe1 := hrb5 hc83
            obtain ⟨pe, hpe⟩ : ∃ p, (tab (l.drop (i.toNat + 1)))[p1.equalRun.toNat - 1]? = some p := ⟨_, List.getElem?_eq_getElem (by omega)⟩
            have hpeg := tab_good (l.drop (i.toNat + 1)) _ pe hpe
            obtain ⟨p2, hp2⟩ : ∃ p, p = tryS p1 3 p1.equalRun (pe.best.plus 4 1) := ⟨_, rfl⟩
            have hp2' : p2 = tryS p1 3 p1.equalRun ((nthBest (tab (l.drop (i.toNat + 1))) p1.equalRun).plus 4 1) := by
              rw [hp2, nthBest_eq (p := pe)]
              rw [show (p1.equalRun - 1).toNat = p1.equalRun.toNat - 1 by omega]; exact hpe
            refine wpIn_skip ?_
            refine thenN ?_
            refine wpIn_seq ?_
            refine draw (.cons 0 .pure (.cons 1 .pure (.cons 2 .pure (.cons 3 .pure (.cons 4 .held (.cons 5 .pure (.cons 6 .pure (.cons 7 .pure (.cons 8 .pure (.cons 9 .pure (.cons 10 .held (.cons 11 .pure (.cons 12 .pure (.cons 13 .pure (.cons 14 .held (.cons 15 .eff (.cons 16 .bar .nil))))))))))))))))) mixed (by kernel_rfl) hS ?_
            intro w_25 hS
            refine sp rfl (g_move _) ?_
            refine sp rfl (g_move _) ?_
            refine sp rfl (g_nilCheck rfl) ?_
            refine sp rfl (g_fieldAddr (o' := i.toNat * 12 + 11) Tryz.underlying128 rfl Tryz.sizeOf3 rfl rfl rfl) ?_
            refine sh rfl (g_ldF1 3 (c := 11) Tryz.isAgg3 rfl hpre rfl rfl) ?_
            refine sp rfl (g_move _) ?_
            refine sp rfl (g_movev (v := .int .i64 _) rfl) ?_
            refine sp rfl (g_move _) ?_
            refine sp rfl (g_nilCheck rfl) ?_
            refine sp rfl (g_fieldAddr (o' := i.toNat * 12 + 11) Tryz.underlying128 rfl Tryz.sizeOf3 rfl rfl rfl) ?_
            refine sh rfl (g_ldF1 3 (c := 11) Tryz.isAgg3 rfl hpre rfl rfl) ?_
            refine sp rfl (g_add rfl rfl (by omega) (by omega)) ?_
            refine sp rfl (g_indexAddrV (o := (i.toNat + p1.equalRun.toNat) * 12) Tryz.underlying123 Tryz.sizeOf128 rfl rfl (by omega) (by omega) (by omega)) ?_
            refine sp rfl (g_fieldAddr (o' := (i.toNat + p1.equalRun.toNat) * 12) Tryz.underlying128 rfl Tryz.sizeOf126 rfl rfl rfl) ?_
            refine sh rfl (g_ldL 3 (vs := [.int .i64 pe.best.cost, .int .i64 pe.best.ops]) Tryz.sizeOf126 Tryz.isAgg126 rfl rfl (fun j v hv => post_get hpl rfl hpe (by omega) (plC_best j v hv)) rfl) ?_
            have hS0 := hS
            refine se rfl (d_call Tryz.call104 rfl (plus_c pe.best 4 1 _ I0 hS.imm (Pr.ok_mono hpeg.best (by omega)) (by omega) (by omega))) ?_
            rintro _ w_26 ⟨rfl, hE⟩
            replace hS := hS.call hE
            refine ⟨_, _, hS0.le hE.ext (List.Sublist.refl _), hS, ?_⟩
            refine sb rfl (d_call Tryz.call103 rfl (try_c bt (i.toNat * 12) _ pre _ hpre (p1) 3 p1.equalRun (pe.best.plus 4 1) _ I0 hS.imm (own_heap (k := 3) hS rfl) (own_none (k := 3) hS rfl))) ?_
            rintro _ w_27 ⟨rfl, hE⟩
            replace hS := hS.callX (k := 3) rfl hE
            refine ⟨_, _, hS, ?_⟩
            refine sn (thenN ?_)
            refine wpIn_seq ?_
            rw [← hp2] at hS
            refine reg ?_
            refine qq hS (g_move _) ?_
            refine qq hS (g_move _) ?_
            refine qq hS (g_ldO 0 (vs := [.int .i64 _, .int .i64 _, .int .i64 _, .int .i64 _, .int .i64 _, .int .i64 _, .int .i64 _, .int .i64 _, .int .i64 _, .int .i64 _, .int .i64 _, .int .i64 _]) Tryz.sizeOf128 Tryz.isAgg128 rfl rfl rfl rfl) ?_
            refine qq hS (g_fieldAddr (o' := 7) Tryz.underlying128 rfl Tryz.sizeOf126 rfl rfl rfl) ?_
            refine qq hS (g_ldO 0 (vs := [.int .i64 _, .int .i64 _]) Tryz.sizeOf126 Tryz.isAgg126 rfl rfl rfl rfl) ?_
            refine qq hS (g_fieldAddr (o' := 9) Tryz.underlying128 rfl Tryz.sizeOf3 rfl rfl rfl) ?_
            refine qq hS (g_ldO1 0 Tryz.isAgg3 rfl rfl rfl) ?_
            refine qq hS (g_movev (v := .bool _) rfl) ?_
            refine qq hS (g_not rfl) ?_
            refine qq hS (g_movev (v := .bool _) rfl) ?_
            refine qu rfl rfl hS (fun hg => (g_fieldAddr (o' := 0) Tryz.underlying60 rfl Tryz.sizeOf4 rfl rfl rfl)) ?_
            intro u145 hu145 hn145
            refine qu rfl rfl hS (fun hg => (g_ldO1 1 Tryz.isAgg4 rfl (hu145 hg) rfl)) ?_
            intro u146 hu146 hn146
            refine qu rfl rfl hS (fun hg => (g_not (hu146 hg))) ?_
            intro u147 hu147 hn147
            refine qq hS (g_and rfl rfl (fun hq => hu147 hq)) ?_
            refine qe (d_call Tryz.call105 rfl (open_c rest rest.lit rest.litLen (!lst && !nx.old) _ I0 hS.imm (Pr.ok_mono hrg.best (by omega)) (Pr.ok_mono hrg.lit (by omega)) ⟨hrg.l0, by have := hrg.l1; omega⟩)) ?_
            rintro _ w_28 ⟨rfl, hE⟩
            replace hS := hS.callE hE
            refine qq hS (g_move _) ?_
            refine qq hS (g_extract rfl rfl) ?_
            refine qq hS (g_extract (v := .int .i64 _) rfl rfl) ?_
            refine qq hS (g_nilCheck rfl) ?_
            refine qq hS (g_fieldAddr (o' := i.toNat * 12 + 7) Tryz.underlying128 rfl Tryz.sizeOf126 rfl rfl rfl) ?_
            refine qe (d_storeF 3 (c := 7) hS Tryz.sizeOf126 rfl hpre rfl rfl (vs := [.int .i64 _, .int .i64 _]) rfl rfl rfl (Nat.le_of_ble_eq_true rfl) (row' := [_, _, _, _, _, _, _, _, _, _, _, _]) rfl) ?_
            clear hS
            rintro _ w_29 ⟨rfl, hS⟩
            refine qq hS (g_nilCheck rfl) ?_
            refine qq hS (g_fieldAddr (o' := i.toNat * 12 + 9) Tryz.underlying128 rfl Tryz.sizeOf3 rfl rfl rfl) ?_
            refine qe (d_storeF 3 (c := 9) hS Tryz.sizeOf3 rfl hpre rfl rfl (vs := [.int .i64 _]) rfl rfl rfl (Nat.le_of_ble_eq_true rfl) (row' := [_, _, _, _, _, _, _, _, _, _, _, _]) rfl) ?_
            clear hS
            rintro _ w_30 ⟨rfl, hS⟩
            refine ol_nil (thenN ?_)
            refine draw (.cons 0 .pure (.cons 1 .pure (.cons 2 .pure (.cons 3 .pure (.cons 4 .held (.cons 5 .pure (.cons 6 .pure (.cons 7 .pure (.cons 8 .held (.cons 9 .eff (.cons 10 .bar .nil))))))))))) mixed (by kernel_rfl) hS ?_
            intro w_31 hS
            refine sp rfl (g_move _) ?_
            refine sp rfl (g_move _) ?_
            refine sp rfl (g_nilCheck rfl) ?_
            refine sp rfl (g_fieldAddr (o' := i.toNat * 12 + 9) Tryz.underlying128 rfl Tryz.sizeOf3 rfl rfl rfl) ?_
            refine sh rfl (g_ldF1 3 (c := 9) Tryz.isAgg3 rfl hpre rfl rfl) ?_
            refine sp rfl (g_move _) ?_
            refine sp rfl (g_nilCheck rfl) ?_
            refine sp rfl (g_fieldAddr (o' := i.toNat * 12 + 7) Tryz.underlying128 rfl Tryz.sizeOf126 rfl rfl rfl) ?_
            refine sh rfl (g_ldF 3 (c := 7) (vs := [.int .i64 _, .int .i64 _]) Tryz.sizeOf126 Tryz.isAgg126 rfl hpre rfl rfl rfl) ?_
            have hS0 := hS
            refine se rfl (d_call Tryz.call104 rfl (plus_c (openS rest rest.lit rest.litLen (!lst && !nx.old)).1 2 1 _ I0 hS.imm (Pr.ok_mono hob.1 (by omega)) (by omega) (by omega))) ?_
            rintro _ w_32 ⟨rfl, hE⟩
            replace hS := hS.call hE
            refine ⟨_, _, hS0.le hE.ext (List.Sublist.refl _), hS, ?_⟩
            refine sb rfl (d_call Tryz.call103 rfl (try_c bt (i.toNat * 12) _ pre _ hpre ({ p2 with lit := (openS rest rest.lit rest.litLen (!lst && !nx.old)).1, litLen := (openS rest rest.lit rest.litLen (!lst && !nx.old)).2 }) 4 (openS rest rest.lit rest.litLen (!lst && !nx.old)).2 ((openS rest rest.lit rest.litLen (!lst && !nx.old)).1.plus 2 1) _ I0 hS.imm (own_heap (k := 3) hS rfl) (own_none (k := 3) hS rfl))) ?_
            rintro _ w_33 ⟨rfl, hE⟩
            replace hS := hS.callX (k := 3) rfl hE
            refine ⟨_, _, hS, ?_⟩
            refine sn (blkN (thenN ?_))
            refine reg ?_
            refine qq hS (g_movev (v := .int .i64 _) rfl) ?_
            refine qq hS (g_sub rfl rfl (by omega) (by omega)) ?_
            refine qq hS (g_assignv (v := .int .i64 _) rfl) ?_
            refine ol_nil (thenN ?_)
            refine ⟨i - 1, _, rfl, ⟨⟨rfl, rfl, rfl, trivial⟩, ?_, by omega, by omega⟩, by omega⟩
            rw [show (i - 1 + 1).toNat = i.toNat by omega, ← unfocus hsi (p := mkPl s nx lst (tab (l.drop (i.toNat + 1)))) (by rw [hnx, hle]), ← hpreq]
            first
              | rw [mkPl_t hc83 hrh hp1]; exact hS.sel [false, false, false, true]
              | rw [mkPl_f hc83 hrh hp1 hp2']; exact hS.sel [false, false, false, true]
    ·
      intro hc18
      try simp only [Bool.and_eq_true, Bool.or_eq_true, Bool.not_eq_true', Bool.and_eq_false_imp, Bool.or_eq_false_iff, Bool.not_eq_false', decide_eq_true_eq, decide_eq_false_iff_not] at hc18
      have hi : i = -1 := by omega
      subst hi
      refine wpIn_exit ?_
      refine thenE (thenE (blkE ?_))
      refine thenN ?_
      refine wpIn_seq ?_
      refine reg ?_
      refine qq hS (g_move _) ?_
      refine qq hS (g_assign _) ?_
      refine ol_nil (thenN ?_)
      refine wpIn_ret ?_
      refine ret1 Tryz.results74 (rv_tmp rfl) ?_
      refine ⟨bt, rfl, ?_⟩
      simp at hS
      exact hS.sel [true]

end Go.Proofs.YtlhehhhpaebpoaaGreat

