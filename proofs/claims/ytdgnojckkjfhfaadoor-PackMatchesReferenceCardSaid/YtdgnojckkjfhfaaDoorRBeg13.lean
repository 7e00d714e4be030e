/- inlayref13: all tables of a model, a byte added to a code. Conditions: numbers within bounds. -/
import Derived.Test.YtdgnojckkjfhfaaDoorRTab13
namespace Go.Proofs.YtdgnojckkjfhfaaDoor
open Go Go.RowKit Go.Inl
set_option linter.unusedSimpArgs false
set_option linter.unusedVariables false
structure CryW where
  j : Nat
  l : List Int

set_option maxRecDepth 20000 in
set_option maxHeartbeats 1000000 in
theorem beginr_c (m : Int) (w0 : World) (I0 : Imm) (hI : Sat I0 w0) :
    Ctr Tryd.prog 42 [.int .i64 m] w0 (fun v w' => ∃ I' b ps, v = .pointer (some ⟨b, 0, none⟩) ∧ Ext w0 I0 w' I' ∧ HT I' b m (fun _ => adOne) 0 ps ∧ ∀ c ∈ b :: ps, w0.heap.size ≤ c) := by
  refine fn (n := 19) Tryd.func42 rfl rfl rfl ?_
  have hS := St.start hI
  refine wpIn_seq ?_
  refine reg ?_
  refine qq hS (g_assign _) ?_
  refine ol_nil (thenN ?_)
  refine wpIn_seq ?_
  refine reg ?_
  refine qq hS (g_movev (v := .int .i64 _) rfl) ?_
  refine qq hS (g_buildv (pl := [(0, 1), (1, 256), (257, 1)]) (cs := tbC m (psU []) 0) Tryd.zeroValue147 Tryd.underlying147 (fun w => by simp [Tryd.sizeOf3, Tryd.sizeOf145, Tryd.sizeOf5]) (mp (v := .int .i64 m) rfl mp0) (by kernel_rfl)) ?_
  refine qe (d_box (cs := tbC m (psU []) 0) hS rfl) ?_
  clear hS
  rintro _ w_1 ⟨b0, rfl, hS⟩
  refine qq hS (g_assign _) ?_
  refine ol_nil (thenN ?_)
  refine wpIn_seq ?_
  refine wpIn_seq ?_
  refine reg ?_
  refine qq hS (g_assignv (v := .int .i64 _) rfl) ?_
  refine ol_nil (thenN ?_)
  refine wpIn_block ?_
  refine loop (fun (l : List Nat) σ w => okS σ [(3, .pointer (some ⟨b0, 0, none⟩)), (4, .int .i64 l.length)] ∧ ∃ I, St [] w0 I0 I w [.cel b0 147 (tbC m (psU l) 0)] ∧ l.length ≤ 256 ∧ (∀ c ∈ l, RT I c adOne ∧ w0.heap.size ≤ c) ∧ l.Nodup) (fun l => 256 - l.length) ([]) ?_ ?_
  ·
    exact ⟨⟨rfl, rfl, trivial⟩, _, hS.sel [true], Nat.zero_le _, (fun c hc => by cases hc), List.nodup_nil⟩
  ·
    rintro l σ w_l ⟨hs, I, hS, hl0, hl1, hl2⟩
    rw [← upds_self hs]; clear hs
    refine wpIn_seq ?_
    refine wpIn_seq ?_
    refine reg ?_
    refine qq hS (g_movev (v := .int .i64 _) rfl) ?_
    refine qq hS (g_lss rfl rfl) ?_
    refine ol_nil (thenN ?_)
    refine cond_s rfl ?_ ?_
    ·
      intro hc9
      try simp only [Bool.and_eq_true, Bool.or_eq_true, Bool.not_eq_true', Bool.and_eq_false_imp, Bool.or_eq_false_iff, Bool.not_eq_false', decide_eq_true_eq, decide_eq_false_iff_not] at hc9
      refine wpIn_skip ?_
      refine thenN ?_
      refine wpIn_seq ?_
      refine wpIn_block ?_
      refine draw (.cons 0 .pure (.cons 1 .pure (.cons 3 .pure (.cons 4 .pure (.cons 2 .eff (.cons 5 .pure (.cons 6 .bar .nil))))))) mixed (by kernel_rfl) hS ?_
      intro w_2 hS
      refine sp rfl (g_move _) ?_
      refine sp rfl (g_movev (v := .int .i64 _) rfl) ?_
      refine sp rfl (g_nilCheck rfl) ?_
      refine sp rfl (g_fieldAddr (o' := 1) Tryd.underlying147 rfl Tryd.sizeOf145 rfl rfl rfl) ?_
      have hS0 := hS
      refine se rfl (d_call Tryd.call61 rfl (fresh_c _ _ hS.imm)) ?_
      rintro _ w_3 ⟨nb, rfl, hE⟩
      replace hS := hS.call hE
      refine ⟨_, _, hS0.le hE.ext (List.sublist_append_right _ _), hS, ?_⟩
      refine sp rfl (g_indexArr (o' := 1 + l.length) Tryd.underlying145 Tryd.sizeOf100 rfl rfl (by omega) (by omega) (by omega)) ?_
      refine sb rfl (d_setCel (v := ptrO (some nb)) 1 hS Tryd.sizeOf100 rfl (by rw [tbC_len, psU_len (by omega)]; omega) rfl rfl rfl rfl) ?_
      rintro _ w_4 ⟨rfl, hS⟩
      refine ⟨_, _, hS, ?_⟩
      rw [tbC_set (by rw [psU_len (by omega)]; omega), psU_set (by omega)] at hS
      refine sn (blkN (thenN ?_))
      refine reg ?_
      refine qq hS (g_movev (v := .int .i64 _) rfl) ?_
      refine qq hS (g_add rfl rfl (by omega) (by omega)) ?_
      refine qq hS (g_assignv (v := .int .i64 _) rfl) ?_
      have hnn := (hS.new _ (List.mem_cons_self ..) nb (by simp [Res.foot]))
      have hnz : w0.heap.size ≤ nb := hnn.2.elim id fun h => by simp at h
      obtain ⟨I1, hS1, hs1, hb1⟩ := St.freezeB hS
      refine ⟨l ++ [nb], _, rfl, ⟨⟨rfl, ?_, trivial⟩, I1, hS1, ?_, fun c hc => ?_, ?_⟩, ?_⟩
      · exact congrArg (Value.int .i64) (by rw [List.length_append]; rfl)
      · rw [List.length_append]; simp; omega
      · rcases List.mem_append.1 hc with hc | hc
        · exact ⟨(hl1 c hc).1.mono hs1, (hl1 c hc).2⟩
        · obtain rfl := List.mem_singleton.1 hc
          exact ⟨⟨hb1⟩, hnz⟩
      · rw [List.nodup_append]
        refine ⟨hl2, by simp, fun a ha c hc e => ?_⟩
        obtain rfl := List.mem_singleton.1 hc
        subst e
        have h1 := (hl1 a ha).1.hold
        rw [hnn.1] at h1; cases h1
      · rw [List.length_append]; simp; omega
    ·
      intro hc9
      try simp only [Bool.and_eq_true, Bool.or_eq_true, Bool.not_eq_true', Bool.and_eq_false_imp, Bool.or_eq_false_iff, Bool.not_eq_false', decide_eq_true_eq, decide_eq_false_iff_not] at hc9
      have hl256 : l.length = 256 := by omega
      rw [psU_all hl256] at hS
      refine wpIn_exit ?_
      refine thenE (thenE (blkE ?_))
      refine thenN ?_
      refine wpIn_seq ?_
      refine reg ?_
      refine qq hS (g_move _) ?_
      refine qq hS (g_assign _) ?_
      refine ol_nil (thenN ?_)
      refine wpIn_ret ?_
      refine ret1 Tryd.results42 (rv_tmp rfl) ?_
      have hnn := (hS.new _ (List.mem_cons_self ..) b0 (by simp [Res.foot]))
      have hnz : w0.heap.size ≤ b0 := hnn.2.elim id fun h => by simp at h
      obtain ⟨I1, hS1, hs1, hb1⟩ := St.freezeB hS
      refine ⟨I1, b0, l, rfl, hS1.nil, ⟨hl256, hb1, fun k c hc => (hl1 c (List.mem_of_getElem? hc)).1.mono hs1, fun k k' c hk hk' => ?_⟩, fun c hc => ?_⟩
      · have h1 := (List.getElem?_eq_some_iff.1 hk)
        have h2 := (List.getElem?_eq_some_iff.1 hk')
        exact (List.getElem_inj hl2).1 (h1.2.trans h2.2.symm)
      · rcases List.mem_cons.1 hc with rfl | hc
        · exact hnz
        · exact (hl1 c hc).2

set_option maxHeartbeats 1000000 in
theorem nowr_c {b : Nat} {m : Int} {T : Int → Ad} {last : Int} {ps : List Nat} (hm : m = 1 ∨ m = 2) (hla : 0 ≤ last ∧ last ≤ 255) (w0 : World) (I0 : Imm) (hI : Sat I0 w0) (h : HT I0 b m T last ps) :
    Ctr Tryd.prog 44 [.pointer (some ⟨b, 0, none⟩)] w0 (fun v w' => ∃ c, v = .pointer (some ⟨c, 0, none⟩) ∧ ps[ixR m last]? = some c ∧ Ext w0 I0 w' I0) := by
  have hl := h.len
  have hlm : (ps.map some).length = 256 := by rw [List.length_map]; exact hl
  have hat := atCell h.box
  obtain ⟨c, hc⟩ : ∃ c, ps[ixR m last]? = some c := ⟨_, List.getElem?_eq_getElem (by unfold ixR; split <;> omega)⟩
  have hcm : (ps.map some)[ixR m last]? = some (some c) := by rw [List.getElem?_map, hc]; rfl
  have hca := tbC_at (m := m) (last := last) hcm
  refine fn (n := 22) Tryd.func44 rfl rfl rfl ?_
  have hS := St.start hI
  refine wpIn_seq ?_
  refine reg ?_
  refine qq hS (g_assign _) ?_
  refine ol_nil (thenN ?_)
  refine wpIn_seq ?_
  refine wpIn_seq ?_
  refine reg ?_
  refine qq hS (g_move _) ?_
  refine qq hS (g_nilCheck rfl) ?_
  refine qq hS (g_fieldAddr (o' := 0) Tryd.underlying147 rfl Tryd.sizeOf3 rfl rfl rfl) ?_
  refine qq hS (g_ldA1 Tryd.isAgg3 hat rfl rfl) ?_
  refine qq hS (g_eql rfl rfl) ?_
  refine ol_nil (thenN ?_)
  refine cond_s rfl ?_ ?_
  ·
    intro hc7
    try simp only [Bool.and_eq_true, Bool.or_eq_true, Bool.not_eq_true', Bool.and_eq_false_imp, Bool.or_eq_false_iff, Bool.not_eq_false', decide_eq_true_eq, decide_eq_false_iff_not] at hc7
    have hca2 : (tbC m (ps.map some) last)[1 + last.toNat]? = some (ptrO (some c)) := by rw [show ixR m last = last.toNat from if_pos hc7] at hca; exact hca
    refine wpIn_seq ?_
    refine draw (.cons 0 .pure (.cons 1 .pure (.cons 2 .pure (.cons 3 .pure (.cons 4 .held (.cons 5 .pure (.cons 6 .pure (.cons 7 .pure (.cons 8 .held (.cons 9 .pure .nil)))))))))) mixed (by kernel_rfl) hS ?_
    intro w_1 hS
    refine sp rfl (g_move _) ?_
    refine sp rfl (g_move _) ?_
    refine sp rfl (g_nilCheck rfl) ?_
    refine sp rfl (g_fieldAddr (o' := 257) Tryd.underlying147 rfl Tryd.sizeOf5 rfl rfl rfl) ?_
    refine sh rfl (g_ldA1 Tryd.isAgg5 hat rfl (tbC_l hlm)) ?_
    refine sp rfl (g_nilCheck rfl) ?_
    refine sp rfl (g_fieldAddr (o' := 1) Tryd.underlying147 rfl Tryd.sizeOf145 rfl rfl rfl) ?_
    refine sp rfl (g_indexArr (o' := 1 + last.toNat) Tryd.underlying145 Tryd.sizeOf100 rfl rfl (by omega) (by omega) (by omega)) ?_
    refine sh rfl (g_ldA1 Tryd.isAgg100 hat rfl hca2) ?_
    refine sp rfl (g_assign _) ?_
    refine sn (thenN ?_)
    refine wpIn_ret ?_
    refine thenR ?_
    refine ret1 Tryd.results44 (rv_tmp rfl) ?_
    exact ⟨c, rfl, hc, hS.nil⟩
  ·
    intro hc7
    try simp only [Bool.and_eq_true, Bool.or_eq_true, Bool.not_eq_true', Bool.and_eq_false_imp, Bool.or_eq_false_iff, Bool.not_eq_false', decide_eq_true_eq, decide_eq_false_iff_not] at hc7
    have hca2 : (tbC m (ps.map some) last)[1]? = some (ptrO (some c)) := by rw [show ixR m last = 0 from if_neg hc7] at hca; exact hca
    refine wpIn_skip ?_
    refine thenN ?_
    refine wpIn_seq ?_
    refine reg ?_
    refine qq hS (g_move _) ?_
    refine qq hS (g_nilCheck rfl) ?_
    refine qq hS (g_fieldAddr (o' := 1) Tryd.underlying147 rfl Tryd.sizeOf145 rfl rfl rfl) ?_
    refine qq hS (g_indexArr (o' := 1) Tryd.underlying145 Tryd.sizeOf100 rfl rfl (by omega) (by omega) (by omega)) ?_
    refine qq hS (g_ldA1 Tryd.isAgg100 hat rfl hca2) ?_
    refine qq hS (g_assign _) ?_
    refine ol_nil (thenN ?_)
    refine wpIn_ret ?_
    refine ret1 Tryd.results44 (rv_tmp rfl) ?_
    exact ⟨c, rfl, hc, hS.nil⟩

set_option maxHeartbeats 1000000 in
theorem sawt_c {b : Nat} {m : Int} {T : Int → Ad} {last : Int} {ps : List Nat} (x : Nat) (y : Int) (hy : y = x) (hx : x < 256) (hm : m = 1 ∨ m = 2) (hla : 0 ≤ last ∧ last ≤ 255) (hA : AdOk (T (ixR m last))) (w0 : World) (I0 : Imm) (hI : Sat I0 w0) (h : HT I0 b m T last ps) :
    Ctr Tryd.prog 45 [.pointer (some ⟨b, 0, none⟩), .int .u8 y] w0 (fun v w' => ∃ I', v = .tuple #[] ∧ Chg (b :: ps) w0 I0 w' I' ∧ HT I' b m (fun k => if k = ixR m last then sawA (T (ixR m last)) x else T k) x ps) := by
  subst hy
  have hl := h.len
  have hlm : (ps.map some).length = 256 := by rw [List.length_map]; exact hl
  have hat := atCell h.box
  refine fn (n := 17) Tryd.func45 rfl rfl rfl ?_
  have hS := St.start hI
  refine wpIn_seq ?_
  refine wpIn_seq ?_
  refine reg ?_
  refine qq hS (g_move _) ?_
  refine qq hS (g_nilCheck rfl) ?_
  refine qq hS (g_fieldAddr (o' := 0) Tryd.underlying147 rfl Tryd.sizeOf3 rfl rfl rfl) ?_
  refine qq hS (g_ldA1 Tryd.isAgg3 hat rfl rfl) ?_
  refine qq hS (g_gtr rfl rfl) ?_
  refine ol_nil (thenN ?_)
  refine cond_t (congrArg Value.bool (decide_eq_true (by omega))) ?_
  refine reg ?_
  refine qq hS (g_move _) ?_
  refine qe (d_call Tryd.call44 rfl (nowr_c hm hla _ _ hS.imm h)) ?_
  rintro _ w_1 ⟨c, rfl, hc, hE⟩
  have hC := Chg.ofExt hE
  replace hS := St.start hE.imm
  refine qq hS (g_movev (v := .int .u8 _) rfl) ?_
  refine qe (d_call Tryd.call63 rfl (sawr_c c (T (ixR m last)) x hx hA _ _ (sat_out hS.imm c) (hS.imm c _ (h.tab _ _ hc).hold) (if_pos rfl))) ?_
  rintro _ w_2 ⟨rfl, hE2⟩
  have hC2 := Chg.ofOwn hS.imm (sat_lt hS.imm (h.tab _ _ hc).hold) hE2
  have hH2 := h.setTab hc (sawA (T (ixR m last)) x)
  have hC3 := (hC.wide (F' := b :: ps) (fun d hd => by cases hd)).trans hC2 (fun d hd => by rw [List.mem_singleton] at hd; subst hd; exact .inl (List.mem_cons_of_mem _ (List.mem_of_getElem? hc)))
  replace hS := St.startX (sat_out hC2.imm b) (hC2.imm b _ hH2.box) (if_pos rfl)
  refine ol_nil (thenN ?_)
  refine reg ?_
  refine qq hS (g_move _) ?_
  refine qq hS (g_movev (v := .int .u8 _) rfl) ?_
  refine qq hS (g_nilCheck rfl) ?_
  refine qq hS (g_fieldAddr (o' := 257) Tryd.underlying147 rfl Tryd.sizeOf5 rfl rfl rfl) ?_
  refine qe (d_setCel (v := .int .u8 x) 0 hS Tryd.sizeOf5 rfl (by rw [tbC_len]; omega) rfl rfl rfl rfl) ?_
  clear hS
  rintro _ w_3 ⟨rfl, hS⟩
  rw [tbC_last hlm] at hS
  refine ol_nil ?_
  refine end0 Tryd.results45  ?_
  have hC4 := Chg.ofOwn hC2.imm (sat_lt hC2.imm hH2.box) hS
  exact ⟨_, rfl, hC3.trans hC4 (fun d hd => by rw [List.mem_singleton] at hd; subst hd; exact .inl (List.mem_cons_self ..)), hH2.setLast x⟩

set_option maxHeartbeats 1000000 in
theorem carryr_c (ob : Nat) (lo si : Int) (ao : Option Addr) (a0 : Nat) (l : List Int) (hlb : Byt l) (hll : l.length ≤ 1000000) (XX : List Nat) (w0 : World) (I0 : Imm) (hS0 : St XX w0 I0 I0 w0 [.row (.slice ao l.length a0) 5 1 l.length (flat byteC l), .cel ob 98 [.int .i64 lo, .int .i64 si, .slice ao l.length a0]]) :
    Ctr Tryd.prog 62 [.pointer (some ⟨ob, 0, none⟩)] w0 (fun v w' => v = .tuple #[] ∧ St XX w0 I0 I0 w' [.row (.slice ao l.length a0) 5 1 l.length (flat byteC (carried l)), .cel ob 98 [.int .i64 lo, .int .i64 si, .slice ao l.length a0]]) := by
  refine fn (n := 30) Tryd.func62 rfl rfl rfl ?_
  have hS := hS0
  refine wpIn_seq ?_
  refine reg ?_
  refine qq hS (g_move _) ?_
  refine qq hS (g_nilCheck rfl) ?_
  refine qq hS (g_fieldAddr (o' := 2) Tryd.underlying98 rfl Tryd.sizeOf25 rfl rfl rfl) ?_
  refine qq hS (g_ldO1 1 Tryd.isAgg25 rfl rfl rfl) ?_
  refine qq hS (g_lenR 0 rfl Tryd.underlying25 rfl rfl) ?_
  refine qq hS (g_sub rfl rfl (by omega) (by omega)) ?_
  refine qq hS (g_assignv (v := .int .i64 _) rfl) ?_
  refine ol_nil (thenN ?_)
  refine wpIn_block ?_
  refine loop (fun (z : CryW) σ w => okS σ [(0, .pointer (some ⟨ob, 0, none⟩)), (2, .int .i64 ((z.j : Int) - 1))] ∧ St XX w0 I0 I0 w [.row (.slice ao l.length a0) 5 1 l.length (flat byteC z.l), .cel ob 98 [.int .i64 lo, .int .i64 si, .slice ao l.length a0]] ∧ z.j ≤ l.length ∧ z.l.length = l.length ∧ Byt z.l ∧ carryAt z.l z.j = carried l) (fun z => z.j) (⟨l.length, l⟩) ?_ ?_
  ·
    exact ⟨⟨rfl, rfl, trivial⟩, hS.sel [true, true], Nat.le_refl _, rfl, hlb, rfl⟩
  ·
    rintro ⟨j, l2⟩ σ w_l ⟨hs, hS, hj, hl2, hlb2, hcar⟩
    dsimp only at hs hS hj hl2 hlb2 hcar ⊢
    rw [← upds_self hs]; clear hs
    refine wpIn_seq ?_
    refine wpIn_seq ?_
    refine reg ?_
    refine qq hS (g_movev (v := .int .i64 _) rfl) ?_
    refine qq hS (g_geq rfl rfl) ?_
    refine ol_nil (thenN ?_)
    refine cond_s rfl ?_ ?_
    ·
      intro hc10
      try simp only [Bool.and_eq_true, Bool.or_eq_true, Bool.not_eq_true', Bool.and_eq_false_imp, Bool.or_eq_false_iff, Bool.not_eq_false', decide_eq_true_eq, decide_eq_false_iff_not] at hc10
      obtain ⟨i, rfl⟩ : ∃ i, j = i + 1 := ⟨j - 1, by omega⟩
      have hti : (((i + 1 : Nat) : Int) - 1).toNat = i := by omega
      obtain ⟨d, hli⟩ : ∃ d, l2[(((i + 1 : Nat) : Int) - 1).toNat]? = some d := ⟨_, List.getElem?_eq_getElem (by omega)⟩
      have hdl : l2.getD i 0 = d := by rw [hti] at hli; rw [List.getD_eq_getElem?_getD, hli]; rfl
      have hdb := hlb2 d (List.mem_of_getElem? hli)
      obtain ⟨d2, hd2⟩ : ∃ x, IntKind.u8.wrap (d + 1) = x := ⟨_, rfl⟩
      have hd3 : d2 = (d + 1) % 256 := by rw [← hd2, IntKind.wrap_u8]
      have hli2 : (l2.set ((((i + 1 : Nat) : Int) - 1).toNat) d2)[(((i + 1 : Nat) : Int) - 1).toNat]? = some d2 := by rw [List.getElem?_set, if_pos rfl, if_pos (by omega)]
      refine wpIn_skip ?_
      refine thenN ?_
      refine wpIn_seq ?_
      refine wpIn_block ?_
      refine wpIn_seq ?_
      refine reg ?_
      refine qq hS (g_move _) ?_
      refine qq hS (g_nilCheck rfl) ?_
      refine qq hS (g_fieldAddr (o' := 2) Tryd.underlying98 rfl Tryd.sizeOf25 rfl rfl rfl) ?_
      refine qq hS (g_ldO1 1 Tryd.isAgg25 rfl rfl rfl) ?_
      refine qq hS (g_movev (v := .int .i64 _) rfl) ?_
      refine qq hS (g_ixR 0 Tryd.underlying25 Tryd.sizeOf5 rfl rfl rfl (by omega) (by omega)) ?_
      refine qq hS (g_ldR1 0 Tryd.isAgg5 rfl rfl (flat_get byteC_len l2 _ d hli 0 _ rfl)) ?_
      refine qq hS (g_addu rfl rfl hd2) ?_
      refine qq hS (g_ixR 0 Tryd.underlying25 Tryd.sizeOf5 rfl rfl rfl (by omega) (by omega)) ?_
      refine qe (d_storeRow 0 (c := 0) byteC_len d2 hS hl2.symm hli Tryd.sizeOf5 rfl rfl rfl (vs := [.int .u8 _]) rfl rfl rfl rfl rfl) ?_
      clear hS
      rintro _ w_1 ⟨rfl, hS⟩
      refine ol_nil (thenN ?_)
      refine wpIn_seq ?_
      refine reg ?_
      refine qq hS (g_move _) ?_
      refine qq hS (g_nilCheck rfl) ?_
      refine qq hS (g_fieldAddr (o' := 2) Tryd.underlying98 rfl Tryd.sizeOf25 rfl rfl rfl) ?_
      refine qq hS (g_ldO1 1 Tryd.isAgg25 rfl rfl rfl) ?_
      refine qq hS (g_movev (v := .int .i64 _) rfl) ?_
      refine qq hS (g_ixR 0 Tryd.underlying25 Tryd.sizeOf5 rfl rfl rfl (by omega) (by omega)) ?_
      refine qq hS (g_ldR1 0 Tryd.isAgg5 rfl rfl (flat_get byteC_len (l2.set ((((i + 1 : Nat) : Int) - 1).toNat) d2) _ d2 hli2 0 _ rfl)) ?_
      refine qq hS (g_neq rfl rfl) ?_
      refine ol_nil (thenN ?_)
      refine cond_s rfl ?_ ?_
      ·
        intro hc29
        try simp only [Bool.and_eq_true, Bool.or_eq_true, Bool.not_eq_true', Bool.and_eq_false_imp, Bool.or_eq_false_iff, Bool.not_eq_false', decide_eq_true_eq, decide_eq_false_iff_not] at hc29
        have hfin : l2.set ((((i + 1 : Nat) : Int) - 1).toNat) d2 = carried l := by
          rw [← hcar, hti]
          conv => rhs; unfold carryAt
          have h2 : d + 1 ≤ 255 := by omega
          rw [if_neg (by rw [hdl]; omega), hdl, show d2 = d + 1 by omega]
        refine wpIn_ret ?_
        refine blkR (thenR (thenR (blkR ?_)))
        refine ret0 Tryd.results62  ?_
        rw [← hfin]
        exact ⟨rfl, hS⟩
      ·
        intro hc29
        try simp only [Bool.and_eq_true, Bool.or_eq_true, Bool.not_eq_true', Bool.and_eq_false_imp, Bool.or_eq_false_iff, Bool.not_eq_false', decide_eq_true_eq, decide_eq_false_iff_not] at hc29
        have hcar2 : carryAt (l2.set ((((i + 1 : Nat) : Int) - 1).toNat) d2) i = carried l := by
          rw [← hcar, hti]
          conv => rhs; unfold carryAt
          rw [if_pos (by rw [hdl]; omega), show d2 = 0 by omega]
        refine wpIn_skip ?_
        refine blkN (thenN ?_)
        refine reg ?_
        refine qq hS (g_movev (v := .int .i64 _) rfl) ?_
        refine qq hS (g_sub rfl rfl (by omega) (by omega)) ?_
        refine qq hS (g_assignv (v := .int .i64 _) rfl) ?_
        refine ⟨⟨i, l2.set ((((i + 1 : Nat) : Int) - 1).toNat) d2⟩, _, rfl, ⟨⟨rfl, ?_, trivial⟩, hS.sel [true, true], by dsimp only; omega, by dsimp only; rw [List.length_set]; exact hl2, ?_, hcar2⟩, by dsimp only; omega⟩
        · exact congrArg (Value.int .i64) (by dsimp only; omega)
        · intro u hu
          rcases List.mem_or_eq_of_mem_set hu with h | h
          · exact hlb2 u h
          · omega
    ·
      intro hc10
      try simp only [Bool.and_eq_true, Bool.or_eq_true, Bool.not_eq_true', Bool.and_eq_false_imp, Bool.or_eq_false_iff, Bool.not_eq_false', decide_eq_true_eq, decide_eq_false_iff_not] at hc10
      obtain rfl : j = 0 := by omega
      have hfin : l2 = carried l := hcar
      refine wpIn_exit ?_
      refine thenE (thenE (blkE ?_))
      refine end0 Tryd.results62  ?_
      rw [← hfin]
      exact ⟨rfl, hS⟩

end Go.Proofs.YtdgnojckkjfhfaaDoor

