/- inlaylaw12.SplitSectors: its function answers true. Conditions: arguments are of their kinds. -/
import Derived.Test.YtodopmclnklgdaaGreatParts12
import Derived.Test.YtodopmclnklgdaaGreatSJoins
namespace Go.Proofs.YtodopmclnklgdaaGreat
open Go Go.RowKit Go.Inl
set_option linter.unusedSimpArgs false
set_option linter.unusedVariables false
theorem g_quoK {P : Program} {n : Nat} {σ : Nat → Value} {S : World → Prop} {t t' ty : TypeId} {x y : Operand} {a b c : Int} (hx : ev n σ x = .int .i64 a) (hy : ev n σ y = .int .i64 b) (ha : 0 ≤ a) (hb : 0 < b) (ha2 : a ≤ 1000000) (hc : a / b = c) : Gives P (ev n σ) S (.binOp .quo t x y t') ty (.int .i64 c) := by
  subst hc
  have h1 : 0 ≤ a / b := Int.ediv_nonneg ha (by omega)
  have h2 : a / b ≤ a := Int.ediv_le_self b ha
  exact g_quo hx hy (by omega) (by omega) (by omega)
theorem sect_cnt {N sz i : Nat} (h : 0 < sz) : i < (N + sz - 1) / sz ↔ i * sz < N := by
  rw [← Nat.succ_le_iff, Nat.le_div_iff_mul_le h, Nat.succ_mul]; omega
theorem sect_len {p : PatL} {N sz : Nat} (hN : p.out = N) (h : 0 < sz) : (partsP p (sectorsR p.out sz)).length = (N + sz - 1) / sz := by
  unfold partsP sectorsR
  rw [List.length_map, List.length_map, List.length_range, hN, show (N : Int) + (sz : Int) - 1 = ((N + sz - 1 : Nat) : Int) by omega, ← Int.natCast_ediv, Int.toNat_natCast]
theorem sect_at {p : PatL} {N sz i : Nat} (hN : p.out = N) (h : 0 < sz) (hi : i < (N + sz - 1) / sz) : (partsP p (sectorsR p.out sz))[i]? = some (partP p (((i * sz : Nat) : Int), ((min N (i * sz + sz) : Nat) : Int))) := by
  have hl := sect_len hN h
  unfold partsP sectorsR at hl ⊢
  rw [List.length_map, List.length_map, List.length_range] at hl
  rw [List.getElem?_map, List.getElem?_map, List.getElem?_range (by omega)]
  show some (partP p ((i : Int) * (sz : Int), if p.out < (i : Int) * (sz : Int) + (sz : Int) then p.out else (i : Int) * (sz : Int) + (sz : Int))) = _
  rw [← Int.natCast_mul]
  obtain ⟨q, hq⟩ : ∃ q, i * sz = q := ⟨_, rfl⟩
  rw [hq]
  congr 3
  split <;> omega
theorem sect_flat {p : PatL} {N sz : Nat} (hw : p.wf) (hk : (checkP p).2 = 0) (ho : p.out ≤ 4096) (hN : p.out = N) (h : 0 < sz) : ∀ i, i ≤ (N + sz - 1) / sz → flatS ((partsP p (sectorsR p.out sz)).take i) = (symsOf p.ops).take (min N (i * sz))
  | 0, _ => by simp [flatS]
  | i + 1, hi => by
    have ih := sect_flat hw hk ho hN h i (by omega)
    have hat := sect_at hN h (show i < (N + sz - 1) / sz by omega)
    have hlt := (sect_cnt h).1 (show i < (N + sz - 1) / sz by omega)
    rw [flatS_snoc hat, ih, (part_for hw hk ho _).syms, Nat.succ_mul]
    obtain ⟨q, hq⟩ : ∃ q, i * sz = q := ⟨_, rfl⟩
    rw [hq] at hlt ⊢
    simp only [Int.toNat_natCast]
    have e : (symsOf p.ops).take (min N q) = ((symsOf p.ops).take (min N (q + sz))).take q := by
      rw [List.take_take]; congr 1; omega
    rw [e, List.take_append_drop]

set_option maxRecDepth 20000 in
set_option maxHeartbeats 4000000 in
theorem ssectors_c (r : Int) (ad bd : Option Addr) (cap capb : Nat) (l : List Q4) (bs : List Int) (z : Int) (w0 : World) (I0 : Imm) (hI : Sat I0 w0) (hr : 0 ≤ r ∧ r ≤ 255) (h4 : RFl I0 4 q4C (.slice ad l.length cap) l) (hq : ∀ q ∈ l, q.wf) (hb : RBytes I0 (.slice bd bs.length capb) bs) (hbb : ∀ y ∈ bs, 0 ≤ y ∧ y ≤ 255) (hz : 0 ≤ z ∧ z ≤ 255) :
    Ctr Tryz.prog 9 [.agg #[.int .u8 r, .slice ad l.length cap], .slice bd bs.length capb, .int .u8 z] w0 (fun v w' => ∃ I', v = .bool true ∧ Ext w0 I0 w' I') := by
  have hr13 : 0 ≤ r % 13 ∧ r % 13 ≤ 65536 := by omega
  have hpw := madeP_wf (size := r % 13) hq hr13
  obtain ⟨hpk, hpo, hpl⟩ := madeP_ok (size := r % 13) hq hr13
  have hlf : (madeP l (r % 13)).lifted = false := rfl
  have hin0 : (madeP l (r % 13)).in_ = r % 13 := rfl
  obtain ⟨p, hp⟩ : ∃ p, madeP l (r % 13) = p := ⟨_, rfl⟩
  rw [hp] at hpw hpk hpo hpl hlf hin0
  obtain ⟨k1, k2, k3, k4, k5, k6, k7⟩ := checkP_ok hpk
  have hOl := inputP_len bs p.in_.toNat
  have hOb := inputP_bd (n := p.in_.toNat) hbb
  obtain ⟨O, hO⟩ : ∃ O, inputP bs p.in_.toNat = O := ⟨_, rfl⟩
  rw [hO] at hOl hOb
  have hin : p.in_ = O.length := by omega
  have hXA := applyP_right hpk hin
  obtain ⟨F, hF⟩ := form_for hpw hpk (by omega)
  have hFe := (form_best hF hpk (by omega)).1
  rw [hlf] at hFe
  have hPF := part_for hpw hpk (show p.out ≤ 4096 by omega)
  obtain ⟨N, hN⟩ : ∃ N : Nat, p.out = N := ⟨p.out.toNat, by omega⟩
  obtain ⟨sz, hsz⟩ : ∃ sz : Nat, (1 + z % 12) = (sz : Int) := ⟨(1 + z % 12).toNat, by omega⟩
  have hsz0 : 0 < sz := by omega
  have hDl := sect_len (p := p) hN hsz0
  have hDat := fun i (h : i < (N + sz - 1) / sz) => sect_at (p := p) hN hsz0 h
  have hDfl := sect_flat hpw hpk (show p.out ≤ 4096 by omega) hN hsz0
  have hSec : sectorsP p (1 + z % 12) = (partsP p (sectorsR p.out sz), 0) := by
    unfold sectorsP plainP
    rw [hsz, if_neg (by simp [hpk, hlf]), if_neg (by simp; omega)]
  obtain ⟨D, hD⟩ : ∃ D, partsP p (sectorsR p.out sz) = D := ⟨_, rfl⟩
  have hDm : ∀ q ∈ D, ∃ x, q = partP p x := fun q hq => by rw [← hD] at hq; obtain ⟨x, _, rfl⟩ := List.mem_map.1 hq; exact ⟨x, rfl⟩
  rw [hD] at hDl hSec hDfl
  simp only [hD] at hDat
  have hcnt : (p.out + (1 + z % 12) - 1) / (1 + z % 12) = (D.length : Int) := by
    rw [hsz, hN, show (N : Int) + (sz : Int) - 1 = ((N + sz - 1 : Nat) : Int) by omega, ← Int.natCast_ediv, hDl]
  have hDN : D.length ≤ N := by
    rcases Nat.eq_zero_or_pos D.length with h | h
    · omega
    · have h1 := (sect_cnt (N := N) hsz0).1 (show D.length - 1 < (N + sz - 1) / sz by omega)
      have h2 : (D.length - 1) * 1 ≤ (D.length - 1) * sz := Nat.mul_le_mul_left _ hsz0
      omega
  have hLn : (symsOf p.ops).length = N := by omega
  have hDw : ∀ q ∈ D, q.wf := fun q hq => by obtain ⟨x, rfl⟩ := hDm q hq; exact (hPF x).wf
  have hall : flatS D = symsOf p.ops := by
    have h := hDfl D.length (by omega)
    rw [List.take_length] at h
    have h2 : ¬ D.length * sz < N := fun h => absurd ((sect_cnt hsz0).2 h) (by omega)
    rw [h, List.take_of_length_le (by omega)]
  have hrl : ((symsOf p.ops).map (runB O)).length = (symsOf p.ops).length := List.length_map _
  refine fn (n := 141) Tryz.func9 rfl rfl rfl ?_
  have hS := St.start hI
  refine wpIn_seq ?_
  refine reg ?_
  refine qe (d_box (cs := [.int .u8 _, .slice _ _ _]) hS rfl) ?_
  clear hS
  rintro _ w_1 ⟨b3, rfl, hS⟩
  refine qq hS (g_assignv (v := .bool _) rfl) ?_
  refine ol_nil (thenN ?_)
  refine wpIn_seq ?_
  refine reg ?_
  refine qe (d_call Tryz.call37 rfl (sanity12_c _ _ hS.imm)) ?_
  rintro _ w_2 ⟨I_f, rfl, hE⟩
  replace hS := hS.callE hE
  replace h4 := h4.mono hE.ext
  replace hb := hb.mono hE.ext
  refine qq hS (g_assignv (v := .bool _) rfl) ?_
  refine ol_nil (thenN ?_)
  refine wpIn_seq ?_
  refine reg ?_
  refine qq hS (g_ldO 0 (vs := [.int .u8 _, .slice _ _ _]) Tryz.sizeOf24 Tryz.isAgg24 rfl rfl rfl rfl) ?_
  refine qe (d_call Tryz.call13 rfl (made6_E r ad cap l p _ _ hS.imm h4 hq hr hp)) ?_
  rintro _ w_3 ⟨I_f, a25, m25, c25, rfl, hE, h25⟩
  replace hS := hS.callE hE
  replace h4 := h4.mono hE.ext
  replace hb := hb.mono hE.ext
  refine qq hS (g_movev (v := .int .u8 _) rfl) ?_
  refine qq hS (g_convi Tryz.underlying5 Tryz.underlying3 rfl (by omega) (by omega)) ?_
  refine qq hS (g_rem rfl rfl (by omega) (by omega)) ?_
  refine qq hS (g_add rfl rfl (by omega) (by omega)) ?_
  refine qe (d_alloc (cs := [.bool _, .int .i64 _, .int .i64 _, .slice _ _ _]) hS Tryz.zeroValue29 rfl) ?_
  clear hS
  rintro _ w_4 ⟨b8, rfl, hS⟩
  refine qe (d_store 0 hS Tryz.sizeOf29 rfl rfl rfl (vs := [.bool _, .int .i64 _, .int .i64 _, .slice _ _ _]) rfl rfl rfl (Nat.le_of_ble_eq_true rfl) (cs' := [_, _, _, _]) rfl) ?_
  clear hS
  rintro _ w_5 ⟨rfl, hS⟩
  refine qq hS (g_assignv (v := .int .i64 _) rfl) ?_
  refine ol_nil (thenN ?_)
  refine wpIn_seq ?_
  refine reg ?_
  refine qq hS (g_move _) ?_
  refine qq hS (g_fieldAddr (o' := 1) Tryz.underlying29 rfl Tryz.sizeOf3 rfl rfl rfl) ?_
  refine qq hS (g_ldO1 0 Tryz.isAgg3 rfl rfl rfl) ?_
  refine qe (d_call Tryz.call18 rfl (input_E _ _ bs p.in_ O _ _ hS.imm hb hbb ⟨k3, k4⟩ hO)) ?_
  rintro _ w_6 ⟨I_f, a33, c33, rfl, hE, h33⟩
  replace hS := hS.callE hE
  replace h4 := h4.mono hE.ext
  replace hb := hb.mono hE.ext
  replace h25 := h25.mono hE.ext
  refine qq hS (g_assign _) ?_
  refine ol_nil (thenN ?_)
  refine wpIn_seq ?_
  refine reg ?_
  refine qq hS (g_move _) ?_
  refine qq hS (g_ldO 0 (vs := [.bool _, .int .i64 _, .int .i64 _, .slice _ _ _]) Tryz.sizeOf29 Tryz.isAgg29 rfl rfl rfl rfl) ?_
  refine qe (d_call Tryz.call19 rfl (apply_L p _ _ _ _ _ _ O ((symsOf p.ops).map (runB O)) 0 _ _ hS.imm h25 hpw hlf h33 rfl hXA)) ?_
  rintro _ w_7 ⟨I_f, a37, c37, rfl, hE, h37⟩
  replace hS := hS.callE hE
  replace h4 := h4.mono hE.ext
  replace hb := hb.mono hE.ext
  replace h25 := h25.mono hE.ext
  replace h33 := h33.mono hE.ext
  refine qq hS (g_move _) ?_
  refine qq hS (g_extract rfl rfl) ?_
  refine qq hS (g_extract (v := .int .i64 _) rfl rfl) ?_
  refine qq hS (g_assign _) ?_
  refine qq hS (g_assignv (v := .int .i64 _) rfl) ?_
  refine ol_nil (thenN ?_)
  refine wpIn_seq ?_
  refine reg ?_
  refine qq hS (g_ldO 0 (vs := [.bool _, .int .i64 _, .int .i64 _, .slice _ _ _]) Tryz.sizeOf29 Tryz.isAgg29 rfl rfl rfl rfl) ?_
  refine qq hS (g_movev (v := .int .i64 _) rfl) ?_
  refine qe (d_call Tryz.call38 rfl (sectors_K p (1 + z % 12) D 0 _ _ _ _ _ hS.imm h25 hpw (by omega) ⟨by omega, by omega⟩ hSec)) ?_
  rintro _ w_8 ⟨I_f, a43, c43, rfl, hE, h43⟩
  replace hS := hS.callE hE
  replace h4 := h4.mono hE.ext
  replace hb := hb.mono hE.ext
  replace h25 := h25.mono hE.ext
  replace h33 := h33.mono hE.ext
  replace h37 := h37.mono hE.ext
  refine qq hS (g_move _) ?_
  refine qq hS (g_extract rfl rfl) ?_
  refine qq hS (g_extract (v := .int .i64 _) rfl rfl) ?_
  refine qq hS (g_assign _) ?_
  refine qq hS (g_assignv (v := .int .i64 _) rfl) ?_
  refine ol_nil (thenN ?_)
  refine wpIn_seq ?_
  refine wpIn_seq ?_
  refine reg ?_
  refine qq hS (g_movev (v := .int .i64 _) rfl) ?_
  refine qq hS (g_neq rfl rfl) ?_
  refine qq hS (g_movev (v := .bool _) rfl) ?_
  refine qqs rfl rfl hS (g_movev (v := .int .i64 _) rfl) ?_
  refine qqs rfl rfl hS (g_neq rfl rfl) ?_
  refine qq hS (g_or rfl rfl (fun _ => rfl)) ?_
  refine qq hS (g_movev (v := .bool _) rfl) ?_
  refine qqs rfl rfl hS (g_move _) ?_
  refine qqs rfl rfl hS (g_lenI rfl Tryz.underlying42 h43 rfl) ?_
  refine qqs rfl rfl hS (g_fieldAddr (o' := 2) Tryz.underlying29 rfl Tryz.sizeOf3 rfl rfl rfl) ?_
  refine qqs rfl rfl hS (g_ldO1 0 Tryz.isAgg3 rfl rfl rfl) ?_
  refine qqs rfl rfl hS (g_movev (v := .int .i64 _) rfl) ?_
  refine qqs rfl rfl hS (g_add rfl rfl (by omega) (by omega)) ?_
  refine qqs rfl rfl hS (g_sub rfl rfl (by omega) (by omega)) ?_
  refine qqs rfl rfl hS (g_movev (v := .int .i64 _) rfl) ?_
  refine qqs rfl rfl hS (g_quoK rfl rfl (by omega) (by omega) (by omega) hcnt) ?_
  refine qqs rfl rfl hS (g_neqF rfl rfl rfl) ?_
  refine qq hS (g_or rfl rfl (fun _ => rfl)) ?_
  refine ol_nil (thenN ?_)
  refine cond_f (rfl) ?_
  refine wpIn_skip ?_
  refine thenN ?_
  refine wpIn_seq ?_
  refine reg ?_
  refine qe (d_buildSlice0 hS Tryz.underlying25 Tryz.sizeOf5) ?_
  clear hS
  rintro _ w_9 ⟨hS, b64_, rfl⟩
  refine qq hS (g_assign _) ?_
  refine ol_nil (thenN ?_)
  refine wpIn_seq ?_
  refine wpIn_seq ?_
  refine reg ?_
  refine qq hS (g_assignv (v := .int .i64 _) rfl) ?_
  refine ol_nil (thenN ?_)
  refine wpIn_block ?_
  refine loop (fun (x : JW) σ w => okS σ [(7, .bool true), (8, .pointer (some ⟨b8, 0, none⟩)), (9, .int .i64 (1 + z % 12)), (10, .slice a33 O.length c33), (11, .slice a37 ((symsOf p.ops).map (runB O)).length c37), (13, .slice a43 D.length c43), (15, .slice x.a x.m x.c), (16, .int .i64 x.k)] ∧ ∃ I, St [] w0 I0 I w [.row (.slice x.a x.m x.c) 5 1 x.m (flat byteC ((flatS (D.take x.k)).map (runB O))), .cel b8 29 [.bool p.lifted, .int .i64 p.in_, .int .i64 p.out, .slice a25 m25 c25]] ∧ x.k ≤ D.length ∧ x.m = ((flatS (D.take x.k)).map (runB O)).length ∧ ROps I (.slice a25 m25 c25) p.ops ∧ RBytes I (.slice a33 O.length c33) O ∧ RBytes I (.slice a37 ((symsOf p.ops).map (runB O)).length c37) ((symsOf p.ops).map (runB O)) ∧ RPats I (.slice a43 D.length c43) D) (fun x => D.length - x.k) (⟨0, 0, some ⟨b64_, 0, none⟩, 0⟩) ?_ ?_
  ·
    exact ⟨⟨rfl, rfl, rfl, rfl, rfl, rfl, rfl, rfl, trivial⟩, _, hS.sel [true, true, false], by dsimp only; omega, rfl, h25, h33, h37, h43⟩
  ·
    rintro ⟨k, m, a, c⟩ σ w_l ⟨hs, I, hS, hk0, hWm, h25, h33, h37, h43⟩
    dsimp only at hs hS hk0 hWm ⊢
    rw [← upds_self hs]; clear hs
    refine wpIn_seq ?_
    refine wpIn_seq ?_
    refine reg ?_
    refine qq hS (g_movev (v := .int .i64 _) rfl) ?_
    refine qq hS (g_move _) ?_
    refine qq hS (g_lenI rfl Tryz.underlying42 h43 rfl) ?_
    refine qq hS (g_lss rfl rfl) ?_
    refine ol_nil (thenN ?_)
    refine cond_s rfl ?_ ?_
    ·
      intro hc68
      try simp only [Bool.and_eq_true, Bool.or_eq_true, Bool.not_eq_true', Bool.and_eq_false_imp, Bool.or_eq_false_iff, Bool.not_eq_false', decide_eq_true_eq, decide_eq_false_iff_not] at hc68
      have hlt := (sect_cnt (N := N) hsz0).1 (show k < (N + sz - 1) / sz by omega)
      have hnx : k + 1 < D.length → k * sz + sz < N := fun h => by have := (sect_cnt (N := N) hsz0).1 (show k + 1 < (N + sz - 1) / sz by omega); rwa [Nat.succ_mul] at this
      have hqi := hDat k (by omega)
      have hPq := hPF (((k * sz : Nat) : Int), ((min N (k * sz + sz) : Nat) : Int))
      obtain ⟨q, hqe⟩ : ∃ q, partP p (((k * sz : Nat) : Int), ((min N (k * sz + sz) : Nat) : Int)) = q := ⟨_, rfl⟩
      rw [hqe] at hqi hPq
      have hql := congrArg List.length hPq.syms
      rw [List.length_drop, List.length_take, hLn] at hql
      obtain ⟨kq, hkq⟩ : ∃ kq, k * sz = kq := ⟨_, rfl⟩
      simp only [hkq, Int.toNat_natCast] at hlt hnx hql
      have hXq := applyP_right (lo := O) hPq.chk (hPq.in_.trans hin)
      obtain ⟨X, hX⟩ : ∃ X, (symsOf q.ops).map (runB O) = X := ⟨_, rfl⟩
      rw [hX] at hXq
      have hWs : ((flatS (D.take (k + 1))).map (runB O)) = ((flatS (D.take k)).map (runB O)) ++ X := by rw [flatS_snoc hqi, List.map_append, hX]
      have hXl : X.length = min N (kq + sz) - kq := by rw [← hX, List.length_map, hql]; omega
      have hWl := congrArg List.length hWs
      rw [List.length_append] at hWl
      have hWd : ((flatS (D.take k)).map (runB O)).length ≤ N := by rw [List.length_map, hDfl k (by omega), List.length_take]; omega
      have hfin : (!decide ((X.length : Int) = (1 + z % 12)) && decide ((k : Int) < (D.length : Int) - 1) || decide ((1 + z % 12) < (X.length : Int)) || decide ((X.length : Int) = 0)) = false := by
        rw [decide_eq_false (show ¬ (1 + z % 12) < (X.length : Int) by omega), decide_eq_false (show ¬ (X.length : Int) = 0 by omega), Bool.or_false, Bool.or_false]
        by_cases h : (k : Int) < (D.length : Int) - 1
        · have := hnx (by omega)
          rw [decide_eq_true (show (X.length : Int) = (1 + z % 12) by omega)]; rfl
        · rw [decide_eq_false h, Bool.and_false]
      obtain ⟨cs, hcs4, hqA, hqc⟩ := RSl.at h43 hqi
      obtain ⟨adq, mq, cq, rfl, hqo⟩ := hqc
      refine wpIn_skip ?_
      refine thenN ?_
      refine wpIn_seq ?_
      refine wpIn_block ?_
      refine wpIn_seq ?_
      refine reg ?_
      refine qq hS (g_move _) ?_
      refine qq hS (g_move _) ?_
      refine qq hS (g_movev (v := .int .i64 _) rfl) ?_
      refine qq hS (g_ixI Tryz.underlying42 Tryz.sizeOf29 h43 rfl rfl (by omega) (by omega)) ?_
      refine qq hS (g_ldE (us := [.bool _, .int .i64 _, .int .i64 _, .slice _ _ _]) Tryz.sizeOf29 Tryz.isAgg29 hqA rfl rfl rfl) ?_
      refine qe (d_call Tryz.call19 rfl (apply_L q _ _ _ _ _ _ O X 0 _ _ hS.imm hqo hPq.wf hPq.lif h33 rfl hXq)) ?_
      rintro _ w_10 ⟨I_f, a77, c77, rfl, hE, h77⟩
      replace hS := hS.callE hE
      replace h25 := h25.mono hE.ext
      replace h33 := h33.mono hE.ext
      replace h37 := h37.mono hE.ext
      replace h43 := h43.mono hE.ext
      replace hqo := hqo.mono hE.ext
      replace hqA := hqA.mono hE.ext
      refine qq hS (g_move _) ?_
      refine qq hS (g_extract rfl rfl) ?_
      refine qq hS (g_extract (v := .int .i64 _) rfl rfl) ?_
      refine qq hS (g_assign _) ?_
      refine qq hS (g_assignv (v := .int .i64 _) rfl) ?_
      refine ol_nil (thenN ?_)
      refine wpIn_seq ?_
      refine wpIn_seq ?_
      refine reg ?_
      refine qq hS (g_movev (v := .int .i64 _) rfl) ?_
      refine qq hS (g_neq rfl rfl) ?_
      refine qq hS (g_movev (v := .bool _) rfl) ?_
      refine qqs rfl rfl hS (g_move _) ?_
      refine qqs rfl rfl hS (g_lenI rfl Tryz.underlying25 h77 rfl) ?_
      refine qqs rfl rfl hS (g_movev (v := .int .i64 _) rfl) ?_
      refine qqs rfl rfl hS (g_neq rfl rfl) ?_
      refine qqs rfl rfl hS (g_movev (v := .bool _) rfl) ?_
      refine qu rfl rfl hS (fun hg => (g_movev (v := .int .i64 _) rfl)) ?_
      intro u88 hu88 hn88
      refine qu rfl rfl hS (fun hg => (g_move _)) ?_
      intro u89 hu89 hn89
      refine qu rfl rfl hS (fun hg => (g_lenI rfl Tryz.underlying42 h43 (hu89 hg))) ?_
      intro u90 hu90 hn90
      refine qu rfl rfl hS (fun hg => (g_sub (hu90 hg) rfl (by omega) (by omega))) ?_
      intro u91 hu91 hn91
      refine qu rfl rfl hS (fun hg => (g_lss (hu88 hg) (hu91 hg))) ?_
      intro u92 hu92 hn92
      refine qqs rfl rfl hS (g_and rfl rfl (fun hq => hu92 hq)) ?_
      refine qq hS (g_or rfl rfl (fun _ => rfl)) ?_
      refine qq hS (g_movev (v := .bool _) rfl) ?_
      refine qu rfl rfl hS (fun hg => (g_move _)) ?_
      intro u96 hu96 hn96
      refine qu rfl rfl hS (fun hg => (g_lenI rfl Tryz.underlying25 h77 (hu96 hg))) ?_
      intro u97 hu97 hn97
      refine qu rfl rfl hS (fun hg => (g_movev (v := .int .i64 _) rfl)) ?_
      intro u98 hu98 hn98
      refine qu rfl rfl hS (fun hg => (g_gtr (hu97 hg) (hu98 hg))) ?_
      intro u99 hu99 hn99
      refine qq hS (g_or rfl rfl (fun hq => hu99 hq)) ?_
      refine qq hS (g_movev (v := .bool _) rfl) ?_
      refine qu rfl rfl hS (fun hg => (g_move _)) ?_
      intro u102 hu102 hn102
      refine qu rfl rfl hS (fun hg => (g_lenI rfl Tryz.underlying25 h77 (hu102 hg))) ?_
      intro u103 hu103 hn103
      refine qu rfl rfl hS (fun hg => (g_eql (hu103 hg) rfl)) ?_
      intro u104 hu104 hn104
      refine qq hS (g_or rfl rfl (fun hq => hu104 hq)) ?_
      refine ol_nil (thenN ?_)
      refine cond_f (congrArg Value.bool hfin) ?_
      refine wpIn_skip ?_
      refine thenN ?_
      refine reg ?_
      refine qq hS (g_move _) ?_
      refine qq hS (g_move _) ?_
      refine qe (i_appendF 0 hS rfl Tryz.underlying25 info5 rfl rfl rfl rfl byteC_len (fun _ => rfl) h77 rfl (by omega) (by omega)) ?_
      clear hS
      rintro _ w_11 ⟨a108, p108, rfl, hS⟩
      refine qq hS (g_assign _) ?_
      refine ol_nil (blkN (thenN ?_))
      refine reg ?_
      refine qq hS (g_movev (v := .int .i64 _) rfl) ?_
      refine qq hS (g_add rfl rfl (by omega) (by omega)) ?_
      refine qq hS (g_assignv (v := .int .i64 _) rfl) ?_
      refine ol_nil (thenN ?_)
      refine ⟨⟨k + 1, m + X.length, a108, p108⟩, _, rfl, ⟨⟨rfl, rfl, rfl, rfl, rfl, rfl, rfl, rfl, trivial⟩, _, ?_, by dsimp only; omega, by dsimp only; omega, h25, h33, h37, h43⟩, by dsimp only; omega⟩
      dsimp only
      rw [hWs, flat_append]
      exact hS.sel [true, true]
    ·
      intro hc68
      try simp only [Bool.and_eq_true, Bool.or_eq_true, Bool.not_eq_true', Bool.and_eq_false_imp, Bool.or_eq_false_iff, Bool.not_eq_false', decide_eq_true_eq, decide_eq_false_iff_not] at hc68
      obtain rfl : k = D.length := by omega
      refine wpIn_exit ?_
      refine thenE (thenE (blkE ?_))
      refine thenN ?_
      refine wpIn_seq ?_
      refine wpIn_seq ?_
      rw [List.take_length, hall] at hS
      have hF := St.freezeRow (u := .slice a m c) (m := m) (xs := ((symsOf p.ops).map (runB O))) byteC_len (by exact hS.ord [0, 1]) (by rw [hWm, List.take_length, hall])
      clear hS
      obtain ⟨I_hwant, hS, hI_hwant, hwant⟩ := hF
      replace h25 := h25.mono hI_hwant
      replace h33 := h33.mono hI_hwant
      replace h37 := h37.mono hI_hwant
      replace h43 := h43.mono hI_hwant
      refine reg ?_
      refine qq hS (g_move _) ?_
      refine qq hS (g_move _) ?_
      refine qe (d_call Tryz.call23 rfl (sameB_E _ _ ((symsOf p.ops).map (runB O)) ((symsOf p.ops).map (runB O)) _ _ hS.imm hwant h37 rfl)) ?_
      rintro _ w_12 ⟨rfl, hE⟩
      replace hS := hS.callE hE
      refine qq hS (g_not rfl) ?_
      refine ol_nil (thenN ?_)
      refine cond_f (rfl) ?_
      refine wpIn_skip ?_
      refine thenN ?_
      refine wpIn_seq ?_
      refine wpIn_seq ?_
      refine reg ?_
      refine qq hS (g_move _) ?_
      refine qq hS (g_lenI rfl Tryz.underlying42 h43 rfl) ?_
      refine qq hS (g_eql rfl rfl) ?_
      refine ol_nil (thenN ?_)
      refine cond_s rfl ?_ ?_
      ·
        intro hc115
        try simp only [Bool.and_eq_true, Bool.or_eq_true, Bool.not_eq_true', Bool.and_eq_false_imp, Bool.or_eq_false_iff, Bool.not_eq_false', decide_eq_true_eq, decide_eq_false_iff_not] at hc115
        refine wpIn_seq ?_
        refine reg ?_
        refine qq hS (g_movev (v := .bool _) rfl) ?_
        refine qq hS (g_assignv (v := .bool _) rfl) ?_
        refine ol_nil (thenN ?_)
        refine wpIn_ret ?_
        refine thenR ?_
        refine ret1 Tryz.results9 (rv_tmp (v := .bool _) rfl) ?_
        exact ⟨_, rfl, hS.nil⟩
      ·
        intro hc115
        try simp only [Bool.and_eq_true, Bool.or_eq_true, Bool.not_eq_true', Bool.and_eq_false_imp, Bool.or_eq_false_iff, Bool.not_eq_false', decide_eq_true_eq, decide_eq_false_iff_not] at hc115
        obtain ⟨Fj, hFj⟩ := join_for (D := D) (n := p.in_) (by intro h; rw [h] at hc115; simp at hc115) hDw (fun q hq => by obtain ⟨x, rfl⟩ := hDm q hq; exact (hPF x).chk) (fun q hq => by obtain ⟨x, rfl⟩ := hDm q hq; exact (hPF x).lif) (fun q hq => by obtain ⟨x, rfl⟩ := hDm q hq; exact (hPF x).in_) ⟨k3, k4⟩ (by rw [← flat_len fun q hq => by obtain ⟨x, rfl⟩ := hDm q hq; exact (hPF x).chk]; show ((flatS D).length : Int) ≤ _; rw [hall]; omega)
        have hJ : joinP D = (F, 0) := by rw [hFj.join, hFj.eq, hall, ← hFe]
        refine wpIn_skip ?_
        refine thenN ?_
        refine wpIn_seq ?_
        refine reg ?_
        refine qq hS (g_move _) ?_
        refine qe (d_call Tryz.call39 rfl (join_E D (F, 0) _ _ _ _ _ hS.imm h43 rfl hDw (by omega) hJ)) ?_
        rintro _ w_13 ⟨I_f, a119, m119, c119, rfl, hE, h119⟩
        replace hS := hS.callE hE
        replace h25 := h25.mono hE.ext
        replace h33 := h33.mono hE.ext
        replace h37 := h37.mono hE.ext
        replace h43 := h43.mono hE.ext
        replace hwant := hwant.mono hE.ext
        refine qq hS (g_move _) ?_
        refine qq hS (g_extract rfl rfl) ?_
        refine qq hS (g_extract (v := .int .i64 _) rfl rfl) ?_
        refine qe (d_alloc (cs := [.bool _, .int .i64 _, .int .i64 _, .slice _ _ _]) hS Tryz.zeroValue29 rfl) ?_
        clear hS
        rintro _ w_14 ⟨b19, rfl, hS⟩
        refine qe (d_store 0 hS Tryz.sizeOf29 rfl rfl rfl (vs := [.bool _, .int .i64 _, .int .i64 _, .slice _ _ _]) rfl rfl rfl (Nat.le_of_ble_eq_true rfl) (cs' := [_, _, _, _]) rfl) ?_
        clear hS
        rintro _ w_15 ⟨rfl, hS⟩
        refine qq hS (g_assignv (v := .int .i64 _) rfl) ?_
        refine ol_nil (thenN ?_)
        refine wpIn_seq ?_
        refine reg ?_
        refine qq hS (g_ldO 1 (vs := [.bool _, .int .i64 _, .int .i64 _, .slice _ _ _]) Tryz.sizeOf29 Tryz.isAgg29 rfl rfl rfl rfl) ?_
        refine qe (d_call Tryz.call14 rfl (form_e p _ _ _ F 0 _ _ hS.imm h25 hpw hF.form)) ?_
        rintro _ w_16 ⟨I_f, a124, m124, c124, rfl, hE, h124⟩
        replace hS := hS.callE hE
        replace h25 := h25.mono hE.ext
        replace h33 := h33.mono hE.ext
        replace h37 := h37.mono hE.ext
        replace h43 := h43.mono hE.ext
        replace hwant := hwant.mono hE.ext
        replace h119 := h119.mono hE.ext
        refine qq hS (g_move _) ?_
        refine qq hS (g_extract rfl rfl) ?_
        refine qq hS (g_extract (v := .int .i64 _) rfl rfl) ?_
        refine qe (d_alloc (cs := [.bool _, .int .i64 _, .int .i64 _, .slice _ _ _]) hS Tryz.zeroValue29 rfl) ?_
        clear hS
        rintro _ w_17 ⟨b21, rfl, hS⟩
        refine qe (d_store 0 hS Tryz.sizeOf29 rfl rfl rfl (vs := [.bool _, .int .i64 _, .int .i64 _, .slice _ _ _]) rfl rfl rfl (Nat.le_of_ble_eq_true rfl) (cs' := [_, _, _, _]) rfl) ?_
        clear hS
        rintro _ w_18 ⟨rfl, hS⟩
        refine qq hS (g_assignv (v := .int .i64 _) rfl) ?_
        refine ol_nil (thenN ?_)
        refine wpIn_seq ?_
        refine reg ?_
        refine qq hS (g_movev (v := .int .i64 _) rfl) ?_
        refine qq hS (g_eql rfl rfl) ?_
        refine qq hS (g_movev (v := .bool _) rfl) ?_
        refine qqs rfl rfl hS (g_movev (v := .int .i64 _) rfl) ?_
        refine qqs rfl rfl hS (g_eql rfl rfl) ?_
        refine qq hS (g_and rfl rfl (fun _ => rfl)) ?_
        refine qq hS (g_movev (v := .bool _) rfl) ?_
        refine qqs rfl rfl hS (g_ldO 1 (vs := [.bool _, .int .i64 _, .int .i64 _, .slice _ _ _]) Tryz.sizeOf29 Tryz.isAgg29 rfl rfl rfl rfl) ?_
        refine qqs rfl rfl hS (g_ldO 0 (vs := [.bool _, .int .i64 _, .int .i64 _, .slice _ _ _]) Tryz.sizeOf29 Tryz.isAgg29 rfl rfl rfl rfl) ?_
        refine qes rfl rfl (d_call Tryz.call40 rfl (same_T F _ _ _ _ _ _ _ _ hS.imm h119 h124 hF.wf)) ?_
        rintro _ w_19 ⟨rfl, hE⟩
        replace hS := hS.callE hE
        refine qq hS (g_and rfl rfl (fun _ => rfl)) ?_
        refine qq hS (g_movev (v := .bool _) rfl) ?_
        refine qqs rfl rfl hS (g_movev (v := .bool _) rfl) ?_
        refine qq hS (g_and rfl rfl (fun _ => rfl)) ?_
        refine qq hS (g_assignv (v := .bool _) rfl) ?_
        refine ol_nil (thenN ?_)
        refine wpIn_ret ?_
        refine ret1 Tryz.results9 (rv_tmp (v := .bool _) rfl) ?_
        exact ⟨_, rfl, hS.nil⟩

end Go.Proofs.YtodopmclnklgdaaGreat

