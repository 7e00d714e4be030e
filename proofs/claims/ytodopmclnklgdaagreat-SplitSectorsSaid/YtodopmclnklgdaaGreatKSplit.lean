/- split.plain, the iterators of Split and Sectors, collect: what they compute. Conditions: numbers within bounds. image.Valid and inlayref01.Valid at sections that are named, apart and in order: what they compute. Conditions: as said. split.collect, Split, Sectors: what they compute. Conditions: numbers within bounds. inlayref01.sign, Name, Valid, Made, inlayref12.Many, Split, Sectors: what they compute. Conditions: numbers within bounds. inlayref12.Split, Sectors: what they compute. Conditions: numbers within bounds. -/
import Derived.Test.YtodopmclnklgdaaGreatRef12
namespace Go.Proofs.YtodopmclnklgdaaGreat
open Go Go.RowKit Go.Inl
set_option linter.unusedSimpArgs false
set_option linter.unusedVariables false
def secC (s : SecL) : List Value := [.string s.name, .int .i64 s.from_, .int .i64 s.to, .bool s.code]
theorem secC_len (s : SecL) : (secC s).length = 4 := rfl
abbrev RSecs (I : Imm) (v : Value) (l : List SecL) : Prop := RFl I 4 secC v l
def rgV (r : Int × Int) : Value := .agg #[.int .i64 r.1, .int .i64 r.2]
/-- What an iterator over ranges yields. -/
def rgA (rs : List (Int × Int)) (k : Nat) : List Value := [rgV (rs.getD k (0, 0))]
theorem rgA_at {rs : List (Int × Int)} {k : Nat} {r : Int × Int} (h : rs[k]? = some r) : rgA rs k = [.agg #[.int .i64 r.1, .int .i64 r.2]] := by
  unfold rgA rgV; rw [List.getD_eq_getElem?_getD, h]; rfl
theorem iterC_mono {P : Program} {gf : FuncId} {lb : List Value} {arg : Nat → List Value} {N : Nat} {I I' : Imm} (h : IterC P gf lb arg N I) (hs : Inl.Sub I I') : IterC P gf lb arg N I' :=
  fun l J Jx w1 I1 h1 h2 h3 h4 h5 => h l J Jx w1 I1 h1 h2 h3 (hs.trans h4) h5
theorem sectorsR_len (out size : Int) : (sectorsR out size).length = ((out + size - 1) / size).toNat := by simp [sectorsR]
theorem sectorsR_at {out size : Int} {k : Nat} (h : k < (sectorsR out size).length) : (sectorsR out size)[k]? = some ((k : Int) * size, if out < (k : Int) * size + size then out else (k : Int) * size + size) := by
  rw [sectorsR_len] at h
  unfold sectorsR
  rw [List.getElem?_map, List.getElem?_range h]; rfl
theorem sectorsR_lt {out size : Int} {k : Nat} (hs : 1 ≤ size) : (k : Int) * size < out ↔ k < (sectorsR out size).length := by
  rw [sectorsR_len]
  have h1 : ((k : Int) + 1 ≤ (out + size - 1) / size) ↔ (((k : Int) + 1) * size ≤ out + size - 1) := Int.le_ediv_iff_mul_le (by omega)
  rw [Int.add_mul, Int.one_mul] at h1
  constructor
  · intro h
    have := h1.2 (by omega)
    omega
  · intro h
    have := h1.1 (by omega)
    omega
theorem sectorsR_in {out size : Int} (hs : 1 ≤ size) (ho : 0 ≤ out) : RangesIn (sectorsR out size) out := by
  intro r hr
  obtain ⟨k, hk⟩ := List.mem_iff_getElem?.1 hr
  have hl := (List.getElem?_eq_some_iff.1 hk).1
  have h1 := (sectorsR_lt hs).2 hl
  rw [sectorsR_at hl] at hk
  obtain rfl := Option.some.inj hk
  have h0 : 0 ≤ (k : Int) * size := Int.mul_nonneg (by omega) (by omega)
  dsimp only
  split <;> omega
theorem sectorsR_le {out size : Int} (hs : 1 ≤ size) (ho : 0 ≤ out) (h : out ≤ 4096) : (sectorsR out size).length ≤ 4096 := by
  rw [sectorsR_len]
  have h1 : (out + size - 1) / size ≤ out := by
    rw [Int.ediv_le_iff_le_mul (by omega)]
    have : out * 1 ≤ out * size := Int.mul_le_mul_of_nonneg_left hs ho
    have h2 : 0 ≤ out * size := Int.mul_nonneg ho (by omega)
    omega
  omega

theorem plain_c (p : PatL) (ad : Option Addr) (m cap : Nat) (w0 : World) (I0 : Imm) (hI : Sat I0 w0) (hops : ROps I0 (.slice ad m cap) p.ops) (hp : p.wf) :
    Ctr Tryz.prog 78 [.agg #[.bool p.lifted, .int .i64 p.in_, .int .i64 p.out, .slice ad m cap]] w0 (fun v w' => v = .int .i64 (plainP p) ∧ Ext w0 I0 w' I0) := by
  refine fn (n := 15) Tryz.func78 rfl rfl rfl ?_
  have hS := St.start hI
  refine wpIn_seq ?_
  refine reg ?_
  refine qe (d_box (cs := [.bool _, .int .i64 _, .int .i64 _, .slice _ _ _]) hS rfl) ?_
  clear hS
  rintro _ w_1 ⟨b1, rfl, hS⟩
  refine qq hS (g_assignv (v := .int .i64 _) rfl) ?_
  refine ol_nil (thenN ?_)
  refine wpIn_seq ?_
  refine wpIn_seq ?_
  refine reg ?_
  refine qq hS (g_ldO 0 (vs := [.bool _, .int .i64 _, .int .i64 _, .slice _ _ _]) Tryz.sizeOf29 Tryz.isAgg29 rfl rfl rfl rfl) ?_
  refine qe (d_call Tryz.call93 rfl (check_c p ad m cap _ _ hS.imm hops hp)) ?_
  rintro _ w_2 ⟨rfl, hE⟩
  replace hS := hS.callE hE
  refine qq hS (g_move _) ?_
  refine qq hS (g_extract (v := .int .i64 _) rfl rfl) ?_
  refine qq hS (g_extract (v := .int .i64 _) rfl rfl) ?_
  refine qq hS (g_assignv (v := .int .i64 _) rfl) ?_
  refine qq hS (g_assignv (v := .int .i64 _) rfl) ?_
  refine ol_nil (thenN ?_)
  refine wpIn_seq ?_
  refine reg ?_
  refine qq hS (g_movev (v := .int .i64 _) rfl) ?_
  refine qq hS (g_neq rfl rfl) ?_
  refine ol_nil (thenN ?_)
  refine cond_s rfl ?_ ?_
  ·
    intro hc11
    try simp only [Bool.and_eq_true, Bool.or_eq_true, Bool.not_eq_true', Bool.and_eq_false_imp, Bool.or_eq_false_iff, Bool.not_eq_false', decide_eq_true_eq, decide_eq_false_iff_not] at hc11
    have e : plainP p = (checkP p).2 := by unfold plainP; rw [if_pos hc11]
    refine wpIn_seq ?_
    refine reg ?_
    refine qq hS (g_movev (v := .int .i64 _) rfl) ?_
    refine qq hS (g_assignv (v := .int .i64 _) rfl) ?_
    refine ol_nil (thenN ?_)
    refine wpIn_ret ?_
    refine thenR ?_
    refine ret1 Tryz.results78 (rv_tmp (v := .int .i64 _) rfl) ?_
    rw [e]; exact ⟨rfl, hS.nil⟩
  ·
    intro hc11
    try simp only [Bool.and_eq_true, Bool.or_eq_true, Bool.not_eq_true', Bool.and_eq_false_imp, Bool.or_eq_false_iff, Bool.not_eq_false', decide_eq_true_eq, decide_eq_false_iff_not] at hc11
    have e0 : plainP p = if p.lifted then 62 else 0 := by unfold plainP; rw [if_neg (by rw [hc11]; decide)]
    refine wpIn_skip ?_
    refine thenN ?_
    refine wpIn_seq ?_
    refine wpIn_seq ?_
    refine reg ?_
    refine qq hS (g_fieldAddr (o' := 0) Tryz.underlying29 rfl Tryz.sizeOf4 rfl rfl rfl) ?_
    refine qq hS (g_ldO1 0 Tryz.isAgg4 rfl rfl rfl) ?_
    refine ol_nil (thenN ?_)
    refine cond_s rfl ?_ ?_
    ·
      intro hc14
      have e : plainP p = 62 := by rw [e0, if_pos hc14]
      refine wpIn_seq ?_
      refine reg ?_
      refine qq hS (g_assignv (v := .int .i64 _) rfl) ?_
      refine ol_nil (thenN ?_)
      refine wpIn_ret ?_
      refine thenR ?_
      refine ret1 Tryz.results78 (rv_tmp (v := .int .i64 _) rfl) ?_
      rw [e]; exact ⟨rfl, hS.nil⟩
    ·
      intro hc14
      have e : plainP p = 0 := by rw [e0, if_neg (by rw [hc14]; decide)]
      refine wpIn_skip ?_
      refine thenN ?_
      refine wpIn_seq ?_
      refine reg ?_
      refine qq hS (g_assignv (v := .int .i64 _) rfl) ?_
      refine ol_nil (thenN ?_)
      refine wpIn_ret ?_
      refine ret1 Tryz.results78 (rv_tmp (v := .int .i64 _) rfl) ?_
      rw [e]; exact ⟨rfl, hS.nil⟩

set_option maxHeartbeats 1000000 in
theorem split1_it (l : List SecL) (b cap : Nat) (ad : Option Addr) (I0 : Imm) (hb : atI I0 ⟨b, 0, none⟩ [.slice ad l.length cap]) (hl : RSecs I0 (.slice ad l.length cap) l) :
    IterC Tryz.prog 87 [.pointer (some ⟨b, 0, none⟩)] (rgA (l.map secR)) l.length I0 := by
  intro lp J Jx w1 I1 hst hyc hsat hsub hJ0
  replace hb := hb.mono hsub
  replace hl := hl.mono hsub
  have hle := RSl.le hl
  simp only [maxLen] at hle
  refine fn (n := 20) Tryz.func87 rfl rfl rfl ?_
  have hS := St.start hsat
  refine wpIn_seq ?_
  refine reg ?_
  refine qq hS (g_ldB1 (c := 0) Tryz.isAgg73 hb rfl rfl) ?_
  refine qq hS (g_lenI rfl Tryz.underlying73 hl rfl) ?_
  refine qq hS (g_movev (v := .int .i64 _) rfl) ?_
  refine ol_nil (thenN ?_)
  refine wpIn_block ?_
  refine loop (fun (k : Nat) σ w => okS σ [(0, .func (.yield lp) #[] #[]), (5, .slice ad l.length cap), (6, .int .i64 l.length), (7, .int .i64 k)] ∧ ∃ I, St [] w I I w [] ∧ k ≤ l.length ∧ Inl.Sub I1 I ∧ J k I w) (fun k => l.length - k) (0) ?_ ?_
  ·
    exact ⟨⟨rfl, rfl, rfl, rfl, trivial⟩, _, St.start hS.imm, by simp, Inl.Sub.refl _, hJ0⟩
  ·
    rintro k σ w_l ⟨hs, I, hS, hk0, hsub1, hJ⟩
    rw [← upds_self hs]; clear hs
    refine wpIn_seq ?_
    refine reg ?_
    refine qq hS (g_lss rfl rfl) ?_
    refine ol_nil (thenN ?_)
    refine wpIn_seq ?_
    refine cond_s rfl ?_ ?_
    ·
      intro hc8
      try simp only [Bool.and_eq_true, Bool.or_eq_true, Bool.not_eq_true', Bool.and_eq_false_imp, Bool.or_eq_false_iff, Bool.not_eq_false', decide_eq_true_eq, decide_eq_false_iff_not] at hc8
      obtain ⟨s, hsi⟩ : ∃ s, l[k]? = some s := ⟨_, List.getElem?_eq_getElem (by omega)⟩
      have hsA := (hl.mono hsub1).at hsi
      have hak : rgA (l.map secR) k = [.agg #[.int .i64 s.from_, .int .i64 s.to]] := rgA_at (r := secR s) (by rw [List.getElem?_map, hsi]; rfl)
      refine wpIn_skip ?_
      refine thenN ?_
      refine wpIn_seq ?_
      refine wpIn_block ?_
      refine wpIn_seq ?_
      refine reg ?_
      refine qq hS (g_ixI Tryz.underlying73 Tryz.sizeOf77 (hl.mono hsub1) rfl rfl (by omega) (by omega)) ?_
      refine qq hS (g_ldE (us := [.string _, .int .i64 _, .int .i64 _, .bool _]) Tryz.sizeOf77 Tryz.isAgg77 hsA rfl rfl rfl) ?_
      refine qe (d_alloc (cs := [.string _, .int .i64 _, .int .i64 _, .bool _]) hS Tryz.zeroValue77 rfl) ?_
      clear hS
      rintro _ w_1 ⟨b4, rfl, hS⟩
      refine qe (d_store 0 hS Tryz.sizeOf77 rfl rfl rfl (vs := [.string _, .int .i64 _, .int .i64 _, .bool _]) rfl rfl rfl (Nat.le_of_ble_eq_true rfl) (cs' := [_, _, _, _]) rfl) ?_
      clear hS
      rintro _ w_2 ⟨rfl, hS⟩
      refine ol_nil (thenN ?_)
      refine wpIn_seq ?_
      refine reg ?_
      refine qq hS (g_move _) ?_
      refine qq hS (g_fieldAddr (o' := 1) Tryz.underlying77 rfl Tryz.sizeOf3 rfl rfl rfl) ?_
      refine qq hS (g_ldO1 0 Tryz.isAgg3 rfl rfl rfl) ?_
      refine qq hS (g_fieldAddr (o' := 2) Tryz.underlying77 rfl Tryz.sizeOf3 rfl rfl rfl) ?_
      refine qq hS (g_ldO1 0 Tryz.isAgg3 rfl rfl rfl) ?_
      refine qq hS (g_buildv (pl := [(0, 1), (1, 1)]) (cs := [.int .i64 _, .int .i64 _]) Tryz.zeroValue117 Tryz.underlying117 (fun w => by simp [Tryz.sizeOf3]) (mp (v := .int .i64 _) rfl (mp (v := .int .i64 _) rfl mp0)) rfl) ?_
      refine qe (d_yieldC rfl (Eq.trans (b := [.agg #[.int .i64 s.from_, .int .i64 s.to]]) rfl hak.symm) hyc (by omega) hS.imm (hst _ _ _ _ _ hJ hS.nil)) ?_
      rintro _ w_3 ⟨bb, I2, rfl, hsat2, hsub2, hyt, hyf⟩
      replace hS := St.start hsat2
      refine qq hS (g_not rfl) ?_
      refine ol_nil (thenN ?_)
      refine cond_s rfl ?_ ?_
      ·
        intro hc18
        simp only [Bool.not_eq_true', Bool.not_eq_false'] at hc18
        have hfin := hyf hc18
        refine wpIn_ret ?_
        refine blkR (thenR (thenR (blkR ?_)))
        refine ret0 Tryz.results87  ?_
        exact ⟨_, hS.imm, hsub1.trans hsub2, .inr ⟨k, by omega, hfin⟩⟩
      ·
        intro hc18
        simp only [Bool.not_eq_true', Bool.not_eq_false'] at hc18
        have hJ2 := hyt hc18
        refine wpIn_skip ?_
        refine blkN (thenN ?_)
        refine reg ?_
        refine qq hS (g_add rfl rfl (by omega) (by omega)) ?_
        refine qq hS (g_movev (v := .int .i64 _) rfl) ?_
        refine ol_nil (thenN ?_)
        exact ⟨k + 1, _, rfl, ⟨⟨rfl, rfl, rfl, rfl, trivial⟩, _, hS.sel [], by omega, hsub1.trans hsub2, hJ2⟩, by omega⟩
    ·
      intro hc8
      try simp only [Bool.and_eq_true, Bool.or_eq_true, Bool.not_eq_true', Bool.and_eq_false_imp, Bool.or_eq_false_iff, Bool.not_eq_false', decide_eq_true_eq, decide_eq_false_iff_not] at hc8
      have hk : k = l.length := by omega
      subst hk
      refine wpIn_exit ?_
      refine thenE (thenE (blkE ?_))
      refine end0 Tryz.results87  ?_
      exact ⟨_, hS.imm, hsub1, .inl hJ⟩

set_option maxHeartbeats 1000000 in
theorem sectors1_it (p : PatL) (size : Int) (b c m cap : Nat) (ad : Option Addr) (I0 : Imm) (hb : atI I0 ⟨b, 0, none⟩ [.bool p.lifted, .int .i64 p.in_, .int .i64 p.out, .slice ad m cap]) (hc : atI I0 ⟨c, 0, none⟩ [.int .i64 size]) (hs : 1 ≤ size ∧ size ≤ 4096) (ho : 0 ≤ p.out ∧ p.out ≤ 4096) :
    IterC Tryz.prog 80 [.pointer (some ⟨b, 0, none⟩), .pointer (some ⟨c, 0, none⟩)] (rgA (sectorsR p.out size)) (sectorsR p.out size).length I0 := by
  intro lp J Jx w1 I1 hst hyc hsat hsub hJ0
  replace hb := hb.mono hsub
  replace hc := hc.mono hsub
  obtain ⟨hs1, hs2⟩ := hs
  obtain ⟨ho1, ho2⟩ := ho
  refine fn (n := 24) Tryz.func80 rfl rfl rfl ?_
  have hS := St.start hsat
  refine wpIn_seq ?_
  refine reg ?_
  refine qq hS (g_assignv (v := .int .i64 _) rfl) ?_
  refine ol_nil (thenN ?_)
  refine wpIn_block ?_
  refine loop (fun (k : Nat) σ w => okS σ [(0, .func (.yield lp) #[] #[]), (1, .pointer (some ⟨b, 0, none⟩)), (2, .pointer (some ⟨c, 0, none⟩)), (4, .int .i64 ((k : Int) * size))] ∧ ∃ I, St [] w I I w [] ∧ k ≤ (sectorsR p.out size).length ∧ Inl.Sub I1 I ∧ J k I w) (fun k => (sectorsR p.out size).length - k) (0) ?_ ?_
  ·
    exact ⟨⟨rfl, rfl, rfl, by show Value.int .i64 0 = .int .i64 ((0 : Nat) * size); simp, trivial⟩, _, St.start hS.imm, by simp, Inl.Sub.refl _, hJ0⟩
  ·
    rintro k σ w_l ⟨hs, I, hS, hk0, hsub1, hJ⟩
    rw [← upds_self hs]; clear hs
    have hlt := sectorsR_lt (out := p.out) (size := size) (k := k) hs1
    have hle := sectorsR_le hs1 ho1 ho2
    have hak : (k : Int) * size < p.out → rgA (sectorsR p.out size) k = [.agg #[.int .i64 ((k : Int) * size), .int .i64 (if p.out < (k : Int) * size + size then p.out else (k : Int) * size + size)]] := fun h => rgA_at (sectorsR_at (hlt.1 h))
    have hmul : 0 ≤ (k : Int) * size := Int.mul_nonneg (by omega) (by omega)
    have hmul2 : (k : Int) * size ≤ 4096 * 4096 := Int.mul_le_mul (by omega) hs2 (by omega) (by omega)
    have hmul3 : ((k : Int) * size + size) = (((k + 1 : Nat) : Int) * size) := by rw [Int.natCast_add, Int.add_mul]; simp
    refine wpIn_seq ?_
    refine wpIn_seq ?_
    refine reg ?_
    refine qq hS (g_movev (v := .int .i64 _) rfl) ?_
    refine qq hS (g_fieldAddr (o' := 2) Tryz.underlying29 rfl Tryz.sizeOf3 rfl rfl rfl) ?_
    refine qq hS (g_ldB1 (c := 2) Tryz.isAgg3 (hb.mono hsub1) rfl rfl) ?_
    refine qq hS (g_lss rfl rfl) ?_
    refine qq hS (g_movev (v := .bool _) rfl) ?_
    refine qu rfl rfl hS (fun hg => (g_move _)) ?_
    intro u10 hu10 hn10
    refine qu rfl rfl hS (fun hg => (g_movev (v := .int .i64 _) rfl)) ?_
    intro u11 hu11 hn11
    refine qu rfl rfl hS (fun hg => (g_movev (v := .int .i64 _) rfl)) ?_
    intro u12 hu12 hn12
    refine qu rfl rfl hS (fun hg => (g_ldB1 (c := 0) Tryz.isAgg3 (hc.mono hsub1) rfl rfl)) ?_
    intro u13 hu13 hn13
    refine qu rfl rfl hS (fun hg => (g_add (hu12 hg) (hu13 hg) (by omega) (by omega))) ?_
    intro u14 hu14 hn14
    refine qu rfl rfl hS (fun hg => (g_fieldAddr (o' := 2) Tryz.underlying29 rfl Tryz.sizeOf3 rfl rfl rfl)) ?_
    intro u15 hu15 hn15
    refine qu rfl rfl hS (fun hg => (g_ldB1 (c := 2) Tryz.isAgg3 (hb.mono hsub1) (hu15 hg) rfl)) ?_
    intro u16 hu16 hn16
    refine qu rfl rfl hS (fun hg => (g_min (hu14 hg) (hu16 hg))) ?_
    intro u17 hu17 hn17
    refine qu rfl rfl hS (fun hg => (g_buildv (pl := [(0, 1), (1, 1)]) (cs := [.int .i64 _, .int .i64 _]) Tryz.zeroValue117 Tryz.underlying117 (fun w => by simp [Tryz.sizeOf3]) (mp (v := .int .i64 _) (hu11 hg) (mp (v := .int .i64 _) (hu17 hg) mp0)) rfl)) ?_
    intro u18 hu18 hn18
    refine gvu rfl rfl (fun hg => (d_yieldC (hu10 hg) (Eq.trans (ml (hu18 hg) ml0) (hak (of_decide_eq_true hg)).symm) hyc (hlt.1 (of_decide_eq_true hg)) hS.imm hJ)) ?_
    rintro w19 u19 hor
    have hx : ∃ I2 bb, St [] w19 I2 I2 w19 [] ∧ Inl.Sub I I2 ∧ (decide ((k : Int) * size < p.out) = true → u19 = .bool bb) ∧ (decide ((k : Int) * size < p.out) = true → bb = true → J (k + 1) I2 w19) ∧ (decide ((k : Int) * size < p.out) = true → bb = false → Jx k I2 w19) ∧ (decide ((k : Int) * size < p.out) = false → J k I2 w19) := by
      rcases hor with ⟨hg, bb, I2, h1, h2, h3, h4, h5⟩ | ⟨hg, h1, h2⟩
      · exact ⟨I2, bb, St.start h2, h3, fun _ => h1, fun _ => h4, fun _ => h5, fun h => by rw [hg] at h; cases h⟩
      · subst h2
        exact ⟨I, true, St.start hS.imm, Inl.Sub.refl _, fun h => absurd h hg, fun h => absurd h hg, fun h => absurd h hg, fun _ => hJ⟩
    clear hS hor
    obtain ⟨I2, bb, hS, hsub2, hu19, hyt, hyf, hyn⟩ := hx
    refine qq hS (g_and rfl rfl (fun hq => hu19 hq)) ?_
    refine ol_nil (thenN ?_)
    refine cond_s rfl ?_ ?_
    ·
      intro hc20
      clear hu10 hn10 hu11 hn11 hu12 hn12 hu13 hn13 hu14 hn14 hu15 hn15 hu16 hn16 hu17 hn17 hu18 hn18 hu19
      simp only [Bool.and_eq_true] at hc20
      have hJ2 := hyt hc20.1 hc20.2
      have hkl := hlt.1 (of_decide_eq_true hc20.1)
      have hsub3 := hsub1.trans hsub2
      refine wpIn_skip ?_
      refine thenN ?_
      refine wpIn_seq ?_
      refine wpIn_block ?_
      refine wpIn_skip ?_
      refine blkN (thenN ?_)
      refine reg ?_
      refine qq hS (g_movev (v := .int .i64 _) rfl) ?_
      refine qq hS (g_ldB1 (c := 0) Tryz.isAgg3 (hc.mono hsub3) rfl rfl) ?_
      refine qq hS (g_add rfl rfl (by omega) (by omega)) ?_
      refine qq hS (g_assignv (v := .int .i64 _) rfl) ?_
      refine ol_nil (thenN ?_)
      exact ⟨k + 1, _, rfl, ⟨⟨rfl, rfl, rfl, congrArg (Value.int .i64) hmul3, trivial⟩, _, hS, by omega, hsub3, hJ2⟩, by omega⟩
    ·
      intro hc20
      clear hu10 hn10 hu11 hn11 hu12 hn12 hu13 hn13 hu14 hn14 hu15 hn15 hu16 hn16 hu17 hn17 hu18 hn18 hu19
      have hsub3 := hsub1.trans hsub2
      refine wpIn_exit ?_
      refine thenE (thenE (blkE ?_))
      refine end0 Tryz.results80  ?_
      refine ⟨_, hS.imm, hsub3, ?_⟩
      by_cases h : (k : Int) * size < p.out
      · have hd : decide ((k : Int) * size < p.out) = true := decide_eq_true h
        refine .inr ⟨k, hlt.1 h, hyf hd ?_⟩
        rw [hd, Bool.true_and] at hc20
        exact hc20
      · have hk : k = (sectorsR p.out size).length := by
          have : ¬ k < (sectorsR p.out size).length := fun h' => h (hlt.2 h')
          omega
        have hJ3 := hyn (decide_eq_false h)
        rw [hk] at hJ3
        exact .inl hJ3

end Go.Proofs.YtodopmclnklgdaaGreat


namespace Go.Proofs.YtodopmclnklgdaaGreat
open Go Go.RowKit Go.Inl
set_option linter.unusedSimpArgs false
set_option linter.unusedVariables false
def secV (s : SecL) : Value := .agg #[.string s.name, .int .i64 s.from_, .int .i64 s.to, .bool s.code]
theorem secs_name {l : List SecL} (h : SecsOk l) {k : Nat} {s : SecL} (hs : l[k]? = some s) : (l.take k).any (fun y => y.name.toList == s.name.toList) = false := by
  rw [List.any_eq_false]
  intro y hy
  obtain ⟨i, hi⟩ := List.mem_iff_getElem?.1 hy
  have h1 := (List.getElem?_eq_some_iff.1 hi).1
  rw [List.length_take] at h1
  have h2 : l[i]? = some y := by rw [← hi, List.getElem?_take_of_lt (by omega)]
  rw [h.names i k y s (by omega) h2 hs]
  simp
theorem lastTo_at {l : List SecL} {k : Nat} {s : SecL} (hs : l[k]? = some s) : lastTo l (k + 1) = s.to := by
  simp [lastTo, List.getD_eq_getElem?_getD, hs]
theorem secs_last {l : List SecL} (h : SecsOk l) {k : Nat} (hk : k ≤ l.length) : 0 ≤ lastTo l k ∧ lastTo l k ≤ 1000000 := by
  cases k with
  | zero => simp [lastTo]
  | succ k =>
    have hx : l[k]? = some l[k] := List.getElem?_eq_getElem (by omega)
    rw [lastTo_at hx]
    obtain ⟨_, _, h3, h4, _⟩ := h.each k _ hx
    have := h.ge k _ hx
    omega
def alnum (c : Int) : Bool := (decide (97 ≤ c) && decide (c ≤ 122)) || (decide (65 ≤ c) && decide (c ≤ 90)) || (decide (48 ≤ c) && decide (c ≤ 57))

theorem twin_c (s y : SecL) (b : Nat) (w0 : World) (I0 : Imm) (hI : Sat I0 w0) (hb : atI I0 ⟨b, 0, none⟩ (secC s)) :
    Ctr Tryz.prog 122 [secV y, .pointer (some ⟨b, 0, none⟩)] w0 (fun v w' => v = .bool (y.name.toList == s.name.toList) ∧ Ext w0 I0 w' I0) := by
  refine fn (n := 9) Tryz.func122 rfl rfl rfl ?_
  have hS := St.start hI
  refine wpIn_seq ?_
  refine reg ?_
  refine qe (d_box (cs := [.string _, .int .i64 _, .int .i64 _, .bool _]) hS rfl) ?_
  clear hS
  rintro _ w_1 ⟨b2, rfl, hS⟩
  refine qq hS (g_assignv (v := .bool _) rfl) ?_
  refine ol_nil (thenN ?_)
  refine wpIn_seq ?_
  refine reg ?_
  refine qq hS (g_fieldAddr (o' := 0) Tryz.underlying77 rfl Tryz.sizeOf9 rfl rfl rfl) ?_
  refine qq hS (g_ldO1 0 Tryz.isAgg9 rfl rfl rfl) ?_
  refine qq hS (g_fieldAddr (o' := 0) Tryz.underlying77 rfl Tryz.sizeOf9 rfl rfl rfl) ?_
  refine qq hS (g_ldB1 (c := 0) Tryz.isAgg9 hb rfl rfl) ?_
  refine qq hS (g_eqlStr rfl rfl) ?_
  refine qq hS (g_assignv (v := .bool _) rfl) ?_
  refine ol_nil (thenN ?_)
  refine wpIn_ret ?_
  refine ret1 Tryz.results122 (rv_tmp (v := .bool _) rfl) ?_
  exact ⟨rfl, hS.nil⟩

set_option maxHeartbeats 1000000 in
theorem indexSec_c (vl : Value) (l : List SecL) (g : FuncId) (caps : List Value) (q : SecL → Bool) (w0 : World) (I0 : Imm) (hI : Sat I0 w0) (hl : RSecs I0 vl l) (hcg : ∀ args w, (callFunc g args).run Tryz.prog w = .ok (.enter g args) w)
    (hq : ∀ s w, Sat I0 w → Ctr Tryz.prog g (secV s :: caps) w (fun v w' => v = .bool (q s) ∧ Ext w I0 w' I0)) :
    Ctr Tryz.prog 146 [vl, .func (.func g) #[] caps.toArray] w0 (fun v w' => ∃ r : Int, v = .int .i64 r ∧ (0 ≤ r ↔ l.any q = true) ∧ Ext w0 I0 w' I0) := by
  have hle := RSl.le hl
  simp only [maxLen] at hle
  refine fn (n := 19) Tryz.func146 rfl rfl rfl ?_
  have hS := St.start hI
  refine wpIn_seq ?_
  refine reg ?_
  refine qq hS (g_assignv (v := .int .i64 _) rfl) ?_
  refine ol_nil (thenN ?_)
  refine wpIn_seq ?_
  refine wpIn_seq ?_
  refine reg ?_
  refine qq hS (g_move _) ?_
  refine qq hS (g_lenI rfl Tryz.underlying73 hl rfl) ?_
  refine qq hS (g_movev (v := .int .i64 _) rfl) ?_
  refine ol_nil (thenN ?_)
  refine wpIn_block ?_
  refine loop (fun (k : Nat) σ w => okS σ [(0, vl), (1, .func (.func g) #[] caps.toArray), (7, .int .i64 l.length), (8, .int .i64 k)] ∧ St [] w0 I0 I0 w [] ∧ k ≤ l.length ∧ ∀ y ∈ l.take k, q y = false) (fun k => l.length - k) (0) ?_ ?_
  ·
    exact ⟨⟨rfl, rfl, rfl, rfl, trivial⟩, hS.sel [], by simp, by simp⟩
  ·
    rintro k σ w_l ⟨hs, hS, hk0, hall⟩
    rw [← upds_self hs]; clear hs
    refine wpIn_seq ?_
    refine reg ?_
    refine qq hS (g_lss rfl rfl) ?_
    refine ol_nil (thenN ?_)
    refine wpIn_seq ?_
    refine cond_s rfl ?_ ?_
    ·
      intro hc9
      try simp only [Bool.and_eq_true, Bool.or_eq_true, Bool.not_eq_true', Bool.and_eq_false_imp, Bool.or_eq_false_iff, Bool.not_eq_false', decide_eq_true_eq, decide_eq_false_iff_not] at hc9
      obtain ⟨s, hsi⟩ : ∃ s, l[k]? = some s := ⟨_, List.getElem?_eq_getElem (by omega)⟩
      have hsA := hl.at hsi
      refine wpIn_skip ?_
      refine thenN ?_
      refine wpIn_seq ?_
      refine wpIn_block ?_
      refine wpIn_seq ?_
      refine reg ?_
      refine qq hS (g_movev (v := .int .i64 _) rfl) ?_
      refine qq hS (g_assignv (v := .int .i64 _) rfl) ?_
      refine ol_nil (thenN ?_)
      refine wpIn_seq ?_
      refine reg ?_
      refine qq hS (g_move _) ?_
      refine qq hS (g_move _) ?_
      refine qq hS (g_movev (v := .int .i64 _) rfl) ?_
      refine qq hS (g_ixI Tryz.underlying73 Tryz.sizeOf77 hl rfl rfl (by omega) (by omega)) ?_
      refine qq hS (g_ldE (us := [.string _, .int .i64 _, .int .i64 _, .bool _]) Tryz.sizeOf77 Tryz.isAgg77 hsA rfl rfl rfl) ?_
      refine qe (d_callv hcg rfl rfl (hq s _ hS.imm)) ?_
      rintro _ w_1 ⟨rfl, hE⟩
      replace hS := hS.callE hE
      refine ol_nil (thenN ?_)
      refine cond_s rfl ?_ ?_
      ·
        intro hc16
        have hany : l.any q = true := List.any_eq_true.2 ⟨s, List.mem_of_getElem? hsi, hc16⟩
        refine wpIn_seq ?_
        refine reg ?_
        refine qq hS (g_movev (v := .int .i64 _) rfl) ?_
        refine qq hS (g_assignv (v := .int .i64 _) rfl) ?_
        refine ol_nil (thenN ?_)
        refine wpIn_ret ?_
        refine blkR (thenR (thenR (blkR (thenR ?_))))
        refine ret1 Tryz.results146 (rv_tmp (v := .int .i64 _) rfl) ?_
        first | exact ⟨_, rfl, by rw [hany]; simp, hS.nil⟩ | exact ⟨_, rfl, by rw [hany]; simp; omega, hS.nil⟩
      ·
        intro hc16
        refine wpIn_skip ?_
        refine blkN (thenN ?_)
        refine reg ?_
        refine qq hS (g_add rfl rfl (by omega) (by omega)) ?_
        refine qq hS (g_movev (v := .int .i64 _) rfl) ?_
        refine ol_nil (thenN ?_)
        exact ⟨k + 1, _, rfl, ⟨⟨rfl, rfl, rfl, rfl, trivial⟩, hS.sel [], by omega, any_take hsi hall hc16⟩, by omega⟩
    ·
      intro hc9
      try simp only [Bool.and_eq_true, Bool.or_eq_true, Bool.not_eq_true', Bool.and_eq_false_imp, Bool.or_eq_false_iff, Bool.not_eq_false', decide_eq_true_eq, decide_eq_false_iff_not] at hc9
      have hk : k = l.length := by omega
      subst hk
      rw [List.take_length] at hall
      have hany : l.any q = false := by simpa using hall
      refine wpIn_exit ?_
      refine thenE (thenE (blkE ?_))
      refine thenN ?_
      refine wpIn_seq ?_
      refine reg ?_
      refine qq hS (g_assignv (v := .int .i64 _) rfl) ?_
      refine ol_nil (thenN ?_)
      refine wpIn_ret ?_
      refine ret1 Tryz.results146 (rv_tmp (v := .int .i64 _) rfl) ?_
      first | exact ⟨_, rfl, by rw [hany]; simp, hS.nil⟩ | exact ⟨_, rfl, by rw [hany]; simp; omega, hS.nil⟩

theorem containsSec_c (vl : Value) (l : List SecL) (g : FuncId) (caps : List Value) (q : SecL → Bool) (w0 : World) (I0 : Imm) (hI : Sat I0 w0) (hl : RSecs I0 vl l) (hcg : ∀ args w, (callFunc g args).run Tryz.prog w = .ok (.enter g args) w)
    (hq : ∀ s w, Sat I0 w → Ctr Tryz.prog g (secV s :: caps) w (fun v w' => v = .bool (q s) ∧ Ext w I0 w' I0)) :
    Ctr Tryz.prog 124 [vl, .func (.func g) #[] caps.toArray] w0 (fun v w' => v = .bool (l.any q) ∧ Ext w0 I0 w' I0) := by
  refine fn (n := 9) Tryz.func124 rfl rfl rfl ?_
  have hS := St.start hI
  refine wpIn_seq ?_
  refine reg ?_
  refine qq hS (g_assignv (v := .bool _) rfl) ?_
  refine ol_nil (thenN ?_)
  refine wpIn_seq ?_
  refine reg ?_
  refine qq hS (g_move _) ?_
  refine qq hS (g_move _) ?_
  refine qe (d_call Tryz.call146 rfl (indexSec_c vl l g caps q _ I0 hS.imm hl hcg hq)) ?_
  rintro _ w_1 ⟨r, rfl, hr, hE⟩
  replace hS := hS.callE hE
  refine qq hS (g_geq rfl rfl) ?_
  refine qq hS (g_assignv (v := .bool _) rfl) ?_
  refine ol_nil (thenN ?_)
  refine wpIn_ret ?_
  refine ret1 Tryz.results124 (rv_tmp (v := .bool _) rfl) ?_
  refine ⟨?_, hS.nil⟩
  congr 1
  rw [Bool.eq_iff_iff, decide_eq_true_iff]; exact hr

set_option maxHeartbeats 1000000 in
theorem isName_c (s : ByteArray) (w0 : World) (I0 : Imm) (hI : Sat I0 w0) (h : NameOk s) :
    Ctr Tryz.prog 123 [.string s] w0 (fun v w' => v = .bool true ∧ Ext w0 I0 w' I0) := by
  obtain ⟨hs1, hs2, hs3⟩ := h
  have hasc : ∀ i, i < s.size → (s.get! i).toNat < 128 := fun i hi => by have := hs3 i hi; omega
  refine fn (n := 40) Tryz.func123 rfl rfl rfl ?_
  have hS := St.start hI
  refine wpIn_seq ?_
  refine reg ?_
  refine qq hS (g_assignv (v := .bool _) rfl) ?_
  refine ol_nil (thenN ?_)
  refine wpIn_seq ?_
  refine wpIn_seq ?_
  refine reg ?_
  refine qq hS (g_move _) ?_
  refine qe (d_rangeStr hS Tryz.underlying9 rfl) ?_
  clear hS
  rintro _ w_1 ⟨b6, rfl, hS⟩
  refine ol_nil (thenN ?_)
  refine wpIn_block ?_
  refine loop (fun (k : Nat) σ w => okS σ [(0, .string s), (6, .pointer (some ⟨b6, 0, none⟩))] ∧ St [] w0 I0 I0 w [.obj b6 (.stringIter s k)] ∧ k ≤ s.size) (fun k => s.size - k) (0) ?_ ?_
  ·
    exact ⟨⟨rfl, rfl, trivial⟩, hS.sel [true], by omega⟩
  ·
    rintro k σ w_l ⟨hs, hS, hk0⟩
    rw [← upds_self hs]; clear hs
    refine wpIn_seq ?_
    refine reg ?_
    refine qe (d_nextA 0 hS rfl rfl hasc) ?_
    clear hS
    rintro _ w_2 ⟨vs, rfl, hv0, hv2, hS⟩
    refine qq hS (g_extract rfl hv0) ?_
    refine ol_nil (thenN ?_)
    refine wpIn_seq ?_
    refine cond_s rfl ?_ ?_
    ·
      intro hc8
      try simp only [Bool.and_eq_true, Bool.or_eq_true, Bool.not_eq_true', Bool.and_eq_false_imp, Bool.or_eq_false_iff, Bool.not_eq_false', decide_eq_true_eq, decide_eq_false_iff_not] at hc8
      have h3 := hs3 k hc8
      rw [if_pos hc8] at hS
      refine wpIn_skip ?_
      refine thenN ?_
      refine wpIn_block ?_
      refine wpIn_seq ?_
      refine reg ?_
      refine qq hS (g_extract rfl (hv2 hc8)) ?_
      refine qq hS (g_assignv (v := .int .i32 _) rfl) ?_
      refine ol_nil (thenN ?_)
      refine wpIn_seq ?_
      refine reg ?_
      refine qq hS (g_movev (v := .int .i32 _) rfl) ?_
      refine qq hS (g_lss rfl rfl) ?_
      refine qq hS (g_movev (v := .bool _) rfl) ?_
      refine qu rfl rfl hS (fun hg => (g_movev (v := .int .i32 _) rfl)) ?_
      intro u13 hu13 hn13
      refine qu rfl rfl hS (fun hg => (g_gtr (hu13 hg) rfl)) ?_
      intro u14 hu14 hn14
      refine qq hS (g_or rfl rfl (fun hq => hu14 hq)) ?_
      refine qq hS (g_movev (v := .bool _) rfl) ?_
      refine qu rfl rfl hS (fun hg => (g_movev (v := .int .i32 _) rfl)) ?_
      intro u17 hu17 hn17
      refine qu rfl rfl hS (fun hg => (g_lss (hu17 hg) rfl)) ?_
      intro u18 hu18 hn18
      refine qu rfl rfl hS (fun hg => (g_movev (hu18 hg))) ?_
      intro u19 hu19 hn19
      refine qn rfl hu19 hn19 hS (fun hg => (g_movev (v := .int .i32 _) rfl)) ?_
      intro u20 hu20 hn20
      refine qn rfl hu19 hn19 hS (fun hg => (g_gtr (hu20 hg) rfl)) ?_
      intro u21 hu21 hn21
      refine qu rfl rfl hS (fun hg => (g_or (hu19 hg) rfl (fun hq => hu21 ⟨hg, hq⟩))) ?_
      intro u22 hu22 hn22
      refine qq hS (g_and rfl rfl (fun hq => hu22 hq)) ?_
      refine qq hS (g_movev (v := .bool _) rfl) ?_
      refine qu rfl rfl hS (fun hg => (g_movev (v := .int .i32 _) rfl)) ?_
      intro u25 hu25 hn25
      refine qu rfl rfl hS (fun hg => (g_lss (hu25 hg) rfl)) ?_
      intro u26 hu26 hn26
      refine qu rfl rfl hS (fun hg => (g_movev (hu26 hg))) ?_
      intro u27 hu27 hn27
      refine qn rfl hu27 hn27 hS (fun hg => (g_movev (v := .int .i32 _) rfl)) ?_
      intro u28 hu28 hn28
      refine qn rfl hu27 hn27 hS (fun hg => (g_gtr (hu28 hg) rfl)) ?_
      intro u29 hu29 hn29
      refine qu rfl rfl hS (fun hg => (g_or (hu27 hg) rfl (fun hq => hu29 ⟨hg, hq⟩))) ?_
      intro u30 hu30 hn30
      refine qq hS (g_and rfl rfl (fun hq => hu30 hq)) ?_
      refine ol_nil (thenN ?_)
      refine cond_s rfl ?_ ?_
      ·
        intro hc31
        clear hu13 hn13 hu14 hn14 hu17 hn17 hu18 hn18 hu19 hn19 hu20 hn20 hu21 hn21 hu22 hn22 hu25 hn25 hu26 hn26 hu27 hn27 hu28 hn28 hu29 hn29 hu30 hn30
        exfalso
        simp only [Bool.and_eq_true, Bool.or_eq_true, decide_eq_true_eq] at hc31
        omega
      ·
        intro hc31
        clear hu13 hn13 hu14 hn14 hu17 hn17 hu18 hn18 hu19 hn19 hu20 hn20 hu21 hn21 hu22 hn22 hu25 hn25 hu26 hn26 hu27 hn27 hu28 hn28 hu29 hn29 hu30 hn30
        refine wpIn_skip ?_
        refine blkN (thenN ?_)
        exact ⟨k + 1, _, rfl, ⟨⟨rfl, rfl, trivial⟩, hS.sel [true], by omega⟩, by omega⟩
    ·
      intro hc8
      try simp only [Bool.and_eq_true, Bool.or_eq_true, Bool.not_eq_true', Bool.and_eq_false_imp, Bool.or_eq_false_iff, Bool.not_eq_false', decide_eq_true_eq, decide_eq_false_iff_not] at hc8
      rw [if_neg hc8] at hS
      refine wpIn_exit ?_
      refine thenE (thenE (blkE ?_))
      refine thenN ?_
      refine wpIn_seq ?_
      refine reg ?_
      refine qq hS (g_move _) ?_
      refine qq hS (g_lenStr rfl Tryz.underlying9 rfl) ?_
      refine qq hS (g_leq rfl rfl) ?_
      refine qq hS (g_movev (v := .bool _) rfl) ?_
      refine qu rfl rfl hS (fun hg => (g_move _)) ?_
      intro u36 hu36 hn36
      refine qu rfl rfl hS (fun hg => (g_lenStr rfl Tryz.underlying9 (hu36 hg))) ?_
      intro u37 hu37 hn37
      refine qu rfl rfl hS (fun hg => (g_leq (hu37 hg) rfl)) ?_
      intro u38 hu38 hn38
      refine qq hS (g_and rfl rfl (fun hq => hu38 hq)) ?_
      refine qq hS (g_assignv (v := .bool _) rfl) ?_
      refine ol_nil (thenN ?_)
      refine wpIn_ret ?_
      refine ret1 Tryz.results123 (rv_tmp (v := .bool _) rfl) ?_
      refine ⟨?_, hS.nil⟩
      congr 1
      simp only [Bool.and_eq_true, decide_eq_true_eq]
      omega

set_option maxHeartbeats 2000000 in
theorem validI_c (ad : Option Addr) (cap : Nat) (l : List SecL) (n : Int) (w0 : World) (I0 : Imm) (hI : Sat I0 w0) (hl : RSecs I0 (.slice ad l.length cap) l) (hok : SecsOk l) (hn : Mid n) :
    Ctr Tryz.prog 86 [.slice ad l.length cap, .int .i64 n] w0 (fun v w' => v = .bool (!(l.any fun s => decide (n < s.to))) ∧ Ext w0 I0 w' I0) := by
  have hlen := hok.len
  obtain ⟨hn1, hn2⟩ := hn
  have hcap := (hl.resl2 0 l.length (by omega) (Nat.le_refl _)).2.1
  refine fn (n := 67) Tryz.func86 rfl rfl rfl ?_
  have hS := St.start hI
  refine wpIn_seq ?_
  refine reg ?_
  refine qq hS (g_assignv (v := .bool _) rfl) ?_
  refine ol_nil (thenN ?_)
  refine wpIn_seq ?_
  refine reg ?_
  refine qq hS (g_assignv (v := .int .i64 _) rfl) ?_
  refine ol_nil (thenN ?_)
  refine wpIn_seq ?_
  refine wpIn_seq ?_
  refine reg ?_
  refine qq hS (g_move _) ?_
  refine qq hS (g_lenI rfl Tryz.underlying73 hl rfl) ?_
  refine qq hS (g_movev (v := .int .i64 _) rfl) ?_
  refine ol_nil (thenN ?_)
  refine wpIn_block ?_
  refine loop (fun (k : Nat) σ w => okS σ [(0, .slice ad l.length cap), (1, .int .i64 n), (5, .int .i64 (lastTo l k)), (9, .slice ad l.length cap), (10, .int .i64 l.length), (11, .int .i64 k)] ∧ ∃ I, St [] w0 I0 I w [] ∧ k ≤ l.length ∧ ∀ s ∈ l.take k, decide (n < s.to) = false) (fun k => l.length - k) (0) ?_ ?_
  ·
    exact ⟨⟨rfl, rfl, rfl, rfl, rfl, rfl, trivial⟩, _, hS.sel [], by simp, by simp⟩
  ·
    rintro k σ w_l ⟨hs, I, hS, hk0, hall⟩
    rw [← upds_self hs]; clear hs
    have hlb := secs_last hok hk0
    refine wpIn_seq ?_
    refine reg ?_
    refine qq hS (g_lss rfl rfl) ?_
    refine ol_nil (thenN ?_)
    refine wpIn_seq ?_
    refine cond_s rfl ?_ ?_
    ·
      intro hc12
      try simp only [Bool.and_eq_true, Bool.or_eq_true, Bool.not_eq_true', Bool.and_eq_false_imp, Bool.or_eq_false_iff, Bool.not_eq_false', decide_eq_true_eq, decide_eq_false_iff_not] at hc12
      obtain ⟨s, hsi⟩ : ∃ s, l[k]? = some s := ⟨_, List.getElem?_eq_getElem (by omega)⟩
      have hsA := (hl.mono hS.ext).at hsi
      obtain ⟨hnm, hlo, hft, hto, hcd⟩ := hok.each k s hsi
      have hge := hok.ge k s hsi
      have hnx := lastTo_at hsi
      refine wpIn_skip ?_
      refine thenN ?_
      refine wpIn_seq ?_
      refine wpIn_block ?_
      refine wpIn_seq ?_
      refine reg ?_
      refine qq hS (g_movev (v := .int .i64 _) rfl) ?_
      refine qq hS (g_ixI Tryz.underlying73 Tryz.sizeOf77 (hl.mono hS.ext) rfl rfl (by omega) (by omega)) ?_
      refine qq hS (g_ldE (us := [.string _, .int .i64 _, .int .i64 _, .bool _]) Tryz.sizeOf77 Tryz.isAgg77 hsA rfl rfl rfl) ?_
      refine qe (d_alloc (cs := [.string _, .int .i64 _, .int .i64 _, .bool _]) hS Tryz.zeroValue77 rfl) ?_
      clear hS
      rintro _ w_1 ⟨b7, rfl, hS⟩
      refine qq hS (g_assignv (v := .int .i64 _) rfl) ?_
      refine qe (d_store 0 hS Tryz.sizeOf77 rfl rfl rfl (vs := [.string _, .int .i64 _, .int .i64 _, .bool _]) rfl rfl rfl (Nat.le_of_ble_eq_true rfl) (cs' := [_, _, _, _]) rfl) ?_
      clear hS
      rintro _ w_2 ⟨rfl, hS⟩
      refine ol_nil (thenN ?_)
      refine wpIn_seq ?_
      obtain ⟨I7, hS7, hI7, hb7⟩ := hS.freeze1
      clear hS
      replace hS := hS7
      clear hS7
      refine reg ?_
      refine qq hS (g_makeFuncL ml0 (ml rfl ml0)) ?_
      refine qq hS (g_assign _) ?_
      refine ol_nil (thenN ?_)
      refine wpIn_seq ?_
      refine wpIn_seq ?_
      refine reg ?_
      refine qq hS (g_fieldAddr (o' := 0) Tryz.underlying77 rfl Tryz.sizeOf9 rfl rfl rfl) ?_
      refine qq hS (g_ldB1 (c := 0) Tryz.isAgg9 hb7 rfl rfl) ?_
      refine qe (d_call Tryz.call123 rfl (isName_c s.name _ _ hS.imm hnm)) ?_
      rintro _ w_3 ⟨rfl, hE⟩
      replace hS := hS.callE hE
      refine qq hS (g_not rfl) ?_
      refine qq hS (g_movev (v := .bool _) rfl) ?_
      refine qu rfl rfl hS (fun hg => (g_fieldAddr (o' := 1) Tryz.underlying77 rfl Tryz.sizeOf3 rfl rfl rfl)) ?_
      intro u22 hu22 hn22
      refine qu rfl rfl hS (fun hg => (g_ldB1 (c := 1) Tryz.isAgg3 hb7 (hu22 hg) rfl)) ?_
      intro u23 hu23 hn23
      refine qu rfl rfl hS (fun hg => (g_movev (v := .int .i64 _) rfl)) ?_
      intro u24 hu24 hn24
      refine qu rfl rfl hS (fun hg => (g_lss (hu23 hg) (hu24 hg))) ?_
      intro u25 hu25 hn25
      refine qq hS (g_or rfl rfl (fun hq => hu25 hq)) ?_
      refine qq hS (g_movev (v := .bool _) rfl) ?_
      refine qu rfl rfl hS (fun hg => (g_fieldAddr (o' := 2) Tryz.underlying77 rfl Tryz.sizeOf3 rfl rfl rfl)) ?_
      intro u28 hu28 hn28
      refine qu rfl rfl hS (fun hg => (g_ldB1 (c := 2) Tryz.isAgg3 hb7 (hu28 hg) rfl)) ?_
      intro u29 hu29 hn29
      refine qu rfl rfl hS (fun hg => (g_fieldAddr (o' := 1) Tryz.underlying77 rfl Tryz.sizeOf3 rfl rfl rfl)) ?_
      intro u30 hu30 hn30
      refine qu rfl rfl hS (fun hg => (g_ldB1 (c := 1) Tryz.isAgg3 hb7 (hu30 hg) rfl)) ?_
      intro u31 hu31 hn31
      refine qu rfl rfl hS (fun hg => (g_leq (hu29 hg) (hu31 hg))) ?_
      intro u32 hu32 hn32
      refine qq hS (g_or rfl rfl (fun hq => hu32 hq)) ?_
      refine qq hS (g_movev (v := .bool _) rfl) ?_
      refine qu rfl rfl hS (fun hg => (g_fieldAddr (o' := 2) Tryz.underlying77 rfl Tryz.sizeOf3 rfl rfl rfl)) ?_
      intro u35 hu35 hn35
      refine qu rfl rfl hS (fun hg => (g_ldB1 (c := 2) Tryz.isAgg3 hb7 (hu35 hg) rfl)) ?_
      intro u36 hu36 hn36
      refine qu rfl rfl hS (fun hg => (g_movev (v := .int .i64 _) rfl)) ?_
      intro u37 hu37 hn37
      refine qu rfl rfl hS (fun hg => (g_gtr (hu36 hg) (hu37 hg))) ?_
      intro u38 hu38 hn38
      refine qq hS (g_or rfl rfl (fun hq => hu38 hq)) ?_
      refine qq hS (g_movev (v := .bool _) rfl) ?_
      refine qu rfl rfl hS (fun hg => (g_move _)) ?_
      intro u41 hu41 hn41
      refine qu rfl rfl hS (fun hg => (g_movev (v := .int .i64 _) rfl)) ?_
      intro u42 hu42 hn42
      refine qu rfl rfl hS (fun hg => (g_sliceHN (h0 := k) Tryz.underlying73 Tryz.sizeOf77 (hu41 hg) (hu42 hg) (by omega) (by omega) (by omega))) ?_
      intro u43 hu43 hn43
      refine qu rfl rfl hS (fun hg => (g_move _)) ?_
      intro u44 hu44 hn44
      refine cvu rfl rfl hS (fun hg => (d_call Tryz.call124 (ml (hu43 hg) (ml (hu44 hg) ml0)) (containsSec_c _ (l.take k) 122 [.pointer (some ⟨b7, 0, none⟩)] (fun y => y.name.toList == s.name.toList) _ _ hS.imm ((hl.mono hS.ext).resl2 0 k (by omega) (by omega)).1 Tryz.call122 (fun y w hs => twin_c s y b7 w _ hs hb7)))) ?_
      intro w_5 u45 hS hu45 hn45
      refine qq hS (g_or rfl rfl (fun hq => hu45 hq)) ?_
      refine ol_nil (thenN ?_)
      refine cond_s rfl ?_ ?_
      ·
        intro hc46
        clear hu22 hn22 hu23 hn23 hu24 hn24 hu25 hn25 hu28 hn28 hu29 hn29 hu30 hn30 hu31 hn31 hu32 hn32 hu35 hn35 hu36 hn36 hu37 hn37 hu38 hn38 hu41 hn41 hu42 hn42 hu43 hn43 hu44 hn44 hu45 hn45
        rw [secs_name hok hsi] at hc46
        simp only [Bool.or_eq_true, Bool.or_eq_false_iff, decide_eq_true_eq, decide_eq_false_iff_not] at hc46
        have hnt : decide (n < s.to) = true := by
          simp only [Bool.not_true, Bool.false_eq_true, false_or, or_false] at hc46
          rcases hc46 with (h | h) | h
          · omega
          · omega
          · exact decide_eq_true h
        have e : (!(l.any fun s => decide (n < s.to))) = false := by rw [List.any_eq_true.2 ⟨s, List.mem_of_getElem? hsi, hnt⟩]; rfl
        refine wpIn_seq ?_
        refine reg ?_
        refine qq hS (g_assignv (v := .bool _) rfl) ?_
        refine ol_nil (thenN ?_)
        refine wpIn_ret ?_
        refine thenR (blkR (thenR (thenR (blkR (thenR ?_)))))
        refine ret1 Tryz.results86 (rv_tmp (v := .bool _) rfl) ?_
        rw [e]; exact ⟨rfl, Ext.forget hS.nil⟩
      ·
        intro hc46
        clear hu22 hn22 hu23 hn23 hu24 hn24 hu25 hn25 hu28 hn28 hu29 hn29 hu30 hn30 hu31 hn31 hu32 hn32 hu35 hn35 hu36 hn36 hu37 hn37 hu38 hn38 hu41 hn41 hu42 hn42 hu43 hn43 hu44 hn44 hu45 hn45
        rw [secs_name hok hsi] at hc46
        simp only [Bool.or_eq_true, Bool.or_eq_false_iff, decide_eq_true_eq, decide_eq_false_iff_not] at hc46
        have hnf : decide (n < s.to) = false := decide_eq_false (by omega)
        refine wpIn_skip ?_
        refine thenN ?_
        refine wpIn_seq ?_
        refine wpIn_seq ?_
        refine reg ?_
        refine qq hS (g_fieldAddr (o' := 3) Tryz.underlying77 rfl Tryz.sizeOf4 rfl rfl rfl) ?_
        refine qq hS (g_ldB1 (c := 3) Tryz.isAgg4 hb7 rfl rfl) ?_
        refine qq hS (g_movev (v := .bool _) rfl) ?_
        refine qu rfl rfl hS (fun hg => (g_fieldAddr (o' := 1) Tryz.underlying77 rfl Tryz.sizeOf3 rfl rfl rfl)) ?_
        intro u50 hu50 hn50
        refine qu rfl rfl hS (fun hg => (g_ldB1 (c := 1) Tryz.isAgg3 hb7 (hu50 hg) rfl)) ?_
        intro u51 hu51 hn51
        refine qu rfl rfl hS (fun hg => (g_rem (hu51 hg) rfl (by omega) (by omega))) ?_
        intro u52 hu52 hn52
        refine qu rfl rfl hS (fun hg => (g_neq (hu52 hg) rfl)) ?_
        intro u53 hu53 hn53
        refine qu rfl rfl hS (fun hg => (g_movev (hu53 hg))) ?_
        intro u54 hu54 hn54
        refine qn rfl hu54 hn54 hS (fun hg => (g_fieldAddr (o' := 2) Tryz.underlying77 rfl Tryz.sizeOf3 rfl rfl rfl)) ?_
        intro u55 hu55 hn55
        refine qn rfl hu54 hn54 hS (fun hg => (g_ldB1 (c := 2) Tryz.isAgg3 hb7 (hu55 hg) rfl)) ?_
        intro u56 hu56 hn56
        refine qn rfl hu54 hn54 hS (fun hg => (g_rem (hu56 hg) rfl (by omega) (by omega))) ?_
        intro u57 hu57 hn57
        refine qn rfl hu54 hn54 hS (fun hg => (g_neq (hu57 hg) rfl)) ?_
        intro u58 hu58 hn58
        refine qu rfl rfl hS (fun hg => (g_or (hu54 hg) rfl (fun hq => hu58 ⟨hg, hq⟩))) ?_
        intro u59 hu59 hn59
        refine qq hS (g_and rfl rfl (fun hq => hu59 hq)) ?_
        refine ol_nil (thenN ?_)
        refine cond_s rfl ?_ ?_
        ·
          intro hc60
          clear hu50 hn50 hu51 hn51 hu52 hn52 hu53 hn53 hu54 hn54 hu55 hn55 hu56 hn56 hu57 hn57 hu58 hn58 hu59 hn59
          exfalso
          simp only [Bool.and_eq_true, Bool.or_eq_true, decide_eq_true_eq] at hc60
          have := hcd hc60.1
          simp [this.1, this.2] at hc60
        ·
          intro hc60
          clear hu50 hn50 hu51 hn51 hu52 hn52 hu53 hn53 hu54 hn54 hu55 hn55 hu56 hn56 hu57 hn57 hu58 hn58 hu59 hn59
          refine wpIn_skip ?_
          refine thenN ?_
          refine reg ?_
          refine qq hS (g_fieldAddr (o' := 2) Tryz.underlying77 rfl Tryz.sizeOf3 rfl rfl rfl) ?_
          refine qq hS (g_ldB1 (c := 2) Tryz.isAgg3 hb7 rfl rfl) ?_
          refine qq hS (g_assignv (v := .int .i64 _) rfl) ?_
          refine ol_nil (blkN (thenN ?_))
          refine reg ?_
          refine qq hS (g_add rfl rfl (by omega) (by omega)) ?_
          refine qq hS (g_movev (v := .int .i64 _) rfl) ?_
          refine ol_nil (thenN ?_)
          exact ⟨k + 1, _, rfl, ⟨⟨rfl, rfl, congrArg (Value.int .i64) hnx.symm, rfl, rfl, rfl, trivial⟩, _, hS.sel [], by omega, any_take hsi hall hnf⟩, by omega⟩
    ·
      intro hc12
      try simp only [Bool.and_eq_true, Bool.or_eq_true, Bool.not_eq_true', Bool.and_eq_false_imp, Bool.or_eq_false_iff, Bool.not_eq_false', decide_eq_true_eq, decide_eq_false_iff_not] at hc12
      have hk : k = l.length := by omega
      subst hk
      rw [List.take_length] at hall
      have e : (!(l.any fun s => decide (n < s.to))) = true := by
        rw [List.any_eq_false.2 (fun y hy => by rw [hall y hy]; simp)]; rfl
      refine wpIn_exit ?_
      refine thenE (thenE (blkE ?_))
      refine thenN ?_
      refine wpIn_seq ?_
      refine reg ?_
      refine qq hS (g_move _) ?_
      refine qq hS (g_lenI rfl Tryz.underlying73 (hl.mono hS.ext) rfl) ?_
      refine qq hS (g_leq rfl rfl) ?_
      refine qq hS (g_assignv (v := .bool _) rfl) ?_
      refine ol_nil (thenN ?_)
      refine wpIn_ret ?_
      refine ret1 Tryz.results86 (rv_tmp (v := .bool _) rfl) ?_
      rw [e]; exact ⟨bT (by omega), Ext.forget hS.nil⟩

end Go.Proofs.YtodopmclnklgdaaGreat


namespace Go.Proofs.YtodopmclnklgdaaGreat
open Go Go.RowKit Go.Inl
set_option linter.unusedSimpArgs false
set_option linter.unusedVariables false
theorem syms_ok (p : PatL) (ad : Option Addr) (m cap : Nat) (w0 : World) (I0 : Imm) (hI : Sat I0 w0) (hops : ROps I0 (.slice ad m cap) p.ops) (hp : p.wf) (hc : (checkP p).2 = 0) :
    Ctr Tryz.prog 49 [.agg #[.bool p.lifted, .int .i64 p.in_, .int .i64 p.out, .slice ad m cap]] w0 (fun v w' => ∃ I' a c, v = .tuple #[.slice a (symsOf p.ops).length c, .int .i64 0] ∧ Ext w0 I0 w' I' ∧ RSyms I' (.slice a (symsOf p.ops).length c) (symsOf p.ops)) :=
  symbols_e p ad m cap (symsOf p.ops, 0) w0 I0 hI hops hp (symbolsP_ok hc)
theorem plain_ok {p : PatL} (h : plainP p = 0) : (checkP p).2 = 0 := by
  unfold plainP at h
  split at h
  · rename_i h1; exact absurd h h1
  · rename_i h1; simpa using h1

set_option maxHeartbeats 2000000 in
theorem collect_c (p : PatL) (rs : List (Int × Int)) (gf : FuncId) (lb : List Value) (ad : Option Addr) (m cap : Nat) (w0 : World) (I0 : Imm) (hI : Sat I0 w0) (hops : ROps I0 (.slice ad m cap) p.ops) (hp : p.wf) (hc : (checkP p).2 = 0) (ho : p.out ≤ 4096) (hin : RangesIn rs p.out) (hrn : rs.length ≤ 65536)
    (hcf : ∀ args w, (callFunc gf args).run Tryz.prog w = .ok (.enter gf args) w) (hit : IterC Tryz.prog gf lb (rgA rs) rs.length I0) :
    Ctr Tryz.prog 79 [.agg #[.bool p.lifted, .int .i64 p.in_, .int .i64 p.out, .slice ad m cap], .func (.func gf) #[] lb.toArray] w0 (fun v w' => ∃ I' a c, v = .tuple #[.slice a (partsP p rs).length c, .int .i64 0] ∧ Ext w0 I0 w' I' ∧ RPats I' (.slice a (partsP p rs).length c) (partsP p rs)) := by
  have hck := checkP_ok hc
  have hpin := hp.in_
  refine fnM (n := 44) Tryz.func79 rfl rfl rfl ?_
  have hS := St.start hI
  refine wpIn_seq ?_
  refine reg ?_
  refine qe (d_box (cs := [.bool _, .int .i64 _, .int .i64 _, .slice _ _ _]) hS rfl) ?_
  clear hS
  rintro _ w_1 ⟨b2, rfl, hS⟩
  refine qe (d_alloc (cs := [.slice _ _ _]) hS Tryz.zeroValue42 rfl) ?_
  clear hS
  rintro _ w_2 ⟨b4, rfl, hS⟩
  refine qe (d_alloc (cs := [.int .i64 _]) hS Tryz.zeroValue31 rfl) ?_
  clear hS
  rintro _ w_3 ⟨b5, rfl, hS⟩
  refine ol_nil (thenN ?_)
  refine wpIn_seq ?_
  refine reg ?_
  refine qq hS (g_ldO 2 (vs := [.bool _, .int .i64 _, .int .i64 _, .slice _ _ _]) Tryz.sizeOf29 Tryz.isAgg29 rfl rfl rfl rfl) ?_
  refine qe (d_call Tryz.call49 rfl (syms_ok p ad m cap _ _ hS.imm hops hp hc)) ?_
  rintro _ w_4 ⟨I5, a5, c5, rfl, hE, h5⟩
  replace hS := hS.callE hE
  replace hops := hops.mono hE.ext
  refine qq hS (g_move _) ?_
  refine qq hS (g_extract rfl rfl) ?_
  refine qq hS (g_extract (v := .int .i64 _) rfl rfl) ?_
  refine qe (d_alloc (cs := [.slice _ _ _]) hS Tryz.zeroValue83 rfl) ?_
  clear hS
  rintro _ w_5 ⟨b6, rfl, hS⟩
  refine qe (d_store 0 hS Tryz.sizeOf83 rfl rfl rfl (vs := [.slice _ _ _]) rfl rfl rfl (Nat.le_of_ble_eq_true rfl) (cs' := [_]) rfl) ?_
  clear hS
  rintro _ w_6 ⟨rfl, hS⟩
  refine qq hS (g_assignv (v := .int .i64 _) rfl) ?_
  refine ol_nil (thenN ?_)
  refine wpIn_seq ?_
  refine wpIn_seq ?_
  refine reg ?_
  refine qq hS (g_movev (v := .int .i64 _) rfl) ?_
  refine qq hS (g_neq rfl rfl) ?_
  refine ol_nil (thenN ?_)
  refine cond_f (rfl) ?_
  refine wpIn_skip ?_
  refine thenN ?_
  refine wpIn_seq ?_
  refine reg ?_
  refine qe (d_alloc (cs := [.slice _ _ _]) hS Tryz.zeroValue42 rfl) ?_
  clear hS
  rintro _ w_7 ⟨b8, rfl, hS⟩
  refine ol_nil (thenN ?_)
  refine wpIn_seq ?_
  refine wpIn_seq ?_
  refine reg ?_
  refine qq hS (g_move _) ?_
  refine ol_nil (thenN ?_)
  refine wpIn_block ?_
  replace hS := hS.nilRow 29 4
  refine range_wp (N := rs.length) (arg := rgA rs) (fun k I L => ∃ css a c, L = [.row (.slice a k c) 29 4 k css.flatten, .cel b8 42 [.slice a k c], .cel b6 83 [.slice a5 (symsOf p.ops).length c5], .cel b5 31 [.int .i64 0], .cel b4 42 [.slice none 0 0], .cel b2 29 [.bool p.lifted, .int .i64 p.in_, .int .i64 p.out, .slice ad m cap]] ∧ All2 (RPatC I) css (partsP p (rs.take k)) ∧ (∀ cs ∈ css, cs.length = 4) ∧ Inl.Sub I5 I) (fun k c I L => False) hS rfl hcf (iterC_mono hit hS.ext) (fun _ => rfl) ?_ (⟨[], none, 0, rfl, by simpa [partsP] using All2.nil _, by simp, Inl.Sub.refl _⟩) ?_ ?_ ?_
  ·
    rintro k I I' L ⟨css, a, c, hL, hall, hcl, hsub⟩ hs
    exact ⟨css, a, c, hL, hall.mono fun _ _ h => h.mono hs, hcl, hsub.trans hs⟩
  ·
    rintro k l D oR oB I1 w1 L1 X1 hk ⟨css, a, c, rfl, hall, hcl4, hsub1⟩ hS
    obtain ⟨r, hri⟩ : ∃ r, rs[k]? = some r := ⟨_, List.getElem?_eq_getElem hk⟩
    rw [rgA_at hri]
    replace h5 := h5.mono hsub1
    have hrin := hin r (List.mem_of_getElem? hri)
    have hpr : cheapP (((symsOf p.ops).take r.2.toNat).drop r.1.toNat) p.in_ = (partP p r, 0) := by unfold partP; rw [part_ok hc ho r]
    have hc5 := (h5.resl2 0 (symsOf p.ops).length (by omega) (Nat.le_refl _)).2.1
    show Code.wpIn _ _ _ _ _ (act _ [] (upd _ 21 _)) _
    refine reg ?_
    refine qe (d_alloc (cs := [.int .i64 _, .int .i64 _]) hS Tryz.zeroValue117 rfl) ?_
    clear hS
    rintro _ w_8 ⟨b9, rfl, hS⟩
    refine qe (d_store 0 hS Tryz.sizeOf117 rfl rfl rfl (vs := [.int .i64 _, .int .i64 _]) rfl rfl rfl (Nat.le_of_ble_eq_true rfl) (cs' := [_, _]) rfl) ?_
    clear hS
    rintro _ w_9 ⟨rfl, hS⟩
    refine ol_nil ?_
    refine thenN ⟨_, _, _, rfl, (hS.ord [1, 2, 0, 3, 4, 5, 6, 7, 8]), ?_⟩
    intro w_b hS
    refine wpIn_block ?_
    refine wpIn_seq ?_
    refine draw (.cons 0 .held (.cons 1 .pure (.cons 2 .held (.cons 3 .pure (.cons 4 .held (.cons 5 .pure (.cons 6 .held (.cons 7 .pure (.cons 8 .pure (.cons 9 .held (.fork 10 (.cons 11 .pure (.cons 12 .pure (.cons 13 .pure (.cons 14 .eff (.cons 15 .bar (.cons 16 .pure .nil)))))) 14 (.cons 10 .eff (.cons 11 .pure (.cons 12 .pure (.cons 13 .pure (.cons 15 .bar (.cons 16 .pure .nil))))))))))))))))) mixed (by kernel_rfl) hS ?_
    intro w_10 hS
    refine sh rfl (g_ldO1 5 Tryz.isAgg83 rfl rfl rfl) ?_
    refine sp rfl (g_fieldAddr (o' := 0) Tryz.underlying117 rfl Tryz.sizeOf3 rfl rfl rfl) ?_
    refine sh rfl (g_ldO1 2 Tryz.isAgg3 rfl rfl rfl) ?_
    refine sp rfl (g_fieldAddr (o' := 1) Tryz.underlying117 rfl Tryz.sizeOf3 rfl rfl rfl) ?_
    refine sh rfl (g_ldO1 2 Tryz.isAgg3 rfl rfl rfl) ?_
    refine sp rfl (g_fieldAddr (o' := 1) Tryz.underlying117 rfl Tryz.sizeOf3 rfl rfl rfl) ?_
    refine sh rfl (g_ldO1 2 Tryz.isAgg3 rfl rfl rfl) ?_
    refine sp rfl (g_slice3N (l0 := r.1.toNat) (h0 := r.2.toNat) (m0 := r.2.toNat) Tryz.underlying83 Tryz.sizeOf81 rfl rfl rfl rfl (by omega) (by omega) (by omega) (by omega) (by omega) (by omega) (by omega)) ?_
    refine sp rfl (g_fieldAddr (o' := 1) Tryz.underlying29 rfl Tryz.sizeOf3 rfl rfl rfl) ?_
    refine sh rfl (g_ldO1 8 Tryz.isAgg3 rfl rfl rfl) ?_
    refine sk ?_ ?_
    ·
      have hS0 := hS
      refine se rfl (d_call Tryz.call47 rfl (cheapest_V _ (((symsOf p.ops).take r.2.toNat).drop r.1.toNat) p.in_ (partP p r) _ _ hS.imm (RSl.resl h5 r.1.toNat r.2.toNat (by omega) (by omega)) (partP_wf hp hc r) hpr)) ?_
      rintro _ w_11 ⟨I_f, a33, m33, c33, rfl, hE, h33⟩
      replace hS := hS.call hE
      replace h5 := h5.mono hE.ext
      refine ⟨_, _, hS0.le hE.ext (List.Sublist.refl _), hS, ?_⟩
      refine sp rfl (g_move _) ?_
      refine sp rfl (g_extract rfl rfl) ?_
      refine sp rfl (g_extract (v := .int .i64 _) rfl rfl) ?_
      have hS0 := hS
      refine se rfl (d_alloc (cs := [.bool _, .int .i64 _, .int .i64 _, .slice _ _ _]) hS Tryz.zeroValue29 rfl) ?_
      rintro _ w_12 ⟨b10, rfl, hS⟩
      refine ⟨_, _, hS0.le (Sub.refl _) (List.sublist_cons_self _ _), hS, ?_⟩
      refine sb rfl (d_store 0 hS Tryz.sizeOf29 rfl rfl rfl (vs := [.bool _, .int .i64 _, .int .i64 _, .slice _ _ _]) rfl rfl rfl (Nat.le_of_ble_eq_true rfl) (cs' := [_, _, _, _]) rfl) ?_
      rintro _ w_13 ⟨rfl, hS⟩
      refine ⟨_, _, hS, ?_⟩
      refine sp rfl (g_assignv (v := .int .i64 _) rfl) ?_
      refine sn (thenN ?_)
      refine wpIn_seq ?_
      refine wpIn_seq ?_
      refine reg ?_
      refine qq hS (g_movev (v := .int .i64 _) rfl) ?_
      refine qq hS (g_neq rfl rfl) ?_
      refine ol_nil (thenN ?_)
      refine cond_f (rfl) ?_
      refine wpIn_skip ?_
      refine thenN ?_
      refine reg ?_
      refine qq hS (g_ldO1 5 Tryz.isAgg42 rfl rfl rfl) ?_
      refine qq hS (g_ldO 0 (vs := [.bool _, .int .i64 _, .int .i64 _, .slice _ _ _]) Tryz.sizeOf29 Tryz.isAgg29 rfl rfl rfl rfl) ?_
      refine qe (d_lit (vs := [.agg #[.bool _, .int .i64 _, .int .i64 _, .slice _ _ _]]) (cs := [.bool _, .int .i64 _, .int .i64 _, .slice _ _ _]) hS Tryz.underlying42 Tryz.sizeOf29 Tryz.zeroValue29 rfl rfl rfl rfl (fun v hv => by simp only [List.mem_cons, List.not_mem_nil, or_false] at hv; subst hv; rfl) rfl) ?_
      clear hS
      rintro _ w_14 ⟨b_14, rfl, hS⟩
      refine qe (i_appendO 5 0 hS rfl Tryz.underlying42 info29 rfl rfl rfl rfl rfl rfl rfl rfl (by omega) (by omega)) ?_
      clear hS
      rintro _ w_15 ⟨a42, p42, rfl, hS⟩
      refine qe (d_store 6 hS Tryz.sizeOf42 rfl rfl rfl (vs := [.slice _ _ _]) rfl rfl rfl (Nat.le_of_ble_eq_true rfl) (cs' := [_]) rfl) ?_
      clear hS
      rintro _ w_16 ⟨rfl, hS⟩
      refine ol_nil (blkN ?_)
      refine ⟨_, _, (hS.sel [false, false, true, true, false, true, true, true, true, true, true]), css ++ [[.bool (partP p r).lifted, .int .i64 (partP p r).in_, .int .i64 (partP p r).out, .slice a33 m33 c33]], a42, p42, ?_, ?_, ?_, ?_⟩
      · rw [List.flatten_append, List.flatten_singleton]; rfl
      · unfold partsP at hall ⊢
        rw [take_snoc hri, List.map_append]
        exact All2.snoc (hall.mono fun _ _ h => h.mono hE.ext) ⟨_, _, _, rfl, h33⟩
      · intro cs hcs
        rcases List.mem_append.1 hcs with h | h
        · exact hcl4 cs h
        · simp only [List.mem_singleton] at h; subst h; rfl
      · exact hsub1.trans hE.ext
    ·
      have hS0 := hS
      refine se rfl (d_alloc (cs := [.bool _, .int .i64 _, .int .i64 _, .slice _ _ _]) hS Tryz.zeroValue29 rfl) ?_
      rintro _ w_17 ⟨b10, rfl, hS⟩
      refine ⟨_, _, hS0.le (Sub.refl _) (List.sublist_cons_self _ _), hS, ?_⟩
      have hS0 := hS
      refine se rfl (d_call Tryz.call47 rfl (cheapest_V _ (((symsOf p.ops).take r.2.toNat).drop r.1.toNat) p.in_ (partP p r) _ _ hS.imm (RSl.resl h5 r.1.toNat r.2.toNat (by omega) (by omega)) (partP_wf hp hc r) hpr)) ?_
      rintro _ w_18 ⟨I_f, a33, m33, c33, rfl, hE, h33⟩
      replace hS := hS.call hE
      replace h5 := h5.mono hE.ext
      refine ⟨_, _, hS0.le hE.ext (List.Sublist.refl _), hS, ?_⟩
      refine sp rfl (g_move _) ?_
      refine sp rfl (g_extract rfl rfl) ?_
      refine sp rfl (g_extract (v := .int .i64 _) rfl rfl) ?_
      refine sb rfl (d_store 0 hS Tryz.sizeOf29 rfl rfl rfl (vs := [.bool _, .int .i64 _, .int .i64 _, .slice _ _ _]) rfl rfl rfl (Nat.le_of_ble_eq_true rfl) (cs' := [_, _, _, _]) rfl) ?_
      rintro _ w_19 ⟨rfl, hS⟩
      refine ⟨_, _, hS, ?_⟩
      refine sp rfl (g_assignv (v := .int .i64 _) rfl) ?_
      refine sn (thenN ?_)
      refine wpIn_seq ?_
      refine wpIn_seq ?_
      refine reg ?_
      refine qq hS (g_movev (v := .int .i64 _) rfl) ?_
      refine qq hS (g_neq rfl rfl) ?_
      refine ol_nil (thenN ?_)
      refine cond_f (rfl) ?_
      refine wpIn_skip ?_
      refine thenN ?_
      refine reg ?_
      refine qq hS (g_ldO1 5 Tryz.isAgg42 rfl rfl rfl) ?_
      refine qq hS (g_ldO 0 (vs := [.bool _, .int .i64 _, .int .i64 _, .slice _ _ _]) Tryz.sizeOf29 Tryz.isAgg29 rfl rfl rfl rfl) ?_
      refine qe (d_lit (vs := [.agg #[.bool _, .int .i64 _, .int .i64 _, .slice _ _ _]]) (cs := [.bool _, .int .i64 _, .int .i64 _, .slice _ _ _]) hS Tryz.underlying42 Tryz.sizeOf29 Tryz.zeroValue29 rfl rfl rfl rfl (fun v hv => by simp only [List.mem_cons, List.not_mem_nil, or_false] at hv; subst hv; rfl) rfl) ?_
      clear hS
      rintro _ w_20 ⟨b_20, rfl, hS⟩
      refine qe (i_appendO 5 0 hS rfl Tryz.underlying42 info29 rfl rfl rfl rfl rfl rfl rfl rfl (by omega) (by omega)) ?_
      clear hS
      rintro _ w_21 ⟨a42, p42, rfl, hS⟩
      refine qe (d_store 6 hS Tryz.sizeOf42 rfl rfl rfl (vs := [.slice _ _ _]) rfl rfl rfl (Nat.le_of_ble_eq_true rfl) (cs' := [_]) rfl) ?_
      clear hS
      rintro _ w_22 ⟨rfl, hS⟩
      refine ol_nil (blkN ?_)
      refine ⟨_, _, (hS.sel [false, false, true, true, false, true, true, true, true, true, true]), css ++ [[.bool (partP p r).lifted, .int .i64 (partP p r).in_, .int .i64 (partP p r).out, .slice a33 m33 c33]], a42, p42, ?_, ?_, ?_, ?_⟩
      · rw [List.flatten_append, List.flatten_singleton]; rfl
      · unfold partsP at hall ⊢
        rw [take_snoc hri, List.map_append]
        exact All2.snoc (hall.mono fun _ _ h => h.mono hE.ext) ⟨_, _, _, rfl, h33⟩
      · intro cs hcs
        rcases List.mem_append.1 hcs with h | h
        · exact hcl4 cs h
        · simp only [List.mem_singleton] at h; subst h; rfl
      · exact hsub1.trans hE.ext
  ·
    rintro D I1 w1 L1 ⟨css, a, c, rfl, hall, hcl4, hsub1⟩ hS
    refine blkN (thenN ?_)
    refine wpIn_seq ?_
    refine reg ?_
    refine qq hS (g_ldO1 2 Tryz.isAgg42 rfl rfl rfl) ?_
    refine qe (d_store 5 hS Tryz.sizeOf42 rfl rfl rfl (vs := [.slice _ _ _]) rfl rfl rfl (Nat.le_of_ble_eq_true rfl) (cs' := [_]) rfl) ?_
    clear hS
    rintro _ w_23 ⟨rfl, hS⟩
    refine qe (d_store 4 hS Tryz.sizeOf31 rfl rfl rfl (vs := [.int .i64 _]) rfl rfl rfl (Nat.le_of_ble_eq_true rfl) (cs' := [_]) rfl) ?_
    clear hS
    rintro _ w_24 ⟨rfl, hS⟩
    refine ol_nil (thenN ?_)
    refine wpIn_ret ?_
    refine retD2 Tryz.results79 hS (k := 0) rfl (fun w_r hS => ⟨_, _, (rv_cel1 5 hS Tryz.isAgg42 rfl rfl rfl), (rv_cel1 4 hS Tryz.isAgg31 rfl rfl rfl), ?_⟩)
    rw [List.take_length] at hall
    have hlen : (partsP p rs).length = rs.length := by unfold partsP; rw [List.length_map]
    obtain ⟨I3, hS3, hI3, ho3⟩ := St.freezeRowR (hS.sel [false, true, false, false, false, false, false]) (xs := partsP p rs) hlen.symm hcl4 hall
    rw [hlen]
    exact ⟨I3, a, c, rfl, hS3, RSl.mono ho3 (Inl.Sub.refl _) fun _ _ h => h.mono hI3⟩
  ·
    rintro D k c I1 w1 L1 hk h hS
    exact h.elim

set_option maxHeartbeats 1000000 in
theorem split_c (p : PatL) (l : List SecL) (ad sd : Option Addr) (m cap scap : Nat) (w0 : World) (I0 : Imm) (hI : Sat I0 w0) (hops : ROps I0 (.slice ad m cap) p.ops) (hp : p.wf) (ho : p.out ≤ 4096) (hl : RSecs I0 (.slice sd l.length scap) l) (hok : SecsOk l) :
    Ctr Tryz.prog 43 [.agg #[.bool p.lifted, .int .i64 p.in_, .int .i64 p.out, .slice ad m cap], .slice sd l.length scap] w0 (fun v w' => ∃ I' a c, v = .tuple #[.slice a (splitP p l).1.length c, .int .i64 (splitP p l).2] ∧ Ext w0 I0 w' I' ∧ RPats I' (.slice a (splitP p l).1.length c) (splitP p l).1) := by
  have hlen := hok.len
  have hpo := hp.out
  refine fn (n := 22) Tryz.func43 rfl rfl rfl ?_
  have hS := St.start hI
  refine wpIn_seq ?_
  refine reg ?_
  refine qe (d_box (cs := [.bool _, .int .i64 _, .int .i64 _, .slice _ _ _]) hS rfl) ?_
  clear hS
  rintro _ w_1 ⟨b2, rfl, hS⟩
  refine qe (d_box (cs := [.slice _ _ _]) hS rfl) ?_
  clear hS
  rintro _ w_2 ⟨b3, rfl, hS⟩
  refine qq hS (g_assign _) ?_
  refine qq hS (g_assignv (v := .int .i64 _) rfl) ?_
  refine ol_nil (thenN ?_)
  refine wpIn_seq ?_
  refine wpIn_seq ?_
  refine reg ?_
  refine qq hS (g_ldO 1 (vs := [.bool _, .int .i64 _, .int .i64 _, .slice _ _ _]) Tryz.sizeOf29 Tryz.isAgg29 rfl rfl rfl rfl) ?_
  refine qe (d_call Tryz.call78 rfl (plain_c p ad m cap _ _ hS.imm hops hp)) ?_
  rintro _ w_3 ⟨rfl, hE⟩
  replace hS := hS.callE hE
  refine qq hS (g_assignv (v := .int .i64 _) rfl) ?_
  refine ol_nil (thenN ?_)
  refine wpIn_seq ?_
  refine reg ?_
  refine qq hS (g_movev (v := .int .i64 _) rfl) ?_
  refine qq hS (g_neq rfl rfl) ?_
  refine ol_nil (thenN ?_)
  refine cond_s rfl ?_ ?_
  ·
    intro hc10
    try simp only [Bool.and_eq_true, Bool.or_eq_true, Bool.not_eq_true', Bool.and_eq_false_imp, Bool.or_eq_false_iff, Bool.not_eq_false', decide_eq_true_eq, decide_eq_false_iff_not] at hc10
    have e : splitP p l = ([], plainP p) := by unfold splitP; rw [if_pos hc10]
    refine wpIn_seq ?_
    refine reg ?_
    refine qq hS (g_movev (v := .int .i64 _) rfl) ?_
    refine qq hS (g_assign _) ?_
    refine qq hS (g_assignv (v := .int .i64 _) rfl) ?_
    refine ol_nil (thenN ?_)
    refine wpIn_ret ?_
    refine thenR ?_
    rw [e]
    refine ret2 Tryz.results43 (rv_tmp rfl) (rv_tmp (v := .int .i64 _) rfl) ?_
    exact ⟨_, none, 0, rfl, hS.nil, RSl.nilR⟩
  ·
    intro hc10
    try simp only [Bool.and_eq_true, Bool.or_eq_true, Bool.not_eq_true', Bool.and_eq_false_imp, Bool.or_eq_false_iff, Bool.not_eq_false', decide_eq_true_eq, decide_eq_false_iff_not] at hc10
    have e0 : splitP p l = if l.any (fun s => decide (p.out < s.to)) then ([], 120) else (partsP p (l.map secR), 0) := by unfold splitP; rw [if_neg (by rw [hc10]; decide)]
    refine wpIn_skip ?_
    refine thenN ?_
    refine wpIn_seq ?_
    refine wpIn_seq ?_
    refine reg ?_
    refine qq hS (g_ldO1 0 Tryz.isAgg73 rfl rfl rfl) ?_
    refine qq hS (g_fieldAddr (o' := 2) Tryz.underlying29 rfl Tryz.sizeOf3 rfl rfl rfl) ?_
    refine qq hS (g_ldO1 1 Tryz.isAgg3 rfl rfl rfl) ?_
    refine qe (d_call Tryz.call86 rfl (validI_c sd scap l p.out _ _ hS.imm hl hok hpo)) ?_
    rintro _ w_4 ⟨rfl, hE⟩
    replace hS := hS.callE hE
    refine qq hS (g_not rfl) ?_
    refine ol_nil (thenN ?_)
    refine cond_s rfl ?_ ?_
    ·
      intro hc16
      simp only [Bool.not_not] at hc16
      have e : splitP p l = ([], 120) := by rw [e0, if_pos hc16]
      refine wpIn_seq ?_
      refine reg ?_
      refine qq hS (g_assign _) ?_
      refine qq hS (g_assignv (v := .int .i64 _) rfl) ?_
      refine ol_nil (thenN ?_)
      refine wpIn_ret ?_
      refine thenR ?_
      rw [e]
      refine ret2 Tryz.results43 (rv_tmp rfl) (rv_tmp (v := .int .i64 _) rfl) ?_
      exact ⟨_, none, 0, rfl, hS.nil, RSl.nilR⟩
    ·
      intro hc16
      simp only [Bool.not_not] at hc16
      have e : splitP p l = (partsP p (l.map secR), 0) := by rw [e0, if_neg (by rw [hc16]; decide)]
      have hck : (checkP p).2 = 0 := plain_ok hc10
      have hin : RangesIn (l.map secR) p.out := by
        intro r hr
        obtain ⟨s, hs, rfl⟩ := List.mem_map.1 hr
        obtain ⟨k, hk⟩ := List.mem_iff_getElem?.1 hs
        obtain ⟨_, _, h3, _, _⟩ := hok.each k s hk
        have h1 := hok.ge k s hk
        have h4 := List.any_eq_false.1 hc16 s hs
        simp only [decide_eq_true_eq] at h4
        exact ⟨h1, by show s.from_ ≤ s.to; omega, by show s.to ≤ _; omega⟩
      refine wpIn_skip ?_
      refine thenN ?_
      refine wpIn_seq ?_
      obtain ⟨I3, hS3, hI3, hb3⟩ := hS.freeze1
      clear hS
      replace hS := hS3
      clear hS3
      refine reg ?_
      refine qq hS (g_ldO 0 (vs := [.bool _, .int .i64 _, .int .i64 _, .slice _ _ _]) Tryz.sizeOf29 Tryz.isAgg29 rfl rfl rfl rfl) ?_
      refine qq hS (g_makeFuncL ml0 (ml rfl ml0)) ?_
      refine qe (d_call Tryz.call79 rfl (collect_c p (l.map secR) 87 [.pointer (some ⟨b3, 0, none⟩)] ad m cap _ _ hS.imm (hops.mono hS.ext) hp hck ho hin (by rw [List.length_map]; omega) Tryz.call87 (by rw [List.length_map]; exact split1_it l b3 scap sd _ hb3 (hl.mono hS.ext)))) ?_
      rintro _ w_5 ⟨I_f, a19, c19, rfl, hE, h19⟩
      replace hS := hS.callE hE
      refine qq hS (g_extract rfl rfl) ?_
      refine qq hS (g_extract (v := .int .i64 _) rfl rfl) ?_
      refine qq hS (g_assign _) ?_
      refine qq hS (g_assignv (v := .int .i64 _) rfl) ?_
      refine ol_nil (thenN ?_)
      refine wpIn_ret ?_
      rw [e]
      refine ret2 Tryz.results43 (rv_tmp rfl) (rv_tmp (v := .int .i64 _) rfl) ?_
      exact ⟨_, a19, c19, rfl, hS.nil, h19⟩

set_option maxHeartbeats 1000000 in
theorem sectors_c (p : PatL) (size : Int) (ad : Option Addr) (m cap : Nat) (w0 : World) (I0 : Imm) (hI : Sat I0 w0) (hops : ROps I0 (.slice ad m cap) p.ops) (hp : p.wf) (ho : p.out ≤ 4096) (hs : Mid size) :
    Ctr Tryz.prog 38 [.agg #[.bool p.lifted, .int .i64 p.in_, .int .i64 p.out, .slice ad m cap], .int .i64 size] w0 (fun v w' => ∃ I' a c, v = .tuple #[.slice a (sectorsP p size).1.length c, .int .i64 (sectorsP p size).2] ∧ Ext w0 I0 w' I' ∧ RPats I' (.slice a (sectorsP p size).1.length c) (sectorsP p size).1) := by
  refine fn (n := 23) Tryz.func38 rfl rfl rfl ?_
  have hS := St.start hI
  refine wpIn_seq ?_
  refine reg ?_
  refine qe (d_box (cs := [.bool _, .int .i64 _, .int .i64 _, .slice _ _ _]) hS rfl) ?_
  clear hS
  rintro _ w_1 ⟨b2, rfl, hS⟩
  refine qe (d_box (cs := [.int .i64 _]) hS rfl) ?_
  clear hS
  rintro _ w_2 ⟨b3, rfl, hS⟩
  refine qq hS (g_assign _) ?_
  refine qq hS (g_assignv (v := .int .i64 _) rfl) ?_
  refine ol_nil (thenN ?_)
  refine wpIn_seq ?_
  refine wpIn_seq ?_
  refine reg ?_
  refine qq hS (g_ldO 1 (vs := [.bool _, .int .i64 _, .int .i64 _, .slice _ _ _]) Tryz.sizeOf29 Tryz.isAgg29 rfl rfl rfl rfl) ?_
  refine qe (d_call Tryz.call78 rfl (plain_c p ad m cap _ _ hS.imm hops hp)) ?_
  rintro _ w_3 ⟨rfl, hE⟩
  replace hS := hS.callE hE
  refine qq hS (g_assignv (v := .int .i64 _) rfl) ?_
  refine ol_nil (thenN ?_)
  refine wpIn_seq ?_
  refine reg ?_
  refine qq hS (g_movev (v := .int .i64 _) rfl) ?_
  refine qq hS (g_neq rfl rfl) ?_
  refine ol_nil (thenN ?_)
  refine cond_s rfl ?_ ?_
  ·
    intro hc10
    try simp only [Bool.and_eq_true, Bool.or_eq_true, Bool.not_eq_true', Bool.and_eq_false_imp, Bool.or_eq_false_iff, Bool.not_eq_false', decide_eq_true_eq, decide_eq_false_iff_not] at hc10
    have e : sectorsP p size = ([], plainP p) := by unfold sectorsP; rw [if_pos hc10]
    refine wpIn_seq ?_
    refine reg ?_
    refine qq hS (g_movev (v := .int .i64 _) rfl) ?_
    refine qq hS (g_assign _) ?_
    refine qq hS (g_assignv (v := .int .i64 _) rfl) ?_
    refine ol_nil (thenN ?_)
    refine wpIn_ret ?_
    refine thenR ?_
    rw [e]
    refine ret2 Tryz.results38 (rv_tmp rfl) (rv_tmp (v := .int .i64 _) rfl) ?_
    exact ⟨_, none, 0, rfl, hS.nil, RSl.nilR⟩
  ·
    intro hc10
    try simp only [Bool.and_eq_true, Bool.or_eq_true, Bool.not_eq_true', Bool.and_eq_false_imp, Bool.or_eq_false_iff, Bool.not_eq_false', decide_eq_true_eq, decide_eq_false_iff_not] at hc10
    have e0 : sectorsP p size = if decide (size < 1) || decide (4096 < size) then ([], 1) else (partsP p (sectorsR p.out size), 0) := by unfold sectorsP; rw [if_neg (by rw [hc10]; decide)]
    refine wpIn_skip ?_
    refine thenN ?_
    refine wpIn_seq ?_
    refine wpIn_seq ?_
    refine reg ?_
    refine qq hS (g_ldO1 0 Tryz.isAgg3 rfl rfl rfl) ?_
    refine qq hS (g_lss rfl rfl) ?_
    refine qq hS (g_movev (v := .bool _) rfl) ?_
    refine qu rfl rfl hS (fun hg => (g_ldO1 0 Tryz.isAgg3 rfl rfl rfl)) ?_
    intro u15 hu15 hn15
    refine qu rfl rfl hS (fun hg => (g_gtr (hu15 hg) rfl)) ?_
    intro u16 hu16 hn16
    refine qq hS (g_or rfl rfl (fun hq => hu16 hq)) ?_
    refine ol_nil (thenN ?_)
    refine cond_s rfl ?_ ?_
    ·
      intro hc17
      clear hu15 hn15 hu16 hn16
      have e : sectorsP p size = ([], 1) := by rw [e0, if_pos hc17]
      refine wpIn_seq ?_
      refine reg ?_
      refine qq hS (g_assign _) ?_
      refine qq hS (g_assignv (v := .int .i64 _) rfl) ?_
      refine ol_nil (thenN ?_)
      refine wpIn_ret ?_
      refine thenR ?_
      rw [e]
      refine ret2 Tryz.results38 (rv_tmp rfl) (rv_tmp (v := .int .i64 _) rfl) ?_
      exact ⟨_, none, 0, rfl, hS.nil, RSl.nilR⟩
    ·
      intro hc17
      clear hu15 hn15 hu16 hn16
      have e : sectorsP p size = (partsP p (sectorsR p.out size), 0) := by rw [e0, if_neg (by rw [hc17]; decide)]
      have hck : (checkP p).2 = 0 := plain_ok hc10
      have ho1 := (checkP_ok hck).2.2.2.2.1
      simp only [Bool.or_eq_false_iff, decide_eq_false_iff_not] at hc17
      have hs1 : 1 ≤ size := by omega
      have hs2 : size ≤ 4096 := by omega
      refine wpIn_skip ?_
      refine thenN ?_
      refine wpIn_seq ?_
      obtain ⟨I3, hS3, hI3, hb3⟩ := hS.freeze1
      clear hS
      replace hS := hS3
      clear hS3
      obtain ⟨I2, hS3, hI2, hb2⟩ := hS.freeze1
      clear hS
      replace hS := hS3
      clear hS3
      replace hb3 := hb3.mono hI2
      refine reg ?_
      refine qq hS (g_ldB (c := 0) (us := [.bool _, .int .i64 _, .int .i64 _, .slice _ _ _]) Tryz.sizeOf29 Tryz.isAgg29 hb2 rfl rfl rfl) ?_
      refine qq hS (g_makeFuncL ml0 (ml rfl (ml rfl ml0))) ?_
      refine qe (d_call Tryz.call79 rfl (collect_c p (sectorsR p.out size) 80 [.pointer (some ⟨b2, 0, none⟩), .pointer (some ⟨b3, 0, none⟩)] ad m cap _ _ hS.imm (hops.mono hS.ext) hp hck ho (sectorsR_in hs1 ho1) (by have := sectorsR_le hs1 ho1 ho; omega) Tryz.call80 (sectors1_it p size b2 b3 m cap ad _ hb2 hb3 ⟨hs1, hs2⟩ ⟨ho1, ho⟩))) ?_
      rintro _ w_4 ⟨I_f, a19, c19, rfl, hE, h19⟩
      replace hS := hS.callE hE
      refine qq hS (g_extract rfl rfl) ?_
      refine qq hS (g_extract (v := .int .i64 _) rfl rfl) ?_
      refine qq hS (g_assign _) ?_
      refine qq hS (g_assignv (v := .int .i64 _) rfl) ?_
      refine ol_nil (thenN ?_)
      refine wpIn_ret ?_
      rw [e]
      refine ret2 Tryz.results38 (rv_tmp rfl) (rv_tmp (v := .int .i64 _) rfl) ?_
      exact ⟨_, a19, c19, rfl, hS.nil, h19⟩

end Go.Proofs.YtodopmclnklgdaaGreat


namespace Go.Proofs.YtodopmclnklgdaaGreat
open Go Go.RowKit Go.Inl
set_option linter.unusedSimpArgs false
set_option linter.unusedVariables false
theorem info77 : Info Tryz.prog 77 (.agg #[.string ⟨#[]⟩, .int .i64 0, .int .i64 0, .bool false]) 4 40 := info_of (by kernel_rfl)
structure R1L where
  gap : Int
  words : Int
  odd : Int
  code : Bool
structure R1L.wf (r : R1L) : Prop where
  gap : 0 ≤ r.gap ∧ r.gap ≤ 255
  words : 0 ≤ r.words ∧ r.words ≤ 255
  odd : 0 ≤ r.odd ∧ r.odd ≤ 255
def r1C (r : R1L) : List Value := [.int .u8 r.gap, .int .u8 r.words, .int .u8 r.odd, .bool r.code]
theorem r1C_len (r : R1L) : (r1C r).length = 4 := rfl
def names8 : List ByteArray := [⟨#[98, 111, 111, 116]⟩, ⟨#[97, 112, 112]⟩, ⟨#[68, 97, 116, 97]⟩, ⟨#[120, 49]⟩, ⟨#[116, 97, 105, 108]⟩, ⟨#[99, 102, 103]⟩, ⟨#[65]⟩, ⟨#[116, 119, 101, 108, 118, 101, 108, 101, 116, 116, 101, 114]⟩]
def nmC (s : ByteArray) : List Value := [.string s]
theorem nmC_len (s : ByteArray) : (nmC s).length = 1 := rfl
def nameS (k : Nat) : ByteArray := names8.getD k ⟨#[]⟩
def stepS (k : Nat) (a : Int) (r : R1L) : SecL :=
  if r.code = true then ⟨nameS k, (a + r.gap % 8 + 3) / 4 * 4, (a + r.gap % 8 + 3) / 4 * 4 + 4 + 4 * (r.words % 8), true⟩
  else ⟨nameS k, a + r.gap % 8, a + r.gap % 8 + 1 + 4 * (r.words % 8) + r.odd % 4, false⟩
def goS (n : Int) : Nat → Int → List R1L → List SecL
  | _, _, [] => []
  | k, a, r :: l => if 8 ≤ k then [] else if n < (stepS k a r).to then [] else stepS k a r :: goS n (k + 1) (stepS k a r).to l
def madeS (l : List R1L) (n : Int) : List SecL := goS n 0 0 l
theorem step_bd {k : Nat} {a : Int} {r : R1L} (hr : r.wf) : a ≤ (stepS k a r).from_ ∧ (stepS k a r).from_ < (stepS k a r).to ∧ (stepS k a r).to ≤ a + 100 ∧ ((stepS k a r).code = true → (stepS k a r).from_ % 4 = 0 ∧ (stepS k a r).to % 4 = 0) ∧ (stepS k a r).name = nameS k := by
  obtain ⟨h1, h2, h3⟩ := hr
  unfold stepS
  split
  · refine ⟨?_, ?_, ?_, ?_, rfl⟩ <;> dsimp only <;> omega
  · refine ⟨?_, ?_, ?_, ?_, rfl⟩
    · dsimp only; omega
    · dsimp only; omega
    · dsimp only; omega
    · intro h; cases h
theorem goS_stop {n a : Int} {k : Nat} {l : List R1L} (h : l = [] ∨ 8 ≤ k) : goS n k a l = [] := by
  cases l with
  | nil => rfl
  | cons r l => rcases h with h | h
                · cases h
                · unfold goS; rw [if_pos h]
theorem goS_big {n a : Int} {k : Nat} {r : R1L} {l : List R1L} (h : n < (stepS k a r).to) : goS n k a (r :: l) = [] := by
  unfold goS; rw [if_pos h]; split <;> rfl
theorem goS_cons {n a : Int} {k : Nat} {r : R1L} {l : List R1L} (hk : k < 8) (h : ¬ n < (stepS k a r).to) : goS n k a (r :: l) = stepS k a r :: goS n (k + 1) (stepS k a r).to l := by
  rw [goS, if_neg (by omega), if_neg h]
structure MdS where
  k : Nat
  acc : List SecL
  at_ : Int
  a : Option Addr
  c : Nat
def manyP (l : List RawL) (n : Nat) : List PatL := if l.take n = [] then [wholeP 3] else (l.take n).map fun y => madeP y.l ((l.headD ⟨0, []⟩).r % 13)
theorem strByte (s : ByteArray) (i : Nat) : 0 ≤ ((s.get! i).toNat : Int) ∧ ((s.get! i).toNat : Int) ≤ 255 := by
  have := (s.get! i).toNat_lt; omega

set_option maxHeartbeats 2000000 in
theorem made1_c (ad : Option Addr) (cap : Nat) (l : List R1L) (n : Int) (w0 : World) (I0 : Imm) (hI : Sat I0 w0) (hl : RFl I0 4 r1C (.slice ad l.length cap) l) (hw : ∀ r ∈ l, r.wf) (hn : Mid n) :
    Ctr Tryz.prog 42 [.slice ad l.length cap, .int .i64 n] w0 (fun v w' => ∃ I' a c, v = .slice a (madeS l n).length c ∧ Ext w0 I0 w' I' ∧ RSecs I' (.slice a (madeS l n).length c) (madeS l n)) := by
  have hll := RSl.le hl
  simp only [maxLen] at hll
  obtain ⟨hn1, hn2⟩ := hn
  refine fn (n := 94) Tryz.func42 rfl rfl rfl ?_
  have hS := St.start hI
  refine wpIn_seq ?_
  refine reg ?_
  refine qq hS (g_assign _) ?_
  refine ol_nil (thenN ?_)
  refine wpIn_seq ?_
  refine reg ?_
  refine qe (d_lit (vs := [.string _, .string _, .string _, .string _, .string _, .string _, .string _, .string _]) (cs := [.string _, .string _, .string _, .string _, .string _, .string _, .string _, .string _]) hS Tryz.underlying143 Tryz.sizeOf9 Tryz.zeroValue9 rfl rfl rfl rfl (fun v hv => by simp only [List.mem_cons, List.not_mem_nil, or_false] at hv; rcases hv with rfl | rfl | rfl | rfl | rfl | rfl | rfl | rfl <;> rfl) rfl) ?_
  clear hS
  rintro _ w_1 ⟨b10, rfl, hS⟩
  have hF := hS.freeze1
  clear hS
  obtain ⟨I10, hS, hI10, hb10⟩ := hF
  replace hl := hl.mono hI10
  have h10 := RFl.ofAt nmC_len names8 hb10 rfl (by decide)
  refine qq hS (g_assign _) ?_
  refine ol_nil (thenN ?_)
  refine wpIn_seq ?_
  refine reg ?_
  refine qe (d_buildSlice0 hS Tryz.underlying73 Tryz.sizeOf77) ?_
  clear hS
  rintro _ w_2 ⟨hS, b11_, rfl⟩
  refine qq hS (g_assign _) ?_
  refine ol_nil (thenN ?_)
  refine wpIn_seq ?_
  refine reg ?_
  refine qq hS (g_assignv (v := .int .i64 _) rfl) ?_
  refine ol_nil (thenN ?_)
  refine wpIn_seq ?_
  refine wpIn_seq ?_
  refine reg ?_
  refine qq hS (g_assignv (v := .int .i64 _) rfl) ?_
  refine ol_nil (thenN ?_)
  refine wpIn_block ?_
  refine loop (fun (x : MdS) σ w => okS σ [(0, .slice ad l.length cap), (1, .int .i64 n), (5, .slice (some ⟨b10, 0, none⟩) 8 8), (6, .slice x.a x.acc.length x.c), (7, .int .i64 x.at_), (8, .int .i64 x.k)] ∧ St [] w0 I0 I10 w [.row (.slice x.a x.acc.length x.c) 77 4 x.acc.length (flat secC x.acc)] ∧ x.k ≤ l.length ∧ x.k ≤ 8 ∧ x.acc.length = x.k ∧ 0 ≤ x.at_ ∧ x.at_ ≤ 100 * (x.k : Int) ∧ x.acc ++ goS n x.k x.at_ (l.drop x.k) = madeS l n) (fun x => l.length - x.k) (⟨0, [], 0, some ⟨b11_, 0, none⟩, 0⟩) ?_ ?_
  ·
    exact ⟨⟨rfl, rfl, rfl, rfl, rfl, rfl, trivial⟩, hS.sel [true], by simp, by simp, rfl, by simp, by simp, rfl⟩
  ·
    rintro ⟨k, acc, x, a, c⟩ σ w_l ⟨hs, hS, hk0, hk8, hak, hx0, hx1, hgo⟩
    dsimp only at hs hS hk0 hk8 hak hx0 hx1 hgo ⊢
    rw [← upds_self hs]; clear hs
    refine wpIn_seq ?_
    refine wpIn_seq ?_
    refine reg ?_
    refine qq hS (g_movev (v := .int .i64 _) rfl) ?_
    refine qq hS (g_move _) ?_
    refine qq hS (g_lenI rfl Tryz.underlying72 hl rfl) ?_
    refine qq hS (g_lss rfl rfl) ?_
    refine qq hS (g_movev (v := .bool _) rfl) ?_
    refine qu rfl rfl hS (fun hg => (g_movev (v := .int .i64 _) rfl)) ?_
    intro u17 hu17 hn17
    refine qu rfl rfl hS (fun hg => (g_lss (hu17 hg) rfl)) ?_
    intro u18 hu18 hn18
    refine qq hS (g_and rfl rfl (fun hq => hu18 hq)) ?_
    refine ol_nil (thenN ?_)
    refine cond_s rfl ?_ ?_
    ·
      intro hc19
      clear hu17 hn17 hu18 hn18
      simp only [Bool.and_eq_true, Bool.and_eq_false_iff, decide_eq_true_eq, decide_eq_false_iff_not] at hc19
      obtain ⟨r, hri⟩ : ∃ r, l[k]? = some r := ⟨_, List.getElem?_eq_getElem (by omega)⟩
      have hrA := hl.at hri
      obtain ⟨hr1, hr2, hr3⟩ := hw r (List.mem_of_getElem? hri)
      have hsb := step_bd (k := k) (a := x) (hw r (List.mem_of_getElem? hri))
      have hni : names8[k]? = some (nameS k) := by unfold nameS; rw [List.getD_eq_getElem?_getD]; rw [List.getElem?_eq_getElem (by show k < 8; omega)]; rfl
      have hnA := h10.at hni
      rw [drop_cons hri] at hgo
      refine wpIn_skip ?_
      refine thenN ?_
      refine wpIn_seq ?_
      refine wpIn_block ?_
      refine wpIn_seq ?_
      refine draw (.cons 0 .pure (.cons 1 .pure (.cons 2 .pure (.cons 3 .held (.cons 4 .pure (.cons 5 .pure (.cons 6 .pure (.cons 7 .pure (.cons 8 .pure (.cons 9 .held (.cons 10 .pure (.cons 11 .pure (.cons 12 .pure (.cons 13 .pure (.cons 14 .pure (.cons 15 .pure (.cons 16 .pure (.cons 17 .held (.cons 18 .pure (.cons 19 .eff (.cons 20 .bar .nil))))))))))))))))))))) mixed (by kernel_rfl) hS ?_
      intro w_3 hS
      refine sp rfl (g_move _) ?_
      refine sp rfl (g_movev (v := .int .i64 _) rfl) ?_
      refine sp rfl (g_ixI Tryz.underlying143 Tryz.sizeOf9 h10 rfl rfl (by omega) (by show (k : Int) < 8; omega)) ?_
      refine sh rfl (g_ldE1 Tryz.isAgg9 hnA rfl rfl) ?_
      refine sp rfl (g_movev (v := .int .i64 _) rfl) ?_
      refine sp rfl (g_move _) ?_
      refine sp rfl (g_movev (v := .int .i64 _) rfl) ?_
      refine sp rfl (g_ixI Tryz.underlying72 Tryz.sizeOf145 hl rfl rfl (by omega) (by omega)) ?_
      refine sp rfl (g_fieldE (c' := 0) Tryz.underlying145 rfl Tryz.sizeOf5 rfl rfl rfl) ?_
      refine sh rfl (g_ldE1 Tryz.isAgg5 hrA rfl rfl) ?_
      refine sp rfl (g_rem rfl rfl (by omega) (by omega)) ?_
      refine sp rfl (g_convi Tryz.underlying5 Tryz.underlying3 rfl (by omega) (by omega)) ?_
      refine sp rfl (g_add rfl rfl (by omega) (by omega)) ?_
      refine sp rfl (g_move _) ?_
      refine sp rfl (g_movev (v := .int .i64 _) rfl) ?_
      refine sp rfl (g_ixI Tryz.underlying72 Tryz.sizeOf145 hl rfl rfl (by omega) (by omega)) ?_
      refine sp rfl (g_fieldE (c' := 3) Tryz.underlying145 rfl Tryz.sizeOf4 rfl rfl rfl) ?_
      refine sh rfl (g_ldE1 Tryz.isAgg4 hrA rfl rfl) ?_
      refine sp rfl (g_buildv (pl := [(0, 1), (1, 1), (2, 1), (3, 1)]) (cs := [.string _, .int .i64 _, .int .i64 _, .bool _]) Tryz.zeroValue77 Tryz.underlying77 (fun w => by simp [Tryz.sizeOf3, Tryz.sizeOf4, Tryz.sizeOf9]) (mp rfl (mp (v := .int .i64 _) rfl (mp (v := .bool _) rfl mp0))) rfl) ?_
      have hS0 := hS
      refine se rfl (d_alloc (cs := [.string _, .int .i64 _, .int .i64 _, .bool _]) hS Tryz.zeroValue77 rfl) ?_
      rintro _ w_4 ⟨b9, rfl, hS⟩
      refine ⟨_, _, hS0.le (Sub.refl _) (List.sublist_cons_self _ _), hS, ?_⟩
      refine sb rfl (d_store 0 hS Tryz.sizeOf77 rfl rfl rfl (vs := [.string _, .int .i64 _, .int .i64 _, .bool _]) rfl rfl rfl (Nat.le_of_ble_eq_true rfl) (cs' := [_, _, _, _]) rfl) ?_
      rintro _ w_5 ⟨rfl, hS⟩
      refine ⟨_, _, hS, ?_⟩
      refine sn (thenN ?_)
      refine meet (fun σ w => okS σ [(0, .slice ad l.length cap), (1, .int .i64 n), (5, .slice (some ⟨b10, 0, none⟩) 8 8), (6, .slice a acc.length c), (7, .int .i64 x), (8, .int .i64 k), (9, .pointer (some ⟨b9, 0, none⟩))] ∧ St [] w0 I0 I10 w [.cel b9 77 (secC (stepS k x r)), .row (.slice a acc.length c) 77 4 acc.length (flat secC acc)]) ?_ ?_
      ·
        refine wpIn_seq ?_
        refine reg ?_
        refine qq hS (g_fieldAddr (o' := 3) Tryz.underlying77 rfl Tryz.sizeOf4 rfl rfl rfl) ?_
        refine qq hS (g_ldO1 0 Tryz.isAgg4 rfl rfl rfl) ?_
        refine ol_nil (thenN ?_)
        refine cond_s rfl ?_ ?_
        ·
          intro hc42
          have hst : stepS k x r = ⟨nameS k, (x + r.gap % 8 + 3) / 4 * 4, (x + r.gap % 8 + 3) / 4 * 4 + 4 + 4 * (r.words % 8), r.code⟩ := by unfold stepS; rw [if_pos hc42, hc42]
          refine wpIn_seq ?_
          refine reg ?_
          refine qq hS (g_fieldAddr (o' := 1) Tryz.underlying77 rfl Tryz.sizeOf3 rfl rfl rfl) ?_
          refine qq hS (g_ldO1 0 Tryz.isAgg3 rfl rfl rfl) ?_
          refine qq hS (g_add rfl rfl (by omega) (by omega)) ?_
          refine qq hS (g_quo rfl rfl (by omega) (by omega) (by omega)) ?_
          refine qq hS (g_mul rfl rfl (by omega) (by omega)) ?_
          refine qq hS (g_fieldAddr (o' := 1) Tryz.underlying77 rfl Tryz.sizeOf3 rfl rfl rfl) ?_
          refine qe (d_store 0 hS Tryz.sizeOf3 rfl rfl rfl (vs := [.int .i64 _]) rfl rfl rfl (Nat.le_of_ble_eq_true rfl) (cs' := [_, _, _, _]) rfl) ?_
          clear hS
          rintro _ w_6 ⟨rfl, hS⟩
          refine ol_nil (thenN ?_)
          refine draw (.cons 0 .pure (.cons 1 .held (.cons 2 .pure (.cons 3 .pure (.cons 4 .pure (.cons 5 .pure (.cons 6 .pure (.cons 7 .held (.cons 8 .pure (.cons 9 .pure (.cons 10 .pure (.cons 11 .pure (.cons 12 .pure (.cons 13 .bar .nil)))))))))))))) mixed (by kernel_rfl) hS ?_
          intro w_7 hS
          refine sp rfl (g_fieldAddr (o' := 1) Tryz.underlying77 rfl Tryz.sizeOf3 rfl rfl rfl) ?_
          refine sh rfl (g_ldO1 0 Tryz.isAgg3 rfl rfl rfl) ?_
          refine sp rfl (g_add rfl rfl (by omega) (by omega)) ?_
          refine sp rfl (g_move _) ?_
          refine sp rfl (g_movev (v := .int .i64 _) rfl) ?_
          refine sp rfl (g_ixI Tryz.underlying72 Tryz.sizeOf145 hl rfl rfl (by omega) (by omega)) ?_
          refine sp rfl (g_fieldE (c' := 1) Tryz.underlying145 rfl Tryz.sizeOf5 rfl rfl rfl) ?_
          refine sh rfl (g_ldE1 Tryz.isAgg5 hrA rfl rfl) ?_
          refine sp rfl (g_rem rfl rfl (by omega) (by omega)) ?_
          refine sp rfl (g_convi Tryz.underlying5 Tryz.underlying3 rfl (by omega) (by omega)) ?_
          refine sp rfl (g_mul rfl rfl (by omega) (by omega)) ?_
          refine sp rfl (g_add rfl rfl (by omega) (by omega)) ?_
          refine sp rfl (g_fieldAddr (o' := 2) Tryz.underlying77 rfl Tryz.sizeOf3 rfl rfl rfl) ?_
          refine sb rfl (d_store 0 hS Tryz.sizeOf3 rfl rfl rfl (vs := [.int .i64 _]) rfl rfl rfl (Nat.le_of_ble_eq_true rfl) (cs' := [_, _, _, _]) rfl) ?_
          rintro _ w_8 ⟨rfl, hS⟩
          refine ⟨_, _, hS, ?_⟩
          refine sn (thenN ?_)
          refine ⟨_, rfl, ⟨rfl, rfl, rfl, rfl, rfl, rfl, rfl, trivial⟩, ?_⟩
          rw [hst]
          exact hS.sel [true, true]
        ·
          intro hc42
          have hst : stepS k x r = ⟨nameS k, x + r.gap % 8, x + r.gap % 8 + 1 + 4 * (r.words % 8) + r.odd % 4, r.code⟩ := by unfold stepS; rw [if_neg (by rw [hc42]; decide), hc42]
          refine draw (.cons 0 .pure (.cons 1 .held (.cons 2 .pure (.cons 3 .pure (.cons 4 .pure (.cons 5 .pure (.cons 6 .pure (.cons 7 .held (.cons 8 .pure (.cons 9 .pure (.cons 10 .pure (.cons 11 .pure (.cons 12 .pure (.cons 13 .pure (.cons 14 .pure (.cons 15 .pure (.cons 16 .held (.cons 17 .pure (.cons 18 .pure (.cons 19 .pure (.cons 20 .pure (.cons 21 .bar .nil)))))))))))))))))))))) mixed (by kernel_rfl) hS ?_
          intro w_9 hS
          refine sp rfl (g_fieldAddr (o' := 1) Tryz.underlying77 rfl Tryz.sizeOf3 rfl rfl rfl) ?_
          refine sh rfl (g_ldO1 0 Tryz.isAgg3 rfl rfl rfl) ?_
          refine sp rfl (g_add rfl rfl (by omega) (by omega)) ?_
          refine sp rfl (g_move _) ?_
          refine sp rfl (g_movev (v := .int .i64 _) rfl) ?_
          refine sp rfl (g_ixI Tryz.underlying72 Tryz.sizeOf145 hl rfl rfl (by omega) (by omega)) ?_
          refine sp rfl (g_fieldE (c' := 1) Tryz.underlying145 rfl Tryz.sizeOf5 rfl rfl rfl) ?_
          refine sh rfl (g_ldE1 Tryz.isAgg5 hrA rfl rfl) ?_
          refine sp rfl (g_rem rfl rfl (by omega) (by omega)) ?_
          refine sp rfl (g_convi Tryz.underlying5 Tryz.underlying3 rfl (by omega) (by omega)) ?_
          refine sp rfl (g_mul rfl rfl (by omega) (by omega)) ?_
          refine sp rfl (g_add rfl rfl (by omega) (by omega)) ?_
          refine sp rfl (g_move _) ?_
          refine sp rfl (g_movev (v := .int .i64 _) rfl) ?_
          refine sp rfl (g_ixI Tryz.underlying72 Tryz.sizeOf145 hl rfl rfl (by omega) (by omega)) ?_
          refine sp rfl (g_fieldE (c' := 2) Tryz.underlying145 rfl Tryz.sizeOf5 rfl rfl rfl) ?_
          refine sh rfl (g_ldE1 Tryz.isAgg5 hrA rfl rfl) ?_
          refine sp rfl (g_rem rfl rfl (by omega) (by omega)) ?_
          refine sp rfl (g_convi Tryz.underlying5 Tryz.underlying3 rfl (by omega) (by omega)) ?_
          refine sp rfl (g_add rfl rfl (by omega) (by omega)) ?_
          refine sp rfl (g_fieldAddr (o' := 2) Tryz.underlying77 rfl Tryz.sizeOf3 rfl rfl rfl) ?_
          refine sb rfl (d_store 0 hS Tryz.sizeOf3 rfl rfl rfl (vs := [.int .i64 _]) rfl rfl rfl (Nat.le_of_ble_eq_true rfl) (cs' := [_, _, _, _]) rfl) ?_
          rintro _ w_10 ⟨rfl, hS⟩
          refine ⟨_, _, hS, ?_⟩
          refine sn (thenN ?_)
          refine ⟨_, rfl, ⟨rfl, rfl, rfl, rfl, rfl, rfl, rfl, trivial⟩, ?_⟩
          rw [hst]
          exact hS.sel [true, true]
      ·
        rintro σ w ⟨hs, hS⟩
        rw [← upds_self hs]
        refine wpIn_seq ?_
        refine wpIn_seq ?_
        refine reg ?_
        refine qq hS (g_fieldAddr (o' := 2) Tryz.underlying77 rfl Tryz.sizeOf3 rfl rfl rfl) ?_
        refine qq hS (g_ldO1 0 Tryz.isAgg3 rfl rfl rfl) ?_
        refine qq hS (g_movev (v := .int .i64 _) rfl) ?_
        refine qq hS (g_gtr rfl rfl) ?_
        refine ol_nil (thenN ?_)
        refine cond_s rfl ?_ ?_
        ·
          intro hc86
          try simp only [Bool.and_eq_true, Bool.or_eq_true, Bool.not_eq_true', Bool.and_eq_false_imp, Bool.or_eq_false_iff, Bool.not_eq_false', decide_eq_true_eq, decide_eq_false_iff_not] at hc86
          rw [goS_big hc86, List.append_nil] at hgo
          refine wpIn_exit ?_
          refine thenE (blkO rfl (thenE (thenE (blkE ?_))))
          refine thenN ?_
          refine wpIn_seq ?_
          refine reg ?_
          refine qq hS (g_move _) ?_
          refine qq hS (g_assign _) ?_
          refine ol_nil (thenN ?_)
          refine wpIn_ret ?_
          refine ret1 Tryz.results42 (rv_tmp rfl) ?_
          obtain ⟨I3, hS3, hI3, ho3⟩ := St.freezeRow secC_len (hS.sel [false, true]) rfl
          rw [← hgo]
          exact ⟨I3, a, c, rfl, hS3, ho3⟩
        ·
          intro hc86
          try simp only [Bool.and_eq_true, Bool.or_eq_true, Bool.not_eq_true', Bool.and_eq_false_imp, Bool.or_eq_false_iff, Bool.not_eq_false', decide_eq_true_eq, decide_eq_false_iff_not] at hc86
          rw [goS_cons (by omega) hc86] at hgo
          refine wpIn_skip ?_
          refine thenN ?_
          refine wpIn_seq ?_
          refine reg ?_
          refine qq hS (g_move _) ?_
          refine qq hS (g_ldO 0 (vs := [.string _, .int .i64 _, .int .i64 _, .bool _]) Tryz.sizeOf77 Tryz.isAgg77 rfl rfl rfl rfl) ?_
          refine qe (d_lit (vs := [.agg #[.string _, .int .i64 _, .int .i64 _, .bool _]]) (cs := [.string _, .int .i64 _, .int .i64 _, .bool _]) hS Tryz.underlying73 Tryz.sizeOf77 Tryz.zeroValue77 rfl rfl rfl rfl (fun v hv => by simp only [List.mem_cons, List.not_mem_nil, or_false] at hv; subst hv; rfl) rfl) ?_
          clear hS
          rintro _ w_11 ⟨b_11, rfl, hS⟩
          refine qe (i_appendO 2 0 hS rfl Tryz.underlying73 info77 rfl rfl rfl rfl rfl rfl rfl rfl (by omega) (by omega)) ?_
          clear hS
          rintro _ w_12 ⟨a90, p90, rfl, hS⟩
          refine qq hS (g_assign _) ?_
          refine ol_nil (thenN ?_)
          refine reg ?_
          refine qq hS (g_fieldAddr (o' := 2) Tryz.underlying77 rfl Tryz.sizeOf3 rfl rfl rfl) ?_
          refine qq hS (g_ldO1 1 Tryz.isAgg3 rfl rfl rfl) ?_
          refine qq hS (g_assignv (v := .int .i64 _) rfl) ?_
          refine ol_nil (blkN (thenN ?_))
          refine reg ?_
          refine qq hS (g_movev (v := .int .i64 _) rfl) ?_
          refine qq hS (g_add rfl rfl (by omega) (by omega)) ?_
          refine qq hS (g_assignv (v := .int .i64 _) rfl) ?_
          refine ol_nil (thenN ?_)
          refine ⟨⟨k + 1, acc ++ [stepS k x r], (stepS k x r).to, a90, p90⟩, _, rfl, ⟨⟨rfl, rfl, rfl, ?_, rfl, rfl, trivial⟩, ?_, by dsimp only; omega, by dsimp only; omega, by simp [hak], by dsimp only; omega, by dsimp only; omega, ?_⟩, by dsimp only; omega⟩
          · dsimp only; rw [List.length_append]; rfl
          · dsimp only; rw [List.length_append, flat_append, flat_one]; exact hS.sel [false, false, true]
          · dsimp only; rw [List.append_assoc]; exact hgo
    ·
      intro hc19
      clear hu17 hn17 hu18 hn18
      simp only [Bool.and_eq_true, Bool.and_eq_false_iff, decide_eq_true_eq, decide_eq_false_iff_not] at hc19
      rw [goS_stop (by
        rcases hc19 with h | h
        · exact .inl (List.drop_eq_nil_of_le (by omega))
        · exact .inr (by omega)), List.append_nil] at hgo
      refine wpIn_exit ?_
      refine thenE (thenE (blkE ?_))
      refine thenN ?_
      refine wpIn_seq ?_
      refine reg ?_
      refine qq hS (g_move _) ?_
      refine qq hS (g_assign _) ?_
      refine ol_nil (thenN ?_)
      refine wpIn_ret ?_
      refine ret1 Tryz.results42 (rv_tmp rfl) ?_
      obtain ⟨I3, hS3, hI3, ho3⟩ := St.freezeRow secC_len (hS.sel [true]) rfl
      rw [← hgo]
      exact ⟨I3, a, c, rfl, hS3, ho3⟩

set_option maxHeartbeats 1000000 in
theorem many_c (ad : Option Addr) (cap : Nat) (l : List RawL) (n : Nat) (w0 : World) (I0 : Imm) (hI : Sat I0 w0) (hl : RRaws I0 (.slice ad l.length cap) l) (hw : ∀ x ∈ l, x.wf) (hn : n ≤ 4) :
    Ctr Tryz.prog 41 [.slice ad l.length cap, .int .i64 n] w0 (fun v w' => ∃ I' a c, v = .slice a (manyP l n).length c ∧ Ext w0 I0 w' I' ∧ RPats I' (.slice a (manyP l n).length c) (manyP l n)) := by
  have hll := RSl.le hl
  simp only [maxLen] at hll
  refine fn (n := 47) Tryz.func41 rfl rfl rfl ?_
  have hS := St.start hI
  refine wpIn_seq ?_
  refine reg ?_
  refine qq hS (g_assign _) ?_
  refine ol_nil (thenN ?_)
  refine wpIn_seq ?_
  refine reg ?_
  refine qe (d_buildSlice0 hS Tryz.underlying42 Tryz.sizeOf29) ?_
  clear hS
  rintro _ w_1 ⟨hS, b7_, rfl⟩
  refine qq hS (g_assign _) ?_
  refine ol_nil (thenN ?_)
  refine wpIn_seq ?_
  refine wpIn_seq ?_
  refine reg ?_
  refine qq hS (g_assignv (v := .int .i64 _) rfl) ?_
  refine ol_nil (thenN ?_)
  refine wpIn_block ?_
  refine loop (fun (x : ChS) σ w => okS σ [(0, .slice ad l.length cap), (1, .int .i64 n), (5, .slice x.a x.k x.c), (6, .int .i64 x.k)] ∧ ∃ I, St [] w0 I0 I w [.row (.slice x.a x.k x.c) 29 4 x.k x.css.flatten] ∧ x.k ≤ l.length ∧ x.k ≤ n ∧ All2 (RPatC I) x.css ((l.take x.k).map fun y => madeP y.l ((l.headD ⟨0, []⟩).r % 13)) ∧ (∀ cs ∈ x.css, cs.length = 4)) (fun x => l.length - x.k) (⟨0, [], some ⟨b7_, 0, none⟩, 0⟩) ?_ ?_
  ·
    exact ⟨⟨rfl, rfl, rfl, rfl, trivial⟩, _, hS.sel [true], by simp, by simp, All2.nil _, by simp⟩
  ·
    rintro ⟨k, css, a, c⟩ σ w_l ⟨hs, I, hS, hk0, hkn, hall, hcl4⟩
    dsimp only at hs hS hk0 hkn hall hcl4 ⊢
    rw [← upds_self hs]; clear hs
    refine wpIn_seq ?_
    refine wpIn_seq ?_
    refine reg ?_
    refine qq hS (g_movev (v := .int .i64 _) rfl) ?_
    refine qq hS (g_move _) ?_
    refine qq hS (g_lenI rfl Tryz.underlying41 (hl.mono hS.ext) rfl) ?_
    refine qq hS (g_lss rfl rfl) ?_
    refine qq hS (g_movev (v := .bool _) rfl) ?_
    refine qu rfl rfl hS (fun hg => (g_movev (v := .int .i64 _) rfl)) ?_
    intro u13 hu13 hn13
    refine qu rfl rfl hS (fun hg => (g_movev (v := .int .i64 _) rfl)) ?_
    intro u14 hu14 hn14
    refine qu rfl rfl hS (fun hg => (g_lss (hu13 hg) (hu14 hg))) ?_
    intro u15 hu15 hn15
    refine qq hS (g_and rfl rfl (fun hq => hu15 hq)) ?_
    refine ol_nil (thenN ?_)
    refine cond_s rfl ?_ ?_
    ·
      intro hc16
      clear hu13 hn13 hu14 hn14 hu15 hn15
      simp only [Bool.and_eq_true, Bool.and_eq_false_iff, decide_eq_true_eq, decide_eq_false_iff_not] at hc16
      obtain ⟨x, hxi⟩ : ∃ x, l[k]? = some x := ⟨_, List.getElem?_eq_getElem (by omega)⟩
      obtain ⟨cs, hcs4, hxA, hxc⟩ := RSl.at (hl.mono hS.ext) hxi
      obtain ⟨adx, capx, rfl, hxl⟩ := hxc
      have hxw := hw x (List.mem_of_getElem? hxi)
      have hlenk : (l.take k).length = k := by rw [List.length_take]; omega
      refine wpIn_skip ?_
      refine thenN ?_
      refine wpIn_seq ?_
      refine wpIn_block ?_
      refine wpIn_seq ?_
      refine reg ?_
      refine qq hS (g_movev (v := .int .i64 _) rfl) ?_
      refine qq hS (g_eql rfl rfl) ?_
      refine ol_nil (thenN ?_)
      refine cond_s rfl ?_ ?_
      ·
        intro hc20
        try simp only [Bool.and_eq_true, Bool.or_eq_true, Bool.not_eq_true', Bool.and_eq_false_imp, Bool.or_eq_false_iff, Bool.not_eq_false', decide_eq_true_eq, decide_eq_false_iff_not] at hc20
        have hk : k = 0 := by omega
        subst hk
        have hr0 : ((l.headD ⟨0, []⟩).r % 13) = x.r % 13 := by rw [List.headD_eq_head?_getD, List.head?_eq_getElem?, hxi]; rfl
        refine reg ?_
        refine qq hS (g_move _) ?_
        refine qq hS (g_move _) ?_
        refine qq hS (g_movev (v := .int .i64 _) rfl) ?_
        refine qq hS (g_ixI Tryz.underlying41 Tryz.sizeOf24 (hl.mono hS.ext) rfl rfl (by omega) (by omega)) ?_
        refine qq hS (g_ldE (us := [.int .u8 _, .slice _ _ _]) Tryz.sizeOf24 Tryz.isAgg24 hxA rfl rfl rfl) ?_
        refine qe (d_call Tryz.call13 rfl (made_c x.r adx capx x.l _ _ hS.imm hxl hxw.l hxw.r.1 hxw.r.2)) ?_
        rintro _ w_2 ⟨I2, a2, m2, c2, rfl, hE, h2⟩
        replace hS := hS.callE hE
        refine qe (d_lit (vs := [.agg #[.bool _, .int .i64 _, .int .i64 _, .slice _ _ _]]) (cs := [.bool _, .int .i64 _, .int .i64 _, .slice _ _ _]) hS Tryz.underlying42 Tryz.sizeOf29 Tryz.zeroValue29 rfl rfl rfl rfl (fun v hv => by simp only [List.mem_cons, List.not_mem_nil, or_false] at hv; subst hv; rfl) rfl) ?_
        clear hS
        rintro _ w_3 ⟨b_3, rfl, hS⟩
        refine qe (i_appendO 1 0 hS rfl Tryz.underlying42 info29 rfl rfl rfl rfl rfl rfl rfl rfl (by omega) (by omega)) ?_
        clear hS
        rintro _ w_4 ⟨a28, p28, rfl, hS⟩
        refine qq hS (g_assign _) ?_
        refine ol_nil (blkN (thenN ?_))
        refine reg ?_
        refine qq hS (g_movev (v := .int .i64 _) rfl) ?_
        refine qq hS (g_add rfl rfl (by omega) (by omega)) ?_
        refine qq hS (g_assignv (v := .int .i64 _) rfl) ?_
        refine ol_nil (thenN ?_)
        first
          | (refine ⟨⟨0 + 1, css ++ [[.bool (madeP x.l (x.r % 13)).lifted, .int .i64 (madeP x.l (x.r % 13)).in_, .int .i64 (madeP x.l (x.r % 13)).out, .slice a2 m2 c2]], a28, p28⟩, _, rfl, ⟨⟨rfl, rfl, rfl, rfl, trivial⟩, I2, ?_, by dsimp only; omega, by dsimp only; omega, ?_, ?_⟩, by dsimp only; omega⟩
             · dsimp only
               rw [List.flatten_append, List.flatten_singleton]
               exact hS.sel [false, true]
             · dsimp only
               rw [take_snoc hxi, List.map_append]
               exact All2.snoc (hall.mono fun _ _ h => h.mono hE.ext) ⟨_, _, _, by rw [hr0], by rw [hr0]; exact h2⟩
             · intro cs hcs
               rcases List.mem_append.1 hcs with h | h
               · exact hcl4 cs h
               · simp only [List.mem_singleton] at h; subst h; rfl)
          | (refine ⟨⟨k + 1, css ++ [[.bool (madeP x.l ((l.headD ⟨0, []⟩).r % 13)).lifted, .int .i64 (madeP x.l ((l.headD ⟨0, []⟩).r % 13)).in_, .int .i64 (madeP x.l ((l.headD ⟨0, []⟩).r % 13)).out, .slice a2 m2 c2]], a40, p40⟩, _, rfl, ⟨⟨rfl, rfl, rfl, rfl, trivial⟩, I2, ?_, by dsimp only; omega, by dsimp only; omega, ?_, ?_⟩, by dsimp only; omega⟩
             · dsimp only
               rw [List.flatten_append, List.flatten_singleton]
               exact hS.sel [false, true]
             · dsimp only
               rw [take_snoc hxi, List.map_append]
               exact All2.snoc (hall.mono fun _ _ h => h.mono hE.ext) ⟨_, _, _, rfl, h2⟩
             · intro cs hcs
               rcases List.mem_append.1 hcs with h | h
               · exact hcl4 cs h
               · simp only [List.mem_singleton] at h; subst h; rfl)
      ·
        intro hc20
        try simp only [Bool.and_eq_true, Bool.or_eq_true, Bool.not_eq_true', Bool.and_eq_false_imp, Bool.or_eq_false_iff, Bool.not_eq_false', decide_eq_true_eq, decide_eq_false_iff_not] at hc20
        obtain ⟨y, hyi⟩ : ∃ y, l[0]? = some y := ⟨_, List.getElem?_eq_getElem (by omega)⟩
        obtain ⟨cs0, hcs0⟩ : ∃ c, css[0]? = some c := ⟨_, List.getElem?_eq_getElem (by have := hall.1; rw [List.length_map] at this; omega)⟩
        have hpi : ((l.take k).map fun y => madeP y.l ((l.headD ⟨0, []⟩).r % 13))[0]? = some (madeP y.l ((l.headD ⟨0, []⟩).r % 13)) := by rw [List.getElem?_map, List.getElem?_take_of_lt (by omega), hyi]; rfl
        obtain ⟨adp, mq, cq, rfl, _⟩ := hall.2 _ _ _ hcs0 hpi
        have hyw := (hw y (List.mem_of_getElem? hyi)).r
        have hr0 : ((l.headD ⟨0, []⟩).r % 13) = y.r % 13 := by rw [List.headD_eq_head?_getD, List.head?_eq_getElem?, hyi]; rfl
        refine draw (.cons 0 .pure (.cons 1 .pure (.cons 2 .pure (.cons 3 .pure (.cons 4 .held (.cons 5 .pure (.cons 6 .held (.cons 7 .pure (.cons 8 .held (.cons 9 .eff (.cons 10 .eff (.cons 11 .bar (.cons 12 .pure .nil))))))))))))) mixed (by kernel_rfl) hS ?_
        intro w_5 hS
        refine sp rfl (g_move _) ?_
        refine sp rfl (g_move _) ?_
        refine sp rfl (g_movev (v := .int .i64 _) rfl) ?_
        refine sp rfl (g_ixI Tryz.underlying41 Tryz.sizeOf24 (hl.mono hS.ext) rfl rfl (by omega) (by omega)) ?_
        refine sh rfl (g_ldE (us := [.int .u8 _, .slice _ _ _]) Tryz.sizeOf24 Tryz.isAgg24 hxA rfl rfl rfl) ?_
        refine sp rfl (g_move _) ?_
        refine sh rfl (g_ixR 0 Tryz.underlying42 Tryz.sizeOf29 rfl rfl rfl (by decide) (by omega)) ?_
        refine sp rfl (g_fieldE (c' := 1) Tryz.underlying29 rfl Tryz.sizeOf3 rfl rfl rfl) ?_
        refine sh rfl (g_ldR1 0 Tryz.isAgg3 rfl rfl (flatten_get css hcl4 0 _ hcs0 1 _ rfl)) ?_
        have hS0 := hS
        refine se rfl (d_call Tryz.call48 rfl (sized_c x.r adx capx x.l ((l.headD ⟨0, []⟩).r % 13) _ _ hS.imm hxl hxw.l (by omega) (by omega))) ?_
        rintro _ w_6 ⟨I2, a2, m2, c2, rfl, hE, h2⟩
        replace hS := hS.call hE
        refine ⟨_, _, hS0.le hE.ext (List.Sublist.refl _), hS, ?_⟩
        have hS0 := hS
        refine se rfl (d_lit (vs := [.agg #[.bool _, .int .i64 _, .int .i64 _, .slice _ _ _]]) (cs := [.bool _, .int .i64 _, .int .i64 _, .slice _ _ _]) hS Tryz.underlying42 Tryz.sizeOf29 Tryz.zeroValue29 rfl rfl rfl rfl (fun v hv => by simp only [List.mem_cons, List.not_mem_nil, or_false] at hv; subst hv; rfl) rfl) ?_
        rintro _ w_7 ⟨b_7, rfl, hS⟩
        refine ⟨_, _, hS0.le (Sub.refl _) (List.sublist_cons_self _ _), hS, ?_⟩
        refine sb rfl (i_appendO 1 0 hS rfl Tryz.underlying42 info29 rfl rfl rfl rfl rfl rfl rfl rfl (by omega) (by omega)) ?_
        rintro _ w_8 ⟨a40, p40, rfl, hS⟩
        refine ⟨_, _, hS, ?_⟩
        refine sp rfl (g_assign _) ?_
        refine sn (blkN (thenN ?_))
        refine reg ?_
        refine qq hS (g_movev (v := .int .i64 _) rfl) ?_
        refine qq hS (g_add rfl rfl (by omega) (by omega)) ?_
        refine qq hS (g_assignv (v := .int .i64 _) rfl) ?_
        refine ol_nil (thenN ?_)
        first
          | (refine ⟨⟨0 + 1, css ++ [[.bool (madeP x.l (x.r % 13)).lifted, .int .i64 (madeP x.l (x.r % 13)).in_, .int .i64 (madeP x.l (x.r % 13)).out, .slice a2 m2 c2]], a28, p28⟩, _, rfl, ⟨⟨rfl, rfl, rfl, rfl, trivial⟩, I2, ?_, by dsimp only; omega, by dsimp only; omega, ?_, ?_⟩, by dsimp only; omega⟩
             · dsimp only
               rw [List.flatten_append, List.flatten_singleton]
               exact hS.sel [false, true]
             · dsimp only
               rw [take_snoc hxi, List.map_append]
               exact All2.snoc (hall.mono fun _ _ h => h.mono hE.ext) ⟨_, _, _, by rw [hr0], by rw [hr0]; exact h2⟩
             · intro cs hcs
               rcases List.mem_append.1 hcs with h | h
               · exact hcl4 cs h
               · simp only [List.mem_singleton] at h; subst h; rfl)
          | (refine ⟨⟨k + 1, css ++ [[.bool (madeP x.l ((l.headD ⟨0, []⟩).r % 13)).lifted, .int .i64 (madeP x.l ((l.headD ⟨0, []⟩).r % 13)).in_, .int .i64 (madeP x.l ((l.headD ⟨0, []⟩).r % 13)).out, .slice a2 m2 c2]], a40, p40⟩, _, rfl, ⟨⟨rfl, rfl, rfl, rfl, trivial⟩, I2, ?_, by dsimp only; omega, by dsimp only; omega, ?_, ?_⟩, by dsimp only; omega⟩
             · dsimp only
               rw [List.flatten_append, List.flatten_singleton]
               exact hS.sel [false, true]
             · dsimp only
               rw [take_snoc hxi, List.map_append]
               exact All2.snoc (hall.mono fun _ _ h => h.mono hE.ext) ⟨_, _, _, rfl, h2⟩
             · intro cs hcs
               rcases List.mem_append.1 hcs with h | h
               · exact hcl4 cs h
               · simp only [List.mem_singleton] at h; subst h; rfl)
    ·
      intro hc16
      clear hu13 hn13 hu14 hn14 hu15 hn15
      simp only [Bool.and_eq_true, Bool.and_eq_false_iff, decide_eq_true_eq, decide_eq_false_iff_not] at hc16
      have htk : l.take n = l.take k := by
        by_cases h : k = n
        · rw [h]
        · rw [List.take_of_length_le (by omega), List.take_of_length_le (by omega)]
      have hlenk : (l.take k).length = k := by rw [List.length_take]; omega
      refine wpIn_exit ?_
      refine thenE (thenE (blkE ?_))
      refine thenN ?_
      refine wpIn_seq ?_
      refine wpIn_seq ?_
      refine reg ?_
      refine qq hS (g_move _) ?_
      refine qq hS (g_lenR 0 rfl Tryz.underlying42 rfl rfl) ?_
      refine qq hS (g_eql rfl rfl) ?_
      refine ol_nil (thenN ?_)
      refine cond_s rfl ?_ ?_
      ·
        intro hc43
        try simp only [Bool.and_eq_true, Bool.or_eq_true, Bool.not_eq_true', Bool.and_eq_false_imp, Bool.or_eq_false_iff, Bool.not_eq_false', decide_eq_true_eq, decide_eq_false_iff_not] at hc43
        have e : manyP l n = [wholeP 3] := by unfold manyP; rw [htk, if_pos (List.length_eq_zero_iff.1 (by omega))]
        refine wpIn_seq ?_
        refine reg ?_
        refine qe (d_call Tryz.call60 rfl (refWhole_c 3 _ _ hS.imm (by decide))) ?_
        rintro _ w_9 ⟨I_f, a44, m44, c44, rfl, hE, h44⟩
        replace hS := hS.callE hE
        refine qe (d_lit (vs := [.agg #[.bool _, .int .i64 _, .int .i64 _, .slice _ _ _]]) (cs := [.bool _, .int .i64 _, .int .i64 _, .slice _ _ _]) hS Tryz.underlying42 Tryz.sizeOf29 Tryz.zeroValue29 rfl rfl rfl rfl (fun v hv => by simp only [List.mem_cons, List.not_mem_nil, or_false] at hv; subst hv; rfl) rfl) ?_
        clear hS
        rintro _ w_10 ⟨b45, rfl, hS⟩
        have hF := hS.freeze1
        clear hS
        obtain ⟨I45, hS, hI45, hb45⟩ := hF
        replace h44 := h44.mono hI45
        have h45 : RPats _ (.slice (some ⟨b45, 0, none⟩) 1 1) [wholeP 3] := RSl.ofAt (css := [[.bool (wholeP 3).lifted, .int .i64 (wholeP 3).in_, .int .i64 (wholeP 3).out, .slice a44 m44 c44]]) hb45 rfl (by simp) (All2.one ⟨_, _, _, rfl, h44⟩) rfl (by show 1 ≤ maxLen; decide)
        refine qq hS (g_assign _) ?_
        refine ol_nil (thenN ?_)
        refine wpIn_ret ?_
        refine thenR ?_
        refine ret1 Tryz.results41 (rv_tmp rfl) ?_
        rw [e]; exact ⟨_, _, 1, rfl, hS.nil, h45⟩
      ·
        intro hc43
        try simp only [Bool.and_eq_true, Bool.or_eq_true, Bool.not_eq_true', Bool.and_eq_false_imp, Bool.or_eq_false_iff, Bool.not_eq_false', decide_eq_true_eq, decide_eq_false_iff_not] at hc43
        have e : manyP l n = (l.take k).map fun y => madeP y.l ((l.headD ⟨0, []⟩).r % 13) := by unfold manyP; rw [htk, if_neg (by intro h; rw [h] at hlenk; simp at hlenk; omega)]
        refine wpIn_skip ?_
        refine thenN ?_
        refine wpIn_seq ?_
        refine reg ?_
        refine qq hS (g_move _) ?_
        refine qq hS (g_assign _) ?_
        refine ol_nil (thenN ?_)
        refine wpIn_ret ?_
        refine ret1 Tryz.results41 (rv_tmp rfl) ?_
        obtain ⟨I3, hS3, hI3, ho3⟩ := St.freezeRowR (hS.sel [true]) (xs := (l.take k).map fun y => madeP y.l ((l.headD ⟨0, []⟩).r % 13)) (by rw [List.length_map]; exact hlenk.symm) hcl4 hall
        rw [e, List.length_map, hlenk]
        exact ⟨I3, a, c, rfl, hS3, RSl.mono ho3 (Inl.Sub.refl _) fun _ _ h => h.mono hI3⟩

end Go.Proofs.YtodopmclnklgdaaGreat


namespace Go.Proofs.YtodopmclnklgdaaGreat
open Go Go.RowKit Go.Inl
set_option linter.unusedSimpArgs false
set_option linter.unusedVariables false
theorem plain_bad {p : PatL} (h : (checkP p).2 ≠ 0) : plainP p = 60 := by
  have h1 := checkP_60 p
  unfold plainP; rw [if_pos h]; omega
theorem plain_lif {p : PatL} (h : (checkP p).2 = 0) (hl : p.lifted = true) : plainP p = 62 := by
  unfold plainP; rw [if_neg (by rw [h]; decide), if_pos hl]
theorem plain_no {p : PatL} (h : (checkP p).2 = 0) (hl : p.lifted = false) : plainP p = 0 := by
  unfold plainP; rw [if_neg (by rw [h]; decide), hl]; rfl
theorem split_in {p : PatL} {l : List SecL} (hok : SecsOk l) (h : l.any (fun s => decide (p.out < s.to)) = false) : RangesIn (l.map secR) p.out := by
  intro r hr
  obtain ⟨s, hs, rfl⟩ := List.mem_map.1 hr
  obtain ⟨k, hk⟩ := List.mem_iff_getElem?.1 hs
  obtain ⟨_, _, h3, _, _⟩ := hok.each k s hk
  have h1 := hok.ge k s hk
  have h4 := List.any_eq_false.1 h s hs
  simp only [decide_eq_true_eq] at h4
  exact ⟨h1, by show s.from_ ≤ s.to; omega, by show s.to ≤ _; omega⟩
theorem sectorsR_take {out size : Int} {k : Nat} (h : k < (sectorsR out size).length) : (sectorsR out size).take (k + 1) = (sectorsR out size).take k ++ [((k : Int) * size, if out < (k : Int) * size + size then out else (k : Int) * size + size)] := take_snoc (sectorsR_at h)

theorem info_rng : Info Tryz.prog 117 (.agg #[.int .i64 0, .int .i64 0]) 2 16 := info_of (by kernel_rfl)

end Go.Proofs.YtodopmclnklgdaaGreat

