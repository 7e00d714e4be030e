/- coder.Decode of any bytes: an error, or a text whose code they are. Conditions: none. -/
import Derived.Test.YtdgnojckkjfhfaaDoorKDec
namespace Go.Proofs.YtdgnojckkjfhfaaDoor
open Go Go.RowKit Go.Inl
set_option linter.unusedSimpArgs false
set_option linter.unusedVariables false
structure DwA where
  k : Nat
  ah : Int
  l : List Int
  a : Option Addr
  c : Nat
structure DwB (M : Mdl) where
  k : Nat
  ah : Int
  sz : Int
  xs : List Int
  s : M.S
  l : List Int
  a : Option Addr
  c : Nat
  d : Option Addr
  e : Nat
structure DwC where
  c : Nat
  bf : Int
structure DwD where
  ah : Int
  sz : Int
  l : List Int
  a : Option Addr
  c : Nat

set_option maxRecDepth 20000 in
set_option maxHeartbeats 2000000 in
theorem decw_c (M : Mdl) (hM : MdlOk M) (s0 : M.S) (hs0 : M.inv s0) (n : Int) (hbeg : ∀ (w : World) (I : Imm), Sat I w → Ctr Tryd.prog 38 [.int .i64 n] w (fun v w' => ∃ I' F, Ext w I w' I' ∧ M.holds I' v s0 F ∧ ∀ c ∈ F, w.heap.size ≤ c))
    (len : Int) (hl0 : 0 ≤ len) (ad : Option Addr) (cap : Nat) (b : List Int) (hbb : Byt b) (w0 : World) (I0 : Imm) (hI : Sat I0 w0) (hb : RBytes I0 (.slice ad b.length cap) b) :
    Ctr Tryd.prog 64 [.int .i64 n, .slice ad b.length cap, .int .i64 len] w0 (fun v w' => ∃ I' a m c e, v = .tuple #[.slice a m c, .int .i64 e] ∧ Ext w0 I0 w' I' ∧ (e = 0 → ∃ x, m = x.length ∧ (x.length : Int) = len ∧ x.length ≤ 65536 ∧ Byt x ∧ encP M s0 x = b ∧ RBytes I' (.slice a m c) x)) := by
  refine fn (n := 128) Tryd.func64 rfl rfl rfl ?_
  have hS := St.start hI
  refine wpIn_seq ?_
  refine reg ?_
  refine qq hS (g_assign _) ?_
  refine qq hS (g_assignv (v := .int .i64 _) rfl) ?_
  refine ol_nil (thenN ?_)
  refine wpIn_seq ?_
  refine reg ?_
  refine qq hS (g_movev (v := .int .i64 _) rfl) ?_
  refine qe (d_call Tryd.call38 rfl (hbeg _ _ hS.imm)) ?_
  rintro mv w_1 ⟨I1, F1, hE, hH1, hF1⟩
  replace hS := hS.callE hE
  obtain ⟨mT, mx, hmv⟩ := hM.iface _ _ _ _ hH1
  have hFn1 : ∀ c ∈ F1, w0.heap.size ≤ c := fun c hc => hF1 c hc
  refine qq hS (g_assign _) ?_
  refine ol_nil (thenN ?_)
  refine wpIn_seq ?_
  refine wpIn_seq ?_
  refine reg ?_
  refine qq hS (g_move _) ?_
  refine qq hS (g_ifaceNil model_ty hmv rfl) ?_
  refine qq hS (g_movev (v := .bool _) rfl) ?_
  refine qqs rfl rfl hS (g_movev (v := .int .i64 _) rfl) ?_
  refine qqs rfl rfl hS (g_ltF13 rfl rfl (by omega)) ?_
  refine qq hS (g_or rfl rfl (fun _ => rfl)) ?_
  refine qq hS (g_movev (v := .bool _) rfl) ?_
  refine qqs rfl rfl hS (g_movev (v := .int .i64 _) rfl) ?_
  refine qqs rfl rfl hS (g_gtr rfl rfl) ?_
  refine qq hS (g_or rfl rfl (fun _ => rfl)) ?_
  refine ol_nil (thenN ?_)
  refine cond_s rfl ?_ ?_
  ·
    intro hc32
    skip
    refine wpIn_seq ?_
    refine reg ?_
    refine qq hS (g_assign _) ?_
    refine qq hS (g_assignv (v := .int .i64 _) rfl) ?_
    refine ol_nil (thenN ?_)
    refine wpIn_ret ?_
    refine thenR ?_
    refine ret2 Tryd.results64 (rv_tmp rfl) (rv_tmp (v := .int .i64 _) rfl) ?_
    first
      | exact ⟨_, _, _, _, _, rfl, hS.nil, fun _ => ⟨xs, rfl, rfl, by omega, hxb, heq, hout⟩⟩
      | exact ⟨_, _, _, _, _, rfl, hS.nil, fun h => absurd h (by decide)⟩
  ·
    intro hc32
    have hl1 : len ≤ 65536 := by simpa using hc32
    obtain ⟨N, rfl⟩ : ∃ N : Nat, len = N := ⟨len.toNat, by omega⟩
    refine wpIn_skip ?_
    refine thenN ?_
    refine wpIn_seq ?_
    refine reg ?_
    refine qq hS (g_move _) ?_
    refine qe (d_alloc (cs := [.slice _ _ _]) hS Tryd.zeroValue25 rfl) ?_
    clear hS
    rintro _ w_2 ⟨b9, rfl, hS⟩
    refine qe (d_store 0 hS Tryd.sizeOf25 rfl rfl rfl (vs := [.slice _ _ _]) rfl rfl rfl (Nat.le_of_ble_eq_true rfl) (cs' := [_]) rfl) ?_
    clear hS
    rintro _ w_3 ⟨rfl, hS⟩
    refine ol_nil (thenN ?_)
    refine wpIn_seq ?_
    refine reg ?_
    refine qq hS (g_makeFuncL ml0 (ml rfl ml0)) ?_
    refine qq hS (g_assign _) ?_
    refine ol_nil (thenN ?_)
    refine wpIn_seq ?_
    refine reg ?_
    refine qq hS (g_assignv (v := .int .u64 _) rfl) ?_
    refine ol_nil (thenN ?_)
    refine wpIn_seq ?_
    refine wpIn_seq ?_
    refine reg ?_
    refine qq hS (g_movev (v := .int .i64 _) rfl) ?_
    refine ol_nil (thenN ?_)
    refine wpIn_block ?_
    refine loop (fun (z : DwA) σ w => okS σ [(0, .int .i64 n), (1, .slice ad b.length cap), (2, .int .i64 N), (8, mv), (10, .func (.func 69) #[] #[.pointer (some ⟨b9, 0, none⟩)]), (11, .int .u64 z.ah), (35, .int .i64 z.k)] ∧ St [] w0 I0 I1 w [.cel b9 25 [.slice z.a z.l.length z.c]] ∧ z.k ≤ 4 ∧ Byt z.l ∧ RBytes I0 (.slice z.a z.l.length z.c) z.l) (fun z => 4 - z.k) (⟨0, 0, b, ad, cap⟩) ?_ ?_
    ·
      exact ⟨⟨rfl, rfl, rfl, rfl, rfl, rfl, rfl, trivial⟩, hS.sel [true], Nat.zero_le _, hbb, hb⟩
    ·
      rintro ⟨k, ah, l, a, c⟩ σ w_l ⟨hs, hS, hk0, hlb, hr⟩
      dsimp only at hs hS hk0 hlb hr ⊢
      rw [← upds_self hs]; clear hs
      refine wpIn_seq ?_
      refine reg ?_
      refine qq hS (g_lss rfl rfl) ?_
      refine ol_nil (thenN ?_)
      refine wpIn_seq ?_
      refine cond_s rfl ?_ ?_
      ·
        intro hc36
        try simp only [Bool.and_eq_true, Bool.or_eq_true, Bool.not_eq_true', Bool.and_eq_false_imp, Bool.or_eq_false_iff, Bool.not_eq_false', decide_eq_true_eq, decide_eq_false_iff_not] at hc36
        refine wpIn_skip ?_
        refine thenN ?_
        refine wpIn_seq ?_
        refine wpIn_block ?_
        refine reg ?_
        refine qq hS (g_movev (v := .int .u64 _) rfl) ?_
        refine qq hS (g_mulu rfl rfl rfl) ?_
        refine qq hS (g_move _) ?_
        refine qe (d_callv Tryd.call69 rfl rfl (next_c b9 _ _ l _ _ hS.imm (own_heap hS (k := 0) rfl) (own_none hS (k := 0) rfl) (hr.mono hS.ext) hlb)) ?_
        rintro _ w_4 ⟨rfl, aN, cN, hE, hrN⟩
        replace hS := hS.callX (k := 0) rfl hE
        have hrM := hrN I0 hr
        refine qq hS (g_addu rfl rfl rfl) ?_
        refine qq hS (g_assignv (v := .int .u64 _) rfl) ?_
        refine ol_nil (blkN (thenN ?_))
        refine reg ?_
        refine qq hS (g_add rfl rfl (by omega) (by omega)) ?_
        refine qq hS (g_movev (v := .int .i64 _) rfl) ?_
        exact ⟨⟨k + 1, _, l.tail, aN, cN⟩, _, rfl, ⟨⟨rfl, rfl, rfl, rfl, rfl, rfl, rfl, trivial⟩, hS.sel [true], by dsimp only; omega, fun y hy => hlb y (List.mem_of_mem_tail hy), hrM⟩, by dsimp only; omega⟩
      ·
        intro hc36
        try simp only [Bool.and_eq_true, Bool.or_eq_true, Bool.not_eq_true', Bool.and_eq_false_imp, Bool.or_eq_false_iff, Bool.not_eq_false', decide_eq_true_eq, decide_eq_false_iff_not] at hc36
        obtain rfl : k = 4 := by omega
        refine wpIn_exit ?_
        refine thenE (thenE (blkE ?_))
        refine thenN ?_
        refine wpIn_seq ?_
        refine reg ?_
        refine qq hS (g_assignv (v := .int .u64 _) rfl) ?_
        refine ol_nil (thenN ?_)
        refine wpIn_seq ?_
        refine reg ?_
        refine qq hS (g_movev (v := .int .i64 _) rfl) ?_
        refine qe (i_make0 hS Tryd.underlying25 info5 rfl rfl (by omega) (by omega) (by omega)) ?_
        clear hS
        rintro _ w_5 ⟨a44, p44, rfl, hS⟩
        refine qq hS (g_assign _) ?_
        refine ol_nil (thenN ?_)
        refine wpIn_seq ?_
        refine wpIn_seq ?_
        refine reg ?_
        refine qq hS (g_movev (v := .int .i64 _) rfl) ?_
        refine qq hS (g_movev (v := .int .i64 _) rfl) ?_
        refine ol_nil (thenN ?_)
        refine wpIn_block ?_
        refine loop (fun (z : DwB M) σ w => okS σ [(0, .int .i64 n), (1, .slice ad b.length cap), (8, mv), (10, .func (.func 69) #[] #[.pointer (some ⟨b9, 0, none⟩)]), (11, .int .u64 z.ah), (12, .int .u64 z.sz), (13, .slice z.d z.k z.e), (45, .int .i64 N), (46, .int .i64 z.k)] ∧ ∃ I, St [] w0 I0 I w [.cel b9 25 [.slice z.a z.l.length z.c], .row (.slice z.d z.k z.e) 5 1 z.k (flat byteC z.xs)] ∧ z.k ≤ N ∧ z.xs.length = z.k ∧ Byt z.xs ∧ M.inv z.s ∧ 16777216 ≤ z.sz ∧ z.sz ≤ 4294967295 ∧ Byt z.l ∧ RBytes I0 (.slice z.a z.l.length z.c) z.l ∧ ∃ F, M.holds I mv z.s F ∧ ∀ c ∈ F, w0.heap.size ≤ c) (fun z => N - z.k) (⟨0, ah, 4294967295, [], s0, l, a, c, a44, p44⟩) ?_ ?_
        ·
          exact ⟨⟨rfl, rfl, rfl, rfl, rfl, rfl, rfl, rfl, rfl, trivial⟩, _, hS.ord [1, 0], Nat.zero_le _, rfl, (fun y hy => by cases hy), hs0, by dsimp only; omega, by dsimp only; omega, hlb, hr, F1, hH1, hFn1⟩
        ·
          rintro ⟨k, ah, sz, xs, s, l, a, c_, d, e⟩ σ w_l ⟨hs, I, hS, hk0, hxl, hxb, hMi, hz1, hz2, hlb, hr, F, hH, hFn⟩
          dsimp only at hs hS hk0 hxl hxb hMi hz1 hz2 hlb hr hH ⊢
          rw [← upds_self hs]; clear hs
          refine wpIn_seq ?_
          refine reg ?_
          refine qq hS (g_lss rfl rfl) ?_
          refine ol_nil (thenN ?_)
          refine wpIn_seq ?_
          refine cond_s rfl ?_ ?_
          ·
            intro hc47
            try simp only [Bool.and_eq_true, Bool.or_eq_true, Bool.not_eq_true', Bool.and_eq_false_imp, Bool.or_eq_false_iff, Bool.not_eq_false', decide_eq_true_eq, decide_eq_false_iff_not] at hc47
            have hA := hM.tab s hMi
            obtain ⟨A, hAe⟩ : ∃ A, M.tab s = A := ⟨_, rfl⟩
            rw [hAe] at hA
            have hAt : 1 ≤ A.t ∧ A.t ≤ 65536 := ⟨by have := sum_ge A.c hA.pos; rw [hA.sum, hA.len] at this; omega, hA.top⟩
            obtain ⟨r1, r2⟩ := quo_facts hz1 hAt
            have hrle : sz / A.t ≤ sz := Int.ediv_le_self _ (by omega)
            obtain ⟨r, hr_⟩ : ∃ x, sz / A.t = x := ⟨_, rfl⟩
            rw [hr_] at r1 r2 hrle
            have hrw : IntKind.u64.wrap (sz / A.t) = r := by rw [hr_, IntKind.wrap_u64]; omega
            have hcell : ∀ c : Nat, c ≤ 255 → ∃ lc, A.c[c]? = some lc ∧ 1 ≤ lc ∧ lc ≤ A.t := fun c hc => by
              have h2 := sum_take_le A.c c hA.pos (by rw [hA.len]; omega)
              rw [List.getD_eq_getElem?_getD, List.getElem?_eq_getElem (show c < A.c.length by rw [hA.len]; omega), hA.sum] at h2
              refine ⟨_, List.getElem?_eq_getElem (by rw [hA.len]; omega), ?_⟩
              simp at h2; omega
            refine wpIn_skip ?_
            refine thenN ?_
            refine wpIn_seq ?_
            refine wpIn_block ?_
            refine wpIn_seq ?_
            refine reg ?_
            refine qq hS (g_move _) ?_
            refine qe (hM.counts _ mv s F hS.imm hH hMi rfl) ?_
            rintro v50 w_6 ⟨I2, F2, tb, hv50, hC, hH2, hT2, hF2⟩
            rw [hAe] at hv50 hT2
            subst hv50
            have hsz0 := hS.size
            replace hS := St.chg hI hS (fun c hc => ⟨hM.foot _ _ _ _ hH c hc, hFn c hc⟩) hC
            have hFn2 : ∀ c ∈ F2, w0.heap.size ≤ c := fun c hc => (hF2 c hc).elim (hFn c) (fun h => Nat.le_trans hsz0 h)
            refine qq hS (g_move _) ?_
            refine qq hS (g_extract rfl rfl) ?_
            refine qq hS (g_extract (v := .int .u64 _) rfl rfl) ?_
            refine qq hS (g_assign _) ?_
            refine qq hS (g_assignv (v := .int .u64 _) rfl) ?_
            refine ol_nil (thenN ?_)
            refine wpIn_seq ?_
            refine reg ?_
            refine qq hS (g_movev (v := .int .u64 _) rfl) ?_
            refine qq hS (g_movev (v := .int .u64 _) rfl) ?_
            refine qq hS (g_quou13 rfl rfl (by omega) (by omega) hrw) ?_
            refine qq hS (g_assignv (v := .int .u64 _) rfl) ?_
            refine ol_nil (thenN ?_)
            refine wpIn_seq ?_
            refine reg ?_
            refine qq hS (g_assignv (v := .int .i64 _) rfl) ?_
            refine qq hS (g_assignv (v := .int .u64 _) rfl) ?_
            refine ol_nil (thenN ?_)
            refine wpIn_seq ?_
            refine wpIn_block ?_
            refine loop (fun (z : DwC) σ w => okS σ [(0, .int .i64 n), (1, .slice ad b.length cap), (8, mv), (10, .func (.func 69) #[] #[.pointer (some ⟨b9, 0, none⟩)]), (11, .int .u64 ah), (12, .int .u64 sz), (13, .slice d k e), (14, .pointer (some ⟨tb, 0, none⟩)), (15, .int .u64 A.t), (16, .int .u64 r), (17, .int .i64 z.c), (18, .int .u64 z.bf), (45, .int .i64 N), (46, .int .i64 k)] ∧ St [] w0 I0 I2 w [.cel b9 25 [.slice a l.length c_], .row (.slice d k e) 5 1 k (flat byteC xs)] ∧ z.c ≤ 255) (fun z => 255 - z.c) (⟨0, 0⟩) ?_ ?_
            ·
              exact ⟨⟨rfl, rfl, rfl, rfl, rfl, rfl, rfl, rfl, rfl, rfl, rfl, rfl, rfl, rfl, trivial⟩, hS.sel [true, true], Nat.zero_le _⟩
            ·
              rintro ⟨c, bf⟩ σ w_l ⟨hs, hS, hcl⟩
              dsimp only at hs hS hcl ⊢
              rw [← upds_self hs]; clear hs
              refine wpIn_seq ?_
              refine wpIn_seq ?_
              obtain ⟨lc, hlc, hlc1, hlc2⟩ := hcell c hcl
              have hw66 : IntKind.u64.wrap lc = lc := by rw [IntKind.wrap_u64]; omega
              refine reg ?_
              refine qq hS (g_movev (v := .int .i64 _) rfl) ?_
              refine qq hS (g_lss rfl rfl) ?_
              refine qq hS (g_movev (v := .bool _) rfl) ?_
              refine qu rfl rfl hS (fun hg => (g_movev (v := .int .u64 _) rfl)) ?_
              intro u59 hu59 hn59
              refine qu rfl rfl hS (fun hg => (g_movev (v := .int .u64 _) rfl)) ?_
              intro u60 hu60 hn60
              refine qu rfl rfl hS (fun hg => (g_move _)) ?_
              intro u61 hu61 hn61
              refine qu rfl rfl hS (fun hg => (g_movev (v := .int .i64 _) rfl)) ?_
              intro u62 hu62 hn62
              refine qu rfl rfl hS (fun hg => (g_nilCheck (hu61 hg))) ?_
              intro u63 hu63 hn63
              refine qu rfl rfl hS (fun hg => (g_indexArr (o' := c) Tryd.underlying125 Tryd.sizeOf51 (hu63 hg) (hu62 hg) (by omega) (by omega) (by omega))) ?_
              intro u64 hu64 hn64
              refine qu rfl rfl hS (fun hg => (g_ldA1 Tryd.isAgg51 (atCell hT2.hold) (hu64 hg) (adL_at hlc))) ?_
              intro u65 hu65 hn65
              refine qu rfl rfl hS (fun hg => (g_convu Tryd.underlying51 Tryd.underlying84 (hu65 hg) hw66)) ?_
              intro u66 hu66 hn66
              refine qu rfl rfl hS (fun hg => (g_addu (hu60 hg) (hu66 hg) rfl)) ?_
              intro u67 hu67 hn67
              refine qu rfl rfl hS (fun hg => (g_mulu (hu59 hg) (hu67 hg) rfl)) ?_
              intro u68 hu68 hn68
              refine qu rfl rfl hS (fun hg => (g_movev (v := .int .u64 _) rfl)) ?_
              intro u69 hu69 hn69
              refine qu rfl rfl hS (fun hg => (g_leq (hu68 hg) (hu69 hg))) ?_
              intro u70 hu70 hn70
              refine qq hS (g_and rfl rfl (fun hq => hu70 hq)) ?_
              refine ol_nil (thenN ?_)
              refine cond_s rfl ?_ ?_
              ·
                intro hc71
                clear hu59 hn59 hu60 hn60 hu61 hn61 hu62 hn62 hu63 hn63 hu64 hn64 hu65 hn65 hu66 hn66 hu67 hn67 hu68 hn68 hu69 hn69 hu70 hn70
                have hc254 : c < 255 := by
                  rw [Bool.and_eq_true, decide_eq_true_eq] at hc71
                  omega
                refine wpIn_skip ?_
                refine thenN ?_
                refine wpIn_block ?_
                refine wpIn_seq ?_
                refine reg ?_
                refine qq hS (g_movev (v := .int .u64 _) rfl) ?_
                refine qq hS (g_move _) ?_
                refine qq hS (g_movev (v := .int .i64 _) rfl) ?_
                refine qq hS (g_nilCheck rfl) ?_
                refine qq hS (g_indexArr (o' := c) Tryd.underlying125 Tryd.sizeOf51 rfl rfl (by omega) (by omega) (by omega)) ?_
                refine qq hS (g_ldA1 Tryd.isAgg51 (atCell hT2.hold) rfl (adL_at hlc)) ?_
                refine qq hS (g_convu Tryd.underlying51 Tryd.underlying84 rfl hw66) ?_
                refine qq hS (g_addu rfl rfl rfl) ?_
                refine qq hS (g_assignv (v := .int .u64 _) rfl) ?_
                refine ol_nil (thenN ?_)
                refine reg ?_
                refine qq hS (g_movev (v := .int .i64 _) rfl) ?_
                refine qq hS (g_add rfl rfl (by omega) (by omega)) ?_
                refine qq hS (g_assignv (v := .int .i64 _) rfl) ?_
                exact ⟨⟨c + 1, _⟩, _, rfl, ⟨⟨rfl, rfl, rfl, rfl, rfl, rfl, rfl, rfl, rfl, rfl, rfl, rfl, rfl, rfl, trivial⟩, hS.sel [true, true], by dsimp only; omega⟩, by dsimp only; omega⟩
              ·
                intro hc71
                clear hu59 hn59 hu60 hn60 hu61 hn61 hu62 hn62 hu63 hn63 hu64 hn64 hu65 hn65 hu66 hn66 hu67 hn67 hu68 hn68 hu69 hn69 hu70 hn70
                skip
                refine wpIn_exit ?_
                refine thenE (thenE (blkE ?_))
                refine thenN ?_
                refine wpIn_seq ?_
                refine reg ?_
                refine qq hS (g_movev (v := .int .u64 _) rfl) ?_
                refine qq hS (g_movev (v := .int .u64 _) rfl) ?_
                refine qq hS (g_movev (v := .int .u64 _) rfl) ?_
                refine qq hS (g_mulu rfl rfl rfl) ?_
                refine qq hS (g_subu rfl rfl rfl) ?_
                refine qq hS (g_assignv (v := .int .u64 _) rfl) ?_
                refine ol_nil (thenN ?_)
                refine wpIn_seq ?_
                have e3 : r * lc ≤ r * A.t := Int.mul_le_mul_of_nonneg_left hlc2 (by omega)
                have e4 : 1 ≤ r * lc := by have := Int.mul_le_mul (show 1 ≤ r by omega) hlc1 (by omega) (by omega); omega
                obtain ⟨rc, hrc⟩ : ∃ x, r * lc = x := ⟨_, rfl⟩
                rw [hrc] at e3 e4
                have hm4 : IntKind.u64.wrap (r * lc) = rc := by rw [hrc, IntKind.wrap_u64]; omega
                refine reg ?_
                refine qq hS (g_movev (v := .int .u64 _) rfl) ?_
                refine qq hS (g_move _) ?_
                refine qq hS (g_movev (v := .int .i64 _) rfl) ?_
                refine qq hS (g_nilCheck rfl) ?_
                refine qq hS (g_indexArr (o' := c) Tryd.underlying125 Tryd.sizeOf51 rfl rfl (by omega) (by omega) (by omega)) ?_
                refine qq hS (g_ldA1 Tryd.isAgg51 (atCell hT2.hold) rfl (adL_at hlc)) ?_
                refine qq hS (g_convu Tryd.underlying51 Tryd.underlying84 rfl hw66) ?_
                refine qq hS (g_mulu rfl rfl hm4) ?_
                refine qq hS (g_assignv (v := .int .u64 _) rfl) ?_
                refine ol_nil (thenN ?_)
                refine wpIn_seq ?_
                refine wpIn_seq ?_
                refine reg ?_
                refine qq hS (g_movev (v := .int .u64 _) rfl) ?_
                refine qq hS (g_movev (v := .int .u64 _) rfl) ?_
                refine qq hS (g_geq rfl rfl) ?_
                refine ol_nil (thenN ?_)
                refine cond_s rfl ?_ ?_
                ·
                  intro hc97
                  try simp only [Bool.and_eq_true, Bool.or_eq_true, Bool.not_eq_true', Bool.and_eq_false_imp, Bool.or_eq_false_iff, Bool.not_eq_false', decide_eq_true_eq, decide_eq_false_iff_not] at hc97
                  refine wpIn_seq ?_
                  refine reg ?_
                  refine qq hS (g_assign _) ?_
                  refine qq hS (g_assignv (v := .int .i64 _) rfl) ?_
                  refine ol_nil (thenN ?_)
                  refine wpIn_ret ?_
                  refine thenR (blkR (thenR (thenR (blkR (thenR ?_)))))
                  refine ret2 Tryd.results64 (rv_tmp rfl) (rv_tmp (v := .int .i64 _) rfl) ?_
                  first
                    | exact ⟨_, _, _, _, _, rfl, hS.nil, fun _ => ⟨xs, rfl, rfl, by omega, hxb, heq, hout⟩⟩
                    | exact ⟨_, _, _, _, _, rfl, hS.nil, fun h => absurd h (by decide)⟩
                ·
                  intro hc97
                  try simp only [Bool.and_eq_true, Bool.or_eq_true, Bool.not_eq_true', Bool.and_eq_false_imp, Bool.or_eq_false_iff, Bool.not_eq_false', decide_eq_true_eq, decide_eq_false_iff_not] at hc97
                  refine wpIn_skip ?_
                  refine thenN ?_
                  refine wpIn_seq ?_
                  refine wpIn_block ?_
                  refine loop (fun (z : DwD) σ w => okS σ [(0, .int .i64 n), (1, .slice ad b.length cap), (8, mv), (10, .func (.func 69) #[] #[.pointer (some ⟨b9, 0, none⟩)]), (11, .int .u64 z.ah), (12, .int .u64 z.sz), (13, .slice d k e), (17, .int .i64 c), (45, .int .i64 N), (46, .int .i64 k)] ∧ St [] w0 I0 I2 w [.cel b9 25 [.slice z.a z.l.length z.c], .row (.slice d k e) 5 1 k (flat byteC xs)] ∧ 1 ≤ z.sz ∧ z.sz ≤ 4294967295 ∧ Byt z.l ∧ RBytes I0 (.slice z.a z.l.length z.c) z.l) (fun z => (4294967295 - z.sz).toNat) (⟨IntKind.u64.wrap (ah - IntKind.u64.wrap (r * bf)), rc, l, a, c_⟩) ?_ ?_
                  ·
                    exact ⟨⟨rfl, rfl, rfl, rfl, rfl, rfl, rfl, rfl, rfl, rfl, trivial⟩, hS.sel [true, true], by dsimp only; omega, by dsimp only; omega, hlb, hr⟩
                  ·
                    rintro ⟨ah2, sz2, l, a, c3⟩ σ w_l ⟨hs, hS, hs1, hs2, hlb, hr⟩
                    dsimp only at hs hS hs1 hs2 hlb hr ⊢
                    rw [← upds_self hs]; clear hs
                    refine wpIn_seq ?_
                    refine wpIn_seq ?_
                    refine reg ?_
                    refine qq hS (g_movev (v := .int .u64 _) rfl) ?_
                    refine qq hS (g_lss rfl rfl) ?_
                    refine ol_nil (thenN ?_)
                    refine cond_s rfl ?_ ?_
                    ·
                      intro hc99
                      try simp only [Bool.and_eq_true, Bool.or_eq_true, Bool.not_eq_true', Bool.and_eq_false_imp, Bool.or_eq_false_iff, Bool.not_eq_false', decide_eq_true_eq, decide_eq_false_iff_not] at hc99
                      have hn4 : IntKind.u64.wrap (sz2 * 256) = sz2 * 256 := by rw [IntKind.wrap_u64]; omega
                      refine wpIn_skip ?_
                      refine thenN ?_
                      refine wpIn_seq ?_
                      refine wpIn_block ?_
                      refine reg ?_
                      refine qq hS (g_movev (v := .int .u64 _) rfl) ?_
                      refine qq hS (g_mulu rfl rfl rfl) ?_
                      refine qq hS (g_move _) ?_
                      refine qe (d_callv Tryd.call69 rfl rfl (next_c b9 _ _ l _ _ hS.imm (own_heap hS (k := 0) rfl) (own_none hS (k := 0) rfl) (hr.mono hS.ext) hlb)) ?_
                      rintro _ w_7 ⟨rfl, aN, cN, hE, hrN⟩
                      replace hS := hS.callX (k := 0) rfl hE
                      have hrM := hrN I0 hr
                      refine qq hS (g_addu rfl rfl rfl) ?_
                      refine qq hS (g_assignv (v := .int .u64 _) rfl) ?_
                      refine ol_nil (blkN (thenN ?_))
                      refine reg ?_
                      refine qq hS (g_movev (v := .int .u64 _) rfl) ?_
                      refine qq hS (g_mulu rfl rfl hn4) ?_
                      refine qq hS (g_assignv (v := .int .u64 _) rfl) ?_
                      exact ⟨⟨_, sz2 * 256, l.tail, aN, cN⟩, _, rfl, ⟨⟨rfl, rfl, rfl, rfl, rfl, rfl, rfl, rfl, rfl, rfl, trivial⟩, hS.sel [true, true], by dsimp only; omega, by dsimp only; omega, fun y hy => hlb y (List.mem_of_mem_tail hy), hrM⟩, by dsimp only; omega⟩
                    ·
                      intro hc99
                      try simp only [Bool.and_eq_true, Bool.or_eq_true, Bool.not_eq_true', Bool.and_eq_false_imp, Bool.or_eq_false_iff, Bool.not_eq_false', decide_eq_true_eq, decide_eq_false_iff_not] at hc99
                      refine wpIn_exit ?_
                      refine thenE (thenE (blkE ?_))
                      refine thenN ?_
                      refine wpIn_seq ?_
                      have hcy : IntKind.u8.wrap (c : Int) = c := by rw [IntKind.wrap_u8]; omega
                      have hMi2 := hM.nxt s c hMi (by omega)
                      refine reg ?_
                      refine qq hS (g_move _) ?_
                      refine qq hS (g_movev (v := .int .i64 _) rfl) ?_
                      refine qq hS (g_convu Tryd.underlying3 Tryd.underlying5 rfl hcy) ?_
                      refine qe (d_lit (vs := [.int .u8 _]) (cs := [.int .u8 _]) hS Tryd.underlying25 Tryd.sizeOf5 Tryd.zeroValue5 rfl rfl rfl rfl (fun v hv => by simp only [List.mem_cons, List.not_mem_nil, or_false] at hv; subst hv; rfl) rfl) ?_
                      clear hS
                      rintro _ w_8 ⟨b_8, rfl, hS⟩
                      refine qe (i_appendO 2 0 hS rfl Tryd.underlying25 info5 rfl rfl rfl rfl rfl rfl rfl rfl (by omega) (by omega)) ?_
                      clear hS
                      rintro _ w_9 ⟨a111, p111, rfl, hS⟩
                      refine qq hS (g_assign _) ?_
                      refine ol_nil (thenN ?_)
                      refine reg ?_
                      refine qq hS (g_move _) ?_
                      refine qq hS (g_movev (v := .int .i64 _) rfl) ?_
                      refine qq hS (g_convu Tryd.underlying3 Tryd.underlying5 rfl hcy) ?_
                      refine qe (hM.saw _ mv s F2 c (by omega) hS.imm hH2 hMi rfl rfl) ?_
                      rintro _ w_10 ⟨I3, F3, rfl, hC, hH3, hF3⟩
                      have hsz1 := hS.size
                      replace hS := St.chg hI hS (fun c hc => ⟨hM.foot _ _ _ _ hH2 c hc, hFn2 c hc⟩) hC
                      have hFn3 : ∀ c ∈ F3, w0.heap.size ≤ c := fun c hc => (hF3 c hc).elim (hFn2 c) (fun h => Nat.le_trans hsz1 h)
                      refine ol_nil (blkN (thenN ?_))
                      refine reg ?_
                      refine qq hS (g_add rfl rfl (by omega) (by omega)) ?_
                      refine qq hS (g_movev (v := .int .i64 _) rfl) ?_
                      refine ⟨⟨k + 1, ah2, sz2, xs ++ [(c : Int)], M.nxt s c, l, a, c3, a111, p111⟩, _, rfl, ⟨⟨rfl, rfl, rfl, rfl, rfl, rfl, rfl, rfl, rfl, trivial⟩, _, ?_, by dsimp only; omega, by dsimp only; rw [List.length_append, hxl]; rfl, fun y hy => (List.mem_append.1 hy).elim (hxb y) (fun hy => by simp only [List.mem_singleton] at hy; omega), hMi2, by dsimp only; omega, by dsimp only; omega, hlb, hr, F3, hH3, hFn3⟩, by dsimp only; omega⟩
                      dsimp only
                      rw [flat_append, flat_one]
                      exact hS.sel [false, true, true]
          ·
            intro hc47
            try simp only [Bool.and_eq_true, Bool.or_eq_true, Bool.not_eq_true', Bool.and_eq_false_imp, Bool.or_eq_false_iff, Bool.not_eq_false', decide_eq_true_eq, decide_eq_false_iff_not] at hc47
            obtain rfl : k = N := by omega
            subst hxl
            refine wpIn_exit ?_
            refine thenE (thenE (blkE ?_))
            refine thenN ?_
            refine wpIn_seq ?_
            refine wpIn_seq ?_
            have hF := St.freezeRow (u := .slice d xs.length e) (m := xs.length) (xs := xs) byteC_len (by exact hS.ord [1, 0]) (rfl)
            clear hS
            obtain ⟨I_hout, hS, hI_hout, hout⟩ := hF
            refine reg ?_
            refine qq hS (g_movev (v := .int .i64 _) rfl) ?_
            refine qq hS (g_move _) ?_
            refine qe (d_call Tryd.call24 rfl (enc_c M hM s0 hs0 n hbeg _ _ xs _ _ hS.imm hout hxb (by omega))) ?_
            rintro _ w_11 ⟨I_f, a120, c120, rfl, hE, h120⟩
            replace hS := hS.callE hE
            replace hout := hout.mono hE.ext
            refine qq hS (g_move _) ?_
            refine qq hS (g_extract rfl rfl) ?_
            refine qq hS (g_extract (v := .int .i64 _) rfl rfl) ?_
            refine qq hS (g_assign _) ?_
            refine qq hS (g_assignv (v := .int .i64 _) rfl) ?_
            refine ol_nil (thenN ?_)
            refine wpIn_seq ?_
            refine reg ?_
            refine qq hS (g_move _) ?_
            refine qq hS (g_move _) ?_
            refine qe (d_call Tryd.call70 rfl (equalB_c _ _ _ _ (encP M s0 xs) b _ _ hS.imm h120 (hb.mono hS.ext))) ?_
            rintro _ w_12 ⟨rfl, hE⟩
            replace hS := hS.callE hE
            refine qq hS (g_not rfl) ?_
            refine ol_nil (thenN ?_)
            refine cond_s rfl ?_ ?_
            ·
              intro hc126
              skip
              refine wpIn_seq ?_
              refine reg ?_
              refine qq hS (g_assign _) ?_
              refine qq hS (g_assignv (v := .int .i64 _) rfl) ?_
              refine ol_nil (thenN ?_)
              refine wpIn_ret ?_
              refine thenR ?_
              refine ret2 Tryd.results64 (rv_tmp rfl) (rv_tmp (v := .int .i64 _) rfl) ?_
              first
                | exact ⟨_, _, _, _, _, rfl, hS.nil, fun _ => ⟨xs, rfl, rfl, by omega, hxb, heq, hout⟩⟩
                | exact ⟨_, _, _, _, _, rfl, hS.nil, fun h => absurd h (by decide)⟩
            ·
              intro hc126
              have heq : encP M s0 xs = b := by simpa using hc126
              refine wpIn_skip ?_
              refine thenN ?_
              refine wpIn_seq ?_
              refine reg ?_
              refine qq hS (g_move _) ?_
              refine qq hS (g_assign _) ?_
              refine qq hS (g_assignv (v := .int .i64 _) rfl) ?_
              refine ol_nil (thenN ?_)
              refine wpIn_ret ?_
              refine ret2 Tryd.results64 (rv_tmp rfl) (rv_tmp (v := .int .i64 _) rfl) ?_
              first
                | exact ⟨_, _, _, _, _, rfl, hS.nil, fun _ => ⟨xs, rfl, rfl, by omega, hxb, heq, hout⟩⟩
                | exact ⟨_, _, _, _, _, rfl, hS.nil, fun h => absurd h (by decide)⟩

end Go.Proofs.YtdgnojckkjfhfaaDoor

