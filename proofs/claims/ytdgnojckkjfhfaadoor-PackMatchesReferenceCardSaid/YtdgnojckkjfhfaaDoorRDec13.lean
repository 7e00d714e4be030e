/- inlayref13.Decode of any bytes: the text whose code they are, if there is one of that length, else an error. Conditions: none. -/
import Derived.Test.YtdgnojckkjfhfaaDoorREnc13
import Derived.Test.YtdgnojckkjfhfaaDoorKCore3
namespace Go.Proofs.YtdgnojckkjfhfaaDoor
open Go Go.RowKit Go.Inl
set_option linter.unusedSimpArgs false
set_option linter.unusedVariables false
theorem g_neqB13 {P : Program} {n : Nat} {σ : Nat → Value} {S : World → Prop} {t t' ty : TypeId} {x y : Operand} {a b : List Int} (ha : ∀ x ∈ a, 0 ≤ x ∧ x ≤ 255) (hb : ∀ x ∈ b, 0 ≤ x ∧ x ≤ 255) (hx : ev n σ x = .string (strB a)) (hy : ev n σ y = .string (strB b)) :
    Gives P (ev n σ) S (.binOp .neq t x y t') ty (.bool (!decide (a = b))) := fun w _ => by
  have h : (binOp .neq t (.string (strB a)) (.string (strB b))).run P w = .ok (.bool (!decide (a = b))) w := by rw [binOp_string_neq, strB_eq ha hb]; rfl
  simp only [execOp, hx, hy, Sem.run_bind, eqg_string, Result.andThen_ok, h]; rfl
/-- What inlayref13.find finds. -/
structure FindOk (A : Ad) (r v : Int) (c : Nat) : Prop where
  le : c ≤ 255
  up : c < 255 → v < r * (A.c.take (c + 1)).sum
  dn : ∀ d, d < c → r * (A.c.take (d + 1)).sum ≤ v
/-- A text of which bytes are the code. -/
structure TextOf (M : Mdl) (s0 : M.S) (b : List Int) (n : Nat) (x : List Int) : Prop where
  len : x.length = n
  le : n ≤ 65536
  byt : Byt x
  enc : encP M s0 x = b
structure DRel (M : Mdl) (s0 : M.S) (b x : List Int) (k : Nat) (ah sz : Int) (at_ : Nat) (xs : List Int) (s : M.S) : Prop where
  take : x.take k = xs
  st : (encUp M s0 x k).2 = s
  ah : ah = ahd b (encUp M s0 x k).1
  sz : sz = (encUp M s0 x k).1.size
  at_ : at_ = 4 + (encUp M s0 x k).1.out.length
structure MidR (M : Mdl) (s0 : M.S) (b x : List Int) (k : Nat) (c : Nat) (ah sz : Int) (at_ : Nat) (xs : List Int) (s : M.S) : Prop where
  cur : x[k]? = some (c : Int)
  take : x.take k = xs
  st : (encUp M s0 x k).2 = s
  mid : ∃ (j : Nat) (t : Cs), normC j t = (encUp M s0 x (k + 1)).1 ∧ CsOk t ∧ 16777216 ≤ t.size * 256 ^ j ∧ ah = ahd b t ∧ sz = t.size ∧ at_ = 4 + t.out.length
theorem DRel.init {M : Mdl} {s0 : M.S} {b x : List Int} : DRel M s0 b x 0 (strV b 4) 4294967295 4 [] s0 where
  take := rfl
  st := rfl
  ah := by show strV b 4 = strV b (4 + 0) - (4294967296 * valC [] + 0); simp [valC]
  sz := rfl
  at_ := rfl
theorem DRel.find {M : Mdl} (hM : MdlOk M) {s0 : M.S} (hs0 : M.inv s0) {b x : List Int} {n k : Nat} {ah sz : Int} {at_ : Nat} {xs : List Int} {s : M.S} (hg : TextOf M s0 b n x) (hk : k < n) (h : DRel M s0 b x k ah sz at_ xs s)
    {A : Ad} (hA : M.tab s = A) {c : Nat} (hc : FindOk A (sz / A.t) ah c) :
    ah - sz / A.t * (A.c.take c).sum < sz / A.t * A.c.getD c 0 ∧ MidR M s0 b x k c (ah - sz / A.t * (A.c.take c).sum) (sz / A.t * A.c.getD c 0) at_ xs s := by
  obtain ⟨y, hyi⟩ : ∃ y, x[k]? = some y := ⟨_, List.getElem?_eq_getElem (by have := hg.len; omega)⟩
  have hyb := hg.byt y (List.mem_of_getElem? hyi)
  have hkx : k ≤ x.length := by have := hg.len; omega
  obtain ⟨hGd, hMi, _⟩ := encUp_good hM hs0 hg.byt k hkx
  obtain ⟨hFg, _, _⟩ := encUp_good hM hs0 hg.byt x.length (Nat.le_refl _)
  have hFb : trimZ (tailC (encUp M s0 x x.length).1) = b := hg.enc
  have hn0 := nest_up hM hs0 hg.byt hkx
  have hn1 := nest_up hM hs0 hg.byt (show k + 1 ≤ x.length by have := hg.len; omega)
  have hnx := encUp_succ (M := M) (s0 := s0) hyi
  obtain ⟨cs, hcs⟩ : ∃ cs, (encUp M s0 x k).1 = cs := ⟨_, rfl⟩
  have hst := h.st
  have hah := h.ah
  have hsz := h.sz
  have hat := h.at_
  rw [hcs] at hah hsz hat hn0 hGd
  rw [hst] at hMi
  have hAo := hM.tab s hMi
  rw [hA] at hAo
  have hnx2 : (encUp M s0 x (k + 1)).1 = stepC cs A y.toNat := by rw [hnx]; unfold encF; rw [hcs, hst, hA]
  obtain ⟨q1, q2, q3⟩ := sum_take_le A.c y.toNat hAo.pos (by rw [hAo.len]; omega)
  rw [hAo.sum] at q3
  have hAt : 1 ≤ A.t ∧ A.t ≤ 65536 := ⟨by omega, hAo.top⟩
  obtain ⟨r1, r2⟩ := quo_facts hGd.big hAt
  rw [← hsz] at r1 r2
  obtain ⟨r, hr⟩ : ∃ z, sz / A.t = z := ⟨_, rfl⟩
  rw [hr] at hc r1 r2 ⊢
  obtain ⟨before, hbf⟩ : ∃ z, (A.c.take y.toNat).sum = z := ⟨_, rfl⟩
  obtain ⟨cnt, hct⟩ : ∃ z, A.c.getD y.toNat 0 = z := ⟨_, rfl⟩
  have hcn : A.c[y.toNat]? = some cnt := by rw [← hct, List.getD_eq_getElem?_getD]; rw [List.getElem?_eq_getElem (show y.toNat < A.c.length by rw [hAo.len]; omega)]; rfl
  have hstep : stepC cs A y.toNat = normC 4 (putC cs r before cnt) := by unfold stepC; rw [← hsz, hr, hbf, hct]
  rw [hbf] at q1 q3
  rw [hct] at q2 q3
  rw [hsz] at r2
  have hpo := put_ok hGd.ok (r := r) (before := before) (cnt := cnt) (t := A.t) (by omega) q1 q2 q3 r2
  obtain ⟨hp1, hp2⟩ := ahd_put (b := b) hGd.ok (r := r) (before := before) (cnt := cnt) (t := A.t) (by omega) q1 q2 q3 r2
  have hpl := put_len cs r before cnt
  rw [hnx2, hstep] at hn1
  have hP1i := ahd_in hFg.ok hFb (nest_norm 4 hn1)
  have hin := ahd_in hFg.ok hFb hn0
  rw [hp1, hp2] at hP1i
  have hmid : (A.c.take (y.toNat + 1)).sum = before + cnt := by rw [sum_snoc13 hcn, hbf]
  have hcy : c = y.toNat := by
    have hle := hc.le
    rcases Nat.lt_trichotomy c y.toNat with e | e | e
    · have h1 := hc.up (by omega)
      have h2 := sum_take_mono A.c (c + 1) y.toNat hAo.pos (by omega)
      rw [hbf] at h2
      have h3 := Int.mul_le_mul_of_nonneg_left h2 (show 0 ≤ r by omega)
      omega
    · exact e
    · have h1 := hc.dn y.toNat e
      rw [hmid, Int.mul_add] at h1
      omega
  subst hcy
  rw [hbf, hct, hah]
  have hyt : ((y.toNat : Nat) : Int) = y := by omega
  refine ⟨by omega, ⟨by rw [hyt]; exact hyi, h.take, hst, 4, putC cs r before cnt, by rw [hnx2, hstep], hpo, ?_, by rw [hp1], by rw [hp2], by rw [hat, hpl]⟩⟩
  have := hpo.size.1
  omega
theorem MidR.norm {M : Mdl} {s0 : M.S} {b x : List Int} {k c : Nat} {ah sz : Int} {at_ : Nat} {xs : List Int} {s : M.S} (h : MidR M s0 b x k c ah sz at_ xs s) (hs : sz < 16777216) :
    MidR M s0 b x k c (ah * 256 + b.getD at_ 0) (sz * 256) (at_ + 1) xs s := by
  obtain ⟨j, t, m1, m2, m3, m4, m5, m6⟩ := h.mid
  subst m5
  obtain ⟨j', rfl⟩ : ∃ j', j = j' + 1 := by
    cases j with
    | zero => simp at m3; omega
    | succ j' => exact ⟨j', rfl⟩
  refine ⟨h.cur, h.take, h.st, j', ⟨t.low % 16777216 * 256, t.size * 256, t.out ++ [t.low / 16777216]⟩, ?_, norm_one m2 hs, ?_, ?_, rfl, ?_⟩
  · rw [← m1]
    conv => rhs; unfold normC
    rw [if_pos hs]
  · dsimp only; rw [pow_succ256, ← Int.mul_assoc] at m3; exact m3
  · rw [ahd_step, m4, m6]
  · dsimp only; rw [m6, List.length_append]; rfl
theorem MidR.done {M : Mdl} {s0 : M.S} {b x : List Int} {k c : Nat} {ah sz : Int} {at_ : Nat} {xs : List Int} {s : M.S} (h : MidR M s0 b x k c ah sz at_ xs s) (hs : ¬ sz < 16777216) :
    DRel M s0 b x (k + 1) ah sz at_ (xs ++ [(c : Int)]) (M.nxt s c) := by
  obtain ⟨j, t, m1, m2, m3, m4, m5, m6⟩ := h.mid
  subst m5
  have hte : t = (encUp M s0 x (k + 1)).1 := by
    rw [← m1]
    cases j with
    | zero => rfl
    | succ j' => unfold normC; rw [if_neg hs]
  refine ⟨by rw [take_snoc h.cur, h.take], ?_, by rw [← hte]; exact m4, by rw [← hte], by rw [← hte]; exact m6⟩
  rw [encUp_succ h.cur]
  unfold encF
  rw [h.st]
  simp
structure PdW where
  i : Nat
  a : Option Addr
  c : Nat
structure RdA (M : Mdl) where
  k : Nat
  ah : Int
  sz : Int
  at_ : Nat
  xs : List Int
  s : M.S
  T : Int → Ad
  la : Int
  d : Option Addr
  e : Nat
structure RdB where
  ah : Int
  sz : Int
  at_ : Nat
theorem pad_get {b : List Int} {i j : Nat} (h : j < b.length + i) : (b ++ List.replicate i 0)[j]? = some (b.getD j 0) := by
  rw [List.getD_eq_getElem?_getD]
  rcases Nat.lt_or_ge j b.length with e | e
  · rw [List.getElem?_append_left e, List.getElem?_eq_getElem e]; rfl
  · rw [List.getElem?_append_right e, List.getElem?_eq_none (l := b) e, List.getElem?_replicate, if_pos (by omega)]; rfl
theorem pad_out {b : List Int} {j : Nat} (h : b.length ≤ j) : b.getD j 0 = 0 := by rw [List.getD_eq_getElem?_getD, List.getElem?_eq_none h]; rfl
theorem strV_4 (b : List Int) : strV b 4 = b.getD 0 0 * 16777216 + b.getD 1 0 * 65536 + b.getD 2 0 * 256 + b.getD 3 0 := by simp only [strV]; omega

set_option maxHeartbeats 1000000 in
theorem findr_c (b : Nat) (A : Ad) (r v : Int) (hA : AdOk A) (hr : 1 ≤ r ∧ r * A.t ≤ 4294967295) (hv : 0 ≤ v ∧ v ≤ 4294967295) (w0 : World) (I0 : Imm) (hI : Sat I0 w0) (h : RT I0 b A) :
    Ctr Tryd.prog 51 [.pointer (some ⟨b, 0, none⟩), .int .i64 r, .int .i64 v] w0 (fun u w' => ∃ c : Nat, u = .int .u8 c ∧ FindOk A r v c ∧ Ext w0 I0 w' I0) := by
  have hl := hA.len
  have htop := hA.top
  refine fn (n := 28) Tryd.func51 rfl rfl rfl ?_
  have hS := St.start hI
  refine wpIn_seq ?_
  refine reg ?_
  refine qq hS (g_assignv (v := .int .u8 _) rfl) ?_
  refine ol_nil (thenN ?_)
  refine wpIn_seq ?_
  refine reg ?_
  refine qq hS (g_assignv (v := .int .i64 _) rfl) ?_
  refine ol_nil (thenN ?_)
  refine wpIn_seq ?_
  refine wpIn_seq ?_
  refine reg ?_
  refine qq hS (g_assignv (v := .int .i64 _) rfl) ?_
  refine ol_nil (thenN ?_)
  refine wpIn_block ?_
  refine loop (fun (k : Nat) σ w => okS σ [(0, .pointer (some ⟨b, 0, none⟩)), (1, .int .i64 r), (2, .int .i64 v), (7, .int .i64 (A.c.take k).sum), (8, .int .i64 k)] ∧ St [] w0 I0 I0 w [] ∧ k ≤ 255 ∧ ∀ d, d < k → r * (A.c.take (d + 1)).sum ≤ v) (fun k => 255 - k) (0) ?_ ?_
  ·
    exact ⟨⟨rfl, rfl, rfl, rfl, rfl, trivial⟩, hS.sel [], Nat.zero_le _, fun d hd => absurd hd (Nat.not_lt_zero _)⟩
  ·
    rintro k σ w_l ⟨hs, hS, hk0, hdn⟩
    rw [← upds_self hs]; clear hs
    refine wpIn_seq ?_
    refine wpIn_seq ?_
    refine reg ?_
    refine qq hS (g_movev (v := .int .i64 _) rfl) ?_
    refine qq hS (g_lss rfl rfl) ?_
    refine ol_nil (thenN ?_)
    refine cond_s rfl ?_ ?_
    ·
      intro hc10
      try simp only [Bool.and_eq_true, Bool.or_eq_true, Bool.not_eq_true', Bool.and_eq_false_imp, Bool.or_eq_false_iff, Bool.not_eq_false', decide_eq_true_eq, decide_eq_false_iff_not] at hc10
      obtain ⟨n, hni⟩ : ∃ n, A.c[k]? = some n := ⟨_, List.getElem?_eq_getElem (by omega)⟩
      have hsn := sum_snoc13 hni
      obtain ⟨q1, q2, q3⟩ := sum_take_le A.c k hA.pos (by omega)
      rw [List.getD_eq_getElem?_getD, hni, hA.sum] at q3
      rw [List.getD_eq_getElem?_getD, hni] at q2
      dsimp only [Option.getD_some] at q2 q3
      have hw : IntKind.i64.wrap ((A.c.take k).sum + n) = (A.c.take (k + 1)).sum := by rw [hsn, IntKind.wrap_i64]; omega
      have m1 : r * (A.c.take (k + 1)).sum ≤ r * A.t := Int.mul_le_mul_of_nonneg_left (by omega) (by omega)
      have m2 : 0 ≤ r * (A.c.take (k + 1)).sum := Int.mul_nonneg (by omega) (by omega)
      obtain ⟨rs, hrs⟩ : ∃ z, r * (A.c.take (k + 1)).sum = z := ⟨_, rfl⟩
      rw [hrs] at m1 m2
      have hw2 : IntKind.i64.wrap (r * (A.c.take (k + 1)).sum) = rs := by rw [hrs, IntKind.wrap_i64]; omega
      have hw3 : IntKind.u8.wrap (k : Int) = k := by rw [IntKind.wrap_u8]; omega
      refine wpIn_skip ?_
      refine thenN ?_
      refine wpIn_seq ?_
      refine wpIn_block ?_
      refine wpIn_seq ?_
      refine reg ?_
      refine qq hS (g_movev (v := .int .i64 _) rfl) ?_
      refine qq hS (g_move _) ?_
      refine qq hS (g_movev (v := .int .i64 _) rfl) ?_
      refine qq hS (g_nilCheck rfl) ?_
      refine qq hS (g_fieldAddr (o' := 0) Tryd.underlying113 rfl Tryd.sizeOf111 rfl rfl rfl) ?_
      refine qq hS (g_indexArr (o' := k) Tryd.underlying111 Tryd.sizeOf3 rfl rfl (by omega) (by omega) (by omega)) ?_
      refine qq hS (g_ldA1 Tryd.isAgg3 (atCell h.hold) rfl (rtL_at hni)) ?_
      refine qq hS (g_addu rfl rfl hw) ?_
      refine qq hS (g_assignv (v := .int .i64 _) rfl) ?_
      refine ol_nil (thenN ?_)
      refine wpIn_seq ?_
      refine reg ?_
      refine qq hS (g_movev (v := .int .i64 _) rfl) ?_
      refine qq hS (g_movev (v := .int .i64 _) rfl) ?_
      refine qq hS (g_mulu rfl rfl hw2) ?_
      refine qq hS (g_movev (v := .int .i64 _) rfl) ?_
      refine qq hS (g_gtr rfl rfl) ?_
      refine ol_nil (thenN ?_)
      refine cond_s rfl ?_ ?_
      ·
        intro hc25
        try simp only [Bool.and_eq_true, Bool.or_eq_true, Bool.not_eq_true', Bool.and_eq_false_imp, Bool.or_eq_false_iff, Bool.not_eq_false', decide_eq_true_eq, decide_eq_false_iff_not] at hc25
        have hfo : FindOk A r v k := ⟨by omega, fun _ => by rw [hrs]; exact hc25, hdn⟩
        refine wpIn_seq ?_
        refine reg ?_
        refine qq hS (g_movev (v := .int .i64 _) rfl) ?_
        refine qq hS (g_convu Tryd.underlying3 Tryd.underlying5 rfl hw3) ?_
        refine qq hS (g_assignv (v := .int .u8 _) rfl) ?_
        refine ol_nil (thenN ?_)
        refine wpIn_ret ?_
        refine blkR (thenR (thenR (blkR (thenR ?_))))
        refine ret1 Tryd.results51 (rv_tmp (v := .int .u8 _) rfl) ?_
        exact ⟨k, rfl, hfo, hS.nil⟩
      ·
        intro hc25
        try simp only [Bool.and_eq_true, Bool.or_eq_true, Bool.not_eq_true', Bool.and_eq_false_imp, Bool.or_eq_false_iff, Bool.not_eq_false', decide_eq_true_eq, decide_eq_false_iff_not] at hc25
        have hdn2 : ∀ d, d < k + 1 → r * (A.c.take (d + 1)).sum ≤ v := fun d hd => by
          rcases Nat.lt_or_ge d k with e | e
          · exact hdn d e
          · have : d = k := by omega
            subst this; rw [hrs]; omega
        refine wpIn_skip ?_
        refine blkN (thenN ?_)
        refine reg ?_
        refine qq hS (g_movev (v := .int .i64 _) rfl) ?_
        refine qq hS (g_add rfl rfl (by omega) (by omega)) ?_
        refine qq hS (g_assignv (v := .int .i64 _) rfl) ?_
        exact ⟨k + 1, _, rfl, ⟨⟨rfl, rfl, rfl, rfl, rfl, trivial⟩, hS.sel [], by omega, hdn2⟩, by omega⟩
    ·
      intro hc10
      try simp only [Bool.and_eq_true, Bool.or_eq_true, Bool.not_eq_true', Bool.and_eq_false_imp, Bool.or_eq_false_iff, Bool.not_eq_false', decide_eq_true_eq, decide_eq_false_iff_not] at hc10
      obtain rfl : k = 255 := by omega
      refine wpIn_exit ?_
      refine thenE (thenE (blkE ?_))
      refine thenN ?_
      refine wpIn_seq ?_
      refine reg ?_
      refine qq hS (g_assignv (v := .int .u8 _) rfl) ?_
      refine ol_nil (thenN ?_)
      refine wpIn_ret ?_
      refine ret1 Tryd.results51 (rv_tmp (v := .int .u8 _) rfl) ?_
      exact ⟨255, rfl, ⟨Nat.le_refl _, fun h => absurd h (by decide), hdn⟩, hS.nil⟩

set_option maxRecDepth 20000 in
set_option maxHeartbeats 2000000 in
theorem decr_c (M : Mdl) (hM : MdlOk M) (m : Int) (hm : m = 1 ∨ m = 2) (R : MRep M m) (s0 : M.S) (hs0 : M.inv s0) (hr0 : R.rel s0 (fun _ => adOne) 0) (ad : Option Addr) (cap : Nat) (b : List Int) (N : Nat) (hN : N ≤ 16777216) (w0 : World) (I0 : Imm) (hI : Sat I0 w0) (hb : RBytes I0 (.slice ad b.length cap) b) (hbb : Byt b) (hbl : b.length ≤ 1000000) :
    Ctr Tryd.prog 33 [.int .i64 m, .slice ad b.length cap, .int .i64 N] w0 (fun v w' => ∃ (I' : Imm) (a : Option Addr) (c : Nat) (xs : List Int) (e : Int), v = .tuple #[.slice a xs.length c, .int .i64 e] ∧ Ext w0 I0 w' I' ∧ RBytes I' (.slice a xs.length c) xs ∧ ((e = 0 ∧ TextOf M s0 b N xs ∧ ∀ x, TextOf M s0 b N x → x = xs) ∨ (e = 130 ∧ xs = [] ∧ ∀ x, ¬ TextOf M s0 b N x))) := by
  refine fn (n := 141) Tryd.func33 rfl rfl rfl ?_
  have hS := St.start hI
  refine wpIn_seq ?_
  refine reg ?_
  refine qq hS (g_assign _) ?_
  refine qq hS (g_assignv (v := .int .i64 _) rfl) ?_
  refine ol_nil (thenN ?_)
  refine wpIn_seq ?_
  refine wpIn_seq ?_
  refine reg ?_
  refine qq hS (g_movev (v := .int .i64 _) rfl) ?_
  refine qq hS (g_lss rfl rfl) ?_
  refine qq hS (g_movev (v := .bool _) rfl) ?_
  refine qu rfl rfl hS (fun hg => (g_movev (v := .int .i64 _) rfl)) ?_
  intro u23 hu23 hn23
  refine qu rfl rfl hS (fun hg => (g_gtr (hu23 hg) rfl)) ?_
  intro u24 hu24 hn24
  refine qq hS (g_or rfl rfl (fun hq => hu24 hq)) ?_
  refine qq hS (g_movev (v := .bool _) rfl) ?_
  refine qu rfl rfl hS (fun hg => (g_movev (v := .int .i64 _) rfl)) ?_
  intro u27 hu27 hn27
  refine qu rfl rfl hS (fun hg => (g_lss (hu27 hg) rfl)) ?_
  intro u28 hu28 hn28
  refine qq hS (g_or rfl rfl (fun hq => hu28 hq)) ?_
  refine qq hS (g_movev (v := .bool _) rfl) ?_
  refine qu rfl rfl hS (fun hg => (g_movev (v := .int .i64 _) rfl)) ?_
  intro u31 hu31 hn31
  refine qu rfl rfl hS (fun hg => (g_gtr (hu31 hg) rfl)) ?_
  intro u32 hu32 hn32
  refine qq hS (g_or rfl rfl (fun hq => hu32 hq)) ?_
  refine ol_nil (thenN ?_)
  refine cond_s rfl ?_ ?_
  ·
    intro hc33
    clear hu23 hn23 hu24 hn24 hu27 hn27 hu28 hn28 hu31 hn31 hu32 hn32
    have hbig : 65536 < N := by
      rw [decide_eq_false (show ¬ m < 0 by omega), decide_eq_false (show ¬ (2 : Int) < m by omega), decide_eq_false (show ¬ (N : Int) < 0 by omega)] at hc33
      have := of_decide_eq_true (by simpa using hc33 : decide ((65536 : Int) < N) = true)
      omega
    have hno : ∀ x, ¬ TextOf M s0 b N x := fun x hx => by have := hx.le; omega
    refine wpIn_seq ?_
    refine reg ?_
    refine qq hS (g_assign _) ?_
    refine qq hS (g_assignv (v := .int .i64 _) rfl) ?_
    refine ol_nil (thenN ?_)
    refine wpIn_ret ?_
    refine thenR ?_
    refine ret2 Tryd.results33 (rv_tmp rfl) (rv_tmp (v := .int .i64 _) rfl) ?_
    exact ⟨_, none, 0, [], 130, rfl, hS.nil, RFl.nil, .inr ⟨rfl, rfl, hno⟩⟩
  ·
    intro hc33
    clear hu23 hn23 hu24 hn24 hu27 hn27 hu28 hn28 hu31 hn31 hu32 hn32
    have hN1 : N ≤ 65536 := by
      rw [decide_eq_false (show ¬ m < 0 by omega), decide_eq_false (show ¬ (2 : Int) < m by omega), decide_eq_false (show ¬ (N : Int) < 0 by omega)] at hc33
      have := of_decide_eq_false (by simpa using hc33 : decide ((65536 : Int) < N) = false)
      omega
    refine wpIn_skip ?_
    refine thenN ?_
    refine wpIn_seq ?_
    refine reg ?_
    refine qe (d_buildSlice0 hS Tryd.underlying25 Tryd.sizeOf5) ?_
    clear hS
    rintro _ w_1 ⟨hS, b34_, rfl⟩
    refine qq hS (g_move _) ?_
    refine qe (i_appendF 0 hS rfl Tryd.underlying25 info5 rfl rfl rfl rfl byteC_len (fun _ => rfl) (hb.mono hS.ext) rfl (by omega) (by omega)) ?_
    clear hS
    rintro _ w_2 ⟨a36, p36, rfl, hS⟩
    refine qq hS (g_assign _) ?_
    refine ol_nil (thenN ?_)
    refine wpIn_seq ?_
    refine wpIn_block ?_
    refine loop (fun (z : PdW) σ w => okS σ [(0, .int .i64 m), (1, .slice ad b.length cap), (2, .int .i64 N), (8, .slice z.a (b.length + z.i) z.c)] ∧ St [] w0 I0 I0 w [.row (.slice z.a (b.length + z.i) z.c) 5 1 (b.length + z.i) (flat byteC (b ++ List.replicate z.i 0))] ∧ z.i ≤ 4) (fun z => 4 - (b.length + z.i)) (⟨0, a36, p36⟩) ?_ ?_
    ·
      refine ⟨⟨rfl, rfl, rfl, ?_, trivial⟩, ?_, Nat.zero_le _⟩
      · rw [show b.length + (⟨0, a36, p36⟩ : PdW).i = 0 + b.length by dsimp only; omega]; rfl
      · dsimp only; rw [List.replicate_zero, List.append_nil, show b.length + 0 = 0 + b.length by omega]; exact hS.sel [true]
    ·
      rintro ⟨pi, pa, pc⟩ σ w_l ⟨hs, hS, hpi⟩
      dsimp only at hs hS hpi ⊢
      rw [← upds_self hs]; clear hs
      refine wpIn_seq ?_
      refine wpIn_seq ?_
      refine reg ?_
      refine qq hS (g_move _) ?_
      refine qq hS (g_lenR 0 rfl Tryd.underlying25 rfl rfl) ?_
      refine qq hS (g_lss rfl rfl) ?_
      refine ol_nil (thenN ?_)
      refine cond_s rfl ?_ ?_
      ·
        intro hc39
        try simp only [Bool.and_eq_true, Bool.or_eq_true, Bool.not_eq_true', Bool.and_eq_false_imp, Bool.or_eq_false_iff, Bool.not_eq_false', decide_eq_true_eq, decide_eq_false_iff_not] at hc39
        refine wpIn_skip ?_
        refine thenN ?_
        refine wpIn_block ?_
        refine reg ?_
        refine qq hS (g_move _) ?_
        refine qe (d_lit (vs := [.int .u8 _]) (cs := [.int .u8 _]) hS Tryd.underlying25 Tryd.sizeOf5 Tryd.zeroValue5 rfl rfl rfl rfl (fun v hv => by simp only [List.mem_cons, List.not_mem_nil, or_false] at hv; subst hv; rfl) rfl) ?_
        clear hS
        rintro _ w_3 ⟨b_3, rfl, hS⟩
        refine qe (i_appendO 1 0 hS rfl Tryd.underlying25 info5 rfl rfl rfl rfl rfl rfl rfl rfl (by omega) (by omega)) ?_
        clear hS
        rintro _ w_4 ⟨a42, p42, rfl, hS⟩
        refine qq hS (g_assign _) ?_
        refine ⟨⟨pi + 1, a42, p42⟩, _, rfl, ⟨⟨rfl, rfl, rfl, rfl, trivial⟩, ?_, by dsimp only; omega⟩, by dsimp only; omega⟩
        dsimp only
        rw [List.replicate_succ', ← List.append_assoc, flat_append, flat_one]
        exact hS.sel [false, true]
      ·
        intro hc39
        try simp only [Bool.and_eq_true, Bool.or_eq_true, Bool.not_eq_true', Bool.and_eq_false_imp, Bool.or_eq_false_iff, Bool.not_eq_false', decide_eq_true_eq, decide_eq_false_iff_not] at hc39
        have hp4 : 4 ≤ b.length + pi := by omega
        refine wpIn_exit ?_
        refine thenE (thenE (blkE ?_))
        refine thenN ?_
        refine wpIn_seq ?_
        have hF := St.freezeRow (u := .slice pa (b.length + pi) pc) (m := b.length + pi) (xs := b ++ List.replicate pi 0) byteC_len (by exact hS.ord [0]) (by rw [List.length_append, List.length_replicate])
        clear hS
        obtain ⟨I_hpd, hS, hI_hpd, hpd⟩ := hF
        obtain ⟨w1, hw1⟩ : ∃ w, w = w_l := ⟨_, rfl⟩
        subst hw1
        have hplen : (b ++ List.replicate pi (0 : Int)).length = b.length + pi := by rw [List.length_append, List.length_replicate]
        have hE0 := hS
        have hI1 := hS.imm
        replace hb := hb.mono hE0.ext
        clear hS
        have hS := St.start hI1
        refine reg ?_
        refine qq hS (g_movev (v := .int .i64 _) rfl) ?_
        refine qe (d_call Tryd.call42 rfl (beginr_c m _ _ hS.imm)) ?_
        rintro _ w_5 ⟨I1, bt, ps, rfl, hE, hH1, hF1⟩
        replace hS := hS.callE hE
        refine qq hS (g_assign _) ?_
        refine ol_nil (thenN ?_)
        refine wpIn_seq ?_
        have hp0 := (hpd.mono hS.ext).at (pad_get (b := b) (i := pi) (j := 0) (by omega))
        have hp1 := (hpd.mono hS.ext).at (pad_get (b := b) (i := pi) (j := 1) (by omega))
        have hp2 := (hpd.mono hS.ext).at (pad_get (b := b) (i := pi) (j := 2) (by omega))
        have hp3 := (hpd.mono hS.ext).at (pad_get (b := b) (i := pi) (j := 3) (by omega))
        have hg0 := getD_byt hbb 0
        have hg1 := getD_byt hbb 1
        have hg2 := getD_byt hbb 2
        have hg3 := getD_byt hbb 3
        have hs4 := strV4 hbb (k := 4) (by omega)
        refine draw (.cons 0 .pure (.cons 1 .pure (.cons 2 .held (.cons 3 .pure (.cons 4 .pure (.cons 5 .pure (.cons 6 .pure (.cons 7 .held (.cons 8 .pure (.cons 9 .pure (.cons 10 .pure (.cons 11 .pure (.cons 12 .pure (.cons 13 .held (.cons 14 .pure (.cons 15 .pure (.cons 16 .pure (.cons 17 .pure (.cons 18 .pure (.cons 19 .held (.cons 20 .pure (.cons 21 .pure (.cons 22 .pure .nil))))))))))))))))))))))) mixed (by kernel_rfl) hS ?_
        intro w_6 hS
        refine sp rfl (g_move _) ?_
        refine sp rfl (g_ixI Tryd.underlying25 Tryd.sizeOf5 (hpd.mono hS.ext) rfl rfl (by omega) (by omega)) ?_
        refine sh rfl (g_ldE1 Tryd.isAgg5 hp0 rfl rfl) ?_
        refine sp rfl (g_convi Tryd.underlying5 Tryd.underlying3 rfl (by omega) (by omega)) ?_
        refine sp rfl (g_shlV (s := 24) rfl rfl rfl rfl (c := b.getD 0 0 * 16777216) (by rw [IntKind.wrap_i64]; omega)) ?_
        refine sp rfl (g_move _) ?_
        refine sp rfl (g_ixI Tryd.underlying25 Tryd.sizeOf5 (hpd.mono hS.ext) rfl rfl (by omega) (by omega)) ?_
        refine sh rfl (g_ldE1 Tryd.isAgg5 hp1 rfl rfl) ?_
        refine sp rfl (g_convi Tryd.underlying5 Tryd.underlying3 rfl (by omega) (by omega)) ?_
        refine sp rfl (g_shlV (s := 16) rfl rfl rfl rfl (c := b.getD 1 0 * 65536) (by rw [IntKind.wrap_i64]; omega)) ?_
        refine sp rfl (g_add rfl rfl (by omega) (by omega)) ?_
        refine sp rfl (g_move _) ?_
        refine sp rfl (g_ixI Tryd.underlying25 Tryd.sizeOf5 (hpd.mono hS.ext) rfl rfl (by omega) (by omega)) ?_
        refine sh rfl (g_ldE1 Tryd.isAgg5 hp2 rfl rfl) ?_
        refine sp rfl (g_convi Tryd.underlying5 Tryd.underlying3 rfl (by omega) (by omega)) ?_
        refine sp rfl (g_shlV (s := 8) rfl rfl rfl rfl (c := b.getD 2 0 * 256) (by rw [IntKind.wrap_i64]; omega)) ?_
        refine sp rfl (g_add rfl rfl (by omega) (by omega)) ?_
        refine sp rfl (g_move _) ?_
        refine sp rfl (g_ixI Tryd.underlying25 Tryd.sizeOf5 (hpd.mono hS.ext) rfl rfl (by omega) (by omega)) ?_
        refine sh rfl (g_ldE1 Tryd.isAgg5 hp3 rfl rfl) ?_
        refine sp rfl (g_convi Tryd.underlying5 Tryd.underlying3 rfl (by omega) (by omega)) ?_
        refine sp rfl (g_addu rfl rfl (c := strV b 4) (by rw [strV_4, IntKind.wrap_i64]; omega)) ?_
        refine sp rfl (g_assignv (v := .int .i64 _) rfl) ?_
        refine sn (thenN ?_)
        refine wpIn_seq ?_
        refine reg ?_
        refine qq hS (g_assignv (v := .int .i64 _) rfl) ?_
        refine ol_nil (thenN ?_)
        refine wpIn_seq ?_
        refine reg ?_
        refine qq hS (g_assignv (v := .int .i64 _) rfl) ?_
        refine ol_nil (thenN ?_)
        refine wpIn_seq ?_
        refine reg ?_
        refine qe (d_buildSlice0 hS Tryd.underlying25 Tryd.sizeOf5) ?_
        clear hS
        rintro _ w_7 ⟨hS, b67_, rfl⟩
        refine qq hS (g_assign _) ?_
        refine ol_nil (thenN ?_)
        refine wpIn_seq ?_
        refine wpIn_seq ?_
        refine reg ?_
        refine qq hS (g_assignv (v := .int .i64 _) rfl) ?_
        refine ol_nil (thenN ?_)
        refine wpIn_block ?_
        refine loop (fun (z : RdA M) σ w => okS σ [(0, .int .i64 m), (1, .slice ad b.length cap), (2, .int .i64 N), (8, .slice pa (b.length + pi) pc), (9, .pointer (some ⟨bt, 0, none⟩)), (10, .int .i64 z.ah), (11, .int .i64 z.at_), (12, .int .i64 z.sz), (13, .slice z.d z.k z.e), (14, .int .i64 z.k)] ∧ ∃ I, St [] w1 I_hpd I w [.row (.slice z.d z.k z.e) 5 1 z.k (flat byteC z.xs)] ∧ z.k ≤ N ∧ z.xs.length = z.k ∧ Byt z.xs ∧ M.inv z.s ∧ R.rel z.s z.T z.la ∧ (0 ≤ z.la ∧ z.la ≤ 255) ∧ 16777216 ≤ z.sz ∧ z.sz ≤ 4294967295 ∧ 0 ≤ z.ah ∧ z.ah ≤ 4294967295 ∧ z.at_ ≤ 4 + 4 * z.k ∧ HT I bt m z.T z.la ps ∧ (∀ c ∈ bt :: ps, w1.heap.size ≤ c) ∧ ∀ x, TextOf M s0 b N x → DRel M s0 b x z.k z.ah z.sz z.at_ z.xs z.s) (fun z => N - z.k) (⟨0, strV b 4, 4294967295, 4, [], s0, fun _ => adOne, 0, some ⟨b67_, 0, none⟩, 0⟩) ?_ ?_
        ·
          exact ⟨⟨rfl, rfl, rfl, rfl, rfl, rfl, rfl, rfl, rfl, rfl, trivial⟩, _, hS.sel [true], Nat.zero_le _, rfl, (fun y hy => by cases hy), hs0, hr0, ⟨Int.le_refl _, by show (0 : Int) ≤ 255; decide⟩, by dsimp only; omega, by dsimp only; omega, by dsimp only; omega, by dsimp only; omega, Nat.le_refl _, hH1, hF1, fun x _ => DRel.init⟩
        ·
          rintro ⟨k, ah, sz, at_, xs, s, T, la, d, e⟩ σ w_l ⟨hs, I, hS, hk0, hxl, hxb, hMi, hrel, hla, hz1, hz2, hah1, hah2, hat, hH, hFn, hD⟩
          dsimp only at hs hS hk0 hxl hxb hMi hrel hla hz1 hz2 hah1 hah2 hat hH hD ⊢
          rw [← upds_self hs]; clear hs
          refine wpIn_seq ?_
          refine wpIn_seq ?_
          refine reg ?_
          refine qq hS (g_movev (v := .int .i64 _) rfl) ?_
          refine qq hS (g_movev (v := .int .i64 _) rfl) ?_
          refine qq hS (g_lss rfl rfl) ?_
          refine ol_nil (thenN ?_)
          refine cond_s rfl ?_ ?_
          ·
            intro hc70
            try simp only [Bool.and_eq_true, Bool.or_eq_true, Bool.not_eq_true', Bool.and_eq_false_imp, Bool.or_eq_false_iff, Bool.not_eq_false', decide_eq_true_eq, decide_eq_false_iff_not] at hc70
            have hTe := R.tab s T la hrel
            have hAo := hM.tab s hMi
            rw [hTe] at hAo
            have hAt : 1 ≤ (T (ixR m la)).t ∧ (T (ixR m la)).t ≤ 65536 := ⟨by have := sum_ge (T (ixR m la)).c hAo.pos; rw [hAo.sum, hAo.len] at this; omega, hAo.top⟩
            obtain ⟨r1, r2⟩ := quo_facts hz1 hAt
            have hrle : sz / (T (ixR m la)).t ≤ sz := Int.ediv_le_self _ (by omega)
            obtain ⟨r, hr_⟩ : ∃ x, sz / (T (ixR m la)).t = x := ⟨_, rfl⟩
            rw [hr_] at r1 r2 hrle
            have hrw : IntKind.i64.wrap (sz / (T (ixR m la)).t) = r := by rw [hr_, IntKind.wrap_i64]; omega
            refine wpIn_skip ?_
            refine thenN ?_
            refine wpIn_seq ?_
            refine wpIn_block ?_
            refine wpIn_seq ?_
            refine reg ?_
            refine qq hS (g_move _) ?_
            refine qe (d_call Tryd.call44 rfl (nowr_c hm hla _ _ hS.imm hH)) ?_
            rintro _ w_8 ⟨tb, rfl, htb, hE⟩
            replace hS := hS.callE hE
            refine qq hS (g_assign _) ?_
            refine ol_nil (thenN ?_)
            refine wpIn_seq ?_
            refine reg ?_
            refine qq hS (g_movev (v := .int .i64 _) rfl) ?_
            refine qq hS (g_move _) ?_
            refine qq hS (g_nilCheck rfl) ?_
            refine qq hS (g_fieldAddr (o' := 256) Tryd.underlying113 rfl Tryd.sizeOf3 rfl rfl rfl) ?_
            refine qq hS (g_ldA1 Tryd.isAgg3 (atCell (hH.tab _ _ htb).hold) rfl (rtL_t hAo.len)) ?_
            refine qq hS (g_quou13 rfl rfl (by omega) (by omega) hrw) ?_
            refine qq hS (g_assignv (v := .int .i64 _) rfl) ?_
            refine ol_nil (thenN ?_)
            refine wpIn_seq ?_
            refine reg ?_
            refine qq hS (g_move _) ?_
            refine qq hS (g_movev (v := .int .i64 _) rfl) ?_
            refine qq hS (g_movev (v := .int .i64 _) rfl) ?_
            refine qe (d_call Tryd.call51 rfl (findr_c tb (T (ixR m la)) r ah hAo ⟨by omega, by omega⟩ ⟨by omega, by omega⟩ _ _ hS.imm (hH.tab _ _ htb))) ?_
            rintro _ w_9 ⟨c, rfl, hfc, hE⟩
            replace hS := hS.callE hE
            have hcle := hfc.le
            obtain ⟨q1, q2, q3⟩ := sum_take_le (T (ixR m la)).c c hAo.pos (by rw [hAo.len]; omega)
            rw [hAo.sum] at q3
            obtain ⟨before, hbf⟩ : ∃ z, ((T (ixR m la)).c.take c).sum = z := ⟨_, rfl⟩
            obtain ⟨cnt, hct⟩ : ∃ z, (T (ixR m la)).c.getD c 0 = z := ⟨_, rfl⟩
            have hcn : (T (ixR m la)).c[c]? = some cnt := by rw [← hct, List.getD_eq_getElem?_getD]; rw [List.getElem?_eq_getElem (show c < (T (ixR m la)).c.length by rw [hAo.len]; omega)]; rfl
            have hfind : ∀ x, TextOf M s0 b N x → ah - r * before < r * cnt ∧ MidR M s0 b x k c (ah - r * before) (r * cnt) at_ xs s := fun x hx => by
              have := (hD x hx).find hM hs0 hx (by omega) hTe (c := c) (by rw [hr_]; exact hfc)
              rw [hr_, hbf, hct] at this
              exact this
            have hbah : r * before ≤ ah := by
              rw [← hbf]
              rcases Nat.eq_zero_or_pos c with e | e
              · rw [e]; simp; omega
              · have := hfc.dn (c - 1) (by omega)
                rwa [show c - 1 + 1 = c by omega] at this
            rw [hbf] at q1 q3
            rw [hct] at q2 q3
            have e1 : r * before + r * cnt ≤ r * (T (ixR m la)).t := by rw [← Int.mul_add]; exact Int.mul_le_mul_of_nonneg_left q3 (by omega)
            have e2 : 0 ≤ r * before := Int.mul_nonneg (by omega) q1
            have e3 : 1 ≤ r * cnt := by have := Int.mul_le_mul (show 1 ≤ r by omega) q2 (by omega) (by omega); omega
            obtain ⟨rb, hrb⟩ : ∃ z, r * before = z := ⟨_, rfl⟩
            obtain ⟨rc, hrc⟩ : ∃ z, r * cnt = z := ⟨_, rfl⟩
            have hm1 : IntKind.i64.wrap (r * ((T (ixR m la)).c.take c).sum) = rb := by rw [hbf, hrb, IntKind.wrap_i64]; omega
            have hm4 : IntKind.i64.wrap (r * cnt) = rc := by rw [hrc, IntKind.wrap_i64]; omega
            rw [hrb] at e1 e2 hbah hfind
            rw [hrc] at e1 e3 hfind
            refine qq hS (g_assignv (v := .int .u8 _) rfl) ?_
            refine ol_nil (thenN ?_)
            refine wpIn_seq ?_
            refine reg ?_
            refine qq hS (g_movev (v := .int .i64 _) rfl) ?_
            refine qq hS (g_movev (v := .int .i64 _) rfl) ?_
            refine qq hS (g_move _) ?_
            refine qq hS (g_movev (v := .int .u8 _) rfl) ?_
            refine qe (d_call Tryd.call52 rfl (before_c tb (T (ixR m la)) c _ rfl (by omega) hAo _ _ hS.imm (hH.tab _ _ htb))) ?_
            rintro _ w_10 ⟨rfl, hE⟩
            replace hS := hS.callE hE
            refine qq hS (g_mulu rfl rfl hm1) ?_
            refine qq hS (g_sub rfl rfl (by omega) (by omega)) ?_
            refine qq hS (g_assignv (v := .int .i64 _) rfl) ?_
            refine ol_nil (thenN ?_)
            refine wpIn_seq ?_
            refine reg ?_
            refine qq hS (g_movev (v := .int .i64 _) rfl) ?_
            refine qq hS (g_move _) ?_
            refine qq hS (g_movev (v := .int .u8 _) rfl) ?_
            refine qq hS (g_nilCheck rfl) ?_
            refine qq hS (g_fieldAddr (o' := 0) Tryd.underlying113 rfl Tryd.sizeOf111 rfl rfl rfl) ?_
            refine qq hS (g_indexArr (o' := c) Tryd.underlying111 Tryd.sizeOf3 rfl rfl (by omega) (by omega) (by omega)) ?_
            refine qq hS (g_ldA1 Tryd.isAgg3 (atCell (hH.tab _ _ htb).hold) rfl (rtL_at hcn)) ?_
            refine qq hS (g_mulu rfl rfl hm4) ?_
            refine qq hS (g_assignv (v := .int .i64 _) rfl) ?_
            refine ol_nil (thenN ?_)
            refine wpIn_seq ?_
            refine wpIn_seq ?_
            refine reg ?_
            refine qq hS (g_movev (v := .int .i64 _) rfl) ?_
            refine qq hS (g_movev (v := .int .i64 _) rfl) ?_
            refine qq hS (g_geq rfl rfl) ?_
            refine ol_nil (thenN ?_)
            refine cond_s rfl ?_ ?_
            ·
              intro hc102
              try simp only [Bool.and_eq_true, Bool.or_eq_true, Bool.not_eq_true', Bool.and_eq_false_imp, Bool.or_eq_false_iff, Bool.not_eq_false', decide_eq_true_eq, decide_eq_false_iff_not] at hc102
              have hno : ∀ x, ¬ TextOf M s0 b N x := fun x hx => by have := (hfind x hx).1; omega
              refine wpIn_seq ?_
              refine reg ?_
              refine qq hS (g_assign _) ?_
              refine qq hS (g_assignv (v := .int .i64 _) rfl) ?_
              refine ol_nil (thenN ?_)
              refine wpIn_ret ?_
              refine thenR (blkR (thenR (thenR (blkR (thenR ?_)))))
              refine ret2 Tryd.results33 (rv_tmp rfl) (rv_tmp (v := .int .i64 _) rfl) ?_
              exact ⟨_, none, 0, [], 130, rfl, hE0.call hS.nil, RFl.nil, .inr ⟨rfl, rfl, hno⟩⟩
            ·
              intro hc102
              try simp only [Bool.and_eq_true, Bool.or_eq_true, Bool.not_eq_true', Bool.and_eq_false_imp, Bool.or_eq_false_iff, Bool.not_eq_false', decide_eq_true_eq, decide_eq_false_iff_not] at hc102
              have hmid0 : ∀ x, TextOf M s0 b N x → MidR M s0 b x k c (ah - rb) rc at_ xs s := fun x hx => (hfind x hx).2
              refine wpIn_skip ?_
              refine thenN ?_
              refine wpIn_seq ?_
              refine wpIn_block ?_
              refine loop (fun (z : RdB) σ w => okS σ [(0, .int .i64 m), (1, .slice ad b.length cap), (2, .int .i64 N), (8, .slice pa (b.length + pi) pc), (9, .pointer (some ⟨bt, 0, none⟩)), (10, .int .i64 z.ah), (11, .int .i64 z.at_), (12, .int .i64 z.sz), (13, .slice d k e), (14, .int .i64 k), (17, .int .u8 c)] ∧ St [] w1 I_hpd I w [.row (.slice d k e) 5 1 k (flat byteC xs)] ∧ 0 ≤ z.ah ∧ z.ah < z.sz ∧ 1 ≤ z.sz ∧ z.sz ≤ 4294967295 ∧ (z.at_ ≤ at_ ∨ (z.at_ ≤ at_ + 1 ∧ 256 ≤ z.sz) ∨ (z.at_ ≤ at_ + 2 ∧ 65536 ≤ z.sz) ∨ (z.at_ ≤ at_ + 3 ∧ 16777216 ≤ z.sz)) ∧ (∀ x, TextOf M s0 b N x → MidR M s0 b x k c z.ah z.sz z.at_ xs s)) (fun z => (4294967295 - z.sz).toNat) (⟨ah - rb, rc, at_⟩) ?_ ?_
              ·
                exact ⟨⟨rfl, rfl, rfl, rfl, rfl, rfl, rfl, rfl, rfl, rfl, rfl, trivial⟩, hS.sel [true], by dsimp only; omega, by dsimp only; omega, by dsimp only; omega, by dsimp only; omega, by dsimp only; omega, hmid0⟩
              ·
                rintro ⟨ah2, sz2, at2⟩ σ w_l ⟨hs, hS, hg1, hg2, hg3, hg4, hg5, hmid⟩
                dsimp only at hs hS hg1 hg2 hg3 hg4 hg5 hmid ⊢
                rw [← upds_self hs]; clear hs
                refine wpIn_seq ?_
                refine wpIn_seq ?_
                refine reg ?_
                refine qq hS (g_movev (v := .int .i64 _) rfl) ?_
                refine qq hS (g_lss rfl rfl) ?_
                refine ol_nil (thenN ?_)
                refine cond_s rfl ?_ ?_
                ·
                  intro hc104
                  try simp only [Bool.and_eq_true, Bool.or_eq_true, Bool.not_eq_true', Bool.and_eq_false_imp, Bool.or_eq_false_iff, Bool.not_eq_false', decide_eq_true_eq, decide_eq_false_iff_not] at hc104
                  have hgb := getD_byt hbb at2
                  have hmid2 : ∀ x, TextOf M s0 b N x → MidR M s0 b x k c (ah2 * 256 + b.getD at2 0) (sz2 * 256) (at2 + 1) xs s := fun x hx => (hmid x hx).norm (by omega)
                  refine wpIn_skip ?_
                  refine thenN ?_
                  refine wpIn_block ?_
                  refine wpIn_seq ?_
                  refine reg ?_
                  refine qq hS (g_movev (v := .int .i64 _) rfl) ?_
                  refine qq hS (g_mul rfl rfl (by omega) (by omega)) ?_
                  refine qq hS (g_assignv (v := .int .i64 _) rfl) ?_
                  refine ol_nil (thenN ?_)
                  refine wpIn_seq ?_
                  refine reg ?_
                  refine qq hS (g_movev (v := .int .i64 _) rfl) ?_
                  refine qq hS (g_mul rfl rfl (by omega) (by omega)) ?_
                  refine qq hS (g_assignv (v := .int .i64 _) rfl) ?_
                  refine ol_nil (thenN ?_)
                  refine meet (fun σ w => okS σ [(0, .int .i64 m), (1, .slice ad b.length cap), (2, .int .i64 N), (8, .slice pa (b.length + pi) pc), (9, .pointer (some ⟨bt, 0, none⟩)), (10, .int .i64 (ah2 * 256 + b.getD at2 0)), (11, .int .i64 at2), (12, .int .i64 (sz2 * 256)), (13, .slice d k e), (14, .int .i64 k), (17, .int .u8 c)] ∧ St [] w1 I_hpd I w [.row (.slice d k e) 5 1 k (flat byteC xs)]) ?_ ?_
                  ·
                    refine wpIn_seq ?_
                    refine reg ?_
                    refine qq hS (g_movev (v := .int .i64 _) rfl) ?_
                    refine qq hS (g_move _) ?_
                    refine qq hS (g_lenI rfl Tryd.underlying25 (hpd.mono hS.ext) rfl) ?_
                    refine qq hS (g_lss rfl rfl) ?_
                    refine ol_nil (thenN ?_)
                    refine cond_s rfl ?_ ?_
                    ·
                      intro hc112
                      try simp only [Bool.and_eq_true, Bool.or_eq_true, Bool.not_eq_true', Bool.and_eq_false_imp, Bool.or_eq_false_iff, Bool.not_eq_false', decide_eq_true_eq, decide_eq_false_iff_not] at hc112
                      have hpA := (hpd.mono hS.ext).at (pad_get (b := b) (i := pi) (j := at2) (by omega))
                      refine reg ?_
                      refine qq hS (g_movev (v := .int .i64 _) rfl) ?_
                      refine qq hS (g_move _) ?_
                      refine qq hS (g_movev (v := .int .i64 _) rfl) ?_
                      refine qq hS (g_ixI Tryd.underlying25 Tryd.sizeOf5 (hpd.mono hS.ext) rfl rfl (by omega) (by omega)) ?_
                      refine qq hS (g_ldE1 Tryd.isAgg5 hpA rfl rfl) ?_
                      refine qq hS (g_convi Tryd.underlying5 Tryd.underlying3 rfl (by omega) (by omega)) ?_
                      refine qq hS (g_add rfl rfl (by omega) (by omega)) ?_
                      refine qq hS (g_assignv (v := .int .i64 _) rfl) ?_
                      refine ol_nil (thenN ?_)
                      first
                        | exact ⟨_, rfl, ⟨rfl, rfl, rfl, rfl, rfl, rfl, rfl, rfl, rfl, rfl, rfl, trivial⟩, hS.sel [true]⟩
                        | exact ⟨_, rfl, ⟨rfl, rfl, rfl, rfl, rfl, by rw [hz, Int.add_zero]; rfl, rfl, rfl, rfl, rfl, rfl, trivial⟩, hS.sel [true]⟩
                    ·
                      intro hc112
                      try simp only [Bool.and_eq_true, Bool.or_eq_true, Bool.not_eq_true', Bool.and_eq_false_imp, Bool.or_eq_false_iff, Bool.not_eq_false', decide_eq_true_eq, decide_eq_false_iff_not] at hc112
                      have hz := pad_out (b := b) (j := at2) (by omega)
                      refine wpIn_skip ?_
                      refine thenN ?_
                      first
                        | exact ⟨_, rfl, ⟨rfl, rfl, rfl, rfl, rfl, rfl, rfl, rfl, rfl, rfl, rfl, trivial⟩, hS.sel [true]⟩
                        | exact ⟨_, rfl, ⟨rfl, rfl, rfl, rfl, rfl, by rw [hz, Int.add_zero]; rfl, rfl, rfl, rfl, rfl, rfl, trivial⟩, hS.sel [true]⟩
                  ·
                    rintro σ w ⟨hs, hS⟩
                    rw [← upds_self hs]
                    refine reg ?_
                    refine qq hS (g_movev (v := .int .i64 _) rfl) ?_
                    refine qq hS (g_add rfl rfl (by omega) (by omega)) ?_
                    refine qq hS (g_assignv (v := .int .i64 _) rfl) ?_
                    exact ⟨⟨_, sz2 * 256, at2 + 1⟩, _, rfl, ⟨⟨rfl, rfl, rfl, rfl, rfl, rfl, rfl, rfl, rfl, rfl, rfl, trivial⟩, hS.sel [true], by dsimp only; omega, by dsimp only; omega, by dsimp only; omega, by dsimp only; omega, by dsimp only; omega, hmid2⟩, by dsimp only; omega⟩
                ·
                  intro hc104
                  try simp only [Bool.and_eq_true, Bool.or_eq_true, Bool.not_eq_true', Bool.and_eq_false_imp, Bool.or_eq_false_iff, Bool.not_eq_false', decide_eq_true_eq, decide_eq_false_iff_not] at hc104
                  have hD2 : ∀ x, TextOf M s0 b N x → DRel M s0 b x (k + 1) ah2 sz2 at2 (xs ++ [(c : Int)]) (M.nxt s c) := fun x hx => (hmid x hx).done (by omega)
                  have hMi2 := hM.nxt s c hMi (by omega)
                  have hrel2 := R.nxt s T la c hrel (by omega)
                  refine wpIn_exit ?_
                  refine thenE (thenE (blkE ?_))
                  refine thenN ?_
                  refine wpIn_seq ?_
                  refine reg ?_
                  refine qq hS (g_move _) ?_
                  refine qq hS (g_movev (v := .int .u8 _) rfl) ?_
                  refine qe (d_lit (vs := [.int .u8 _]) (cs := [.int .u8 _]) hS Tryd.underlying25 Tryd.sizeOf5 Tryd.zeroValue5 rfl rfl rfl rfl (fun v hv => by simp only [List.mem_cons, List.not_mem_nil, or_false] at hv; subst hv; rfl) rfl) ?_
                  clear hS
                  rintro _ w_11 ⟨b_11, rfl, hS⟩
                  refine qe (i_appendO 1 0 hS rfl Tryd.underlying25 info5 rfl rfl rfl rfl rfl rfl rfl rfl (by omega) (by omega)) ?_
                  clear hS
                  rintro _ w_12 ⟨a125, p125, rfl, hS⟩
                  refine qq hS (g_assign _) ?_
                  refine ol_nil (thenN ?_)
                  refine reg ?_
                  refine qq hS (g_move _) ?_
                  refine qq hS (g_movev (v := .int .u8 _) rfl) ?_
                  refine qe (d_call Tryd.call45 rfl (sawt_c c _ rfl (by omega) hm hla hAo _ _ hS.imm hH)) ?_
                  rintro _ w_13 ⟨I3, rfl, hC, hH3⟩
                  have hsz1 := hS.size
                  replace hS := St.chg hI1 hS (fun c hc => ⟨hH.foot c hc, hFn c hc⟩) hC
                  refine ol_nil (blkN (thenN ?_))
                  refine reg ?_
                  refine qq hS (g_movev (v := .int .i64 _) rfl) ?_
                  refine qq hS (g_add rfl rfl (by omega) (by omega)) ?_
                  refine qq hS (g_assignv (v := .int .i64 _) rfl) ?_
                  refine ⟨⟨k + 1, ah2, sz2, at2, xs ++ [(c : Int)], M.nxt s c, _, c, a125, p125⟩, _, rfl, ⟨⟨rfl, rfl, rfl, rfl, rfl, rfl, rfl, rfl, rfl, rfl, trivial⟩, _, ?_, by dsimp only; omega, by dsimp only; rw [List.length_append, hxl]; rfl, fun y hy => (List.mem_append.1 hy).elim (hxb y) (fun hy => by simp only [List.mem_singleton] at hy; omega), hMi2, hrel2, ⟨by dsimp only; omega, by dsimp only; omega⟩, by dsimp only; omega, by dsimp only; omega, by dsimp only; omega, by dsimp only; omega, by dsimp only; omega, hH3, hFn, hD2⟩, by dsimp only; omega⟩
                  dsimp only
                  rw [flat_append, flat_one]
                  exact hS.sel [false, true]
          ·
            intro hc70
            try simp only [Bool.and_eq_true, Bool.or_eq_true, Bool.not_eq_true', Bool.and_eq_false_imp, Bool.or_eq_false_iff, Bool.not_eq_false', decide_eq_true_eq, decide_eq_false_iff_not] at hc70
            obtain rfl : k = N := by omega
            subst hxl
            refine wpIn_exit ?_
            refine thenE (thenE (blkE ?_))
            refine thenN ?_
            refine wpIn_seq ?_
            have hF := St.freezeRow (u := .slice d xs.length e) (m := xs.length) (xs := xs) byteC_len (by exact hS.ord [0]) (rfl)
            clear hS
            obtain ⟨I_hout, hS, hI_hout, hout⟩ := hF
            refine reg ?_
            refine qq hS (g_movev (v := .int .i64 _) rfl) ?_
            refine qq hS (g_move _) ?_
            refine qe (d_call Tryd.call28 rfl (encr_c M hM m hm R s0 hs0 hr0 _ _ xs _ _ hS.imm hout hxb (by omega))) ?_
            rintro _ w_14 ⟨I_f, a132, c132, rfl, hE, h132⟩
            replace hS := hS.callE hE
            replace hout := hout.mono hE.ext
            refine qq hS (g_move _) ?_
            refine qq hS (g_extract rfl rfl) ?_
            refine qq hS (g_extract (v := .int .i64 _) rfl rfl) ?_
            refine qq hS (g_assign _) ?_
            refine qq hS (g_assignv (v := .int .i64 _) rfl) ?_
            refine ol_nil (thenN ?_)
            refine wpIn_seq ?_
            refine wpIn_seq ?_
            have hcb : ∀ x ∈ encP M s0 xs, 0 ≤ x ∧ x ≤ 255 := (encP_ok hM hs0 hxb).1
            refine reg ?_
            refine qq hS (g_move _) ?_
            refine qq hS (g_strI Tryd.underlying25 Tryd.underlying5 Tryd.underlying9 h132 rfl) ?_
            refine qq hS (g_move _) ?_
            refine qq hS (g_strI Tryd.underlying25 Tryd.underlying5 Tryd.underlying9 (hb.mono hS.ext) rfl) ?_
            refine qq hS (g_neqB13 hcb hbb rfl rfl) ?_
            refine ol_nil (thenN ?_)
            refine cond_s rfl ?_ ?_
            ·
              intro hc139
              have hne : ¬ encP M s0 xs = b := by simpa using hc139
              have hno : ∀ x, ¬ TextOf M s0 b xs.length x := fun x hx => hne (by
                have h1 := (hD x hx).take
                rw [← hx.len, List.take_length] at h1
                rw [← h1]; exact hx.enc)
              refine wpIn_seq ?_
              refine reg ?_
              refine qq hS (g_assign _) ?_
              refine qq hS (g_assignv (v := .int .i64 _) rfl) ?_
              refine ol_nil (thenN ?_)
              refine wpIn_ret ?_
              refine thenR ?_
              refine ret2 Tryd.results33 (rv_tmp rfl) (rv_tmp (v := .int .i64 _) rfl) ?_
              exact ⟨_, none, 0, [], 130, rfl, hE0.call hS.nil, RFl.nil, .inr ⟨rfl, rfl, hno⟩⟩
            ·
              intro hc139
              have heq : encP M s0 xs = b := by simpa using hc139
              have hun : ∀ x, TextOf M s0 b xs.length x → x = xs := fun x hx => by
                have h1 := (hD x hx).take
                rwa [← hx.len, List.take_length] at h1
              refine wpIn_skip ?_
              refine thenN ?_
              refine wpIn_seq ?_
              refine reg ?_
              refine qq hS (g_move _) ?_
              refine qq hS (g_assign _) ?_
              refine qq hS (g_assignv (v := .int .i64 _) rfl) ?_
              refine ol_nil (thenN ?_)
              refine wpIn_ret ?_
              refine ret2 Tryd.results33 (rv_tmp rfl) (rv_tmp (v := .int .i64 _) rfl) ?_
              exact ⟨_, _, _, xs, 0, rfl, hE0.call hS.nil, hout, .inl ⟨rfl, ⟨rfl, by omega, hxb, heq⟩, hun⟩⟩

end Go.Proofs.YtdgnojckkjfhfaaDoor

