/- inlayref29.Need, Made; inlayref30: Fit, Has, Insert, chain, Length, Version, Unlimited: what they compute. Conditions: good servers where it is said. -/
import Derived.Test.YtcajgkfgjpfmaaaGreatSrvC
import Derived.Test.YtcajgkfgjpfmaaaGreatRg29b
import Derived.Test.YtcajgkfgjpfmaaaGreatKLaw
set_option linter.unusedSimpArgs false
set_option linter.unusedVariables false
namespace Go.Proofs.YtcajgkfgjpfmaaaGreat
open Tryz
open Go Go.RowKit Go.Inl
theorem g_quo8 {P : Program} {n : Nat} {σ : Nat → Value} {S : World → Prop} {t t' ty : TypeId} {x y : Operand} {k : IntKind} {a b : Int} (hx : ev n σ x = .int k a) (hy : ev n σ y = .int k b) (ha : 0 ≤ a) (hb : 0 < b) (hk : k.wrap (a / b) = a / b) : Gives P (ev n σ) S (.binOp .quo t x y t') ty (.int k (a / b)) :=
 fun _ _ => ja hx hy (by simp [binOp, Op.intDiv, show b ≠ 0 by omega, Int.tdiv_eq_ediv_of_nonneg ha, hk])
theorem fillu3 (z0 z1 z2 : Value) (a b c : Int) : Instr.fill (fun i => some (i * 1, 1)) #[z0, z1, z2] [(0, .int .u8 a), (1, .int .u8 b), (2, .int .u8 c)] = some #[.int .u8 a, .int .u8 b, .int .u8 c] := by
 simp [Instr.fill, Value.cells, List.zipIdx]
structure Q6 where
 a : Int
 b : Int
 c : Int
 d : Int
 e : Int
 f : Int
structure Q6.wf (q : Q6) : Prop where
 a : 0 ≤ q.a ∧ q.a ≤ 255
 b : 0 ≤ q.b ∧ q.b ≤ 255
 c : 0 ≤ q.c ∧ q.c ≤ 255
 d : 0 ≤ q.d ∧ q.d ≤ 255
 e : 0 ≤ q.e ∧ q.e ≤ 255
 f : 0 ≤ q.f ∧ q.f ≤ 255
def q6C (q : Q6) : List Value := [.int .u8 q.a, .int .u8 q.b, .int .u8 q.c, .int .u8 q.d, .int .u8 q.e, .int .u8 q.f]
def needQ (a b c : Int) : NeedL := ⟨a % 4, a / 64, b % 8, c % 4, c / 64⟩
theorem needQ_right {a b c : Int} (ha : 0 ≤ a ∧ a ≤ 255) (hb : 0 ≤ b ∧ b ≤ 255) (hc : 0 ≤ c ∧ c ≤ 255) : rightN (needQ a b c) = true := by
 unfold rightN fitN needQ
 simp only [Bool.and_eq_true, decide_eq_true_eq]
 omega
structure MadeG (g : GrL) : Prop where
 val : ValG g
 vn : g.vs.length ≤ 7
 ln : g.ls.length ≤ 14
 vb : ∀ v ∈ g.vs, 1 ≤ v ∧ v ≤ 21
structure GvW where
 k : Nat
 v : Int
 l : List Int
 a : Option Addr
 c : Nat
structure GvI (n : Nat) (x : GvW) : Prop where
 k0 : x.k ≤ n
 k1 : x.k ≤ 7
 len : x.l.length = x.k
 v0 : 0 ≤ x.v
 v1 : x.v ≤ 3 * x.k
 inc : x.l.Pairwise (· < ·)
 b : ∀ u ∈ x.l, 1 ≤ u ∧ u ≤ x.v
structure GlW where
 k : Nat
 l : List LnkL
 a : Option Addr
 c : Nat
theorem gv_next {n k : Nat} {v d : Int} {l : List Int} {a a' : Option Addr} {c c' : Nat} (h : GvI n ⟨k, v, l, a, c⟩) (hk : k < n) (h7 : k < 7) (hd : 0 ≤ d ∧ d ≤ 2) : GvI n ⟨k + 1, v + (1 + d), l ++ [v + (1 + d)], a', c'⟩ := by
 obtain ⟨k0, k1, len, v0, v1, inc, b⟩ := h
 dsimp only at *
 refine ⟨by dsimp only; omega, by dsimp only; omega, by dsimp only; rw [List.length_append, List.length_singleton]; omega, by dsimp only; omega, by dsimp only; omega, ?_, ?_⟩
 · show (l ++ [v + (1 + d)]).Pairwise (· < ·)
   rw [List.pairwise_append]
   refine ⟨inc, List.pairwise_singleton _ _, fun x hx y hy => ?_⟩
   rw [List.mem_singleton] at hy
   have := b x hx
   omega
 · intro u hu
   show 1 ≤ u ∧ u ≤ v + (1 + d)
   rcases List.mem_append.1 hu with hu | hu
   · have := b u hu; omega
   · rw [List.mem_singleton] at hu; omega
structure GlI (vs : List Int) (x : GlW) : Prop where
 k1 : x.k ≤ 14
 len : x.l.length = x.k
 b : ∀ k ∈ x.l, LnkG vs k
theorem gl_next {vs : List Int} {k : Nat} {l : List LnkL} {a a' : Option Addr} {c c' : Nat} {q : LnkL} (h : GlI vs ⟨k, l, a, c⟩) (h7 : k < 14) (hq : LnkG vs q) : GlI vs ⟨k + 1, l ++ [q], a', c'⟩ := by
 obtain ⟨k1, len, b⟩ := h
 dsimp only at *
 refine ⟨by dsimp only; omega, by dsimp only; rw [List.length_append, List.length_singleton]; omega, ?_⟩
 intro u hu
 rcases List.mem_append.1 hu with hu | hu
 · exact b u hu
 · rw [List.mem_singleton] at hu; subst hu; exact hq
theorem inc_inj {vs : List Int} (h : vs.Pairwise (· < ·)) {i j : Nat} {x : Int} (hi : vs[i]? = some x) (hj : vs[j]? = some x) : i = j := by
 obtain ⟨a1, a2⟩ := List.getElem?_eq_some_iff.1 hi
 obtain ⟨b1, b2⟩ := List.getElem?_eq_some_iff.1 hj
 have hp := List.pairwise_iff_getElem.1 h
 rcases Nat.lt_trichotomy i j with e | e | e
 · have := hp _ _ a1 b1 e; omega
 · exact e
 · have := hp _ _ b1 a1 e; omega
theorem mod_ne {f m n : Int} (h0 : 0 ≤ f) (h1 : f < n) (h2 : 0 ≤ m) (h3 : m < n - 1) : 0 ≤ (f + 1 + m) % n ∧ (f + 1 + m) % n < n ∧ (f + 1 + m) % n ≠ f := by
 have a1 := Int.emod_nonneg (f + 1 + m) (show n ≠ 0 by omega)
 have a2 := Int.emod_lt_of_pos (f + 1 + m) (show 0 < n by omega)
 refine ⟨a1, a2, fun h => ?_⟩
 rcases Int.lt_or_le (f + 1 + m) n with e | e
 · rw [Int.emod_eq_of_lt (by omega) e] at h; omega
 · have : (f + 1 + m) % n = f + 1 + m - n := by
    rw [← Int.sub_emod_right, Int.emod_eq_of_lt (by omega) (by omega)]
   omega
theorem needR_c (a b c : Int) (w0 : World) (I0 : Imm) (hI : Sat I0 w0) (ha : 0 ≤ a ∧ a ≤ 255) (hb : 0 ≤ b ∧ b ≤ 255) (hc : 0 ≤ c ∧ c ≤ 255) :
 Ctr prog 13 [.agg #[.int .u8 a, .int .u8 b, .int .u8 c]] w0 (fun v w' => v = .agg #[.int .i64 (needQ a b c).s, .int .i64 (needQ a b c).u, .int .i64 (needQ a b c).r, .int .i64 (needQ a b c).e, .int .i64 (needQ a b c).o] ∧ Ext w0 I0 w' I0) := by
 refine fn (n := 24) func13 rfl rfl rfl ?_
 have hS := St.start hI
 refine QwR ?_
 refine qe (d_box (cs := [.int .u8 _, .int .u8 _, .int .u8 _]) hS rfl) ?_
 clear hS
 rintro _ w_1 ⟨b1, rfl, hS⟩
 refine qe (qo (cs := [.int .i64 _, .int .i64 _, .int .i64 _, .int .i64 _, .int .i64 _]) hS zeroValue41 rfl) ?_
 clear hS
 rintro _ w_2 ⟨b2, rfl, hS⟩
 refine QoR ?_
 refine qq hS (qA (o' := 0) underlying29 sizeOf5 rfl rfl (by decide) (by decide) rfl) ?_
 refine qq hS (qf 1 isAgg5 rfl rfl rfl) ?_
 refine qq hS (g_rem rfl rfl (by omega) (by omega)) ?_
 refine qq hS (qT underlying5 underlying3 rfl (by omega) (by omega)) ?_
 refine qq hS (qA (o' := 0) underlying29 sizeOf5 rfl rfl (by decide) (by decide) rfl) ?_
 refine qq hS (qf 1 isAgg5 rfl rfl rfl) ?_
 refine qq hS (g_quo8 rfl rfl (by omega) (by decide) (by rw [IntKind.wrap_u8]; omega)) ?_
 refine qq hS (qT underlying5 underlying3 rfl (by omega) (by omega)) ?_
 refine qq hS (qA (o' := 1) underlying29 sizeOf5 rfl rfl (by decide) (by decide) rfl) ?_
 refine qq hS (qf 1 isAgg5 rfl rfl rfl) ?_
 refine qq hS (g_rem rfl rfl (by omega) (by omega)) ?_
 refine qq hS (qT underlying5 underlying3 rfl (by omega) (by omega)) ?_
 refine qq hS (qA (o' := 2) underlying29 sizeOf5 rfl rfl (by decide) (by decide) rfl) ?_
 refine qq hS (qf 1 isAgg5 rfl rfl rfl) ?_
 refine qq hS (g_rem rfl rfl (by omega) (by omega)) ?_
 refine qq hS (qT underlying5 underlying3 rfl (by omega) (by omega)) ?_
 refine qq hS (qA (o' := 2) underlying29 sizeOf5 rfl rfl (by decide) (by decide) rfl) ?_
 refine qq hS (qf 1 isAgg5 rfl rfl rfl) ?_
 refine qq hS (g_quo8 rfl rfl (by omega) (by decide) (by rw [IntKind.wrap_u8]; omega)) ?_
 refine qq hS (qT underlying5 underlying3 rfl (by omega) (by omega)) ?_
 refine qq hS (ql (pl := [(0, 1), (1, 1), (2, 1), (3, 1), (4, 1)]) (cs := [.int .i64 _, .int .i64 _, .int .i64 _, .int .i64 _, .int .i64 _]) zeroValue41 underlying41 (fun w => by simp [sizeOf3]) (mp (v := .int .i64 _) rfl (mp (v := .int .i64 _) rfl (mp (v := .int .i64 _) rfl (mp (v := .int .i64 _) rfl (mp (v := .int .i64 _) rfl mp0))))) rfl) ?_
 refine qe (qg 0 hS sizeOf41 rfl rfl rfl (vs := [.int .i64 _, .int .i64 _, .int .i64 _, .int .i64 _, .int .i64 _]) rfl rfl rfl (Nat.le_of_ble_eq_true rfl) (cs' := [_, _, _, _, _]) rfl) ?_
 clear hS
 rintro _ w_3 ⟨rfl, hS⟩
 refine QoN (wpIn_ret ?_)
 refine ret1 results13 (qt 0 hS sizeOf41 isAgg41 rfl rfl rfl) ?_
 exact ⟨rfl, hS.nil⟩
theorem madeG_c_fill0 (z0 z1 z2 z3 z4 z5 z6 z7 : Value) (x0 : Int) (x1 : Int) (x2 : Int) (x3 : Int) (x4 : Int) (x5 : Int) (x6 : Int) (x7 : Int) : Instr.fill ([(0, 1), (1, 1), (2, 1), (3, 5)][·]?) #[z0, z1, z2, z3, z4, z5, z6, z7] [(0, .int .i64 x0), (1, .int .i64 x1), (2, .int .i64 x2), (3, .agg #[.int .i64 x3, .int .i64 x4, .int .i64 x5, .int .i64 x6, .int .i64 x7])] = some #[.int .i64 x0, .int .i64 x1, .int .i64 x2, .int .i64 x3, .int .i64 x4, .int .i64 x5, .int .i64 x6, .int .i64 x7] := by
 simp [Instr.fill, Value.cells, List.zipIdx]
set_option maxHeartbeats 4000000 in
theorem madeG_c (av al : Option Addr) (cv cl : Nat) (V : List Int) (Q : List Q6) (w0 : World) (I0 : Imm) (hI : Sat I0 w0) (hV : RBytes I0 (.slice av V.length cv) V) (hVb : ∀ x ∈ V, 0 ≤ x ∧ x ≤ 255) (hQ : RFl I0 6 q6C (.slice al Q.length cl) Q) (hQw : ∀ q ∈ Q, q.wf) :
 Ctr prog 44 [.agg #[.slice av V.length cv, .slice al Q.length cl]] w0 (fun v w' => ∃ I' g a0 c0 a1 c1, v = .agg #[.slice a0 g.vs.length c0, .slice a1 g.ls.length c1] ∧ Ext w0 I0 w' I' ∧ RGr I' a0 c0 a1 c1 g ∧ MadeG g) := by
 have hlv := RSl.le hV
 have hlq := RSl.le hQ
 simp only [maxLen] at hlv hlq
 refine fn (n := 107) func44 rfl rfl rfl ?_
 have hS := St.start hI
 refine QwR ?_
 refine qe (d_box (cs := [.slice _ _ _, .slice _ _ _]) hS rfl) ?_
 clear hS
 rintro _ w_1 ⟨b1, rfl, hS⟩
 refine qe (qo (cs := [.slice _ _ _, .slice _ _ _]) hS zeroValue34 rfl) ?_
 clear hS
 rintro _ w_2 ⟨b2, rfl, hS⟩
 refine QoR ?_
 refine qq hS (ql (pl := [(0, 1), (1, 1)]) (cs := [.slice _ _ _, .slice _ _ _]) zeroValue34 underlying34 (fun w => by simp [sizeOf31, sizeOf32]) mp0 rfl) ?_
 refine qe (qo (cs := [.slice _ _ _, .slice _ _ _]) hS zeroValue34 rfl) ?_
 clear hS
 rintro _ w_3 ⟨b3, rfl, hS⟩
 refine qe (qg 0 hS sizeOf34 rfl rfl rfl (vs := [.slice _ _ _, .slice _ _ _]) rfl rfl rfl (Nat.le_of_ble_eq_true rfl) (cs' := [_, _]) rfl) ?_
 clear hS
 rintro _ w_4 ⟨rfl, hS⟩
 refine qq hS (Qai rfl) (QoN (wpIn_seq (QwR (qq hS (Qai rfl) (QoN ?_)))))
 refine wpIn_block ?_
 refine loop (fun (x : GvW) σ w => okS σ [(1, .pointer (some ⟨b1, 0, none⟩)), (2, .pointer (some ⟨b2, 0, none⟩)), (3, .pointer (some ⟨b3, 0, none⟩)), (4, .int .i64 x.v), (5, .int .i64 x.k)] ∧ St [] w0 I0 I0 w [.row (.slice x.a x.l.length x.c) 3 1 x.l.length (flat intC x.l), .cel b3 34 [.slice x.a x.l.length x.c, .slice none 0 0], .cel b2 34 [.slice none 0 0, .slice none 0 0], .cel b1 25 [.slice av V.length cv, .slice al Q.length cl]] ∧ GvI V.length x) (fun x => V.length - x.k) (⟨0, 0, [], none, 0⟩) ?_ ?_
 ·
  exact ⟨⟨rfl, rfl, rfl, rfl, rfl, trivial⟩, (hS.sel [true, true, true]).nilRow 3 1, ⟨Nat.zero_le _, by decide, rfl, Int.le_refl _, by decide, List.Pairwise.nil, fun _ h => by cases h⟩⟩
 ·
  rintro ⟨k, v, vs, a, c⟩ σ w_l ⟨hs, hS, hI⟩
  dsimp only at hs hS ⊢
  rw [← qr hs]; clear hs
  refine wpIn_seq (QwR (qq hS (Qmi rfl) ?_))
  refine qq hS (qb (o' := 0) underlying25 rfl sizeOf22 rfl rfl rfl) ?_
  refine qq hS (qf 3 isAgg22 rfl rfl rfl) ?_
  refine qq hS (qs rfl underlying22 (hV.mono hS.ext) rfl) ?_
  refine qq hS (g_lss rfl rfl) ?_
  refine qq hS (Qmb rfl) ?_
  refine qu rfl rfl hS (fun hg => (Qmi rfl)) ?_
  intro u18 hu18 hn18
  refine qu rfl rfl hS (fun hg => (g_lss (hu18 hg) rfl)) ?_
  intro u19 hu19 hn19
  refine qq hS (g_and rfl rfl (fun hq => hu19 hq)) ?_
  refine QoN ?_
  refine qk rfl ?_ ?_
  ·
   intro hc20
   clear hu18 hn18 hu19 hn19
   try simp only [zA, zO, zN, zI, zF, zM, zT, zU] at hc20
   obtain ⟨hkn, hk7⟩ := hc20
   obtain ⟨y, hyi⟩ : ∃ y, V[k]? = some y := ⟨_, List.getElem?_eq_getElem (by omega)⟩
   have hyA := (hV.mono hS.ext).at hyi
   have hyb := hVb y (List.mem_of_getElem? hyi)
   have hnx := fun a' c' => gv_next (a' := a') (c' := c') hI (by omega) (by omega) (show 0 ≤ y % 3 ∧ y % 3 ≤ 2 by omega)
   obtain ⟨hi1, hi2, hi3, hi4, hi5, hi6, hi7⟩ := hI
   dsimp only at hi1 hi2 hi3 hi4 hi5
   refine wpIn_skip (thenN (wpIn_seq (wpIn_block (QwR (qq hS (Qmi rfl) ?_)))))
   refine qq hS (qb (o' := 0) underlying25 rfl sizeOf22 rfl rfl rfl) ?_
   refine qq hS (qf 3 isAgg22 rfl rfl rfl) ?_
   refine qq hS (Qmi rfl) ?_
   refine qq hS (g_ixI underlying22 sizeOf5 (hV.mono hS.ext) rfl rfl (by omega) (by omega)) ?_
   refine qq hS (qy isAgg5 hyA rfl rfl) ?_
   refine qq hS (g_rem rfl rfl (by omega) (by omega)) ?_
   refine qq hS (qT underlying5 underlying3 rfl (by omega) (by omega)) ?_
   refine qq hS (g_add rfl rfl (by omega) (by omega)) ?_
   refine qq hS (g_add rfl rfl (by omega) (by omega)) ?_
   refine qq hS (Qai rfl) (QoN (reg ?_))
   refine qq hS (qb (o' := 0) underlying34 rfl sizeOf31 rfl rfl rfl) ?_
   refine qq hS (qf 1 isAgg31 rfl rfl rfl) ?_
   refine qq hS (Qmi rfl) ?_
   refine qe (d_lit (vs := [.int .i64 _]) (cs := [.int .i64 _]) hS underlying31 sizeOf3 zeroValue3 rfl rfl rfl rfl (fun v hv => by simp only [List.mem_cons, List.not_mem_nil, or_false] at hv; subst hv; rfl) rfl) ?_
   clear hS
   rintro _ w_5 ⟨b36, rfl, hS⟩
   refine qe (qF 1 0 hS rfl underlying31 info3 rfl rfl rfl rfl rfl rfl rfl rfl (by omega) (by omega)) ?_
   clear hS
   rintro _ w_6 ⟨a37, p37, rfl, hS⟩
   refine qq hS (qb (o' := 0) underlying34 rfl sizeOf31 rfl rfl rfl) ?_
   refine qe (qg 2 hS sizeOf31 rfl rfl rfl (vs := [.slice _ _ _]) rfl rfl rfl (Nat.le_of_ble_eq_true rfl) (cs' := [_, _]) rfl) ?_
   clear hS
   rintro _ w_7 ⟨rfl, hS⟩
   refine qJ (blkN (thenN ?_))
   refine reg (qq hS (Qmi rfl) ?_)
   refine qq hS (g_add rfl rfl (by omega) (by omega)) ?_
   refine qq hS (Qai rfl) ?_
   exact ⟨⟨k + 1, v + (1 + y % 3), vs ++ [v + (1 + y % 3)], a37, p37⟩, _, rfl, ⟨⟨rfl, rfl, rfl, rfl, rfl, trivial⟩, by dsimp only; rw [List.length_append, qv]; exact hS.sel [false, true, true, true, true], hnx _ _⟩, by dsimp only; omega⟩
  ·
   intro hc20
   clear hu18 hn18 hu19 hn19
   try simp only [zA, zO, zN, zI, zF, zM, zT, zU] at hc20
   obtain ⟨hi1, hi2, hi3, hi4, hi5, hi6, hi7⟩ := hI
   dsimp only at hi1 hi2 hi3 hi4 hi5 hi6 hi7
   refine wpIn_exit ?_
   refine thenE (thenE (blkE ?_))
   refine thenN (wpIn_seq ?_)
   have hF := St.freezeRow (u := .slice a vs.length c) (m := vs.length) (xs := vs) qB (by exact hS.ord [0, 1, 2, 3]) (rfl)
   clear hS
   obtain ⟨I_hvs, hS, hI_hvs, hvs⟩ := hF
   refine reg ?_
   refine qq hS (qb (o' := 0) underlying34 rfl sizeOf31 rfl rfl rfl) ?_
   refine qq hS (qf 0 isAgg31 rfl rfl rfl) ?_
   refine qq hS (qs rfl underlying31 hvs rfl) ?_
   refine qq hS (Qai rfl) (QoN (wpIn_seq (QwR (qq hS (Qai rfl) (QoN ?_)))))
   refine wpIn_block ?_
   refine loop (fun (x : GlW) σ w => okS σ [(1, .pointer (some ⟨b1, 0, none⟩)), (2, .pointer (some ⟨b2, 0, none⟩)), (3, .pointer (some ⟨b3, 0, none⟩)), (6, .int .i64 vs.length), (7, .int .i64 x.k)] ∧ St [] w0 I0 I_hvs w [.row (.slice x.a x.l.length x.c) 60 8 x.l.length (flat lnkC x.l), .cel b3 34 [.slice a vs.length c, .slice x.a x.l.length x.c], .cel b2 34 [.slice none 0 0, .slice none 0 0], .cel b1 25 [.slice av V.length cv, .slice al Q.length cl]] ∧ GlI vs x) (fun x => Q.length - x.k) (⟨0, [], none, 0⟩) ?_ ?_
   ·
    exact ⟨⟨rfl, rfl, rfl, rfl, rfl, trivial⟩, (hS.sel [true, true, true]).nilRow 60 8, ⟨by decide, rfl, fun _ h => by cases h⟩⟩
   ·
    rintro ⟨i, ls, al1, cl1⟩ σ w_l ⟨hs, hS, hJ⟩
    dsimp only at hs hS ⊢
    rw [← qr hs]; clear hs
    refine wpIn_seq (QwR (qq hS (Qmi rfl) ?_))
    refine qq hS (qb (o' := 1) underlying25 rfl sizeOf23 rfl rfl rfl) ?_
    refine qq hS (qf 3 isAgg23 rfl rfl rfl) ?_
    refine qq hS (qs rfl underlying23 (hQ.mono hS.ext) rfl) ?_
    refine qq hS (g_lss rfl rfl) ?_
    refine qq hS (Qmb rfl) ?_
    refine qu rfl rfl hS (fun hg => (Qmi rfl)) ?_
    intro u48 hu48 hn48
    refine qu rfl rfl hS (fun hg => (g_lss (hu48 hg) rfl)) ?_
    intro u49 hu49 hn49
    refine qq hS (g_and rfl rfl (fun hq => hu49 hq)) ?_
    refine qq hS (Qmb rfl) ?_
    refine qu rfl rfl hS (fun hg => (Qmi rfl)) ?_
    intro u52 hu52 hn52
    refine qu rfl rfl hS (fun hg => (g_gtr (hu52 hg) rfl)) ?_
    intro u53 hu53 hn53
    refine qq hS (g_and rfl rfl (fun hq => hu53 hq)) ?_
    refine QoN ?_
    refine qk rfl ?_ ?_
    ·
     intro hc54
     clear hu48 hn48 hu49 hn49 hu52 hn52 hu53 hn53
     try simp only [zA, zO, zN, zI, zF, zM, zT, zU] at hc54
     obtain ⟨⟨hin, hi14⟩, hn1⟩ := hc54
     obtain ⟨q, hqi⟩ : ∃ q, Q[i]? = some q := ⟨_, List.getElem?_eq_getElem (by omega)⟩
     have hqA := (hQ.mono hS.ext).at hqi
     obtain ⟨⟨qa1, qa2⟩, ⟨qb1, qb2⟩, ⟨qc1, qc2⟩, ⟨qd1, qd2⟩, ⟨qe1, qe2⟩, ⟨qf1, qf2⟩⟩ := hQw q (List.mem_of_getElem? hqi)
     have f1 := Int.emod_nonneg q.a (show (vs.length : Int) ≠ 0 by omega)
     have f2 := Int.emod_lt_of_pos q.a (show 0 < (vs.length : Int) by omega)
     have m1 := Int.emod_nonneg q.b (show (vs.length : Int) - 1 ≠ 0 by omega)
     have m2 := Int.emod_lt_of_pos q.b (show 0 < (vs.length : Int) - 1 by omega)
     obtain ⟨t1, t2, t3⟩ := mod_ne f1 f2 m1 m2
     obtain ⟨vf, hfi⟩ : ∃ x, vs[(q.a % (vs.length : Int)).toNat]? = some x := ⟨_, List.getElem?_eq_getElem (by omega)⟩
     obtain ⟨vt, hti⟩ : ∃ x, vs[((q.a % (vs.length : Int) + 1 + q.b % ((vs.length : Int) - 1)) % (vs.length : Int)).toNat]? = some x := ⟨_, List.getElem?_eq_getElem (by omega)⟩
     have hfA := hvs.at hfi
     have htA := hvs.at hti
     have hnew : LnkG vs ⟨vf, vt, q.c % 8, needQ q.d q.e q.f⟩ := ⟨List.mem_of_getElem? hfi, List.mem_of_getElem? hti, fun h => t3 (by
      replace h : vf = vt := h
      subst h
      have := inc_inj hi6 hfi hti
      omega), by dsimp only; omega, by dsimp only; omega, needQ_right ⟨qd1, qd2⟩ ⟨qe1, qe2⟩ ⟨qf1, qf2⟩⟩
     have hnx := fun a' c' => gl_next (a' := a') (c' := c') hJ (by omega) hnew
     obtain ⟨hj1, hj2, hj3⟩ := hJ
     dsimp only at hj1 hj2
     refine wpIn_skip (thenN (wpIn_seq (wpIn_block (QwR ?_))))
     refine qq hS (qb (o' := 1) underlying25 rfl sizeOf23 rfl rfl rfl) ?_
     refine qq hS (qf 3 isAgg23 rfl rfl rfl) ?_
     refine qq hS (Qmi rfl) ?_
     refine qq hS (g_ixI underlying23 sizeOf147 (hQ.mono hS.ext) rfl rfl (by omega) (by omega)) ?_
     refine qq hS (g_ldE (us := [.int .u8 _, .int .u8 _, .int .u8 _, .int .u8 _, .int .u8 _, .int .u8 _]) sizeOf147 isAgg147 hqA rfl rfl rfl) ?_
     refine qe (qo (cs := [.int .u8 _, .int .u8 _, .int .u8 _, .int .u8 _, .int .u8 _, .int .u8 _]) hS zeroValue147 rfl) ?_
     clear hS
     rintro _ w_8 ⟨b8, rfl, hS⟩
     refine qe (qg 0 hS sizeOf147 rfl rfl rfl (vs := [.int .u8 _, .int .u8 _, .int .u8 _, .int .u8 _, .int .u8 _, .int .u8 _]) rfl rfl rfl (Nat.le_of_ble_eq_true rfl) (cs' := [_, _, _, _, _, _]) rfl) ?_
     clear hS
     rintro _ w_9 ⟨rfl, hS⟩
     refine QoR ?_
     refine qq hS (qA (o' := 0) underlying147 sizeOf5 rfl rfl (by decide) (by decide) rfl) ?_
     refine qq hS (qf 0 isAgg5 rfl rfl rfl) ?_
     refine qq hS (qT underlying5 underlying3 rfl (by omega) (by omega)) ?_
     refine qq hS (Qmi rfl) ?_
     refine qq hS (g_rem rfl rfl (by omega) (by omega)) ?_
     refine qq hS (Qai rfl) (QoR (qq hS (Qmi rfl) ?_))
     refine qq hS (g_add rfl rfl (by omega) (by omega)) ?_
     refine qq hS (qA (o' := 1) underlying147 sizeOf5 rfl rfl (by decide) (by decide) rfl) ?_
     refine qq hS (qf 0 isAgg5 rfl rfl rfl) ?_
     refine qq hS (qT underlying5 underlying3 rfl (by omega) (by omega)) ?_
     refine qq hS (Qmi rfl) ?_
     refine qq hS (g_sub rfl rfl (by omega) (by omega)) ?_
     refine qq hS (g_rem rfl rfl (by omega) (by omega)) ?_
     refine qq hS (g_add rfl rfl (by omega) (by omega)) ?_
     refine qq hS (Qmi rfl) ?_
     refine qq hS (g_rem rfl rfl (by omega) (by omega)) ?_
     refine qq hS (Qai rfl) (QoN ?_)
     refine draw (.cons 0 .pure (.cons 1 .held (.cons 2 .pure (.cons 3 .held (.cons 4 .pure (.cons 5 .pure (.cons 6 .held (.cons 7 .pure (.cons 8 .held (.cons 9 .pure (.cons 10 .pure (.cons 11 .held (.cons 12 .pure (.cons 13 .held (.cons 14 .pure (.cons 15 .pure (.cons 16 .pure (.cons 17 .held (.cons 18 .pure (.cons 19 .held (.cons 20 .pure (.cons 21 .held (.cons 22 .pure (.cons 23 .eff (.cons 24 .pure (.cons 25 .eff (.cons 26 .bar (.cons 27 .pure (.cons 28 .bar .nil))))))))))))))))))))))))))))) mixed (by kernel_rfl) hS ?_
     intro w_10 hS
     refine sp rfl (qb (o' := 1) underlying34 rfl sizeOf32 rfl rfl rfl) ?_
     refine sh rfl (qf 2 isAgg32 rfl rfl rfl) ?_
     refine sp rfl (qb (o' := 0) underlying34 rfl sizeOf31 rfl rfl rfl) ?_
     refine sh rfl (qf 2 isAgg31 rfl rfl rfl) ?_
     refine sp rfl (Qmi rfl) ?_
     refine sp rfl (g_ixI underlying31 sizeOf3 hvs rfl rfl (by omega) (by omega)) ?_
     refine sh rfl (qy isAgg3 hfA rfl rfl) ?_
     refine sp rfl (qb (o' := 0) underlying34 rfl sizeOf31 rfl rfl rfl) ?_
     refine sh rfl (qf 2 isAgg31 rfl rfl rfl) ?_
     refine sp rfl (Qmi rfl) ?_
     refine sp rfl (g_ixI underlying31 sizeOf3 hvs rfl rfl (by omega) (by omega)) ?_
     refine sh rfl (qy isAgg3 htA rfl rfl) ?_
     refine sp rfl (qA (o' := 2) underlying147 sizeOf5 rfl rfl (by decide) (by decide) rfl) ?_
     refine sh rfl (qf 0 isAgg5 rfl rfl rfl) ?_
     refine sp rfl (g_rem rfl rfl (by omega) (by omega)) ?_
     refine sp rfl (qT underlying5 underlying3 rfl (by omega) (by omega)) ?_
     refine sp rfl (qA (o' := 3) underlying147 sizeOf5 rfl rfl (by decide) (by decide) rfl) ?_
     refine sh rfl (qf 0 isAgg5 rfl rfl rfl) ?_
     refine sp rfl (qA (o' := 4) underlying147 sizeOf5 rfl rfl (by decide) (by decide) rfl) ?_
     refine sh rfl (qf 0 isAgg5 rfl rfl rfl) ?_
     refine sp rfl (qA (o' := 5) underlying147 sizeOf5 rfl rfl (by decide) (by decide) rfl) ?_
     refine sh rfl (qf 0 isAgg5 rfl rfl rfl) ?_
     refine sp rfl (zd (cs := [.int .u8 q.d, .int .u8 q.e, .int .u8 q.f]) zeroValue29 underlying29 sizeOf5 rfl (fillu3 _ _ _ _ _ _)) ?_
     have hS0 := hS
     refine se rfl (qj call13 rfl (needR_c q.d q.e q.f _ _ hS.imm ⟨qd1, qd2⟩ ⟨qe1, qe2⟩ ⟨qf1, qf2⟩)) ?_
     rintro _ w_11 ⟨rfl, hE⟩
     replace hS := hS.call hE
     refine ⟨_, _, hS0.le hE.ext (List.Sublist.refl _), hS, ?_⟩
     refine sp rfl (ql (pl := [(0, 1), (1, 1), (2, 1), (3, 5)]) (cs := [.int .i64 _, .int .i64 _, .int .i64 _, .int .i64 _, .int .i64 _, .int .i64 _, .int .i64 _, .int .i64 _]) zeroValue60 underlying60 (fun w => by simp [sizeOf3, sizeOf41]) (mp (v := .int .i64 _) rfl (mp (v := .int .i64 _) rfl (mp (v := .int .i64 _) rfl (mp (v := .agg #[.int .i64 _, .int .i64 _, .int .i64 _, .int .i64 _, .int .i64 _]) rfl mp0)))) (madeG_c_fill0 _ _ _ _ _ _ _ _ _ _ _ _ _ _ _ _)) ?_
     have hS0 := hS
     refine se rfl (d_lit (vs := [.agg #[.int .i64 _, .int .i64 _, .int .i64 _, .int .i64 _, .int .i64 _, .int .i64 _, .int .i64 _, .int .i64 _]]) (cs := [.int .i64 _, .int .i64 _, .int .i64 _, .int .i64 _, .int .i64 _, .int .i64 _, .int .i64 _, .int .i64 _]) hS underlying32 sizeOf60 zeroValue60 rfl rfl rfl rfl (fun v hv => by simp only [List.mem_cons, List.not_mem_nil, or_false] at hv; subst hv; rfl) rfl) ?_
     rintro _ w_12 ⟨b103, rfl, hS⟩
     refine ⟨_, _, hS0.le (Sub.refl _) (List.sublist_cons_self _ _), hS, ?_⟩
     refine sb rfl (qF 2 0 hS rfl underlying32 info60 rfl rfl rfl rfl rfl rfl rfl rfl (by omega) (by omega)) ?_
     rintro _ w_13 ⟨a104, p104, rfl, hS⟩
     refine ⟨_, _, hS, ?_⟩
     refine sp rfl (qb (o' := 1) underlying34 rfl sizeOf32 rfl rfl rfl) ?_
     refine sb rfl (qg 3 hS sizeOf32 rfl rfl rfl (vs := [.slice _ _ _]) rfl rfl rfl (Nat.le_of_ble_eq_true rfl) (cs' := [_, _]) rfl) ?_
     rintro _ w_14 ⟨rfl, hS⟩
     refine ⟨_, _, hS, ?_⟩
     refine sn (blkN (thenN ?_))
     refine reg (qq hS (Qmi rfl) ?_)
     refine qq hS (g_add rfl rfl (by omega) (by omega)) ?_
     refine qq hS (Qai rfl) ?_
     exact ⟨⟨i + 1, ls ++ [⟨vf, vt, q.c % 8, needQ q.d q.e q.f⟩], a104, p104⟩, _, rfl, ⟨⟨rfl, rfl, rfl, rfl, rfl, trivial⟩, by dsimp only; rw [List.length_append, qv]; exact hS.sel [false, false, true, true, true, true], hnx _ _⟩, by dsimp only; omega⟩
    ·
     intro hc54
     clear hu48 hn48 hu49 hn49 hu52 hn52 hu53 hn53
     try simp only [zA, zO, zN, zI, zF, zM, zT, zU] at hc54
     obtain ⟨hj1, hj2, hj3⟩ := hJ
     dsimp only at hj1 hj2 hj3
     refine wpIn_exit ?_
     refine thenE (thenE (blkE ?_))
     refine thenN (QwR ?_)
     refine qq hS (g_ldO 1 (vs := [.slice _ _ _, .slice _ _ _]) sizeOf34 isAgg34 rfl rfl rfl rfl) ?_
     refine qe (qg 2 hS sizeOf34 rfl rfl rfl (vs := [.slice _ _ _, .slice _ _ _]) rfl rfl rfl (Nat.le_of_ble_eq_true rfl) (cs' := [_, _]) rfl) ?_
     clear hS
     rintro _ w_15 ⟨rfl, hS⟩
     refine QoN (wpIn_ret ?_)
     refine ret1 results44 (qt 2 hS sizeOf34 isAgg34 rfl rfl rfl) ?_
     obtain ⟨I1, hS1, hI1, hd1⟩ := St.freezeRow qC (xs := ls) (hS.sel [true, false, false, false]) rfl
     exact ⟨I1, ⟨vs, ls⟩, a, c, al1, cl1, rfl, hS1.nil, ⟨hvs.mono hI1, hd1⟩, ⟨⟨by dsimp only; omega, by dsimp only; omega, hi6, fun v hv => by have := hi7 v hv; omega, hj3⟩, by dsimp only; omega, by dsimp only; omega, fun v hv => by have := hi7 v hv; omega⟩⟩
end Go.Proofs.YtcajgkfgjpfmaaaGreat
