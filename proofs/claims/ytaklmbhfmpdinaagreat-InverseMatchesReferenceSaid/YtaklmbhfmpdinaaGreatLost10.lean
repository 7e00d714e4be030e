/- Package inverse: Lost; SameRanges of inlayref01; Invert where lifted bytes are no code: what they compute. Conditions: numbers within bounds. -/
import Derived.Test.YtaklmbhfmpdinaaGreatKCore3
import Derived.Test.YtaklmbhfmpdinaaGreatInv10
import Derived.Test.YtaklmbhfmpdinaaGreatMade11
import Derived.Test.YtaklmbhfmpdinaaGreatPlain11
set_option linter.unusedSimpArgs false
set_option linter.unusedVariables false
namespace Go.Proofs.YtaklmbhfmpdinaaGreat
open Tryz
open Go Go.RowKit Go.Inl
def lostP (p : PatL) : List (Int × Int) × Int := if (symbolsP p).2 ≠ 0 then ([], (symbolsP p).2) else (rngs p.in_.toNat fun i => (kept (symbolsP p).1 i).isNone, 0)
theorem yv {R : List (Int × Int)} {i : Int} (h : 0 < R.length → ¬ (lastR R).2 = i) : extR R i = R ++ [(i, i + 1)] := by
 rcases Nat.eq_zero_or_pos R.length with h0 | h0
 · rw [List.length_eq_zero_iff.1 h0]; rfl
 · rw [yL i (ju h0), if_neg (h h0)]
theorem g_gtTK {P : Program} {n : Nat} {σ : Nat → Value} {S : World → Prop} {t t' ty : TypeId} {x y : Operand} {k : IntKind} {a b : Int} (hx : ev n σ x = .int k a) (hy : ev n σ y = .int k b) (h : b < a) : Gives P (ev n σ) S (.binOp .gtr t x y t') ty (.bool true) := by
 have := g_gtr (P := P) (S := S) (t := t) (t' := t') (ty := ty) hx hy
 rw [decide_eq_true (by omega)] at this; exact this
set_option maxHeartbeats 1000000 in
theorem sameRg1_c (l k : List (Int × Int)) (ad bd : Option Addr) (cap capb : Nat) (w0 : World) (I0 : Imm) (hI : Sat I0 w0) (hl : RRgs I0 (.slice ad l.length cap) l) (hk : RRgs I0 (.slice bd k.length capb) k) :
 Ctr prog 15 [.slice ad l.length cap, .slice bd k.length capb] w0 (fun v w' => v = .bool (decide (l = k)) ∧ Ext w0 I0 w' I0) := by
 have hle := RSl.le hl
 have hlk := RSl.le hk
 simp only [maxLen] at hle hlk
 refine fn (n := 26) func15 rfl rfl rfl ?_
 have hS := St.start hI
 refine QwR (qq hS (Qab rfl) (QoN (wpIn_seq (QwR (qq hS (qb _) ?_)))))
 refine qq hS (qo rfl underlying42 hl rfl) ?_
 refine qq hS (qb _) ?_
 refine qq hS (qo rfl underlying42 hk rfl) ?_
 refine qq hS (g_neq rfl rfl) ?_
 refine QoN ?_
 refine qh rfl ?_ ?_
 ·
  intro hc10
  try simp only [zA, zO, zN, zI, zF, zM, zT, zU] at hc10
  have e : decide (l = k) = false := decide_eq_false (fun h => by rw [h] at hc10; exact hc10 rfl)
  refine QwR (qq hS (Qab rfl) (QoN (wpIn_ret ?_)))
  refine thenR ?_
  refine ret1 results15 (qd (v := .bool _) rfl) ?_
  rw [e]; exact ⟨rfl, hS.nil⟩
 ·
  intro hc10
  try simp only [zA, zO, zN, zI, zF, zM, zT, zU] at hc10
  have hlen : l.length = k.length := by omega
  refine wpIn_skip (thenN (wpIn_seq (QwR (qq hS (Qai rfl) (QoN ?_)))))
  refine wpIn_block ?_
  refine loop (fun (i : Nat) σ w => okS σ [(0, .slice ad l.length cap), (1, .slice bd k.length capb), (5, .int .i64 i)] ∧ St [] w0 I0 I0 w [] ∧ i ≤ l.length ∧ ∀ j, j < i → l[j]? = k[j]?) (fun i => l.length - i) (0) ?_ ?_
  ·
   exact ⟨⟨rfl, rfl, rfl, trivial⟩, hS.sel [], by simp, fun j h => absurd h (Nat.not_lt_zero j)⟩
  ·
   rintro i σ w_l ⟨hs, hS, hi0, hall⟩
   rw [← qj hs]; clear hs
   refine wpIn_seq (QwR (qq hS (Qmi rfl) (qq hS (qb _) ?_)))
   refine qq hS (qo rfl underlying42 hl rfl) ?_
   refine qq hS (g_lss rfl rfl) ?_
   refine QoN ?_
   refine qh rfl ?_ ?_
   ·
    intro hc14
    try simp only [zA, zO, zN, zI, zF, zM, zT, zU] at hc14
    obtain ⟨r, hri⟩ : ∃ r, l[i]? = some r := ⟨_, List.getElem?_eq_getElem (by omega)⟩
    obtain ⟨s, hsi⟩ : ∃ r, k[i]? = some r := ⟨_, List.getElem?_eq_getElem (by omega)⟩
    have hrA := hl.at hri
    have hsA := hk.at hsi
    refine wpIn_skip (thenN (wpIn_seq (wpIn_block (wpIn_seq ?_))))
    refine draw (.cons 0 .pure (.cons 1 .pure (.cons 2 .pure (.cons 3 .held (.cons 4 .pure (.cons 5 .pure (.cons 6 .pure (.cons 7 .held (.cons 8 .pure .nil))))))))) mixed (by kernel_rfl) hS ?_
    intro w_1 hS
    refine sp rfl (qb _) ?_
    refine sp rfl (Qmi rfl) ?_
    refine sp rfl (g_ixI underlying42 sizeOf55 hl rfl rfl (by omega) (by omega)) ?_
    refine sh rfl (g_ldE (us := [.int .i64 _, .int .i64 _]) sizeOf55 isAgg55 hrA rfl rfl rfl) ?_
    refine sp rfl (qb _) ?_
    refine sp rfl (Qmi rfl) ?_
    refine sp rfl (g_ixI underlying42 sizeOf55 hk rfl rfl (by omega) (by omega)) ?_
    refine sh rfl (g_ldE (us := [.int .i64 _, .int .i64 _]) sizeOf55 isAgg55 hsA rfl rfl rfl) ?_
    refine sp rfl (neqRg r s rfl rfl) ?_
    refine sn (thenN ?_)
    refine qh rfl ?_ ?_
    ·
     intro hc25
     have e : decide (l = k) = false := decide_eq_false (fun h => by
      subst h
      rw [hri] at hsi
      obtain rfl := Option.some.inj hsi
      rw [rgEq_iff.2 rfl] at hc25; cases hc25)
     refine QwR (qq hS (Qab rfl) (QoN (wpIn_ret ?_)))
     refine blkR (thenR (thenR (blkR (thenR ?_))))
     refine ret1 results15 (qd (v := .bool _) rfl) ?_
     rw [e]; exact ⟨rfl, hS.nil⟩
    ·
     intro hc25
     have hrs : l[i]? = k[i]? := by rw [hri, hsi, (rgEq_iff (a := r) (b := s)).1 (by simpa using hc25)]
     refine wpIn_skip (blkN (thenN (reg (qq hS (Qmi rfl) ?_))))
     refine qq hS (g_add rfl rfl (by omega) (by omega)) ?_
     refine qq hS (Qai rfl) ?_
     exact ⟨i + 1, _, rfl, ⟨⟨rfl, rfl, rfl, trivial⟩, hS.sel [], by omega, fun j h => (Nat.lt_succ_iff_lt_or_eq.1 h).elim (hall j) (fun e => by rw [e]; exact hrs)⟩, by omega⟩
   ·
    intro hc14
    try simp only [zA, zO, zN, zI, zF, zM, zT, zU] at hc14
    have hi : i = l.length := by omega
    have e : decide (l = k) = true := decide_eq_true (by
     apply List.ext_getElem?
     intro j
     by_cases hj : j < i
     · exact hall j hj
     · rw [List.getElem?_eq_none (by omega), List.getElem?_eq_none (by omega)])
    refine wpIn_exit ?_
    refine thenE (thenE (blkE ?_))
    refine thenN (QwR (qq hS (Qab rfl) (QoN (wpIn_ret ?_))))
    refine ret1 results15 (qd (v := .bool _) rfl) ?_
    rw [e]; exact ⟨rfl, hS.nil⟩
set_option maxHeartbeats 1000000 in
theorem lose_c (i : Int) (cb a0 : Nat) (ao : Option Addr) (R : List (Int × Int)) (XX : List Nat) (w0 : World) (I0 : Imm) (hi : 0 ≤ i ∧ i ≤ 65536) (hR : R.length ≤ 65536) (hlb0 : 0 < R.length → 0 ≤ (lastR R).2 ∧ (lastR R).2 ≤ 4294967296) (hS0 : St XX w0 I0 I0 w0 [.row (.slice ao R.length a0) 55 2 R.length (flat rgC R), .cel cb 42 [.slice ao R.length a0]]) :
 Ctr prog 35 [.int .i64 i, .pointer (some ⟨cb, 0, none⟩)] w0 (fun v w' => v = .tuple #[] ∧ ∃ a c, St XX w0 I0 I0 w' [.row (.slice a (extR R i).length c) 55 2 (extR R i).length (flat rgC (extR R i)), .cel cb 42 [.slice a (extR R i).length c]]) := by
 refine fn (n := 34) func35 rfl rfl rfl ?_
 have hS := hS0
 refine wpIn_seq (QwR ?_)
 refine qq hS (qc 1 isAgg42 rfl rfl rfl) ?_
 refine qq hS (vO 0 rfl underlying42 rfl rfl) ?_
 refine qq hS (Qai rfl) (QoN (wpIn_seq ?_))
 refine (Nat.eq_zero_or_pos R.length).elim (fun hz => ?_) (fun hz => ?_)
 ·
  have he := yv (R := R) (i := i) (fun h => by omega)
  refine reg (qq hS (Qmi rfl) ?_)
  refine qq hS (g_gtF rfl rfl (by omega)) ?_
  refine qq hS (Qmb rfl) ?_
  refine qsf rfl rfl rfl ?_
  refine qsf rfl rfl rfl ?_
  refine qsf rfl rfl rfl ?_
  refine qsf rfl rfl rfl ?_
  refine qsf rfl rfl rfl ?_
  refine qsf rfl rfl rfl ?_
  refine qsf rfl rfl rfl ?_
  refine qsf rfl rfl rfl ?_
  refine qq hS (g_and (b := false) rfl rfl (fun h => by cases h)) ?_
  refine QoN ?_
  refine jb (rfl) ?_
  refine wpIn_skip (thenN (reg ?_))
  refine qq hS (qc 1 isAgg42 rfl rfl rfl) ?_
  refine qq hS (Qmi rfl) (qq hS (Qmi rfl) ?_)
  refine qq hS (g_add rfl rfl (by omega) (by omega)) ?_
  refine qq hS (qm (pl := [(0, 1), (1, 1)]) (cs := [.int .i64 _, .int .i64 _]) zeroValue55 underlying55 (fun w => by simp [sizeOf3]) (mp (v := .int .i64 _) rfl (mp (v := .int .i64 _) rfl mp0)) rfl) ?_
  refine qe (d_lit (vs := [.agg #[.int .i64 _, .int .i64 _]]) (cs := [.int .i64 _, .int .i64 _]) hS underlying42 sizeOf55 zeroValue55 rfl rfl rfl rfl (fun v hv => by simp only [List.mem_cons, List.not_mem_nil, or_false] at hv; subst hv; rfl) rfl) ?_
  clear hS
  rintro _ w_1 ⟨b_1, rfl, hS⟩
  refine qe (qt 1 0 hS rfl underlying42 info55 rfl rfl rfl rfl rfl rfl rfl rfl (by omega) (by omega)) ?_
  clear hS
  rintro _ w_2 ⟨a33, p33, rfl, hS⟩
  refine qe (qg 2 hS sizeOf42 rfl rfl rfl (vs := [.slice _ _ _]) rfl rfl rfl (Nat.le_of_ble_eq_true rfl) (cs' := [_]) rfl) ?_
  clear hS
  rintro _ w_3 ⟨rfl, hS⟩
  refine qx ?_
  refine end0 results35  ?_
  refine ⟨rfl, a33, p33, ?_⟩
  rw [he, List.length_append, qp, qA]
  exact hS.sel [false, true, true]
 ·
  have hlast0 : R[R.length - 1]? = some (lastR R) := by rw [← List.getLast?_eq_getElem?]; exact ju hz
  have hlast : R[(((R.length : Int) - 1).toNat)]? = some (lastR R) := by rw [show (((R.length : Int) - 1).toNat) = R.length - 1 by omega]; exact hlast0
  have hc14 : (flat rgC R)[(((R.length : Int) - 1).toNat) * 2 + 1]? = some (.int .i64 (lastR R).2) := by rw [show (((R.length : Int) - 1).toNat) = R.length - 1 by omega]; exact (qJ kT R (R.length - 1) (lastR R) hlast0 1 _ rfl)
  have hlb : 0 ≤ (lastR R).2 ∧ (lastR R).2 ≤ 4294967296 := hlb0 hz
  refine reg (qq hS (Qmi rfl) ?_)
  refine qq hS (g_gtTK rfl rfl (by omega)) ?_
  refine qq hS (Qmb rfl) ?_
  refine qqs rfl rfl hS (qc 1 isAgg42 rfl rfl rfl) ?_
  refine qqs rfl rfl hS (Qmi rfl) ?_
  refine qqs rfl rfl hS (g_sub rfl rfl (by omega) (by omega)) ?_
  refine qqs rfl rfl hS (g_ixR 0 underlying42 sizeOf55 rfl rfl rfl (by omega) (by omega)) ?_
  refine qqs rfl rfl hS (qG (c' := 1) underlying55 rfl sizeOf3 rfl rfl rfl) ?_
  refine qqs rfl rfl hS (yK 0 isAgg3 rfl rfl hc14) ?_
  refine qqs rfl rfl hS (Qmi rfl) ?_
  refine qqs rfl rfl hS (g_eql rfl rfl) ?_
  refine qq hS (g_and rfl rfl (fun _ => rfl)) ?_
  refine QoN ?_
  refine qh rfl ?_ ?_
  ·
   intro hc17
   try simp only [zA, zO, zN, zI, zF, zM, zT, zU] at hc17
   have he := (extR_set hz hc17.2).1
   rw [← hc17.2] at he
   refine QwR ?_
   refine qq hS (qc 1 isAgg42 rfl rfl rfl) ?_
   refine qq hS (Qmi rfl) ?_
   refine qq hS (g_sub rfl rfl (by omega) (by omega)) ?_
   refine qq hS (g_ixR 0 underlying42 sizeOf55 rfl rfl rfl (by omega) (by omega)) ?_
   refine qq hS (qG (c' := 1) underlying55 rfl sizeOf3 rfl rfl rfl) ?_
   refine qq hS (yK 0 isAgg3 rfl rfl hc14) ?_
   refine qq hS (g_add rfl rfl (by omega) (by omega)) ?_
   refine qq hS (g_ixR 0 underlying42 sizeOf55 rfl rfl rfl (by omega) (by omega)) ?_
   refine qq hS (qG (c' := 1) underlying55 rfl sizeOf3 rfl rfl rfl) ?_
   refine qe (jg 0 kT ((lastR R).1, (lastR R).2 + 1) hS rfl hlast sizeOf3 rfl rfl rfl (vs := [.int .i64 _]) rfl rfl rfl rfl rfl) ?_
   clear hS
   rintro _ w_4 ⟨rfl, hS⟩
   refine QoN (wpIn_ret ?_)
   refine thenR ?_
   refine ret0 results35  ?_
   refine ⟨rfl, ao, a0, ?_⟩
   rw [← hc17.2, he, List.length_set, ← show (((R.length : Int) - 1).toNat) = R.length - 1 by omega]
   exact hS.sel [true, true]
  ·
   intro hc17
   try simp only [zA, zO, zN, zI, zF, zM, zT, zU] at hc17
   have he := yv (R := R) (i := i) (fun _ => hc17 trivial)
   refine wpIn_skip (thenN (reg ?_))
   refine qq hS (qc 1 isAgg42 rfl rfl rfl) ?_
   refine qq hS (Qmi rfl) (qq hS (Qmi rfl) ?_)
   refine qq hS (g_add rfl rfl (by omega) (by omega)) ?_
   refine qq hS (qm (pl := [(0, 1), (1, 1)]) (cs := [.int .i64 _, .int .i64 _]) zeroValue55 underlying55 (fun w => by simp [sizeOf3]) (mp (v := .int .i64 _) rfl (mp (v := .int .i64 _) rfl mp0)) rfl) ?_
   refine qe (d_lit (vs := [.agg #[.int .i64 _, .int .i64 _]]) (cs := [.int .i64 _, .int .i64 _]) hS underlying42 sizeOf55 zeroValue55 rfl rfl rfl rfl (fun v hv => by simp only [List.mem_cons, List.not_mem_nil, or_false] at hv; subst hv; rfl) rfl) ?_
   clear hS
   rintro _ w_5 ⟨b_5, rfl, hS⟩
   refine qe (qt 1 0 hS rfl underlying42 info55 rfl rfl rfl rfl rfl rfl rfl rfl (by omega) (by omega)) ?_
   clear hS
   rintro _ w_6 ⟨a33, p33, rfl, hS⟩
   refine qe (qg 2 hS sizeOf42 rfl rfl rfl (vs := [.slice _ _ _]) rfl rfl rfl (Nat.le_of_ble_eq_true rfl) (cs' := [_]) rfl) ?_
   clear hS
   rintro _ w_7 ⟨rfl, hS⟩
   refine qx ?_
   refine end0 results35  ?_
   refine ⟨rfl, a33, p33, ?_⟩
   rw [he, List.length_append, qp, qA]
   exact hS.sel [false, true, true]
set_option maxHeartbeats 1000000 in
theorem vK (p : PatL) (ad : Option Addr) (m cap : Nat) (R : List (Int × Int)) (e : Int) (w0 : World) (I0 : Imm) (hI : Sat I0 w0) (hops : ROps I0 (.slice ad m cap) p.ops) (hp : p.wf) (he : lostP p = (R, e)) :
 Ctr prog 12 [.agg #[.bool p.lifted, .int .i64 p.in_, .int .i64 p.out, .slice ad m cap]] w0 (fun v w' => ∃ I' a c, v = .tuple #[.slice a R.length c, .int .i64 e] ∧ Ext w0 I0 w' I' ∧ RRgs I' (.slice a R.length c) R) := by
 have hlA := jf p
 unfold lostP at he
 obtain ⟨A, eA, hA⟩ : ∃ A e, symbolsP p = (A, e) := ⟨_, _, rfl⟩
 rw [hA] at he hlA
 dsimp only at he hlA
 refine fn (n := 41) func12 rfl rfl rfl ?_
 have hS := St.start hI
 refine QwR ?_
 refine qe (d_box (cs := [.bool _, .int .i64 _, .int .i64 _, .slice _ _ _]) hS rfl) ?_
 clear hS
 rintro _ w_1 ⟨b1, rfl, hS⟩
 refine qq hS (qf _) (qq hS (Qai rfl) (QoR ?_))
 refine qq hS (g_ldO 0 (vs := [.bool _, .int .i64 _, .int .i64 _, .slice _ _ _]) sizeOf31 isAgg31 rfl rfl rfl rfl) ?_
 refine qe (qi call25 rfl (ke p _ _ _ A eA _ _ hS.imm hops hp hA)) ?_
 rintro _ w_2 ⟨I_f, a14, c14, rfl, hE, h14⟩
 replace hS := hS.callE hE
 replace hops := hops.mono hE.ext
 refine qq hS (qb _) ?_
 refine qq hS (ql rfl rfl) ?_
 refine qq hS (Qxi rfl rfl) ?_
 refine qq hS (qf _) (qq hS (Qai rfl) (QoN (wpIn_seq (QwR (qq hS (Qmi rfl) ?_)))))
 refine qq hS (g_neq rfl rfl) ?_
 refine QoN ?_
 refine qh rfl ?_ ?_
 ·
  intro hc18
  try simp only [zA, zO, zN, zI, zF, zM, zT, zU] at hc18
  rw [if_pos hc18] at he
  obtain ⟨he1, he2⟩ := Prod.mk.inj he
  subst he1
  subst he2
  refine QwR (qq hS (Qmi rfl) (qq hS (qf _) (qq hS (Qai rfl) (QoN (wpIn_ret ?_)))))
  refine thenR ?_
  refine ret2 results12 (qd rfl) (qd (v := .int .i64 _) rfl) ?_
  exact ⟨_, none, 0, rfl, hS.nil, RFl.nil⟩
 ·
  intro hc18
  try simp only [zA, zO, zN, zI, zF, zM, zT, zU] at hc18
  rw [if_neg (by simp [hc18])] at he
  obtain ⟨he1, he2⟩ := Prod.mk.inj he
  subst he2
  have hck : (checkP p).2 = 0 := (symbolsP_ok' (by rw [hA]; exact hc18)).1
  obtain ⟨k1, k2, k3, k4, k5, k6, k7⟩ := qV hck
  obtain ⟨N, hN⟩ : ∃ N : Nat, p.in_.toNat = N := ⟨_, rfl⟩
  rw [hN] at he1
  refine wpIn_skip (thenN (QwR (qq hS (qb _) ?_)))
  refine qe (qi call28 rfl (ve _ _ A _ _ hS.imm h14)) ?_
  rintro _ w_3 ⟨I_f, b21, rfl, hE, h21⟩
  replace hS := hS.callE hE
  replace hops := hops.mono hE.ext
  replace h14 := h14.mono hE.ext
  refine qq hS (qf _) (QoR ?_)
  refine qe (qk (cs := [.slice _ _ _]) hS zeroValue42 rfl) ?_
  clear hS
  rintro _ w_4 ⟨b7, rfl, hS⟩
  refine QoR ?_
  refine qq hS (jv ml0 (ml rfl ml0)) ?_
  refine qq hS (qf _) (QoN (wpIn_seq (QwR ?_)))
  refine qq hS (qa (o' := 1) underlying31 rfl sizeOf3 rfl rfl rfl) ?_
  refine qq hS (qc 1 isAgg3 rfl rfl rfl) ?_
  refine qq hS (Qmi rfl) (QoN (wpIn_block ?_))
  refine loop (fun (x : Nat × Option Addr × Nat) σ w => okS σ [(6, .map (some b21)), (7, .pointer (some ⟨b7, 0, none⟩)), (8, .func (.func 35) #[] #[.pointer (some ⟨b7, 0, none⟩)]), (24, .int .i64 p.in_), (25, .int .i64 x.1)] ∧ ∃ I, St [] w0 I0 I w [.row (.slice x.2.1 (rngs x.1 (fun j => (kept A j).isNone)).length x.2.2) 55 2 (rngs x.1 (fun j => (kept A j).isNone)).length (flat rgC (rngs x.1 (fun j => (kept A j).isNone))), .cel b7 42 [.slice x.2.1 (rngs x.1 (fun j => (kept A j).isNone)).length x.2.2], .cel b1 31 [.bool p.lifted, .int .i64 p.in_, .int .i64 p.out, .slice ad m cap]] ∧ x.1 ≤ N ∧ RMap I b21 (keptUp A A.length)) (fun x => N - x.1) ((0, none, 0)) ?_ ?_
  ·
   exact ⟨⟨rfl, rfl, rfl, rfl, rfl, trivial⟩, _, (hS.sel [true, true]).nilRow _ _, by dsimp only; omega, h21⟩
  ·
   rintro ⟨k, a, c⟩ σ w_l ⟨hs, I, hS, hk0, h21⟩
   dsimp only at hs hS hk0 ⊢
   rw [← qj hs]; clear hs
   refine QwR ?_
   refine qq hS (g_lss rfl rfl) ?_
   refine QoN (wpIn_seq ?_)
   refine qh rfl ?_ ?_
   ·
    intro hc26
    try simp only [zA, zO, zN, zI, zF, zM, zT, zU] at hc26
    have hrl : (rngs k (fun j => (kept A j).isNone)).length ≤ 65536 := by have := rngL_len (plc k (fun j => (kept A j).isNone)); have h2 : (plc k (fun j => (kept A j).isNone)).length ≤ k := (by unfold plc; exact Nat.le_trans (List.length_filter_le _ _) (by simp)); unfold rngs; omega
    have hrb : 0 < (rngs k (fun j => (kept A j).isNone)).length → 0 ≤ (lastR (rngs k (fun j => (kept A j).isNone))).2 ∧ (lastR (rngs k (fun j => (kept A j).isNone))).2 ≤ 4294967296 := fun h => by
     have h1 := ju h
     have h2 := (vy (fun j => (kept A j).isNone) k).each _ (List.mem_of_getLast? h1)
     omega
    have hsu := yF k (fun j => (kept A j).isNone)
    refine wpIn_skip (thenN (wpIn_seq (wpIn_block (QwR (qq hS (Qmi rfl) ?_)))))
    refine qq hS (Qai rfl) (QoR (qq hS (qb _) (qq hS (Qmi rfl) ?_)))
    refine qq hS (vF underlying77 underlying3 zeroValue3 h21.hold rfl rfl) ?_
    refine qq hS (qb _) ?_
    refine qq hS (Qxi rfl rfl) ?_
    refine qq hS (ql (v := .bool _) rfl rfl) ?_
    refine qq hS (Qai rfl) (qq hS (Qab rfl) (QoR (qq hS (Qmb rfl) ?_)))
    refine qq hS (g_not rfl) ?_
    refine QoN ?_
    refine qh rfl ?_ ?_
    ·
     intro hc35
     have hfk : (kept A (k : Int)).isNone = true := by unfold kept; cases h : lookI (keptUp A A.length) (k : Int) with
      | none => rfl
      | some j => rw [h] at hc35; cases hc35
     rw [if_pos hfk] at hsu
     refine reg (qq hS (qb _) (qq hS (Qmi rfl) ?_))
     refine qe (zL call35 rfl rfl (lose_c (k : Int) b7 c a (rngs k (fun j => (kept A j).isNone)) _ _ _ (by omega) hrl hrb (St.ownL (hS.ord [0, 1, 2])))) ?_
     rintro _ w_5 ⟨rfl, a38, c38, hE⟩
     replace hS := St.callL (hS.ord [0, 1, 2]) hE
     refine qx (blkN (thenN ?_))
     refine reg ?_
     refine qq hS (g_add rfl rfl (by omega) (by omega)) ?_
     refine qq hS (Qmi rfl) ?_
     first
      | (refine ⟨(k + 1, a, c), _, rfl, ⟨⟨rfl, rfl, rfl, rfl, rfl, trivial⟩, _, ?_, by dsimp only; omega, h21⟩, by dsimp only; omega⟩
         dsimp only
         rw [hsu]
         exact hS.sel [true, true, true])
      | (refine ⟨(k + 1, a38, c38), _, rfl, ⟨⟨rfl, rfl, rfl, rfl, rfl, trivial⟩, _, ?_, by dsimp only; omega, h21⟩, by dsimp only; omega⟩
         dsimp only
         rw [hsu]
         exact hS.sel [true, true, true])
    ·
     intro hc35
     have hfk : (kept A (k : Int)).isNone = false := by unfold kept; cases h : lookI (keptUp A A.length) (k : Int) with
      | none => rw [h] at hc35; cases hc35
      | some j => rfl
     rw [hfk] at hsu
     replace hsu : (rngs (k + 1) (fun j => (kept A j).isNone)) = (rngs k (fun j => (kept A j).isNone)) := hsu
     refine wpIn_skip (blkN (thenN (reg ?_)))
     refine qq hS (g_add rfl rfl (by omega) (by omega)) ?_
     refine qq hS (Qmi rfl) ?_
     first
      | (refine ⟨(k + 1, a, c), _, rfl, ⟨⟨rfl, rfl, rfl, rfl, rfl, trivial⟩, _, ?_, by dsimp only; omega, h21⟩, by dsimp only; omega⟩
         dsimp only
         rw [hsu]
         exact hS.sel [true, true, true])
      | (refine ⟨(k + 1, a38, c38), _, rfl, ⟨⟨rfl, rfl, rfl, rfl, rfl, trivial⟩, _, ?_, by dsimp only; omega, h21⟩, by dsimp only; omega⟩
         dsimp only
         rw [hsu]
         exact hS.sel [true, true, true])
   ·
    intro hc26
    try simp only [zA, zO, zN, zI, zF, zM, zT, zU] at hc26
    obtain rfl : k = N := by omega
    rw [he1] at hS
    refine wpIn_exit ?_
    refine thenE (thenE (blkE ?_))
    refine thenN (QwR ?_)
    refine qq hS (qc 1 isAgg42 rfl rfl rfl) ?_
    refine qq hS (qf _) (qq hS (Qai rfl) (QoN (wpIn_ret ?_)))
    refine ret2 results12 (qd rfl) (qd (v := .int .i64 _) rfl) ?_
    obtain ⟨I1, hE1, hI1, hd1⟩ := qE kT (xs := R) (hS.sel [true, false, false]) rfl
    exact ⟨I1, a, c, rfl, hE1, hd1⟩
end Go.Proofs.YtaklmbhfmpdinaaGreat
