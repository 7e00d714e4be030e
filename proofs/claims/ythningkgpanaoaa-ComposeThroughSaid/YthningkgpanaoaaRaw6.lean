/- The functions of package inlayref06 that make patches and symbols of descriptions: what they compute. Conditions: numbers within bounds. -/
import Derived.Test.YthningkgpanaoaaRef6s
namespace Go.Proofs.Ythningkgpanaoaa
open Go Go.RowKit Go.Inl
set_option linter.unusedSimpArgs false
set_option linter.unusedVariables false
structure Q4 where
  a : Int
  b : Int
  c : Int
  d : Int
def q4C (q : Q4) : List Value := [.int .u8 q.a, .int .u8 q.b, .int .u8 q.c, .int .u8 q.d]
def q4V (q : Q4) : Value := .agg #[.int .u8 q.a, .int .u8 q.b, .int .u8 q.c, .int .u8 q.d]
theorem q4C_len (q : Q4) : (q4C q).length = 4 := rfl
def Q4.wf (q : Q4) : Prop := (0 ≤ q.a ∧ q.a ≤ 255) ∧ (0 ≤ q.b ∧ q.b ≤ 255) ∧ (0 ≤ q.c ∧ q.c ≤ 255) ∧ (0 ≤ q.d ∧ q.d ≤ 255)
structure Q2 where
  a : Int
  b : Int
def q2C (q : Q2) : List Value := [.int .u8 q.a, .int .u8 q.b]
theorem q2C_len (q : Q2) : (q2C q).length = 2 := rfl
def Q2.wf (q : Q2) : Prop := (0 ≤ q.a ∧ q.a ≤ 255) ∧ (0 ≤ q.b ∧ q.b ≤ 255)
def kindRaw (q : Q4) (size : Int) : Int := if 1 + q.a % 4 ≤ 2 ∧ size = 0 then 4 else 1 + q.a % 4
def fromRaw (q : Q4) (size : Int) : Int := if 1 + q.a % 4 ≤ 2 ∧ size ≠ 0 then q.b % size else 0
def lenRaw (q : Q4) (size : Int) : Int := if 1 + q.a % 4 ≤ 2 ∧ size ≠ 0 then 1 + q.c % (size - q.b % size) % 5 else 1 + q.c % 5
def bRaw (q : Q4) (size : Int) : Int := if kindRaw q size = 3 then q.d else 0
def datRaw (q : Q4) (i : Nat) : Int := IntKind.u8.wrap (q.d * ((i : Int) + q.a / 4))
def opRaw (q : Q4) (size : Int) : OpL :=
  { kind := kindRaw q size, from_ := fromRaw q size, len := lenRaw q size, b := bRaw q size, data := if kindRaw q size = 2 ∨ kindRaw q size = 4 then (List.range (lenRaw q size).toNat).map (datRaw q) else [] }
theorem lenRaw_bd {q : Q4} {size : Int} (hq : q.wf) (hs : 0 ≤ size) : 1 ≤ lenRaw q size ∧ lenRaw q size ≤ 5 := by
  unfold lenRaw
  split <;> omega
theorem kindRaw_bd {q : Q4} {size : Int} (hq : q.wf) : 1 ≤ kindRaw q size ∧ kindRaw q size ≤ 4 := by
  unfold kindRaw
  split <;> omega
theorem fromRaw_bd {q : Q4} {size : Int} (hq : q.wf) (hs : 0 ≤ size) : 0 ≤ fromRaw q size ∧ fromRaw q size ≤ size := by
  unfold fromRaw
  split
  · rename_i h
    have h1 := Int.emod_nonneg q.b h.2
    have h2 := Int.emod_lt_of_pos q.b (show 0 < size by omega)
    omega
  · omega
theorem datRaw_bd (q : Q4) (i : Nat) : 0 ≤ datRaw q i ∧ datRaw q i ≤ 255 := by
  unfold datRaw
  rw [IntKind.wrap_u8]
  omega
theorem opRaw_wf {q : Q4} {size : Int} (hq : q.wf) (hs : 0 ≤ size ∧ size ≤ 65536) : (opRaw q size).wf := by
  have h1 := lenRaw_bd hq hs.1
  have h2 := kindRaw_bd (size := size) hq
  have h3 := fromRaw_bd hq hs.1
  obtain ⟨⟨a1, a2⟩, ⟨b1, b2⟩, ⟨c1, c2⟩, ⟨d1, d2⟩⟩ := hq
  refine ⟨⟨by show _ ≤ kindRaw q size; omega, by show kindRaw q size ≤ _; omega⟩, ⟨by show _ ≤ fromRaw q size; omega, by show fromRaw q size ≤ _; omega⟩, ⟨by show _ ≤ lenRaw q size; omega, by show lenRaw q size ≤ _; omega⟩, ?_, ?_⟩
  · show 0 ≤ bRaw q size ∧ bRaw q size ≤ 255
    unfold bRaw; split <;> omega
  · intro y hy
    unfold opRaw at hy
    dsimp only at hy
    split at hy
    · obtain ⟨i, _, rfl⟩ := List.mem_map.1 hy; exact datRaw_bd q i
    · simp at hy
def sumL : List OpL → Int
  | [] => 0
  | x :: l => x.len + sumL l
theorem sumL_snoc : ∀ (l : List OpL) (x : OpL), sumL (l ++ [x]) = sumL l + x.len
  | [], x => by simp [sumL]
  | y :: l, x => by rw [List.cons_append, sumL, sumL, sumL_snoc l x]; omega
def opsRaw (l : List Q4) (size : Int) : List OpL := (l.take 6).map fun q => opRaw q size
def madeP (l : List Q4) (size : Int) : PatL := ⟨false, size, sumL (opsRaw l size), opsRaw l size⟩

def rawSym (out : List Sym) (q : Q2) (size : Int) : Sym :=
  let old := decide (0 < q.a % 4) && decide (0 < size)
  let prev := out.getLast?.getD ⟨false, 0, 0⟩
  let at0 := if old then q.b % size else 0
  ⟨old, if (old && decide (0 < out.length)) && prev.old && decide (1 < q.a % 4) && decide (prev.at_ + 1 < size) then prev.at_ + 1 else at0, q.b % 3⟩
def rawGo (size : Int) (l : List Q2) : List Sym := l.foldl (fun out q => out ++ [rawSym out q size]) []
theorem rawGo_snoc (size : Int) (l : List Q2) (q : Q2) : rawGo size (l ++ [q]) = rawGo size l ++ [rawSym (rawGo size l) q size] := by simp [rawGo]
theorem snocInd {α : Type} {m : List α → Prop} (h0 : m []) (h1 : ∀ l x, m l → m (l ++ [x])) (l : List α) : m l := by
  have h : ∀ r : List α, m r.reverse := by
    intro r
    induction r with
    | nil => exact h0
    | cons x r ih => rw [List.reverse_cons]; exact h1 _ _ ih
  have := h l.reverse
  rwa [List.reverse_reverse] at this
theorem rawGo_length (size : Int) (l : List Q2) : (rawGo size l).length = l.length := by
  induction l using snocInd with
  | h0 => rfl
  | h1 l x ih => rw [rawGo_snoc, List.length_append, List.length_append, ih]; rfl
/-- A made symbol is right. -/
def _root_.Go.Inl.Sym.fit (s : Sym) (size : Int) : Prop := (s.old = true → 0 ≤ s.at_ ∧ s.at_ < size) ∧ (s.old = false → s.at_ = 0) ∧ 0 ≤ s.b ∧ s.b ≤ 2
theorem rawSym_fit {out : List Sym} {q : Q2} {size : Int} (hq : q.wf) (h : ∀ s ∈ out, s.fit size) : (rawSym out q size).fit size := by
  have hp : out = [] ∨ ∃ p, out.getLast? = some p ∧ p.fit size := by
    cases e : out.getLast? with
    | none => exact .inl (List.getLast?_eq_none_iff.1 e)
    | some p => exact .inr ⟨p, rfl, h p (List.mem_of_getLast? e)⟩
  obtain ⟨⟨a1, a2⟩, b1, b2⟩ := hq
  refine ⟨fun ho => ?_, fun ho => ?_, by show 0 ≤ q.b % 3; omega, by show q.b % 3 ≤ 2; omega⟩
  · simp only [rawSym, Bool.and_eq_true, decide_eq_true_eq] at ho ⊢
    split
    · rename_i hc
      rcases hp with rfl | ⟨p, hp, hf⟩
      · simp at hc
      · rw [hp] at hc ⊢
        simp only [Option.getD_some] at hc ⊢
        have := hf.1 hc.1.1.2
        omega
    · exact ⟨Int.emod_nonneg _ (by omega), Int.emod_lt_of_pos _ ho.2⟩
  · simp only [rawSym] at ho ⊢
    rw [ho]
    simp
theorem rawGo_fit {size : Int} (l : List Q2) (hl : ∀ q ∈ l, q.wf) : ∀ s ∈ rawGo size l, s.fit size := by
  revert hl
  induction l using snocInd with
  | h0 => intro _ s hs; simp [rawGo] at hs
  | h1 l x ih =>
    intro hl s hs
    have ih' := ih fun q hq => hl q (by simp [hq])
    rw [rawGo_snoc] at hs
    rcases List.mem_append.1 hs with hs | hs
    · exact ih' s hs
    · simp only [List.mem_singleton] at hs
      subst hs
      exact rawSym_fit (hl x (by simp)) ih'
def symsRaw (l : List Q2) (size : Int) : List Sym := rawGo size (l.take 20)
def oldRaw (q : Q2) (size : Int) : Bool := decide (0 < q.a % 4) && decide (0 < size)
theorem rawPrev (size : Int) (l : List Q2) (k : Nat) (hk : k ≤ l.length) : 0 < k → (rawGo size (l.take k))[((k : Int) - 1).toNat]? = some ((rawGo size (l.take k)).getLast?.getD ⟨false, 0, 0⟩) := by
  intro h
  have hlen : (rawGo size (l.take k)).length = k := by rw [rawGo_length, List.length_take]; omega
  rw [List.getLast?_eq_getElem?, hlen, show ((k : Int) - 1).toNat = k - 1 by omega, List.getElem?_eq_getElem (by omega)]
  rfl
theorem rawSym_v {out : List Sym} {q : Q2} {size : Int} {prev : Sym} {k : Nat} (hl : out.length = k) (hprev : out.getLast?.getD ⟨false, 0, 0⟩ = prev) : rawSym out q size =
    ⟨oldRaw q size, if ((((oldRaw q size && decide (0 < (k : Int))) && prev.old) && decide (1 < q.a % 4)) && decide (prev.at_ + 1 < size)) = true then prev.at_ + 1 else if oldRaw q size = true then q.b % size else 0, q.b % 3⟩ := by
  subst hprev; subst hl
  have h : decide (0 < (out.length : Int)) = decide (0 < out.length) := by
    rw [Bool.eq_iff_iff, decide_eq_true_iff, decide_eq_true_iff]; omega
  rw [h]; rfl
theorem rawSym_t {out : List Sym} {q : Q2} {size : Int} {prev : Sym} {k : Nat} (hl : out.length = k) (hprev : out.getLast?.getD ⟨false, 0, 0⟩ = prev)
    (h : ((((oldRaw q size && decide (0 < (k : Int))) && prev.old) && decide (1 < q.a % 4)) && decide (prev.at_ + 1 < size)) = true) : symC (rawSym out q size) = [.bool (oldRaw q size), .int .i64 (prev.at_ + 1), .int .u8 (q.b % 3)] := by
  rw [rawSym_v hl hprev, if_pos h]; rfl
theorem rawSym_f {out : List Sym} {q : Q2} {size : Int} {prev : Sym} {k : Nat} (hl : out.length = k) (hprev : out.getLast?.getD ⟨false, 0, 0⟩ = prev)
    (h : ((((oldRaw q size && decide (0 < (k : Int))) && prev.old) && decide (1 < q.a % 4)) && decide (prev.at_ + 1 < size)) = false) : symC (rawSym out q size) = [.bool (oldRaw q size), .int .i64 (if oldRaw q size = true then q.b % size else 0), .int .u8 (q.b % 3)] := by
  rw [rawSym_v hl hprev, if_neg (by rw [h]; decide)]; rfl
structure RS where
  k : Nat
  css : List (List Value)
  a : Option Addr
  c : Nat

set_option maxHeartbeats 1000000 in
theorem opRaw_c (q : Q4) (size : Int) (w0 : World) (I0 : Imm) (hI : Sat I0 w0) (hq : q.wf) (hs0 : 0 ≤ size) (hs1 : size ≤ 65536) :
    Ctr Try.prog 51 [q4V q, .int .i64 size] w0 (fun v w' => ∃ I' ad m cap, v = opV (opRaw q size) ad m cap ∧ Ext w0 I0 w' I' ∧ RBytes I' (.slice ad m cap) (opRaw q size).data) := by
  have hlr := lenRaw_bd hq hs0
  obtain ⟨⟨qa1, qa2⟩, ⟨qb1, qb2⟩, ⟨qc1, qc2⟩, ⟨qd1, qd2⟩⟩ := hq
  refine fn (n := 79) Try.func51 rfl rfl rfl ?_
  have hS := St.start hI
  refine wp_seq ?_
  refine reg ?_
  refine qe (d_box (cs := [.int .u8 _, .int .u8 _, .int .u8 _, .int .u8 _]) hS rfl) ?_
  clear hS
  rintro _ w_1 ⟨b2, rfl, hS⟩
  refine qe (d_alloc (cs := [.int .i64 _, .int .i64 _, .int .i64 _, .int .u8 _, .slice _ _ _]) hS Try.zeroValue81 rfl) ?_
  clear hS
  rintro _ w_2 ⟨b4, rfl, hS⟩
  refine ol_nil (thenN ?_)
  refine wp_seq ?_
  refine reg ?_
  refine qq hS (g_indexArr (o' := 0) Try.underlying88 Try.sizeOf5 rfl rfl (by decide) (by decide) rfl) ?_
  refine qq hS (g_ldO1 1 Try.isAgg5 rfl rfl rfl) ?_
  refine qq hS (g_convi Try.underlying5 Try.underlying3 rfl (by omega) (by omega)) ?_
  refine qq hS (g_rem rfl rfl (by omega) (by omega)) ?_
  refine qq hS (g_add rfl rfl (by omega) (by omega)) ?_
  refine qq hS (g_indexArr (o' := 2) Try.underlying88 Try.sizeOf5 rfl rfl (by decide) (by decide) rfl) ?_
  refine qq hS (g_ldO1 1 Try.isAgg5 rfl rfl rfl) ?_
  refine qq hS (g_convi Try.underlying5 Try.underlying3 rfl (by omega) (by omega)) ?_
  refine qq hS (g_rem rfl rfl (by omega) (by omega)) ?_
  refine qq hS (g_add rfl rfl (by omega) (by omega)) ?_
  refine qq hS (g_buildv (pl := [(0, 1), (1, 1), (2, 1), (3, 1), (4, 1)]) (cs := [.int .i64 _, .int .i64 _, .int .i64 _, .int .u8 _, .slice _ _ _]) Try.zeroValue81 Try.underlying81 (fun w => by simp [Try.sizeOf3, Try.sizeOf5, Try.sizeOf62]) (mp (v := .int .i64 _) rfl (mp (v := .int .i64 _) rfl mp0)) rfl) ?_
  refine qe (d_alloc (cs := [.int .i64 _, .int .i64 _, .int .i64 _, .int .u8 _, .slice _ _ _]) hS Try.zeroValue81 rfl) ?_
  clear hS
  rintro _ w_3 ⟨b5, rfl, hS⟩
  refine qe (d_store 0 hS Try.sizeOf81 rfl rfl rfl (vs := [.int .i64 _, .int .i64 _, .int .i64 _, .int .u8 _, .slice _ _ _]) rfl rfl rfl (Nat.le_of_ble_eq_true rfl) (cs' := [_, _, _, _, _]) rfl) ?_
  clear hS
  rintro _ w_4 ⟨rfl, hS⟩
  refine ol_nil (thenN ?_)
  refine meet (fun σ w => okS σ [(1, .int .i64 size), (2, .pointer (some ⟨b2, 0, none⟩)), (4, .pointer (some ⟨b4, 0, none⟩)), (5, .pointer (some ⟨b5, 0, none⟩))] ∧ St [] w0 I0 I0 w [.cel b5 81 [.int .i64 (kindRaw q size), .int .i64 (fromRaw q size), .int .i64 (lenRaw q size), .int .u8 0, .slice none 0 0], .cel b4 81 [.int .i64 0, .int .i64 0, .int .i64 0, .int .u8 0, .slice none 0 0], .cel b2 88 [.int .u8 q.a, .int .u8 q.b, .int .u8 q.c, .int .u8 q.d]]) ?_ ?_
  ·
    refine wp_seq ?_
    refine reg ?_
    refine qq hS (g_fieldAddr (o' := 0) Try.underlying81 rfl Try.sizeOf3 rfl rfl rfl) ?_
    refine qq hS (g_ldO1 0 Try.isAgg3 rfl rfl rfl) ?_
    refine qq hS (g_leq rfl rfl) ?_
    refine ol_nil (thenN ?_)
    refine cond_s rfl ?_ ?_
    ·
      intro hc20
      simp only [decide_eq_true_eq, decide_eq_false_iff_not] at hc20
      refine wp_seq ?_
      refine reg ?_
      refine qq hS (g_movev (v := .int .i64 _) rfl) ?_
      refine qq hS (g_eql rfl rfl) ?_
      refine ol_nil (thenN ?_)
      refine cond_s rfl ?_ ?_
      ·
        intro hc22
        simp only [decide_eq_true_eq, decide_eq_false_iff_not] at hc22
        have ek : kindRaw q size = 4 := if_pos (by omega)
        have ef : fromRaw q size = 0 := if_neg (by omega)
        have el : lenRaw q size = 1 + q.c % 5 := if_neg (by omega)
        refine reg ?_
        refine qq hS (g_fieldAddr (o' := 0) Try.underlying81 rfl Try.sizeOf3 rfl rfl rfl) ?_
        refine qe (d_store 0 hS Try.sizeOf3 rfl rfl rfl (vs := [.int .i64 _]) rfl rfl rfl (Nat.le_of_ble_eq_true rfl) (cs' := [_, _, _, _, _]) rfl) ?_
        clear hS
        rintro _ w_5 ⟨rfl, hS⟩
        refine ol_nil (thenN ?_)
        refine ⟨_, rfl, ⟨rfl, rfl, rfl, rfl, trivial⟩, ?_⟩
        rw [ek, ef, el]
        exact hS.sel [true, true, true]
      ·
        intro hc22
        simp only [decide_eq_true_eq, decide_eq_false_iff_not] at hc22
        have ek : kindRaw q size = 1 + q.a % 4 := if_neg (by omega)
        have ef : fromRaw q size = q.b % size := if_pos (by omega)
        have el : lenRaw q size = 1 + q.c % (size - q.b % size) % 5 := if_pos (by omega)
        have hm1 := Int.emod_nonneg q.b (show size ≠ 0 by omega)
        have hm2 := Int.emod_lt_of_pos q.b (show 0 < size by omega)
        have hm3 := Int.emod_nonneg q.c (show size - q.b % size ≠ 0 by omega)
        have hm4 := Int.emod_lt_of_pos q.c (show 0 < size - q.b % size by omega)
        refine wp_seq ?_
        refine reg ?_
        refine qq hS (g_indexArr (o' := 1) Try.underlying88 Try.sizeOf5 rfl rfl (by decide) (by decide) rfl) ?_
        refine qq hS (g_ldO1 2 Try.isAgg5 rfl rfl rfl) ?_
        refine qq hS (g_convi Try.underlying5 Try.underlying3 rfl (by omega) (by omega)) ?_
        refine qq hS (g_movev (v := .int .i64 _) rfl) ?_
        refine qq hS (g_rem rfl rfl (by omega) (by omega)) ?_
        refine qq hS (g_fieldAddr (o' := 1) Try.underlying81 rfl Try.sizeOf3 rfl rfl rfl) ?_
        refine qe (d_store 0 hS Try.sizeOf3 rfl rfl rfl (vs := [.int .i64 _]) rfl rfl rfl (Nat.le_of_ble_eq_true rfl) (cs' := [_, _, _, _, _]) rfl) ?_
        clear hS
        rintro _ w_6 ⟨rfl, hS⟩
        refine ol_nil (thenN ?_)
        refine reg ?_
        refine qq hS (g_indexArr (o' := 2) Try.underlying88 Try.sizeOf5 rfl rfl (by decide) (by decide) rfl) ?_
        refine qq hS (g_ldO1 2 Try.isAgg5 rfl rfl rfl) ?_
        refine qq hS (g_convi Try.underlying5 Try.underlying3 rfl (by omega) (by omega)) ?_
        refine qq hS (g_movev (v := .int .i64 _) rfl) ?_
        refine qq hS (g_fieldAddr (o' := 1) Try.underlying81 rfl Try.sizeOf3 rfl rfl rfl) ?_
        refine qq hS (g_ldO1 0 Try.isAgg3 rfl rfl rfl) ?_
        refine qq hS (g_sub rfl rfl (by omega) (by omega)) ?_
        refine qq hS (g_rem rfl rfl (by omega) (by omega)) ?_
        refine qq hS (g_rem rfl rfl (by omega) (by omega)) ?_
        refine qq hS (g_add rfl rfl (by omega) (by omega)) ?_
        refine qq hS (g_fieldAddr (o' := 2) Try.underlying81 rfl Try.sizeOf3 rfl rfl rfl) ?_
        refine qe (d_store 0 hS Try.sizeOf3 rfl rfl rfl (vs := [.int .i64 _]) rfl rfl rfl (Nat.le_of_ble_eq_true rfl) (cs' := [_, _, _, _, _]) rfl) ?_
        clear hS
        rintro _ w_7 ⟨rfl, hS⟩
        refine ol_nil (thenN ?_)
        refine ⟨_, rfl, ⟨rfl, rfl, rfl, rfl, trivial⟩, ?_⟩
        rw [ek, ef, el]
        exact hS.sel [true, true, true]
    ·
      intro hc20
      simp only [decide_eq_true_eq, decide_eq_false_iff_not] at hc20
      have ek : kindRaw q size = 1 + q.a % 4 := if_neg (by omega)
      have ef : fromRaw q size = 0 := if_neg (by omega)
      have el : lenRaw q size = 1 + q.c % 5 := if_neg (by omega)
      refine wp_skip ?_
      refine thenN ?_
      refine ⟨_, rfl, ⟨rfl, rfl, rfl, rfl, trivial⟩, ?_⟩
      rw [ek, ef, el]
      exact hS.sel [true, true, true]
  ·
    rintro σ w ⟨hs, hS⟩
    rw [← upds_self hs]
    refine meet (fun σ w => okS σ [(1, .int .i64 size), (2, .pointer (some ⟨b2, 0, none⟩)), (4, .pointer (some ⟨b4, 0, none⟩)), (5, .pointer (some ⟨b5, 0, none⟩))] ∧ St [] w0 I0 I0 w [.cel b5 81 [.int .i64 (kindRaw q size), .int .i64 (fromRaw q size), .int .i64 (lenRaw q size), .int .u8 (bRaw q size), .slice none 0 0], .cel b4 81 [.int .i64 0, .int .i64 0, .int .i64 0, .int .u8 0, .slice none 0 0], .cel b2 88 [.int .u8 q.a, .int .u8 q.b, .int .u8 q.c, .int .u8 q.d]]) ?_ ?_
    ·
      refine wp_seq ?_
      refine reg ?_
      refine qq hS (g_fieldAddr (o' := 0) Try.underlying81 rfl Try.sizeOf3 rfl rfl rfl) ?_
      refine qq hS (g_ldO1 0 Try.isAgg3 rfl rfl rfl) ?_
      refine qq hS (g_eql rfl rfl) ?_
      refine ol_nil (thenN ?_)
      refine cond_s rfl ?_ ?_
      ·
        intro hc43
        simp only [decide_eq_true_eq, decide_eq_false_iff_not] at hc43
        have eb : bRaw q size = q.d := if_pos hc43
        refine reg ?_
        refine qq hS (g_indexArr (o' := 3) Try.underlying88 Try.sizeOf5 rfl rfl (by decide) (by decide) rfl) ?_
        refine qq hS (g_ldO1 2 Try.isAgg5 rfl rfl rfl) ?_
        refine qq hS (g_fieldAddr (o' := 3) Try.underlying81 rfl Try.sizeOf5 rfl rfl rfl) ?_
        refine qe (d_store 0 hS Try.sizeOf5 rfl rfl rfl (vs := [.int .u8 _]) rfl rfl rfl (Nat.le_of_ble_eq_true rfl) (cs' := [_, _, _, _, _]) rfl) ?_
        clear hS
        rintro _ w_8 ⟨rfl, hS⟩
        refine ol_nil (thenN ?_)
        refine ⟨_, rfl, ⟨rfl, rfl, rfl, rfl, trivial⟩, ?_⟩
        rw [eb]
        exact hS.sel [true, true, true]
      ·
        intro hc43
        simp only [decide_eq_true_eq, decide_eq_false_iff_not] at hc43
        have eb : bRaw q size = 0 := if_neg hc43
        refine wp_skip ?_
        refine thenN ?_
        refine ⟨_, rfl, ⟨rfl, rfl, rfl, rfl, trivial⟩, ?_⟩
        rw [eb]
        exact hS.sel [true, true, true]
    ·
      rintro σ w ⟨hs, hS⟩
      rw [← upds_self hs]
      refine wp_seq ?_
      refine wp_seq ?_
      refine reg ?_
      refine qq hS (g_assignv (v := .int .i64 _) rfl) ?_
      refine ol_nil (thenN ?_)
      refine wp_block ?_
      refine loop (fun (x : Nat × Option Addr × Nat) σ w => okS σ [(2, .pointer (some ⟨b2, 0, none⟩)), (4, .pointer (some ⟨b4, 0, none⟩)), (5, .pointer (some ⟨b5, 0, none⟩)), (6, .int .i64 x.1)] ∧ St [] w0 I0 I0 w [.row (.slice x.2.1 x.1 x.2.2) 5 1 x.1 (flat byteC ((List.range x.1).map (datRaw q))), .cel b5 81 [.int .i64 (kindRaw q size), .int .i64 (fromRaw q size), .int .i64 (lenRaw q size), .int .u8 (bRaw q size), .slice x.2.1 x.1 x.2.2], .cel b4 81 [.int .i64 0, .int .i64 0, .int .i64 0, .int .u8 0, .slice none 0 0], .cel b2 88 [.int .u8 q.a, .int .u8 q.b, .int .u8 q.c, .int .u8 q.d]] ∧ (x.1 : Int) ≤ lenRaw q size ∧ (x.1 = 0 ∨ (kindRaw q size = 2 ∨ kindRaw q size = 4))) (fun x => (lenRaw q size).toNat - x.1) ((0, none, 0)) ?_ ?_
      ·
        exact ⟨⟨rfl, rfl, rfl, rfl, trivial⟩, (hS.sel [true, true, true]).nilRow _ _, by dsimp only; omega, .inl rfl⟩
      ·
        rintro ⟨i, a, c⟩ σ w_l ⟨hs, hS, hi0, hi1⟩
        dsimp only at hs hS hi0 hi1 ⊢
        rw [← upds_self hs]; clear hs
        refine wp_seq ?_
        refine wp_seq ?_
        refine reg ?_
        refine qq hS (g_movev (v := .int .i64 _) rfl) ?_
        refine qq hS (g_fieldAddr (o' := 2) Try.underlying81 rfl Try.sizeOf3 rfl rfl rfl) ?_
        refine qq hS (g_ldO1 1 Try.isAgg3 rfl rfl rfl) ?_
        refine qq hS (g_lss rfl rfl) ?_
        refine qq hS (g_movev (v := .bool _) rfl) ?_
        refine qu rfl rfl hS (fun hg => (g_fieldAddr (o' := 0) Try.underlying81 rfl Try.sizeOf3 rfl rfl rfl)) ?_
        intro u52 hu52 hn52
        refine qu rfl rfl hS (fun hg => (g_ldO1 1 Try.isAgg3 rfl (hu52 hg) rfl)) ?_
        intro u53 hu53 hn53
        refine qu rfl rfl hS (fun hg => (g_eql (hu53 hg) rfl)) ?_
        intro u54 hu54 hn54
        refine qu rfl rfl hS (fun hg => (g_movev (hu54 hg))) ?_
        intro u55 hu55 hn55
        refine qn rfl hu55 hn55 hS (fun hg => (g_fieldAddr (o' := 0) Try.underlying81 rfl Try.sizeOf3 rfl rfl rfl)) ?_
        intro u56 hu56 hn56
        refine qn rfl hu55 hn55 hS (fun hg => (g_ldO1 1 Try.isAgg3 rfl (hu56 hg) rfl)) ?_
        intro u57 hu57 hn57
        refine qn rfl hu55 hn55 hS (fun hg => (g_eql (hu57 hg) rfl)) ?_
        intro u58 hu58 hn58
        refine qu rfl rfl hS (fun hg => (g_or (hu55 hg) rfl (fun hq => hu58 ⟨hg, hq⟩))) ?_
        intro u59 hu59 hn59
        refine qq hS (g_and rfl rfl (fun hq => hu59 hq)) ?_
        refine ol_nil (thenN ?_)
        refine cond_s rfl ?_ ?_
        ·
          intro hc60
          clear hu52 hn52 hu53 hn53 hu54 hn54 hu55 hn55 hu56 hn56 hu57 hn57 hu58 hn58 hu59 hn59
          simp only [Bool.and_eq_true, Bool.and_eq_false_iff, Bool.or_eq_true, Bool.or_eq_false_iff, decide_eq_true_eq, decide_eq_false_iff_not] at hc60
          refine wp_skip ?_
          refine thenN ?_
          refine wp_seq ?_
          refine wp_block ?_
          refine reg ?_
          refine qq hS (g_fieldAddr (o' := 4) Try.underlying81 rfl Try.sizeOf62 rfl rfl rfl) ?_
          refine qq hS (g_ldO1 1 Try.isAgg62 rfl rfl rfl) ?_
          refine qq hS (g_indexArr (o' := 3) Try.underlying88 Try.sizeOf5 rfl rfl (by decide) (by decide) rfl) ?_
          refine qq hS (g_ldO1 3 Try.isAgg5 rfl rfl rfl) ?_
          refine qq hS (g_movev (v := .int .i64 _) rfl) ?_
          refine qq hS (g_indexArr (o' := 0) Try.underlying88 Try.sizeOf5 rfl rfl (by decide) (by decide) rfl) ?_
          refine qq hS (g_ldO1 3 Try.isAgg5 rfl rfl rfl) ?_
          refine qq hS (g_convi Try.underlying5 Try.underlying3 rfl (by omega) (by omega)) ?_
          refine qq hS (g_quo rfl rfl (by omega) (by omega) (by omega)) ?_
          refine qq hS (g_add rfl rfl (by omega) (by omega)) ?_
          refine qq hS (g_convb Try.underlying3 Try.underlying5 rfl (by omega) (by omega)) ?_
          refine qq hS (g_mulw rfl rfl) ?_
          refine qe (d_lit (vs := [.int .u8 _]) (cs := [.int .u8 _]) hS Try.underlying62 Try.sizeOf5 Try.zeroValue5 rfl rfl rfl rfl (fun v hv => by simp only [List.mem_cons, List.not_mem_nil, or_false] at hv; subst hv; rfl) rfl) ?_
          clear hS
          rintro _ w_9 ⟨b_9, rfl, hS⟩
          refine qe (i_appendO 1 0 hS rfl Try.underlying62 info5 rfl rfl rfl rfl rfl rfl rfl rfl (by omega) (by omega)) ?_
          clear hS
          rintro _ w_10 ⟨a76, p76, rfl, hS⟩
          refine qq hS (g_fieldAddr (o' := 4) Try.underlying81 rfl Try.sizeOf62 rfl rfl rfl) ?_
          refine qe (d_store 2 hS Try.sizeOf62 rfl rfl rfl (vs := [.slice _ _ _]) rfl rfl rfl (Nat.le_of_ble_eq_true rfl) (cs' := [_, _, _, _, _]) rfl) ?_
          clear hS
          rintro _ w_11 ⟨rfl, hS⟩
          refine ol_nil (blkN (thenN ?_))
          refine reg ?_
          refine qq hS (g_movev (v := .int .i64 _) rfl) ?_
          refine qq hS (g_add rfl rfl (by omega) (by omega)) ?_
          refine qq hS (g_assignv (v := .int .i64 _) rfl) ?_
          refine ol_nil (thenN ?_)
          refine ⟨(i + 1, a76, p76), _, rfl, ⟨⟨rfl, rfl, rfl, rfl, trivial⟩, ?_, by dsimp only; omega, .inr hc60.2⟩, by dsimp only; omega⟩
          dsimp only
          rw [List.range_succ, List.map_append, flat_append, List.map_cons, List.map_nil, flat_one]
          exact hS.sel [false, true, true, true, true]
        ·
          intro hc60
          clear hu52 hn52 hu53 hn53 hu54 hn54 hu55 hn55 hu56 hn56 hu57 hn57 hu58 hn58 hu59 hn59
          simp only [Bool.and_eq_true, Bool.and_eq_false_iff, Bool.or_eq_true, Bool.or_eq_false_iff, decide_eq_true_eq, decide_eq_false_iff_not] at hc60
          have hdat : (opRaw q size).data = (List.range i).map (datRaw q) := by
            unfold opRaw
            dsimp only
            split
            · rename_i hk2
              have hi : i = (lenRaw q size).toNat := by omega
              rw [hi]
            · rename_i hk2
              have hi : i = 0 := by omega
              rw [hi]; rfl
          refine wp_exit ?_
          refine thenE (thenE (blkE ?_))
          refine thenN ?_
          refine wp_seq ?_
          refine reg ?_
          refine qq hS (g_ldO 1 (vs := [.int .i64 _, .int .i64 _, .int .i64 _, .int .u8 _, .slice _ _ _]) Try.sizeOf81 Try.isAgg81 rfl rfl rfl rfl) ?_
          refine qe (d_store 2 hS Try.sizeOf81 rfl rfl rfl (vs := [.int .i64 _, .int .i64 _, .int .i64 _, .int .u8 _, .slice _ _ _]) rfl rfl rfl (Nat.le_of_ble_eq_true rfl) (cs' := [_, _, _, _, _]) rfl) ?_
          clear hS
          rintro _ w_12 ⟨rfl, hS⟩
          refine ol_nil (thenN ?_)
          refine wp_ret ?_
          refine ret1 Try.results51 (rv_cel 2 hS Try.sizeOf81 Try.isAgg81 rfl rfl rfl) ?_
          have hS1 := hS.sel [true, false, false, false]
          obtain ⟨I1, hE1, hI1, hd1⟩ := row_freeze1 byteC_len (xs := (List.range i).map (datRaw q)) hS1 (by simp)
          exact ⟨I1, a, i, c, rfl, hE1, by rw [hdat]; exact hd1⟩

set_option maxHeartbeats 1000000 in
theorem sized_c (r : Int) (ad : Option Addr) (cap : Nat) (l : List Q4) (size : Int) (w0 : World) (I0 : Imm) (hI : Sat I0 w0) (hl : RFl I0 4 q4C (.slice ad l.length cap) l) (hq : ∀ q ∈ l, q.wf) (hs0 : 0 ≤ size) (hs1 : size ≤ 65536) :
    Ctr Try.prog 25 [.agg #[.int .u8 r, .slice ad l.length cap], .int .i64 size] w0 (fun v w' => ∃ I' a m c, v = .agg #[.bool (madeP l size).lifted, .int .i64 (madeP l size).in_, .int .i64 (madeP l size).out, .slice a m c] ∧ Ext w0 I0 w' I' ∧ ROps I' (.slice a m c) (madeP l size).ops) := by
  have hll := RSl.le hl
  simp only [maxLen] at hll
  refine fn (n := 41) Try.func25 rfl rfl rfl ?_
  have hS := St.start hI
  refine wp_seq ?_
  refine reg ?_
  refine qe (d_box (cs := [.int .u8 _, .slice _ _ _]) hS rfl) ?_
  clear hS
  rintro _ w_1 ⟨b2, rfl, hS⟩
  refine qe (d_alloc (cs := [.bool _, .int .i64 _, .int .i64 _, .slice _ _ _]) hS Try.zeroValue31 rfl) ?_
  clear hS
  rintro _ w_2 ⟨b4, rfl, hS⟩
  refine ol_nil (thenN ?_)
  refine wp_seq ?_
  refine reg ?_
  refine qq hS (g_movev (v := .int .i64 _) rfl) ?_
  refine qq hS (g_buildv (pl := [(0, 1), (1, 1), (2, 1), (3, 1)]) (cs := [.bool _, .int .i64 _, .int .i64 _, .slice _ _ _]) Try.zeroValue31 Try.underlying31 (fun w => by simp [Try.sizeOf29, Try.sizeOf3, Try.sizeOf4]) (mp (v := .int .i64 _) rfl mp0) rfl) ?_
  refine qe (d_alloc (cs := [.bool _, .int .i64 _, .int .i64 _, .slice _ _ _]) hS Try.zeroValue31 rfl) ?_
  clear hS
  rintro _ w_3 ⟨b5, rfl, hS⟩
  refine qe (d_store 0 hS Try.sizeOf31 rfl rfl rfl (vs := [.bool _, .int .i64 _, .int .i64 _, .slice _ _ _]) rfl rfl rfl (Nat.le_of_ble_eq_true rfl) (cs' := [_, _, _, _]) rfl) ?_
  clear hS
  rintro _ w_4 ⟨rfl, hS⟩
  refine ol_nil (thenN ?_)
  refine wp_seq ?_
  refine wp_seq ?_
  refine reg ?_
  refine qq hS (g_assignv (v := .int .i64 _) rfl) ?_
  refine ol_nil (thenN ?_)
  refine wp_block ?_
  refine loop (fun (x : RS) σ w => okS σ [(1, .int .i64 size), (2, .pointer (some ⟨b2, 0, none⟩)), (4, .pointer (some ⟨b4, 0, none⟩)), (5, .pointer (some ⟨b5, 0, none⟩)), (6, .int .i64 x.k)] ∧ ∃ I, St [] w0 I0 I w [.row (.slice x.a x.k x.c) 81 5 x.k x.css.flatten, .cel b5 31 [.bool false, .int .i64 size, .int .i64 (sumL ((l.take x.k).map fun q => opRaw q size)), .slice x.a x.k x.c], .cel b4 31 [.bool false, .int .i64 0, .int .i64 0, .slice none 0 0], .cel b2 47 [.int .u8 r, .slice ad l.length cap]] ∧ x.k ≤ l.length ∧ x.k ≤ 6 ∧ (0 ≤ sumL ((l.take x.k).map fun q => opRaw q size) ∧ sumL ((l.take x.k).map fun q => opRaw q size) ≤ 5 * (x.k : Int)) ∧ All2 (ROp I) x.css ((l.take x.k).map fun q => opRaw q size) ∧ (∀ cs ∈ x.css, cs.length = 5)) (fun x => l.length - x.k) (⟨0, [], none, 0⟩) ?_ ?_
  ·
    exact ⟨⟨rfl, rfl, rfl, rfl, rfl, trivial⟩, _, (hS.sel [true, true, true]).nilRow _ _, by simp, by simp, by simp [sumL], All2.nil _, by simp⟩
  ·
    rintro ⟨k, css, a, c⟩ σ w_l ⟨hs, I, hS, hk0, hk6, hsb, hall, hcl⟩
    dsimp only at hs hS hk0 hk6 hsb hall hcl ⊢
    rw [← upds_self hs]; clear hs
    refine wp_seq ?_
    refine wp_seq ?_
    refine reg ?_
    refine qq hS (g_movev (v := .int .i64 _) rfl) ?_
    refine qq hS (g_fieldAddr (o' := 1) Try.underlying47 rfl Try.sizeOf45 rfl rfl rfl) ?_
    refine qq hS (g_ldO1 3 Try.isAgg45 rfl rfl rfl) ?_
    refine qq hS (g_lenI rfl Try.underlying45 (hl.mono hS.ext) rfl) ?_
    refine qq hS (g_lss rfl rfl) ?_
    refine qq hS (g_movev (v := .bool _) rfl) ?_
    refine qu rfl rfl hS (fun hg => (g_movev (v := .int .i64 _) rfl)) ?_
    intro u16 hu16 hn16
    refine qu rfl rfl hS (fun hg => (g_lss (hu16 hg) rfl)) ?_
    intro u17 hu17 hn17
    refine qq hS (g_and rfl rfl (fun hq => hu17 hq)) ?_
    refine ol_nil (thenN ?_)
    refine cond_s rfl ?_ ?_
    ·
      intro hc18
      clear hu16 hn16 hu17 hn17
      simp only [Bool.and_eq_true, Bool.and_eq_false_iff, decide_eq_true_eq, decide_eq_false_iff_not] at hc18
      obtain ⟨q, hqi⟩ : ∃ q, l[k]? = some q := ⟨_, List.getElem?_eq_getElem (by omega)⟩
      have hqA := (hl.mono hS.ext).at hqi
      have hqw := hq q (List.mem_of_getElem? hqi)
      have hlb := lenRaw_bd hqw hs0
      have hlo : (opRaw q size).len = lenRaw q size := rfl
      have hsn : sumL ((l.take (k + 1)).map fun q => opRaw q size) = sumL ((l.take k).map fun q => opRaw q size) + lenRaw q size := by
        rw [take_snoc hqi, List.map_append, List.map_cons, List.map_nil, sumL_snoc]; rfl
      refine wp_skip ?_
      refine thenN ?_
      refine wp_seq ?_
      refine wp_block ?_
      refine wp_seq ?_
      refine reg ?_
      refine qq hS (g_fieldAddr (o' := 1) Try.underlying47 rfl Try.sizeOf45 rfl rfl rfl) ?_
      refine qq hS (g_ldO1 3 Try.isAgg45 rfl rfl rfl) ?_
      refine qq hS (g_movev (v := .int .i64 _) rfl) ?_
      refine qq hS (g_ixI Try.underlying45 Try.sizeOf88 (hl.mono hS.ext) rfl rfl (by omega) (by omega)) ?_
      refine qq hS (g_ldE (us := [.int .u8 _, .int .u8 _, .int .u8 _, .int .u8 _]) Try.sizeOf88 Try.isAgg88 hqA rfl rfl rfl) ?_
      refine qq hS (g_movev (v := .int .i64 _) rfl) ?_
      refine qe (d_call Try.call51 rfl (opRaw_c q size _ I hS.imm hqw hs0 hs1)) ?_
      rintro _ w_5 ⟨I2, a2, m2, c2, rfl, hE, hd2⟩
      replace hS := hS.callE hE
      refine qe (d_alloc (cs := [.int .i64 _, .int .i64 _, .int .i64 _, .int .u8 _, .slice _ _ _]) hS Try.zeroValue81 rfl) ?_
      clear hS
      rintro _ w_6 ⟨b7, rfl, hS⟩
      refine qe (d_store 0 hS Try.sizeOf81 rfl rfl rfl (vs := [.int .i64 _, .int .i64 _, .int .i64 _, .int .u8 _, .slice _ _ _]) rfl rfl rfl (Nat.le_of_ble_eq_true rfl) (cs' := [_, _, _, _, _]) rfl) ?_
      clear hS
      rintro _ w_7 ⟨rfl, hS⟩
      refine ol_nil (thenN ?_)
      refine wp_seq ?_
      refine reg ?_
      refine qq hS (g_fieldAddr (o' := 3) Try.underlying31 rfl Try.sizeOf29 rfl rfl rfl) ?_
      refine qq hS (g_ldO1 2 Try.isAgg29 rfl rfl rfl) ?_
      refine qq hS (g_ldO 0 (vs := [.int .i64 _, .int .i64 _, .int .i64 _, .int .u8 _, .slice _ _ _]) Try.sizeOf81 Try.isAgg81 rfl rfl rfl rfl) ?_
      refine qe (d_lit (vs := [.agg #[.int .i64 _, .int .i64 _, .int .i64 _, .int .u8 _, .slice _ _ _]]) (cs := [.int .i64 _, .int .i64 _, .int .i64 _, .int .u8 _, .slice _ _ _]) hS Try.underlying29 Try.sizeOf81 Try.zeroValue81 rfl rfl rfl rfl (fun v hv => by simp only [List.mem_cons, List.not_mem_nil, or_false] at hv; subst hv; rfl) rfl) ?_
      clear hS
      rintro _ w_8 ⟨b_8, rfl, hS⟩
      refine qe (i_appendO 2 0 hS rfl Try.underlying29 info81 rfl rfl rfl rfl rfl rfl rfl rfl (by omega) (by omega)) ?_
      clear hS
      rintro _ w_9 ⟨a32, p32, rfl, hS⟩
      refine qq hS (g_fieldAddr (o' := 3) Try.underlying31 rfl Try.sizeOf29 rfl rfl rfl) ?_
      refine qe (d_store 3 hS Try.sizeOf29 rfl rfl rfl (vs := [.slice _ _ _]) rfl rfl rfl (Nat.le_of_ble_eq_true rfl) (cs' := [_, _, _, _]) rfl) ?_
      clear hS
      rintro _ w_10 ⟨rfl, hS⟩
      refine ol_nil (thenN ?_)
      refine reg ?_
      refine qq hS (g_fieldAddr (o' := 2) Try.underlying31 rfl Try.sizeOf3 rfl rfl rfl) ?_
      refine qq hS (g_ldO1 3 Try.isAgg3 rfl rfl rfl) ?_
      refine qq hS (g_fieldAddr (o' := 2) Try.underlying81 rfl Try.sizeOf3 rfl rfl rfl) ?_
      refine qq hS (g_ldO1 1 Try.isAgg3 rfl rfl rfl) ?_
      refine qq hS (g_add rfl rfl (by omega) (by omega)) ?_
      refine qq hS (g_fieldAddr (o' := 2) Try.underlying31 rfl Try.sizeOf3 rfl rfl rfl) ?_
      refine qe (d_store 3 hS Try.sizeOf3 rfl rfl rfl (vs := [.int .i64 _]) rfl rfl rfl (Nat.le_of_ble_eq_true rfl) (cs' := [_, _, _, _]) rfl) ?_
      clear hS
      rintro _ w_11 ⟨rfl, hS⟩
      refine ol_nil (blkN (thenN ?_))
      refine reg ?_
      refine qq hS (g_movev (v := .int .i64 _) rfl) ?_
      refine qq hS (g_add rfl rfl (by omega) (by omega)) ?_
      refine qq hS (g_assignv (v := .int .i64 _) rfl) ?_
      refine ol_nil (thenN ?_)
      refine ⟨⟨k + 1, css ++ [[.int .i64 (opRaw q size).kind, .int .i64 (opRaw q size).from_, .int .i64 (opRaw q size).len, .int .u8 (opRaw q size).b, .slice a2 m2 c2]], a32, p32⟩, _, rfl, ⟨⟨rfl, rfl, rfl, rfl, rfl, trivial⟩, I2, ?_, by dsimp only; omega, by dsimp only; omega, by dsimp only; omega, ?_, ?_⟩, by dsimp only; omega⟩
      · dsimp only
        rw [List.flatten_append, List.flatten_singleton, hsn]
        exact hS.sel [false, false, true, true, true, true]
      · dsimp only
        rw [take_snoc hqi, List.map_append, List.map_cons, List.map_nil]
        exact All2.snoc (hall.mono fun _ _ h => h.mono hE.ext) ⟨_, _, _, rfl, hd2⟩
      · intro cs hcs
        rcases List.mem_append.1 hcs with h | h
        · exact hcl cs h
        · simp only [List.mem_singleton] at h; subst h; rfl
    ·
      intro hc18
      clear hu16 hn16 hu17 hn17
      simp only [Bool.and_eq_true, Bool.and_eq_false_iff, decide_eq_true_eq, decide_eq_false_iff_not] at hc18
      have e : (madeP l size) = ⟨false, size, sumL ((l.take k).map fun q => opRaw q size), (l.take k).map fun q => opRaw q size⟩ := by
        have h : l.take 6 = l.take k := by
          by_cases h6 : k = 6
          · rw [h6]
          · rw [List.take_of_length_le (by omega), List.take_of_length_le (by omega)]
        unfold madeP opsRaw
        rw [h]
      refine wp_exit ?_
      refine thenE (thenE (blkE ?_))
      refine thenN ?_
      refine wp_seq ?_
      refine reg ?_
      refine qq hS (g_ldO 1 (vs := [.bool _, .int .i64 _, .int .i64 _, .slice _ _ _]) Try.sizeOf31 Try.isAgg31 rfl rfl rfl rfl) ?_
      refine qe (d_store 2 hS Try.sizeOf31 rfl rfl rfl (vs := [.bool _, .int .i64 _, .int .i64 _, .slice _ _ _]) rfl rfl rfl (Nat.le_of_ble_eq_true rfl) (cs' := [_, _, _, _]) rfl) ?_
      clear hS
      rintro _ w_12 ⟨rfl, hS⟩
      refine ol_nil (thenN ?_)
      refine wp_ret ?_
      refine ret1 Try.results25 (rv_cel 2 hS Try.sizeOf31 Try.isAgg31 rfl rfl rfl) ?_
      obtain ⟨I3, hS3, hI3, ho3⟩ := St.freezeRowR (hS.sel [true, false, false, false]) (xs := (l.take k).map fun q => opRaw q size) (by rw [List.length_map, List.length_take]; omega) hcl hall
      rw [e]
      exact ⟨I3, a, k, c, rfl, hS3, RSl.mono ho3 (Sub.refl _) fun _ _ h => h.mono hI3⟩

theorem made_c (r : Int) (ad : Option Addr) (cap : Nat) (l : List Q4) (w0 : World) (I0 : Imm) (hI : Sat I0 w0) (hl : RFl I0 4 q4C (.slice ad l.length cap) l) (hq : ∀ q ∈ l, q.wf) (hr0 : 0 ≤ r) (hr1 : r ≤ 255) :
    Ctr Try.prog 24 [.agg #[.int .u8 r, .slice ad l.length cap]] w0 (fun v w' => ∃ I' a m c, v = .agg #[.bool (madeP l (r % 13)).lifted, .int .i64 (madeP l (r % 13)).in_, .int .i64 (madeP l (r % 13)).out, .slice a m c] ∧ Ext w0 I0 w' I' ∧ ROps I' (.slice a m c) (madeP l (r % 13)).ops) := by
  refine fn (n := 9) Try.func24 rfl rfl rfl ?_
  have hS := St.start hI
  refine wp_seq ?_
  refine reg ?_
  refine qe (d_box (cs := [.int .u8 _, .slice _ _ _]) hS rfl) ?_
  clear hS
  rintro _ w_1 ⟨b_1, rfl, hS⟩
  refine qe (d_alloc (cs := [.bool _, .int .i64 _, .int .i64 _, .slice _ _ _]) hS Try.zeroValue31 rfl) ?_
  clear hS
  rintro _ w_2 ⟨b_2, rfl, hS⟩
  refine ol_nil (thenN ?_)
  refine wp_seq ?_
  refine reg ?_
  refine qq hS (g_ldO 1 (vs := [.int .u8 _, .slice _ _ _]) Try.sizeOf47 Try.isAgg47 rfl rfl rfl rfl) ?_
  refine qq hS (g_fieldAddr (o' := 0) Try.underlying47 rfl Try.sizeOf5 rfl rfl rfl) ?_
  refine qq hS (g_ldO1 1 Try.isAgg5 rfl rfl rfl) ?_
  refine qq hS (g_convi Try.underlying5 Try.underlying3 rfl (by omega) (by omega)) ?_
  refine qq hS (g_rem rfl rfl (by omega) (by omega)) ?_
  refine qe (d_call Try.call25 rfl (sized_c r ad cap l (r % 13) _ I0 hS.imm hl hq (by omega) (by omega))) ?_
  rintro _ w_3 ⟨I2, a2, m2, c2, rfl, hE, hd2⟩
  replace hS := hS.callE hE
  refine qe (d_store 0 hS Try.sizeOf31 rfl rfl rfl (vs := [.bool _, .int .i64 _, .int .i64 _, .slice _ _ _]) rfl rfl rfl (Nat.le_of_ble_eq_true rfl) (cs' := [_, _, _, _]) rfl) ?_
  clear hS
  rintro _ w_4 ⟨rfl, hS⟩
  refine ol_nil (thenN ?_)
  refine wp_ret ?_
  refine ret1 Try.results24 (rv_cel 0 hS Try.sizeOf31 Try.isAgg31 rfl rfl rfl) ?_
  exact ⟨I2, a2, m2, c2, rfl, hS.nil, hd2⟩

set_option maxHeartbeats 1000000 in
theorem rawSyms_o (ad : Option Addr) (cap : Nat) (l : List Q2) (size : Int) (w0 : World) (I0 : Imm) (hI : Sat I0 w0) (hl : RFl I0 2 q2C (.slice ad l.length cap) l) (hq : ∀ q ∈ l, q.wf) (hs0 : 0 ≤ size) (hs1 : size ≤ 65536) :
    Ctr Try.prog 19 [.slice ad l.length cap, .int .i64 size] w0 (fun v w' => ∃ a c, v = .slice a (symsRaw l size).length c ∧ St [] w0 I0 I0 w' [.row (.slice a (symsRaw l size).length c) 54 3 (symsRaw l size).length (flat symC (symsRaw l size))]) := by
  have hll := RSl.le hl
  simp only [maxLen] at hll
  refine fn (n := 95) Try.func19 rfl rfl rfl ?_
  have hS := St.start hI
  refine wp_seq ?_
  refine reg ?_
  refine qq hS (g_assign _) ?_
  refine ol_nil (thenN ?_)
  refine wp_seq ?_
  refine reg ?_
  refine qe (d_buildSlice0 hS Try.underlying37 Try.sizeOf54) ?_
  clear hS
  rintro _ w_1 ⟨hS, b8_, rfl⟩
  refine qq hS (g_assign _) ?_
  refine ol_nil (thenN ?_)
  refine wp_seq ?_
  refine wp_seq ?_
  refine reg ?_
  refine qq hS (g_assignv (v := .int .i64 _) rfl) ?_
  refine ol_nil (thenN ?_)
  refine wp_block ?_
  refine loop (fun (x : Nat × Option Addr × Nat) σ w => okS σ [(0, .slice ad l.length cap), (1, .int .i64 size), (5, .slice x.2.1 x.1 x.2.2), (6, .int .i64 x.1)] ∧ St [] w0 I0 I0 w [.row (.slice x.2.1 x.1 x.2.2) 54 3 x.1 (flat symC (rawGo size (l.take x.1)))] ∧ x.1 ≤ l.length ∧ x.1 ≤ 20) (fun x => l.length - x.1) ((0, some ⟨b8_, 0, none⟩, 0)) ?_ ?_
  ·
    exact ⟨⟨rfl, rfl, rfl, rfl, trivial⟩, hS.sel [true], by simp, by simp⟩
  ·
    rintro ⟨k, a, c⟩ σ w_l ⟨hs, hS, hk0, hk6⟩
    dsimp only at hs hS hk0 hk6 ⊢
    rw [← upds_self hs]; clear hs
    refine wp_seq ?_
    refine wp_seq ?_
    refine reg ?_
    refine qq hS (g_movev (v := .int .i64 _) rfl) ?_
    refine qq hS (g_move _) ?_
    refine qq hS (g_lenI rfl Try.underlying23 hl rfl) ?_
    refine qq hS (g_lss rfl rfl) ?_
    refine qq hS (g_movev (v := .bool _) rfl) ?_
    refine qu rfl rfl hS (fun hg => (g_movev (v := .int .i64 _) rfl)) ?_
    intro u14 hu14 hn14
    refine qu rfl rfl hS (fun hg => (g_lss (hu14 hg) rfl)) ?_
    intro u15 hu15 hn15
    refine qq hS (g_and rfl rfl (fun hq => hu15 hq)) ?_
    refine ol_nil (thenN ?_)
    refine cond_s rfl ?_ ?_
    ·
      intro hc16
      clear hu14 hn14 hu15 hn15
      simp only [Bool.and_eq_true, Bool.and_eq_false_iff, decide_eq_true_eq, decide_eq_false_iff_not] at hc16
      obtain ⟨q, hqi⟩ : ∃ q, l[k]? = some q := ⟨_, List.getElem?_eq_getElem (by omega)⟩
      have hqA := hl.at hqi
      have hqw := hq q (List.mem_of_getElem? hqi)
      have hqb := hqw
      obtain ⟨⟨qa1, qa2⟩, qb1, qb2⟩ := hqb
      have hfit := rawGo_fit (size := size) (l.take k) (fun q hq' => hq q (List.mem_of_mem_take hq'))
      have hpr := rawPrev size l k (by omega)
      generalize hprev : (rawGo size (l.take k)).getLast?.getD ⟨false, 0, 0⟩ = prev at hpr
      have hkl : (rawGo size (l.take k)).length = k := by rw [rawGo_length, List.length_take]; omega
      have hpb : 0 < k → 0 ≤ prev.at_ + 1 ∧ prev.at_ + 1 ≤ 65537 := by
        intro h
        obtain ⟨p1, p2, _⟩ := hfit prev (List.mem_of_getElem? (hpr h))
        cases ho : prev.old
        · rw [p2 ho]; omega
        · have := p1 ho; omega
      refine wp_skip ?_
      refine thenN ?_
      refine wp_seq ?_
      refine wp_block ?_
      refine wp_seq ?_
      refine draw (.cons 0 .pure (.cons 1 .pure (.cons 2 .pure (.cons 3 .pure (.cons 4 .held (.cons 5 .pure (.cons 6 .pure (.cons 7 .pure (.cons 8 .pure (.cons 9 .pure (.cons 10 .pure (.cons 11 .pure (.cons 12 .pure (.cons 13 .pure (.cons 14 .pure (.cons 15 .held (.cons 16 .pure (.cons 17 .pure (.cons 18 .eff (.cons 19 .bar .nil)))))))))))))))))))) mixed (by kernel_rfl) hS ?_
      intro w_2 hS
      refine sp rfl (g_move _) ?_
      refine sp rfl (g_movev (v := .int .i64 _) rfl) ?_
      refine sp rfl (g_ixI Try.underlying23 Try.sizeOf25 hl rfl rfl (by omega) (by omega)) ?_
      refine sp rfl (g_indexArrE (c' := 0) Try.underlying25 Try.sizeOf5 rfl rfl (by decide) (by decide) rfl) ?_
      refine sh rfl (g_ldE1 Try.isAgg5 hqA rfl rfl) ?_
      refine sp rfl (g_rem rfl rfl (by omega) (by omega)) ?_
      refine sp rfl (g_gtr rfl rfl) ?_
      refine sp rfl (g_movev (v := .bool _) rfl) ?_
      refine spu rfl rfl rfl (fun hg => (g_movev (v := .int .i64 _) rfl)) ?_
      intro u27 hu27 hn27
      refine spu rfl rfl rfl (fun hg => (g_gtr (hu27 hg) rfl)) ?_
      intro u28 hu28 hn28
      refine sp rfl (g_and rfl rfl (fun hq => hu28 hq)) ?_
      refine sp rfl (g_move _) ?_
      refine sp rfl (g_movev (v := .int .i64 _) rfl) ?_
      refine sp rfl (g_ixI Try.underlying23 Try.sizeOf25 hl rfl rfl (by omega) (by omega)) ?_
      refine sp rfl (g_indexArrE (c' := 1) Try.underlying25 Try.sizeOf5 rfl rfl (by decide) (by decide) rfl) ?_
      refine sh rfl (g_ldE1 Try.isAgg5 hqA rfl rfl) ?_
      refine sp rfl (g_rem rfl rfl (by omega) (by omega)) ?_
      refine sp rfl (g_buildv (pl := [(0, 1), (1, 1), (2, 1)]) (cs := [.bool _, .int .i64 _, .int .u8 _]) Try.zeroValue54 Try.underlying54 (fun w => by simp [Try.sizeOf3, Try.sizeOf4, Try.sizeOf5]) (mp (v := .bool _) rfl (mp (v := .int .u8 _) rfl mp0)) rfl) ?_
      have hS0 := hS
      refine se rfl (d_alloc (cs := [.bool _, .int .i64 _, .int .u8 _]) hS Try.zeroValue54 rfl) ?_
      rintro _ w_3 ⟨b7, rfl, hS⟩
      refine ⟨_, _, hS0.le (Sub.refl _) (List.sublist_cons_self _ _), hS, ?_⟩
      refine sb rfl (d_store 0 hS Try.sizeOf54 rfl rfl rfl (vs := [.bool _, .int .i64 _, .int .u8 _]) rfl rfl rfl (Nat.le_of_ble_eq_true rfl) (cs' := [_, _, _]) rfl) ?_
      rintro _ w_4 ⟨rfl, hS⟩
      refine ⟨_, _, hS, ?_⟩
      refine sn (thenN ?_)
      refine meet (fun σ w => okS σ [(0, .slice ad l.length cap), (1, .int .i64 size), (5, .slice a k c), (6, .int .i64 k), (7, .pointer (some ⟨b7, 0, none⟩))] ∧ St [] w0 I0 I0 w [.cel b7 54 [.bool (oldRaw q size), .int .i64 (if oldRaw q size then q.b % size else 0), .int .u8 (q.b % 3)], .row (.slice a k c) 54 3 k (flat symC (rawGo size (l.take k)))]) ?_ ?_
      ·
        refine wp_seq ?_
        refine reg ?_
        refine qq hS (g_fieldAddr (o' := 0) Try.underlying54 rfl Try.sizeOf4 rfl rfl rfl) ?_
        refine qq hS (g_ldO1 0 Try.isAgg4 rfl rfl rfl) ?_
        refine ol_nil (thenN ?_)
        refine cond_s rfl ?_ ?_
        ·
          intro hc38
          clear hu27 hn27 hu28 hn28
          have ea : (if oldRaw q size then q.b % size else 0) = q.b % size := if_pos hc38
          simp only [Bool.and_eq_true, decide_eq_true_eq] at hc38
          refine reg ?_
          refine qq hS (g_move _) ?_
          refine qq hS (g_movev (v := .int .i64 _) rfl) ?_
          refine qq hS (g_ixI Try.underlying23 Try.sizeOf25 hl rfl rfl (by omega) (by omega)) ?_
          refine qq hS (g_indexArrE (c' := 1) Try.underlying25 Try.sizeOf5 rfl rfl (by decide) (by decide) rfl) ?_
          refine qq hS (g_ldE1 Try.isAgg5 hqA rfl rfl) ?_
          refine qq hS (g_convi Try.underlying5 Try.underlying3 rfl (by omega) (by omega)) ?_
          refine qq hS (g_movev (v := .int .i64 _) rfl) ?_
          refine qq hS (g_rem rfl rfl (by omega) (by omega)) ?_
          refine qq hS (g_fieldAddr (o' := 1) Try.underlying54 rfl Try.sizeOf3 rfl rfl rfl) ?_
          refine qe (d_store 0 hS Try.sizeOf3 rfl rfl rfl (vs := [.int .i64 _]) rfl rfl rfl (Nat.le_of_ble_eq_true rfl) (cs' := [_, _, _]) rfl) ?_
          clear hS
          rintro _ w_5 ⟨rfl, hS⟩
          refine ol_nil (thenN ?_)
          refine ⟨_, rfl, ⟨rfl, rfl, rfl, rfl, rfl, trivial⟩, ?_⟩
          rw [ea]
          exact hS.sel [true, true]
        ·
          intro hc38
          clear hu27 hn27 hu28 hn28
          have ea : (if oldRaw q size then q.b % size else 0) = 0 := if_neg (by rw [show oldRaw q size = false from hc38]; decide)
          refine wp_skip ?_
          refine thenN ?_
          refine ⟨_, rfl, ⟨rfl, rfl, rfl, rfl, rfl, trivial⟩, ?_⟩
          rw [ea]
          exact hS.sel [true, true]
      ·
        rintro σ w ⟨hs, hS⟩
        rw [← upds_self hs]
        refine meet (fun σ w => okS σ [(0, .slice ad l.length cap), (1, .int .i64 size), (5, .slice a k c), (6, .int .i64 k), (7, .pointer (some ⟨b7, 0, none⟩))] ∧ St [] w0 I0 I0 w [.cel b7 54 (symC (rawSym (rawGo size (l.take k)) q size)), .row (.slice a k c) 54 3 k (flat symC (rawGo size (l.take k)))]) ?_ ?_
        ·
          refine wp_seq ?_
          refine reg ?_
          refine qq hS (g_fieldAddr (o' := 0) Try.underlying54 rfl Try.sizeOf4 rfl rfl rfl) ?_
          refine qq hS (g_ldO1 0 Try.isAgg4 rfl rfl rfl) ?_
          refine qq hS (g_movev (v := .bool _) rfl) ?_
          refine qu rfl rfl hS (fun hg => (g_movev (v := .int .i64 _) rfl)) ?_
          intro u51 hu51 hn51
          refine qu rfl rfl hS (fun hg => (g_gtr (hu51 hg) rfl)) ?_
          intro u52 hu52 hn52
          refine qq hS (g_and rfl rfl (fun hq => hu52 hq)) ?_
          refine qq hS (g_movev (v := .bool _) rfl) ?_
          refine qu rfl rfl hS (fun hg => (g_move _)) ?_
          intro u55 hu55 hn55
          refine qu rfl rfl hS (fun hg => (g_movev (v := .int .i64 _) rfl)) ?_
          intro u56 hu56 hn56
          refine qu rfl rfl hS (fun hg => (g_sub (hu56 hg) rfl (by omega) (by omega))) ?_
          intro u57 hu57 hn57
          refine qu rfl rfl hS (fun hg => (g_ixR 1 Try.underlying37 Try.sizeOf54 rfl (hu55 hg) (hu57 hg) (by simp at hg; omega) (by omega))) ?_
          intro u58 hu58 hn58
          refine qu rfl rfl hS (fun hg => (g_fieldE (c' := 0) Try.underlying54 rfl Try.sizeOf4 rfl (hu58 hg) rfl)) ?_
          intro u59 hu59 hn59
          refine qu rfl rfl hS (fun hg => (g_ldR1 1 Try.isAgg4 rfl (hu59 hg) (flat_get symC_len (rawGo size (l.take k)) _ prev (hpr (by simp at hg; omega)) 0 _ rfl))) ?_
          intro u60 hu60 hn60
          refine qq hS (g_and rfl rfl (fun hq => hu60 hq)) ?_
          refine qq hS (g_movev (v := .bool _) rfl) ?_
          refine qu rfl rfl hS (fun hg => (g_move _)) ?_
          intro u63 hu63 hn63
          refine qu rfl rfl hS (fun hg => (g_movev (v := .int .i64 _) rfl)) ?_
          intro u64 hu64 hn64
          refine qu rfl rfl hS (fun hg => (g_ixI Try.underlying23 Try.sizeOf25 hl (hu63 hg) (hu64 hg) (by omega) (by omega))) ?_
          intro u65 hu65 hn65
          refine qu rfl rfl hS (fun hg => (g_indexArrE (c' := 0) Try.underlying25 Try.sizeOf5 (hu65 hg) rfl (by decide) (by decide) rfl)) ?_
          intro u66 hu66 hn66
          refine qu rfl rfl hS (fun hg => (g_ldE1 Try.isAgg5 hqA (hu66 hg) rfl)) ?_
          intro u67 hu67 hn67
          refine qu rfl rfl hS (fun hg => (g_rem (hu67 hg) rfl (by omega) (by omega))) ?_
          intro u68 hu68 hn68
          refine qu rfl rfl hS (fun hg => (g_gtr (hu68 hg) rfl)) ?_
          intro u69 hu69 hn69
          refine qq hS (g_and rfl rfl (fun hq => hu69 hq)) ?_
          refine qq hS (g_movev (v := .bool _) rfl) ?_
          refine qu rfl rfl hS (fun hg => (g_move _)) ?_
          intro u72 hu72 hn72
          refine qu rfl rfl hS (fun hg => (g_movev (v := .int .i64 _) rfl)) ?_
          intro u73 hu73 hn73
          refine qu rfl rfl hS (fun hg => (g_sub (hu73 hg) rfl (by omega) (by omega))) ?_
          intro u74 hu74 hn74
          refine qu rfl rfl hS (fun hg => (g_ixR 1 Try.underlying37 Try.sizeOf54 rfl (hu72 hg) (hu74 hg) (by simp at hg; omega) (by omega))) ?_
          intro u75 hu75 hn75
          refine qu rfl rfl hS (fun hg => (g_fieldE (c' := 1) Try.underlying54 rfl Try.sizeOf3 rfl (hu75 hg) rfl)) ?_
          intro u76 hu76 hn76
          refine qu rfl rfl hS (fun hg => (g_ldR1 1 Try.isAgg3 rfl (hu76 hg) (flat_get symC_len (rawGo size (l.take k)) _ prev (hpr (by simp at hg; omega)) 1 _ rfl))) ?_
          intro u77 hu77 hn77
          refine qu rfl rfl hS (fun hg => (g_add (hu77 hg) rfl (by simp at hg; have := hpb (by omega); omega) (by simp at hg; have := hpb (by omega); omega))) ?_
          intro u78 hu78 hn78
          refine qu rfl rfl hS (fun hg => (g_movev (v := .int .i64 _) rfl)) ?_
          intro u79 hu79 hn79
          refine qu rfl rfl hS (fun hg => (g_lss (hu78 hg) (hu79 hg))) ?_
          intro u80 hu80 hn80
          refine qq hS (g_and rfl rfl (fun hq => hu80 hq)) ?_
          refine ol_nil (thenN ?_)
          refine cond_s rfl ?_ ?_
          ·
            intro hc81
            clear hu27 hn27 hu28 hn28 hu51 hn51 hu52 hn52 hu55 hn55 hu56 hn56 hu57 hn57 hu58 hn58 hu59 hn59 hu60 hn60 hu63 hn63 hu64 hn64 hu65 hn65 hu66 hn66 hu67 hn67 hu68 hn68 hu69 hn69 hu72 hn72 hu73 hn73 hu74 hn74 hu75 hn75 hu76 hn76 hu77 hn77 hu78 hn78 hu79 hn79 hu80 hn80
            have ew := rawSym_t hkl hprev hc81
            simp only [Bool.and_eq_true, decide_eq_true_eq] at hc81
            refine reg ?_
            refine qq hS (g_move _) ?_
            refine qq hS (g_movev (v := .int .i64 _) rfl) ?_
            refine qq hS (g_sub rfl rfl (by omega) (by omega)) ?_
            refine qq hS (g_ixR 1 Try.underlying37 Try.sizeOf54 rfl rfl rfl (by omega) (by omega)) ?_
            refine qq hS (g_fieldE (c' := 1) Try.underlying54 rfl Try.sizeOf3 rfl rfl rfl) ?_
            refine qq hS (g_ldR1 1 Try.isAgg3 rfl rfl (flat_get symC_len (rawGo size (l.take k)) _ prev (hpr (by omega)) 1 _ rfl)) ?_
            refine qq hS (g_add rfl rfl (by have := hpb (by omega); omega) (by have := hpb (by omega); omega)) ?_
            refine qq hS (g_fieldAddr (o' := 1) Try.underlying54 rfl Try.sizeOf3 rfl rfl rfl) ?_
            refine qe (d_store 0 hS Try.sizeOf3 rfl rfl rfl (vs := [.int .i64 _]) rfl rfl rfl (Nat.le_of_ble_eq_true rfl) (cs' := [_, _, _]) rfl) ?_
            clear hS
            rintro _ w_6 ⟨rfl, hS⟩
            refine ol_nil (thenN ?_)
            refine ⟨_, rfl, ⟨rfl, rfl, rfl, rfl, rfl, trivial⟩, ?_⟩
            rw [ew]
            exact hS.sel [true, true]
          ·
            intro hc81
            clear hu27 hn27 hu28 hn28 hu51 hn51 hu52 hn52 hu55 hn55 hu56 hn56 hu57 hn57 hu58 hn58 hu59 hn59 hu60 hn60 hu63 hn63 hu64 hn64 hu65 hn65 hu66 hn66 hu67 hn67 hu68 hn68 hu69 hn69 hu72 hn72 hu73 hn73 hu74 hn74 hu75 hn75 hu76 hn76 hu77 hn77 hu78 hn78 hu79 hn79 hu80 hn80
            have ew := rawSym_f hkl hprev hc81
            refine wp_skip ?_
            refine thenN ?_
            refine ⟨_, rfl, ⟨rfl, rfl, rfl, rfl, rfl, trivial⟩, ?_⟩
            rw [ew]
            exact hS.sel [true, true]
        ·
          rintro σ w ⟨hs, hS⟩
          rw [← upds_self hs]
          refine reg ?_
          refine qq hS (g_move _) ?_
          refine qq hS (g_ldO 0 (vs := [.bool _, .int .i64 _, .int .u8 _]) Try.sizeOf54 Try.isAgg54 rfl rfl rfl rfl) ?_
          refine qe (d_lit (vs := [.agg #[.bool _, .int .i64 _, .int .u8 _]]) (cs := [.bool _, .int .i64 _, .int .u8 _]) hS Try.underlying37 Try.sizeOf54 Try.zeroValue54 rfl rfl rfl rfl (fun v hv => by simp only [List.mem_cons, List.not_mem_nil, or_false] at hv; subst hv; rfl) rfl) ?_
          clear hS
          rintro _ w_7 ⟨b_7, rfl, hS⟩
          refine qe (i_appendO 2 0 hS rfl Try.underlying37 info54 rfl rfl rfl rfl rfl rfl rfl rfl (by omega) (by omega)) ?_
          clear hS
          rintro _ w_8 ⟨a93, p93, rfl, hS⟩
          refine qq hS (g_assign _) ?_
          refine ol_nil (blkN (thenN ?_))
          refine reg ?_
          refine qq hS (g_movev (v := .int .i64 _) rfl) ?_
          refine qq hS (g_add rfl rfl (by omega) (by omega)) ?_
          refine qq hS (g_assignv (v := .int .i64 _) rfl) ?_
          refine ol_nil (thenN ?_)
          refine ⟨(k + 1, a93, p93), _, rfl, ⟨⟨rfl, rfl, rfl, rfl, trivial⟩, ?_, by dsimp only; omega, by dsimp only; omega⟩, by dsimp only; omega⟩
          dsimp only
          rw [take_snoc hqi, rawGo_snoc, flat_append, flat_one]
          exact hS.sel [false, false, true]
    ·
      intro hc16
      clear hu14 hn14 hu15 hn15
      simp only [Bool.and_eq_true, Bool.and_eq_false_iff, decide_eq_true_eq, decide_eq_false_iff_not] at hc16
      have e : symsRaw l size = rawGo size (l.take k) := by
        unfold symsRaw
        congr 1
        by_cases h6 : k = 20
        · rw [h6]
        · rw [List.take_of_length_le (by omega), List.take_of_length_le (by omega)]
      have hlen : (rawGo size (l.take k)).length = k := by rw [rawGo_length, List.length_take]; omega
      refine wp_exit ?_
      refine thenE (thenE (blkE ?_))
      refine thenN ?_
      refine wp_seq ?_
      refine reg ?_
      refine qq hS (g_move _) ?_
      refine qq hS (g_assign _) ?_
      refine ol_nil (thenN ?_)
      refine wp_ret ?_
      refine ret1 Try.results19 (rv_tmp rfl) ?_
      exact ⟨a, c, by rw [e, hlen]; rfl, by rw [e, hlen]; exact hS.sel [true]⟩

end Go.Proofs.Ythningkgpanaoaa

