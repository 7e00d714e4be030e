/- inlaylaw06.PatchParts: its function answers true. Conditions: arguments are of their kinds. -/
import Derived.Test.YtaklmbhfmpdinaaPSymbols
import Derived.Test.YtaklmbhfmpdinaaKCore3
namespace Go.Proofs.Ytaklmbhfmpdinaa
open Go Go.RowKit Go.Inl
set_option linter.unusedSimpArgs false
set_option linter.unusedVariables false
def bothP (p q : PatL) : PatL := ⟨false, p.in_, p.out + q.out, p.ops ++ q.ops⟩
theorem OpsOk_append {n : Int} {a b : List OpL} (ha : OpsOk n a) (hb : OpsOk n b) : OpsOk n (a ++ b) := fun x hx => by
  rcases List.mem_append.1 hx with h | h
  · exact ha x h
  · exact hb x h
theorem bothP_check {p q : PatL} (hp : (checkP p).2 = 0) (hq : (checkP q).2 = 0) (hi : q.in_ = p.in_) (ho : p.out + q.out ≤ 65536) (hl : p.ops.length + q.ops.length ≤ 4096) : (checkP (bothP p q)).2 = 0 := by
  obtain ⟨k1, k2, k3, k4, k5, k6, k7⟩ := checkP_ok hp
  obtain ⟨j1, j2, j3, j4, j5, j6, j7⟩ := checkP_ok hq
  have h2 := checkP_opsOk hq
  rw [hi] at h2
  refine checkP_right ⟨k3, k4⟩ (OpsOk_append (checkP_opsOk hp) h2) ?_ ho ?_
  · show ((symsOf (p.ops ++ q.ops)).length : Int) = p.out + q.out
    rw [symsOf_append, List.length_append]; omega
  · show (p.ops ++ q.ops).length ≤ 4096
    rw [List.length_append]; exact hl
theorem bothP_wf {p q : PatL} (hp : p.wf) (hq : q.wf) (hm : Mid (p.out + q.out)) (hl : p.ops.length + q.ops.length ≤ 4096) : (bothP p q).wf := by
  refine ⟨hp.in_, hm, fun x hx => ?_, ?_⟩
  · rcases List.mem_append.1 hx with h | h
    · exact hp.ops x h
    · exact hq.ops x h
  · show ((p.ops ++ q.ops).length : Int) ≤ _
    rw [List.length_append]; omega
theorem sumC_append : ∀ (a b : List OpL), sumC (a ++ b) = sumC a + sumC b
  | [], b => by simp [sumC]
  | x :: a, b => by rw [List.cons_append]; simp only [sumC]; rw [sumC_append a b]; omega
theorem whole_runs {O : List Int} (hb : ∀ y ∈ O, 0 ≤ y ∧ y ≤ 255) : (symsOf (wholeP O.length).ops).map (runB O) = O := by
  rw [wholeP_syms (by omega), List.map_map]
  apply List.ext_getElem
  · simp
  · intro i h1 h2
    rw [List.getElem_map, List.getElem_range]
    have hy : O[((0 : Int) + (i : Nat)).toNat]? = some O[i] := by rw [show ((0 : Int) + (i : Nat)).toNat = i by omega]; exact List.getElem?_eq_getElem h2
    show runB O ⟨true, 0 + (i : Nat), 0⟩ = O[i]
    rw [runB_old rfl hy, Int.zero_add, wrap8 (hb _ (List.getElem_mem h2))]
theorem apply_whole {O : List Int} (hb : ∀ y ∈ O, 0 ≤ y ∧ y ≤ 255) (hl : O.length ≤ 65536) : applyP O (wholeP O.length) = (O, 0) := by
  rw [applyP_right (p := wholeP (O.length : Int)) (wholeP_check ⟨by omega, by omega⟩) rfl, whole_runs hb]
theorem sumC_le {n : Int} : ∀ (l : List OpL), OpsOk n l → 0 ≤ sumC l ∧ sumC l ≤ 4 * (l.length : Int) + ((symsOf l).length : Int)
  | [], _ => by simp [sumC, symsOf]
  | x :: l, h => by
    have ih := sumC_le l fun y hy => h y (List.mem_cons_of_mem _ hy)
    have hx := (h x (List.mem_cons_self ..)).1
    have ho := opc_pos (k := x.kind) (n := x.len) (by omega)
    have h2 : opc x.kind x.len ≤ 4 + x.len := by unfold opc; split <;> (try split) <;> (try split) <;> omega
    simp only [sumC, List.length_cons]
    rw [symsOf_cons, List.length_append, symsOp_length]
    constructor
    · omega
    · push_cast
      omega
theorem sumC_bd {p : PatL} (h : (checkP p).2 = 0) (hl : p.ops.length ≤ 4096) : 0 ≤ sumC p.ops ∧ sumC p.ops ≤ 1000000 := by
  obtain ⟨k1, k2, k3, k4, k5, k6, k7⟩ := checkP_ok h
  have := sumC_le _ (checkP_opsOk h)
  omega
theorem whole_sum {n : Int} (h : 0 < n) : sumC (wholeP n).ops = 4 := by rw [wholeP_pos h]; rfl
theorem sized6_E (r : Int) (ad : Option Addr) (cap : Nat) (l : List Q4) (size : Int) (p : PatL) (w0 : World) (I0 : Imm) (hI : Sat I0 w0) (hl : RFl I0 4 q4C (.slice ad l.length cap) l) (hq : ∀ q ∈ l, q.wf) (hs : 0 ≤ size ∧ size ≤ 65536) (hp : madeP l size = p) :
    Ctr Try.prog 21 [.agg #[.int .u8 r, .slice ad l.length cap], .int .i64 size] w0 (fun v w' => ∃ I' a m c, v = .agg #[.bool p.lifted, .int .i64 p.in_, .int .i64 p.out, .slice a m c] ∧ Ext w0 I0 w' I' ∧ ROps I' (.slice a m c) p.ops) := by
  subst hp; exact sized_c r ad cap l size w0 I0 hI hl hq hs.1 hs.2
theorem apply_L (p : PatL) (ad bd : Option Addr) (m cap n capb : Nat) (old R : List Int) (e : Int) (w0 : World) (I0 : Imm) (hI : Sat I0 w0) (hops : ROps I0 (.slice ad m cap) p.ops) (hp : p.wf) (hl : p.lifted = false) (ho : RBytes I0 (.slice bd n capb) old) (hn : n = old.length) (hR : applyP old p = (R, e)) :
    Ctr Try.prog 9 [.slice bd n capb, .agg #[.bool p.lifted, .int .i64 p.in_, .int .i64 p.out, .slice ad m cap]] w0 (fun v w' => ∃ I' a c, v = .tuple #[.slice a R.length c, .int .i64 e] ∧ Ext w0 I0 w' I' ∧ RBytes I' (.slice a R.length c) R) :=
  apply_E p ad bd m cap n capb old (R, e) w0 I0 hI hops hp hl ho hn hR
theorem symbols_L (p : PatL) (ad : Option Addr) (m cap : Nat) (A : List Sym) (e : Int) (w0 : World) (I0 : Imm) (hI : Sat I0 w0) (hops : ROps I0 (.slice ad m cap) p.ops) (hp : p.wf) (he : symbolsP p = (A, e)) :
    Ctr Try.prog 10 [.agg #[.bool p.lifted, .int .i64 p.in_, .int .i64 p.out, .slice ad m cap]] w0 (fun v w' => ∃ I' a c, v = .tuple #[.slice a A.length c, .int .i64 e] ∧ Ext w0 I0 w' I' ∧ RSyms I' (.slice a A.length c) A) :=
  symbols_e p ad m cap (A, e) w0 I0 hI hops hp he
theorem run6_L (ad bd : Option Addr) (m n cap capb : Nat) (lo : List Int) (l : List Sym) (R : List Int) (e : Int) (w0 : World) (I0 : Imm) (hI : Sat I0 w0) (ha : RBytes I0 (.slice ad m cap) lo) (hm : m = lo.length) (hb : RSyms I0 (.slice bd n capb) l) (hnl : n = l.length) (hwb : ∀ s ∈ l, s.wf) (hn : l.length ≤ 65536) (he : runP lo l = (R, e)) :
    Ctr Try.prog 25 [.slice ad m cap, .slice bd n capb] w0 (fun v w' => ∃ I' a c, v = .tuple #[.slice a R.length c, .int .i64 e] ∧ Ext w0 I0 w' I' ∧ RBytes I' (.slice a R.length c) R) :=
  run6_E ad bd m n cap capb lo l (R, e) w0 I0 hI ha hm hb hnl hwb hn he
theorem whole_L (n : Int) (p : PatL) (w0 : World) (I0 : Imm) (hI : Sat I0 w0) (h0 : 0 ≤ n ∧ n ≤ 65536) (he : wholeP n = p) :
    Ctr Try.prog 14 [.int .i64 n] w0 (fun v w' => ∃ I' a m c, v = .agg #[.bool p.lifted, .int .i64 p.in_, .int .i64 p.out, .slice a m c] ∧ Ext w0 I0 w' I' ∧ ROps I' (.slice a m c) p.ops) := by
  subst he; exact patchWhole_c n w0 I0 hI h0
theorem g_eqF6 {P : Program} {n : Nat} {σ : Nat → Value} {S : World → Prop} {t t' ty : TypeId} {x y : Operand} {k : IntKind} {a b : Int} (hx : ev n σ x = .int k a) (hy : ev n σ y = .int k b) (h : ¬ a = b) : Gives P (ev n σ) S (.binOp .eql t x y t') ty (.bool false) := by
  have := g_eql (P := P) (S := S) (t := t) (t' := t') (ty := ty) hx hy
  rw [decide_eq_false h] at this; exact this

end Go.Proofs.Ytaklmbhfmpdinaa

