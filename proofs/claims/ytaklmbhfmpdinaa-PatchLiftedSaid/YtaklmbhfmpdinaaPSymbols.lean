/- inlaylaw06.PatchSymbols: its function answers true. Conditions: arguments are of their kinds. -/
import Derived.Test.YtaklmbhfmpdinaaSanity6
namespace Go.Proofs.Ytaklmbhfmpdinaa
open Go Go.RowKit Go.Inl
set_option linter.unusedSimpArgs false
set_option linter.unusedVariables false
theorem runP_right {p : PatL} {lo : List Int} (hk : (checkP p).2 = 0) (h : p.in_ = lo.length) : runP lo (symsOf p.ops) = ((symsOf p.ops).map (runB lo), 0) := by
  unfold runP
  rw [badT_ok (ops_ok _ (checkP_ok hk).1).1 h]; rfl
theorem applyP_right {p : PatL} {lo : List Int} (hk : (checkP p).2 = 0) (h : p.in_ = lo.length) : applyP lo p = ((symsOf p.ops).map (runB lo), 0) := by
  unfold applyP
  rw [symbolsP_ok hk, if_pos rfl, if_pos h.symm]
  exact runP_right hk h
theorem run6_E (ad bd : Option Addr) (m n cap capb : Nat) (lo : List Int) (l : List Sym) (R : List Int × Int) (w0 : World) (I0 : Imm) (hI : Sat I0 w0) (ha : RBytes I0 (.slice ad m cap) lo) (hm : m = lo.length) (hb : RSyms I0 (.slice bd n capb) l) (hnl : n = l.length) (hwb : ∀ s ∈ l, s.wf) (hn : l.length ≤ 65536) (he : runP lo l = R) :
    Ctr Try.prog 25 [.slice ad m cap, .slice bd n capb] w0 (fun v w' => ∃ I' a c, v = .tuple #[.slice a R.1.length c, .int .i64 R.2] ∧ Ext w0 I0 w' I' ∧ RBytes I' (.slice a R.1.length c) R.1) := by
  subst hm; subst hnl; subst he
  exact run_c ad bd cap capb lo l w0 I0 hI ha hb hwb hn
theorem symsOf_at {l : List OpL} {k i : Nat} {x : OpL} (h : l[k]? = some x) (hi : (i : Int) < x.len) : (symsOf l)[(symsOf (l.take k)).length + i]? = some (symS x i) := by
  obtain ⟨h1, h2⟩ := List.getElem?_eq_some_iff.1 h
  have e : symsOf l = symsOf (l.take k) ++ (symsOp x ++ symsOf (l.drop (k + 1))) := by
    conv => lhs; rw [← List.take_append_drop k l]
    rw [symsOf_append, List.drop_eq_getElem_cons h1, h2]
    simp [symsOf]
  rw [e, List.getElem?_append_right (Nat.le_add_right _ _), Nat.add_sub_cancel_left, List.getElem?_append_left (by unfold symsOp; simp; omega)]
  unfold symsOp
  rw [List.getElem?_map, List.getElem?_range (by omega)]; rfl
theorem made6_E (r : Int) (ad : Option Addr) (cap : Nat) (l : List Q4) (p : PatL) (w0 : World) (I0 : Imm) (hI : Sat I0 w0) (hl : RFl I0 4 q4C (.slice ad l.length cap) l) (hq : ∀ q ∈ l, q.wf) (hr : 0 ≤ r ∧ r ≤ 255) (hp : madeP l (r % 13) = p) :
    Ctr Try.prog 6 [.agg #[.int .u8 r, .slice ad l.length cap]] w0 (fun v w' => ∃ I' a m c, v = .agg #[.bool p.lifted, .int .i64 p.in_, .int .i64 p.out, .slice a m c] ∧ Ext w0 I0 w' I' ∧ ROps I' (.slice a m c) p.ops) := by
  subst hp; exact made_c r ad cap l w0 I0 hI hl hq hr.1 hr.2
theorem g_neqF {P : Program} {n : Nat} {σ : Nat → Value} {S : World → Prop} {t t' ty : TypeId} {x y : Operand} {k : IntKind} {a b : Int} (hx : ev n σ x = .int k a) (hy : ev n σ y = .int k b) (h : a = b) : Gives P (ev n σ) S (.binOp .neq t x y t') ty (.bool false) := by
  have := g_neq (P := P) (S := S) (t := t) (t' := t') (ty := ty) hx hy
  rw [decide_eq_true h] at this; exact this
theorem g_eqT6 {P : Program} {n : Nat} {σ : Nat → Value} {S : World → Prop} {t t' ty : TypeId} {x y : Operand} {k : IntKind} {a b : Int} (hx : ev n σ x = .int k a) (hy : ev n σ y = .int k b) (h : a = b) : Gives P (ev n σ) S (.binOp .eql t x y t') ty (.bool true) := by
  have := g_eql (P := P) (S := S) (t := t) (t' := t') (ty := ty) hx hy
  rw [decide_eq_true h] at this; exact this
theorem wrap8 {y : Int} (h : 0 ≤ y ∧ y ≤ 255) : IntKind.u8.wrap y = y := by rw [IntKind.wrap_u8]; omega
theorem copy_in {x : OpL} {n : Int} (h : rightP x n = true) (hk : x.kind = 1) : 0 ≤ x.from_ ∧ x.from_ ≤ n - x.len := by
  unfold rightP at h
  rw [if_pos hk] at h
  simp only [insideP, Bool.and_eq_true, decide_eq_true_eq] at h
  exact h.1.1

end Go.Proofs.Ytaklmbhfmpdinaa

