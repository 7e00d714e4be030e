/- Contracts in the form that the laws of chapter 9 use, and what these need of plain laws. Conditions: numbers within bounds. -/
import Derived.Test.YtlhehhhpaebpoaaGreatSanity9
import Derived.Test.YtlhehhhpaebpoaaGreatKComp
import Derived.Test.YtlhehhhpaebpoaaGreatKCut
namespace Go.Proofs.YtlhehhhpaebpoaaGreat
open Go Go.RowKit Go.Inl
set_option linter.unusedSimpArgs false
set_option linter.unusedVariables false
theorem g_eqT {P : Program} {n : Nat} {σ : Nat → Value} {S : World → Prop} {ty t t' : TypeId} {x y : Operand} {k : IntKind} {a b : Int} (hx : ev n σ x = .int k a) (hy : ev n σ y = .int k b) (hc : a = b) : Gives P (ev n σ) S (.binOp .eql t x y t') ty (.bool true) := by
  subst hc; have := g_eql (P := P) (S := S) (t := t) (t' := t') (ty := ty) hx hy; rwa [decide_eq_true rfl] at this
theorem g_neF {P : Program} {n : Nat} {σ : Nat → Value} {S : World → Prop} {ty t t' : TypeId} {x y : Operand} {k : IntKind} {a b : Int} (hx : ev n σ x = .int k a) (hy : ev n σ y = .int k b) (hc : a = b) : Gives P (ev n σ) S (.binOp .neq t x y t') ty (.bool false) := by
  subst hc; have := g_neq (P := P) (S := S) (t := t) (t' := t') (ty := ty) hx hy; rwa [decide_eq_true rfl] at this
theorem g_eqbT {P : Program} {n : Nat} {σ : Nat → Value} {S : World → Prop} {ty t t' : TypeId} {x y : Operand} {a b : Bool} (ht : P.underlying t = some .bool) (hx : ev n σ x = .bool a) (hy : ev n σ y = .bool b) (hc : a = b) : Gives P (ev n σ) S (.binOp .eql t x y t') ty (.bool true) := by
  subst hc; have := g_eqlb (P := P) (S := S) (t' := t') (ty := ty) ht hx hy; rwa [beq_self_eq_true] at this
theorem sized_E (r : Int) (ad : Option Addr) (cap : Nat) (l : List Q4) (size : Int) (p : PatL) (w0 : World) (I0 : Imm) (hI : Sat I0 w0) (hl : RFl I0 4 q4C (.slice ad l.length cap) l) (hq : ∀ q ∈ l, q.wf) (hs : 0 ≤ size ∧ size ≤ 65536) (hp : madeP l size = p) :
    Ctr Tryz.prog 50 [.agg #[.int .u8 r, .slice ad l.length cap], .int .i64 size] w0 (fun v w' => ∃ I' a m c, v = .agg #[.bool p.lifted, .int .i64 p.in_, .int .i64 p.out, .slice a m c] ∧ Ext w0 I0 w' I' ∧ ROps I' (.slice a m c) p.ops) := by
  subst hp; exact sized_c r ad cap l size w0 I0 hI hl hq hs.1 hs.2
theorem same_T (p : PatL) (ad bd : Option Addr) (m cap mb capb : Nat) (w0 : World) (I0 : Imm) (hI : Sat I0 w0) (hops : ROps I0 (.slice ad m cap) p.ops) (hoq : ROps I0 (.slice bd mb capb) p.ops) (hp : p.wf) :
    Ctr Tryz.prog 17 [.agg #[.bool p.lifted, .int .i64 p.in_, .int .i64 p.out, .slice ad m cap], .agg #[.bool p.lifted, .int .i64 p.in_, .int .i64 p.out, .slice bd mb capb]] w0 (fun v w' => v = .bool true ∧ Ext w0 I0 w' I0) :=
  sameR_e p p ad bd m cap mb capb true w0 I0 hI hops hp hoq hp (samePR_refl p)
theorem allP_wf {l : List PatL} (hw : ∀ p ∈ l, p.wf) : (allP l).1.wf := by
  have fold : ∀ (r : List PatL) (o : PatL), o.wf → (∀ p ∈ r, p.wf) → (foldC o r).1.wf := by
    intro r
    induction r with
    | nil => intro o ho _; exact ho
    | cons p r ih =>
      intro o ho hr
      rw [foldC_cons]
      split
      · exact composeP_wf ho (hr p (by simp))
      · exact ih _ (composeP_wf ho (hr p (by simp))) fun q hq => hr q (by simp [hq])
  cases l with
  | nil => exact zero_wf
  | cons p r =>
    rw [allP_cons]
    split
    · exact zero_wf
    · exact fold r _ (formP_wf (hw p (by simp))) fun q hq => hw q (by simp [hq])
theorem fold_split : ∀ (a : List PatL) (y : PatL) (b : List PatL) (T : List Sym), ChainOk T.length (a ++ y :: b) → y.in_ = (foldT T a).length ∧ ChainOk (foldT T a).length (y :: b) ∧ ChainOk T.length a
  | [], y, b, T, h => ⟨h.1, h, trivial⟩
  | q :: a, y, b, T, ⟨c1, c2, c3, c4, c5⟩ => by
    have hk := (checkP_ok c2).2.1
    have hlen : (((symsOf q.ops).map (thr T)).length : Int) = q.out := by rw [List.length_map]; exact hk
    rw [← hlen] at c5
    obtain ⟨h1, h2, h3⟩ := fold_split a y b _ c5
    exact ⟨h1, h2, c1, c2, c3, c4, by rw [← hlen]; exact h3⟩
/-- Two parts of a chain, each by itself, and both together. -/
theorem groups {n : Int} {C : List PatL} {k : Nat} (h0 : 0 ≤ n ∧ n ≤ 65536) (hC : ChainOk n C) (h1 : 1 ≤ k) (h2 : k < C.length) :
    ∃ A B F : PatL, allP (C.take k) = (A, 0) ∧ allP (C.drop k) = (B, 0) ∧ composeP A B = (F, 0) ∧ allP C = (F, 0) := by
  cases C with
  | nil => simp at h2
  | cons p r =>
    obtain ⟨j, rfl⟩ : ∃ j, k = j + 1 := ⟨k - 1, by omega⟩
    simp only [List.length_cons] at h2
    have hr : r = r.take j ++ r.drop j := (List.take_append_drop j r).symm
    obtain ⟨y, b, hb⟩ : ∃ y b, r.drop j = y :: b := by
      cases hd : r.drop j with
      | nil => have := congrArg List.length hd; simp at this; omega
      | cons y b => exact ⟨y, b, rfl⟩
    rw [hb] at hr
    have hC' := hC
    obtain ⟨c1, c2, c3, c4, c5⟩ := hC'
    obtain ⟨k1, k2, k3, k4, k5, k6, k7⟩ := checkP_ok c2
    subst c1
    rw [hr, ← k2] at c5
    obtain ⟨s1, s2, s3⟩ := fold_split _ y b _ c5
    have hA : ChainOk p.in_ (p :: r.take j) := ⟨rfl, c2, c3, c4, by rw [← k2]; exact s3⟩
    obtain ⟨a1, a2, a3⟩ := allP_ok h0 hA
    have hT : ((foldT (symsOf p.ops) (r.take j)).length : Int) ≤ 65536 := by omega
    obtain ⟨b1, b2, b3⟩ := allP_ok (n := ((foldT (symsOf p.ops) (r.take j)).length : Int)) ⟨by omega, hT⟩ s2
    obtain ⟨f1, f2, f3⟩ := allP_ok h0 hC
    generalize hT1 : foldT (symsOf p.ops) (r.take j) = T1 at *
    generalize hT2 : foldT (symsOf y.ops) b = T2 at *
    have hm : 0 ≤ (T1.length : Int) ∧ (T1.length : Int) ≤ 65536 := ⟨by omega, hT⟩
    refine ⟨formOf false p.in_ T1, formOf false T1.length T2, formOf false p.in_ (foldT (symsOf p.ops) r), a1, ?_, ?_, f1⟩
    · rw [show (p :: r).drop (j + 1) = r.drop j from rfl, hb]; exact b1
    · have e : foldT (symsOf p.ops) r = T2.map (thr T1) := by
        conv => lhs; rw [hr]
        rw [foldT_append, hT1, ← hT2]
        exact foldT_map T1 b (symsOf y.ops)
      rw [e]
      have hc := composeP_ok (p := formOf false p.in_ T1) (q := formOf false T1.length T2) (formOf_check h0 a3 a2) (formOf_check hm b3 b2) rfl rfl (by show (T2.length : Int) ≤ 4096; omega)
      have e1 : symsOf (formOf false p.in_ T1).ops = T1 := (optL_spec a2).1
      have e2 : symsOf (formOf false T1.length T2).ops = T2 := (optL_spec b2).1
      rw [e1, e2] at hc
      exact hc

end Go.Proofs.YtlhehhhpaebpoaaGreat

