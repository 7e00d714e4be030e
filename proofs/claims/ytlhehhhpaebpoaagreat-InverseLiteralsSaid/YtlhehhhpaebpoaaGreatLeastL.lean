/- inlaylaw08.NormalLeast: its function answers true. Conditions: arguments are bytes. -/
import Derived.Test.YtlhehhhpaebpoaaGreatOf
namespace Go.Proofs.YtlhehhhpaebpoaaGreat
open Go Go.RowKit Go.Inl
set_option linter.unusedSimpArgs false
set_option linter.unusedVariables false
theorem g_minE {P : Program} {n : Nat} {σ : Nat → Value} {S : World → Prop} {ty : TypeId} {x y : Operand} {K : IntKind} {a b c : Int} {aT : Array TypeId} (hx : ev n σ x = .int K a) (hy : ev n σ y = .int K b) (hc : (if b < a then b else a) = c) : Gives P (ev n σ) S (.call { callee := .builtin .min, args := #[x, y], argTypes := aT }) ty (.int K c) := by
  subst hc; exact g_min hx hy
theorem ofGo_wf {L : Nat} : ∀ (m : Nat) (l : List Sym), (∀ s ∈ l, s.wf) → l.length ≤ 1000000 → ∀ x ∈ ofGo m l, x.wf
  | 0, l, _, _, x, hx => by simp [ofGo] at hx
  | m + 1, [], _, _, x, hx => by simp [ofGo] at hx
  | m + 1, s :: r, hw, hn, x, hx => by
    rw [ofGo] at hx
    rcases List.mem_cons.1 hx with rfl | hx
    · refine opS_wf ?_ (fun t ht => hw t (List.mem_of_mem_take ht)) (by rw [List.length_take]; omega)
      have := kindP_bd s
      unfold Mid; omega
    · exact ofGo_wf (L := L) m _ (fun t ht => hw t (List.mem_of_mem_drop ht)) (by rw [List.length_drop]; omega) x hx
def ofOf (n : Int) (l : List Sym) : PatL := ⟨false, n, l.length, ofP l⟩
theorem ofOf_wf {n : Int} {l : List Sym} (h0 : 0 ≤ n ∧ n ≤ 65536) (hl : l.length ≤ 4096) (hw : ∀ s ∈ l, s.wf) : (ofOf n l).wf := by
  refine ⟨⟨by show _ ≤ n; omega, by show n ≤ _; omega⟩, ⟨by show _ ≤ (l.length : Int); omega, by show (l.length : Int) ≤ _; omega⟩, ofGo_wf (L := 0) _ _ hw (by omega), ?_⟩
  have := ofGo_len l.length l
  show ((ofGo l.length l).length : Int) ≤ _
  omega
theorem ofOf_check {n : Int} {l : List Sym} (h0 : 0 ≤ n ∧ n ≤ 65536) (hl : l.length ≤ 4096) (ok : okL n l) : (checkP (ofOf n l)).2 = 0 := by
  obtain ⟨h1, h2⟩ := ofP_ok ok
  have := ofGo_len l.length l
  exact checkP_right h0 h1 (by show ((symsOf (ofP l)).length : Int) = l.length; rw [h2]) (by show (l.length : Int) ≤ _; omega) (by show (ofGo l.length l).length ≤ 4096; omega)
theorem ofPP_ok {n : Int} {l : List Sym} (h0 : 0 ≤ n ∧ n ≤ 65536) (hl : l.length ≤ 4096) (ok : okL n l) : ofPP l n = (ofOf n l, 0) := by
  unfold ofPP
  have h2 : l.any (strange n) = false := by rw [List.any_eq_false]; intro s hs; rw [ok s hs]; simp
  have := ofGo_len l.length l
  rw [if_neg (by simp [h2]; omega), if_neg (by show ¬ 4096 < ((ofGo l.length l).length : Int); omega)]
  rfl
theorem sumC_nonneg {n : Int} : ∀ (l : List OpL), OpsOk n l → 0 ≤ sumC l
  | [], _ => Int.le_refl _
  | x :: l, h => by
    have h1 := sumC_nonneg l fun y hy => h y (by simp [hy])
    have h2 := opc_pos (k := x.kind) (n := x.len) (by have := (h x (by simp)).1; omega)
    unfold sumC; omega

theorem right_o (n : Int) (l : List Sym) (ad : Option Addr) (m cap : Nat) (w0 : World) (I0 : Imm) (hI : Sat I0 w0) (hops : ROps I0 (.slice ad m cap) (ofP l)) (hw : ∀ s ∈ l, s.wf) (h0 : 0 ≤ n ∧ n ≤ 65536) (hn : l.length ≤ 4096) (ok : okL n l) :
    Ctr Tryz.prog 20 [.agg #[.bool false, .int .i64 n, .int .i64 l.length, .slice ad m cap]] w0 (fun v w' => v = .bool true ∧ Ext w0 I0 w' I0) := by
  have h := rightP_c (ofOf n l) ad m cap w0 I0 hI hops (ofOf_wf h0 hn hw)
  rw [checkR_of (ofOf_check h0 hn ok)] at h
  exact h

end Go.Proofs.YtlhehhhpaebpoaaGreat

