/- Contracts of packages normal and inlayref06 at right symbols; slices of slices. Conditions: none. -/
import Derived.Test.YtlhehhhpaebpoaaGreatRefuses
import Derived.Test.YtlhehhhpaebpoaaGreatKOpt
namespace Go.Proofs.YtlhehhhpaebpoaaGreat
open Go Go.RowKit Go.Inl
set_option linter.unusedSimpArgs false
set_option linter.unusedVariables false
theorem _root_.Go.Inl.RSl.resl2 {α : Type} {I : Imm} {sz : Nat} {R : List Value → α → Prop} {ad : Option Addr} {len cap : Nat} {xs : List α} (hr : RSl I sz R (.slice ad len cap) xs) (l h : Nat) (hlh : l ≤ h) (hh : h ≤ xs.length) :
    RSl I sz R (Inl.resl (.slice ad len cap) l h cap sz) ((xs.take h).drop l) ∧ h ≤ cap ∧ len = xs.length := by
  rcases hr with ⟨⟨a, c, e, hc, hn⟩, rfl⟩ | ⟨b, o, c, h1, h2, h3, h4⟩
  · cases e
    simp at hh; subst hh; simp at hlh; subst hlh
    refine ⟨.inl ⟨⟨if cap = 0 then ad else ad.map (·.add (0 * sz)), cap, by simp [Inl.resl], hc, fun h => ?_⟩, by simp⟩, by omega, rfl⟩
    split at h
    · assumption
    · cases ad with
      | none => exact hn rfl
      | some a => simp at h
  · cases h1
    have hlen : ((xs.take h).drop l).length = h - l := by simp [Nat.min_eq_left hh]
    refine ⟨?_, by omega, rfl⟩
    by_cases e : cap = l
    · subst e
      refine .inr ⟨b, o, 0, ?_, by omega, by simp, fun i x hx => ?_⟩
      · simp only [Inl.resl, if_true, Nat.sub_self, hlen]
      · have := (List.getElem?_eq_some_iff.1 hx).1
        omega
    · refine .inr ⟨b, o + l * sz, cap - l, by rw [hlen]; simp [Inl.resl, e, addr_add], by omega, by omega, ?_⟩
      intro i x hx
      rw [List.getElem?_drop, List.getElem?_take] at hx
      split at hx
      · obtain ⟨cs, c1, c2, c3⟩ := h4 _ _ hx
        exact ⟨cs, c1, by rw [show o + l * sz + i * sz = o + (l + i) * sz by rw [Nat.add_mul]; omega]; exact c2, c3⟩
      · cases hx
theorem _root_.Go.Inl.RSl.slH {α : Type} {I : Imm} {sz : Nat} {R : List Value → α → Prop} {ad : Option Addr} {len cap : Nat} {xs : List α} (hr : RSl I sz R (.slice ad len cap) xs) (h : Nat) (hh : h ≤ xs.length) :
    RSl I sz R (Inl.resl (.slice ad len cap) 0 h cap sz) (xs.take h) := by
  have := (hr.resl2 0 h (by omega) hh).1
  rwa [List.drop_zero] at this
theorem _root_.Go.Inl.RSl.slL {α : Type} {I : Imm} {sz : Nat} {R : List Value → α → Prop} {ad : Option Addr} {len cap : Nat} {xs : List α} (hr : RSl I sz R (.slice ad len cap) xs) (l : Nat) (hl : l ≤ xs.length) :
    RSl I sz R (Inl.resl (.slice ad len cap) l len cap sz) (xs.drop l) := by
  have h0 := (hr.resl2 0 0 (by omega) (by omega)).2.2
  have := (hr.resl2 l xs.length hl (Nat.le_refl _)).1
  rw [List.take_length, ← h0] at this
  exact this
theorem g_remE {P : Program} {n : Nat} {σ : Nat → Value} {S : World → Prop} {ty t t' : TypeId} {x y : Operand} {k : IntKind} {a b c : Int} (hx : ev n σ x = .int k a) (hy : ev n σ y = .int k b) (ha : 0 ≤ a) (hb : 0 < b) (hc : a % b = c) : Gives P (ev n σ) S (.binOp .rem t x y t') ty (.int k c) := by
  subst hc; exact g_rem hx hy ha hb
theorem g_addE {P : Program} {n : Nat} {σ : Nat → Value} {S : World → Prop} {ty t t' : TypeId} {x y : Operand} {a b c : Int} (hx : ev n σ x = .int .i64 a) (hy : ev n σ y = .int .i64 b) (h0 : -9223372036854775808 ≤ a + b) (h1 : a + b ≤ 9223372036854775807) (hc : a + b = c) : Gives P (ev n σ) S (.binOp .add t x y t') ty (.int .i64 c) := by
  subst hc; exact g_add hx hy h0 h1
theorem g_addwE {P : Program} {n : Nat} {σ : Nat → Value} {S : World → Prop} {ty t t' : TypeId} {x y : Operand} {k : IntKind} {a b c : Int} (hx : ev n σ x = .int k a) (hy : ev n σ y = .int k b) (hc : k.wrap (a + b) = c) : Gives P (ev n σ) S (.binOp .add t x y t') ty (.int k c) := by
  subst hc; exact g_addw hx hy
theorem best_bd (l : List Sym) : 0 ≤ (bestP l).cost ∧ (bestP l).cost ≤ 6 * (l.length : Int) := by
  have h := tab_getD l 0 (Nat.zero_le _)
  have h1 := tab_length l
  have h2 : (tab l)[0]? = some (topP l) := by
    rw [List.getElem?_eq_getElem (by omega)]
    rw [List.getD_eq_getElem?_getD, List.getElem?_eq_getElem (by omega), Option.getD_some, List.drop_zero] at h
    rw [h]
  have h3 := (tab_good l 0 _ h2).best
  simp only [Pr.ok] at h3
  exact ⟨h3.1, by have := h3.2.1; show (topP l).best.cost ≤ _; omega⟩
theorem fit_ok {s : Sym} {size : Int} (h : s.fit size) : strange size s = false := by
  obtain ⟨h1, h2, _, _⟩ := h
  cases ho : s.old with
  | true => have := h1 ho; simp [strange, ho]; omega
  | false => have := h2 ho; simp [strange, ho]; omega
theorem symsRaw_ok {l : List Q2} {size : Int} (hq : ∀ q ∈ l, q.wf) : okL size (symsRaw l size) := fun s hs => fit_ok (symsRaw_fit hq s hs)
theorem cheapP_wf0 {l : List Sym} {n : Int} (h0 : 0 ≤ n ∧ n ≤ 65536) (hl : l.length ≤ 4096) (ok : okL n l) (hw : ∀ s ∈ l, s.wf) : (formOf false n l).wf := by
  have := cheapP_wf (l := l) (n := n) hw
  rw [cheapP_ok h0 hl ok] at this
  exact this
theorem formOf_wf {b : Bool} {l : List Sym} {n : Int} (h0 : 0 ≤ n ∧ n ≤ 65536) (hl : l.length ≤ 4096) (ok : okL n l) (hw : ∀ s ∈ l, s.wf) : (formOf b n l).wf := by
  have h := cheapP_wf0 h0 hl ok hw
  exact ⟨h.in_, h.out, h.ops, h.len⟩
theorem rightR_of {x : OpL} {n : Int} (h1 : 1 ≤ x.len) (h2 : x.len ≤ 65536) (h3 : rightP x n = true) : rightR x n = true := by
  unfold rightR rightP insideP inS at *
  simp only [Bool.and_eq_true, decide_eq_true_eq] at *
  refine ⟨⟨h1, h2⟩, ?_⟩
  by_cases k1 : x.kind = 1
  · simp [k1] at h3 ⊢; omega
  · by_cases k2 : x.kind = 2
    · simp [k2] at h3 ⊢; omega
    · by_cases k3 : x.kind = 3
      · simp [k3] at h3 ⊢; omega
      · by_cases k4 : x.kind = 4
        · simp [k4] at h3 ⊢; omega
        · simp [k1, k2, k3, k4] at h3
theorem checkRGo_right {n out : Int} : ∀ (l : List OpL) (sum i : Int), OpsOk n l → out ≤ 65536 → sum + ((symsOf l).length : Int) = out → 0 ≤ sum → (checkRGo n out l sum i).2 = 0
  | [], sum, i, _, _, h, _ => by
    simp [symsOf] at h
    unfold checkRGo; rw [if_pos (by omega)]
  | x :: l, sum, i, hr, hb, h, h0 => by
    obtain ⟨h1, h2⟩ := hr x (by simp)
    rw [symsOf_cons, List.length_append, symsOp_length] at h
    unfold checkRGo
    rw [if_neg (by rw [rightR_of h1 (by omega) h2]; simp; omega)]
    exact checkRGo_right l _ _ (fun y hy => hr y (by simp [hy])) hb (by omega) (by omega)
theorem checkR_right {p : PatL} (h0 : 0 ≤ p.in_ ∧ p.in_ ≤ 65536) (h1 : OpsOk p.in_ p.ops) (h2 : ((symsOf p.ops).length : Int) = p.out) (h3 : p.out ≤ 65536) (h4 : p.ops.length ≤ 4096) : (checkR p).2 = 0 := by
  unfold checkR
  rw [if_neg (by simp [inS]; omega)]
  exact checkRGo_right _ _ _ h1 h3 (by omega) (by omega)
theorem checkR_of {p : PatL} (h : (checkP p).2 = 0) : (checkR p).2 = 0 := by
  obtain ⟨h1, h2, h3, h4, h5, h6, h7⟩ := checkP_ok h
  exact checkR_right ⟨h3, h4⟩ h1 h2 h6 h7
theorem sumR_eq {n : Int} : ∀ (l : List OpL), OpsOk n l → sumR l = sumC l
  | [], _ => rfl
  | x :: l, h => by
    have hk := right_kind (h x (by simp)).2
    unfold sumR sumC
    rw [sumR_eq l fun y hy => h y (by simp [hy])]
    congr 1
    unfold costR opc
    by_cases h1 : x.kind = 1
    · simp [h1]
    · by_cases h2 : x.kind = 2
      · simp [h2]
      · by_cases h3 : x.kind = 3
        · simp [h3]
        · have h4 : x.kind = 4 := by omega
          simp [h4]
theorem ops_len_bd {n : Int} : ∀ (l : List OpL), OpsOk n l → ∀ x ∈ l, 0 ≤ x.len ∧ x.len ≤ ((symsOf l).length : Int)
  | [], _, x, hx => by simp at hx
  | y :: l, h, x, hx => by
    rw [symsOf_cons, List.length_append, symsOp_length]
    rcases List.mem_cons.1 hx with rfl | hx
    · have := (h x (by simp)).1
      exact ⟨by omega, by omega⟩
    · have := ops_len_bd l (fun z hz => h z (by simp [hz])) x hx
      exact ⟨this.1, by omega⟩

theorem cheapest_v (vl : Value) (l : List Sym) (size : Int) (w0 : World) (I0 : Imm) (hI : Sat I0 w0) (hl : RSyms I0 vl l) (hw : ∀ s ∈ l, s.wf) (h0 : 0 ≤ size ∧ size ≤ 65536) (hn : l.length ≤ 4096) (ok : okL size l) :
    Ctr Tryz.prog 35 [vl, .int .i64 size] w0 (fun v w' => ∃ I' a m c, v = .tuple #[.agg #[.bool false, .int .i64 size, .int .i64 l.length, .slice a m c], .int .i64 0] ∧ Ext w0 I0 w' I' ∧ ROps I' (.slice a m c) (optL l)) := by
  obtain ⟨ad, cap, rfl, _⟩ := hl.len
  exact cheapest_e ad _ cap l size ⟨false, size, l.length, optL l⟩ 0 w0 I0 hI hl rfl hw (cheapP_ok h0 hn ok)
theorem right_f (b : Bool) (n : Int) (l : List Sym) (ad : Option Addr) (m cap : Nat) (w0 : World) (I0 : Imm) (hI : Sat I0 w0) (hops : ROps I0 (.slice ad m cap) (optL l)) (hw : ∀ s ∈ l, s.wf) (h0 : 0 ≤ n ∧ n ≤ 65536) (hn : l.length ≤ 4096) (ok : okL n l) :
    Ctr Tryz.prog 20 [.agg #[.bool b, .int .i64 n, .int .i64 l.length, .slice ad m cap]] w0 (fun v w' => v = .bool true ∧ Ext w0 I0 w' I0) := by
  have h := rightP_c (formOf b n l) ad m cap w0 I0 hI hops (formOf_wf h0 hn ok hw)
  rw [checkR_of (formOf_check h0 hn ok)] at h
  exact h

end Go.Proofs.YtlhehhhpaebpoaaGreat

