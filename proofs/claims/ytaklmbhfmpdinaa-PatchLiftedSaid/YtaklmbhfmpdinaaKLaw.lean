/- The functions of package inlaylaw08 that look at fixed examples: what they compute. Conditions: numbers within bounds. inlaylaw08.sanity: it is true. Conditions: none. inlaylaw08.NormalRefuses: its function answers true. Conditions: arguments are bytes and 32-bit numbers. Contracts of packages normal and inlayref06 at right symbols; slices of slices. Conditions: none. -/
import Derived.Test.YtaklmbhfmpdinaaKRef6
import Derived.Test.YtaklmbhfmpdinaaKCore2
import Derived.Test.YtaklmbhfmpdinaaKOpt
namespace Go.Proofs.Ytaklmbhfmpdinaa
open Go Go.RowKit Go.Inl
set_option linter.unusedSimpArgs false
set_option linter.unusedVariables false
theorem opS_wf {kind : Int} {l : List Sym} (hk : Mid kind) (hw : ∀ s ∈ l, s.wf) (hn : l.length ≤ 1000000) : (opS kind l).wf := by
  have hh : (l.headD ⟨false, 0, 0⟩).wf := by
    cases l with
    | nil => exact ⟨by decide, by decide, by decide, by decide⟩
    | cons s l => exact hw s (by simp)
  obtain ⟨h1, h2, h3, h4⟩ := hh
  refine ⟨hk, ?_, ?_, ?_, ?_⟩
  · show Mid (if kind = 1 ∨ kind = 2 then _ else _)
    unfold Mid
    split <;> omega
  · show Mid (l.length : Int)
    unfold Mid
    omega
  · show 0 ≤ (if kind = 3 then _ else _) ∧ (if kind = 3 then _ else _) ≤ 255
    split <;> omega
  · intro y hy
    have hy' : y ∈ if kind = 2 ∨ kind = 4 then l.map (·.b) else [] := hy
    split at hy'
    · obtain ⟨s, hs, rfl⟩ := List.mem_map.1 hy'
      exact ⟨(hw s hs).2.2.1, (hw s hs).2.2.2⟩
    · simp at hy'
theorem opsT_wf {l : List Sym} (hw : ∀ s ∈ l, s.wf) (hn : l.length ≤ 1000000) : ∀ (f i : Nat), ∀ x ∈ opsT (tab l) l f i, x.wf
  | 0, i, x, hx => by simp [opsT] at hx
  | f + 1, i, x, hx => by
    by_cases hi : i < l.length
    · have htl := tab_length l
      obtain ⟨p, hp⟩ : ∃ p, (tab l)[i]? = some p := ⟨_, List.getElem?_eq_getElem (by omega)⟩
      rw [opsT_step hi hp] at hx
      rcases List.mem_cons.1 hx with rfl | hx
      · refine opS_wf (tab_kind l i p hp) (fun s hs => hw s (List.mem_of_mem_take (List.mem_of_mem_drop hs))) ?_
        rw [List.length_drop, List.length_take]; omega
      · exact opsT_wf hw hn f _ x hx
    · rw [opsT_end hi] at hx; simp at hx
theorem opsT_len (t : List Pl) (l : List Sym) : ∀ (f i : Nat), (opsT t l f i).length ≤ f
  | 0, i => by simp [opsT]
  | f + 1, i => by
    by_cases hi : i < l.length
    · simp only [opsT, hi, if_true, List.length_cons]
      have := opsT_len t l f (i + (t.getD i Pl.zero).length.toNat)
      omega
    · rw [opsT_end hi]; simp
theorem zero_wf : PatL.zero.wf := ⟨⟨by decide, by decide⟩, ⟨by decide, by decide⟩, fun x hx => by simp [PatL.zero] at hx, by decide⟩
theorem cheapP_wf {l : List Sym} {n : Int} (hw : ∀ s ∈ l, s.wf) : (cheapP l n).1.wf := by
  unfold cheapP
  split
  · exact zero_wf
  · rename_i h
    simp only [Bool.or_eq_true, decide_eq_true_eq, not_or] at h
    split
    · exact zero_wf
    · refine ⟨⟨by dsimp only; omega, by dsimp only; omega⟩, ⟨by dsimp only; omega, by dsimp only; omega⟩, opsT_wf hw (by omega) _ _, ?_⟩
      have := opsT_len (tab l) l (l.length + 1) 0
      dsimp only; omega
theorem formP_wf {p : PatL} (hp : p.wf) : (formP p).1.wf := by
  have h := cheapP_wf (n := p.in_) (symsOf_wf hp)
  unfold formP
  split
  · dsimp only
    split
    · exact ⟨h.in_, h.out, h.ops, h.len⟩
    · exact h
  · exact zero_wf
theorem wf_bytes {p : PatL} (hp : p.wf) : ∀ x ∈ p.ops, ∀ z ∈ x.data, 0 ≤ z ∧ z ≤ 255 := fun x hx => (hp.ops x hx).data
def litS (bs : List Int) : List Sym := bs.map fun b => ⟨false, 0, b⟩
def formsP (l : List Sym) (ops : List OpL) : Bool := decide ((cheapP l 4).2 = 0) && samePR (cheapP l 4).1 ⟨false, 4, l.length, ops⟩

theorem sameR_e (p q : PatL) (ad bd : Option Addr) (m cap mb capb : Nat) (b : Bool) (w0 : World) (I0 : Imm) (hI : Sat I0 w0) (hops : ROps I0 (.slice ad m cap) p.ops) (hp : p.wf) (hoq : ROps I0 (.slice bd mb capb) q.ops) (hq : q.wf) (he : samePR p q = b) :
    Ctr Try.prog 18 [.agg #[.bool p.lifted, .int .i64 p.in_, .int .i64 p.out, .slice ad m cap], .agg #[.bool q.lifted, .int .i64 q.in_, .int .i64 q.out, .slice bd mb capb]] w0 (fun v w' => v = .bool b ∧ Ext w0 I0 w' I0) := by
  have h := sameR_c p q ad bd m cap mb capb w0 I0 hI hops (wf_bytes hp) hoq (wf_bytes hq)
  rw [he] at h
  exact h


end Go.Proofs.Ytaklmbhfmpdinaa


namespace Go.Proofs.Ytaklmbhfmpdinaa
open Go Go.RowKit Go.Inl
set_option linter.unusedSimpArgs false
set_option linter.unusedVariables false
theorem lit_wf {bs : List Int} (h : ∀ b ∈ bs, 0 ≤ b ∧ b ≤ 255) : ∀ s ∈ litS bs, s.wf := by
  intro s hs
  obtain ⟨b, hb, rfl⟩ := List.mem_map.1 hs
  exact ⟨by dsimp only; omega, by dsimp only; omega, (h b hb).1, (h b hb).2⟩
def okB (b : Int) : Bool := decide (0 ≤ b) && decide (b ≤ 255)
def okM (b : Int) : Bool := decide (-1099511627776 ≤ b) && decide (b ≤ 1099511627776)
def okSym (s : Sym) : Bool := okM s.at_ && okB s.b
def okOp (x : OpL) : Bool := okM x.kind && okM x.from_ && okM x.len && okB x.b && x.data.all okB
theorem okB_s {b : Int} (h : okB b = true) : 0 ≤ b ∧ b ≤ 255 := by simpa [okB] using h
theorem okM_s {b : Int} (h : okM b = true) : Mid b := by unfold Mid; simpa [okM] using h
theorem okSyms {l : List Sym} (h : l.all okSym = true) : ∀ s ∈ l, s.wf := fun s hs => by
  have := List.all_eq_true.1 h s hs
  simp only [okSym, Bool.and_eq_true] at this
  exact ⟨(okM_s this.1).1, (okM_s this.1).2, (okB_s this.2).1, (okB_s this.2).2⟩
theorem okOps {l : List OpL} (h : l.all okOp = true) : ∀ x ∈ l, x.wf := fun x hx => by
  have := List.all_eq_true.1 h x hx
  simp only [okOp, Bool.and_eq_true] at this
  obtain ⟨⟨⟨⟨h1, h2⟩, h3⟩, h4⟩, h5⟩ := this
  exact ⟨okM_s h1, okM_s h2, okM_s h3, okB_s h4, fun y hy => okB_s (List.all_eq_true.1 h5 y hy)⟩
def p2 : PatL := ⟨true, 2, 0, []⟩
def p3 : PatL := ⟨false, 2, 0, []⟩
def p1 : PatL := ⟨false, 0, 1, []⟩
theorem small_wf (a : Bool) (n m : Int) (hn : Mid n) (hm : Mid m) : (⟨a, n, m, []⟩ : PatL).wf := ⟨hn, hm, fun x hx => by simp at hx, by simp⟩
theorem mid2 : Mid 2 := ⟨by decide, by decide⟩
theorem mid1 : Mid 1 := ⟨by decide, by decide⟩
theorem mid0 : Mid 0 := ⟨by decide, by decide⟩

end Go.Proofs.Ytaklmbhfmpdinaa


namespace Go.Proofs.Ytaklmbhfmpdinaa
open Go Go.RowKit Go.Inl
set_option linter.unusedSimpArgs false
set_option linter.unusedVariables false
theorem symsRaw_len (l : List Q2) (size : Int) : (symsRaw l size).length ≤ 20 := by
  unfold symsRaw
  rw [rawGo_length, List.length_take]; omega
theorem fit_wf {s : Sym} {size : Int} (h : s.fit size) (hs : size ≤ 65536) : s.wf := by
  obtain ⟨h1, h2, h3, h4⟩ := h
  cases ho : s.old
  · have := h2 ho; exact ⟨by omega, by omega, by omega, by omega⟩
  · have := h1 ho; exact ⟨by omega, by omega, by omega, by omega⟩
theorem symsRaw_fit {l : List Q2} {size : Int} (hq : ∀ q ∈ l, q.wf) : ∀ s ∈ symsRaw l size, s.fit size :=
  rawGo_fit _ fun q hq' => hq q (List.mem_of_mem_take hq')
theorem symsRaw_wf {l : List Q2} {size : Int} (hq : ∀ q ∈ l, q.wf) (hs : size ≤ 65536) : ∀ s ∈ symsRaw l size, s.wf := fun s h => fit_wf (symsRaw_fit hq s h) hs
theorem u16_bd (a : Int) : 0 ≤ IntKind.u16.wrap a ∧ IntKind.u16.wrap a ≤ 65535 := by
  rw [IntKind.wrap_u16]; omega
theorem cheapP_strange {l : List Sym} {s : Sym} {n : Int} (h : strange n s = true) : cheapP (l ++ [s]) n = (PatL.zero, 60) := by
  unfold cheapP
  rw [if_pos]
  simp [h]
theorem cheapP_nil (n : Int) : cheapP [] n = if 0 ≤ n ∧ n ≤ 65536 then (⟨false, n, 0, []⟩, 0) else (PatL.zero, 60) := by
  unfold cheapP
  by_cases h : 0 ≤ n ∧ n ≤ 65536
  · rw [if_pos h, if_neg (by simp; omega)]; rfl
  · rw [if_neg h, if_pos (by simp; omega)]
theorem checkGo_60 {n : Int} : ∀ (l : List OpL) (left i : Int), (checkGo n l left i).2 = 60 ∨ (checkGo n l left i).2 = 0
  | [], left, i => by unfold checkGo; split <;> simp
  | x :: l, left, i => by
    unfold checkGo
    split
    · exact .inl rfl
    · exact checkGo_60 l _ _
theorem checkP_60 (p : PatL) : (checkP p).2 = 60 ∨ (checkP p).2 = 0 := by
  unfold checkP
  split
  · exact .inl rfl
  · exact checkGo_60 _ _ _
theorem symsOf_sum : ∀ (l : List OpL), (∀ x ∈ l, 0 ≤ x.len) → ((symsOf l).length : Int) = sumL l
  | [], _ => rfl
  | x :: l, h => by
    have := h x (by simp)
    rw [symsOf_cons, List.length_append, symsOp_length, sumL, ← symsOf_sum l fun y hy => h y (by simp [hy])]; omega
theorem opsRaw_mem {l : List Q4} {size : Int} {x : OpL} (h : x ∈ opsRaw l size) : ∃ q ∈ l, x = opRaw q size := by
  obtain ⟨q, hq, rfl⟩ := List.mem_map.1 h
  exact ⟨q, List.mem_of_mem_take hq, rfl⟩
theorem sumL_bd : ∀ (l : List OpL), (∀ x ∈ l, 0 ≤ x.len ∧ x.len ≤ 5) → 0 ≤ sumL l ∧ sumL l ≤ 5 * (l.length : Int)
  | [], _ => by simp [sumL]
  | x :: l, h => by
    have h1 := h x (by simp)
    have h2 := sumL_bd l fun y hy => h y (by simp [hy])
    rw [sumL, List.length_cons]; omega
theorem opsRaw_len {l : List Q4} {size : Int} (hq : ∀ q ∈ l, q.wf) (hs : 0 ≤ size) : ∀ x ∈ opsRaw l size, 0 ≤ x.len ∧ x.len ≤ 5 := fun x hx => by
  obtain ⟨q, hq', rfl⟩ := opsRaw_mem hx
  have := lenRaw_bd (hq q hq') hs
  exact ⟨by show 0 ≤ lenRaw q size; omega, by show lenRaw q size ≤ 5; omega⟩
theorem madeP_out {l : List Q4} {size : Int} (hq : ∀ q ∈ l, q.wf) (hs : 0 ≤ size) : 0 ≤ (madeP l size).out ∧ (madeP l size).out ≤ 30 := by
  have h := sumL_bd (opsRaw l size) (opsRaw_len hq hs)
  have h6 : (opsRaw l size).length ≤ 6 := by unfold opsRaw; rw [List.length_map, List.length_take]; omega
  exact ⟨h.1, by show sumL _ ≤ 30; omega⟩
theorem madeP_wf' {l : List Q4} {size : Int} (hq : ∀ q ∈ l, q.wf) (hs : 0 ≤ size ∧ size ≤ 65536) (a : Bool) (o : Int) (ho : Mid o) : (⟨a, size, o, opsRaw l size⟩ : PatL).wf := by
  have h6 : (opsRaw l size).length ≤ 6 := by unfold opsRaw; rw [List.length_map, List.length_take]; omega
  refine ⟨⟨by dsimp only; omega, by dsimp only; omega⟩, ho, fun x hx => ?_, by dsimp only; omega⟩
  obtain ⟨q, hq', rfl⟩ := opsRaw_mem hx
  exact opRaw_wf (hq q hq') hs
theorem madeP_wf {l : List Q4} {size : Int} (hq : ∀ q ∈ l, q.wf) (hs : 0 ≤ size ∧ size ≤ 65536) : (madeP l size).wf := by
  have := madeP_out hq hs.1
  exact madeP_wf' hq hs false _ ⟨by show _ ≤ (madeP l size).out; omega, by show (madeP l size).out ≤ _; omega⟩
theorem symbolsP_long {l : List Q4} {size o : Int} (hq : ∀ q ∈ l, q.wf) (hs : 0 ≤ size) (a : Bool) (h : sumL (opsRaw l size) < o) : symbolsP ⟨a, size, o, opsRaw l size⟩ = ([], 60) := by
  have h0 : (checkP ⟨a, size, o, opsRaw l size⟩).2 = 60 := by
    rcases checkP_60 ⟨a, size, o, opsRaw l size⟩ with h1 | h1
    · exact h1
    · have h2 := (checkP_ok h1).2.1
      rw [symsOf_sum _ fun x hx => (opsRaw_len hq hs x hx).1] at h2
      dsimp only at h2
      omega
  unfold symbolsP
  rw [h0]; rfl

end Go.Proofs.Ytaklmbhfmpdinaa


namespace Go.Proofs.Ytaklmbhfmpdinaa
open Go Go.RowKit Go.Inl
set_option linter.unusedSimpArgs false
set_option linter.unusedVariables false
theorem _root_.Go.Inl.RSl.resl2 {α : Type} {I : Imm} {sz : Nat} {R : List Value → α → Prop} {ad : Option Addr} {len cap : Nat} {xs : List α} (hr : RSl I sz R (.slice ad len cap) xs) (l h : Nat) (hlh : l ≤ h) (hh : h ≤ xs.length) :
    RSl I sz R (Inl.resl (.slice ad len cap) l h cap sz) ((xs.take h).drop l) ∧ h ≤ cap ∧ len = xs.length := by
  rcases hr with ⟨⟨a, c, e, hc, hn⟩, rfl⟩ | ⟨b, o, c, h1, h2, h3, h4⟩
  · cases e
    simp at hh; subst hh; simp at hlh; subst hlh
    refine ⟨.inl ⟨⟨if cap = 0 then ad else ad.map (·.add (0 * sz)), cap, by simp [Inl.resl], hc, fun h => ?_⟩, by simp⟩, by omega, rfl⟩
    split at h
    · assumption
    · cases ad with
      | none => exact hn rfl
      | some a => simp at h
  · cases h1
    have hlen : ((xs.take h).drop l).length = h - l := by simp [Nat.min_eq_left hh]
    refine ⟨?_, by omega, rfl⟩
    by_cases e : cap = l
    · subst e
      refine .inr ⟨b, o, 0, ?_, by omega, by simp, fun i x hx => ?_⟩
      · simp only [Inl.resl, if_true, Nat.sub_self, hlen]
      · have := (List.getElem?_eq_some_iff.1 hx).1
        omega
    · refine .inr ⟨b, o + l * sz, cap - l, by rw [hlen]; simp [Inl.resl, e, addr_add], by omega, by omega, ?_⟩
      intro i x hx
      rw [List.getElem?_drop, List.getElem?_take] at hx
      split at hx
      · obtain ⟨cs, c1, c2, c3⟩ := h4 _ _ hx
        exact ⟨cs, c1, by rw [show o + l * sz + i * sz = o + (l + i) * sz by rw [Nat.add_mul]; omega]; exact c2, c3⟩
      · cases hx
theorem _root_.Go.Inl.RSl.slH {α : Type} {I : Imm} {sz : Nat} {R : List Value → α → Prop} {ad : Option Addr} {len cap : Nat} {xs : List α} (hr : RSl I sz R (.slice ad len cap) xs) (h : Nat) (hh : h ≤ xs.length) :
    RSl I sz R (Inl.resl (.slice ad len cap) 0 h cap sz) (xs.take h) := by
  have := (hr.resl2 0 h (by omega) hh).1
  rwa [List.drop_zero] at this
theorem _root_.Go.Inl.RSl.slL {α : Type} {I : Imm} {sz : Nat} {R : List Value → α → Prop} {ad : Option Addr} {len cap : Nat} {xs : List α} (hr : RSl I sz R (.slice ad len cap) xs) (l : Nat) (hl : l ≤ xs.length) :
    RSl I sz R (Inl.resl (.slice ad len cap) l len cap sz) (xs.drop l) := by
  have h0 := (hr.resl2 0 0 (by omega) (by omega)).2.2
  have := (hr.resl2 l xs.length hl (Nat.le_refl _)).1
  rw [List.take_length, ← h0] at this
  exact this
theorem g_remE {P : Program} {n : Nat} {σ : Nat → Value} {S : World → Prop} {ty t t' : TypeId} {x y : Operand} {k : IntKind} {a b c : Int} (hx : ev n σ x = .int k a) (hy : ev n σ y = .int k b) (ha : 0 ≤ a) (hb : 0 < b) (hc : a % b = c) : Gives P (ev n σ) S (.binOp .rem t x y t') ty (.int k c) := by
  subst hc; exact g_rem hx hy ha hb
theorem g_addE {P : Program} {n : Nat} {σ : Nat → Value} {S : World → Prop} {ty t t' : TypeId} {x y : Operand} {a b c : Int} (hx : ev n σ x = .int .i64 a) (hy : ev n σ y = .int .i64 b) (h0 : -9223372036854775808 ≤ a + b) (h1 : a + b ≤ 9223372036854775807) (hc : a + b = c) : Gives P (ev n σ) S (.binOp .add t x y t') ty (.int .i64 c) := by
  subst hc; exact g_add hx hy h0 h1
theorem g_addwE {P : Program} {n : Nat} {σ : Nat → Value} {S : World → Prop} {ty t t' : TypeId} {x y : Operand} {k : IntKind} {a b c : Int} (hx : ev n σ x = .int k a) (hy : ev n σ y = .int k b) (hc : k.wrap (a + b) = c) : Gives P (ev n σ) S (.binOp .add t x y t') ty (.int k c) := by
  subst hc; exact g_addw hx hy
theorem best_bd (l : List Sym) : 0 ≤ (bestP l).cost ∧ (bestP l).cost ≤ 6 * (l.length : Int) := by
  have h := tab_getD l 0 (Nat.zero_le _)
  have h1 := tab_length l
  have h2 : (tab l)[0]? = some (topP l) := by
    rw [List.getElem?_eq_getElem (by omega)]
    rw [List.getD_eq_getElem?_getD, List.getElem?_eq_getElem (by omega), Option.getD_some, List.drop_zero] at h
    rw [h]
  have h3 := (tab_good l 0 _ h2).best
  simp only [Pr.ok] at h3
  exact ⟨h3.1, by have := h3.2.1; show (topP l).best.cost ≤ _; omega⟩
theorem fit_ok {s : Sym} {size : Int} (h : s.fit size) : strange size s = false := by
  obtain ⟨h1, h2, _, _⟩ := h
  cases ho : s.old with
  | true => have := h1 ho; simp [strange, ho]; omega
  | false => have := h2 ho; simp [strange, ho]; omega
theorem symsRaw_ok {l : List Q2} {size : Int} (hq : ∀ q ∈ l, q.wf) : okL size (symsRaw l size) := fun s hs => fit_ok (symsRaw_fit hq s hs)
theorem cheapP_wf0 {l : List Sym} {n : Int} (h0 : 0 ≤ n ∧ n ≤ 65536) (hl : l.length ≤ 4096) (ok : okL n l) (hw : ∀ s ∈ l, s.wf) : (formOf false n l).wf := by
  have := cheapP_wf (l := l) (n := n) hw
  rw [cheapP_ok h0 hl ok] at this
  exact this
theorem formOf_wf {b : Bool} {l : List Sym} {n : Int} (h0 : 0 ≤ n ∧ n ≤ 65536) (hl : l.length ≤ 4096) (ok : okL n l) (hw : ∀ s ∈ l, s.wf) : (formOf b n l).wf := by
  have h := cheapP_wf0 h0 hl ok hw
  exact ⟨h.in_, h.out, h.ops, h.len⟩
theorem rightR_of {x : OpL} {n : Int} (h1 : 1 ≤ x.len) (h2 : x.len ≤ 65536) (h3 : rightP x n = true) : rightR x n = true := by
  unfold rightR rightP insideP inS at *
  simp only [Bool.and_eq_true, decide_eq_true_eq] at *
  refine ⟨⟨h1, h2⟩, ?_⟩
  by_cases k1 : x.kind = 1
  · simp [k1] at h3 ⊢; omega
  · by_cases k2 : x.kind = 2
    · simp [k2] at h3 ⊢; omega
    · by_cases k3 : x.kind = 3
      · simp [k3] at h3 ⊢; omega
      · by_cases k4 : x.kind = 4
        · simp [k4] at h3 ⊢; omega
        · simp [k1, k2, k3, k4] at h3
theorem checkRGo_right {n out : Int} : ∀ (l : List OpL) (sum i : Int), OpsOk n l → out ≤ 65536 → sum + ((symsOf l).length : Int) = out → 0 ≤ sum → (checkRGo n out l sum i).2 = 0
  | [], sum, i, _, _, h, _ => by
    simp [symsOf] at h
    unfold checkRGo; rw [if_pos (by omega)]
  | x :: l, sum, i, hr, hb, h, h0 => by
    obtain ⟨h1, h2⟩ := hr x (by simp)
    rw [symsOf_cons, List.length_append, symsOp_length] at h
    unfold checkRGo
    rw [if_neg (by rw [rightR_of h1 (by omega) h2]; simp; omega)]
    exact checkRGo_right l _ _ (fun y hy => hr y (by simp [hy])) hb (by omega) (by omega)
theorem checkR_right {p : PatL} (h0 : 0 ≤ p.in_ ∧ p.in_ ≤ 65536) (h1 : OpsOk p.in_ p.ops) (h2 : ((symsOf p.ops).length : Int) = p.out) (h3 : p.out ≤ 65536) (h4 : p.ops.length ≤ 4096) : (checkR p).2 = 0 := by
  unfold checkR
  rw [if_neg (by simp [inS]; omega)]
  exact checkRGo_right _ _ _ h1 h3 (by omega) (by omega)
theorem checkR_of {p : PatL} (h : (checkP p).2 = 0) : (checkR p).2 = 0 := by
  obtain ⟨h1, h2, h3, h4, h5, h6, h7⟩ := checkP_ok h
  exact checkR_right ⟨h3, h4⟩ h1 h2 h6 h7
theorem sumR_eq {n : Int} : ∀ (l : List OpL), OpsOk n l → sumR l = sumC l
  | [], _ => rfl
  | x :: l, h => by
    have hk := right_kind (h x (by simp)).2
    unfold sumR sumC
    rw [sumR_eq l fun y hy => h y (by simp [hy])]
    congr 1
    unfold costR opc
    by_cases h1 : x.kind = 1
    · simp [h1]
    · by_cases h2 : x.kind = 2
      · simp [h2]
      · by_cases h3 : x.kind = 3
        · simp [h3]
        · have h4 : x.kind = 4 := by omega
          simp [h4]
theorem ops_len_bd {n : Int} : ∀ (l : List OpL), OpsOk n l → ∀ x ∈ l, 0 ≤ x.len ∧ x.len ≤ ((symsOf l).length : Int)
  | [], _, x, hx => by simp at hx
  | y :: l, h, x, hx => by
    rw [symsOf_cons, List.length_append, symsOp_length]
    rcases List.mem_cons.1 hx with rfl | hx
    · have := (h x (by simp)).1
      exact ⟨by omega, by omega⟩
    · have := ops_len_bd l (fun z hz => h z (by simp [hz])) x hx
      exact ⟨this.1, by omega⟩


end Go.Proofs.Ytaklmbhfmpdinaa

