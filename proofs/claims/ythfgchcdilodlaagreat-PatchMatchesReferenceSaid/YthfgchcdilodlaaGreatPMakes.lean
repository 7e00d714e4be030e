/- inlaylaw06.PatchMakes: its function answers true. Conditions: arguments are of their kinds. -/
import Derived.Test.YthfgchcdilodlaaGreatPSymbols
import Derived.Test.YthfgchcdilodlaaGreatLeastL
import Derived.Test.YthfgchcdilodlaaGreatRefOf
import Derived.Test.YthfgchcdilodlaaGreatCore15
namespace Go.Proofs.YthfgchcdilodlaaGreat
open Go Go.RowKit Go.Inl
set_option linter.unusedSimpArgs false
set_option linter.unusedVariables false
def gluedP (a b : OpL) : Bool := (decide (a.kind = 3) || decide (b.kind = 3)) || (decide (a.kind = b.kind) && (decide (a.kind = 4) || decide (a.from_ + a.len = b.from_)))
theorem ofLen_stop {K f : Int} : ∀ (l : List Sym) (j : Nat) (t : Sym), l[ofLen K f l j]? = some t → sameK K f (j + ofLen K f l j) t = false
  | [], j, t, h => by simp at h
  | u :: r, j, t, h => by
    rw [ofLen] at h ⊢
    by_cases hs : sameK K f j u = true
    · rw [if_pos hs] at h ⊢
      have := ofLen_stop r (j + 1) t (by simpa using h)
      rw [show j + (ofLen K f r (j + 1) + 1) = j + 1 + ofLen K f r (j + 1) by omega]; exact this
    · rw [if_neg hs] at h ⊢
      simp at h; subst h; simpa using hs
theorem apart_of {s t : Sym} {r q : List Sym} {k k' : Nat} (hk : 1 ≤ k) (hk2 : k ≤ (s :: r).length) (hk' : 1 ≤ k') (h : sameK (kindP s) s.at_ k t = false) : gluedP (opS (kindP s) ((s :: r).take k)) (opS (kindP t) ((t :: q).take k')) = false := by
  obtain ⟨k, rfl⟩ : ∃ j, k = j + 1 := ⟨k - 1, by omega⟩
  obtain ⟨k', rfl⟩ : ∃ j, k' = j + 1 := ⟨k' - 1, by omega⟩
  have hlen : ((s :: r).take (k + 1)).length = k + 1 := by rw [List.length_take]; omega
  unfold gluedP opS
  simp only [hlen]
  simp only [List.take_succ_cons, List.headD_cons]
  unfold sameK at h
  rcases kindP_bd s with e | e | e <;> rcases kindP_bd t with e' | e' | e' <;> rw [e] at h ⊢ <;> rw [e'] at h ⊢ <;> simp at h ⊢ <;> omega
theorem ofGo_apart : ∀ (m : Nat) (l : List Sym) (i : Nat) (a b : OpL), (ofGo m l)[i]? = some a → (ofGo m l)[i + 1]? = some b → gluedP a b = false
  | 0, l, i, a, b, h, _ => by simp [ofGo] at h
  | m + 1, [], i, a, b, h, _ => by simp [ofGo] at h
  | m + 1, s :: r, i + 1, a, b, h, h' => by
    rw [ofGo] at h h'
    exact ofGo_apart m _ i a b (by simpa using h) (by simpa using h')
  | m + 1, s :: r, 0, a, b, h, h' => by
    rw [ofGo] at h h'
    obtain rfl : opS (kindP s) ((s :: r).take (ofLen (kindP s) s.at_ (s :: r) 0)) = a := by simpa using h
    have h' : (ofGo m ((s :: r).drop (ofLen (kindP s) s.at_ (s :: r) 0)))[0]? = some b := by simpa using h'
    have hp := ofLen_pos s r
    have hle := ofLen_le (kindP s) s.at_ (s :: r) 0
    have hst := ofLen_stop (K := kindP s) (f := s.at_) (s :: r) 0
    obtain ⟨k, hk⟩ : ∃ k, ofLen (kindP s) s.at_ (s :: r) 0 = k := ⟨_, rfl⟩
    rw [hk] at h' hp hle hst ⊢
    cases m with
    | zero => simp [ofGo] at h'
    | succ m =>
      cases hd : (s :: r).drop k with
      | nil => rw [hd, ofGo_nil] at h'; simp at h'
      | cons t q =>
        rw [hd, ofGo] at h'
        obtain rfl : opS (kindP t) ((t :: q).take (ofLen (kindP t) t.at_ (t :: q) 0)) = b := by simpa using h'
        have hat : (s :: r)[k]? = some t := by
          have : ((s :: r).drop k)[0]? = some t := by rw [hd]; rfl
          rwa [List.getElem?_drop, Nat.add_zero] at this
        exact apart_of hp hle (ofLen_pos t q) (by have := hst t hat; rwa [Nat.zero_add] at this)
theorem ofP_apart {l : List Sym} {i : Nat} {a b : OpL} (h : (ofP l)[i]? = some a) (h' : (ofP l)[i + 1]? = some b) : gluedP a b = false := ofGo_apart _ _ _ _ _ h h'

theorem rawSyms6_E (ad : Option Addr) (cap : Nat) (l : List Q2) (size : Int) (A : List Sym) (w0 : World) (I0 : Imm) (hI : Sat I0 w0) (hl : RFl I0 2 q2C (.slice ad l.length cap) l) (hq : ∀ q ∈ l, q.wf) (hs : 0 ≤ size ∧ size ≤ 65536) (he : symsRaw l size = A) :
    Ctr Tryz.prog 8 [.slice ad l.length cap, .int .i64 size] w0 (fun v w' => ∃ I' a c, v = .slice a A.length c ∧ Ext w0 I0 w' I' ∧ RSyms I' (.slice a A.length c) A) := by
  subst he
  refine (rawSyms_c ad cap l size w0 I0 hI hl hq hs.1 hs.2).mono ?_
  rintro v w' ⟨I', a, m, c, hv, hE, h, rfl⟩
  exact ⟨I', a, c, hv, hE, h⟩
theorem of_L (ad : Option Addr) (cap n : Nat) (l : List Sym) (size : Int) (O : List OpL) (w0 : World) (I0 : Imm) (hI : Sat I0 w0) (hl : RSyms I0 (.slice ad n cap) l) (hn : n = l.length) (hw : ∀ s ∈ l, s.wf) (he : ofPP l size = (⟨false, size, l.length, O⟩, 0)) :
    Ctr Tryz.prog 15 [.slice ad n cap, .int .i64 size] w0 (fun v w' => ∃ I' a m c, v = .tuple #[.agg #[.bool false, .int .i64 size, .int .i64 l.length, .slice a m c], .int .i64 0] ∧ Ext w0 I0 w' I' ∧ ROps I' (.slice a m c) O) :=
  patchOf_E ad cap n l size _ w0 I0 hI hl hn hw he
theorem of_N (ad : Option Addr) (cap n : Nat) (l : List Sym) (size : Int) (w0 : World) (I0 : Imm) (hI : Sat I0 w0) (hl : RSyms I0 (.slice ad n cap) l) (hn : n = l.length) (hw : ∀ s ∈ l, s.wf) (hs : size < 0) :
    Ctr Tryz.prog 15 [.slice ad n cap, .int .i64 size] w0 (fun v w' => ∃ I' a m c, v = .tuple #[.agg #[.bool false, .int .i64 0, .int .i64 0, .slice a m c], .int .i64 60] ∧ Ext w0 I0 w' I') :=
  (patchOf_E ad cap n l size (PatL.zero, 60) w0 I0 hI hl hn hw (by unfold ofPP; rw [if_pos (by simp [hs])])).mono fun v w' ⟨I', a, m, c, h1, h2, _⟩ => ⟨I', a, m, c, h1, h2⟩
theorem right_T (p : PatL) (ad : Option Addr) (m cap : Nat) (w0 : World) (I0 : Imm) (hI : Sat I0 w0) (hops : ROps I0 (.slice ad m cap) p.ops) (hp : p.wf) (hk : (checkP p).2 = 0) :
    Ctr Tryz.prog 25 [.agg #[.bool p.lifted, .int .i64 p.in_, .int .i64 p.out, .slice ad m cap]] w0 (fun v w' => v = .bool true ∧ Ext w0 I0 w' I0) := by
  have h := rightP_c p ad m cap w0 I0 hI hops hp
  rw [checkR_of hk] at h
  exact h
theorem g_eqbT6 {P : Program} {n : Nat} {σ : Nat → Value} {S : World → Prop} {ty t t' : TypeId} {x y : Operand} {a b : Bool} (ht : P.underlying t = some .bool) (hx : ev n σ x = .bool a) (hy : ev n σ y = .bool b) (hc : a = b) : Gives P (ev n σ) S (.binOp .eql t x y t') ty (.bool true) := by
  subst hc; have := g_eqlb (P := P) (S := S) (t' := t') (ty := ty) ht hx hy; rwa [beq_self_eq_true] at this
theorem g_eqF7 {P : Program} {n : Nat} {σ : Nat → Value} {S : World → Prop} {t t' ty : TypeId} {x y : Operand} {k : IntKind} {a b : Int} (hx : ev n σ x = .int k a) (hy : ev n σ y = .int k b) (h : ¬ a = b) : Gives P (ev n σ) S (.binOp .eql t x y t') ty (.bool false) := by
  have := g_eql (P := P) (S := S) (t := t) (t' := t') (ty := ty) hx hy
  rw [decide_eq_false h] at this; exact this
theorem of_more {n : Int} {A : List Sym} {s : Sym} (h0 : 0 ≤ n ∧ n ≤ 65536) (hl : A.length ≤ 20) (ok : okL n A) : ((ofPP (A ++ [s]) n).2 = 0 ∧ rightSymR s n = true) ∨ ((ofPP (A ++ [s]) n).2 = 60 ∧ rightSymR s n = false) := by
  rw [right_strange]
  cases hs : strange n s with
  | false =>
    refine .inl ⟨?_, rfl⟩
    rw [ofPP_ok h0 (by simp; omega) (fun t ht => by
      rcases List.mem_append.1 ht with h | h
      · exact ok t h
      · obtain rfl := List.mem_singleton.1 h; exact hs)]
  | true =>
    refine .inr ⟨?_, rfl⟩
    unfold ofPP
    rw [if_pos (by simp [hs])]

end Go.Proofs.YthfgchcdilodlaaGreat

