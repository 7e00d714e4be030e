/- compose.Through, Compose, fold, All: what they compute. Conditions: numbers within bounds. compose.Compose, fold, All, and those of inlayref09: what they compute. Conditions: numbers within bounds. compose.fold, All, inlayref09.All: what they compute. Conditions: numbers within bounds. Whole, Chain, Run, Input, Same: what they compute. Conditions: numbers within bounds. inlayref09.Chain: what it computes. Conditions: numbers within bounds. -/
import Derived.Test.YtalemnjjljnnpaaForm
import Derived.Test.YtalemnjjljnnpaaLaw1
import Derived.Test.YtalemnjjljnnpaaPats
import Derived.Test.YtalemnjjljnnpaaKSpec
import Derived.Test.YtalemnjjljnnpaaRef8
import Derived.Test.YtalemnjjljnnpaaKCut
namespace Go.Proofs.Ytalemnjjljnnpaa
open Go Go.RowKit Go.Inl
set_option linter.unusedSimpArgs false
set_option linter.unusedVariables false
theorem thr_lit' {a : List Sym} {s : Sym} (h : s.old = false) : symC (thr a s) = [.bool false, .int .i64 0, .int .u8 s.b] := by rw [thr_lit h]; rfl
theorem thr_old' {a : List Sym} {s x : Sym} (h : s.old = true) (hx : a[s.at_.toNat]? = some x) : symC (thr a s) = [.bool x.old, .int .i64 x.at_, .int .u8 (IntKind.u8.wrap (x.b + s.b))] := by
  rw [thr_old h]
  have e : a.getD s.at_.toNat z0 = x := by rw [List.getD_eq_getElem?_getD, hx]; rfl
  rw [e]; rfl
theorem throughP_bad {a b : List Sym} {s : Sym} (hs : s ∈ b) (h : badT a.length s = true) : throughP a b = ([], 61) := by
  unfold throughP; rw [if_pos (List.any_eq_true.2 ⟨s, hs, h⟩)]
theorem throughP_good {a b : List Sym} (h : ∀ s ∈ b, badT a.length s = false) : throughP a b = (b.map (thr a), 0) := by
  unfold throughP
  rw [if_neg]
  intro hb
  obtain ⟨s, hs, h1⟩ := List.any_eq_true.1 hb
  rw [h s hs] at h1; cases h1
theorem throughP_wf {a b : List Sym} (ha : ∀ s ∈ a, s.wf) (hb : ∀ s ∈ b, s.wf) : ∀ s ∈ (throughP a b).1, s.wf := by
  unfold throughP
  split
  · simp
  · exact thrL_wf ha hb
theorem composeP_wf {p q : PatL} (hp : p.wf) (hq : q.wf) : (composeP p q).1.wf := by
  unfold composeP
  split
  · exact zero_wf
  · split
    · exact zero_wf
    · split
      · exact zero_wf
      · split
        · exact zero_wf
        · split
          · exact zero_wf
          · split
            · exact zero_wf
            · have h := cheapP_wf (n := p.in_) (throughP_wf (symsOf_wf hp) (symsOf_wf hq))
              exact ⟨h.in_, h.out, h.ops, h.len⟩

end Go.Proofs.Ytalemnjjljnnpaa


namespace Go.Proofs.Ytalemnjjljnnpaa
open Go Go.RowKit Go.Inl
set_option linter.unusedSimpArgs false
set_option linter.unusedVariables false
theorem symbols_e (p : PatL) (ad : Option Addr) (m cap : Nat) (A : List Sym × Int) (w0 : World) (I0 : Imm) (hI : Sat I0 w0) (hops : ROps I0 (.slice ad m cap) p.ops) (hp : p.wf) (he : symbolsP p = A) :
    Ctr Try.prog 53 [.agg #[.bool p.lifted, .int .i64 p.in_, .int .i64 p.out, .slice ad m cap]] w0 (fun v w' => ∃ I' a c, v = .tuple #[.slice a A.1.length c, .int .i64 A.2] ∧ Ext w0 I0 w' I' ∧ RSyms I' (.slice a A.1.length c) A.1) := by
  subst he; exact symbols_c p ad m cap w0 I0 hI hops hp
theorem refSymbols_e (p : PatL) (ad : Option Addr) (m cap : Nat) (A : List Sym × Int) (w0 : World) (I0 : Imm) (hI : Sat I0 w0) (hops : ROps I0 (.slice ad m cap) p.ops) (hp : p.wf) (he : symbolsP p = A) :
    Ctr Try.prog 26 [.agg #[.bool p.lifted, .int .i64 p.in_, .int .i64 p.out, .slice ad m cap]] w0 (fun v w' => ∃ I' a c, v = .tuple #[.slice a A.1.length c, .int .i64 A.2] ∧ Ext w0 I0 w' I' ∧ RSyms I' (.slice a A.1.length c) A.1) := by
  subst he; exact symbolsR_p p ad m cap w0 I0 hI hops hp
theorem refCheap_e (ad : Option Addr) (m cap : Nat) (l : List Sym) (size : Int) (C : PatL × Int) (w0 : World) (I0 : Imm) (hI : Sat I0 w0) (hl : RSyms I0 (.slice ad m cap) l) (hm : m = l.length) (hw : ∀ s ∈ l, s.wf) (hs : Mid size) (he : cheapP l size = C) :
    Ctr Try.prog 45 [.slice ad m cap, .int .i64 size] w0 (fun v w' => ∃ I' a m c, v = .tuple #[.agg #[.bool C.1.lifted, .int .i64 C.1.in_, .int .i64 C.1.out, .slice a m c], .int .i64 C.2] ∧ Ext w0 I0 w' I' ∧ ROps I' (.slice a m c) C.1.ops) := by
  subst hm; subst he; exact refCheapest_c ad cap l size w0 I0 hI hl hw hs
theorem symbolsP_len (p : PatL) : (symbolsP p).1.length ≤ 65536 := by
  unfold symbolsP
  split
  · rename_i h
    obtain ⟨h1, h2, h3, h4, h5, h6, h7⟩ := checkP_ok h
    show (symsOf p.ops).length ≤ 65536
    omega
  · simp
theorem cheap_zero {l : List Sym} {n : Int} (h : (cheapP l n).2 ≠ 0) : (cheapP l n).1 = PatL.zero := by
  unfold cheapP at *
  split at h
  · rename_i h1; rw [if_pos h1]
  · split at h
    · rename_i h1 h2; rw [if_neg h1, if_pos h2]
    · simp at h
theorem symbolsP_60 (p : PatL) : (symbolsP p).2 = 60 ∨ (symbolsP p).2 = 0 := by
  unfold symbolsP
  split
  · exact .inr rfl
  · exact checkP_60 p
theorem symbolsP_ok' {p : PatL} (h : (symbolsP p).2 = 0) : (checkP p).2 = 0 ∧ symbolsP p = (symsOf p.ops, 0) := by
  by_cases hc : (checkP p).2 = 0
  · exact ⟨hc, symbolsP_ok hc⟩
  · unfold symbolsP at h; rw [if_neg hc] at h; exact absurd h hc

end Go.Proofs.Ytalemnjjljnnpaa


namespace Go.Proofs.Ytalemnjjljnnpaa
open Go Go.RowKit Go.Inl
set_option linter.unusedSimpArgs false
set_option linter.unusedVariables false
theorem composeP_zero {p q : PatL} (h : (composeP p q).2 ≠ 0) : (composeP p q).1 = PatL.zero := by
  unfold composeP at *
  repeat' split
  all_goals first | rfl | skip
  rename_i h1 h2 h3 h4 h5 h6
  simp only [h1, h2, h3, h4, h5, h6, if_false] at h
  exact absurd rfl h
theorem formP_zero {p : PatL} (h : (formP p).2 ≠ 0) : (formP p).1 = PatL.zero := by
  unfold formP at *
  split
  · rename_i h1
    rw [if_pos h1] at h
    by_cases h2 : (cheapP (symbolsP p).1 p.in_).2 = 0
    · simp [h2] at h
    · simp only [h2, if_false]
      exact cheap_zero h2
  · rfl
structure FoldS where
  k : Nat
  out : PatL
  a : Option Addr
  m : Nat
  c : Nat
structure FoldR where
  k : Nat
  out : PatL
  e : Int
  a : Option Addr
  m : Nat
  c : Nat
theorem foldC_cons (out p : PatL) (r : List PatL) : foldC out (p :: r) = if (composeP out p).2 ≠ 0 then composeP out p else foldC (composeP out p).1 r := rfl
theorem allP_cons (p : PatL) (r : List PatL) : allP (p :: r) = if (formP p).2 ≠ 0 then (PatL.zero, (formP p).2) else foldC (formP p).1 r := rfl
theorem form_F (p : PatL) (ad : Option Addr) (m cap : Nat) (F : PatL × Int) (w0 : World) (I0 : Imm) (hI : Sat I0 w0) (hops : ROps I0 (.slice ad m cap) p.ops) (hp : p.wf) (he : formP p = F) :
    Ctr Try.prog 28 [.agg #[.bool p.lifted, .int .i64 p.in_, .int .i64 p.out, .slice ad m cap]] w0 (fun v w' => ∃ I' a m c, v = .tuple #[.agg #[.bool F.1.lifted, .int .i64 F.1.in_, .int .i64 F.1.out, .slice a m c], .int .i64 F.2] ∧ Ext w0 I0 w' I' ∧ ROps I' (.slice a m c) F.1.ops) := by
  subst he; exact form_c p ad m cap w0 I0 hI hops hp
theorem refForm_F (p : PatL) (ad : Option Addr) (m cap : Nat) (F : PatL × Int) (w0 : World) (I0 : Imm) (hI : Sat I0 w0) (hops : ROps I0 (.slice ad m cap) p.ops) (hp : p.wf) (he : formP p = F) :
    Ctr Try.prog 49 [.agg #[.bool p.lifted, .int .i64 p.in_, .int .i64 p.out, .slice ad m cap]] w0 (fun v w' => ∃ I' a m c, v = .tuple #[.agg #[.bool F.1.lifted, .int .i64 F.1.in_, .int .i64 F.1.out, .slice a m c], .int .i64 F.2] ∧ Ext w0 I0 w' I' ∧ ROps I' (.slice a m c) F.1.ops) := by
  subst he; exact refForm_c p ad m cap w0 I0 hI hops hp
theorem RPats.slL {I : Imm} {ad : Option Addr} {len cap : Nat} {xs : List PatL} (hr : RPats I (.slice ad len cap) xs) (l : Nat) (hl : l ≤ xs.length) : RPats I (.slice (if cap = l then ad else ad.map (·.add (l * 4))) (len - l) (cap - l)) (xs.drop l) := RSl.slL hr l hl

end Go.Proofs.Ytalemnjjljnnpaa


namespace Go.Proofs.Ytalemnjjljnnpaa
open Go Go.RowKit Go.Inl
set_option linter.unusedSimpArgs false
set_option linter.unusedVariables false
def wholeP (n : Int) : PatL := ⟨false, n, n, if 0 < n then [⟨1, 0, n, 0, []⟩] else []⟩
theorem wholeP_pos {n : Int} (h : 0 < n) : wholeP n = ⟨false, n, n, [⟨1, 0, n, 0, []⟩]⟩ := by unfold wholeP; rw [if_pos h]
theorem wholeP_zero {n : Int} (h : ¬ 0 < n) : wholeP n = ⟨false, n, n, []⟩ := by unfold wholeP; rw [if_neg h]
theorem wholeP_wf {n : Int} (h : 0 ≤ n ∧ n ≤ 65536) : (wholeP n).wf := by
  refine ⟨⟨by show _ ≤ n; omega, by show n ≤ _; omega⟩, ⟨by show _ ≤ n; omega, by show n ≤ _; omega⟩, ?_, ?_⟩
  · intro x hx
    unfold wholeP at hx
    split at hx
    · simp only [List.mem_singleton] at hx; subst hx
      exact ⟨⟨by dsimp only; omega, by dsimp only; omega⟩, ⟨by dsimp only; omega, by dsimp only; omega⟩, ⟨by dsimp only; omega, by dsimp only; omega⟩, ⟨by dsimp only; omega, by dsimp only; omega⟩, by simp⟩
    · simp at hx
  · unfold wholeP; split <;> simp
theorem wholeP_check {n : Int} (h : 0 ≤ n ∧ n ≤ 65536) : (checkP (wholeP n)).2 = 0 := by
  by_cases h0 : 0 < n
  · rw [wholeP_pos h0]
    refine checkP_right h ?_ ?_ h.2 (by simp)
    · intro x hx
      simp only [List.mem_singleton] at hx; subst hx
      refine ⟨by dsimp only; omega, ?_⟩
      simp [rightP, insideP]
    · simp [symsOf, symsOp]; omega
  · rw [wholeP_zero h0]
    exact checkP_right h (fun x hx => by simp at hx) (by simp [symsOf]; omega) h.2 (by simp)
theorem wholeP_syms {n : Int} (h : 0 ≤ n) : symsOf (wholeP n).ops = (List.range n.toNat).map fun (j : Nat) => (⟨true, 0 + j, 0⟩ : Sym) := by
  by_cases h0 : 0 < n
  · rw [wholeP_pos h0, symsOf_one]
    unfold symsOp
    refine List.map_congr_left fun j _ => ?_
    simp [symS]
  · have : n = 0 := by omega
    subst this
    rfl

/-! ### Chains of raw patches -/
def chainF (size : Int) : List RawL → List PatL
  | [] => []
  | x :: r => madeP x.l size :: chainF (madeP x.l size).out r
def lastO (size : Int) : List PatL → Int
  | [] => size
  | p :: r => lastO p.out r
theorem chainF_snoc (x : RawL) : ∀ (l : List RawL) (size : Int), chainF size (l ++ [x]) = chainF size l ++ [madeP x.l (lastO size (chainF size l))]
  | [], size => rfl
  | y :: l, size => by rw [List.cons_append, chainF, chainF_snoc x l]; rfl
theorem chainF_length : ∀ (l : List RawL) (size : Int), (chainF size l).length = l.length
  | [], _ => rfl
  | y :: l, size => by rw [chainF, List.length_cons, chainF_length l, List.length_cons]
theorem lastO_get : ∀ (l : List PatL) (size : Int) (k : Nat) (p : PatL), l.length = k + 1 → l[k]? = some p → lastO size l = p.out
  | [], _, _, _, h, _ => by simp at h
  | [q], size, 0, p, _, h => by simp at h; subst h; rfl
  | q :: r :: l, size, k + 1, p, hl, h => by
    rw [lastO]
    exact lastO_get (r :: l) q.out k p (by simpa using hl) (by simpa using h)
  | [q], size, k + 1, p, hl, h => by simp at hl
  | q :: r :: l, size, 0, p, hl, h => by simp at hl
theorem chainF_ok : ∀ (l : List RawL) (size : Int), 0 ≤ size ∧ size ≤ 65536 → (∀ x ∈ l, x.wf) → ChainOk size (chainF size l) ∧ (∀ p ∈ chainF size l, p.wf ∧ p.out ≤ 30 ∧ 0 ≤ p.out)
  | [], size, _, _ => ⟨trivial, by simp [chainF]⟩
  | x :: l, size, h0, hw => by
    have hx := hw x (by simp)
    obtain ⟨h1, h2, h3⟩ := madeP_ok (l := x.l) (size := size) hx.l h0
    have h4 := (checkP_ok h1).2.2.2.2.1
    obtain ⟨k1, k2⟩ := chainF_ok l (madeP x.l size).out ⟨h4, by omega⟩ (fun y hy => hw y (by simp [hy]))
    refine ⟨⟨rfl, h1, rfl, by omega, k1⟩, fun p hp => ?_⟩
    rw [chainF] at hp
    rcases List.mem_cons.1 hp with rfl | hp
    · exact ⟨madeP_wf hx.l h0, h2, h4⟩
    · exact k2 p hp
def chainL (l : List RawL) (n : Nat) : List PatL := chainF ((l.headD ⟨0, []⟩).r % 13) (l.take n)
def chainP (l : List RawL) (n : Nat) : List PatL := if chainL l n = [] then [wholeP 3] else chainL l n
theorem chainP_ok {l : List RawL} {n : Nat} (hw : ∀ x ∈ l, x.wf) (hn : n ≤ 4) : ∃ m p r, chainP l n = p :: r ∧ 0 ≤ m ∧ m ≤ 12 ∧ ChainOk m (p :: r) ∧ (∀ q ∈ chainP l n, q.wf ∧ q.out ≤ 30 ∧ 0 ≤ q.out) ∧ (chainP l n).length ≤ 4 := by
  unfold chainP
  split
  · refine ⟨3, wholeP 3, [], rfl, by decide, by decide, ⟨rfl, wholeP_check (by decide), rfl, by decide, trivial⟩, ?_, by simp⟩
    intro q hq
    simp only [List.mem_singleton] at hq; subst hq
    exact ⟨wholeP_wf (by decide), by decide, by decide⟩
  · rename_i hne
    have hr : 0 ≤ (l.headD ⟨0, []⟩).r % 13 ∧ (l.headD ⟨0, []⟩).r % 13 ≤ 65536 := by omega
    obtain ⟨h1, h2⟩ := chainF_ok (l.take n) _ hr (fun x hx => hw x (List.mem_of_mem_take hx))
    have hlen := chainF_length (l.take n) ((l.headD ⟨0, []⟩).r % 13)
    rw [List.length_take] at hlen
    cases hc : chainL l n with
    | nil => exact absurd hc hne
    | cons p r =>
      have hc' : chainF ((l.headD ⟨0, []⟩).r % 13) (l.take n) = p :: r := hc
      rw [hc'] at h1 h2 hlen
      exact ⟨_, p, r, rfl, hr.1, by omega, h1, h2, by omega⟩

/-! ### Bytes -/
def runB (old : List Int) (s : Sym) : Int := if s.old then IntKind.u8.wrap (s.b + old.getD s.at_.toNat 0) else s.b
def runP (old : List Int) (l : List Sym) : List Int × Int := if l.any (badT old.length) then ([], 61) else (l.map (runB old), 0)
theorem runP_bad {a : List Int} {b : List Sym} {s : Sym} (hs : s ∈ b) (h : badT a.length s = true) : runP a b = ([], 61) := by
  unfold runP; rw [if_pos (List.any_eq_true.2 ⟨s, hs, h⟩)]
theorem runP_good {a : List Int} {b : List Sym} (h : ∀ s ∈ b, badT a.length s = false) : runP a b = (b.map (runB a), 0) := by
  unfold runP
  rw [if_neg]
  intro hb
  obtain ⟨s, hs, h1⟩ := List.any_eq_true.1 hb
  rw [h s hs] at h1; cases h1
theorem runB_lit {a : List Int} {s : Sym} (h : s.old = false) : runB a s = s.b := by unfold runB; rw [h]; rfl
theorem runB_old {a : List Int} {s : Sym} {x : Int} (h : s.old = true) (hx : a[s.at_.toNat]? = some x) : runB a s = IntKind.u8.wrap (s.b + x) := by
  unfold runB
  rw [h, List.getD_eq_getElem?_getD, hx]; rfl
theorem runB_bd {a : List Int} {s : Sym} (hs : s.wf) : 0 ≤ runB a s ∧ runB a s ≤ 255 := by
  unfold runB
  split
  · rw [wrap8]; omega
  · exact hs.2.2
theorem run_thr (old : List Int) (x : List Sym) (s : Sym) (h : s.old = true → s.at_.toNat < x.length) : runB (x.map (runB old)) s = runB old (thr x s) := by
  cases ho : s.old with
  | false => rw [runB_lit ho, thr_lit ho]; rfl
  | true =>
    have hin := h ho
    rw [thr_old ho]
    have e : x.getD s.at_.toNat z0 = x[s.at_.toNat] := by rw [List.getD_eq_getElem?_getD, List.getElem?_eq_getElem hin]; rfl
    have e2 : (x.map (runB old))[s.at_.toNat]? = some (runB old x[s.at_.toNat]) := by rw [List.getElem?_map, List.getElem?_eq_getElem hin]; rfl
    rw [e, runB_old ho e2]
    unfold runB
    dsimp only
    split
    · simp only [wrap8]; omega
    · rw [Int.add_comm]
def inputB (b : List Int) (j : Nat) : Int := if j < b.length then b.getD j 0 else IntKind.u8.wrap (7 * (j : Int))
def inputP (b : List Int) (n : Nat) : List Int := (List.range n).map (inputB b)
theorem inputP_bd {b : List Int} {n : Nat} (hb : ∀ y ∈ b, 0 ≤ y ∧ y ≤ 255) : ∀ y ∈ inputP b n, 0 ≤ y ∧ y ≤ 255 := fun y hy => by
  obtain ⟨j, _, rfl⟩ := List.mem_map.1 hy
  unfold inputB
  split
  · rename_i h
    rw [List.getD_eq_getElem?_getD, List.getElem?_eq_getElem h]
    exact hb _ (List.getElem_mem h)
  · rw [wrap8]; omega
theorem inputP_len (b : List Int) (n : Nat) : (inputP b n).length = n := by simp [inputP]

theorem refWhole_c (n : Int) (w0 : World) (I0 : Imm) (hI : Sat I0 w0) (h0 : 0 ≤ n ∧ n ≤ 65536) :
    Ctr Try.prog 33 [.int .i64 n] w0 (fun v w' => ∃ I' a m c, v = .agg #[.bool (wholeP n).lifted, .int .i64 (wholeP n).in_, .int .i64 (wholeP n).out, .slice a m c] ∧ Ext w0 I0 w' I' ∧ ROps I' (.slice a m c) (wholeP n).ops) := by
  refine fn (n := 12) Try.func33 rfl rfl rfl ?_
  have hS := St.start hI
  refine wpIn_seq ?_
  refine reg ?_
  refine qe (d_alloc (cs := [.bool _, .int .i64 _, .int .i64 _, .slice _ _ _]) hS Try.zeroValue31 rfl) ?_
  clear hS
  rintro _ w_1 ⟨b2, rfl, hS⟩
  refine ol_nil (thenN ?_)
  refine wpIn_seq ?_
  refine wpIn_seq ?_
  refine reg ?_
  refine qq hS (g_movev (v := .int .i64 _) rfl) ?_
  refine qq hS (g_eql rfl rfl) ?_
  refine ol_nil (thenN ?_)
  refine cond_s rfl ?_ ?_
  ·
    intro hc4
    try simp only [Bool.and_eq_true, Bool.or_eq_true, Bool.not_eq_true', Bool.and_eq_false_imp, Bool.or_eq_false_iff, Bool.not_eq_false', decide_eq_true_eq, decide_eq_false_iff_not] at hc4
    have hn0 : n = 0 := hc4
    subst hn0
    have e : wholeP 0 = ⟨false, 0, 0, []⟩ := rfl
    refine wpIn_seq ?_
    refine reg ?_
    refine qq hS (g_buildv (pl := [(0, 1), (1, 1), (2, 1), (3, 1)]) (cs := [.bool _, .int .i64 _, .int .i64 _, .slice _ _ _]) Try.zeroValue31 Try.underlying31 (fun w => by simp [Try.sizeOf29, Try.sizeOf3, Try.sizeOf4]) mp0 rfl) ?_
    refine qe (d_store 0 hS Try.sizeOf31 rfl rfl rfl (vs := [.bool _, .int .i64 _, .int .i64 _, .slice _ _ _]) rfl rfl rfl (Nat.le_of_ble_eq_true rfl) (cs' := [_, _, _, _]) rfl) ?_
    clear hS
    rintro _ w_2 ⟨rfl, hS⟩
    refine ol_nil (thenN ?_)
    refine wpIn_ret ?_
    refine thenR ?_
    refine ret1 Try.results33 (rv_cel 0 hS Try.sizeOf31 Try.isAgg31 rfl rfl rfl) ?_
    rw [e]; exact ⟨_, none, 0, 0, rfl, hS.nil, RSl.nilR⟩
  ·
    intro hc4
    try simp only [Bool.and_eq_true, Bool.or_eq_true, Bool.not_eq_true', Bool.and_eq_false_imp, Bool.or_eq_false_iff, Bool.not_eq_false', decide_eq_true_eq, decide_eq_false_iff_not] at hc4
    have e := wholeP_pos (n := n) (by omega)
    refine wpIn_skip ?_
    refine thenN ?_
    refine wpIn_seq ?_
    refine reg ?_
    refine qq hS (g_movev (v := .int .i64 _) rfl) ?_
    refine qq hS (g_movev (v := .int .i64 _) rfl) ?_
    refine qq hS (g_movev (v := .int .i64 _) rfl) ?_
    refine qq hS (g_buildv (pl := [(0, 1), (1, 1), (2, 1), (3, 1), (4, 1)]) (cs := [.int .i64 _, .int .i64 _, .int .i64 _, .int .u8 _, .slice _ _ _]) Try.zeroValue66 Try.underlying66 (fun w => by simp [Try.sizeOf3, Try.sizeOf5, Try.sizeOf64]) (mp (v := .int .i64 _) rfl (mp (v := .int .i64 _) rfl mp0)) rfl) ?_
    refine qe (d_lit (vs := [.agg #[.int .i64 _, .int .i64 _, .int .i64 _, .int .u8 _, .slice _ _ _]]) (cs := [.int .i64 _, .int .i64 _, .int .i64 _, .int .u8 _, .slice _ _ _]) hS Try.underlying29 Try.sizeOf66 Try.zeroValue66 rfl rfl rfl rfl (fun v hv => by simp only [List.mem_cons, List.not_mem_nil, or_false] at hv; subst hv; rfl) rfl) ?_
    clear hS
    rintro _ w_3 ⟨b10, rfl, hS⟩
    refine qq hS (g_buildv (pl := [(0, 1), (1, 1), (2, 1), (3, 1)]) (cs := [.bool _, .int .i64 _, .int .i64 _, .slice _ _ _]) Try.zeroValue31 Try.underlying31 (fun w => by simp [Try.sizeOf29, Try.sizeOf3, Try.sizeOf4]) (mp (v := .int .i64 _) rfl (mp (v := .int .i64 _) rfl (mp rfl mp0))) rfl) ?_
    refine qe (d_store 1 hS Try.sizeOf31 rfl rfl rfl (vs := [.bool _, .int .i64 _, .int .i64 _, .slice _ _ _]) rfl rfl rfl (Nat.le_of_ble_eq_true rfl) (cs' := [_, _, _, _]) rfl) ?_
    clear hS
    rintro _ w_4 ⟨rfl, hS⟩
    refine ol_nil (thenN ?_)
    refine wpIn_ret ?_
    refine ret1 Try.results33 (rv_cel 1 hS Try.sizeOf31 Try.isAgg31 rfl rfl rfl) ?_
    obtain ⟨I3, hS, hI3, hb3⟩ := hS.freezeAt 0 rfl
    have ho : ROps I3 (.slice (some ⟨b10, 0, none⟩) 1 1) [⟨1, 0, n, 0, []⟩] := RSl.ofAt (css := [[.int .i64 1, .int .i64 0, .int .i64 n, .int .u8 0, .slice none 0 0]]) hb3 rfl (by simp) (All2.one ⟨none, 0, 0, rfl, RFl.nil⟩) rfl (by show 1 ≤ maxLen; decide)
    rw [e]; exact ⟨_, _, 1, 1, rfl, hS.nil, ho⟩

theorem patchWhole_c (n : Int) (w0 : World) (I0 : Imm) (hI : Sat I0 w0) (h0 : 0 ≤ n ∧ n ≤ 65536) :
    Ctr Try.prog 29 [.int .i64 n] w0 (fun v w' => ∃ I' a m c, v = .agg #[.bool (wholeP n).lifted, .int .i64 (wholeP n).in_, .int .i64 (wholeP n).out, .slice a m c] ∧ Ext w0 I0 w' I' ∧ ROps I' (.slice a m c) (wholeP n).ops) := by
  refine fn (n := 14) Try.func29 rfl rfl rfl ?_
  have hS := St.start hI
  refine wpIn_seq ?_
  refine reg ?_
  refine qe (d_alloc (cs := [.bool _, .int .i64 _, .int .i64 _, .slice _ _ _]) hS Try.zeroValue31 rfl) ?_
  clear hS
  rintro _ w_1 ⟨b2, rfl, hS⟩
  refine ol_nil (thenN ?_)
  refine wpIn_seq ?_
  refine reg ?_
  refine qq hS (g_movev (v := .int .i64 _) rfl) ?_
  refine qq hS (g_movev (v := .int .i64 _) rfl) ?_
  refine qq hS (g_buildv (pl := [(0, 1), (1, 1), (2, 1), (3, 1)]) (cs := [.bool _, .int .i64 _, .int .i64 _, .slice _ _ _]) Try.zeroValue31 Try.underlying31 (fun w => by simp [Try.sizeOf29, Try.sizeOf3, Try.sizeOf4]) (mp (v := .int .i64 _) rfl (mp (v := .int .i64 _) rfl mp0)) rfl) ?_
  refine qe (d_alloc (cs := [.bool _, .int .i64 _, .int .i64 _, .slice _ _ _]) hS Try.zeroValue31 rfl) ?_
  clear hS
  rintro _ w_2 ⟨b3, rfl, hS⟩
  refine qe (d_store 0 hS Try.sizeOf31 rfl rfl rfl (vs := [.bool _, .int .i64 _, .int .i64 _, .slice _ _ _]) rfl rfl rfl (Nat.le_of_ble_eq_true rfl) (cs' := [_, _, _, _]) rfl) ?_
  clear hS
  rintro _ w_3 ⟨rfl, hS⟩
  refine ol_nil (thenN ?_)
  refine wpIn_seq ?_
  refine wpIn_seq ?_
  refine reg ?_
  refine qq hS (g_movev (v := .int .i64 _) rfl) ?_
  refine qq hS (g_gtr rfl rfl) ?_
  refine ol_nil (thenN ?_)
  refine cond_s rfl ?_ ?_
  ·
    intro hc8
    try simp only [Bool.and_eq_true, Bool.or_eq_true, Bool.not_eq_true', Bool.and_eq_false_imp, Bool.or_eq_false_iff, Bool.not_eq_false', decide_eq_true_eq, decide_eq_false_iff_not] at hc8
    have e := wholeP_pos (n := n) (by omega)
    refine reg ?_
    refine qq hS (g_movev (v := .int .i64 _) rfl) ?_
    refine qq hS (g_buildv (pl := [(0, 1), (1, 1), (2, 1), (3, 1), (4, 1)]) (cs := [.int .i64 _, .int .i64 _, .int .i64 _, .int .u8 _, .slice _ _ _]) Try.zeroValue66 Try.underlying66 (fun w => by simp [Try.sizeOf3, Try.sizeOf5, Try.sizeOf64]) (mp (v := .int .i64 _) rfl (mp (v := .int .i64 _) rfl mp0)) rfl) ?_
    refine qe (d_lit (vs := [.agg #[.int .i64 _, .int .i64 _, .int .i64 _, .int .u8 _, .slice _ _ _]]) (cs := [.int .i64 _, .int .i64 _, .int .i64 _, .int .u8 _, .slice _ _ _]) hS Try.underlying29 Try.sizeOf66 Try.zeroValue66 rfl rfl rfl rfl (fun v hv => by simp only [List.mem_cons, List.not_mem_nil, or_false] at hv; subst hv; rfl) rfl) ?_
    clear hS
    rintro _ w_4 ⟨b11, rfl, hS⟩
    refine qq hS (g_fieldAddr (o' := 3) Try.underlying31 rfl Try.sizeOf29 rfl rfl rfl) ?_
    refine qe (d_store 1 hS Try.sizeOf29 rfl rfl rfl (vs := [.slice _ _ _]) rfl rfl rfl (Nat.le_of_ble_eq_true rfl) (cs' := [_, _, _, _]) rfl) ?_
    clear hS
    rintro _ w_5 ⟨rfl, hS⟩
    refine ol_nil (thenN ?_)
    refine wpIn_seq ?_
    refine reg ?_
    refine qq hS (g_ldO 1 (vs := [.bool _, .int .i64 _, .int .i64 _, .slice _ _ _]) Try.sizeOf31 Try.isAgg31 rfl rfl rfl rfl) ?_
    refine qe (d_store 2 hS Try.sizeOf31 rfl rfl rfl (vs := [.bool _, .int .i64 _, .int .i64 _, .slice _ _ _]) rfl rfl rfl (Nat.le_of_ble_eq_true rfl) (cs' := [_, _, _, _]) rfl) ?_
    clear hS
    rintro _ w_6 ⟨rfl, hS⟩
    refine ol_nil (thenN ?_)
    refine wpIn_ret ?_
    refine ret1 Try.results29 (rv_cel 2 hS Try.sizeOf31 Try.isAgg31 rfl rfl rfl) ?_
    obtain ⟨I3, hS, hI3, hb3⟩ := hS.freezeAt 0 rfl
    have ho : ROps I3 (.slice (some ⟨b11, 0, none⟩) 1 1) [⟨1, 0, n, 0, []⟩] := RSl.ofAt (css := [[.int .i64 1, .int .i64 0, .int .i64 n, .int .u8 0, .slice none 0 0]]) hb3 rfl (by simp) (All2.one ⟨none, 0, 0, rfl, RFl.nil⟩) rfl (by show 1 ≤ maxLen; decide)
    rw [e]; exact ⟨_, _, 1, 1, rfl, hS.nil, ho⟩
  ·
    intro hc8
    try simp only [Bool.and_eq_true, Bool.or_eq_true, Bool.not_eq_true', Bool.and_eq_false_imp, Bool.or_eq_false_iff, Bool.not_eq_false', decide_eq_true_eq, decide_eq_false_iff_not] at hc8
    have e := wholeP_zero (n := n) (by omega)
    refine wpIn_skip ?_
    refine thenN ?_
    refine wpIn_seq ?_
    refine reg ?_
    refine qq hS (g_ldO 0 (vs := [.bool _, .int .i64 _, .int .i64 _, .slice _ _ _]) Try.sizeOf31 Try.isAgg31 rfl rfl rfl rfl) ?_
    refine qe (d_store 1 hS Try.sizeOf31 rfl rfl rfl (vs := [.bool _, .int .i64 _, .int .i64 _, .slice _ _ _]) rfl rfl rfl (Nat.le_of_ble_eq_true rfl) (cs' := [_, _, _, _]) rfl) ?_
    clear hS
    rintro _ w_7 ⟨rfl, hS⟩
    refine ol_nil (thenN ?_)
    refine wpIn_ret ?_
    refine ret1 Try.results29 (rv_cel 1 hS Try.sizeOf31 Try.isAgg31 rfl rfl rfl) ?_
    rw [e]; exact ⟨_, none, 0, 0, rfl, hS.nil, RSl.nilR⟩

end Go.Proofs.Ytalemnjjljnnpaa


namespace Go.Proofs.Ytalemnjjljnnpaa
open Go Go.RowKit Go.Inl
set_option linter.unusedSimpArgs false
set_option linter.unusedVariables false
structure ChS where
  k : Nat
  css : List (List Value)
  a : Option Addr
  c : Nat
theorem chainP_nil {l : List RawL} {n : Nat} (h : chainL l n = []) : chainP l n = [wholeP 3] := by unfold chainP; rw [if_pos h]
theorem chainP_cons {l : List RawL} {n : Nat} (h : chainL l n ≠ []) : chainP l n = chainL l n := by unfold chainP; rw [if_neg h]

end Go.Proofs.Ytalemnjjljnnpaa

