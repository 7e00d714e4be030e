/- inlaylaw09.ComposeWhole, ComposeLeast, ComposeThrough: their functions answer true. Conditions: arguments are of their kinds. -/
import Derived.Test.YtodopmclnklgdaaGreatBase9
import Derived.Test.YtodopmclnklgdaaGreatLeastL
namespace Go.Proofs.YtodopmclnklgdaaGreat
open Go Go.RowKit Go.Inl
set_option linter.unusedSimpArgs false
set_option linter.unusedVariables false
def lift (b : Bool) (p : PatL) : PatL := ⟨b, p.in_, p.out, p.ops⟩
theorem lift_wf {b : Bool} {p : PatL} (h : p.wf) : (lift b p).wf := ⟨h.in_, h.out, h.ops, h.len⟩
theorem whole_plain {p : PatL} (b : Bool) (hp : p.wf) (hk : (checkP p).2 = 0) (ho : p.out ≤ 4096) :
    formP (lift b p) = (formOf b p.in_ (symsOf p.ops), 0) ∧ composeP (lift b (wholeP p.in_)) (lift b p) = (formOf b p.in_ (symsOf p.ops), 0) ∧ composeP (lift b p) (lift b (wholeP p.out)) = (formOf b p.in_ (symsOf p.ops), 0) := by
  obtain ⟨k1, k2, k3, k4, k5, k6, k7⟩ := checkP_ok hk
  have hkb : (checkP (lift b p)).2 = 0 := hk
  have hwf := symsOf_wf hp
  rw [symbolsP_ok hk] at hwf
  have hby : ∀ s ∈ symsOf p.ops, 0 ≤ s.b ∧ s.b ≤ 255 := fun s hs => ⟨(hwf s hs).2.2.1, (hwf s hs).2.2.2⟩
  have hok := (ops_ok _ k1).1
  refine ⟨formP_ok hkb ho, ?_, ?_⟩
  · have h := composeP_ok (p := lift b (wholeP p.in_)) (q := lift b p) (wholeP_check ⟨k3, k4⟩) hkb rfl rfl ho
    have e1 : symsOf (lift b (wholeP p.in_)).ops = _ := wholeP_syms k3
    rw [e1] at h
    have e2 := whole_thr (n := p.in_.toNat) (l := symsOf p.ops) (by rw [show ((p.in_.toNat : Nat) : Int) = p.in_ by omega]; exact hok) hby
    have e3 : (symsOf (lift b p).ops) = symsOf p.ops := rfl
    rw [e3, e2] at h
    exact h
  · have h := composeP_ok (p := lift b p) (q := lift b (wholeP p.out)) hkb (wholeP_check ⟨k5, k6⟩) rfl rfl ho
    have e1 : symsOf (lift b (wholeP p.out)).ops = _ := wholeP_syms k5
    rw [e1, show p.out.toNat = (symsOf p.ops).length by omega] at h
    have e3 : (symsOf (lift b p).ops) = symsOf p.ops := rfl
    rw [e3, thr_whole hby] at h
    exact h
theorem sized_M (r : Int) (ad : Option Addr) (m cap : Nat) (l : List Q4) (size : Int) (p : PatL) (w0 : World) (I0 : Imm) (hI : Sat I0 w0) (hl : RFl I0 4 q4C (.slice ad m cap) l) (hm : m = l.length) (hq : ∀ q ∈ l, q.wf) (hs : 0 ≤ size ∧ size ≤ 65536) (hp : madeP l size = p) :
    Ctr Tryz.prog 48 [.agg #[.int .u8 r, .slice ad m cap], .int .i64 size] w0 (fun v w' => ∃ I' a m c, v = .agg #[.bool p.lifted, .int .i64 p.in_, .int .i64 p.out, .slice a m c] ∧ Ext w0 I0 w' I' ∧ ROps I' (.slice a m c) p.ops) := by
  subst hm; exact sized_E r ad cap l size p w0 I0 hI hl hq hs hp
theorem patchCost_f (b : Bool) (n : Int) (l : List Sym) (ad : Option Addr) (m cap : Nat) (w0 : World) (I0 : Imm) (hI : Sat I0 w0) (hops : ROps I0 (.slice ad m cap) (optL l)) (hw : ∀ s ∈ l, s.wf) (h0 : 0 ≤ n ∧ n ≤ 65536) (hn : l.length ≤ 4096) (ok : okL n l) :
    Ctr Tryz.prog 17 [.agg #[.bool b, .int .i64 n, .int .i64 l.length, .slice ad m cap]] w0 (fun v w' => v = .int .i64 (bestP l).cost ∧ Ext w0 I0 w' I0) := by
  obtain ⟨h1, h2, h3, h4⟩ := optL_spec ok
  have hb := ops_len_bd _ h2
  rw [h1] at hb
  have h := patchCost_c (formOf b n l) ad m cap w0 I0 hI hops (formOf_wf h0 hn ok hw) (fun x hx => by have := hb x hx; omega)
  have e : sumP (formOf b n l).ops = (bestP l).cost := (sumP_eq _ h2).trans h3
  rw [e] at h
  exact h
theorem run_E (ad bd : Option Addr) (m n cap capb : Nat) (lo : List Int) (l : List Sym) (R : List Int) (w0 : World) (I0 : Imm) (hI : Sat I0 w0) (ha : RBytes I0 (.slice ad m cap) lo) (hm : m = lo.length) (hb : RSyms I0 (.slice bd n capb) l) (hnl : n = l.length) (hwb : ∀ s ∈ l, s.wf) (hn : l.length ≤ 65536) (he : runP lo l = (R, 0)) :
    Ctr Tryz.prog 55 [.slice ad m cap, .slice bd n capb] w0 (fun v w' => ∃ I' a c, v = .tuple #[.slice a R.length c, .int .i64 0] ∧ Ext w0 I0 w' I' ∧ RBytes I' (.slice a R.length c) R) := by
  subst hm; subst hnl
  have h := run_c ad bd cap capb lo l w0 I0 hI ha hb hwb hn
  rw [he] at h
  exact h
theorem runP_ok {n : Int} {lo : List Int} {l : List Sym} (ok : okL n l) (h : n = lo.length) : runP lo l = (l.map (runB lo), 0) := by
  unfold runP
  rw [badT_ok ok h]; rfl
theorem run_runs {lo : List Int} {x y : List Sym} {n : Int} (hy : okL n y) (hn : n = x.length) : y.map (runB (x.map (runB lo))) = (y.map (thr x)).map (runB lo) := by
  rw [List.map_map]
  refine List.map_congr_left fun s hs => run_thr lo x s fun ho => ?_
  have := hy.in s hs ho
  omega
theorem sameB_T (va vb : Value) (a : List Int) (w0 : World) (I0 : Imm) (hI : Sat I0 w0) (ha : RBytes I0 va a) (hb : RBytes I0 vb a) :
    Ctr Tryz.prog 23 [va, vb] w0 (fun v w' => v = .bool true ∧ Ext w0 I0 w' I0) := by
  have h := sameB_c va vb a a w0 I0 hI ha hb
  rw [decide_eq_true rfl] at h
  exact h

end Go.Proofs.YtodopmclnklgdaaGreat

