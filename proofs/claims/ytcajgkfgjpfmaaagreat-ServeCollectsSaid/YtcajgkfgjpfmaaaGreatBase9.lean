/- Contracts in the form that the laws of chapter 9 use, and what these need of plain laws. Conditions: numbers within bounds. -/
import Derived.Test.YtcajgkfgjpfmaaaGreatSanity9
import Derived.Test.YtcajgkfgjpfmaaaGreatKComp
import Derived.Test.YtcajgkfgjpfmaaaGreatKCut
set_option linter.unusedSimpArgs false
set_option linter.unusedVariables false
namespace Go.Proofs.YtcajgkfgjpfmaaaGreat
open Go Go.RowKit Go.Inl
theorem g_eqT {P:Program}{n:Nat}{σ:Nat→Value}{S:World→Prop}{ty t t':TypeId}{x y:Operand}{k:IntKind}{a b:Int}(hx:ev n σ x = .int k a)(hy:ev n σ y = .int k b)(hc:a=b):Gives P (ev n σ) S (.binOp .eql t x y t') ty (.bool true):=by
 subst hc; have:=g_eql (P:=P) (S:=S) (t:=t) (t':=t') (ty:=ty) hx hy; rwa [uK rfl]at this
theorem g_neF {P:Program}{n:Nat}{σ:Nat→Value}{S:World→Prop}{ty t t':TypeId}{x y:Operand}{k:IntKind}{a b:Int}(hx:ev n σ x = .int k a)(hy:ev n σ y = .int k b)(hc:a=b):Gives P (ev n σ) S (.binOp .neq t x y t') ty (.bool false):=by
 subst hc; have:=g_neq (P:=P) (S:=S) (t:=t) (t':=t') (ty:=ty) hx hy; rwa [uK rfl]at this
theorem refAll_E (ad : Option Addr) (m cap : Nat) (l : List PatL) (C : PatL × Int) (w0 : World) (I0 : Imm) (hI : Sat I0 w0) (hl : RPats I0 (.slice ad m cap) l) (hm : m = l.length) (hw : ∀ p ∈ l, p.wf) (hn : l.length ≤ 65536) (he : allP l = C) :
 Ctr Tryz.prog 98 [.slice ad m cap] w0 (fun v w'=>∃I' a m c,v = .tuple #[.agg #[.bool C.1.lifted,.int .i64 C.1.in_,.int .i64 C.1.out,.slice a m c],.int .i64 C.2]∧Ext w0 I0 w' I'∧ROps I' (.slice a m c) C.1.ops):=by
 subst hm; subst he; exact refAll_c ad cap l w0 I0 hI hl hw hn
theorem allP_wf {l:List PatL}(hw:∀p∈l,p.wf):(allP l).1.wf:=by
 have fold:∀(r:List PatL) (o:PatL),o.wf→(∀p∈r,p.wf)→(foldC o r).1.wf:=by
  intro r;induction r with
  | nil=>intro o ho _; exact ho
  | cons p r ih =>
    intro o ho hr;rw[xG];split
    · exact yp ho (hr p (by simp))
    · exact ih _ (yp ho (hr p (by simp))) fun q hq=>hr q (by simp[hq])
 cases l with
 | nil=>exact kP
 | cons p r =>
   rw[allP_cons];split
   · exact kP
   · exact fold r _ (formP_wf (hw p (by simp))) fun q hq=>hw q (by simp[hq])
end Go.Proofs.YtcajgkfgjpfmaaaGreat
