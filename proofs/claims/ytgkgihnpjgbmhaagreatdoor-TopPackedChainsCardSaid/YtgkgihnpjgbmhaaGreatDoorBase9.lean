/- Contracts in the form that the laws of chapter 9 use, and what these need of plain laws. Conditions: numbers within bounds. -/
import Derived.Test.YtgkgihnpjgbmhaaGreatDoorSanity9
import Derived.Test.YtgkgihnpjgbmhaaGreatDoorKComp
import Derived.Test.YtgkgihnpjgbmhaaGreatDoorKCut
set_option linter.unusedSimpArgs false
set_option linter.unusedVariables false
namespace Go.Proofs.YtgkgihnpjgbmhaaGreatDoor
open Go Go.RowKit Go.Inl
theorem chain_E (ad : Option Addr) (cap : Nat) (l : List RawL) (n : Nat) (C : List PatL) (w0 : World) (I0 : Imm) (hI : Sat I0 w0) (hl : RRaws I0 (.slice ad l.length cap) l) (hw : ∀ x ∈ l, x.wf) (hn : n ≤ 4) (he : chainP l n = C) :
 Ctr Tryz.prog 20 [.slice ad l.length cap,.int .i64 n] w0 (fun v w'=>∃I' a c,v = .slice a C.length c∧Ext w0 I0 w' I'∧RPats I' (.slice a C.length c) C):=by
 subst he; exact chain_c ad cap l n w0 I0 hI hl hw hn
theorem allP_wf {l:List PatL}(hw:∀p∈l,p.wf):(allP l).1.wf:=by
 have fold:∀(r:List PatL) (o:PatL),o.wf→(∀p∈r,p.wf)→(foldC o r).1.wf:=by
  intro r;induction r with
  | nil=>intro o ho _; exact ho
  | cons p r ih =>
    intro o ho hr;rw[foldC_cons];split
    · exact ze ho (hr p (by simp))
    · exact ih _ (ze ho (hr p (by simp))) fun q hq=>hr q (by simp[hq])
 cases l with
 | nil=>exact jC
 | cons p r =>
   rw[allP_cons];split
   · exact jC
   · exact fold r _ (formP_wf (hw p (by simp))) fun q hq=>hw q (by simp[hq])
end Go.Proofs.YtgkgihnpjgbmhaaGreatDoor
