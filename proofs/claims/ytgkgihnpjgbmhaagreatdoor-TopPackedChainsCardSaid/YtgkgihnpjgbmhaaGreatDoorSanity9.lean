/- inlaylaw09.sanity: it is true. Conditions: none. -/
import Derived.Test.YtgkgihnpjgbmhaaGreatDoorKComp
set_option linter.unusedSimpArgs false
set_option linter.unusedVariables false
namespace Go.Proofs.YtgkgihnpjgbmhaaGreatDoor
open Go Go.RowKit Go.Inl
theorem all_E (ad : Option Addr) (m cap : Nat) (l : List PatL) (C : PatL × Int) (w0 : World) (I0 : Imm) (hI : Sat I0 w0) (hl : RPats I0 (.slice ad m cap) l) (hm : m = l.length) (hw : ∀ p ∈ l, p.wf) (hn : l.length ≤ 65536) (he : allP l = C) :
 Ctr Tryz.prog 22 [.slice ad m cap] w0 (fun v w'=>∃I' a m c,v = .tuple #[.agg #[.bool C.1.lifted,.int .i64 C.1.in_,.int .i64 C.1.out,.slice a m c],.int .i64 C.2]∧Ext w0 I0 w' I'∧ROps I' (.slice a m c) C.1.ops):=by
 subst hm; subst he; exact all_c ad cap l w0 I0 hI hl hw hn
end Go.Proofs.YtgkgihnpjgbmhaaGreatDoor
