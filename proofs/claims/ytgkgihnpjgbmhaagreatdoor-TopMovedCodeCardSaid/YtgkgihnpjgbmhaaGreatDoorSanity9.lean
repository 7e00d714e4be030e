/- inlaylaw09.sanity: it is true. Conditions: none. -/
import Derived.Test.YtgkgihnpjgbmhaaGreatDoorKComp
set_option linter.unusedSimpArgs false
set_option linter.unusedVariables false
namespace Go.Proofs.YtgkgihnpjgbmhaaGreatDoor
open Go Go.RowKit Go.Inl
theorem compose_E (p q : PatL) (C : PatL × Int) (ad bd : Option Addr) (m cap mb capb : Nat) (w0 : World) (I0 : Imm) (hI : Sat I0 w0) (hops : ROps I0 (.sg ad m cap) p.ops) (hp : p.wf) (hoq : ROps I0 (.sg bd mb capb) q.ops) (hq : q.wf) (he : composeP p q = C) :
 Ctr Tryz.prog 8 [.agg #[.bool p.lifted,.ig p.in_,.ig p.out,.sg ad m cap],.agg #[.bool q.lifted,.ig q.in_,.ig q.out,.sg bd mb capb]] w0 (fun v w'=>∃I' a m c,v = .tuple #[.agg #[.bool C.1.lifted,.ig C.1.in_,.ig C.1.out,.sg a m c],.ig C.2]∧Ext w0 I0 w' I'∧ROps I' (.sg a m c) C.1.ops):=by
 subst he; exact compose_c p q ad bd m cap mb capb w0 I0 hI hops hp hoq hq
end Go.Proofs.YtgkgihnpjgbmhaaGreatDoor
