/- inlaylaw09.sanity: it is true. Conditions: none. -/
import Derived.Test.YtgkgihnpjgbmhaaGreatDoorKComp
set_option linter.unusedSimpArgs false
set_option linter.unusedVariables false
namespace Go.Proofs.YtgkgihnpjgbmhaaGreatDoor
open Go Go.RowKit Go.Inl
theorem compose_E (p q : PatL) (C : PatL × Int) (ad bd : Option Addr) (m cap mb capb : Nat) (w0 : World) (I0 : Imm) (hI : Sat I0 w0) (hops : ROps I0 (.slice ad m cap) p.ops) (hp : p.wf) (hoq : ROps I0 (.slice bd mb capb) q.ops) (hq : q.wf) (he : composeP p q = C) :
 Ctr Tryz.prog 8 [.agg #[.bool p.lifted,.int .i64 p.in_,.int .i64 p.out,.slice ad m cap],.agg #[.bool q.lifted,.int .i64 q.in_,.int .i64 q.out,.slice bd mb capb]] w0 (fun v w'=>∃I' a m c,v = .tuple #[.agg #[.bool C.1.lifted,.int .i64 C.1.in_,.int .i64 C.1.out,.slice a m c],.int .i64 C.2]∧Ext w0 I0 w' I'∧ROps I' (.slice a m c) C.1.ops):=by
 subst he; exact compose_c p q ad bd m cap mb capb w0 I0 hI hops hp hoq hq
end Go.Proofs.YtgkgihnpjgbmhaaGreatDoor
