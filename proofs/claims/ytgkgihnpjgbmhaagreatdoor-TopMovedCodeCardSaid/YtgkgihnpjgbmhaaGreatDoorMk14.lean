/- inlaylaw14.made: a right patch; sums of damaged bytes, prefixes. Conditions: none. -/
import Derived.Test.YtgkgihnpjgbmhaaGreatDoorSan14
set_option linter.unusedSimpArgs false
set_option linter.unusedVariables false
namespace Go.Proofs.YtgkgihnpjgbmhaaGreatDoor
open Go Go.RowKit Go.Inl
theorem packB_c (p : PatL) (B : List Int) (ad : Option Addr) (m cap : Nat) (w0 : World) (I0 : Imm) (hI : Sat I0 w0) (hops : ROps I0 (.sg ad m cap) p.ops) (hp : p.wf) (hck : (checkP p).2 = 0) (hB : packP p = B) :
 Ctr Tryz.prog 17 [.agg #[.bool p.lifted,.ig p.in_,.ig p.out,.sg ad m cap]] w0 (fun v w'=>∃I' a c,v = .tuple #[.sg a B.length c,.ig 0]∧Ext w0 I0 w' I'∧RBytes I' (.sg a B.length c) B):=by
 subst hB; exact pack_ok_c p ad m cap w0 I0 hI hops hp hck
end Go.Proofs.YtgkgihnpjgbmhaaGreatDoor
