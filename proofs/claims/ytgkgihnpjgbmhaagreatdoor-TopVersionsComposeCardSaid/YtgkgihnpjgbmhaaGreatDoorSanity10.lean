/- Lift, Apply and Invert for bytes that are no code; inlaylaw10.sanity is true. Conditions: none. -/
import Derived.Test.YtgkgihnpjgbmhaaGreatDoorKCore3
import Derived.Test.YtgkgihnpjgbmhaaGreatDoorInv10
import Derived.Test.YtgkgihnpjgbmhaaGreatDoorKSmall
import Derived.Test.YtgkgihnpjgbmhaaGreatDoorKRef6
import Derived.Test.YtgkgihnpjgbmhaaGreatDoorSpec11
import Derived.Test.YtgkgihnpjgbmhaaGreatDoorKLaw
import Derived.Test.YtgkgihnpjgbmhaaGreatDoorKCut
import Derived.Test.YtgkgihnpjgbmhaaGreatDoorKOpt
import Derived.Test.YtgkgihnpjgbmhaaGreatDoorKComp
import Derived.Test.YtgkgihnpjgbmhaaGreatDoorSanity9
set_option linter.unusedSimpArgs false
set_option linter.unusedVariables false
namespace Go.Proofs.YtgkgihnpjgbmhaaGreatDoor
open Go Go.RowKit Go.Inl
theorem yL (p : PatL) (ad bd : Option Addr) (m cap n capb : Nat) (old : List Int) (q : PatL) (e : Int) (w0 : World) (I0 : Imm) (hI : Sat I0 w0) (hops : ROps I0 (.slice ad m cap) p.ops) (hp : p.wf) (hl : p.lifted = false) (ho : RBytes I0 (.slice bd n capb) old) (hn : n = old.length) (hob : ∀ y ∈ old, 0 ≤ y ∧ y ≤ 255) (he : invertP old p = (q, e)) :
 Ctr Tryz.prog 10 [.slice bd n capb,.agg #[.bool p.lifted,.int .i64 p.in_,.int .i64 p.out,.slice ad m cap]] w0 (fun v w'=>∃I' a m c,v = .tuple #[.agg #[.bool q.lifted,.int .i64 q.in_,.int .i64 q.out,.slice a m c],.int .i64 e]∧Ext w0 I0 w' I'∧ROps I' (.slice a m c) q.ops):=by
 subst hn; exact invert_c p ad bd m cap capb old q e w0 I0 hI hops hp hl ho hob he
end Go.Proofs.YtgkgihnpjgbmhaaGreatDoor
