/- inlaylaw14.PackRoundTrips: its function answers true. Conditions: arguments are of their kinds. -/
import Derived.Test.YtgkgihnpjgbmhaaGreatDoorMk14
import Derived.Test.YtgkgihnpjgbmhaaGreatDoorApplyL
import Derived.Test.YtgkgihnpjgbmhaaGreatDoorKP6
set_option linter.unusedSimpArgs false
set_option linter.unusedVariables false
namespace Go.Proofs.YtgkgihnpjgbmhaaGreatDoor
open Go Go.RowKit Go.Inl
def applyK (old:List Int)(p:PatL):List Int×Int:=if p.lifted=true then applyLP old p else applyP old p
theorem apply_K (p : PatL) (ad bd : Option Addr) (m cap capb : Nat) (old R : List Int) (e : Int) (w0 : World) (I0 : Imm) (hI : Sat I0 w0) (hops : ROps I0 (.sg ad m cap) p.ops) (hp : p.wf) (ho : RBytes I0 (.sg bd old.length capb) old) (hob : Byts old) (hon : old.length ≤ 4294967296) (hR : applyK old p = (R, e)) :
 Ctr Tryz.prog 9 [.sg bd old.length capb,.agg #[.bool p.lifted,.ig p.in_,.ig p.out,.sg ad m cap]] w0 (fun v w'=>∃I' a c,v = .tuple #[.sg a R.length c,.ig e]∧Ext w0 I0 w' I'∧RBytes I' (.sg a R.length c) R):=by
 unfold applyK at hR;cases h:p.lifted
 · rw [h, xP (by decide)] at hR
   have:=apply_c p ad bd m cap capb old w0 I0 hI hops hp h ho;rw[hR,h]at this;exact this
 · rw [h, xS rfl] at hR
   have:=applyl_c p ad bd m cap capb old R e w0 I0 hI hops hp h ho hob hon hR;rw[h]at this;exact this
end Go.Proofs.YtgkgihnpjgbmhaaGreatDoor
