/- Contracts and facts that the laws which reach patch.Apply share. Conditions: none. -/
import Derived.Test.YtgkgihnpjgbmhaaGreatDoorKP6
import Derived.Test.YtgkgihnpjgbmhaaGreatDoorKLaw
set_option linter.unusedSimpArgs false
set_option linter.unusedVariables false
namespace Go.Proofs.YtgkgihnpjgbmhaaGreatDoor
open Go Go.RowKit Go.Inl
theorem right_K (p : PatL) (ad : Option Addr) (m cap : Nat) (w0 : World) (I0 : Imm) (hI : Sat I0 w0) (hops : ROps I0 (.slice ad m cap) p.ops) (hp : p.wf) (hk : (checkP p).2 = 0) :
 Ctr Tryz.prog 12 [.agg #[.bool p.lifted,.int .i64 p.in_,.int .i64 p.out,.slice ad m cap]] w0 (fun v w'=>v = .bool true∧Ext w0 I0 w' I0):=by
 have h:=rightP_c p ad m cap w0 I0 hI hops hp;rw[checkR_of hk]at h;exact h
section
variable {P:Program} {n:Nat} {σ:Nat→Value} {S:World→Prop} {t t' ty:TypeId} {x y:Operand} {k:IntKind} {a b:Int}
end
end Go.Proofs.YtgkgihnpjgbmhaaGreatDoor
