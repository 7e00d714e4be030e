/- The arguments of the laws over patches read as plain data: raw patches, raw symbols. Conditions: none. The arguments of the laws over code read as plain data. Conditions: none. -/
import Derived.Test.YtgkgihnpjgbmhaaGreatDoorArgs
import Derived.Test.YtgkgihnpjgbmhaaGreatDoorKRef6
import Derived.KernelRfl
set_option linter.unusedSimpArgs false
set_option linter.unusedVariables false
namespace Go.Proofs.YtgkgihnpjgbmhaaGreatDoor
open Tryz
open Go Go.Inl Go.RowKit Go.ChangeShapes Go.WideShapes
section
variable {H:Type} {enc:TypeId×Value→H} {w:World}
theorem list4 {l:List Int}(h:l.length=4):∃a b c d,l=[a,b,c,d]:=by
 match l,h with
 | [a,b,c,d],_=>exact⟨a,b,c,d,rfl⟩
instance:Inhabited Q4:=⟨⟨0,0,0,0⟩⟩
end
end Go.Proofs.YtgkgihnpjgbmhaaGreatDoor
namespace Go.Proofs.YtgkgihnpjgbmhaaGreatDoor
open Tryz
open Go Go.Inl Go.RowKit Go.ChangeShapes Go.WideShapes
section
variable {H:Type} {enc:TypeId×Value→H} {w:World}
theorem opens_r2s:Opens enc prog w 38 (fun cs=>∃a cap,∃l:List Q4,cs=[.sg a l.length cap]∧RFl (memI w) 4 q4C (.sg a l.length cap) l∧∀q∈l,q.wf):=by
 refine opens_mono (opens_slice (α := Q4) (fun cs x => cs = q4C x ∧ x.wf) JD (sz := 4) (by kernel_rfl) (by decide)
  (opens_mono (opens_array (k:=.u8) Jj uA (by kernel_rfl) (by kernel_rfl)) ?_)) ?_
 · rintro cs ⟨l, rfl, hl, hw⟩
   obtain⟨a,b,c,d,rfl⟩:=list4 hl;exact⟨⟨a,b,c,d⟩,rfl,u8_of (hw a (by simp)),u8_of (hw b (by simp)),u8_of (hw c (by simp)),u8_of (hw d (by simp))⟩
 · rintro cs ⟨a, len, cap, xs, rfl, rfl, h⟩
   exact⟨a,cap,xs,rfl,h.part⟩
end
end Go.Proofs.YtgkgihnpjgbmhaaGreatDoor
