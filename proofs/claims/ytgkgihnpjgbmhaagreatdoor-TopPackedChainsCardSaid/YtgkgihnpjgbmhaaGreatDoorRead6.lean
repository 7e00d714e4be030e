/- The arguments of the laws over patches read as plain data: raw patches, raw symbols. Conditions: none. -/
import Derived.Test.YtgkgihnpjgbmhaaGreatDoorArgs
import Derived.Test.YtgkgihnpjgbmhaaGreatDoorPats
import Derived.KernelRfl
set_option linter.unusedSimpArgs false
set_option linter.unusedVariables false
namespace Go.Proofs.YtgkgihnpjgbmhaaGreatDoor
open Tryz
open Go Go.Inl Go.RowKit Go.ChangeShapes Go.WideShapes
section
variable {H:Type} {enc:TypeId×Value→H} {w:World}
theorem list4 {l:List Int}(h:l.length=4):∃a b c d,l=[a,b,c,d]:=by
 match l,h with
 | [a,b,c,d],_=>exact⟨a,b,c,d,rfl⟩
instance:Inhabited Q4:=⟨⟨0,0,0,0⟩⟩
theorem opens_q4s:Opens enc prog w 107 (fun cs=>∃a cap,∃l:List Q4,cs=[.slice a l.length cap]∧RFl (memI w) 4 q4C (.slice a l.length cap) l∧∀q∈l,q.wf):=by
 refine jy (kW (α := Q4) (fun cs x => cs = q4C x ∧ x.wf) underlying107 (sz := 4) (by kernel_rfl) (by decide)
  (jy (opens_array (k:=.u8) uZ xH (by kernel_rfl) (by kernel_rfl)) ?_)) ?_
 · rintro cs ⟨l, rfl, hl, hw⟩
   obtain⟨a,b,c,d,rfl⟩:=list4 hl;exact⟨⟨a,b,c,d⟩,rfl,u8_of (hw a (by simp)),u8_of (hw b (by simp)),u8_of (hw c (by simp)),u8_of (hw d (by simp))⟩
 · rintro cs ⟨a, len, cap, xs, rfl, rfl, h⟩
   exact⟨a,cap,xs,rfl,h.part⟩
theorem opens_raw:Opens enc prog w 109 (fun cs=>∃r a cap,∃l:List Q4,cs=[.int .u8 r,.slice a l.length cap]∧(0≤r∧r≤255)∧RFl (memI w) 4 q4C (.slice a l.length cap) l∧∀q∈l,q.wf):=by
 refine jy (opens_struct2 (n0:=1) (n1:=1) Qu (opens_int xH) opens_q4s rfl rfl rfl rfl (by kernel_rfl) (by kernel_rfl) (by kernel_rfl)) ?_;rintro cs⟨c0,c1,rfl,⟨r,rfl,hr⟩,⟨a,cap,l,rfl,h1,h2⟩⟩;exact⟨r,a,cap,l,rfl,u8_of hr,h1,h2⟩
instance:Inhabited RawL:=⟨⟨0,[]⟩⟩
theorem opens_raws:Opens enc prog w 47 (fun cs=>∃a cap,∃l:List RawL,cs=[.slice a l.length cap]∧RRaws (memI w) (.slice a l.length cap) l∧∀q∈l,q.wf):=by
 refine jy (kW (α:=RawL) (fun cs x=>RRawC (memI w) cs x∧x.wf) Qz (sz:=2) (by kernel_rfl) (by decide) (jy opens_raw ?_)) ?_
 · rintro cs ⟨r, a, cap, l, rfl, hr, h1, h2⟩
   exact⟨⟨r,l⟩,⟨a,cap,rfl,h1⟩,hr,h2⟩
 · rintro cs ⟨a, len, cap, xs, rfl, rfl, h⟩
   exact⟨a,cap,xs,rfl,h.part⟩
end
end Go.Proofs.YtgkgihnpjgbmhaaGreatDoor
