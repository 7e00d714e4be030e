/- merge.places, merge.ranges: an iterator over the places where something holds, and their ranges. Conditions: numbers within bounds. -/
import Derived.Test.YtgkgihnpjgbmhaaGreatDoorKSmall
import Derived.Test.YtgkgihnpjgbmhaaGreatDoorKRef6
import Derived.Test.YtgkgihnpjgbmhaaGreatDoorKCore3
import Derived.Test.YtgkgihnpjgbmhaaGreatDoorKSpec
set_option linter.unusedSimpArgs false
set_option linter.unusedVariables false
namespace Go.Proofs.YtgkgihnpjgbmhaaGreatDoor
open Go Go.RowKit Go.Inl
theorem plc_at {f : Nat → Bool} {i : Nat} (hf : f i = true) : ∀ {n : Nat}, i < n → (plc n f)[(plc i f).length]? = some i
 | 0,h=>by omega
 | n+1,h=>by
   rw[plc_succ];by_cases hn:i=n
   · subst hn
     rw[hf,xS rfl,uB (uc _),Nat.sub_self]; rfl
   · have ih := plc_at hf (n := n) (by omega)
     split
     · rw[ux (xX.1 ih).1,ih]
     · exact ih
theorem plc_lt {f:Nat→Bool}{i n:Nat}(hf:f i=true)(h:i < n):(plc i f).length < (plc n f).length:=(xX.1 (plc_at hf h)).1
theorem plc_one {f:Nat→Bool}{i:Nat}(hf:f i=true):(plc (i+1) f).length=(plc i f).length+1:=by rw[plc_succ,hf,xS rfl,xN]; rfl
theorem plc_none {f:Nat→Bool}{i:Nat}(hf:f i=false):plc (i+1) f=plc i f:=by rw[plc_succ,hf,xP (by simp)]
end Go.Proofs.YtgkgihnpjgbmhaaGreatDoor
