/- patch.Check of any patch: what it computes. Conditions: none. -/
import Derived.Test.YtgkgihnpjgbmhaaGreatDoorKSmall
import Derived.Test.YtgkgihnpjgbmhaaGreatDoorKRef6
set_option linter.unusedSimpArgs false
set_option linter.unusedVariables false
namespace Go.Proofs.YtgkgihnpjgbmhaaGreatDoor
open Go Go.RowKit Go.Inl
theorem symsOf_mem_le {l:List OpL}{x:OpL}(h:x∈l):x.len.toNat≤(symsOf l).length:=by
 induction l with
 | nil=>cases h
 | cons y l ih =>
   have e:(symsOf (y::l)).length=y.len.toNat+(symsOf l).length:=by simp[symsOf,symsOp]
   rcases xV.1 h with rfl | h
   · omega
   · have:=ih h; omega
theorem wf_of_ok {p:PatL}(h:(checkP p).2=0)(hb:∀x∈p.ops,(0≤x.b∧x.b≤255)∧∀y∈x.data,0≤y∧y≤255):p.wf:=by
 obtain⟨k1,k2,k3,k4,k5,k6,k7⟩:=ja h;refine⟨⟨by omega,by omega⟩,⟨by omega,by omega⟩,fun x hx=>?_,by omega⟩;obtain⟨l1,l2⟩:=k1 x hx;have hsum:=symsOf_mem_le hx;have hr:(1≤x.kind∧x.kind≤4)∧0≤x.from_∧x.from_≤65536:=by
  unfold rightP insideP at l2;split at l2
  · simp only[uC,ua]at l2; omega
  · split at l2
    · simp only[uC,ua]at l2; omega
    · split at l2
      · simp only[uC,ua]at l2; omega
      · split at l2
        · simp only[uC,ua]at l2; omega
        · cases l2
 exact⟨⟨by omega,by omega⟩,⟨by omega,by omega⟩,⟨by omega,by omega⟩,(hb x hx).1,(hb x hx).2⟩
end Go.Proofs.YtgkgihnpjgbmhaaGreatDoor
