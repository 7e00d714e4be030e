/- What package merge computes, as plain Lean. Conditions: none. -/
import Derived.Test.YtgkgihnpjgbmhaaGreatDoorKSpec
set_option linter.unusedSimpArgs false
set_option linter.unusedVariables false
namespace Go.Inl
theorem ko {α:Type}{p:List α→Prop}(h0:p [])(h1:∀l a,p l→p (l++[a]))(l:List α):p l:=by
 have h:∀l:List α,p l.reverse:=by
  intro l;induction l with
  | nil=>exact h0
  | cons a l ih=>rw[List.reverse_cons]; exact h1 _ _ ih
 have:=h l.reverse;rwa [List.reverse_reverse]at this
/-! ### What a patch touches and reads -/
def sAt (l:List Sym)(k:Nat):Sym:=l.getD k z0
theorem vv {l:List Sym}{k:Nat}{s:Sym}(h:l[k]? = some s):sAt l k=s:=by unfold sAt; rw[vQ,h]; rfl
end Go.Inl
