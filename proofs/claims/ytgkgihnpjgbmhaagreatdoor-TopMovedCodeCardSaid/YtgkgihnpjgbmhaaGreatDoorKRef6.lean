/- The functions of package inlayref06 that look at patches: what they compute. Conditions: numbers within bounds. inlayref06.Symbols: what it computes. Conditions: numbers within bounds. The functions of package inlayref06 that make patches and symbols of descriptions: what they compute. Conditions: numbers within bounds. -/
import Derived.Test.YtgkgihnpjgbmhaaGreatDoorKSmall
import Derived.Test.YtgkgihnpjgbmhaaGreatDoorKCore2
set_option linter.unusedSimpArgs false
set_option linter.unusedVariables false
namespace Go.Proofs.YtgkgihnpjgbmhaaGreatDoor
open Go Go.RowKit Go.Inl
end Go.Proofs.YtgkgihnpjgbmhaaGreatDoor
namespace Go.Proofs.YtgkgihnpjgbmhaaGreatDoor
open Go Go.RowKit Go.Inl
end Go.Proofs.YtgkgihnpjgbmhaaGreatDoor
namespace Go.Proofs.YtgkgihnpjgbmhaaGreatDoor
open Go Go.RowKit Go.Inl
structure Q4 where
 a:Int
 b:Int
 c:Int
 d:Int
def q4C (q:Q4):List Value:=[.bg q.a,.bg q.b,.bg q.c,.bg q.d]
def Q4.wf (q:Q4):Prop:=(0≤q.a∧q.a≤255)∧(0≤q.b∧q.b≤255)∧(0≤q.c∧q.c≤255)∧(0≤q.d∧q.d≤255)
def _root_.Go.Inl.Sym.fit (s:Sym)(size:Int):Prop:=(s.old=true→0≤s.at_∧s.at_ < size)∧(s.old=false→s.at_=0)∧0≤s.b∧s.b≤2
end Go.Proofs.YtgkgihnpjgbmhaaGreatDoor
