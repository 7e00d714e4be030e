/- inlayref02.In, inlayref08.fits, price: what they compute. Conditions: numbers within bounds. -/
import Derived.Test.YtcajgkfgjpfmaaaGreatKCut
import Derived.Test.YtcajgkfgjpfmaaaGreatKOpt
set_option linter.unusedSimpArgs false
set_option linter.unusedVariables false
namespace Go.Proofs.YtcajgkfgjpfmaaaGreat
open Tryz
open Go Go.RowKit Go.Inl
theorem refIn_c (n lo hi:Int)(w0:World)(I0:Imm)(hI:Sat I0 w0):Ctr prog 96 [.int .i64 n,.int .i64 lo,.int .i64 hi] w0 (fun v w'=>v = .bool (inS n lo hi)∧Ext w0 I0 w' I0):=by
 refine fn (n:=15) func96 rfl rfl rfl ?_;have hS:=St.start hI;refine QwR (qq hS (Qab rfl) (QoR (qq hS (Qmi rfl) (qq hS (Qmi rfl) (qq hS (g_geq rfl rfl) (qq hS (Qmb rfl) (qu rfl rfl hS (fun hg=>(Qmi rfl)) ?_)))))));intro u11 hu11 hn11;refine qu rfl rfl hS (fun hg=>(Qmi rfl)) ?_;intro u12 hu12 hn12;refine qu rfl rfl hS (fun hg=>(g_leq (hu11 hg) (hu12 hg))) ?_;intro u13 hu13 hn13;refine qq hS (g_and rfl rfl (fun hq=>hu13 hq)) (qq hS (Qab rfl) (QoN (ub (ret1 results96 (qr (v:=.bool _) rfl) ?_))));exact⟨rfl,hS.nil⟩
end Go.Proofs.YtcajgkfgjpfmaaaGreat
