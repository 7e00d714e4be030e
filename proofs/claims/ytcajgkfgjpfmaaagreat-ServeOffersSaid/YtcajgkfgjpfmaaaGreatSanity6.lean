/- inlaylaw06.sanity: it is true. Conditions: none. -/
import Derived.Test.YtcajgkfgjpfmaaaGreatApply
import Derived.Test.YtcajgkfgjpfmaaaGreatOf
set_option linter.unusedSimpArgs false
set_option linter.unusedVariables false
namespace Go.Proofs.YtcajgkfgjpfmaaaGreat
open Go Go.RowKit Go.Inl
theorem apply_E (p : PatL) (ad bd : Option Addr) (m cap n capb : Nat) (old : List Int) (R : List Int × Int) (w0 : World) (I0 : Imm) (hI : Sat I0 w0) (hops : ROps I0 (.slice ad m cap) p.ops) (hp : p.wf) (hl : p.lifted = false) (ho : RBytes I0 (.slice bd n capb) old) (hn : n = old.length) (hR : applyP old p = R) :
 Ctr Tryz.prog 40 [.slice bd n capb,.agg #[.bool p.lifted,.int .i64 p.in_,.int .i64 p.out,.slice ad m cap]] w0 (fun v w'=>∃I' a c,v = .tuple #[.slice a R.1.length c,.int .i64 R.2]∧Ext w0 I0 w' I'∧RBytes I' (.slice a R.1.length c) R.1):=by
 subst hn; subst hR; exact apply_c p ad bd m cap capb old w0 I0 hI hops hp hl ho
theorem sameB_E (va vb : Value) (a b : List Int) (w0 : World) (I0 : Imm) (hI : Sat I0 w0) (ha : RBytes I0 va a) (hb : RBytes I0 vb b) (he : a = b) :
 Ctr Tryz.prog 42 [va,vb] w0 (fun v w'=>v = .bool true∧Ext w0 I0 w' I0):=by
 have h:=sameB_c va vb a b w0 I0 hI ha hb;rw[uK he]at h;exact h
end Go.Proofs.YtcajgkfgjpfmaaaGreat
