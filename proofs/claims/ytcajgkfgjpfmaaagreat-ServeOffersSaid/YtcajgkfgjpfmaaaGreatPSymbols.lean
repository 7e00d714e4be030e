/- inlaylaw06.PatchSymbols: its function answers true. Conditions: arguments are of their kinds. -/
import Derived.Test.YtcajgkfgjpfmaaaGreatSanity6
set_option linter.unusedSimpArgs false
set_option linter.unusedVariables false
namespace Go.Proofs.YtcajgkfgjpfmaaaGreat
open Go Go.RowKit Go.Inl
theorem runP_right {p:PatL}{lo:List Int}(hk:(checkP p).2=0)(h:p.in_=lo.length):runP lo (symsOf p.ops)=((symsOf p.ops).map (runB lo),0):=by
 unfold runP;rw[badT_ok (zD _ (qP hk).1).1 h]; rfl
theorem yZ {p:PatL}{lo:List Int}(hk:(checkP p).2=0)(h:p.in_=lo.length):applyP lo p=((symsOf p.ops).map (runB lo),0):=by
 unfold applyP;rw[jh hk,ui rfl,ui h.symm];exact runP_right hk h
theorem input_E (ad : Option Addr) (cap : Nat) (b : List Int) (z : Int) (O : List Int) (w0 : World) (I0 : Imm) (hI : Sat I0 w0) (hl : RBytes I0 (.slice ad b.length cap) b) (hb : ∀ y ∈ b, 0 ≤ y ∧ y ≤ 255) (hz : 0 ≤ z ∧ z ≤ 65536) (he : inputP b z.toNat = O) :
 Ctr Tryz.prog 38 [.slice ad b.length cap,.int .i64 z] w0 (fun v w'=>∃I' a c,v = .slice a O.length c∧Ext w0 I0 w' I'∧RBytes I' (.slice a O.length c) O):=by
 obtain⟨n,rfl⟩:∃n:Nat,z=n:=⟨z.toNat,by omega⟩
 have h:=input_c ad cap b n w0 I0 hI hl hb (by omega);subst he;rw[show(inputP b ((n:Int).toNat)).length=n from xB b n];exact h
theorem g_neqF {P:Program}{n:Nat}{σ:Nat→Value}{S:World→Prop}{t t' ty:TypeId}{x y:Operand}{k:IntKind}{a b:Int}(hx:ev n σ x = .int k a)(hy:ev n σ y = .int k b)(h:a=b):Gives P (ev n σ) S (.binOp .neq t x y t') ty (.bool false):=by
 have:=g_neq (P:=P) (S:=S) (t:=t) (t':=t') (ty:=ty) hx hy;rw[uK h]at this; exact this
theorem wrap8 {y:Int}(h:0≤y∧y≤255):IntKind.u8.wrap y=y:=by rw[IntKind.wrap_u8]; omega
end Go.Proofs.YtcajgkfgjpfmaaaGreat
