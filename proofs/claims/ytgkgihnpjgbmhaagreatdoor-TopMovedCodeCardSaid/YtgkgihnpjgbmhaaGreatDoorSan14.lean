/- inlaylaw14.sanity: it is true; what Unpack does with packed patches, and with what is none. Conditions: none. -/
import Derived.Test.YtgkgihnpjgbmhaaGreatDoorUnp14
import Derived.Test.YtgkgihnpjgbmhaaGreatDoorKCore3
import Derived.Test.YtgkgihnpjgbmhaaGreatDoorKCut
set_option linter.unusedSimpArgs false
set_option linter.unusedVariables false
namespace Go.Proofs.YtgkgihnpjgbmhaaGreatDoor
open Go Go.RowKit Go.Inl
structure UnpY (b : List Int) (p : PatL) : Prop where
 c:∀(ad:Option Addr) (cap:Nat) (w0:World) (I0:Imm),Sat I0 w0→RBytes I0 (.sg ad b.length cap) b→Ctr Tryz.prog 18 [.sg ad b.length cap] w0 (fun v w'=>∃I' a m c,v = .tuple #[.agg #[.bool p.lifted,.ig p.in_,.ig p.out,.sg a m c],.ig 0]∧Ext w0 I0 w' I'∧ROps I' (.sg a m c) p.ops)
theorem opsS_of {p:PatL}(hk:(checkP p).2=0):∀x∈p.ops,OpS x:=fun x hx=>opS_of ((ja hk).1 x hx).2
theorem sumP_len (l:List Int):(Inl.sumP l).length=4:=by unfold Inl.sumP; rw[qI]; rfl
theorem yz {p:PatL}(h:PatG p):(packP p).length=26+(code1 (lsP p.ops)).length+(code2 (dtP p.ops)).length:=by
 unfold packP; rw[xN,sumP_len,vZ h]; omega
theorem packP_head (p:PatL):packP p=headP p++(code1 (lsP p.ops)++(code2 (dtP p.ops)++Inl.sumP (bodyP p))):=by
 unfold packP bodyP; simp only[uh]
theorem packP_take {p:PatL}(h:PatG p):(packP p).take ((packP p).length - 4)=bodyP p:=by
 have h1:(packP p).length - 4=(bodyP p).length:=by rw[yz h,vZ h]; omega
 rw[h1]; unfold packP; rw[QK (uc _),uL]
theorem packP_drop {p:PatL}(h:PatG p):(packP p).drop ((packP p).length - 4)=Inl.sumP (bodyP p):=by
 have h1:(packP p).length - 4=(bodyP p).length:=by rw[yz h,vZ h]; omega
 rw[h1]; unfold packP; rw[List.drop_append_of_le_length (uc _),List.drop_length,Ja]
theorem rest_byt {p:PatL}(h:PatG p):Byt (code1 (lsP p.ops)++(code2 (dtP p.ops)++Inl.sumP (bodyP p))):=jw (vB (zJ _)).1 (jw (vA (yI h.ops)).1 (sumP_byt _))
theorem unp_right {p:PatL}(hp:p.wf)(hk:(checkP p).2=0):UnpY (packP p) p :=
 ⟨fun ad cap w0 I0 hI hb=>by
   have hG:=patG_of hp hk;refine(unpack_c (packP p) (fun q ok=>ok=true∧q=p) (packP_byt hG) (fun _ _=>⟨fun ad cap w0 I0 hI hb=>?_⟩) ad cap w0 I0 hI hb).mono ?_
   · refine (read_c p hp hG (opsS_of hk) ad cap _ (packP p) (rest_byt hG) (packP_head p) (fun _ => ⟨_, rfl⟩) w0 I0 hI hb).mono ?_
     rintro v w' ⟨I',q,ok,a,m,c,h1,h2,h3,h4,h5,h6⟩;have hok:=h5.2 (yz hG);exact⟨I',q,ok,a,m,c,h1,h2,⟨hok,h6 hok⟩,fun _=>⟨h3,h4⟩⟩
   · rintro v w' (⟨q, a, m, c, I', ⟨_, rfl⟩, _, _, _, h1, h2, h3⟩ | ⟨I', h1, h2, h3⟩)
     · exact⟨I',a,m,c,h1,h2,h3⟩
     · rcases h3 with h3 | h3 | ⟨q, ok, ⟨rfl, rfl⟩, h3⟩
       · rw[yz hG]at h3; omega
       · exact absurd (by rw[packP_take hG,packP_drop hG]) h3
       · exact absurd ⟨rfl,hk,rfl⟩ h3⟩
attribute [local irreducible] packP bodyP headP code1 code2 Inl.sumP numsB
end Go.Proofs.YtgkgihnpjgbmhaaGreatDoor
