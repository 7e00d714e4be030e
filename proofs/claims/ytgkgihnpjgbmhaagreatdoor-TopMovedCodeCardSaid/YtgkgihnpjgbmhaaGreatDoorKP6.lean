/- patch.Apply for patches that are not lifted, and Apply and Run of inlayref06: what they compute. Conditions: numbers within bounds. inlaylaw06.sanity: it is true. Conditions: none. inlaylaw06.PatchSymbols: its function answers true. Conditions: arguments are of their kinds. inlaylaw06.PatchParts: its function answers true. Conditions: arguments are of their kinds. -/
import Derived.Test.YtgkgihnpjgbmhaaGreatDoorKComp
import Derived.Test.YtgkgihnpjgbmhaaGreatDoorKCut
import Derived.Test.YtgkgihnpjgbmhaaGreatDoorKOpt
import Derived.Test.YtgkgihnpjgbmhaaGreatDoorKCore3
set_option linter.unusedSimpArgs false
set_option linter.unusedVariables false
namespace Go.Proofs.YtgkgihnpjgbmhaaGreatDoor
open Tryz
open Go Go.RowKit Go.Inl
def applyP (old:List Int)(p:PatL):List Int×Int :=
 if (symbolsP p).2=0 then if (old.length:Int)=p.in_ then runP old (symbolsP p).1 else ([],61) else ([],(symbolsP p).2)
theorem run_e (ad bd : Option Addr) (cap capb : Nat) (lo : List Int) (l : List Sym) (R : List Int × Int) (w0 : World) (I0 : Imm) (hI : Sat I0 w0) (ha : RBytes I0 (.sg ad lo.length cap) lo) (hb : RSyms I0 (.sg bd l.length capb) l) (hwb : ∀ s ∈ l, s.wf) (hn : l.length ≤ 65536) (hR : runP lo l = R) :
 Ctr prog 32 [.sg ad lo.length cap,.sg bd l.length capb] w0 (fun v w'=>∃I' a c,v = .tuple #[.sg a R.1.length c,.ig R.2]∧Ext w0 I0 w' I'∧RBytes I' (.sg a R.1.length c) R.1):=by
 subst hR; exact run_c ad bd cap capb lo l w0 I0 hI ha hb hwb hn
set_option maxHeartbeats 1000000 in
theorem apply_c (p : PatL) (ad bd : Option Addr) (m cap capb : Nat) (old : List Int) (w0 : World) (I0 : Imm) (hI : Sat I0 w0) (hops : ROps I0 (.sg ad m cap) p.ops) (hp : p.wf) (hl : p.lifted = false) (ho : RBytes I0 (.sg bd old.length capb) old) :
 Ctr prog 9 [.sg bd old.length capb,.agg #[.bool p.lifted,.ig p.in_,.ig p.out,.sg ad m cap]] w0 (fun v w'=>∃I' a c,v = .tuple #[.slice a (applyP old p).1.length c,.ig (applyP old p).2]∧Ext w0 I0 w' I'∧RBytes I' (.slice a (applyP old p).1.length c) (applyP old p).1):=by
 have hwA:=kd hp;have hlA:=ka p;have hlo:=RSl.le ho;simp only[maxLen]at hlo;have hdef:applyP old p=applyP old p:=rfl;conv at hdef=>rhs; unfold applyP
 obtain⟨A,hA⟩:∃A,symbolsP p=A:=⟨_,rfl⟩
 rw[hA]at hdef hwA hlA;obtain⟨R,hR⟩:∃R,runP old A.1=R:=⟨_,rfl⟩
 rw[hR]at hdef;refine fn (n:=62) func9 rfl rfl rfl ?_;have Z:=St.start hI;refine QwR (qe (d_box (cs:=[.bool _,.ig _,.ig _,.sg _ _ _]) Z rfl) ?_);clear Z;rintro _ w_1⟨b3,rfl,Z⟩;refine qq Z (qd _) (qq Z (Qai rfl) (QoR (qq Z (g_ldO 0 (vs:=[.bool _,.ig _,.ig _,.sg _ _ _]) ug uO rfl rfl rfl rfl) (qe (qi call27 rfl (yx p ad m cap A _ _ Z.imm hops hp hA)) ?_))));rintro _ w_2⟨I_f,a13,c13,rfl,hE,h13⟩;replace Z:=Z.callE hE;replace hops:=hops.mono hE.ext;replace ho:=ho.mono hE.ext;refine qq Z (qb _) (qq Z (qk rfl rfl) (qq Z (Qxi rfl rfl) (qq Z (qd _) (qq Z (Qai rfl) (QoN (xJ (QwR (qq Z (Qmi rfl) (qq Z (g_neq rfl rfl) (QoN (qh rfl ?_ ?_)))))))))))
 ·
  intro hc18
  try simp only[zA,zO,zN,zI,zF,zM,zT,zU]at hc18
  rw[xP hc18]at hdef;refine QwR (qq Z (Qmi rfl) (qq Z (qd _) (qq Z (Qai rfl) (QoN (xO (ul ?_))))));rw[hdef];refine ret2 JC (qg rfl) (qg (v:=.ig _) rfl) ?_;exact⟨_,none,0,rfl,Z.nil,RFl.nil⟩
 ·
  intro hc18
  try simp only[zA,zO,zN,zI,zF,zM,zT,zU]at hc18
  rw[xS hc18]at hdef;refine xM (xL (xJ (QwR (qq Z (qa (o':=0) uk rfl uy rfl rfl rfl) (qq Z (qc 0 QA rfl rfl rfl) (QoN (qV (congrArg Value.bool hl) (xM (xL (xJ (QwR (qq Z (qb _) (qq Z (qo rfl xQ ho rfl) (qq Z (qa (o':=1) uk rfl xK rfl rfl rfl) (qq Z (qc 0 xW rfl rfl rfl) (qq Z (g_neq rfl rfl) (QoN (qh rfl ?_ ?_))))))))))))))))))
  ·
   intro hc35
   try simp only[zA,zO,zN,zI,zF,zM,zT,zU]at hc35
   rw[xP (by omega)]at hdef;refine QwR (qq Z (qd _) (qq Z (Qai rfl) (QoN (xO (ul ?_)))));rw[hdef];refine ret2 JC (qg rfl) (qg (v:=.ig _) rfl) ?_;exact⟨_,none,0,rfl,Z.nil,RFl.nil⟩
  ·
   intro hc35
   try simp only[zA,zO,zN,zI,zF,zM,zT,zU]at hc35
   rw[xS (by omega)]at hdef;refine xM (xL (QwR (qq Z (qb _) (qq Z (qb _) (qe (qi call32 rfl (run_e bd a13 capb c13 old A.1 R _ _ Z.imm ho h13 hwA hlA hR)) ?_)))));rintro _ w_3⟨I_f,a39,c39,rfl,hE,h39⟩;replace Z:=Z.callE hE;replace hops:=hops.mono hE.ext;replace ho:=ho.mono hE.ext;replace h13:=h13.mono hE.ext;refine qq Z (qb _) (qq Z (qk rfl rfl) (qq Z (Qxi rfl rfl) (qq Z (qd _) (qq Z (Qai rfl) (QoN (xJ (QwR (qq Z (Qmi rfl) (qq Z (g_neq rfl rfl) (qq Z (Qmb rfl) (qu rfl rfl Z (fun hg=>(qa (o':=0) uk rfl uy rfl rfl rfl)) ?_)))))))))));intro u45 hu45 hn45;refine qu rfl rfl Z (fun hg=>(qc 0 QA rfl (hu45 hg) rfl)) ?_;intro u46 hu46 hn46;refine qu rfl rfl Z (fun hg=>(g_not (hu46 hg))) ?_;intro u47 hu47 hn47;refine qq Z (g_or rfl rfl (fun hq=>hu47 hq)) (QoN (jR (congrArg Value.bool (by simp[hl])) (QwR (qq Z (qb _) (qq Z (Qmi rfl) (qq Z (qd _) (qq Z (Qai rfl) (QoN (xO (ul ?_))))))))));rw[hdef];refine ret2 JC (qg rfl) (qg (v:=.ig _) rfl) ?_;exact⟨_,a39,c39,rfl,Z.nil,h39⟩
end Go.Proofs.YtgkgihnpjgbmhaaGreatDoor
namespace Go.Proofs.YtgkgihnpjgbmhaaGreatDoor
open Tryz
open Go Go.RowKit Go.Inl
theorem apply_E (p : PatL) (ad bd : Option Addr) (m cap n capb : Nat) (old : List Int) (R : List Int × Int) (w0 : World) (I0 : Imm) (hI : Sat I0 w0) (hops : ROps I0 (.sg ad m cap) p.ops) (hp : p.wf) (hl : p.lifted = false) (ho : RBytes I0 (.sg bd n capb) old) (hn : n = old.length) (hR : applyP old p = R) :
 Ctr prog 9 [.sg bd n capb,.agg #[.bool p.lifted,.ig p.in_,.ig p.out,.sg ad m cap]] w0 (fun v w'=>∃I' a c,v = .tuple #[.sg a R.1.length c,.ig R.2]∧Ext w0 I0 w' I'∧RBytes I' (.sg a R.1.length c) R.1):=by
 subst hn; subst hR; exact apply_c p ad bd m cap capb old w0 I0 hI hops hp hl ho
theorem xi (va vb : Value) (a b : List Int) (w0 : World) (I0 : Imm) (hI : Sat I0 w0) (ha : RBytes I0 va a) (hb : RBytes I0 vb b) (he : a = b) :
 Ctr prog 11 [va,vb] w0 (fun v w'=>v = .bool true∧Ext w0 I0 w' I0):=by
 have h:=sameB_c va vb a b w0 I0 hI ha hb;rw[uH he]at h;exact h
theorem costN_E (p : PatL) (ad : Option Addr) (m cap : Nat) (n : Int) (w0 : World) (I0 : Imm) (hI : Sat I0 w0) (hops : ROps I0 (.sg ad m cap) p.ops) (hp : p.wf) (hok : (checkP p).2 = 0) (he : sumC p.ops = n) :
 Ctr prog 13 [.agg #[.bool p.lifted,.ig p.in_,.ig p.out,.sg ad m cap]] w0 (fun v w'=>v = .ig n∧Ext w0 I0 w' I0):=by
 subst he; exact patchCost_ok p ad m cap w0 I0 hI hops hp hok
end Go.Proofs.YtgkgihnpjgbmhaaGreatDoor
namespace Go.Proofs.YtgkgihnpjgbmhaaGreatDoor
open Tryz
open Go Go.RowKit Go.Inl
theorem runP_right {p:PatL}{lo:List Int}(hk:(checkP p).2=0)(h:p.in_=lo.length):runP lo (symsOf p.ops)=((symsOf p.ops).map (runB lo),0):=by
 unfold runP;rw[badT_ok (yS _ (ja hk).1).1 h]; rfl
theorem zZ {p:PatL}{lo:List Int}(hk:(checkP p).2=0)(h:p.in_=lo.length):applyP lo p=((symsOf p.ops).map (runB lo),0):=by
 unfold applyP;rw[jX hk,xS rfl,xS h.symm];exact runP_right hk h
theorem g_neqF {P:Program}{n:Nat}{σ:Nat→Value}{S:World→Prop}{t t' ty:TypeId}{x y:Operand}{k:IntKind}{a b:Int}(hx:ev n σ x = .int k a)(hy:ev n σ y = .int k b)(h:a=b):Gives P (ev n σ) S (.binOp .neq t x y t') ty (.bool false):=by
 have:=g_neq (P:=P) (S:=S) (t:=t) (t':=t') (ty:=ty) hx hy;rw[uH h]at this; exact this
theorem wrap8 {y:Int}(h:0≤y∧y≤255):IntKind.u8.wrap y=y:=by rw[IntKind.wrap_u8]; omega
end Go.Proofs.YtgkgihnpjgbmhaaGreatDoor
namespace Go.Proofs.YtgkgihnpjgbmhaaGreatDoor
open Tryz
open Go Go.RowKit Go.Inl
theorem apply_L (p : PatL) (ad bd : Option Addr) (m cap n capb : Nat) (old R : List Int) (e : Int) (w0 : World) (I0 : Imm) (hI : Sat I0 w0) (hops : ROps I0 (.sg ad m cap) p.ops) (hp : p.wf) (hl : p.lifted = false) (ho : RBytes I0 (.sg bd n capb) old) (hn : n = old.length) (hR : applyP old p = (R, e)) :
 Ctr prog 9 [.sg bd n capb,.agg #[.bool p.lifted,.ig p.in_,.ig p.out,.sg ad m cap]] w0 (fun v w'=>∃I' a c,v = .tuple #[.sg a R.length c,.ig e]∧Ext w0 I0 w' I'∧RBytes I' (.sg a R.length c) R) :=
 apply_E p ad bd m cap n capb old (R,e) w0 I0 hI hops hp hl ho hn hR
theorem symbols_L (p : PatL) (ad : Option Addr) (m cap : Nat) (A : List Sym) (e : Int) (w0 : World) (I0 : Imm) (hI : Sat I0 w0) (hops : ROps I0 (.sg ad m cap) p.ops) (hp : p.wf) (he : symbolsP p = (A, e)) :
 Ctr prog 27 [.agg #[.bool p.lifted,.ig p.in_,.ig p.out,.sg ad m cap]] w0 (fun v w'=>∃I' a c,v = .tuple #[.sg a A.length c,.ig e]∧Ext w0 I0 w' I'∧RSyms I' (.sg a A.length c) A) :=
 yx p ad m cap (A,e) w0 I0 hI hops hp he
end Go.Proofs.YtgkgihnpjgbmhaaGreatDoor
