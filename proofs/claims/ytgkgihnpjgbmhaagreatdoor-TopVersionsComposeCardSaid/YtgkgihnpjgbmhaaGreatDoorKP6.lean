/- patch.Apply for patches that are not lifted, and Apply and Run of inlayref06: what they compute. Conditions: numbers within bounds. inlaylaw06.sanity: it is true. Conditions: none. inlaylaw06.PatchSymbols: its function answers true. Conditions: arguments are of their kinds. inlaylaw06.PatchParts: its function answers true. Conditions: arguments are of their kinds. -/
import Derived.Test.YtgkgihnpjgbmhaaGreatDoorKComp
import Derived.Test.YtgkgihnpjgbmhaaGreatDoorKCut
import Derived.Test.YtgkgihnpjgbmhaaGreatDoorKOpt
import Derived.Test.YtgkgihnpjgbmhaaGreatDoorKCore3
set_option linter.unusedSimpArgs false
set_option linter.unusedVariables false
namespace Go.Proofs.YtgkgihnpjgbmhaaGreatDoor
open Tryz
open Go Go.RowKit Go.Inl
def applyP (old:List Int)(p:PatL):List Int×Int :=
 if (symbolsP p).2=0 then if (old.length:Int)=p.in_ then runP old (symbolsP p).1 else ([],61) else ([],(symbolsP p).2)
theorem run_e (ad bd : Option Addr) (cap capb : Nat) (lo : List Int) (l : List Sym) (R : List Int × Int) (w0 : World) (I0 : Imm) (hI : Sat I0 w0) (ha : RBytes I0 (.slice ad lo.length cap) lo) (hb : RSyms I0 (.slice bd l.length capb) l) (hwb : ∀ s ∈ l, s.wf) (hn : l.length ≤ 65536) (hR : runP lo l = R) :
 Ctr prog 32 [.slice ad lo.length cap,.slice bd l.length capb] w0 (fun v w'=>∃I' a c,v = .tuple #[.slice a R.1.length c,.int .i64 R.2]∧Ext w0 I0 w' I'∧RBytes I' (.slice a R.1.length c) R.1):=by
 subst hR; exact run_c ad bd cap capb lo l w0 I0 hI ha hb hwb hn
set_option maxHeartbeats 1000000 in
theorem apply_c (p : PatL) (ad bd : Option Addr) (m cap capb : Nat) (old : List Int) (w0 : World) (I0 : Imm) (hI : Sat I0 w0) (hops : ROps I0 (.slice ad m cap) p.ops) (hp : p.wf) (hl : p.lifted = false) (ho : RBytes I0 (.slice bd old.length capb) old) :
 Ctr prog 9 [.slice bd old.length capb,.agg #[.bool p.lifted,.int .i64 p.in_,.int .i64 p.out,.slice ad m cap]] w0 (fun v w'=>∃I' a c,v = .tuple #[.slice a (applyP old p).1.length c,.int .i64 (applyP old p).2]∧Ext w0 I0 w' I'∧RBytes I' (.slice a (applyP old p).1.length c) (applyP old p).1):=by
 have hwA:=jP hp;have hlA:=jN p;have hlo:=RSl.le ho;simp only[maxLen]at hlo;have hdef:applyP old p=applyP old p:=rfl;conv at hdef=>rhs; unfold applyP
 obtain⟨A,hA⟩:∃A,symbolsP p=A:=⟨_,rfl⟩
 rw[hA]at hdef hwA hlA;obtain⟨R,hR⟩:∃R,runP old A.1=R:=⟨_,rfl⟩
 rw[hR]at hdef;refine fn (n:=62) func9 rfl rfl rfl ?_;have hS:=St.start hI;refine QwR (qe (d_box (cs:=[.bool _,.int .i64 _,.int .i64 _,.slice _ _ _]) hS rfl) ?_);clear hS;rintro _ w_1⟨b3,rfl,hS⟩;refine qq hS (qc _) (qq hS (Qai rfl) (QoR (qq hS (g_ldO 0 (vs:=[.bool _,.int .i64 _,.int .i64 _,.slice _ _ _]) vZ xy rfl rfl rfl rfl) (qe (qg call27 rfl (zc p ad m cap A _ _ hS.imm hops hp hA)) ?_))));rintro _ w_2⟨I_f,a13,c13,rfl,hE,h13⟩;replace hS:=hS.callE hE;replace hops:=hops.mono hE.ext;replace ho:=ho.mono hE.ext;refine qq hS (qb _) (qq hS (qm rfl rfl) (qq hS (Qxi rfl rfl) (qq hS (qc _) (qq hS (Qai rfl) (QoN (vD (QwR (qq hS (Qmi rfl) (qq hS (g_neq rfl rfl) (QoN (qj rfl ?_ ?_)))))))))))
 ·
  intro hc18
  try simp only[zA,zO,zN,zI,zF,zM,zT,zU]at hc18
  rw[vG hc18]at hdef;refine QwR (qq hS (Qmi rfl) (qq hS (qc _) (qq hS (Qai rfl) (QoN (vM (xF ?_))))));rw[hdef];refine ret2 results9 (qh rfl) (qh (v:=.int .i64 _) rfl) ?_;exact⟨_,none,0,rfl,hS.nil,RFl.nil⟩
 ·
  intro hc18
  try simp only[zA,zO,zN,zI,zF,zM,zT,zU]at hc18
  rw[vJ hc18]at hdef;refine vL (vK (vD (QwR (qq hS (qa (o':=0) vT rfl xE rfl rfl rfl) (qq hS (qd 0 ut rfl rfl rfl) (QoN (jf (congrArg Value.bool hl) (vL (vK (vD (QwR (qq hS (qb _) (qq hS (qo rfl vH ho rfl) (qq hS (qa (o':=1) vT rfl vF rfl rfl rfl) (qq hS (qd 0 vV rfl rfl rfl) (qq hS (g_neq rfl rfl) (QoN ?_)))))))))))))))));refine qj rfl ?_ ?_
  ·
   intro hc35
   try simp only[zA,zO,zN,zI,zF,zM,zT,zU]at hc35
   rw[vG (by omega)]at hdef;refine QwR (qq hS (qc _) (qq hS (Qai rfl) (QoN (vM (xF ?_)))));rw[hdef];refine ret2 results9 (qh rfl) (qh (v:=.int .i64 _) rfl) ?_;exact⟨_,none,0,rfl,hS.nil,RFl.nil⟩
  ·
   intro hc35
   try simp only[zA,zO,zN,zI,zF,zM,zT,zU]at hc35
   rw[vJ (by omega)]at hdef;refine vL (vK (QwR (qq hS (qb _) (qq hS (qb _) (qe (qg call32 rfl (run_e bd a13 capb c13 old A.1 R _ _ hS.imm ho h13 hwA hlA hR)) ?_)))));rintro _ w_3⟨I_f,a39,c39,rfl,hE,h39⟩;replace hS:=hS.callE hE;replace hops:=hops.mono hE.ext;replace ho:=ho.mono hE.ext;replace h13:=h13.mono hE.ext;refine qq hS (qb _) (qq hS (qm rfl rfl) (qq hS (Qxi rfl rfl) (qq hS (qc _) (qq hS (Qai rfl) (QoN (vD (QwR (qq hS (Qmi rfl) (qq hS (g_neq rfl rfl) (qq hS (Qmb rfl) (qu rfl rfl hS (fun hg=>(qa (o':=0) vT rfl xE rfl rfl rfl)) ?_)))))))))));intro u45 hu45 hn45;refine qu rfl rfl hS (fun hg=>(qd 0 ut rfl (hu45 hg) rfl)) ?_;intro u46 hu46 hn46;refine qu rfl rfl hS (fun hg=>(g_not (hu46 hg))) ?_;intro u47 hu47 hn47;refine qq hS (g_or rfl rfl (fun hq=>hu47 hq)) (QoN (yf (congrArg Value.bool (by simp[hl])) (QwR (qq hS (qb _) (qq hS (Qmi rfl) (qq hS (qc _) (qq hS (Qai rfl) (QoN (vM (xF ?_))))))))));rw[hdef];refine ret2 results9 (qh rfl) (qh (v:=.int .i64 _) rfl) ?_;exact⟨_,a39,c39,rfl,hS.nil,h39⟩
end Go.Proofs.YtgkgihnpjgbmhaaGreatDoor
namespace Go.Proofs.YtgkgihnpjgbmhaaGreatDoor
open Tryz
open Go Go.RowKit Go.Inl
theorem apply_E (p : PatL) (ad bd : Option Addr) (m cap n capb : Nat) (old : List Int) (R : List Int × Int) (w0 : World) (I0 : Imm) (hI : Sat I0 w0) (hops : ROps I0 (.slice ad m cap) p.ops) (hp : p.wf) (hl : p.lifted = false) (ho : RBytes I0 (.slice bd n capb) old) (hn : n = old.length) (hR : applyP old p = R) :
 Ctr prog 9 [.slice bd n capb,.agg #[.bool p.lifted,.int .i64 p.in_,.int .i64 p.out,.slice ad m cap]] w0 (fun v w'=>∃I' a c,v = .tuple #[.slice a R.1.length c,.int .i64 R.2]∧Ext w0 I0 w' I'∧RBytes I' (.slice a R.1.length c) R.1):=by
 subst hn; subst hR; exact apply_c p ad bd m cap capb old w0 I0 hI hops hp hl ho
theorem yq (va vb : Value) (a b : List Int) (w0 : World) (I0 : Imm) (hI : Sat I0 w0) (ha : RBytes I0 va a) (hb : RBytes I0 vb b) (he : a = b) :
 Ctr prog 11 [va,vb] w0 (fun v w'=>v = .bool true∧Ext w0 I0 w' I0):=by
 have h:=sameB_c va vb a b w0 I0 hI ha hb;rw[ur he]at h;exact h
theorem costN_E (p : PatL) (ad : Option Addr) (m cap : Nat) (n : Int) (w0 : World) (I0 : Imm) (hI : Sat I0 w0) (hops : ROps I0 (.slice ad m cap) p.ops) (hp : p.wf) (hok : (checkP p).2 = 0) (he : sumC p.ops = n) :
 Ctr prog 13 [.agg #[.bool p.lifted,.int .i64 p.in_,.int .i64 p.out,.slice ad m cap]] w0 (fun v w'=>v = .int .i64 n∧Ext w0 I0 w' I0):=by
 subst he; exact patchCost_ok p ad m cap w0 I0 hI hops hp hok
end Go.Proofs.YtgkgihnpjgbmhaaGreatDoor
namespace Go.Proofs.YtgkgihnpjgbmhaaGreatDoor
open Tryz
open Go Go.RowKit Go.Inl
theorem runP_right {p:PatL}{lo:List Int}(hk:(checkP p).2=0)(h:p.in_=lo.length):runP lo (symsOf p.ops)=((symsOf p.ops).map (runB lo),0):=by
 unfold runP;rw[badT_ok (zr _ (qM hk).1).1 h]; rfl
theorem jz {p:PatL}{lo:List Int}(hk:(checkP p).2=0)(h:p.in_=lo.length):applyP lo p=((symsOf p.ops).map (runB lo),0):=by
 unfold applyP;rw[jE hk,vJ rfl,vJ h.symm];exact runP_right hk h
theorem wrap8 {y:Int}(h:0≤y∧y≤255):IntKind.u8.wrap y=y:=by rw[IntKind.wrap_u8]; omega
end Go.Proofs.YtgkgihnpjgbmhaaGreatDoor
namespace Go.Proofs.YtgkgihnpjgbmhaaGreatDoor
open Tryz
open Go Go.RowKit Go.Inl
theorem zP (p : PatL) (ad bd : Option Addr) (m cap n capb : Nat) (old R : List Int) (e : Int) (w0 : World) (I0 : Imm) (hI : Sat I0 w0) (hops : ROps I0 (.slice ad m cap) p.ops) (hp : p.wf) (hl : p.lifted = false) (ho : RBytes I0 (.slice bd n capb) old) (hn : n = old.length) (hR : applyP old p = (R, e)) :
 Ctr prog 9 [.slice bd n capb,.agg #[.bool p.lifted,.int .i64 p.in_,.int .i64 p.out,.slice ad m cap]] w0 (fun v w'=>∃I' a c,v = .tuple #[.slice a R.length c,.int .i64 e]∧Ext w0 I0 w' I'∧RBytes I' (.slice a R.length c) R) :=
 apply_E p ad bd m cap n capb old (R,e) w0 I0 hI hops hp hl ho hn hR
theorem symbols_L (p : PatL) (ad : Option Addr) (m cap : Nat) (A : List Sym) (e : Int) (w0 : World) (I0 : Imm) (hI : Sat I0 w0) (hops : ROps I0 (.slice ad m cap) p.ops) (hp : p.wf) (he : symbolsP p = (A, e)) :
 Ctr prog 27 [.agg #[.bool p.lifted,.int .i64 p.in_,.int .i64 p.out,.slice ad m cap]] w0 (fun v w'=>∃I' a c,v = .tuple #[.slice a A.length c,.int .i64 e]∧Ext w0 I0 w' I'∧RSyms I' (.slice a A.length c) A) :=
 zc p ad m cap (A,e) w0 I0 hI hops hp he
end Go.Proofs.YtgkgihnpjgbmhaaGreatDoor
