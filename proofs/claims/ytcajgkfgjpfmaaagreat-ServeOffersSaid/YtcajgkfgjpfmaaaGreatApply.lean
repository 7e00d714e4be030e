/- patch.Apply for patches that are not lifted, and Apply and Run of inlayref06: what they compute. Conditions: numbers within bounds. -/
import Derived.Test.YtcajgkfgjpfmaaaGreatKComp
set_option linter.unusedSimpArgs false
set_option linter.unusedVariables false
namespace Go.Proofs.YtcajgkfgjpfmaaaGreat
open Tryz
open Go Go.RowKit Go.Inl
def applyP (old:List Int)(p:PatL):List Int×Int :=
 if (symbolsP p).2=0 then if (old.length:Int)=p.in_ then runP old (symbolsP p).1 else ([],61) else ([],(symbolsP p).2)
theorem run_e (ad bd : Option Addr) (cap capb : Nat) (lo : List Int) (l : List Sym) (R : List Int × Int) (w0 : World) (I0 : Imm) (hI : Sat I0 w0) (ha : RBytes I0 (.slice ad lo.length cap) lo) (hb : RSyms I0 (.slice bd l.length capb) l) (hwb : ∀ s ∈ l, s.wf) (hn : l.length ≤ 65536) (hR : runP lo l = R) :
 Ctr prog 73 [.slice ad lo.length cap,.slice bd l.length capb] w0 (fun v w'=>∃I' a c,v = .tuple #[.slice a R.1.length c,.int .i64 R.2]∧Ext w0 I0 w' I'∧RBytes I' (.slice a R.1.length c) R.1):=by
 subst hR; exact run_c ad bd cap capb lo l w0 I0 hI ha hb hwb hn
set_option maxHeartbeats 1000000 in
theorem apply_c (p : PatL) (ad bd : Option Addr) (m cap capb : Nat) (old : List Int) (w0 : World) (I0 : Imm) (hI : Sat I0 w0) (hops : ROps I0 (.slice ad m cap) p.ops) (hp : p.wf) (hl : p.lifted = false) (ho : RBytes I0 (.slice bd old.length capb) old) :
 Ctr prog 40 [.slice bd old.length capb,.agg #[.bool p.lifted,.int .i64 p.in_,.int .i64 p.out,.slice ad m cap]] w0 (fun v w'=>∃I' a c,v = .tuple #[.slice a (applyP old p).1.length c,.int .i64 (applyP old p).2]∧Ext w0 I0 w' I'∧RBytes I' (.slice a (applyP old p).1.length c) (applyP old p).1):=by
 have hwA:=jy hp;have hlA:=kT p;have hlo:=RSl.le ho;simp only[maxLen]at hlo;have hdef:applyP old p=applyP old p:=rfl;conv at hdef=>rhs; unfold applyP
 obtain⟨A,hA⟩:∃A,symbolsP p=A:=⟨_,rfl⟩
 rw[hA]at hdef hwA hlA;obtain⟨R,hR⟩:∃R,runP old A.1=R:=⟨_,rfl⟩
 rw[hR]at hdef;refine fn (n:=62) func40 rfl rfl rfl ?_;have hS:=St.start hI;refine QwR (qe (d_box (cs:=[.bool _,.int .i64 _,.int .i64 _,.slice _ _ _]) hS rfl) ?_);clear hS;rintro _ w_1⟨b3,rfl,hS⟩;refine qq hS (qy _) (qq hS (Qai rfl) (QoR (qq hS (g_ldO 0 (vs:=[.bool _,.int .i64 _,.int .i64 _,.slice _ _ _]) ul uO rfl rfl rfl rfl) (qe (ql call70 rfl (vN p ad m cap A _ _ hS.imm hops hp hA)) ?_))));rintro _ w_2⟨I_f,a13,c13,rfl,hE,h13⟩;replace hS:=hS.callE hE;replace hops:=hops.mono hE.ext;replace ho:=ho.mono hE.ext;refine qq hS (qk _) (qq hS (qt rfl rfl) (qq hS (Qxi rfl rfl) (qq hS (qy _) (qq hS (Qai rfl) (QoN (xL (QwR (qq hS (Qmi rfl) (qq hS (g_neq rfl rfl) (QoN (qo rfl ?_ ?_)))))))))))
 ·
  intro hc18
  try simp only[zA,zO,zN,zI,zF,zM,zT,zU]at hc18
  rw[ud hc18]at hdef;refine QwR (qq hS (Qmi rfl) (qq hS (qy _) (qq hS (Qai rfl) (QoN (ub (uw ?_))))));rw[hdef];refine ret2 results40 (qr rfl) (qr (v:=.int .i64 _) rfl) ?_;exact⟨_,none,0,rfl,hS.nil,RFl.nil⟩
 ·
  intro hc18
  try simp only[zA,zO,zN,zI,zF,zM,zT,zU]at hc18
  rw[ui hc18]at hdef;refine xZ (xN (xL (QwR (qq hS (qb (o':=0) uu rfl uC rfl rfl rfl) (qq hS (qi 0 QG rfl rfl rfl) (QoN (qV (congrArg Value.bool hl) (xZ (xN (xL (QwR (qq hS (qk _) (qq hS (qz rfl uU ho rfl) (qq hS (qb (o':=1) uu rfl xX rfl rfl rfl) (qq hS (qi 0 uj rfl rfl rfl) (qq hS (g_neq rfl rfl) (QoN ?_)))))))))))))))));refine qo rfl ?_ ?_
  ·
   intro hc35
   try simp only[zA,zO,zN,zI,zF,zM,zT,zU]at hc35
   rw[ud (by omega)]at hdef;refine QwR (qq hS (qy _) (qq hS (Qai rfl) (QoN (ub (uw ?_)))));rw[hdef];refine ret2 results40 (qr rfl) (qr (v:=.int .i64 _) rfl) ?_;exact⟨_,none,0,rfl,hS.nil,RFl.nil⟩
  ·
   intro hc35
   try simp only[zA,zO,zN,zI,zF,zM,zT,zU]at hc35
   rw[ui (by omega)]at hdef;refine xZ (xN (QwR (qq hS (qk _) (qq hS (qk _) (qe (ql call73 rfl (run_e bd a13 capb c13 old A.1 R _ _ hS.imm ho h13 hwA hlA hR)) ?_)))));rintro _ w_3⟨I_f,a39,c39,rfl,hE,h39⟩;replace hS:=hS.callE hE;replace hops:=hops.mono hE.ext;replace ho:=ho.mono hE.ext;replace h13:=h13.mono hE.ext;refine qq hS (qk _) (qq hS (qt rfl rfl) (qq hS (Qxi rfl rfl) (qq hS (qy _) (qq hS (Qai rfl) (QoN (xL (QwR (qq hS (Qmi rfl) (qq hS (g_neq rfl rfl) (qq hS (Qmb rfl) (qu rfl rfl hS (fun hg=>(qb (o':=0) uu rfl uC rfl rfl rfl)) ?_)))))))))));intro u45 hu45 hn45;refine qu rfl rfl hS (fun hg=>(qi 0 QG rfl (hu45 hg) rfl)) ?_;intro u46 hu46 hn46;refine qu rfl rfl hS (fun hg=>(g_not (hu46 hg))) ?_;intro u47 hu47 hn47;refine qq hS (g_or rfl rfl (fun hq=>hu47 hq)) (QoN (cond_t (congrArg Value.bool (by simp[hl])) (QwR (qq hS (qk _) (qq hS (Qmi rfl) (qq hS (qy _) (qq hS (Qai rfl) (QoN (ub (uw ?_))))))))));rw[hdef];refine ret2 results40 (qr rfl) (qr (v:=.int .i64 _) rfl) ?_;exact⟨_,a39,c39,rfl,hS.nil,h39⟩
end Go.Proofs.YtcajgkfgjpfmaaaGreat
