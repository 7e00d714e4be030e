/- patch.Apply for lifted patches: what it computes. Conditions: numbers within bounds. -/
import Derived.Test.YtgkgihnpjgbmhaaGreatDoorKLab
import Derived.Test.YtgkgihnpjgbmhaaGreatDoorKP6
import Derived.Test.YtgkgihnpjgbmhaaGreatDoorKLaw
set_option linter.unusedSimpArgs false
set_option linter.unusedVariables false
namespace Go.Proofs.YtgkgihnpjgbmhaaGreatDoor
open Tryz
open Go Go.RowKit Go.Inl
def codeF (b:List Int):List Int:=formP (liftP (wordsN b (b.length / 4)))
def noCode (b:List Int):Bool := !decide (b.length % 4=0) || decide (65536 < b.length)
def applyLP (old:List Int)(p:PatL):List Int×Int :=
 if (symbolsP p).2 = 0 then
  if noCode old=true then ([],30)
  else if ((codeF old).length : Int) = p.in_ then
   if (runP (codeF old) (symbolsP p).1).2 = 0 then
    if (readR (runP (codeF old) (symbolsP p).1).1).2=0 then lowR (readR (runP (codeF old) (symbolsP p).1).1).1 else ([],30)
   else runP (codeF old) (symbolsP p).1
  else ([],61)
 else ([],(symbolsP p).2)
theorem runP_byts {o:List Int}{l:List Sym}(ho:Byts o)(hl:∀s∈l,s.wf):Byts (runP o l).1:=by
 unfold runP;split
 · intro y hy; cases hy
 · intro y hy
   obtain⟨s,hs,rfl⟩:=Qu.1 hy;exact runB_bd (hl s hs)
theorem zero_b:Wrds LiftL.zero.words∧Labs LiftL.zero.labels:=⟨by intro w hw; simp[LiftL.zero]at hw,by intro w hw; simp[LiftL.zero]at hw⟩
theorem readR_x {b:List Int}(hb:Byts b):Wrds (readR b).1.words∧Labs (readR b).1.labels:=by
 unfold readR;split
 · exact zero_b
 · split
   · exact⟨readX_wrds hb,readX_labs hb (nL_b hb).2⟩
   · exact zero_b
theorem yX (x:LiftL):Byts (formP x):=by
 have h1:Byts (headF x):=by
  intro y hy;rcases uJ.1 hy with h | h
  · exact vG _ y h
  · exact vG _ y h
 have h2:Byts (formL x.labels x.labels.length):=by
  intro y hy;obtain⟨i,_,h⟩:=List.mem_flatMap.1 hy;exact vG _ y h
 have h3:Byts (marksB x.marks ((x.marks.length+7) / 8)):=by
  intro y hy;obtain⟨i,_,rfl⟩:=Qu.1 hy;have hb:=bitsU_b (chunk x.marks i) (chunk x.marks i).length;have hl:(chunk x.marks i).length≤8:=by rw[vX]; split <;> omega
  obtain⟨j,hj⟩:∃j,(chunk x.marks i).length=j:=⟨_,rfl⟩
  rw[hj]at hb hl ⊢;have hp:(2:Int) ^ j≤256:=by
   have h9:j=0∨j=1∨j=2∨j=3∨j=4∨j=5∨j=6∨j=7∨j=8:=by omega
   rcases h9 with h | h | h | h | h | h | h | h | h <;> rw[h] <;> decide
  exact⟨hb.1,by omega⟩
 intro y hy;unfold formP at hy;rcases uJ.1 hy with h | h
 · rcases uJ.1 h with h | h
   · rcases uJ.1 h with h | h
     · exact h1 y h
     · exact h2 y h
   · exact h3 y h
 · exact jD _ y h
theorem liftW_wrds {ws ls:List Int}(hw:Wrds ws)(hl:ls.length≤65536):∀(l:List Nat),(∀i∈l,(instAt ws i).n∈ls)→Wrds (liftW ws ls l):=by
 have key:∀(l:List Nat) (acc:List Int),Wrds acc→(∀i∈l,(instAt ws i).n∈ls)→Wrds (l.foldl (fun acc i=>acc.set i (numAt ws ls i)) acc):=by
  intro l;induction l with
  | nil=>intro acc h _; exact h
  | cons i l ih =>
    intro acc h hi;rw[List.foldl_cons];refine ih _ ?_ (fun j hj=>hi j (List.mem_cons_of_mem _ hj));intro w hw';rcases List.mem_or_eq_of_mem_set hw' with h' | h'
    · exact h w h'
    · subst h'
      have hm:=hi i (List.mem_cons_self ..);have hix:=(xX.1 (vv hm)).1;have hy:=zh hw i;unfold numAt numP;have hf:fieldM (instAt ws i).op=24∨fieldM (instAt ws i).op=16:=by unfold fieldM; split <;> simp
      rcases hf with hf | hf <;> rw[hf] <;> omega
 intro l h;exact key l ws hw h
theorem zK {ws:List Int}(hw:Wrds ws)(hn:ws.length≤65536):Wrds (liftP ws).words :=
 liftW_wrds hw (by have:=jv ws; omega) _ (fun i hi=>jY.2 (mem_tgts hi))
theorem zL {ws:List Int}(hn:ws.length≤65536):∀n∈(liftP ws).labels,0≤n∧n < 4*(ws.length:Int):=by
 intro n hn';obtain⟨i,hi,rfl⟩:=Qu.1 (jY.1 hn');have:=(kq.1 hi).2;unfold lnk linkedP at this;simp only[uC,ua]at this;exact this.2
theorem noCode_f {b:List Int}(h:noCode b=false):b.length=4*(b.length / 4)∧b.length / 4≤16384:=by
 unfold noCode at h;rw[QF,Qc,decide_eq_true_iff,xZ]at h;omega
theorem noCode_t {b:List Int}(h:noCode b=true):b.length % 4≠0∨(b.length % 4=0∧65536 < b.length):=by
 unfold noCode at h;rw[JB,uS,xZ,decide_eq_true_iff]at h;omega
theorem lift_odd (ad : Option Addr) (cap : Nat) (b : List Int) (w0 : World) (I0 : Imm) (hI : Sat I0 w0) (hl : RBytes I0 (.sg ad b.length cap) b) (h : b.length % 4 ≠ 0) :
 Ctr prog 30 [.sg ad b.length cap] w0 (fun v w'=>∃I',v = .tuple #[.agg #[.sg none 0 0,.sg none 0 0,.sg none 0 0],.ig 30]∧Ext w0 I0 w' I'):=by
 refine fnM (n:=78) func30 rfl rfl rfl ?_;have Z:=St.start hI;refine QwR (qe (qr (cs:=[.sg _ _ _,.sg _ _ _,.sg _ _ _]) Z uY rfl) ?_);clear Z;rintro _ w_1⟨b2,rfl,Z⟩;refine qq Z (Qai rfl) (QoR (qq Z (qb _) (qe (qi call67 rfl (words_bad ad cap b _ _ Z.imm hl h)) ?_)));rintro _ w_2⟨rfl,hE⟩;replace Z:=Z.callE hE;refine qq Z (qb _) (qq Z (qk rfl rfl) (qq Z (Qxi rfl rfl) (qe (qr (cs:=[.sg _ _ _]) Z zeroValue67 rfl) ?_)));clear Z;rintro _ w_3⟨b4,rfl,Z⟩;refine qe (qf 0 Z uT rfl rfl rfl (vs:=[.sg _ _ _]) rfl rfl rfl (xH rfl) (cs':=[_]) rfl) ?_;clear Z;rintro _ w_4⟨rfl,Z⟩;refine qq Z (Qai rfl) (QoN (xJ (QwR (qq Z (Qmi rfl) (qq Z (vS rfl rfl (by decide)) (qq Z (Qmb rfl) (qsf rfl rfl rfl (qsf rfl rfl rfl (qsf rfl rfl rfl (qq Z (g_or (b:=true) rfl rfl (fun h=>(by cases h))) (QoN (jR (rfl) (QwR (qq Z (qs (pl:=[(0,1),(1,1),(2,1)]) (cs:=[.sg _ _ _,.sg _ _ _,.sg _ _ _]) uY ub (fun w=>by simp[uT,Qf,uE]) mp0 rfl) ?_))))))))))))));refine qe (qf 1 Z uU rfl rfl rfl (vs:=[.sg _ _ _,.sg _ _ _,.sg _ _ _]) rfl rfl rfl (xH rfl) (cs':=[_,_,_]) rfl) ?_;clear Z;rintro _ w_5⟨rfl,Z⟩;refine qq Z (Qai rfl) (QoN (xO (ul (retM2 results30 (qw 1 Z uU QI rfl rfl rfl) (qg (v:=.ig _) rfl) ?_))));exact⟨_,rfl,Z.nil⟩
theorem lift_big (ad : Option Addr) (cap : Nat) (b : List Int) (w0 : World) (I0 : Imm) (hI : Sat I0 w0) (hl : RBytes I0 (.sg ad b.length cap) b) (hb : Byts b) (h : b.length % 4 = 0) (h2 : 65536 < b.length) (h3 : b.length ≤ 4294967296) :
 Ctr prog 30 [.sg ad b.length cap] w0 (fun v w'=>∃I',v = .tuple #[.agg #[.sg none 0 0,.sg none 0 0,.sg none 0 0],.ig 30]∧Ext w0 I0 w' I'):=by
 refine fnM (n:=78) func30 rfl rfl rfl ?_;have Z:=St.start hI;refine QwR (qe (qr (cs:=[.sg _ _ _,.sg _ _ _,.sg _ _ _]) Z uY rfl) ?_);clear Z;rintro _ w_1⟨b2,rfl,Z⟩;refine qq Z (Qai rfl) (QoR (qq Z (qb _) (qe (qi call67 rfl (words_c ad cap (b.length / 4) b _ _ Z.imm hl hb (by omega) (by omega))) ?_)));rintro _ w_2⟨I_f,a15,c15,rfl,hE,h15⟩;replace Z:=Z.callE hE;replace hl:=hl.mono hE.ext;refine qq Z (qb _) (qq Z (qk rfl rfl) (qq Z (Qxi rfl rfl) (qe (qr (cs:=[.sg _ _ _]) Z zeroValue67 rfl) ?_)));clear Z;rintro _ w_3⟨b4,rfl,Z⟩;refine qe (qf 0 Z uT rfl rfl rfl (vs:=[.sg _ _ _]) rfl rfl rfl (xH rfl) (cs':=[_]) rfl) ?_;clear Z;rintro _ w_4⟨rfl,Z⟩;refine qq Z (Qai rfl) (QoN (xJ (QwR (qq Z (Qmi rfl) (qq Z (g_neqF rfl rfl rfl) (qq Z (Qmb rfl) (qqs rfl rfl Z (qb _) (qqs rfl rfl Z (qo rfl xQ hl rfl) (qqs rfl rfl Z (g_toV (g_gtr rfl rfl) (congrArg Value.bool (uH (show(65536:Int) < (b.length:Int) by omega)))) (qq Z (g_or (b:=true) rfl rfl (fun _=>rfl)) ?_))))))))));refine QoN (jR (rfl) (QwR (qq Z (qs (pl:=[(0,1),(1,1),(2,1)]) (cs:=[.sg _ _ _,.sg _ _ _,.sg _ _ _]) uY ub (fun w=>by simp[uT,Qf,uE]) mp0 rfl) (qe (qf 1 Z uU rfl rfl rfl (vs:=[.sg _ _ _,.sg _ _ _,.sg _ _ _]) rfl rfl rfl (xH rfl) (cs':=[_,_,_]) rfl) ?_))));clear Z;rintro _ w_5⟨rfl,Z⟩;refine qq Z (Qai rfl) (QoN (xO (ul (retM2 results30 (qw 1 Z uU QI rfl rfl rfl) (qg (v:=.ig _) rfl) ?_))));exact⟨_,rfl,Z.nil⟩
theorem lift_no (ad : Option Addr) (cap : Nat) (b : List Int) (w0 : World) (I0 : Imm) (hI : Sat I0 w0) (hl : RBytes I0 (.sg ad b.length cap) b) (hb : Byts b) (h : noCode b = true) (h3 : b.length ≤ 4294967296) :
 Ctr prog 30 [.sg ad b.length cap] w0 (fun v w'=>∃I',v = .tuple #[.agg #[.sg none 0 0,.sg none 0 0,.sg none 0 0],.ig 30]∧Ext w0 I0 w' I'):=by
 rcases noCode_t h with h | ⟨h,h2⟩
 · exact lift_odd ad cap b w0 I0 hI hl h
 · exact lift_big ad cap b w0 I0 hI hl hb h h2 h3
theorem lift_ok (ad : Option Addr) (cap : Nat) (b : List Int) (x : LiftL) (w0 : World) (I0 : Imm) (hI : Sat I0 w0) (hl : RBytes I0 (.sg ad b.length cap) b) (hb : Byts b) (h : noCode b = false) (hx : liftP (wordsN b (b.length / 4)) = x) :
 Ctr prog 30 [.sg ad b.length cap] w0 (fun v w'=>∃I' a0 c0 a1 c1 a2 c2,v = .tuple #[.agg #[.sg a0 x.words.length c0,.sg a1 x.marks.length c1,.sg a2 x.labels.length c2],.ig 0]∧Ext w0 I0 w' I'∧RLf I' a0 c0 a1 c1 a2 c2 x):=by
 obtain⟨h1,h2⟩:=noCode_f h;refine(lift_c ad cap (b.length / 4) b w0 I0 hI hl hb h1 h2).mono ?_;rintro v w' ⟨I',a0,c0,a1,c1,a2,c2,hv,hE,g1,g2,g3⟩;have e1:x.words.length=b.length / 4:=by rw[← hx]; exact(jj _ _ _).trans (jE _ _)
 have e2:x.marks.length=b.length / 4:=by rw[← hx]; exact(jp _ _).trans (jE _ _)
 have e3:x.labels.length=(labelsP (wordsN b (b.length / 4))).length:=by rw[← hx]; rfl
 refine⟨I',a0,c0,a1,c1,a2,c2,by rw[e1,e2,e3]; exact hv,hE,?_,?_,?_⟩
 · rw[e1,← hx]; exact g1
 · rw[e2,← hx]; exact g2
 · rw[e3,← hx]; exact g3
set_option maxHeartbeats 2000000 in
theorem applyl_c (p : PatL) (ad bd : Option Addr) (m cap capb : Nat) (old : List Int) (R : List Int) (e : Int) (w0 : World) (I0 : Imm) (hI : Sat I0 w0) (hops : ROps I0 (.sg ad m cap) p.ops) (hp : p.wf) (hl : p.lifted = true) (ho : RBytes I0 (.sg bd old.length capb) old) (hob : Byts old) (hon : old.length ≤ 4294967296) (hR : applyLP old p = (R, e)) :
 Ctr prog 9 [.sg bd old.length capb,.agg #[.bool p.lifted,.ig p.in_,.ig p.out,.sg ad m cap]] w0 (fun v w'=>∃I' a c,v = .tuple #[.sg a R.length c,.ig e]∧Ext w0 I0 w' I'∧RBytes I' (.sg a R.length c) R):=by
 have hwA:=kd hp;have hlA:=ka p;unfold applyLP at hR;obtain⟨A,eA,hA⟩:∃A e,symbolsP p=(A,e):=⟨_,_,rfl⟩
 rw[hA]at hR hwA hlA;dsimp only at hR hwA hlA;refine fn (n:=62) func9 rfl rfl rfl ?_;have Z:=St.start hI;refine QwR (qe (d_box (cs:=[.bool _,.ig _,.ig _,.sg _ _ _]) Z rfl) ?_);clear Z;rintro _ w_1⟨b3,rfl,Z⟩;refine qq Z (qd _) (qq Z (Qai rfl) (QoR (qq Z (g_ldO 0 (vs:=[.bool _,.ig _,.ig _,.sg _ _ _]) ug uO rfl rfl rfl rfl) (qe (qi call27 rfl (symbols_L p ad m cap A eA _ _ Z.imm hops hp hA)) ?_))));rintro _ w_2⟨I_f,a13,c13,rfl,hE,h13⟩;replace Z:=Z.callE hE;replace hops:=hops.mono hE.ext;replace ho:=ho.mono hE.ext;refine qq Z (qb _) (qq Z (qk rfl rfl) (qq Z (Qxi rfl rfl) (qq Z (qd _) (qq Z (Qai rfl) (QoN (xJ (QwR (qq Z (Qmi rfl) (qq Z (g_neq rfl rfl) (QoN (qh rfl ?_ ?_)))))))))))
 ·
  intro hc18
  try simp only[zA,zO,zN,zI,zF,zM,zT,zU]at hc18
  rw[xP hc18]at hR;obtain⟨rfl,rfl⟩:=Prod.mk.inj hR;refine QwR (qq Z (Qmi rfl) (qq Z (qd _) (qq Z (Qai rfl) (QoN (xO (ul (ret2 JC (qg rfl) (qg (v:=.ig _) rfl) ?_)))))))
  first | exact⟨_,none,0,rfl,Z.nil,RFl.nil⟩ | exact⟨_,a39,c39,rfl,Z.nil,h39⟩ | exact⟨_,a59,c59,rfl,Z.nil,h59⟩
 ·
  intro hc18
  try simp only[zA,zO,zN,zI,zF,zM,zT,zU]at hc18
  rw[xS hc18]at hR;refine xM (xL (xJ (QwR (qq Z (qa (o':=0) uk rfl uy rfl rfl rfl) (qq Z (qc 0 QA rfl rfl rfl) (QoN (jR (congrArg Value.bool hl) (xJ ?_))))))));have hnc:noCode old=true∨noCode old=false:=by cases noCode old <;> simp
  refine hnc.elim (fun hnc=>?_) (fun hnc=>?_)
  ·
   rw[xS hnc]at hR;obtain⟨rfl,rfl⟩:=Prod.mk.inj hR;refine reg (qq Z (qb _) (qe (qi call30 rfl (lift_no bd capb old _ _ Z.imm ho hob hnc hon)) ?_));rintro _ w_3⟨I_f,rfl,hE⟩;replace Z:=Z.callE hE;replace hops:=hops.mono hE.ext;replace ho:=ho.mono hE.ext;replace h13:=h13.mono hE.ext;refine qq Z (qb _) (qq Z (qk rfl rfl) (qq Z (Qxi rfl rfl) (qe (qr (cs:=[.sg _ _ _,.sg _ _ _,.sg _ _ _]) Z uY rfl) ?_)));clear Z;rintro _ w_4⟨b8,rfl,Z⟩;refine qe (qf 0 Z uU rfl rfl rfl (vs:=[.sg _ _ _,.sg _ _ _,.sg _ _ _]) rfl rfl rfl (xH rfl) (cs':=[_,_,_]) rfl) ?_;clear Z;rintro _ w_5⟨rfl,Z⟩;refine qq Z (Qai rfl) (QoN (xJ (QwR (qq Z (Qmi rfl) (qq Z (vS rfl rfl (by decide)) (QoN (jR (rfl) (QwR (qq Z (qd _) (qq Z (Qai rfl) (QoN (xO (ul (ul (ret2 JC (qg rfl) (qg (v:=.ig _) rfl) ?_)))))))))))))))
   first | exact⟨_,none,0,rfl,Z.nil,RFl.nil⟩ | exact⟨_,a39,c39,rfl,Z.nil,h39⟩ | exact⟨_,a59,c59,rfl,Z.nil,h59⟩
  ·
   rw[xP (by rw[hnc]; decide)]at hR;obtain⟨x,hxe⟩:∃x,liftP (wordsN old (old.length / 4))=x:=⟨_,rfl⟩
   obtain⟨hn4,hn5⟩:=noCode_f hnc;have hwl:=jE old (old.length / 4);have hxw:Wrds x.words:=by rw[← hxe]; exact zK (kW hob _) (by rw[hwl]; omega)
   have hxl:Labs x.labels:=by rw[← hxe]; intro n hn; have:=zL (ws:=wordsN old (old.length / 4)) (by rw[hwl]; omega) n hn; rw[hwl]at this; omega
   have hx1:x.words.length=old.length / 4:=by rw[← hxe]; exact(jj _ _ _).trans hwl
   have hx2:x.marks.length=old.length / 4:=by rw[← hxe]; exact(jp _ _).trans hwl
   have hx3:x.labels.length≤old.length / 4:=by rw[← hxe]; have:=jv (wordsN old (old.length / 4)); rw[hwl]at this; exact this
   refine reg (qq Z (qb _) (qe (qi call30 rfl (lift_ok bd capb old x _ _ Z.imm ho hob hnc hxe)) ?_));rintro _ w_6⟨I_f,a0,c0,a1,c1,a2,c2,rfl,hE,hx⟩;replace Z:=Z.callE hE;replace hops:=hops.mono hE.ext;replace ho:=ho.mono hE.ext;replace h13:=h13.mono hE.ext;refine qq Z (qb _) (qq Z (qk rfl rfl) (qq Z (Qxi rfl rfl) (qe (qr (cs:=[.sg _ _ _,.sg _ _ _,.sg _ _ _]) Z uY rfl) ?_)));clear Z;rintro _ w_7⟨b8,rfl,Z⟩;refine qe (qf 0 Z uU rfl rfl rfl (vs:=[.sg _ _ _,.sg _ _ _,.sg _ _ _]) rfl rfl rfl (xH rfl) (cs':=[_,_,_]) rfl) ?_;clear Z;rintro _ w_8⟨rfl,Z⟩;refine qq Z (Qai rfl) (QoN (xJ (QwR (qq Z (Qmi rfl) (qq Z (g_neqF rfl rfl rfl) (QoN (qV (rfl) (xM (xL (reg (qq Z (g_ldO 0 (vs:=[.sg _ _ _,.sg _ _ _,.sg _ _ _]) uU QI rfl rfl rfl rfl) (qe (qi call31 rfl (lform_c x a0 a1 a2 c0 c1 c2 _ _ Z.imm hx hxw hxl (by omega) (by omega) (by omega))) ?_))))))))))));rintro _ w_9⟨I_f,a30,c30,rfl,hE,h30⟩;replace Z:=Z.callE hE;replace hops:=hops.mono hE.ext;replace ho:=ho.mono hE.ext;replace h13:=h13.mono hE.ext;replace hx:=hx.mono hE.ext;refine qq Z (qd _) (QoN (xJ (QwR (qq Z (qb _) (qq Z (qo rfl xQ h30 rfl) (qq Z (qa (o':=1) uk rfl xK rfl rfl rfl) (qq Z (qc 1 xW rfl rfl rfl) (qq Z (g_neq rfl rfl) (QoN (qh rfl ?_ ?_))))))))))
   ·
    intro hc35
    try simp only[zA,zO,zN,zI,zF,zM,zT,zU]at hc35
    rw[xP (by show ¬((formP (liftP (wordsN old (old.length / 4)))).length:Int)=p.in_; rw[hxe]; omega)]at hR;obtain⟨rfl,rfl⟩:=Prod.mk.inj hR;refine QwR (qq Z (qd _) (qq Z (Qai rfl) (QoN (xO (ul (ret2 JC (qg rfl) (qg (v:=.ig _) rfl) ?_))))))
    first | exact⟨_,none,0,rfl,Z.nil,RFl.nil⟩ | exact⟨_,a39,c39,rfl,Z.nil,h39⟩ | exact⟨_,a59,c59,rfl,Z.nil,h59⟩
   ·
    intro hc35
    try simp only[zA,zO,zN,zI,zF,zM,zT,zU]at hc35
    rw[xS (by show((formP (liftP (wordsN old (old.length / 4)))).length:Int)=p.in_; rw[hxe]; omega)]at hR;obtain⟨Q,eQ,hQ⟩:∃Q e,runP (formP x) A=(Q,e):=⟨_,_,rfl⟩
    have hcf:codeF old=formP x:=by unfold codeF; rw[hxe]
    have hQb:Byts Q:=by have:=runP_byts (o:=formP x) (l:=A) (yX x) hwA; rw[hQ]at this; exact this
    rw[hcf,hQ]at hR;dsimp only at hR;refine xM (xL (QwR (qq Z (qb _) (qq Z (qb _) (qe (qi call32 rfl (run_e a30 a13 c30 c13 (formP x) A (Q,eQ) _ _ Z.imm h30 h13 hwA hlA hQ)) ?_)))));rintro _ w_10⟨I_f,a39,c39,rfl,hE,h39⟩;replace Z:=Z.callE hE;replace hops:=hops.mono hE.ext;replace ho:=ho.mono hE.ext;replace h13:=h13.mono hE.ext;replace hx:=hx.mono hE.ext;replace h30:=h30.mono hE.ext;refine qq Z (qb _) (qq Z (qk rfl rfl) (qq Z (Qxi rfl rfl) (qq Z (qd _) (qq Z (Qai rfl) (QoN (xJ (QwR (qq Z (Qmi rfl) (qq Z (g_neq rfl rfl) (qq Z (Qmb rfl) (qu rfl rfl Z (fun hg=>(qa (o':=0) uk rfl uy rfl rfl rfl)) ?_)))))))))));intro u45 hu45 hn45;refine qu rfl rfl Z (fun hg=>(qc 1 QA rfl (hu45 hg) rfl)) ?_;intro u46 hu46 hn46;refine qu rfl rfl Z (fun hg=>(g_not (hu46 hg))) ?_;intro u47 hu47 hn47;refine qq Z (g_or rfl rfl (fun hq=>hu47 hq)) (QoN (qh rfl ?_ ?_))
    ·
     intro hc48;clear hu45 hn45 hu46 hn46 hu47 hn47;have hq:eQ≠0:=by intro h; rw[h]at hc48; simp[hl]at hc48
     rw[xP hq]at hR;obtain⟨rfl,rfl⟩:=Prod.mk.inj hR;refine QwR (qq Z (qb _) (qq Z (Qmi rfl) (qq Z (qd _) (qq Z (Qai rfl) (QoN (xO (ul (ret2 JC (qg rfl) (qg (v:=.ig _) rfl) ?_))))))))
     first | exact⟨_,none,0,rfl,Z.nil,RFl.nil⟩ | exact⟨_,a39,c39,rfl,Z.nil,h39⟩ | exact⟨_,a59,c59,rfl,Z.nil,h59⟩
    ·
     intro hc48;clear hu45 hn45 hu46 hn46 hu47 hn47;have hq:eQ=0:=by simp[hl]at hc48; exact hc48
     rw[xS hq]at hR;obtain⟨y,ey,hy⟩:∃y e,readR Q=(y,e):=⟨_,_,rfl⟩
     have hyb:=readR_x hQb;rw[hy]at hR hyb;dsimp only at hR hyb;refine xM (xL (QwR (qq Z (qb _) (qe (qi call33 rfl (lread_c Q a39 c39 y ey _ _ Z.imm h39 hQb hy)) ?_))));rintro _ w_11⟨I_f,a0y,c0y,a1y,c1y,a2y,c2y,rfl,hE,h53⟩;replace Z:=Z.callE hE;replace hops:=hops.mono hE.ext;replace ho:=ho.mono hE.ext;replace h13:=h13.mono hE.ext;replace hx:=hx.mono hE.ext;replace h30:=h30.mono hE.ext;replace h39:=h39.mono hE.ext;refine qq Z (qb _) (qq Z (qk rfl rfl) (qq Z (Qxi rfl rfl) (qe (qr (cs:=[.sg _ _ _,.sg _ _ _,.sg _ _ _]) Z uY rfl) ?_)));clear Z;rintro _ w_12⟨b11,rfl,Z⟩;refine qe (qf 0 Z uU rfl rfl rfl (vs:=[.sg _ _ _,.sg _ _ _,.sg _ _ _]) rfl rfl rfl (xH rfl) (cs':=[_,_,_]) rfl) ?_;clear Z;rintro _ w_13⟨rfl,Z⟩;refine qq Z (Qai rfl) (QoN (xJ (QwR (qq Z (Qmi rfl) (qq Z (g_neq rfl rfl) (QoN (qh rfl ?_ ?_)))))))
     ·
      intro hc57
      try simp only[zA,zO,zN,zI,zF,zM,zT,zU]at hc57
      rw[xP hc57]at hR;obtain⟨rfl,rfl⟩:=Prod.mk.inj hR;refine QwR (qq Z (qd _) (qq Z (Qai rfl) (QoN (xO (ul (ret2 JC (qg rfl) (qg (v:=.ig _) rfl) ?_))))))
      first | exact⟨_,none,0,rfl,Z.nil,RFl.nil⟩ | exact⟨_,a39,c39,rfl,Z.nil,h39⟩ | exact⟨_,a59,c59,rfl,Z.nil,h59⟩
     ·
      intro hc57
      try simp only[zA,zO,zN,zI,zF,zM,zT,zU]at hc57
      rw[xS hc57]at hR;refine xM (xL (QwR (qq Z (g_ldO 0 (vs:=[.sg _ _ _,.sg _ _ _,.sg _ _ _]) uU QI rfl rfl rfl rfl) (qe (qi call34 rfl (lowerL_c y a0y a1y a2y c0y c1y c2y R e _ _ Z.imm h53 hyb.1 hyb.2 hR)) ?_))));rintro _ w_14⟨I_f,a59,c59,rfl,hE,h59⟩;replace Z:=Z.callE hE;replace hops:=hops.mono hE.ext;replace ho:=ho.mono hE.ext;replace h13:=h13.mono hE.ext;replace hx:=hx.mono hE.ext;replace h30:=h30.mono hE.ext;replace h39:=h39.mono hE.ext;replace h53:=h53.mono hE.ext;refine qq Z (qk rfl rfl) (qq Z (Qxi rfl rfl) (qq Z (qd _) (qq Z (Qai rfl) (QoN (xO (ret2 JC (qg rfl) (qg (v:=.ig _) rfl) ?_))))))
      first | exact⟨_,none,0,rfl,Z.nil,RFl.nil⟩ | exact⟨_,a39,c39,rfl,Z.nil,h39⟩ | exact⟨_,a59,c59,rfl,Z.nil,h59⟩
end Go.Proofs.YtgkgihnpjgbmhaaGreatDoor
