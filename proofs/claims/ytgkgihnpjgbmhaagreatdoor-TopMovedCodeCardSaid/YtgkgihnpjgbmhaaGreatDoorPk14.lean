/- pack.Pack: what it computes. Conditions: none. -/
import Derived.Test.YtgkgihnpjgbmhaaGreatDoorPack14
import Derived.Test.YtgkgihnpjgbmhaaGreatDoorKSmall
set_option linter.unusedSimpArgs false
set_option linter.unusedVariables false
namespace Go.Proofs.YtgkgihnpjgbmhaaGreatDoor
open Tryz
open Go Go.RowKit Go.Inl
theorem sub_none {I J:Imm}{b:Nat}(h:Inl.Sub I J)(hb:J b=none):I b=none:=by
 cases h2:I b with
 | none=>rfl
 | some o=>rw[h b o h2]at hb; cases hb
theorem norm_two {s:Cs}(h:65536≤s.size*256):(normC 4 s).out.length≤s.out.length+2:=by
 unfold normC;split
 · unfold normC
   split
   · unfold normC
     rw[xP (by dsimp only at *; omega)];simp
   · simp
 · omega
theorem step_two {s:Cs}{A:Ad}{x:Nat}(h:Good13 s)(hA:AdOk A)(hx:x < 256):(stepC s A x).out.length≤s.out.length+2:=by
 obtain⟨q1,q2,q3⟩:=je A.c x hA.pos (by rw[hA.len]; exact hx);rw[hA.sum]at q3;have ht:1≤A.t∧A.t≤65536:=⟨by omega,hA.top⟩
 obtain⟨r1,r2⟩:=zk h.big ht;unfold stepC;refine Nat.le_trans (norm_two ?_) (by rw[xj]; exact uc _);have e3:256*1≤s.size / A.t*A.c.getD x 0:=Int.mul_le_mul r1 q2 (by omega) (by omega);have:(putC s (s.size / A.t) (A.c.take x).sum (A.c.getD x 0)).size=s.size / A.t*A.c.getD x 0:=by unfold putC; split <;> rfl
 rw[this]; omega
theorem zV {M : Mdl} (hM : MdlOk M) {s0 : M.S} (hs0 : M.inv s0) {b : List Int} (hb : Byt b) : ∀ k, k ≤ b.length → Good13 (encUp M s0 b k).1 ∧ M.inv (encUp M s0 b k).2 ∧ (encUp M s0 b k).1.out.length ≤ 2 * k
 | 0,_=>⟨⟨xD,by show(16777216:Int)≤4294967295; decide⟩,hs0,uc _⟩
 | k+1,h=>by
   obtain⟨h1,h2,h3⟩:=zV hM hs0 hb k (by omega);obtain⟨y,hy⟩:∃y,b[k]? = some y:=⟨_,xI (by omega)⟩
   have hyb:=hb y (xR hy);rw[ve hy];have h4:=step_two h1 (hM.tab _ h2) (show y.toNat < 256 by omega);exact⟨yy h1 (hM.tab _ h2) (by omega),hM.nxt _ _ h2 (by omega),by show(stepC _ _ _).out.length≤_; omega⟩
theorem trimZ_le (l:List Int):(trimZ l).length≤l.length:=by
 unfold trimZ;rw[List.length_reverse];exact Nat.le_trans (List.dropWhile_sublist _).length_le (by simp)
theorem trimZ_mem {l:List Int}{x:Int}(h:x∈trimZ l):x∈l:=by
 unfold trimZ at h;rw[List.mem_reverse]at h;exact List.mem_reverse.1 ((List.dropWhile_sublist _).subset h)
theorem tail_byt {s:Cs}(h:CsOk s):Byt (tailC s):=fun x hx=>by
 obtain⟨h1,h2⟩:=h.low;unfold tailC at hx;rcases uJ.1 hx with hx | hx
 · exact h.byt x hx
 · simp only[xV,xY,or_false]at hx; omega
theorem encP_ok {M:Mdl}(hM:MdlOk M){s0:M.S}(hs0:M.inv s0){b:List Int}(hb:Byt b):Byt (encP M s0 b)∧(encP M s0 b).length≤2*b.length+4:=by
 obtain⟨h1,_,h3⟩:=zV hM hs0 hb b.length (uc _);refine⟨fun x hx=>tail_byt h1.ok x (trimZ_mem hx),Nat.le_trans (trimZ_le _) ?_⟩;rw[yb]; omega
def s2z:(Int→Ad)×Int:=(fun _=>adOne,0)
theorem s2z_ok:mdl2.inv s2z:=fun _=>adOne_ok
def code1 (b:List Int):List Int:=encP mdl1 adOne b
def code2 (b:List Int):List Int:=encP mdl2 s2z b
theorem vB {b:List Int}(hb:Byt b):Byt (code1 b)∧(code1 b).length≤2*b.length+4:=encP_ok mdl1_ok adOne_ok hb
theorem vA {b:List Int}(hb:Byt b):Byt (code2 b)∧(code2 b).length≤2*b.length+4:=encP_ok mdl2_ok s2z_ok hb
theorem enc1_c (n : Nat) (ad : Option Addr) (cap : Nat) (b : List Int) (w0 : World) (I0 : Imm) (hI : Sat I0 w0) (hb : RBytes I0 (.sg ad n cap) b) (hn : n = b.length) (hbb : Byt b) (hbl : b.length ≤ 65536) :
 Ctr prog 46 [.ig 1,.sg ad n cap] w0 (fun v w'=>∃I' a c,v = .tuple #[.slice a (code1 b).length c,.ig 0]∧Ext w0 I0 w' I'∧RBytes I' (.slice a (code1 b).length c) (code1 b)):=by
 subst hn; exact enc_c mdl1 mdl1_ok adOne adOne_ok 1 (fun w I h=>begin1_c w I h) ad cap b w0 I0 hI hb hbb hbl
theorem enc2_c (n : Nat) (ad : Option Addr) (cap : Nat) (b : List Int) (w0 : World) (I0 : Imm) (hI : Sat I0 w0) (hb : RBytes I0 (.sg ad n cap) b) (hn : n = b.length) (hbb : Byt b) (hbl : b.length ≤ 65536) :
 Ctr prog 46 [.ig 2,.sg ad n cap] w0 (fun v w'=>∃I' a c,v = .tuple #[.slice a (code2 b).length c,.ig 0]∧Ext w0 I0 w' I'∧RBytes I' (.slice a (code2 b).length c) (code2 b)):=by
 subst hn; exact enc_c mdl2 mdl2_ok s2z s2z_ok 2 (fun w I h=>begin2_c w I h) ad cap b w0 I0 hI hb hbb hbl
theorem opG_of {x:OpL}{n:Int}(hw:x.wf)(h1:1≤x.len)(h2:rightP x n=true)(hn:n≤65536)(hl:x.len≤65536):OpG x:=by
 have hb:=hw.b;have hd:=hw.data;unfold rightP at h2;split at h2
 · simp only[insideP,uC,ua]at h2; exact⟨by omega,by omega,by omega,hb,by omega,hd⟩
 · split at h2
   · simp only[insideP,uC,ua]at h2; exact⟨by omega,by omega,by omega,hb,by omega,hd⟩
   · split at h2
     · simp only[uC,ua]at h2; exact⟨by omega,by omega,by omega,hb,by omega,hd⟩
     · split at h2
       · simp only[uC,ua]at h2; exact⟨by omega,by omega,by omega,hb,by omega,hd⟩
       · cases h2
theorem symsOp_len (x:OpL):(symsOp x).length=x.len.toNat:=by unfold symsOp; rw[Qb,List.length_range]
theorem dtP_le : ∀ l : List OpL, (∀ x ∈ l, 1 ≤ x.len ∧ (x.data.length : Int) ≤ x.len) → (dtP l).length ≤ (symsOf l).length
 | [],_=>uc _
 | x::l,h=>by
   have h1:=h x (List.mem_cons_self ..);have h2:=dtP_le l fun y hy=>h y (List.mem_cons_of_mem _ hy)
   show(x.data++dtP l).length≤(symsOp x++symsOf l).length
   rw[xN,xN,symsOp_len]; omega
theorem len_le_syms {l:List OpL}{x:OpL}(h:x∈l):x.len.toNat≤(symsOf l).length:=by
 induction l with
 | nil=>cases h
 | cons y l ih =>
   show _≤(symsOp y++symsOf l).length
   rw[xN,symsOp_len];rcases xV.1 h with rfl | h
   · omega
   · have:=ih h; omega
structure PatG (p : PatL) : Prop where
 ops:∀x∈p.ops,OpG x
 n:p.ops.length≤4096
 dat:(dtP p.ops).length≤65536
 in_:0≤p.in_∧p.in_≤65536
 out:0≤p.out∧p.out≤65536
theorem patG_of {p:PatL}(hp:p.wf)(h:(checkP p).2=0):PatG p:=by
 obtain⟨k1,k2,k3,k4,k5,k6,k7⟩:=ja h;have hg:∀x∈p.ops,OpG x:=fun x hx=>opG_of (hp.ops x hx) (k1 x hx).1 (k1 x hx).2 k4 (by have:=len_le_syms hx; omega)
 exact⟨hg,by omega,by have:=dtP_le p.ops (fun x hx=>⟨(hg x hx).len.1,(hg x hx).dat⟩); omega,⟨k3,k4⟩,⟨k5,k6⟩⟩
def lft (p:PatL):Int:=if p.lifted then 1 else 0
def headP (p:PatL):List Int:=[]++numsB 1 [80,lft p]++numsB 3 [p.in_,p.out]++numsB 2 [(p.ops.length:Int)]++numsB 3 [((lsP p.ops).length:Int),((code1 (lsP p.ops)).length:Int),((dtP p.ops).length:Int),((code2 (dtP p.ops)).length:Int)]
def bodyP (p:PatL):List Int:=headP p++code1 (lsP p.ops)++code2 (dtP p.ops)
def packP (p:PatL):List Int:=bodyP p++sumP (bodyP p)
theorem headP_len (p:PatL):(headP p).length=22:=by unfold headP; simp only[xN,qI,List.length_cons,List.length_nil]
theorem xa {p:PatL}(h:PatG p):Byt (bodyP p):=by
 intro x hx;unfold bodyP at hx;rcases uJ.1 hx with hx | hx
 · rcases uJ.1 hx with hx | hx
   · unfold headP at hx
     rcases uJ.1 hx with hx | hx
     · rcases uJ.1 hx with hx | hx
       · rcases uJ.1 hx with hx | hx
         · rcases uJ.1 hx with hx | hx
           · cases hx
           · exact jB _ _ x hx
         · exact jB _ _ x hx
       · exact jB _ _ x hx
     · exact jB _ _ x hx
   · exact(vB (zJ _)).1 x hx
 · exact(vA (yI h.ops)).1 x hx
theorem yr (p:PatL):([]++numsB 1 [80,lft p]++numsB 3 [p.in_,p.out]++numsB 2 [(p.ops.length:Int)]++numsB 3 [((lsP p.ops).length:Int),((code1 (lsP p.ops)).length:Int),((dtP p.ops).length:Int),((code2 (dtP p.ops)).length:Int)]).length+(code1 (lsP p.ops)).length+(code2 (dtP p.ops)).length=(bodyP p).length:=by unfold bodyP headP; simp only[xN]
theorem zo (p:PatL):([]++numsB 1 [80,lft p]++numsB 3 [p.in_,p.out]++numsB 2 [(p.ops.length:Int)]++numsB 3 [((lsP p.ops).length:Int),((code1 (lsP p.ops)).length:Int),((dtP p.ops).length:Int),((code2 (dtP p.ops)).length:Int)]).length+(code1 (lsP p.ops)).length+(code2 (dtP p.ops)).length+(sumP (bodyP p)).length=(packP p).length:=by have h:(packP p).length=(bodyP p).length+(sumP (bodyP p)).length:=xN; rw[h,← yr]
theorem vZ {p:PatL}(h:PatG p):(bodyP p).length=22+(code1 (lsP p.ops)).length+(code2 (dtP p.ops)).length:=by unfold bodyP; rw[xN,xN,headP_len]
theorem bodyP_eq (p:PatL):bodyP p=([]++numsB 1 [80,lft p]++numsB 3 [p.in_,p.out]++numsB 2 [(p.ops.length:Int)]++numsB 3 [((lsP p.ops).length:Int),((code1 (lsP p.ops)).length:Int),((dtP p.ops).length:Int),((code2 (dtP p.ops)).length:Int)])++code1 (lsP p.ops)++code2 (dtP p.ops):=rfl
theorem packP_eq (p:PatL):packP p=bodyP p++sumP (bodyP p):=rfl
theorem headP_eq (p:PatL):headP p=([]++numsB 1 [80,lft p]++numsB 3 [p.in_,p.out]++numsB 2 [(p.ops.length:Int)]++numsB 3 [((lsP p.ops).length:Int),((code1 (lsP p.ops)).length:Int),((dtP p.ops).length:Int),((code2 (dtP p.ops)).length:Int)]):=rfl
attribute [local irreducible] packP bodyP headP code1 code2 sumP numsB
set_option maxHeartbeats 2000000 in
theorem pack_c (p : PatL) (ad : Option Addr) (m cap : Nat) (w0 : World) (I0 : Imm) (hI : Sat I0 w0) (hops : ROps I0 (.sg ad m cap) p.ops) (hp : p.wf) :
 Ctr prog 17 [.agg #[.bool p.lifted,.ig p.in_,.ig p.out,.sg ad m cap]] w0 (fun v w'=>((checkP p).2≠0∧v = .tuple #[.sg none 0 0,.ig 60]∧Ext w0 I0 w' I0)∨((checkP p).2=0∧∃I' a c,v = .tuple #[.slice a (packP p).length c,.ig 0]∧Ext w0 I0 w' I'∧RBytes I' (.slice a (packP p).length c) (packP p))):=by
 obtain⟨ad2,cap2,hv2⟩:=RSl.sl hops;obtain⟨rfl,rfl,rfl⟩:ad=ad2∧m=p.ops.length∧cap=cap2:=by injection hv2 with h1 h2 h3; exact⟨h1,h2,h3⟩
 refine fn (n:=81) func17 rfl rfl rfl ?_;have Z:=St.start hI;refine QwR (qe (d_box (cs:=[.bool _,.ig _,.ig _,.sg _ _ _]) Z rfl) ?_);clear Z;rintro _ w_1⟨b1,rfl,Z⟩;refine qq Z (qd _) (qq Z (Qai rfl) (QoN (xJ (QwR (qq Z (g_ldO 0 (vs:=[.bool _,.ig _,.ig _,.sg _ _ _]) ug uO rfl rfl rfl rfl) (qe (qi call44 rfl (check_c p _ _ _ _ _ Z.imm hops hp)) ?_))))));rintro _ w_2⟨rfl,hE⟩;replace Z:=Z.callE hE;refine qq Z (qb _) (qq Z (Qxi rfl rfl) (qq Z (Qxi rfl rfl) (qq Z (Qai rfl) (qq Z (Qai rfl) (QoR (qq Z (Qmi rfl) (qq Z (g_neq rfl rfl) (QoN (qh rfl ?_ ?_)))))))))
 ·
  intro hc21
  try simp only[zA,zO,zN,zI,zF,zM,zT,zU]at hc21
  skip
  refine QwR (qq Z (qd _) (qq Z (Qai rfl) (QoN (xO (ul (ret2 results17 (qg rfl) (qg (v:=.ig _) rfl) ?_))))));exact .inl ⟨by omega,rfl,Z.nil⟩
 ·
  intro hc21
  try simp only[zA,zO,zN,zI,zF,zM,zT,zU]at hc21
  have hck:(checkP p).2=0:=by omega
  have hG:=patG_of hp hck;obtain⟨hG1,hG2⟩:=hG.in_;obtain⟨hG3,hG4⟩:=hG.out;have hG5:=hG.n;have hG6:=hG.dat;have hhl:=headP_len p;rw[headP_eq]at hhl;have hsl:(sumP (bodyP p)).length=4:=by unfold sumP; rw[qI]; rfl
  have hl0:=lsP_le p.ops;have hl1:=(vB (zJ p.ops)).2;have hl2:=(vA (yI hG.ops)).2;refine xM (xL (QwR (qq Z (g_ldO 0 (vs:=[.bool _,.ig _,.ig _,.sg _ _ _]) ug uO rfl rfl rfl rfl) (qe (qi call45 rfl (plist_c p _ _ _ _ _ Z.imm hops hG.ops hG.n hG.dat)) ?_))));rintro _ w_3⟨I_f,a24,c24,d24,e24,rfl,hE,hls,hdt⟩;replace Z:=Z.callE hE;replace hops:=hops.mono hE.ext;refine qq Z (qb _) (qq Z (qk rfl rfl) (qq Z (qk rfl rfl) (qq Z (qd _) (qq Z (qd _) (QoR (qq Z (qb _) (qe (qi call46 rfl (enc1_c _ _ _ _ _ _ Z.imm hls rfl (zJ _) (by omega))) ?_)))))));rintro _ w_4⟨I_f,a29,c29,rfl,hE,h29⟩;replace Z:=Z.callE hE;replace hops:=hops.mono hE.ext;replace hls:=hls.mono hE.ext;replace hdt:=hdt.mono hE.ext;refine qq Z (qb _) (qq Z (qk rfl rfl) (qq Z (Qxi rfl rfl) (qq Z (qd _) (qq Z (Qai rfl) (QoR (qq Z (qb _) (qe (qi call46 rfl (enc2_c _ _ _ _ _ _ Z.imm hdt rfl (yI hG.ops) hG.dat)) ?_)))))));rintro _ w_5⟨I_f,a34,c34,rfl,hE,h34⟩;replace Z:=Z.callE hE;replace hops:=hops.mono hE.ext;replace hls:=hls.mono hE.ext;replace hdt:=hdt.mono hE.ext;replace h29:=h29.mono hE.ext;refine qq Z (qb _) (qq Z (qk rfl rfl) (qq Z (Qxi rfl rfl) (qq Z (qd _) (qq Z (Qai rfl) (QoR (qq Z (Qai rfl) (QoN (xJ (QwR (qq Z (qa (o':=0) uk rfl uy rfl rfl rfl) (qq Z (qc 0 QA rfl rfl rfl) (QoN (qh rfl ?_ ?_)))))))))))))
  ·
   intro hc38
   try simp only[zA,zO,zN,zI,zF,zM,zT,zU]at hc38
   have hlf:lft p=1:=by unfold lft; rw[xS hc38]
   refine reg (qq Z (Qai rfl) (QoR (qq Z (qs (pl:=[(0,1)]) (cs:=[.sg _ _ _]) Kg QX (fun w=>by simp[uI]) mp0 rfl) (qe (d_box (cs:=[.sg _ _ _]) Z rfl) ?_))));clear Z;rintro _ w_6⟨wb,rfl,Z⟩;refine qq Z (qd _) (QoR (qq Z (qb _) (qq Z (Qmi rfl) ?_)));refine qe (d_lit (vs:=[.ig _,.ig _]) (cs:=[.ig _,.ig _]) Z uf xK Qe rfl rfl rfl rfl (fun v hv=>by simp only[xV,xY,or_false]at hv; rcases hv with rfl | rfl <;> rfl) rfl) ?_;clear Z;rintro _ w_7⟨b43,rfl,Z⟩;have hF:=Z.freeze1;clear Z;obtain⟨I43,Z,hI43,hb43⟩:=hF;replace hops:=hops.mono hI43;replace hls:=hls.mono hI43;replace hdt:=hdt.mono hI43;replace h29:=h29.mono hI43;replace h34:=h34.mono hI43;have h43:=RFl.ofAt qM ([80,lft p]:List Int) hb43 (by rw[hlf]; rfl) (by show 2≤maxLen; decide);replace Z:=Z.nilRow 5 1;have hS_o:St _ _ _ _ _ [_,_,_]:=Z.ord [0,1,2];replace Z:=hS_o;clear hS_o;refine qe (qi Jh rfl (qX 1 wb _ _ [] _ _ _ _ _ _ (by decide) h43 (fun n hn=>by simp only[xV,xY,or_false]at hn; omega) (by simp only[xN,qI,List.length_cons,List.length_nil]; omega) (St.ownL Z))) ?_;rintro _ w_8⟨rfl,a44,c44,hE⟩;replace Z:=St.callL Z hE;refine QoR (qq Z (qb _) (qq Z (qa (o':=1) uk rfl xK rfl rfl rfl) (qq Z (qc 2 xW rfl rfl rfl) (qq Z (qa (o':=2) uk rfl xK rfl rfl rfl) (qq Z (qc 2 xW rfl rfl rfl) ?_)))));refine qe (d_lit (vs:=[.ig _,.ig _]) (cs:=[.ig _,.ig _]) Z uf xK Qe rfl rfl rfl rfl (fun v hv=>by simp only[xV,xY,or_false]at hv; rcases hv with rfl | rfl <;> rfl) rfl) ?_;clear Z;rintro _ w_9⟨b50,rfl,Z⟩;have hF:=Z.freeze1;clear Z;obtain⟨I50,Z,hI50,hb50⟩:=hF
   replace hops:=hops.mono hI50;replace hls:=hls.mono hI50;replace hdt:=hdt.mono hI50;replace h29:=h29.mono hI50;replace h34:=h34.mono hI50;replace h43:=h43.mono hI50;have h50:=RFl.ofAt qM ([p.in_,p.out]:List Int) hb50 rfl (by show 2≤maxLen; decide);have hS_o:St _ _ _ _ _ [_,_,_]:=Z.ord [0,1,2];replace Z:=hS_o;clear hS_o;refine qe (qi Jh rfl (qX 3 wb _ _ _ _ _ _ _ _ _ (by decide) h50 (fun n hn=>by simp only[xV,xY,or_false]at hn; omega) (by simp only[xN,qI,List.length_cons,List.length_nil]; omega) (St.ownL Z))) ?_;rintro _ w_10⟨rfl,a51,c51,hE⟩;replace Z:=St.callL Z hE;refine QoR (qq Z (qb _) (qq Z (qa (o':=3) uk rfl Qm rfl rfl rfl) (qq Z (qc 2 Jo rfl rfl rfl) (qq Z (qo rfl Qn hops rfl) ?_))));refine qe (d_lit (vs:=[.ig _]) (cs:=[.ig _]) Z uf xK Qe rfl rfl rfl rfl (fun v hv=>by simp only[xV,xY,or_false]at hv; subst hv; rfl) rfl) ?_;clear Z;rintro _ w_11⟨b56,rfl,Z⟩;have hF:=Z.freeze1;clear Z;obtain⟨I56,Z,hI56,hb56⟩:=hF;replace hops:=hops.mono hI56;replace hls:=hls.mono hI56;replace hdt:=hdt.mono hI56;replace h29:=h29.mono hI56;replace h34:=h34.mono hI56;replace h43:=h43.mono hI56;replace h50:=h50.mono hI56;have h56:=RFl.ofAt qM ([(p.ops.length:Int)]:List Int) hb56 rfl (by show 1≤maxLen; decide);have hS_o:St _ _ _ _ _ [_,_,_]:=Z.ord [0,1,2];replace Z:=hS_o;clear hS_o;refine qe (qi Jh rfl (qX 2 wb _ _ _ _ _ _ _ _ _ (by decide) h56 (fun n hn=>by simp only[xV,xY,or_false]at hn; omega) (by simp only[xN,qI,List.length_cons,List.length_nil]; omega) (St.ownL Z))) ?_;rintro _ w_12⟨rfl,a57,c57,hE⟩
   replace Z:=St.callL Z hE;refine QoR (qq Z (qb _) (qq Z (qb _) (qq Z (qo rfl xQ hls rfl) (qq Z (qb _) (qq Z (qo rfl xQ h29 rfl) (qq Z (qb _) (qq Z (qo rfl xQ hdt rfl) (qq Z (qb _) (qq Z (qo rfl xQ h34 rfl) ?_)))))))));refine qe (d_lit (vs:=[.ig _,.ig _,.ig _,.ig _]) (cs:=[.ig _,.ig _,.ig _,.ig _]) Z uf xK Qe rfl rfl rfl rfl (fun v hv=>by simp only[xV,xY,or_false]at hv; rcases hv with rfl | rfl | rfl | rfl <;> rfl) rfl) ?_;clear Z;rintro _ w_13⟨b67,rfl,Z⟩;have hF:=Z.freeze1;clear Z;obtain⟨I67,Z,hI67,hb67⟩:=hF;replace hops:=hops.mono hI67;replace hls:=hls.mono hI67;replace hdt:=hdt.mono hI67;replace h29:=h29.mono hI67;replace h34:=h34.mono hI67;replace h43:=h43.mono hI67;replace h50:=h50.mono hI67;replace h56:=h56.mono hI67;have h67:=RFl.ofAt qM ([((lsP p.ops).length:Int),((code1 (lsP p.ops)).length:Int),((dtP p.ops).length:Int),((code2 (dtP p.ops)).length:Int)]:List Int) hb67 rfl (by show 4≤maxLen; decide);have hS_o:St _ _ _ _ _ [_,_,_]:=Z.ord [0,1,2];replace Z:=hS_o;clear hS_o;refine qe (qi Jh rfl (qX 3 wb _ _ _ _ _ _ _ _ _ (by decide) h67 (fun n hn=>by simp only[xV,xY,or_false]at hn; omega) (by simp only[xN,qI,List.length_cons,List.length_nil]; omega) (St.ownL Z))) ?_;rintro _ w_14⟨rfl,a68,c68,hE⟩;replace Z:=St.callL Z hE;refine QoR (qq Z (qb _) (qq Z (qm rfl) (qq Z (qa (o':=0) QX rfl uI rfl rfl rfl) (qq Z (qc 1 Qx rfl rfl rfl) (qq Z (qb _) (qe (qO 0 Z rfl xQ QP rfl rfl rfl rfl qA (fun _=>rfl) h29 rfl (by omega) (by omega)) ?_))))));clear Z;rintro _ w_15⟨a74,p74,rfl,Z⟩;refine qq Z (qb _) (qe (qO 0 Z rfl xQ QP rfl rfl rfl rfl qA (fun _=>rfl) h34 rfl (by omega) (by omega)) ?_)
   clear Z;rintro _ w_16⟨a76,p76,rfl,Z⟩;refine qq Z (qd _) (QoN (xJ ?_));have hext0:=Z.ext;have hF:=St.freezeRowI (u:=.slice a76 (([]++numsB 1 [80,lft p]++numsB 3 [p.in_,p.out]++numsB 2 [(p.ops.length:Int)]++numsB 3 [((lsP p.ops).length:Int),((code1 (lsP p.ops)).length:Int),((dtP p.ops).length:Int),((code2 (dtP p.ops)).length:Int)]).length+(code1 (lsP p.ops)).length+(code2 (dtP p.ops)).length) p76) (m:=(([]++numsB 1 [80,lft p]++numsB 3 [p.in_,p.out]++numsB 2 [(p.ops.length:Int)]++numsB 3 [((lsP p.ops).length:Int),((code1 (lsP p.ops)).length:Int),((dtP p.ops).length:Int),((code2 (dtP p.ops)).length:Int)]).length+(code1 (lsP p.ops)).length+(code2 (dtP p.ops)).length)) (xs:=flat byteC (bodyP p)) (E:=5) (sz:=1) (by rw[bodyP_eq,ql byteC _ (code2 _),ql byteC _ (code1 _)]; exact Z.ord [0,1,2]);clear Z;obtain⟨I_hbd,Z,hI_hbd,hRI,hown⟩:=hF;have hbd:=RowI.flat qA hRI (yr p);replace hops:=hops.mono hI_hbd;replace hls:=hls.mono hI_hbd;replace hdt:=hdt.mono hI_hbd;replace h29:=h29.mono hI_hbd;replace h34:=h34.mono hI_hbd;replace h43:=h43.mono hI_hbd;replace h50:=h50.mono hI_hbd;replace h56:=h56.mono hI_hbd;replace h67:=h67.mono hI_hbd;have hRI0:=hRI;have hsat0:=Z.imm;refine reg (qq Z (qb _) (qq Z (qb _) (qe (qi call48 rfl (sum14_c _ _ _ _ _ _ Z.imm hbd (xa hG) (yr p))) ?_)));rintro _ w_17⟨I_f,a79,c79,rfl,hE,h79,hnew⟩;replace Z:=Z.callE hE;replace hops:=hops.mono hE.ext;replace hls:=hls.mono hE.ext;replace hdt:=hdt.mono hE.ext;replace h29:=h29.mono hE.ext;replace h34:=h34.mono hE.ext;replace h43:=h43.mono hE.ext
   replace h50:=h50.mono hE.ext;replace h56:=h56.mono hE.ext;replace h67:=h67.mono hE.ext;replace hbd:=hbd.mono hE.ext;replace hRI:=hRI.mono hE.ext;have hn0:=fun b hb=>(And.intro (sub_none hext0 (hown b hb).1) (hown b hb).2)
   have hq:=Z.thaw hRI hn0;refine Exists.elim hq fun J hJ=>?_
   clear hq;have hSJ:=hJ.1;have hJb:=hJ.2.2;clear hJ;have h79J:=h79.at_block (J:=J) (fun b hb=>hJb b (fun h=>by
    obtain⟨o,ho⟩:=hRI0.own_some h;have h3:=yO hsat0 ho;have h4:=hnew b hb;exact absurd h3 (Nat.not_lt.2 h4)))
   clear Z h79;replace Z:=hSJ;clear hSJ;have h79:=h79J;clear h79J;refine qe (qO 0 Z rfl xQ QP rfl rfl rfl rfl qA (fun _=>rfl) h79 rfl (by omega) (by omega)) ?_;clear Z;rintro _ w_18⟨a80,p80,rfl,Z⟩;refine qq Z (qd _) (qq Z (Qai rfl) (QoN (xO (ret2 results17 (qg rfl) (qg (v:=.ig _) rfl) ?_))));have hq9:=St.freezeRow (u:=.slice a80 ((([]++numsB 1 [80,lft p]++numsB 3 [p.in_,p.out]++numsB 2 [(p.ops.length:Int)]++numsB 3 [((lsP p.ops).length:Int),((code1 (lsP p.ops)).length:Int),((dtP p.ops).length:Int),((code2 (dtP p.ops)).length:Int)]).length+(code1 (lsP p.ops)).length+(code2 (dtP p.ops)).length)+(sumP (bodyP p)).length) p80) (m:=(([]++numsB 1 [80,lft p]++numsB 3 [p.in_,p.out]++numsB 2 [(p.ops.length:Int)]++numsB 3 [((lsP p.ops).length:Int),((code1 (lsP p.ops)).length:Int),((dtP p.ops).length:Int),((code2 (dtP p.ops)).length:Int)]).length+(code1 (lsP p.ops)).length+(code2 (dtP p.ops)).length)+(sumP (bodyP p)).length) (E:=5) (xs:=packP p) qA (by rw[packP_eq,ql]; exact Z) (zo p);refine Exists.elim hq9 fun I9 hJ9=>?_
   have hS9:=hJ9.1;have hfin:=hJ9.2.2;clear hq9 hJ9 Z;exact .inr ⟨hck,I9,a80,p80,congrArg (fun n:Nat=>Value.tuple #[.sg a80 n p80,.ig 0]) (zo p),hS9.nil,(congrArg (fun n:Nat=>RBytes I9 (.sg a80 n p80) (packP p)) (zo p)).mp hfin⟩
  ·
   intro hc38
   try simp only[zA,zO,zN,zI,zF,zM,zT,zU]at hc38
   have hlf:lft p=0:=by unfold lft; rw[xP (by simpa using hc38)]
   refine xM (xL (QwR (qq Z (qs (pl:=[(0,1)]) (cs:=[.sg _ _ _]) Kg QX (fun w=>by simp[uI]) mp0 rfl) (qe (d_box (cs:=[.sg _ _ _]) Z rfl) ?_))));clear Z;rintro _ w_19⟨wb,rfl,Z⟩;refine qq Z (qd _) (QoR (qq Z (qb _) (qq Z (Qmi rfl) ?_)));refine qe (d_lit (vs:=[.ig _,.ig _]) (cs:=[.ig _,.ig _]) Z uf xK Qe rfl rfl rfl rfl (fun v hv=>by simp only[xV,xY,or_false]at hv; rcases hv with rfl | rfl <;> rfl) rfl) ?_;clear Z;rintro _ w_20⟨b43,rfl,Z⟩;have hF:=Z.freeze1;clear Z;obtain⟨I43,Z,hI43,hb43⟩:=hF;replace hops:=hops.mono hI43;replace hls:=hls.mono hI43;replace hdt:=hdt.mono hI43;replace h29:=h29.mono hI43;replace h34:=h34.mono hI43;have h43:=RFl.ofAt qM ([80,lft p]:List Int) hb43 (by rw[hlf]; rfl) (by show 2≤maxLen; decide);replace Z:=Z.nilRow 5 1;have hS_o:St _ _ _ _ _ [_,_,_]:=Z.ord [0,1,2];replace Z:=hS_o;clear hS_o;refine qe (qi Jh rfl (qX 1 wb _ _ [] _ _ _ _ _ _ (by decide) h43 (fun n hn=>by simp only[xV,xY,or_false]at hn; omega) (by simp only[xN,qI,List.length_cons,List.length_nil]; omega) (St.ownL Z))) ?_;rintro _ w_21⟨rfl,a44,c44,hE⟩;replace Z:=St.callL Z hE;refine QoR (qq Z (qb _) (qq Z (qa (o':=1) uk rfl xK rfl rfl rfl) (qq Z (qc 2 xW rfl rfl rfl) (qq Z (qa (o':=2) uk rfl xK rfl rfl rfl) (qq Z (qc 2 xW rfl rfl rfl) ?_)))));refine qe (d_lit (vs:=[.ig _,.ig _]) (cs:=[.ig _,.ig _]) Z uf xK Qe rfl rfl rfl rfl (fun v hv=>by simp only[xV,xY,or_false]at hv; rcases hv with rfl | rfl <;> rfl) rfl) ?_;clear Z;rintro _ w_22⟨b50,rfl,Z⟩;have hF:=Z.freeze1;clear Z;obtain⟨I50,Z,hI50,hb50⟩:=hF
   replace hops:=hops.mono hI50;replace hls:=hls.mono hI50;replace hdt:=hdt.mono hI50;replace h29:=h29.mono hI50;replace h34:=h34.mono hI50;replace h43:=h43.mono hI50;have h50:=RFl.ofAt qM ([p.in_,p.out]:List Int) hb50 rfl (by show 2≤maxLen; decide);have hS_o:St _ _ _ _ _ [_,_,_]:=Z.ord [0,1,2];replace Z:=hS_o;clear hS_o;refine qe (qi Jh rfl (qX 3 wb _ _ _ _ _ _ _ _ _ (by decide) h50 (fun n hn=>by simp only[xV,xY,or_false]at hn; omega) (by simp only[xN,qI,List.length_cons,List.length_nil]; omega) (St.ownL Z))) ?_;rintro _ w_23⟨rfl,a51,c51,hE⟩;replace Z:=St.callL Z hE;refine QoR (qq Z (qb _) (qq Z (qa (o':=3) uk rfl Qm rfl rfl rfl) (qq Z (qc 2 Jo rfl rfl rfl) (qq Z (qo rfl Qn hops rfl) ?_))));refine qe (d_lit (vs:=[.ig _]) (cs:=[.ig _]) Z uf xK Qe rfl rfl rfl rfl (fun v hv=>by simp only[xV,xY,or_false]at hv; subst hv; rfl) rfl) ?_;clear Z;rintro _ w_24⟨b56,rfl,Z⟩;have hF:=Z.freeze1;clear Z;obtain⟨I56,Z,hI56,hb56⟩:=hF;replace hops:=hops.mono hI56;replace hls:=hls.mono hI56;replace hdt:=hdt.mono hI56;replace h29:=h29.mono hI56;replace h34:=h34.mono hI56;replace h43:=h43.mono hI56;replace h50:=h50.mono hI56;have h56:=RFl.ofAt qM ([(p.ops.length:Int)]:List Int) hb56 rfl (by show 1≤maxLen; decide);have hS_o:St _ _ _ _ _ [_,_,_]:=Z.ord [0,1,2];replace Z:=hS_o;clear hS_o;refine qe (qi Jh rfl (qX 2 wb _ _ _ _ _ _ _ _ _ (by decide) h56 (fun n hn=>by simp only[xV,xY,or_false]at hn; omega) (by simp only[xN,qI,List.length_cons,List.length_nil]; omega) (St.ownL Z))) ?_;rintro _ w_25⟨rfl,a57,c57,hE⟩
   replace Z:=St.callL Z hE;refine QoR (qq Z (qb _) (qq Z (qb _) (qq Z (qo rfl xQ hls rfl) (qq Z (qb _) (qq Z (qo rfl xQ h29 rfl) (qq Z (qb _) (qq Z (qo rfl xQ hdt rfl) (qq Z (qb _) (qq Z (qo rfl xQ h34 rfl) ?_)))))))));refine qe (d_lit (vs:=[.ig _,.ig _,.ig _,.ig _]) (cs:=[.ig _,.ig _,.ig _,.ig _]) Z uf xK Qe rfl rfl rfl rfl (fun v hv=>by simp only[xV,xY,or_false]at hv; rcases hv with rfl | rfl | rfl | rfl <;> rfl) rfl) ?_;clear Z;rintro _ w_26⟨b67,rfl,Z⟩;have hF:=Z.freeze1;clear Z;obtain⟨I67,Z,hI67,hb67⟩:=hF;replace hops:=hops.mono hI67;replace hls:=hls.mono hI67;replace hdt:=hdt.mono hI67;replace h29:=h29.mono hI67;replace h34:=h34.mono hI67;replace h43:=h43.mono hI67;replace h50:=h50.mono hI67;replace h56:=h56.mono hI67;have h67:=RFl.ofAt qM ([((lsP p.ops).length:Int),((code1 (lsP p.ops)).length:Int),((dtP p.ops).length:Int),((code2 (dtP p.ops)).length:Int)]:List Int) hb67 rfl (by show 4≤maxLen; decide);have hS_o:St _ _ _ _ _ [_,_,_]:=Z.ord [0,1,2];replace Z:=hS_o;clear hS_o;refine qe (qi Jh rfl (qX 3 wb _ _ _ _ _ _ _ _ _ (by decide) h67 (fun n hn=>by simp only[xV,xY,or_false]at hn; omega) (by simp only[xN,qI,List.length_cons,List.length_nil]; omega) (St.ownL Z))) ?_;rintro _ w_27⟨rfl,a68,c68,hE⟩;replace Z:=St.callL Z hE;refine QoR (qq Z (qb _) (qq Z (qm rfl) (qq Z (qa (o':=0) QX rfl uI rfl rfl rfl) (qq Z (qc 1 Qx rfl rfl rfl) (qq Z (qb _) (qe (qO 0 Z rfl xQ QP rfl rfl rfl rfl qA (fun _=>rfl) h29 rfl (by omega) (by omega)) ?_))))));clear Z;rintro _ w_28⟨a74,p74,rfl,Z⟩;refine qq Z (qb _) (qe (qO 0 Z rfl xQ QP rfl rfl rfl rfl qA (fun _=>rfl) h34 rfl (by omega) (by omega)) ?_)
   clear Z;rintro _ w_29⟨a76,p76,rfl,Z⟩;refine qq Z (qd _) (QoN (xJ ?_));have hext0:=Z.ext;have hF:=St.freezeRowI (u:=.slice a76 (([]++numsB 1 [80,lft p]++numsB 3 [p.in_,p.out]++numsB 2 [(p.ops.length:Int)]++numsB 3 [((lsP p.ops).length:Int),((code1 (lsP p.ops)).length:Int),((dtP p.ops).length:Int),((code2 (dtP p.ops)).length:Int)]).length+(code1 (lsP p.ops)).length+(code2 (dtP p.ops)).length) p76) (m:=(([]++numsB 1 [80,lft p]++numsB 3 [p.in_,p.out]++numsB 2 [(p.ops.length:Int)]++numsB 3 [((lsP p.ops).length:Int),((code1 (lsP p.ops)).length:Int),((dtP p.ops).length:Int),((code2 (dtP p.ops)).length:Int)]).length+(code1 (lsP p.ops)).length+(code2 (dtP p.ops)).length)) (xs:=flat byteC (bodyP p)) (E:=5) (sz:=1) (by rw[bodyP_eq,ql byteC _ (code2 _),ql byteC _ (code1 _)]; exact Z.ord [0,1,2]);clear Z;obtain⟨I_hbd,Z,hI_hbd,hRI,hown⟩:=hF;have hbd:=RowI.flat qA hRI (yr p);replace hops:=hops.mono hI_hbd;replace hls:=hls.mono hI_hbd;replace hdt:=hdt.mono hI_hbd;replace h29:=h29.mono hI_hbd;replace h34:=h34.mono hI_hbd;replace h43:=h43.mono hI_hbd;replace h50:=h50.mono hI_hbd;replace h56:=h56.mono hI_hbd;replace h67:=h67.mono hI_hbd;have hRI0:=hRI;have hsat0:=Z.imm;refine reg (qq Z (qb _) (qq Z (qb _) (qe (qi call48 rfl (sum14_c _ _ _ _ _ _ Z.imm hbd (xa hG) (yr p))) ?_)));rintro _ w_30⟨I_f,a79,c79,rfl,hE,h79,hnew⟩;replace Z:=Z.callE hE;replace hops:=hops.mono hE.ext;replace hls:=hls.mono hE.ext;replace hdt:=hdt.mono hE.ext;replace h29:=h29.mono hE.ext;replace h34:=h34.mono hE.ext;replace h43:=h43.mono hE.ext
   replace h50:=h50.mono hE.ext;replace h56:=h56.mono hE.ext;replace h67:=h67.mono hE.ext;replace hbd:=hbd.mono hE.ext;replace hRI:=hRI.mono hE.ext;have hn0:=fun b hb=>(And.intro (sub_none hext0 (hown b hb).1) (hown b hb).2)
   have hq:=Z.thaw hRI hn0;refine Exists.elim hq fun J hJ=>?_
   clear hq;have hSJ:=hJ.1;have hJb:=hJ.2.2;clear hJ;have h79J:=h79.at_block (J:=J) (fun b hb=>hJb b (fun h=>by
    obtain⟨o,ho⟩:=hRI0.own_some h;have h3:=yO hsat0 ho;have h4:=hnew b hb;exact absurd h3 (Nat.not_lt.2 h4)))
   clear Z h79;replace Z:=hSJ;clear hSJ;have h79:=h79J;clear h79J;refine qe (qO 0 Z rfl xQ QP rfl rfl rfl rfl qA (fun _=>rfl) h79 rfl (by omega) (by omega)) ?_;clear Z;rintro _ w_31⟨a80,p80,rfl,Z⟩;refine qq Z (qd _) (qq Z (Qai rfl) (QoN (xO (ret2 results17 (qg rfl) (qg (v:=.ig _) rfl) ?_))));have hq9:=St.freezeRow (u:=.slice a80 ((([]++numsB 1 [80,lft p]++numsB 3 [p.in_,p.out]++numsB 2 [(p.ops.length:Int)]++numsB 3 [((lsP p.ops).length:Int),((code1 (lsP p.ops)).length:Int),((dtP p.ops).length:Int),((code2 (dtP p.ops)).length:Int)]).length+(code1 (lsP p.ops)).length+(code2 (dtP p.ops)).length)+(sumP (bodyP p)).length) p80) (m:=(([]++numsB 1 [80,lft p]++numsB 3 [p.in_,p.out]++numsB 2 [(p.ops.length:Int)]++numsB 3 [((lsP p.ops).length:Int),((code1 (lsP p.ops)).length:Int),((dtP p.ops).length:Int),((code2 (dtP p.ops)).length:Int)]).length+(code1 (lsP p.ops)).length+(code2 (dtP p.ops)).length)+(sumP (bodyP p)).length) (E:=5) (xs:=packP p) qA (by rw[packP_eq,ql]; exact Z) (zo p);refine Exists.elim hq9 fun I9 hJ9=>?_
   have hS9:=hJ9.1;have hfin:=hJ9.2.2;clear hq9 hJ9 Z;exact .inr ⟨hck,I9,a80,p80,congrArg (fun n:Nat=>Value.tuple #[.sg a80 n p80,.ig 0]) (zo p),hS9.nil,(congrArg (fun n:Nat=>RBytes I9 (.sg a80 n p80) (packP p)) (zo p)).mp hfin⟩
end Go.Proofs.YtgkgihnpjgbmhaaGreatDoor
