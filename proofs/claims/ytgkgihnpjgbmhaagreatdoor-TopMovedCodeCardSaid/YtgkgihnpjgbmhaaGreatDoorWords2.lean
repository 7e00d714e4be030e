/- inst.Words and inst.Bytes: what they compute. Conditions: bytes are bytes, words are words. -/
import Derived.Test.YtgkgihnpjgbmhaaGreatDoorKInst
import Derived.Test.YtgkgihnpjgbmhaaGreatDoorKLaw
set_option linter.unusedSimpArgs false
set_option linter.unusedVariables false
namespace Go.Proofs.YtgkgihnpjgbmhaaGreatDoor
open Tryz
open Go Go.RowKit Go.Inl
theorem g_toV {P:Program}{ρ:Operand→Value}{S:World→Prop}{op:Op}{ty:TypeId}{v v':Value}(h:Gives P ρ S op ty v)(e:v=v'):Gives P ρ S op ty v':=by subst e; exact h
theorem xx {b:List Int}{n i:Nat}(h:n+i < b.length):(b.drop n)[i]? = some (b.getD (n+i) 0):=by
 rw[List.getElem?_drop,xT,xI h]; rfl
structure WdW where
 k:Nat
 ar:Option Addr
 cr:Nat
 a:Option Addr
 c:Nat
theorem vS {P:Program}{n:Nat}{σ:Nat→Value}{S:World→Prop}{t t' ty:TypeId}{x y:Operand}{k:IntKind}{a b:Int}(hx:ev n σ x = .int k a)(hy:ev n σ y = .int k b)(h:a≠b):Gives P (ev n σ) S (.binOp .neq t x y t') ty (.bool true):=g_toV (g_neq hx hy) (by rw[uw h]; rfl)
theorem g_neqF {P:Program}{n:Nat}{σ:Nat→Value}{S:World→Prop}{t t' ty:TypeId}{x y:Operand}{k:IntKind}{a b:Int}(hx:ev n σ x = .int k a)(hy:ev n σ y = .int k b)(h:a=b):Gives P (ev n σ) S (.binOp .neq t x y t') ty (.bool false):=g_toV (g_neq hx hy) (by rw[uH h]; rfl)
def oct4 (w:Int)(j:Nat):List Int:=(List.range j).map (octP w)
theorem oct4_succ (w:Int)(j:Nat):oct4 w (j+1)=oct4 w j++[octP w j]:=by unfold oct4; rw[List.range_succ,Qp]; rfl
theorem oct4_four (w:Int):oct4 w 4=bytes4 w:=rfl
structure BtW where
 k:Nat
 a:Option Addr
 c:Nat
set_option maxHeartbeats 1000000 in
theorem words_c (ad : Option Addr) (cap n : Nat) (b : List Int) (w0 : World) (I0 : Imm) (hI : Sat I0 w0) (hl : RBytes I0 (.sg ad b.length cap) b) (hb : Byts b) (hn : b.length = 4 * n) (hn1 : n ≤ 1073741824) :
 Ctr prog 67 [.sg ad b.length cap] w0 (fun v w'=>∃I' a c,v = .tuple #[.sg a n c,.ig 0]∧Ext w0 I0 w' I'∧RFl I' 1 u32C (.sg a n c) (wordsN b n)):=by
 refine fn (n:=40) func67 rfl rfl rfl ?_;have Z:=St.start hI;refine QwR (qq Z (qd _) (qq Z (Qai rfl) (QoN (xJ (QwR (qq Z (qb _) (qq Z (qo rfl xQ hl rfl) (qq Z (g_rem rfl rfl (by omega) (by omega)) (qq Z (g_neqF rfl rfl (by omega)) (QoN (qV (rfl) (xM (xL (QwR (qq Z (qd _) (QoN (xJ (xU (loop (fun(x:WdW) σ w=>okS σ [(0,.slice x.ar (b.drop (4*x.k)).length x.cr),(4,.sg x.a x.k x.c)]∧St [] w0 I0 I0 w [.row (.sg x.a x.k x.c) 88 1 x.k (flat u32C (wordsN b x.k))]∧x.k≤n∧RBytes I0 (.slice x.ar (b.drop (4*x.k)).length x.cr) (b.drop (4*x.k))) (fun x=>n - x.k) (⟨0,ad,cap,none,0⟩) ?_ ?_)))))))))))))))))))
 ·
  exact⟨⟨rfl,rfl,trivial⟩,(Z.sel []).nilRow _ _,by dsimp only; omega,hl⟩
 ·
  rintro⟨k,ar,cr,a,c⟩σ w_l⟨hs,Z,hk,hr⟩;dsimp only at hs Z hk hr ⊢;rw[← qj hs]; clear hs
  have hdl:(b.drop (4*k)).length=b.length - 4*k:=Qj;refine xJ (QwR (qq Z (qb _) (qq Z (qo rfl xQ hr rfl) (qq Z (g_gtr rfl rfl) (QoN (qh rfl ?_ ?_))))))
  ·
   intro hc11
   try simp only[zA,zO,zN,zI,zF,zM,zT,zU]at hc11
   have hA0:=hr.at (xx (i:=0) (show 4*k+0 < b.length by omega));have hy0:=qZ hb (4*k+0);have hA1:=hr.at (xx (i:=1) (show 4*k+1 < b.length by omega));have hy1:=qZ hb (4*k+1);have hA2:=hr.at (xx (i:=2) (show 4*k+2 < b.length by omega));have hy2:=qZ hb (4*k+2);have hA3:=hr.at (xx (i:=3) (show 4*k+3 < b.length by omega));have hy3:=qZ hb (4*k+3);have hw4:word4 b k=b.getD (4*k+0) 0*16777216+b.getD (4*k+1) 0*65536+b.getD (4*k+2) 0*256+b.getD (4*k+3) 0:=rfl;have hwb:=word4_b hb k;refine xM (xL (xJ (xU (draw (.pg 0 (.pg 1 (.pg 2 (.hg 3 (.pg 4 (.pg 5 (.pg 6 (.pg 7 (.hg 8 (.pg 9 (.pg 10 (.pg 11 (.pg 12 (.pg 13 (.hg 14 (.pg 15 (.pg 16 (.pg 17 (.pg 18 (.pg 19 (.hg 20 (.pg 21 (.pg 22 (.cons 23 .eff (.cons 24 .bar (.pg 25 .nil)))))))))))))))))))))))))) mixed (by kernel_rfl) Z ?_))));intro w_1 Z;refine sp rfl (qb _) (sp rfl (qb _) (sp rfl (g_ixI xQ un hr rfl rfl (by omega) (by omega)) (sh rfl (qt uZ hA0 rfl rfl) ?_)));refine sp rfl (qH (c:=b.getD (4*k+0) 0) uA uv rfl (by rw[IntKind.wrap_u32]; omega)) ?_;refine sp rfl (qT (s:=24) (c:=b.getD (4*k+0) 0*16777216) rfl rfl rfl rfl (by rw[IntKind.wrap_u32]; omega)) ?_;refine sp rfl (qb _) (sp rfl (g_ixI xQ un hr rfl rfl (by omega) (by omega)) (sh rfl (qt uZ hA1 rfl rfl) ?_));refine sp rfl (qH (c:=b.getD (4*k+1) 0) uA uv rfl (by rw[IntKind.wrap_u32]; omega)) ?_;refine sp rfl (qT (s:=16) (c:=b.getD (4*k+1) 0*65536) rfl rfl rfl rfl (by rw[IntKind.wrap_u32]; omega)) ?_;refine sp rfl (g_orD (m:=24) (c:=b.getD (4*k+0) 0*16777216+b.getD (4*k+1) 0*65536) rfl rfl (by omega) (Int.lt_of_lt_of_le (show b.getD (4*k+0) 0*16777216 < 4294967296 by omega) (Int.le_refl _)) (by omega) (by omega) (by omega) (Int.lt_of_lt_of_le (show b.getD (4*k+1) 0*65536 < 4294967296 by omega) (Int.le_refl _)) (by rw[IntKind.wrap_u32]; omega)) ?_
   refine sp rfl (qb _) (sp rfl (g_ixI xQ un hr rfl rfl (by omega) (by omega)) (sh rfl (qt uZ hA2 rfl rfl) ?_));refine sp rfl (qH (c:=b.getD (4*k+2) 0) uA uv rfl (by rw[IntKind.wrap_u32]; omega)) ?_;refine sp rfl (qT (s:=8) (c:=b.getD (4*k+2) 0*256) rfl rfl rfl rfl (by rw[IntKind.wrap_u32]; omega)) ?_;refine sp rfl (g_orD (m:=16) (c:=b.getD (4*k+0) 0*16777216+b.getD (4*k+1) 0*65536+b.getD (4*k+2) 0*256) rfl rfl (by omega) (Int.lt_of_lt_of_le (show b.getD (4*k+0) 0*16777216+b.getD (4*k+1) 0*65536 < 4294967296 by omega) (Int.le_refl _)) (by omega) (by omega) (by omega) (Int.lt_of_lt_of_le (show b.getD (4*k+2) 0*256 < 4294967296 by omega) (Int.le_refl _)) (by rw[IntKind.wrap_u32]; omega)) ?_;refine sp rfl (qb _) (sp rfl (g_ixI xQ un hr rfl rfl (by omega) (by omega)) (sh rfl (qt uZ hA3 rfl rfl) ?_));refine sp rfl (qH (c:=b.getD (4*k+3) 0) uA uv rfl (by rw[IntKind.wrap_u32]; omega)) ?_;refine sp rfl (g_orD (m:=8) (c:=b.getD (4*k+0) 0*16777216+b.getD (4*k+1) 0*65536+b.getD (4*k+2) 0*256+b.getD (4*k+3) 0) rfl rfl (by omega) (Int.lt_of_lt_of_le (show b.getD (4*k+0) 0*16777216+b.getD (4*k+1) 0*65536+b.getD (4*k+2) 0*256 < 4294967296 by omega) (Int.le_refl _)) (by omega) (by omega) (by omega) (Int.lt_of_lt_of_le (show b.getD (4*k+3) 0 < 4294967296 by omega) (Int.le_refl _)) (by rw[IntKind.wrap_u32]; omega)) ?_;have hS0:=Z;refine se rfl (d_lit (vs:=[.wg _]) (cs:=[.wg _]) Z ui uV JA rfl rfl rfl rfl (fun v hv=>by simp only[xV,xY,or_false]at hv; subst hv; rfl) rfl) ?_;rintro _ w_2⟨b37,rfl,Z⟩
   refine⟨_,_,hS0.le (Sub.refl _) (uq _ _),Z,sb rfl (qB 1 0 Z rfl ui Jr rfl rfl rfl rfl rfl rfl rfl rfl (by omega) (by omega)) ?_⟩;rintro _ w_3⟨a38,p38,rfl,Z⟩;refine⟨_,_,Z,sp rfl (qd _) (sn (uM (xL (reg (qq Z (qb _) ?_)))))⟩;have hs13:=RSl.slL hr 4 (by rw[Qj]; omega);obtain⟨a13,c13,hv13,_⟩:=hs13.len;rw[hv13,List.drop_drop,show 4*k+4=4*(k+1) by omega]at hs13;rw[List.drop_drop,show 4*k+4=4*(k+1) by omega]at hv13;refine qq Z (g_toV (kj (l0:=4) xQ un rfl rfl (by decide) (by omega) rfl) hv13) (qq Z (qd _) ?_);refine⟨⟨k+1,a13,c13,a38,p38⟩,_,rfl,⟨⟨rfl,rfl,trivial⟩,?_,by dsimp only; omega,hs13⟩,by dsimp only; omega⟩;dsimp only;rw[wordsN_succ,ql,qS,hw4];exact Z.sel [false,true]
  ·
   intro hc11
   try simp only[zA,zO,zN,zI,zF,zM,zT,zU]at hc11
   have hkn:k=n:=by omega
   subst hkn;refine ur (um (um (Qi (xL (QwR (qq Z (qb _) (qq Z (qd _) (qq Z (Qai rfl) (QoN (xO (ret2 results67 (qg rfl) (qg (v:=.ig _) rfl) ?_)))))))))));obtain⟨I1,hE1,hI1,hd1⟩:=jf qW (xs:=wordsN b k) (Z.sel [true]) (jE b k).symm;exact⟨I1,a,c,rfl,hE1,hd1⟩
theorem words_bad (ad : Option Addr) (cap : Nat) (b : List Int) (w0 : World) (I0 : Imm) (hI : Sat I0 w0) (hl : RBytes I0 (.sg ad b.length cap) b) (hn : b.length % 4 ≠ 0) :
 Ctr prog 67 [.sg ad b.length cap] w0 (fun v w'=>v = .tuple #[.sg none 0 0,.ig 61]∧Ext w0 I0 w' I0):=by
 refine fn (n:=40) func67 rfl rfl rfl ?_;have Z:=St.start hI;refine QwR (qq Z (qd _) (qq Z (Qai rfl) (QoN (xJ (QwR (qq Z (qb _) (qq Z (qo rfl xQ hl rfl) (qq Z (g_rem rfl rfl (by omega) (by omega)) (qq Z (vS rfl rfl (by omega)) (QoN (jR (rfl) (QwR (qq Z (qd _) (qq Z (Qai rfl) (QoN (xO (ul (ret2 results67 (qg rfl) (qg (v:=.ig _) rfl) ?_))))))))))))))))));exact⟨rfl,Z.nil⟩
set_option maxHeartbeats 1000000 in
theorem bytes_o (ad : Option Addr) (cap : Nat) (l : List Int) (w0 : World) (I0 : Imm) (hI : Sat I0 w0) (hl : RFl I0 1 u32C (.sg ad l.length cap) l) (hw : Wrds l) (hn : l.length ≤ 1073741824) :
 Ctr prog 76 [.sg ad l.length cap] w0 (fun v w'=>∃a c,v = .sg a (4*l.length) c∧St [] w0 I0 I0 w' [.row (.sg a (4*l.length) c) 5 1 (4*l.length) (flat byteC (bytesP l))]):=by
 refine fn (n:=26) func76 rfl rfl rfl ?_;have Z:=St.start hI;refine QwR (qq Z (qd _) (QoR (qq Z (qd _) (QoN (xJ (QwR (qq Z (qb _) (qq Z (qo rfl ui hl rfl) (qq Z (Qmi rfl) (QoN (xU (loop (fun(x:BtW) σ w=>okS σ [(3,.sg x.a (4*x.k) x.c),(7,.sg ad l.length cap),(8,.ig l.length),(9,.ig x.k)]∧St [] w0 I0 I0 w [.row (.sg x.a (4*x.k) x.c) 5 1 (4*x.k) (flat byteC (bytesP (l.take x.k)))]∧x.k≤l.length) (fun x=>l.length - x.k) (⟨0,none,0⟩) ?_ ?_))))))))))))
 ·
  exact⟨⟨rfl,rfl,rfl,rfl,trivial⟩,(Z.sel []).nilRow _ _,by dsimp only; omega⟩
 ·
  rintro⟨k,a,c⟩σ w_l⟨hs,Z,hk⟩;dsimp only at hs Z hk ⊢;rw[← qj hs]; clear hs
  refine QwR (qq Z (g_lss rfl rfl) (QoN (xJ (qh rfl ?_ ?_))))
  ·
   intro hc10
   try simp only[zA,zO,zN,zI,zF,zM,zT,zU]at hc10
   obtain⟨y,hyi⟩:∃y,l[k]? = some y:=⟨_,xI (by omega)⟩
   have hsA:=hl.at hyi;have hyb:=hw y (xR hyi);refine xM (xL (xJ (xU (QwR (qq Z (g_ixI ui uV hl rfl rfl (by omega) (by omega)) (qq Z (qt QH hsA rfl rfl) (qq Z (Qaw rfl) (QoR (qq Z (Qmi rfl) (QoN (xU (loop (fun(z:BtW) σ w=>okS σ [(3,.sg z.a (4*k+z.k) z.c),(5,.wg y),(7,.sg ad l.length cap),(8,.ig l.length),(9,.ig k),(13,.ig z.k)]∧St [] w0 I0 I0 w [.row (.sg z.a (4*k+z.k) z.c) 5 1 (4*k+z.k) (flat byteC (bytesP (l.take k))++flat byteC (oct4 y z.k))]∧z.k≤4) (fun z=>4 - z.k) (⟨0,a,c⟩) ?_ ?_))))))))))))
   ·
    refine⟨⟨rfl,rfl,rfl,rfl,rfl,rfl,trivial⟩,?_,by dsimp only; omega⟩;dsimp only;rw[show oct4 y 0=[] from rfl,show flat byteC []=[] from rfl,List.append_nil];exact Z.sel [true]
   ·
    rintro⟨j,a2,c2⟩σ w_l⟨hs,Z,hj⟩;dsimp only at hs Z hj ⊢;rw[← qj hs]; clear hs
    refine QwR (qq Z (g_lss rfl rfl) (QoN (xJ (qh rfl ?_ ?_))))
    ·
     intro hc14
     try simp only[zA,zO,zN,zI,zF,zM,zT,zU]at hc14
     refine xM (xL (xJ (xU (QwR (qq Z (Qmi rfl) (qq Z (Qai rfl) (QoN (reg (qq Z (qb _) (qq Z (Qmw rfl) (qq Z (Qmi rfl) (qe (qi call118 rfl (vn y j _ I0 Z.imm hyb.1 hyb.2 (by omega))) ?_))))))))))));rintro _ w_1⟨rfl,hE⟩;replace Z:=Z.callE hE;refine qq Z (qH (c:=octP y j) ut uA rfl (by have:=oct_b y j; rw[IntKind.wrap_u8]; omega)) ?_;refine qe (d_lit (vs:=[.bg _]) (cs:=[.bg _]) Z xQ un QZ rfl rfl rfl rfl (fun v hv=>by simp only[xV,xY,or_false]at hv; subst hv; rfl) rfl) ?_;clear Z;rintro _ w_2⟨b21,rfl,Z⟩;refine qe (qB 1 0 Z rfl xQ QP rfl rfl rfl rfl rfl rfl rfl rfl (by omega) (by omega)) ?_;clear Z;rintro _ w_3⟨a22,p22,rfl,Z⟩;refine qq Z (qd _) (qy (uM (xL (reg (qq Z (g_add rfl rfl (by omega) (by omega)) (qq Z (Qmi rfl) ?_))))));refine⟨⟨j+1,a22,p22⟩,_,rfl,⟨⟨rfl,rfl,rfl,rfl,rfl,rfl,trivial⟩,?_,by dsimp only; omega⟩,by dsimp only; omega⟩;dsimp only;rw[oct4_succ,ql,qS,← uh];exact Z.sel [false,true]
    ·
     intro hc14
     try simp only[zA,zO,zN,zI,zF,zM,zT,zU]at hc14
     have hj:j=4:=by omega
     subst hj;refine ur (um (um (Qi (uM (xL (reg (qq Z (g_add rfl rfl (by omega) (by omega)) (qq Z (Qmi rfl) ?_))))))));refine⟨⟨k+1,a2,c2⟩,_,rfl,⟨⟨rfl,rfl,rfl,rfl,trivial⟩,?_,by dsimp only; omega⟩,by dsimp only; omega⟩;dsimp only;rw[qz hyi,bytesP_snoc,← oct4_four,ql];exact Z.sel [true]
  ·
   intro hc10
   try simp only[zA,zO,zN,zI,zF,zM,zT,zU]at hc10
   have hkn:k=l.length:=by omega
   subst hkn;refine ur (um (um (Qi (xL (QwR (qq Z (qb _) (qq Z (qd _) (QoN (xO (ret1 results76 (qg rfl) ?_))))))))));rw[uL]at Z;exact⟨a,c,rfl,Z.sel [true]⟩
theorem bytes_c (ad : Option Addr) (cap : Nat) (l : List Int) (w0 : World) (I0 : Imm) (hI : Sat I0 w0) (hl : RFl I0 1 u32C (.sg ad l.length cap) l) (hw : Wrds l) (hn : l.length ≤ 1073741824) :
 Ctr prog 76 [.sg ad l.length cap] w0 (fun v w'=>∃I' a c,v = .sg a (4*l.length) c∧Ext w0 I0 w' I'∧RBytes I' (.sg a (4*l.length) c) (bytesP l)) :=
 (bytes_o ad cap l w0 I0 hI hl hw hn).mono fun v w' ⟨a,c,hv,Z⟩=>by
   obtain⟨I1,hE,_,hr⟩:=jf qA Z (qD l).symm;exact⟨I1,a,c,hv,hE,hr⟩
end Go.Proofs.YtgkgihnpjgbmhaaGreatDoor
