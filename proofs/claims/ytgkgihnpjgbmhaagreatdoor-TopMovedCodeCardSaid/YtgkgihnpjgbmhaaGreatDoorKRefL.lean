/- Lifted code by insertion of labels, as plain Lean: it is what package label makes. Conditions: none. inlayref03: IsCode, Linked, Index, Insert, numbered, Lift, Same; inlayref02.Words: what they compute. Conditions: bytes are bytes. inlayref03: unnumbered, Lower, two, Form, Read; inlayref02.Same: what they compute. Conditions: as said. -/
import Derived.Test.YtgkgihnpjgbmhaaGreatDoorIns
import Derived.Test.YtgkgihnpjgbmhaaGreatDoorRt3
import Derived.Test.YtgkgihnpjgbmhaaGreatDoorApplyL
import Derived.Test.YtgkgihnpjgbmhaaGreatDoorKRefC
set_option linter.unusedSimpArgs false
set_option linter.unusedVariables false
namespace Go.Inl
open Go Go.RowKit
def labU (ws : List Int) : Nat → List Int
 | 0=>[]
 | k+1=>if lnk ws k=true then insI (labU ws k) (instAt ws k).n else labU ws k
theorem kZ (ws : List Int) : ∀ k, (labU ws k).Pairwise (· < ·)
 | 0=>List.Pairwise.nil
 | k+1=>by
   unfold labU;split
   · exact insI_sorted (kZ ws k)
   · exact kZ ws k
theorem vu {ws : List Int} {n : Int} : ∀ {k : Nat}, n ∈ labU ws k ↔ ∃ i, i < k ∧ lnk ws i = true ∧ (instAt ws i).n = n
 | 0=>by
   constructor
   · intro h; cases h
   · rintro⟨i,h,_⟩; omega
 | k+1=>by
   unfold labU;split
   · rename_i hk
     rw[insI_mem,vu];constructor
     · rintro (h | ⟨i, h1, h2⟩)
       · exact⟨k,by omega,hk,h.symm⟩
       · exact⟨i,by omega,h2⟩
     · rintro ⟨i, h1, h2, h3⟩
       by_cases e:i=k
       · subst e; exact .inl h3.symm
       · exact .inr ⟨i,by omega,h2,h3⟩
   · rename_i hk
     rw[vu];constructor
     · rintro⟨i,h1,h2⟩; exact⟨i,by omega,h2⟩
     · rintro ⟨i, h1, h2, h3⟩
       by_cases e:i=k
       · subst e; exact absurd h2 hk
       · exact⟨i,by omega,h2,h3⟩
theorem labU_all (ws:List Int):labU ws ws.length=labelsP ws:=by
 refine sorted_ext (kZ ws _) (kP ws) fun n=>?_
 rw[vu,jY];unfold tgts;rw[Qu];constructor
 · rintro⟨i,h1,h2,h3⟩; exact⟨i,kq.2 ⟨h1,h2⟩,h3⟩
 · rintro⟨i,h1,h2⟩; obtain⟨h3,h4⟩:=kq.1 h1; exact⟨i,h3,h4,h2⟩
theorem labU_len (ws : List Int) : ∀ k, (labU ws k).length ≤ k
 | 0=>uc _
 | k+1=>by
   have:=labU_len ws k;unfold labU;split
   · have:=insI_len (instAt ws k).n (labU ws k); omega
   · omega
theorem lnk_n {ws:List Int}{i:Nat}(h:lnk ws i=true):(5≤(instAt ws i).op∧(instAt ws i).op≤8)∧0≤(instAt ws i).n∧(instAt ws i).n < 4*(ws.length:Int):=by
 unfold lnk linkedP at h;simpa only[uC,ua] using h
def wR (ws:List Int)(i:Nat):Int:=if lnk ws i=true then numAt ws (labelsP ws) i else ws.getD i 0
def wUp (ws:List Int)(k:Nat):List Int:=(List.range k).map (wR ws)
def mUp (ws:List Int)(k:Nat):List Bool:=(List.range k).map (lnk ws)
theorem wUp_succ (ws:List Int)(k:Nat):wUp ws (k+1)=wUp ws k++[wR ws k]:=by unfold wUp; rw[List.range_succ,Qp]; rfl
theorem mUp_succ (ws:List Int)(k:Nat):mUp ws (k+1)=mUp ws k++[lnk ws k]:=by unfold mUp; rw[List.range_succ,Qp]; rfl
theorem wUp_len (ws:List Int)(k:Nat):(wUp ws k).length=k:=by simp[wUp]
theorem mUp_len (ws:List Int)(k:Nat):(mUp ws k).length=k:=by simp[mUp]
theorem wUp_all (ws:List Int):wUp ws ws.length=(liftP ws).words:=by
 refine List.ext_getElem? fun i=>?_
 by_cases h:i < ws.length
 · have e : (liftP ws).words = liftW ws (labelsP ws) (lks ws) := rfl
   rw[e,Go.Proofs.YtgkgihnpjgbmhaaGreatDoor.liftW_get h];unfold wUp;rw[uW,List.getElem?_range h]; rfl
 · have e : (liftP ws).words.length = ws.length := jj ..
   rw[List.getElem?_eq_none (by rw[wUp_len]; omega),List.getElem?_eq_none (by omega)]
theorem mUp_all (ws:List Int):mUp ws ws.length=(liftP ws).marks:=by
 refine List.ext_getElem? fun i=>?_
 by_cases h:i < ws.length
 · have e : (liftP ws).marks = liftM ws.length (lks ws) := rfl
   rw[e,Go.Proofs.YtgkgihnpjgbmhaaGreatDoor.liftM_get h];unfold mUp;rw[uW,List.getElem?_range h]; rfl
 · have e : (liftP ws).marks.length = ws.length := jp ..
   rw[List.getElem?_eq_none (by rw[mUp_len]; omega),List.getElem?_eq_none (by omega)]
def idxM (l:List Int)(n:Int):Int:=if n∈l then (idxP l n:Int) else -1
theorem idxP_first {l:List Int}{n:Int}{k:Nat}(h:l[k]? = some n)(hb:∀i,i < k→l[i]? ≠ some n):idxP l n=k:=by
 have hm:n∈l:=xR h;have h1:=vv hm;have hk:=(xX.1 h).1;have hle:idxP l n≤k:=by
  unfold idxP;have:=List.findIdx_le_length (p:=fun x=>decide (x=n)) (xs:=l);rcases Nat.lt_or_ge k (l.findIdx fun x=>decide (x=n)) with g | g
  · have h3 := List.not_of_lt_findIdx g
    rw[(xX.1 h).2]at h3;simp at h3
  · exact g
 rcases Nat.lt_or_ge (idxP l n) k with g | g
 · exact absurd h1 (hb _ g)
 · omega
theorem idxM_at {l:List Int}{n:Int}{k:Nat}(h:l[k]? = some n)(hb:∀i,i < k→l[i]? ≠ some n):idxM l n=k:=by
 unfold idxM;rw[xS (xR h),idxP_first h hb]
theorem idxM_no {l:List Int}{n:Int}(hb:∀i,i < l.length→l[i]? ≠ some n):idxM l n = -1:=by
 unfold idxM;rw[xP];intro h;obtain⟨i,hi⟩:=Jk.1 h;exact hb i (xX.1 hi).1 hi
theorem idxM_mem {l:List Int}{n:Int}(h:n∈l):idxM l n=idxP l n:=xS h
theorem idxM_neg {l:List Int}{n:Int}:0≤idxM l n↔n∈l:=by
 unfold idxM;split
 · rename_i h; exact⟨fun _=>h,fun _=>by omega⟩
 · rename_i h; exact⟨fun g=>by omega,fun g=>absurd g h⟩
section
variable {P:Program} {n:Nat} {σ:Nat→Value} {S:World→Prop} {t t' ty:TypeId} {x y:Operand} {k:IntKind} {a b c:Int}
theorem g_andHi {m : Nat} (hx : ev n σ x = .int k a) (hy : ev n σ y = .int k b) (hb : BitVec.ofInt k.bits b = ~~~BitVec.ofInt k.bits ((2 : Int) ^ m - 1)) (hm : Nat.ble m k.bits = true) (h0 : 0 ≤ a) (h1 : a < 2 ^ k.bits) (h : k.wrap (a - a % 2 ^ m) = c) :
 Gives P (ev n σ) S (.binOp .and t x y t') ty (.int k c):=fun w _=>by
 subst h;have e:=andnot_mask k.bits a m (xH hm) h0 h1;rw[← hb]at e;simp only[execOp,hx,hy,Sem.run_bind,eqGuard,binOp,Op.intBits,Result.andThen_ok,Sem.run_pure];rw[e];simp[Result.andThen]
end
end Go.Inl
namespace Go.Proofs.YtgkgihnpjgbmhaaGreatDoor
open Tryz
open Go Go.RowKit Go.Inl
theorem decR_i {X : InstL} (wd at_ : Int) (w0 : World) (I0 : Imm) (hI : Sat I0 w0) (hX : decI wd at_ = X) (hw0 : 0 ≤ wd) (hw1 : wd < 4294967296) (ha0 : -1099511627776 ≤ at_) (ha1 : at_ ≤ 1099511627776) :
 Ctr prog 85 [.wg wd,.ig at_] w0 (fun v w'=>v=instV X∧Ext w0 I0 w' I0):=by
 subst hX; exact decR_c wd at_ w0 I0 hI hw0 hw1 ha0 ha1
theorem ext_all {α:Type}{l m:List α}(hl:l.length=m.length)(h:∀i,i < l.length→l[i]? = m[i]?):l=m:=by
 refine List.ext_getElem? fun i=>?_
 by_cases hi:i < l.length
 · exact h i hi
 · rw[List.getElem?_eq_none (by omega),List.getElem?_eq_none (by omega)]
theorem ext_step {α:Type}{l m:List α}{k:Nat}{x y:α}(h:∀i,i < k→l[i]? = m[i]?)(hx:l[k]? = some x)(hy:m[k]? = some y)(e:x=y):∀i,i < k+1→l[i]? = m[i]? := fun i hi=>by
 rcases Qd.1 hi with g | g
 · exact h i g
 · subst g; rw[hx,hy,e]
theorem ext_not {α:Type}{l m:List α}{k:Nat}{x y:α}(hx:l[k]? = some x)(hy:m[k]? = some y)(e:x≠y):l≠m:=fun h=>by
 subst h; rw[hx]at hy; exact e (Option.some.inj hy)
theorem yC {x y:LiftL}(h:x.words≠y.words∨x.marks≠y.marks∨x.labels≠y.labels):liftEq x y=false:=by
 cases e:liftEq x y with
 | false=>rfl
 | true=>have:=yV.1 e; subst this; simp at h
theorem liftEq_yes {x y:LiftL}(h0:x.words=y.words)(h1:x.marks=y.marks)(h2:x.labels=y.labels):liftEq x y=true:=by
 rw[yV]; cases x; cases y; simp_all
theorem len_ne {α:Type}{l m:List α}(h:l.length≠m.length):l≠m:=fun e=>h (by rw[e])
theorem idxP_lt {l:List Int}{n:Int}(h:n∈l):idxP l n < l.length:=(xX.1 (vv h)).1
theorem no_step {l:List Int}{n y:Int}{k:Nat}(h:∀i,i < k→l[i]? ≠ some n)(hy:l[k]? = some y)(e:y≠n):∀i,i < k+1→l[i]? ≠ some n:=fun i hi=>by
 rcases Qd.1 hi with g | g
 · exact h i g
 · subst g; rw[hy]; intro g; exact e (Option.some.inj g)
theorem lt_step {l:List Int}{n y:Int}{k:Nat}(h:∀i,i < k→∀z,l[i]? = some z→z < n)(hy:l[k]? = some y)(e:y < n):∀i,i < k+1→∀z,l[i]? = some z→z < n:=fun i hi z hz=>by
 rcases Qd.1 hi with g | g
 · exact h i g z hz
 · subst g; rw[hy]at hz; cases hz; exact e
theorem isCode_c (ad : Option Addr) (cap : Nat) (b : List Int) (w0 : World) (I0 : Imm) (hI : Sat I0 w0) (hl : RBytes I0 (.sg ad b.length cap) b) :
 Ctr prog 86 [.sg ad b.length cap] w0 (fun v w'=>v = .bool (!noCode b)∧Ext w0 I0 w' I0):=by
 have hle:=RSl.le hl;simp only[maxLen]at hle;refine fn (n:=12) func86 rfl rfl rfl ?_;have Z:=St.start hI;refine QwR (qq Z (Qab rfl) (QoR (qq Z (qb _) (qq Z (qo rfl xQ hl rfl) (qq Z (g_rem rfl rfl (by omega) (by omega)) (qq Z (g_eql rfl rfl) (qq Z (Qmb rfl) (qu rfl rfl Z (fun hg=>(qb _)) ?_))))))));intro u8 hu8 hn8;refine qu rfl rfl Z (fun hg=>(qo rfl xQ hl (hu8 hg))) ?_;intro u9 hu9 hn9;refine qu rfl rfl Z (fun hg=>(g_leq (hu9 hg) rfl)) ?_;intro u10 hu10 hn10;refine qq Z (g_and rfl rfl (fun hq=>hu10 hq)) (qq Z (Qab rfl) (QoN (xO (ret1 results86 (qg (v:=.bool _) rfl) ⟨congrArg Value.bool ?_,Z.nil⟩))));rw[Bool.eq_iff_iff];simp only[noCode,Bool.not_or,Bool.not_not,uC,ua,uS,xZ];omega
theorem linkR_c (x:InstL)(n:Int)(w0:World)(I0:Imm)(hI:Sat I0 w0):Ctr prog 88 [instV x,.ig n] w0 (fun v w'=>v = .bool (linkedP x n)∧Ext w0 I0 w' I0):=by
 refine fn (n:=24) func88 rfl rfl rfl ?_;have Z:=St.start hI;refine QwR (qe (d_box (cs:=[.ig _,.ig _,.ig _,.ig _,.ig _]) Z rfl) ?_);clear Z;rintro _ w_1⟨b2,rfl,Z⟩;refine qq Z (Qab rfl) (QoR (qq Z (qa (o':=0) ue rfl xK rfl rfl rfl) (qq Z (qc 0 xW rfl rfl rfl) (qq Z (g_geq rfl rfl) (qq Z (Qmb rfl) (qu rfl rfl Z (fun hg=>(qa (o':=0) ue rfl xK rfl rfl rfl)) ?_))))));intro u9 hu9 hn9;refine qu rfl rfl Z (fun hg=>(qc 0 xW rfl (hu9 hg) rfl)) ?_;intro u10 hu10 hn10;refine qu rfl rfl Z (fun hg=>(g_leq (hu10 hg) rfl)) ?_;intro u11 hu11 hn11;refine qq Z (g_and rfl rfl (fun hq=>hu11 hq)) (qq Z (Qmb rfl) (qu rfl rfl Z (fun hg=>(qa (o':=4) ue rfl xK rfl rfl rfl)) ?_));intro u14 hu14 hn14;refine qu rfl rfl Z (fun hg=>(qc 0 xW rfl (hu14 hg) rfl)) ?_;intro u15 hu15 hn15;refine qu rfl rfl Z (fun hg=>(g_geq (hu15 hg) rfl)) ?_;intro u16 hu16 hn16;refine qq Z (g_and rfl rfl (fun hq=>hu16 hq)) (qq Z (Qmb rfl) (qu rfl rfl Z (fun hg=>(qa (o':=4) ue rfl xK rfl rfl rfl)) ?_));intro u19 hu19 hn19;refine qu rfl rfl Z (fun hg=>(qc 0 xW rfl (hu19 hg) rfl)) ?_;intro u20 hu20 hn20;refine qu rfl rfl Z (fun hg=>(Qmi rfl)) ?_;intro u21 hu21 hn21;refine qu rfl rfl Z (fun hg=>(g_lss (hu20 hg) (hu21 hg))) ?_;intro u22 hu22 hn22;refine qq Z (g_and rfl rfl (fun hq=>hu22 hq)) (qq Z (Qab rfl) (QoN (xO (ret1 results88 (qg (v:=.bool _) rfl) ⟨congrArg Value.bool ?_,Z.nil⟩))));rw[Bool.eq_iff_iff];simp only[linkedP,uC,ua];omega
theorem idxR_c (ad : Option Addr) (cap : Nat) (l : List Int) (n : Int) (w0 : World) (I0 : Imm) (hI : Sat I0 w0) (hl : RFl I0 1 intC (.sg ad l.length cap) l) :
 Ctr prog 91 [.sg ad l.length cap,.ig n] w0 (fun v w'=>v = .ig (idxM l n)∧Ext w0 I0 w' I0):=by
 have hle:=RSl.le hl;simp only[maxLen]at hle;refine fn (n:=19) func91 rfl rfl rfl ?_;have Z:=St.start hI;refine QwR (qq Z (Qai rfl) (QoN (xJ (QwR (qq Z (Qai rfl) (QoN (xU (loop (fun(k:Nat) σ w=>okS σ [(0,.sg ad l.length cap),(1,.ig n),(5,.ig k)]∧St [] w0 I0 I0 w []∧k≤l.length∧∀i,i < k→l[i]? ≠ some n) (fun k=>l.length - k) (0) ?_ ?_))))))))
 ·
  exact⟨⟨rfl,rfl,rfl,trivial⟩,Z.sel [],by omega,fun i hi=>by omega⟩
 ·
  rintro k σ w_l⟨hs,Z,hk,hno⟩;rw[← qj hs]; clear hs
  refine xJ (QwR (qq Z (Qmi rfl) (qq Z (qb _) (qq Z (qo rfl uf hl rfl) (qq Z (g_lss rfl rfl) (QoN (qh rfl ?_ ?_)))))))
  ·
   intro hc9
   try simp only[zA,zO,zN,zI,zF,zM,zT,zU]at hc9
   obtain⟨y,hyi⟩:∃y,l[k]? = some y:=⟨_,xI (by omega)⟩
   have hsA:=hl.at hyi;refine xM (xL (xJ (xU (QwR (qq Z (qb _) (qq Z (Qmi rfl) (qq Z (g_ixI uf xK hl rfl rfl (by omega) (by omega)) (qq Z (qt xW hsA rfl rfl) (qq Z (Qmi rfl) (qq Z (g_eql rfl rfl) (QoN (qh rfl ?_ ?_))))))))))))
   ·
    intro hc17
    try simp only[zA,zO,zN,zI,zF,zM,zT,zU]at hc17
    have hi:=idxM_at (by rw[hyi,hc17]) hno;refine QwR (qq Z (Qmi rfl) (qq Z (Qai rfl) (QoN (xO (Qq (ul (ul (Qq (ul (ret1 results91 (qg (v:=.ig _) rfl) ?_))))))))))
    first | exact⟨by rw[hi],Z.nil⟩ | exact⟨by rw[idxM_no hno],Z.nil⟩
   ·
    intro hc17
    try simp only[zA,zO,zN,zI,zF,zM,zT,zU]at hc17
    have hno2:=no_step hno hyi hc17;refine xM (uM (xL (reg (qq Z (Qmi rfl) (qq Z (g_add rfl rfl (by omega) (by omega)) (qq Z (Qai rfl) ?_))))));exact⟨k+1,_,rfl,⟨⟨rfl,rfl,rfl,trivial⟩,Z.sel [],by omega,hno2⟩,by omega⟩
  ·
   intro hc9
   try simp only[zA,zO,zN,zI,zF,zM,zT,zU]at hc9
   have hkn:k=l.length:=by omega
   subst hkn;refine ur (um (um (Qi (xL (QwR (qq Z (Qai rfl) (QoN (xO (ret1 results91 (qg (v:=.ig _) rfl) ?_)))))))))
   first | exact⟨by rw[hi],Z.nil⟩ | exact⟨by rw[idxM_no hno],Z.nil⟩
theorem insertR_c (ad : Option Addr) (cap : Nat) (l : List Int) (n : Int) (w0 : World) (I0 : Imm) (hI : Sat I0 w0) (hl : RFl I0 1 intC (.sg ad l.length cap) l) (hs : l.Pairwise (· < ·)) (hn : l.length ≤ 1073741824) :
 Ctr prog 89 [.sg ad l.length cap,.ig n] w0 (fun v w'=>∃I' a c,v = .slice a (insI l n).length c∧Ext w0 I0 w' I'∧RFl I' 1 intC (.slice a (insI l n).length c) (insI l n)):=by
 have hle:=RSl.le hl;simp only[maxLen]at hle;have hcap:=rsl_cap hl;refine fn (n:=40) func89 rfl rfl rfl ?_;have Z:=St.start hI;refine QwR (qq Z (qd _) (QoN (xJ (QwR (qq Z (qb _) (qq Z (Qmi rfl) (qe (qi call91 rfl (idxR_c ad cap l n _ I0 Z.imm hl)) ?_)))))));rintro _ w_1⟨rfl,hE⟩;replace Z:=Z.callE hE;refine qq Z (g_geq rfl rfl) (QoN (qh rfl ?_ ?_))
 ·
  intro hc10
  try simp only[zA,zO,zN,zI,zF,zM,zT,zU]at hc10
  have hm:n∈l:=idxM_neg.1 hc10;have e:=insI_same hs hm;refine QwR (qq Z (qb _) (qq Z (qd _) (QoN (xO (ul (ret1 results89 (qg rfl) ?_))))))
  first
   | exact⟨I0,ad,cap,by rw[e] <;> rfl,Z.nil,by rw[e]; exact hl⟩
   | (have e2 : insI l n = l.take k ++ ([n] ++ l.drop k) := e
      rw[e2];have hm2:0+(l.take k).length+1+(l.drop k).length=(l.take k++([n]++l.drop k)).length:=by simp only[xN,JI]; omega
      obtain⟨I1,hE1,hI1,hd1⟩:=jf qM (xs:=l.take k++([n]++l.drop k)) (m:=(l.take k++([n]++l.drop k)).length) (by rw[← hm2,ql,ql,qS,← uh]; exact Z.sel []) rfl;exact⟨I1,a39,p39,by rw[← hm2] <;> rfl,hE1,by rw[← hm2]; exact hd1⟩)
 ·
  intro hc10
  try simp only[zA,zO,zN,zI,zF,zM,zT,zU]at hc10
  have hm:n∉l:=fun h=>hc10 (idxM_neg.2 h)
  refine xM (xL (QwR (qq Z (Qai rfl) (QoN (xJ (xU (loop (fun(k:Nat) σ w=>okS σ [(0,.sg ad l.length cap),(1,.ig n),(5,.ig k)]∧St [] w0 I0 I0 w []∧k≤l.length∧∀i,i < k→∀z,l[i]? = some z→z < n) (fun k=>l.length - k) (0) ?_ ?_)))))))
  ·
   exact⟨⟨rfl,rfl,rfl,trivial⟩,Z.sel [],by omega,fun i hi=>by omega⟩
  ·
   rintro k σ w_l⟨hs,Z,hk,hlt⟩;rw[← qj hs]; clear hs
   have hxA:k < l.length→atI I0 (elA (.sg ad l.length cap) k 1 0) [.ig (l.getD k 0)]:=fun h=>hl.at (jN h)
   refine xJ (QwR (qq Z (Qmi rfl) (qq Z (qb _) (qq Z (qo rfl uf hl rfl) (qq Z (g_lss rfl rfl) (qq Z (Qmb rfl) (qu rfl rfl Z (fun hg=>(qb _)) ?_)))))));intro u17 hu17 hn17;refine qu rfl rfl Z (fun hg=>(Qmi rfl)) ?_;intro u18 hu18 hn18;refine qu rfl rfl Z (fun hg=>(g_ixI uf xK hl (hu17 hg) (hu18 hg) (by have:=Jm hg; omega) (by have:=Jm hg; omega))) ?_;intro u19 hu19 hn19;refine qu rfl rfl Z (fun hg=>(qt xW (hxA (by have:=Jm hg; omega)) (hu19 hg) rfl)) ?_;intro u20 hu20 hn20;refine qu rfl rfl Z (fun hg=>(Qmi rfl)) ?_;intro u21 hu21 hn21;refine qu rfl rfl Z (fun hg=>(g_lss (hu20 hg) (hu21 hg))) ?_;intro u22 hu22 hn22;refine qq Z (g_and rfl rfl (fun hq=>hu22 hq)) (QoN (qh rfl ?_ ?_))
   ·
    intro hc23;clear hu17 hn17 hu18 hn18 hu19 hn19 hu20 hn20 hu21 hn21 hu22 hn22
    try simp only[zA,zO,zN,zI,zF,zM,zT,zU]at hc23
    have hkl:k < l.length:=by have:=hc23.1; omega
    obtain⟨y,hyi⟩:∃y,l[k]? = some y:=⟨_,xI hkl⟩
    have hyn:l.getD k 0 < n:=hc23.2;rw[jV hyi]at hyn;have hlt2:=lt_step hlt hyi hyn;refine xM (xL (xU (reg (qq Z (Qmi rfl) (qq Z (g_add rfl rfl (by omega) (by omega)) (qq Z (Qai rfl) ?_))))));exact⟨k+1,_,rfl,⟨⟨rfl,rfl,rfl,trivial⟩,Z.sel [],by omega,hlt2⟩,by omega⟩
   ·
    intro hc23;clear hu17 hn17 hu18 hn18 hu19 hn19 hu20 hn20 hu21 hn21 hu22 hn22
    try simp only[zA,zO,zN,zI,zF,zM,zT,zU]at hc23
    have hend:∀y,l[k]? = some y→n≤y:=fun y hy=>by
     have h1:=(xX.1 hy).1;have h2:=jV (d:=0) hy;have h3:=hc23 (by omega);omega
    have e:=insI_new hk hm hlt hend;refine ur (um (um (Qi (xL (xJ ?_)))));have hs29:=RSl.slH hl k hk;have hs38:=RSl.slL hl k hk;obtain⟨a29,c29,hv29,_⟩:=hs29.len;obtain⟨a38,c38,hv38,_⟩:=hs38.len;rw[hv29]at hs29;rw[hv38]at hs38;have hl29:(l.take k).length=k:=by rw[uo]; omega
    have hl38:(l.drop k).length=l.length - k:=Qj;refine reg (qe (jo Z uf xK) ?_);clear Z;rintro _ w_2⟨Z,b26_,rfl⟩;refine qq Z (qb _) (qq Z (Qmi rfl) (qq Z (g_toV (zt (h0:=k) uf xK rfl rfl (by omega) (by omega) (by omega)) hv29) (qe (qO 0 Z rfl uf JL rfl rfl rfl rfl qM (fun _=>rfl) hs29 rfl (by omega) (by omega)) ?_)));clear Z;rintro _ w_3⟨a30,p30,rfl,Z⟩;refine qq Z (qd _) (QoR (qq Z (qb _) (qq Z (Qmi rfl) ?_)));refine qe (d_lit (vs:=[.ig _]) (cs:=[.ig _]) Z uf xK Qe rfl rfl rfl rfl (fun v hv=>by simp only[xV,xY,or_false]at hv; subst hv; rfl) rfl) ?_;clear Z;rintro _ w_4⟨b33,rfl,Z⟩;refine qe (qB 1 0 Z rfl uf JL rfl rfl rfl rfl rfl rfl rfl rfl (by omega) (by omega)) ?_;clear Z;rintro _ w_5⟨a34,p34,rfl,Z⟩;refine qq Z (qd _) (QoR (qq Z (qb _) (qq Z (qb _) (qq Z (Qmi rfl) (qq Z (g_toV (kj (l0:=k) uf xK rfl rfl (by omega) (by omega) (by omega)) hv38) (qe (qO 1 Z rfl uf JL rfl rfl rfl rfl qM (fun _=>rfl) hs38 rfl (by omega) (by omega)) ?_))))));clear Z;rintro _ w_6⟨a39,p39,rfl,Z⟩;refine qq Z (qd _) (QoN (xO (ret1 results89 (qg rfl) ?_)))
    first
     | exact⟨I0,ad,cap,by rw[e] <;> rfl,Z.nil,by rw[e]; exact hl⟩
     | (have e2 : insI l n = l.take k ++ ([n] ++ l.drop k) := e
        rw[e2];have hm2:0+(l.take k).length+1+(l.drop k).length=(l.take k++([n]++l.drop k)).length:=by simp only[xN,JI]; omega
        obtain⟨I1,hE1,hI1,hd1⟩:=jf qM (xs:=l.take k++([n]++l.drop k)) (m:=(l.take k++([n]++l.drop k)).length) (by rw[← hm2,ql,ql,qS,← uh]; exact Z.sel [false,true]) rfl;exact⟨I1,a39,p39,by rw[← hm2] <;> rfl,hE1,by rw[← hm2]; exact hd1⟩)
theorem numR_c (w op k : Int) (w0 : World) (I0 : Imm) (hI : Sat I0 w0) (hw0 : 0 ≤ w) (hw1 : w < 4294967296) (ho : 5 ≤ op ∧ op ≤ 8) (hk0 : 0 ≤ k) (hk1 : k ≤ 65535) :
 Ctr prog 90 [.wg w,.ig op,.ig k] w0 (fun v w'=>v = .wg (numP w op k)∧Ext w0 I0 w' I0):=by
 refine fn (n:=23) func90 rfl rfl rfl ?_;have Z:=St.start hI;refine QwR (qq Z (Qaw rfl) (QoN (xJ (QwR (qq Z (Qmi rfl) (qq Z (g_eql rfl rfl) (qq Z (Qmb rfl) (qu rfl rfl Z (fun hg=>(Qmi rfl)) ?_))))))));intro u10 hu10 hn10;refine qu rfl rfl Z (fun hg=>(g_eql (hu10 hg) rfl)) ?_;intro u11 hu11 hn11;refine qq Z (g_or rfl rfl (fun hq=>hu11 hq)) (QoN (qh rfl ?_ ?_))
 ·
  intro hc12;clear hu10 hn10 hu11 hn11
  try simp only[zA,zO,zN,zI,zF,zM,zT,zU]at hc12
  have e:numP w op k=w - w % 16777216+k:=by unfold numP fieldM; rw[xS hc12]; omega
  refine QwR (qq Z (Qmw rfl) ?_);refine qq Z (g_andHi (m:=24) (c:=w - w % 16777216) rfl rfl (by decide) rfl hw0 hw1 (by rw[IntKind.wrap_u32]; omega)) ?_;refine qq Z (Qmi rfl) ?_;refine qq Z (qH (c:=k) ut uv rfl (by rw[IntKind.wrap_u32]; omega)) ?_;refine qq Z (g_orD (m:=24) (c:=w - w % 16777216+k) rfl rfl (by omega) (Int.lt_of_lt_of_le (show w - w % 16777216 < 4294967296 by omega) (Int.le_refl _)) (by omega) (by omega) (by omega) (Int.lt_of_lt_of_le (show k < 4294967296 by omega) (Int.le_refl _)) (by rw[IntKind.wrap_u32]; omega)) ?_;refine qq Z (Qaw rfl) (QoN (xO (ul (ret1 results90 (qg (v:=.wg _) rfl) ?_))));exact⟨by rw[e],Z.nil⟩
 ·
  intro hc12;clear hu10 hn10 hu11 hn11
  try simp only[zA,zO,zN,zI,zF,zM,zT,zU]at hc12
  have e:numP w op k=w - w % 65536+k:=by unfold numP fieldM; rw[xP (by omega)]; omega
  refine xM (xL (QwR (qq Z (Qmw rfl) ?_)));refine qq Z (g_andHi (m:=16) (c:=w - w % 65536) rfl rfl (by decide) rfl hw0 hw1 (by rw[IntKind.wrap_u32]; omega)) ?_;refine qq Z (Qmi rfl) ?_;refine qq Z (qH (c:=k) ut uv rfl (by rw[IntKind.wrap_u32]; omega)) ?_;refine qq Z (g_orD (m:=16) (c:=w - w % 65536+k) rfl rfl (by omega) (Int.lt_of_lt_of_le (show w - w % 65536 < 4294967296 by omega) (Int.le_refl _)) (by omega) (by omega) (by omega) (Int.lt_of_lt_of_le (show k < 4294967296 by omega) (Int.le_refl _)) (by rw[IntKind.wrap_u32]; omega)) ?_;refine qq Z (Qaw rfl) (QoN (xO (ret1 results90 (qg (v:=.wg _) rfl) ?_)));exact⟨by rw[e],Z.nil⟩
set_option maxHeartbeats 1000000 in
theorem wordsR_c (ad : Option Addr) (cap n : Nat) (b : List Int) (w0 : World) (I0 : Imm) (hI : Sat I0 w0) (hl : RBytes I0 (.sg ad b.length cap) b) (hb : Byts b) (hn : b.length = 4 * n) (hn1 : n ≤ 1073741824) :
 Ctr prog 87 [.sg ad b.length cap] w0 (fun v w'=>∃I' a c,v = .tuple #[.sg a n c,.ig 0]∧Ext w0 I0 w' I'∧RFl I' 1 u32C (.sg a n c) (wordsN b n)):=by
 have hle:=RSl.le hl;simp only[maxLen]at hle;refine fn (n:=50) func87 rfl rfl rfl ?_;have Z:=St.start hI;refine QwR (qq Z (qd _) (qq Z (Qai rfl) (QoN (xJ (QwR (qq Z (qb _) (qq Z (qo rfl xQ hl rfl) (qq Z (g_rem rfl rfl (by omega) (by omega)) (qq Z (g_neqF rfl rfl (by omega)) (QoN (qV (rfl) (xM (xL (QwR (qe (jo Z ui uV) ?_)))))))))))))));clear Z;rintro _ w_1⟨Z,b10_,rfl⟩;refine qq Z (qd _) (QoN (xJ (QwR (qq Z (Qai rfl) (QoN (xU (loop (fun(x:BtW) σ w=>okS σ [(0,.sg ad b.length cap),(4,.sg x.a x.k x.c),(5,.ig (4*x.k:Nat))]∧St [] w0 I0 I0 w [.row (.sg x.a x.k x.c) 88 1 x.k (flat u32C (wordsN b x.k))]∧x.k≤n) (fun x=>n - x.k) (⟨0,some ⟨b10_,0,none⟩,0⟩) ?_ ?_)))))))
 ·
  exact⟨⟨rfl,rfl,rfl,trivial⟩,Z.sel [true],by dsimp only; omega⟩
 ·
  rintro⟨k,a,c⟩σ w_l⟨hs,Z,hk⟩;dsimp only at hs Z hk ⊢;rw[← qj hs]; clear hs
  refine xJ (QwR (qq Z (Qmi rfl) (qq Z (qb _) (qq Z (qo rfl xQ hl rfl) (qq Z (g_lss rfl rfl) (QoN (qh rfl ?_ ?_)))))))
  ·
   intro hc14
   try simp only[zA,zO,zN,zI,zF,zM,zT,zU]at hc14
   have hA0:=hl.at (jN (l:=b) (i:=4*k+0) (by omega));have hy0:=qZ hb (4*k+0);have hA1:=hl.at (jN (l:=b) (i:=4*k+1) (by omega));have hy1:=qZ hb (4*k+1);have hA2:=hl.at (jN (l:=b) (i:=4*k+2) (by omega));have hy2:=qZ hb (4*k+2);have hA3:=hl.at (jN (l:=b) (i:=4*k+3) (by omega));have hy3:=qZ hb (4*k+3);have hw4:word4 b k=b.getD (4*k+0) 0*16777216+b.getD (4*k+1) 0*65536+b.getD (4*k+2) 0*256+b.getD (4*k+3) 0:=rfl;have hwb:=word4_b hb k;refine xM (xL (xJ (xU (draw (.pg 0 (.pg 1 (.pg 2 (.pg 3 (.hg 4 (.pg 5 (.pg 6 (.pg 7 (.pg 8 (.pg 9 (.pg 10 (.hg 11 (.pg 12 (.pg 13 (.pg 14 (.pg 15 (.pg 16 (.pg 17 (.pg 18 (.hg 19 (.pg 20 (.pg 21 (.pg 22 (.pg 23 (.pg 24 (.pg 25 (.pg 26 (.hg 27 (.pg 28 (.pg 29 (.cons 30 .eff (.cons 31 .bar (.pg 32 .nil))))))))))))))))))))))))))))))))) mixed (by kernel_rfl) Z ?_))));intro w_2 Z;refine sp rfl (qb _) (sp rfl (qb _) (sp rfl (Qmi rfl) (sp rfl (g_ixI xQ un hl rfl rfl (by omega) (by omega)) (sh rfl (qt uZ hA0 rfl rfl) ?_))));refine sp rfl (qH (c:=b.getD (4*k+0) 0) uA uv rfl (by rw[IntKind.wrap_u32]; omega)) ?_;refine sp rfl (qT (s:=24) (c:=b.getD (4*k+0) 0*16777216) rfl rfl rfl rfl (by rw[IntKind.wrap_u32]; omega)) ?_;refine sp rfl (qb _) (sp rfl (Qmi rfl) (sp rfl (g_add rfl rfl (by omega) (by omega)) (sp rfl (g_ixI xQ un hl rfl rfl (by omega) (by omega)) (sh rfl (qt uZ hA1 rfl rfl) ?_))));refine sp rfl (qH (c:=b.getD (4*k+1) 0) uA uv rfl (by rw[IntKind.wrap_u32]; omega)) ?_;refine sp rfl (qT (s:=16) (c:=b.getD (4*k+1) 0*65536) rfl rfl rfl rfl (by rw[IntKind.wrap_u32]; omega)) ?_
   refine sp rfl (g_orD (m:=24) (c:=b.getD (4*k+0) 0*16777216+b.getD (4*k+1) 0*65536) rfl rfl (by omega) (Int.lt_of_lt_of_le (show b.getD (4*k+0) 0*16777216 < 4294967296 by omega) (Int.le_refl _)) (by omega) (by omega) (by omega) (Int.lt_of_lt_of_le (show b.getD (4*k+1) 0*65536 < 4294967296 by omega) (Int.le_refl _)) (by rw[IntKind.wrap_u32]; omega)) ?_;refine sp rfl (qb _) (sp rfl (Qmi rfl) (sp rfl (g_add rfl rfl (by omega) (by omega)) (sp rfl (g_ixI xQ un hl rfl rfl (by omega) (by omega)) (sh rfl (qt uZ hA2 rfl rfl) ?_))));refine sp rfl (qH (c:=b.getD (4*k+2) 0) uA uv rfl (by rw[IntKind.wrap_u32]; omega)) ?_;refine sp rfl (qT (s:=8) (c:=b.getD (4*k+2) 0*256) rfl rfl rfl rfl (by rw[IntKind.wrap_u32]; omega)) ?_;refine sp rfl (g_orD (m:=16) (c:=b.getD (4*k+0) 0*16777216+b.getD (4*k+1) 0*65536+b.getD (4*k+2) 0*256) rfl rfl (by omega) (Int.lt_of_lt_of_le (show b.getD (4*k+0) 0*16777216+b.getD (4*k+1) 0*65536 < 4294967296 by omega) (Int.le_refl _)) (by omega) (by omega) (by omega) (Int.lt_of_lt_of_le (show b.getD (4*k+2) 0*256 < 4294967296 by omega) (Int.le_refl _)) (by rw[IntKind.wrap_u32]; omega)) ?_;refine sp rfl (qb _) (sp rfl (Qmi rfl) (sp rfl (g_add rfl rfl (by omega) (by omega)) (sp rfl (g_ixI xQ un hl rfl rfl (by omega) (by omega)) (sh rfl (qt uZ hA3 rfl rfl) ?_))));refine sp rfl (qH (c:=b.getD (4*k+3) 0) uA uv rfl (by rw[IntKind.wrap_u32]; omega)) ?_;refine sp rfl (g_orD (m:=8) (c:=b.getD (4*k+0) 0*16777216+b.getD (4*k+1) 0*65536+b.getD (4*k+2) 0*256+b.getD (4*k+3) 0) rfl rfl (by omega) (Int.lt_of_lt_of_le (show b.getD (4*k+0) 0*16777216+b.getD (4*k+1) 0*65536+b.getD (4*k+2) 0*256 < 4294967296 by omega) (Int.le_refl _)) (by omega) (by omega) (by omega) (Int.lt_of_lt_of_le (show b.getD (4*k+3) 0 < 4294967296 by omega) (Int.le_refl _)) (by rw[IntKind.wrap_u32]; omega)) ?_
   have hS0:=Z;refine se rfl (d_lit (vs:=[.wg _]) (cs:=[.wg _]) Z ui uV JA rfl rfl rfl rfl (fun v hv=>by simp only[xV,xY,or_false]at hv; subst hv; rfl) rfl) ?_;rintro _ w_3⟨b47,rfl,Z⟩;refine⟨_,_,hS0.le (Sub.refl _) (uq _ _),Z,sb rfl (qB 1 0 Z rfl ui Jr rfl rfl rfl rfl rfl rfl rfl rfl (by omega) (by omega)) ?_⟩;rintro _ w_4⟨a48,p48,rfl,Z⟩;refine⟨_,_,Z,sp rfl (qd _) (sn (uM (xL (reg (qq Z (Qmi rfl) (qq Z (g_add rfl rfl (by omega) (by omega)) (qq Z (Qai rfl) ?_)))))))⟩;refine⟨⟨k+1,a48,p48⟩,_,rfl,⟨⟨rfl,rfl,congrArg (Value.int .i64) (show((4*k:Nat):Int)+4=((4*(k+1):Nat):Int) by omega),trivial⟩,?_,by dsimp only; omega⟩,by dsimp only; omega⟩;dsimp only;rw[wordsN_succ,ql,qS,hw4];exact Z.sel [false,true]
  ·
   intro hc14
   try simp only[zA,zO,zN,zI,zF,zM,zT,zU]at hc14
   have hkn:k=n:=by omega
   subst hkn;refine ur (um (um (Qi (xL (QwR (qq Z (qb _) (qq Z (qd _) (qq Z (Qai rfl) (QoN (xO (ret2 results87 (qg rfl) (qg (v:=.ig _) rfl) ?_)))))))))));obtain⟨I1,hE1,hI1,hd1⟩:=jf qW (xs:=wordsN b k) (Z.sel [true]) (jE b k).symm;exact⟨I1,a,c,rfl,hE1,hd1⟩
set_option maxHeartbeats 2000000 in
theorem liftR_c (ad : Option Addr) (cap n : Nat) (b : List Int) (w0 : World) (I0 : Imm) (hI : Sat I0 w0) (hl : RBytes I0 (.sg ad b.length cap) b) (hb : Byts b) (hn : b.length = 4 * n) (hn1 : n ≤ 16384) :
 Ctr prog 41 [.sg ad b.length cap] w0 (fun v w' => ∃ I' a0 c0 a1 c1 a2 c2, v = .tuple #[.agg #[.sg a0 n c0, .sg a1 n c1, .slice a2 (labelsP (wordsN b n)).length c2], .ig 0] ∧ Ext w0 I0 w' I' ∧
  RFl I' 1 u32C (.sg a0 n c0) (liftP (wordsN b n)).words∧RFl I' 1 boolC (.sg a1 n c1) (liftP (wordsN b n)).marks∧RFl I' 1 intC (.slice a2 (labelsP (wordsN b n)).length c2) (liftP (wordsN b n)).labels):=by
 have hwl:=jE b n;have hwr:=kW hb n;have hlen:=jv (wordsN b n);rw[hwl]at hlen;have hnc:noCode b=false:=by unfold noCode; rw[uH (by omega),uw (by omega)]; rfl
 have hwa:=wUp_all (wordsN b n);have hma:=mUp_all (wordsN b n);have hla:=labU_all (wordsN b n);rw[hwl]at hwa hma hla;refine fn (n:=90) func41 rfl rfl rfl ?_;have Z:=St.start hI;refine QwR (qe (qr (cs:=[.sg _ _ _,.sg _ _ _,.sg _ _ _]) Z uY rfl) ?_);clear Z;rintro _ w_1⟨b2,rfl,Z⟩;refine qq Z (Qai rfl) (QoN (xJ (QwR (qq Z (qb _) (qe (qi call86 rfl (isCode_c ad cap b _ _ Z.imm hl)) ?_)))));rintro _ w_2⟨rfl,hE⟩;replace Z:=Z.callE hE;refine qq Z (g_toV (g_not rfl) (congrArg Value.bool (show(!!noCode b)=false by rw[hnc]; rfl))) ?_;refine QoN (qV (rfl) (xM (xL (QwR (qq Z (qb _) (qe (qi call87 rfl (wordsR_c ad cap n b _ _ Z.imm hl hb hn (by omega))) ?_))))));rintro _ w_3⟨I_f,a19,c19,rfl,hE,h19⟩;replace Z:=Z.callE hE;replace hl:=hl.mono hE.ext;refine qq Z (qb _) (qq Z (qk rfl rfl) (qq Z (Qxi rfl rfl) (qq Z (qd _) (qq Z (Qai rfl) (QoR (qq Z (qs (pl:=[(0,1),(1,1),(2,1)]) (cs:=[.sg _ _ _,.sg _ _ _,.sg _ _ _]) uY ub (fun w=>by simp[uT,Qf,uE]) mp0 rfl) (qe (qr (cs:=[.sg _ _ _,.sg _ _ _,.sg _ _ _]) Z uY rfl) ?_)))))));clear Z;rintro _ w_4⟨b6,rfl,Z⟩;refine qe (qf 0 Z uU rfl rfl rfl (vs:=[.sg _ _ _,.sg _ _ _,.sg _ _ _]) rfl rfl rfl (xH rfl) (cs':=[_,_,_]) rfl) ?_;clear Z;rintro _ w_5⟨rfl,Z⟩;refine QoN (xJ (QwR (qq Z (Qai rfl) (QoN (xU (loop (fun(x:BtW) σ w=>okS σ [(0,.sg ad b.length cap),(2,.zg b2),(4,.sg a19 n c19),(6,.zg b6),(7,.ig x.k)]∧∃I,St [] w0 I0 I w [.cel b6 71 [.sg none 0 0,.sg none 0 0,.slice x.a (labU (wordsN b n) x.k).length x.c],.cel b2 71 [.sg none 0 0,.sg none 0 0,.sg none 0 0]]∧x.k≤n∧RBytes I (.sg ad b.length cap) b∧RFl I 1 u32C (.sg a19 n c19) (wordsN b n)∧RFl I 1 intC (.slice x.a (labU (wordsN b n) x.k).length x.c) (labU (wordsN b n) x.k)) (fun x=>n - x.k) (⟨0,none,0⟩) ?_ ?_))))))
 ·
  exact⟨⟨rfl,rfl,rfl,rfl,rfl,trivial⟩,_,Z.sel [true,true],by dsimp only; omega,hl,h19,RFl.nil⟩
 ·
  rintro⟨k,a,c⟩σ w_l⟨hs,I,Z,hk,hl,h19,hlb⟩;dsimp only at hs Z hk hl h19 hlb ⊢;rw[← qj hs]; clear hs
  refine xJ (QwR (qq Z (Qmi rfl) (qq Z (qb _) (qq Z (qo rfl ui h19 rfl) (qq Z (g_lss rfl rfl) (QoN (qh rfl ?_ ?_)))))))
  ·
   intro hc26
   try simp only[zA,zO,zN,zI,zF,zM,zT,zU]at hc26
   obtain⟨y,hyi⟩:∃y,(wordsN b n)[k]? = some y:=⟨_,xI (by rw[hwl]; omega)⟩
   have hyb:=hwr y (xR hyi);have hyA:=h19.at hyi;obtain⟨X,hX⟩:∃X,decI y (4*(k:Int))=X:=⟨_,rfl⟩
   have hXi:instAt (wordsN b n) k=X:=by unfold instAt; rw[jV hyi,hX]
   have hlk:lnk (wordsN b n) k=linkedP X (b.length:Int):=by unfold lnk; rw[hXi,hwl,show(4*(n:Int))=(b.length:Int) by omega]
   have hul:=labU_len (wordsN b n) k;refine xM (xL (xJ (xU (QwR (qq Z (qb _) (qq Z (Qmi rfl) (qq Z (g_ixI ui uV h19 rfl rfl (by omega) (by omega)) (qq Z (qt QH hyA rfl rfl) (qq Z (Qmi rfl) (qq Z (g_mul rfl rfl (by omega) (by omega)) (qe (qi call85 rfl (decR_i y (4*(k:Int)) _ _ Z.imm hX hyb.1 hyb.2 (by omega) (by omega))) ?_)))))))))));rintro _ w_6⟨rfl,hE⟩;replace Z:=Z.callE hE;refine qe (qr (cs:=[.ig _,.ig _,.ig _,.ig _,.ig _]) Z Qr rfl) ?_;clear Z;rintro _ w_7⟨b8,rfl,Z⟩;refine qe (qf 0 Z uD rfl rfl rfl (vs:=[.ig _,.ig _,.ig _,.ig _,.ig _]) rfl rfl rfl (xH rfl) (cs':=[_,_,_,_,_]) rfl) ?_;clear Z;rintro _ w_8⟨rfl,Z⟩;refine QoR (qq Z (g_ldO 0 (vs:=[.ig _,.ig _,.ig _,.ig _,.ig _]) uD Ql rfl rfl rfl rfl) (qq Z (qb _) (qq Z (qo rfl xQ hl rfl) (qe (qi call88 rfl (linkR_c X (b.length:Int) _ _ Z.imm)) ?_))));rintro _ w_9⟨rfl,hE⟩;replace Z:=Z.callE hE;refine QoN (qh rfl ?_ ?_)
   ·
    intro hc39;have e:labU (wordsN b n) (k+1)=insI (labU (wordsN b n) k) X.n:=by show(if _ then _ else _)=_; rw[xS (by rw[hlk]; exact hc39),hXi]
    refine reg (qq Z (qa (o':=2) ub rfl uE rfl rfl rfl) (qq Z (qc 1 Qz rfl rfl rfl) (qq Z (qa (o':=4) ue rfl xK rfl rfl rfl) (qq Z (qc 0 xW rfl rfl rfl) (qe (qi call89 rfl (insertR_c a c (labU (wordsN b n) k) X.n _ _ Z.imm hlb (kZ _ _) (by omega))) ?_)))));rintro _ w_10⟨I_f,a44,c44,rfl,hE,h44⟩;replace Z:=Z.callE hE;replace hl:=hl.mono hE.ext;replace h19:=h19.mono hE.ext;replace hlb:=hlb.mono hE.ext;refine qq Z (qa (o':=2) ub rfl uE rfl rfl rfl) (qe (qf 1 Z uE rfl rfl rfl (vs:=[.sg _ _ _]) rfl rfl rfl (xH rfl) (cs':=[_,_,_]) rfl) ?_);clear Z;rintro _ w_11⟨rfl,Z⟩;refine qy (uM (xL (reg (qq Z (Qmi rfl) (qq Z (g_add rfl rfl (by omega) (by omega)) (qq Z (Qai rfl) ?_))))))
    first
     | (refine ⟨⟨k + 1, a, c⟩, _, rfl, ⟨⟨rfl, rfl, rfl, rfl, rfl, trivial⟩, _, ?_, by dsimp only; omega, hl, h19, by rw [e]; exact hlb⟩, by dsimp only; omega⟩
        dsimp only;rw[e];exact Z.sel [false,true,true])
     | (refine ⟨⟨k + 1, a44, c44⟩, _, rfl, ⟨⟨rfl, rfl, rfl, rfl, rfl, trivial⟩, _, ?_, by dsimp only; omega, hl, h19, by rw [e]; exact h44⟩, by dsimp only; omega⟩
        dsimp only;rw[e];exact Z.sel [false,true,true])
   ·
    intro hc39;have e:labU (wordsN b n) (k+1)=labU (wordsN b n) k:=by show(if _ then _ else _)=_; rw[xP (by rw[hlk,hc39]; decide)]
    refine xM (uM (xL (reg (qq Z (Qmi rfl) (qq Z (g_add rfl rfl (by omega) (by omega)) (qq Z (Qai rfl) ?_))))))
    first
     | (refine ⟨⟨k + 1, a, c⟩, _, rfl, ⟨⟨rfl, rfl, rfl, rfl, rfl, trivial⟩, _, ?_, by dsimp only; omega, hl, h19, by rw [e]; exact hlb⟩, by dsimp only; omega⟩
        dsimp only;rw[e];exact Z.sel [false,true,true])
     | (refine ⟨⟨k + 1, a44, c44⟩, _, rfl, ⟨⟨rfl, rfl, rfl, rfl, rfl, trivial⟩, _, ?_, by dsimp only; omega, hl, h19, by rw [e]; exact h44⟩, by dsimp only; omega⟩
        dsimp only;rw[e];exact Z.sel [false,true,true])
  ·
   intro hc26
   try simp only[zA,zO,zN,zI,zF,zM,zT,zU]at hc26
   have hkn:n=k:=by omega
   subst hkn;rw[hla]at Z hlb;refine ur (um (um (Qi (xL (xJ (xJ ?_))))));obtain⟨al,hal⟩:∃z,z=a:=⟨_,rfl⟩
   obtain⟨cl,hcl⟩:∃z,z=c:=⟨_,rfl⟩
   obtain⟨I1,hI1⟩:∃z,z=I:=⟨_,rfl⟩
   subst hal hcl hI1;refine reg (qq Z (Qai rfl) (QoN (xU (loop (fun(x:WdW) σ w=>okS σ [(0,.sg ad b.length cap),(2,.zg b2),(4,.sg a19 n c19),(6,.zg b6),(9,.ig x.k)]∧St [] w0 I0 I1 w [.row (.sg x.a x.k x.c) 4 1 x.k (flat boolC (mUp (wordsN b n) x.k)),.row (.sg x.ar x.k x.cr) 88 1 x.k (flat u32C (wUp (wordsN b n) x.k)),.cel b6 71 [.sg x.ar x.k x.cr,.sg x.a x.k x.c,.slice al (labelsP (wordsN b n)).length cl],.cel b2 71 [.sg none 0 0,.sg none 0 0,.sg none 0 0]]∧x.k≤n) (fun x=>n - x.k) (⟨0,none,0,none,0⟩) ?_ ?_))))
   ·
    exact⟨⟨rfl,rfl,rfl,rfl,rfl,trivial⟩,((Z.sel [true,true]).nilRow _ _).nilRow _ _,by dsimp only; omega⟩
   ·
    rintro⟨k,ar,cr,a,c⟩σ w_l⟨hs,Z,hk⟩;dsimp only at hs Z hk ⊢;rw[← qj hs]; clear hs
    refine xJ (QwR (qq Z (Qmi rfl) (qq Z (qb _) (qq Z (qo rfl ui h19 rfl) (qq Z (g_lss rfl rfl) (QoN (qh rfl ?_ ?_)))))))
    ·
     intro hc49
     try simp only[zA,zO,zN,zI,zF,zM,zT,zU]at hc49
     obtain⟨y,hyi⟩:∃y,(wordsN b n)[k]? = some y:=⟨_,xI (by rw[hwl]; omega)⟩
     have hyb:=hwr y (xR hyi);have hyA:=h19.at hyi;obtain⟨X,hX⟩:∃X,decI y (4*(k:Int))=X:=⟨_,rfl⟩
     have hXi:instAt (wordsN b n) k=X:=by unfold instAt; rw[jV hyi,hX]
     have hlk:lnk (wordsN b n) k=linkedP X (b.length:Int):=by unfold lnk; rw[hXi,hwl,show(4*(n:Int))=(b.length:Int) by omega]
     refine xM (xL (xJ (xU (meet (fun σ w=>∃b10,okS σ [(0,.sg ad b.length cap),(2,.zg b2),(4,.sg a19 n c19),(6,.zg b6),(9,.ig k),(10,.zg b10),(11,.wg y)]∧St [] w0 I0 I1 w [.cel b10 92 (instC X),.row (.sg a k c) 4 1 k (flat boolC (mUp (wordsN b n) k)),.row (.sg ar k cr) 88 1 k (flat u32C (wUp (wordsN b n) k)),.cel b6 71 [.sg ar k cr,.sg a k c,.slice al (labelsP (wordsN b n)).length cl],.cel b2 71 [.sg none 0 0,.sg none 0 0,.sg none 0 0]]) ?_ ?_))))
     ·
      refine drawS [true,true,true,true] (.pg 0 (.pg 1 (.pg 2 (.hg 3 (.pg 4 (.pg 5 (.pg 7 (.pg 8 (.pg 9 (.hg 10 (.fork 6 (.cons 11 .eff (.cons 12 .eff (.pg 13 .nil))) 11 (.cons 6 .eff (.cons 12 .eff (.pg 13 .nil)))))))))))))) mixed (by kernel_rfl) Z ?_;intro w_12 Z;refine sp rfl (qb _) (sp rfl (Qmi rfl) (sp rfl (g_ixI ui uV h19 rfl rfl (by omega) (by omega)) (sh rfl (qt QH hyA rfl rfl) (sp rfl (Qmi rfl) (sp rfl (g_mul rfl rfl (by omega) (by omega)) (sp rfl (qb _) (sp rfl (Qmi rfl) (sp rfl (g_ixI ui uV h19 rfl rfl (by omega) (by omega)) (sh rfl (qt QH hyA rfl rfl) ?_)))))))));refine sk ?_ ?_
      ·
       have hS0:=Z;refine se rfl (qi call85 rfl (decR_i y (4*(k:Int)) _ _ Z.imm hX hyb.1 hyb.2 (by omega) (by omega))) ?_;rintro _ w_13⟨rfl,hE⟩;replace Z:=Z.call hE;refine⟨_,_,(hS0.sel [true,true,true,true]).le hE.ext (uu _),Z.sel [true,true,true,true],?_⟩;have hS0:=Z;refine se rfl (qr (cs:=[.ig _,.ig _,.ig _,.ig _,.ig _]) Z Qr rfl) ?_;rintro _ w_14⟨b10,rfl,Z⟩;refine⟨_,_,fun _ h=>h,Z.sel [false,true,true,true,true],?_⟩;have hS0:=Z;refine se rfl (qf 0 Z uD rfl rfl rfl (vs:=[.ig _,.ig _,.ig _,.ig _,.ig _]) rfl rfl rfl (xH rfl) (cs':=[_,_,_,_,_]) rfl) ?_;rintro _ w_15⟨rfl,Z⟩;refine⟨_,_,fun _ h=>h,Z.sel [false,true,true,true,true],sp rfl (Qaw rfl) (sn (xL ?_))⟩;exact⟨_,rfl,b10,⟨rfl,rfl,rfl,rfl,rfl,rfl,rfl,trivial⟩,Z⟩
      ·
       have hS0:=Z;refine se rfl (qr (cs:=[.ig _,.ig _,.ig _,.ig _,.ig _]) Z Qr rfl) ?_;rintro _ w_16⟨b10,rfl,Z⟩;refine⟨_,_,fun _ h=>h,Z.sel [false,true,true,true,true],?_⟩;have hS0:=Z;refine se rfl (qi call85 rfl (decR_i y (4*(k:Int)) _ _ Z.imm hX hyb.1 hyb.2 (by omega) (by omega))) ?_;rintro _ w_17⟨rfl,hE⟩;replace Z:=Z.call hE;refine⟨_,_,(hS0.sel [false,true,true,true,true]).le hE.ext (uu _),Z.sel [false,true,true,true,true],?_⟩;have hS0:=Z;refine se rfl (qf 0 Z uD rfl rfl rfl (vs:=[.ig _,.ig _,.ig _,.ig _,.ig _]) rfl rfl rfl (xH rfl) (cs':=[_,_,_,_,_]) rfl) ?_;rintro _ w_18⟨rfl,Z⟩;refine⟨_,_,fun _ h=>h,Z.sel [false,true,true,true,true],sp rfl (Qaw rfl) (sn (xL ?_))⟩;exact⟨_,rfl,b10,⟨rfl,rfl,rfl,rfl,rfl,rfl,rfl,trivial⟩,Z⟩
     ·
      rintro σ w_j⟨b10,hs,Z⟩;rw[← qj hs];refine QwR (qq Z (g_ldO 0 (vs:=[.ig _,.ig _,.ig _,.ig _,.ig _]) uD Ql rfl rfl rfl rfl) (qq Z (qb _) (qq Z (qo rfl xQ hl rfl) (qe (qi call88 rfl (linkR_c X (b.length:Int) _ _ Z.imm)) ?_))));rintro _ w_19⟨rfl,hE⟩;replace Z:=Z.callE hE;refine qq Z (Qab rfl) (QoN (meet (fun σ w=>okS σ [(0,.sg ad b.length cap),(2,.zg b2),(4,.sg a19 n c19),(6,.zg b6),(9,.ig k),(11,.wg (wR (wordsN b n) k)),(12,.bool (lnk (wordsN b n) k))]∧St [] w0 I0 I1 w [.row (.sg a k c) 4 1 k (flat boolC (mUp (wordsN b n) k)),.row (.sg ar k cr) 88 1 k (flat u32C (wUp (wordsN b n) k)),.cel b6 71 [.sg ar k cr,.sg a k c,.slice al (labelsP (wordsN b n)).length cl],.cel b2 71 [.sg none 0 0,.sg none 0 0,.sg none 0 0]]) ?_ ?_))
      ·
       refine QwR (qq Z (Qmb rfl) (QoN (qh rfl ?_ ?_)))
       ·
        intro hc67;have hlk2:lnk (wordsN b n) k=true:=by rw[hlk]; exact hc67
        have hmem:X.n∈(labelsP (wordsN b n)):=by rw[← hla]; exact vu.2 ⟨k,by omega,hlk2,by rw[hXi]⟩
        have hidx:=idxM_mem hmem;have hil:=idxP_lt hmem;have hop:=(lnk_n hlk2).1;rw[hXi]at hop;have e:wR (wordsN b n) k=numP y X.op (idxM (labelsP (wordsN b n)) X.n):=by unfold wR; rw[xS hlk2]; unfold numAt; rw[jV hyi,hXi,hidx]
        refine draw (.pg 0 (.pg 1 (.hg 2 (.pg 3 (.hg 4 (.pg 5 (.hg 6 (.cons 7 .eff (.cons 8 .eff (.pg 9 .nil)))))))))) mixed (by kernel_rfl) Z ?_;intro w_20 Z;refine sp rfl (Qmw rfl) (sp rfl (qa (o':=0) ue rfl xK rfl rfl rfl) (sh rfl (qc 0 xW rfl rfl rfl) (sp rfl (qa (o':=2) ub rfl uE rfl rfl rfl) (sh rfl (qc 3 Qz rfl rfl rfl) (sp rfl (qa (o':=4) ue rfl xK rfl rfl rfl) (sh rfl (qc 0 xW rfl rfl rfl) ?_))))));have hS0:=Z;refine se rfl (qi call91 rfl (idxR_c al cl (labelsP (wordsN b n)) X.n _ _ Z.imm hlb)) ?_;rintro _ w_21⟨rfl,hE⟩;replace Z:=Z.call hE;refine⟨_,_,hS0.le hE.ext (uu _),Z,?_⟩;have hS0:=Z;refine se rfl (qi call90 rfl (numR_c y X.op (idxM (labelsP (wordsN b n)) X.n) _ _ Z.imm hyb.1 hyb.2 hop (by omega) (by omega))) ?_;rintro _ w_22⟨rfl,hE⟩;replace Z:=Z.call hE;refine⟨_,_,hS0.le hE.ext (uu _),Z,sp rfl (Qaw rfl) (sn (xL ?_))⟩;exact⟨_,rfl,⟨rfl,rfl,rfl,rfl,rfl,congrArg (Value.int .u32) e.symm,congrArg Value.bool hlk.symm,trivial⟩,Z.sel [false,true,true,true,true]⟩
       ·
        intro hc67;have hlk2:lnk (wordsN b n) k=false:=by rw[hlk]; exact hc67
        have e:wR (wordsN b n) k=y:=by unfold wR; rw[xP (by rw[hlk2]; decide),jV hyi]
        refine xM (xL ?_);exact⟨_,rfl,⟨rfl,rfl,rfl,rfl,rfl,congrArg (Value.int .u32) e.symm,congrArg Value.bool hlk.symm,trivial⟩,Z.sel [false,true,true,true,true]⟩
      ·
       rintro σ w_k⟨hs,Z⟩;rw[← qj hs];refine QwR (qq Z (qa (o':=0) ub rfl uT rfl rfl rfl) (qq Z (qc 2 Qy rfl rfl rfl) (qq Z (Qmw rfl) ?_)));refine qe (d_lit (vs:=[.wg _]) (cs:=[.wg _]) Z ui uV JA rfl rfl rfl rfl (fun v hv=>by simp only[xV,xY,or_false]at hv; subst hv; rfl) rfl) ?_;clear Z;rintro _ w_23⟨b80,rfl,Z⟩;refine qe (qB 2 0 Z rfl ui Jr rfl rfl rfl rfl rfl rfl rfl rfl (by omega) (by omega)) ?_;clear Z;rintro _ w_24⟨a81,p81,rfl,Z⟩;refine qq Z (qa (o':=0) ub rfl uT rfl rfl rfl) (qe (qf 3 Z uT rfl rfl rfl (vs:=[.sg _ _ _]) rfl rfl rfl (xH rfl) (cs':=[_,_,_]) rfl) ?_);clear Z;rintro _ w_25⟨rfl,Z⟩;refine QoN (reg (qq Z (qa (o':=1) ub rfl Qf rfl rfl rfl) (qq Z (qc 3 QN rfl rfl rfl) (qq Z (Qmb rfl) ?_))));refine qe (d_lit (vs:=[.bool _]) (cs:=[.bool _]) Z uR uy JN rfl rfl rfl rfl (fun v hv=>by simp only[xV,xY,or_false]at hv; subst hv; rfl) rfl) ?_;clear Z;rintro _ w_26⟨b86,rfl,Z⟩;refine qe (qB 2 0 Z rfl uR Kb rfl rfl rfl rfl rfl rfl rfl rfl (by omega) (by omega)) ?_;clear Z;rintro _ w_27⟨a87,p87,rfl,Z⟩;refine qq Z (qa (o':=1) ub rfl Qf rfl rfl rfl) (qe (qf 4 Z Qf rfl rfl rfl (vs:=[.sg _ _ _]) rfl rfl rfl (xH rfl) (cs':=[_,_,_]) rfl) ?_);clear Z;rintro _ w_28⟨rfl,Z⟩;refine qy (uM (xL (reg (qq Z (Qmi rfl) (qq Z (g_add rfl rfl (by omega) (by omega)) (qq Z (Qai rfl) ?_))))));refine⟨⟨k+1,a81,p81,a87,p87⟩,_,rfl,⟨⟨rfl,rfl,rfl,rfl,rfl,trivial⟩,?_,by dsimp only; omega⟩,by dsimp only; omega⟩;dsimp only;rw[wUp_succ,mUp_succ,ql,ql,qS,qS];exact Z.sel [false,false,true,true,true,true]
    ·
     intro hc49
     try simp only[zA,zO,zN,zI,zF,zM,zT,zU]at hc49
     have hkn:n=k:=by omega
     subst hkn;refine ur (um (um (Qi (xL (QwR (qq Z (g_ldO 2 (vs:=[.sg _ _ _,.sg _ _ _,.sg _ _ _]) uU QI rfl rfl rfl rfl) (qe (qf 3 Z uU rfl rfl rfl (vs:=[.sg _ _ _,.sg _ _ _,.sg _ _ _]) rfl rfl rfl (xH rfl) (cs':=[_,_,_]) rfl) ?_)))))));clear Z;rintro _ w_29⟨rfl,Z⟩;refine qq Z (Qai rfl) (QoN (xO (ret2 results41 (qw 3 Z uU QI rfl rfl rfl) (qg (v:=.ig _) rfl) ?_)));obtain⟨I2,hS2,hI2,hd2⟩:=St.freezeRow qW (xs:=wUp (wordsN b n) n) (Z.ord [1,0]) (wUp_len _ _).symm;obtain⟨I3,hS3,hI3,hd3⟩:=St.freezeRow jk (xs:=mUp (wordsN b n) n) hS2 (mUp_len _ _).symm;rw[hwa]at hd2;rw[hma]at hd3;exact⟨I3,ar,cr,a,c,al,cl,rfl,hS3.nil,hd2.mono hI3,hd3,(hlb.mono hI2).mono hI3⟩
set_option maxHeartbeats 1000000 in
theorem lfeqR_c (x y : LiftL) (a0 a1 a2 a0y a1y a2y : Option Addr) (c0 c1 c2 c0y c1y c2y : Nat) (w0 : World) (I0 : Imm) (hI : Sat I0 w0) (hx : RLf I0 a0 c0 a1 c1 a2 c2 x) (hy : RLf I0 a0y c0y a1y c1y a2y c2y y) :
 Ctr prog 93 [.agg #[.sg a0 x.words.length c0,.sg a1 x.marks.length c1,.sg a2 x.labels.length c2],.agg #[.sg a0y y.words.length c0y,.sg a1y y.marks.length c1y,.sg a2y y.labels.length c2y]] w0 (fun v w'=>v = .bool (liftEq x y)∧Ext w0 I0 w' I0):=by
 have hl0:=RSl.le hx.w;have hl1:=RSl.le hx.m;have hl2:=RSl.le hx.l;simp only[maxLen]at hl0 hl1 hl2;refine fn (n:=87) func93 rfl rfl rfl ?_;have Z:=St.start hI;refine QwR (qe (d_box (cs:=[.sg _ _ _,.sg _ _ _,.sg _ _ _]) Z rfl) ?_);clear Z;rintro _ w_1⟨b2,rfl,Z⟩;refine qe (d_box (cs:=[.sg _ _ _,.sg _ _ _,.sg _ _ _]) Z rfl) ?_;clear Z;rintro _ w_2⟨b3,rfl,Z⟩;refine qq Z (Qab rfl) (QoN (xJ (QwR (qq Z (qa (o':=0) ub rfl uT rfl rfl rfl) (qq Z (qc 1 Qy rfl rfl rfl) (qq Z (qo rfl ui hx.w rfl) (qq Z (qa (o':=0) ub rfl uT rfl rfl rfl) (qq Z (qc 0 Qy rfl rfl rfl) (qq Z (qo rfl ui hy.w rfl) (qq Z (g_neq rfl rfl) (qq Z (Qmb rfl) (qu rfl rfl Z (fun hg=>(qa (o':=1) ub rfl Qf rfl rfl rfl)) ?_))))))))))));intro u16 hu16 hn16;refine qu rfl rfl Z (fun hg=>(qc 1 QN rfl (hu16 hg) rfl)) ?_;intro u17 hu17 hn17;refine qu rfl rfl Z (fun hg=>(qo rfl uR hx.m (hu17 hg))) ?_;intro u18 hu18 hn18;refine qu rfl rfl Z (fun hg=>(qa (o':=1) ub rfl Qf rfl rfl rfl)) ?_;intro u19 hu19 hn19;refine qu rfl rfl Z (fun hg=>(qc 0 QN rfl (hu19 hg) rfl)) ?_;intro u20 hu20 hn20;refine qu rfl rfl Z (fun hg=>(qo rfl uR hy.m (hu20 hg))) ?_;intro u21 hu21 hn21;refine qu rfl rfl Z (fun hg=>(g_neq (hu18 hg) (hu21 hg))) ?_;intro u22 hu22 hn22;refine qq Z (g_or rfl rfl (fun hq=>hu22 hq)) (qq Z (Qmb rfl) (qu rfl rfl Z (fun hg=>(qa (o':=2) ub rfl uE rfl rfl rfl)) ?_));intro u25 hu25 hn25;refine qu rfl rfl Z (fun hg=>(qc 1 Qz rfl (hu25 hg) rfl)) ?_;intro u26 hu26 hn26;refine qu rfl rfl Z (fun hg=>(qo rfl uf hx.l (hu26 hg))) ?_;intro u27 hu27 hn27
 refine qu rfl rfl Z (fun hg=>(qa (o':=2) ub rfl uE rfl rfl rfl)) ?_;intro u28 hu28 hn28;refine qu rfl rfl Z (fun hg=>(qc 0 Qz rfl (hu28 hg) rfl)) ?_;intro u29 hu29 hn29;refine qu rfl rfl Z (fun hg=>(qo rfl uf hy.l (hu29 hg))) ?_;intro u30 hu30 hn30;refine qu rfl rfl Z (fun hg=>(g_neq (hu27 hg) (hu30 hg))) ?_;intro u31 hu31 hn31;refine qq Z (g_or rfl rfl (fun hq=>hu31 hq)) (QoN (qh rfl ?_ ?_))
 ·
  intro hc32;clear hu16 hn16 hu17 hn17 hu18 hn18 hu19 hn19 hu20 hn20 hu21 hn21 hu22 hn22 hu25 hn25 hu26 hn26 hu27 hn27 hu28 hn28 hu29 hn29 hu30 hn30 hu31 hn31
  try simp only[zA,zO,zN,zI,zF,zM,zT,zU]at hc32
  have hq:liftEq x y=false:=yC (by
   by_cases h1:x.words.length=y.words.length
   · by_cases h2 : x.marks.length = y.marks.length
     · exact .inr (.inr (len_ne (by omega)))
     · exact .inr (.inl (len_ne h2))
   · exact .inl (len_ne h1))
  refine QwR (qq Z (Qab rfl) (QoN (xO (ul (ret1 Kk (qg (v:=.bool _) rfl) ?_)))));exact⟨by rw[hq],Z.nil⟩
 ·
  intro hc32;clear hu16 hn16 hu17 hn17 hu18 hn18 hu19 hn19 hu20 hn20 hu21 hn21 hu22 hn22 hu25 hn25 hu26 hn26 hu27 hn27 hu28 hn28 hu29 hn29 hu30 hn30 hu31 hn31
  try simp only[zA,zO,zN,zI,zF,zM,zT,zU]at hc32
  have hw1:x.words.length=y.words.length:=by omega
  have hw2:x.marks.length=y.marks.length:=by omega
  have hw3:x.labels.length=y.labels.length:=by omega
  refine xM (xL (xJ (QwR (qq Z (Qai rfl) (QoN (xU (loop (fun(k:Nat) σ w=>okS σ [(2,.zg b2),(3,.zg b3),(5,.ig k)]∧St [] w0 I0 I0 w [.cel b3 71 [.sg a0y y.words.length c0y,.sg a1y y.marks.length c1y,.sg a2y y.labels.length c2y],.cel b2 71 [.sg a0 x.words.length c0,.sg a1 x.marks.length c1,.sg a2 x.labels.length c2]]∧k≤x.words.length∧∀i,i < k→x.words[i]? = y.words[i]?) (fun k=>x.words.length - k) (0) ?_ ?_)))))))
  ·
   exact⟨⟨rfl,rfl,rfl,trivial⟩,Z.sel [true,true],by omega,fun i hi=>by omega⟩
  ·
   rintro k σ w_l⟨hs,Z,hk,hsame⟩;rw[← qj hs]; clear hs
   refine xJ (QwR (qq Z (Qmi rfl) (qq Z (qa (o':=0) ub rfl uT rfl rfl rfl) (qq Z (qc 1 Qy rfl rfl rfl) (qq Z (qo rfl ui hx.w rfl) (qq Z (g_lss rfl rfl) (QoN (qh rfl ?_ ?_))))))))
   ·
    intro hc37
    try simp only[zA,zO,zN,zI,zF,zM,zT,zU]at hc37
    obtain⟨u,hui⟩:∃u,x.words[k]? = some u:=⟨_,xI (by omega)⟩
    obtain⟨v,hvi⟩:∃v,y.words[k]? = some v:=⟨_,xI (by omega)⟩
    have huA:=hx.w.at hui;have hvA:=hy.w.at hvi;refine xM (xL (xJ (xU (xJ (draw (.pg 0 (.hg 1 (.pg 2 (.pg 3 (.hg 4 (.pg 5 (.hg 6 (.pg 7 (.pg 8 (.hg 9 (.pg 10 .nil))))))))))) mixed (by kernel_rfl) Z ?_)))));intro w_3 Z;refine sp rfl (qa (o':=0) ub rfl uT rfl rfl rfl) (sh rfl (qc 1 Qy rfl rfl rfl) (sp rfl (Qmi rfl) (sp rfl (g_ixI ui uV hx.w rfl rfl (by omega) (by omega)) (sh rfl (qt QH huA rfl rfl) (sp rfl (qa (o':=0) ub rfl uT rfl rfl rfl) (sh rfl (qc 0 Qy rfl rfl rfl) (sp rfl (Qmi rfl) (sp rfl (g_ixI ui uV hy.w rfl rfl (by omega) (by omega)) ?_))))))));refine sh rfl (qt QH hvA rfl rfl) (sp rfl (g_neq rfl rfl) (sn (xL (qh rfl ?_ ?_))))
    ·
     intro hc50;simp only[uS,xZ,Qc,ua]at hc50;have hq:liftEq x y=false:=yC (.inl (ext_not hui hvi hc50));refine QwR (qq Z (Qab rfl) (QoN (xO (Qq (ul (ul (Qq (ul (ret1 Kk (qg (v:=.bool _) rfl) ?_)))))))));exact⟨by rw[hq],Z.nil⟩
    ·
     intro hc50;simp only[uS,xZ,Qc,ua]at hc50;have hst:=ext_step hsame hui hvi hc50;refine xM (uM (xL (reg (qq Z (Qmi rfl) (qq Z (g_add rfl rfl (by omega) (by omega)) (qq Z (Qai rfl) ?_))))));exact⟨k+1,_,rfl,⟨⟨rfl,rfl,rfl,trivial⟩,Z.sel [true,true],by omega,hst⟩,by omega⟩
   ·
    intro hc37
    try simp only[zA,zO,zN,zI,zF,zM,zT,zU]at hc37
    have e0:x.words=y.words:=ext_all hw1 (fun i hi=>hsame i (by omega));refine ur (um (um (Qi (xL (xJ (QwR (qq Z (Qai rfl) (QoN (xU (loop (fun(k:Nat) σ w=>okS σ [(2,.zg b2),(3,.zg b3),(6,.ig k)]∧St [] w0 I0 I0 w [.cel b3 71 [.sg a0y y.words.length c0y,.sg a1y y.marks.length c1y,.sg a2y y.labels.length c2y],.cel b2 71 [.sg a0 x.words.length c0,.sg a1 x.marks.length c1,.sg a2 x.labels.length c2]]∧k≤x.marks.length∧∀i,i < k→x.marks[i]? = y.marks[i]?) (fun k=>x.marks.length - k) (0) ?_ ?_))))))))))
    ·
     exact⟨⟨rfl,rfl,rfl,trivial⟩,Z.sel [true,true],by omega,fun i hi=>by omega⟩
    ·
     rintro k σ w_l⟨hs,Z,hk,hsame⟩;rw[← qj hs]; clear hs
     refine xJ (QwR (qq Z (Qmi rfl) (qq Z (qa (o':=1) ub rfl Qf rfl rfl rfl) (qq Z (qc 1 QN rfl rfl rfl) (qq Z (qo rfl uR hx.m rfl) (qq Z (g_lss rfl rfl) (QoN (qh rfl ?_ ?_))))))))
     ·
      intro hc55
      try simp only[zA,zO,zN,zI,zF,zM,zT,zU]at hc55
      obtain⟨u,hui⟩:∃u,x.marks[k]? = some u:=⟨_,xI (by omega)⟩
      obtain⟨v,hvi⟩:∃v,y.marks[k]? = some v:=⟨_,xI (by omega)⟩
      have huA:=hx.m.at hui;have hvA:=hy.m.at hvi;refine xM (xL (xJ (xU (xJ (draw (.pg 0 (.hg 1 (.pg 2 (.pg 3 (.hg 4 (.pg 5 (.hg 6 (.pg 7 (.pg 8 (.hg 9 (.pg 10 .nil))))))))))) mixed (by kernel_rfl) Z ?_)))));intro w_4 Z;refine sp rfl (qa (o':=1) ub rfl Qf rfl rfl rfl) (sh rfl (qc 1 QN rfl rfl rfl) (sp rfl (Qmi rfl) (sp rfl (g_ixI uR uy hx.m rfl rfl (by omega) (by omega)) (sh rfl (qt QA huA rfl rfl) (sp rfl (qa (o':=1) ub rfl Qf rfl rfl rfl) (sh rfl (qc 0 QN rfl rfl rfl) (sp rfl (Qmi rfl) (sp rfl (g_ixI uR uy hy.m rfl rfl (by omega) (by omega)) ?_))))))));refine sh rfl (qt QA hvA rfl rfl) (sp rfl (g_neqb JQ rfl rfl) (sn (xL (qh rfl ?_ ?_))))
      ·
       intro hc68;have hq:liftEq x y=false:=yC (.inr (.inl (ext_not hui hvi (fun h=>by subst h; simp at hc68))));refine QwR (qq Z (Qab rfl) (QoN (xO (Qq (ul (ul (Qq (ul (ret1 Kk (qg (v:=.bool _) rfl) ?_)))))))));exact⟨by rw[hq],Z.nil⟩
      ·
       intro hc68;have hst:=ext_step hsame hui hvi (by simpa using hc68);refine xM (uM (xL (reg (qq Z (Qmi rfl) (qq Z (g_add rfl rfl (by omega) (by omega)) (qq Z (Qai rfl) ?_))))));exact⟨k+1,_,rfl,⟨⟨rfl,rfl,rfl,trivial⟩,Z.sel [true,true],by omega,hst⟩,by omega⟩
     ·
      intro hc55
      try simp only[zA,zO,zN,zI,zF,zM,zT,zU]at hc55
      have e1:x.marks=y.marks:=ext_all hw2 (fun i hi=>hsame i (by omega));refine ur (um (um (Qi (xL (xJ (QwR (qq Z (Qai rfl) (QoN (xU (loop (fun(k:Nat) σ w=>okS σ [(2,.zg b2),(3,.zg b3),(7,.ig k)]∧St [] w0 I0 I0 w [.cel b3 71 [.sg a0y y.words.length c0y,.sg a1y y.marks.length c1y,.sg a2y y.labels.length c2y],.cel b2 71 [.sg a0 x.words.length c0,.sg a1 x.marks.length c1,.sg a2 x.labels.length c2]]∧k≤x.labels.length∧∀i,i < k→x.labels[i]? = y.labels[i]?) (fun k=>x.labels.length - k) (0) ?_ ?_))))))))))
      ·
       exact⟨⟨rfl,rfl,rfl,trivial⟩,Z.sel [true,true],by omega,fun i hi=>by omega⟩
      ·
       rintro k σ w_l⟨hs,Z,hk,hsame⟩;rw[← qj hs]; clear hs
       refine xJ (QwR (qq Z (Qmi rfl) (qq Z (qa (o':=2) ub rfl uE rfl rfl rfl) (qq Z (qc 1 Qz rfl rfl rfl) (qq Z (qo rfl uf hx.l rfl) (qq Z (g_lss rfl rfl) (QoN (qh rfl ?_ ?_))))))))
       ·
        intro hc73
        try simp only[zA,zO,zN,zI,zF,zM,zT,zU]at hc73
        obtain⟨u,hui⟩:∃u,x.labels[k]? = some u:=⟨_,xI (by omega)⟩
        obtain⟨v,hvi⟩:∃v,y.labels[k]? = some v:=⟨_,xI (by omega)⟩
        have huA:=hx.l.at hui;have hvA:=hy.l.at hvi;refine xM (xL (xJ (xU (xJ (draw (.pg 0 (.hg 1 (.pg 2 (.pg 3 (.hg 4 (.pg 5 (.hg 6 (.pg 7 (.pg 8 (.hg 9 (.pg 10 .nil))))))))))) mixed (by kernel_rfl) Z ?_)))));intro w_5 Z;refine sp rfl (qa (o':=2) ub rfl uE rfl rfl rfl) (sh rfl (qc 1 Qz rfl rfl rfl) (sp rfl (Qmi rfl) (sp rfl (g_ixI uf xK hx.l rfl rfl (by omega) (by omega)) (sh rfl (qt xW huA rfl rfl) (sp rfl (qa (o':=2) ub rfl uE rfl rfl rfl) (sh rfl (qc 0 Qz rfl rfl rfl) (sp rfl (Qmi rfl) (sp rfl (g_ixI uf xK hy.l rfl rfl (by omega) (by omega)) ?_))))))));refine sh rfl (qt xW hvA rfl rfl) (sp rfl (g_neq rfl rfl) (sn (xL (qh rfl ?_ ?_))))
        ·
         intro hc86;simp only[uS,xZ,Qc,ua]at hc86;have hq:liftEq x y=false:=yC (.inr (.inr (ext_not hui hvi hc86)));refine QwR (qq Z (Qab rfl) (QoN (xO (Qq (ul (ul (Qq (ul (ret1 Kk (qg (v:=.bool _) rfl) ?_)))))))));exact⟨by rw[hq],Z.nil⟩
        ·
         intro hc86;simp only[uS,xZ,Qc,ua]at hc86;have hst:=ext_step hsame hui hvi hc86;refine xM (uM (xL (reg (qq Z (Qmi rfl) (qq Z (g_add rfl rfl (by omega) (by omega)) (qq Z (Qai rfl) ?_))))));exact⟨k+1,_,rfl,⟨⟨rfl,rfl,rfl,trivial⟩,Z.sel [true,true],by omega,hst⟩,by omega⟩
       ·
        intro hc73
        try simp only[zA,zO,zN,zI,zF,zM,zT,zU]at hc73
        have e2:x.labels=y.labels:=ext_all hw3 (fun i hi=>hsame i (by omega));have hq:=liftEq_yes e0 e1 e2;refine ur (um (um (Qi (xL (QwR (qq Z (Qab rfl) (QoN (xO (ret1 Kk (qg (v:=.bool _) rfl) ?_)))))))));exact⟨by rw[hq],Z.nil⟩
end Go.Proofs.YtgkgihnpjgbmhaaGreatDoor
namespace Go.Proofs.YtgkgihnpjgbmhaaGreatDoor
open Tryz
open Go Go.RowKit Go.Inl
theorem liftR_e (ad : Option Addr) (cap : Nat) (ws : List Int) (w0 : World) (I0 : Imm) (hI : Sat I0 w0) (hl : RBytes I0 (.slice ad (bytesP ws).length cap) (bytesP ws)) (hw : Wrds ws) (hn1 : ws.length ≤ 16384) :
 Ctr prog 41 [.slice ad (bytesP ws).length cap] w0 (fun v w'=>∃I' a0 c0 a1 c1 a2 c2,v = .tuple #[.agg #[.slice a0 (liftP ws).words.length c0,.slice a1 (liftP ws).marks.length c1,.slice a2 (liftP ws).labels.length c2],.ig 0]∧Ext w0 I0 w' I'∧RLf I' a0 c0 a1 c1 a2 c2 (liftP ws)):=by
 refine(liftR_c ad cap ws.length (bytesP ws) w0 I0 hI hl (jD ws) (qD ws) hn1).mono ?_;rintro v w' ⟨I',a0,c0,a1,c1,a2,c2,hv,hE,h1,h2,h3⟩;rw[kF hw]at hv h1 h2 h3;have e1:(liftP ws).words.length=ws.length:=jj _ _ _;have e2:(liftP ws).marks.length=ws.length:=jp _ _;have e3:(liftP ws).labels.length=(labelsP ws).length:=rfl;refine⟨I',a0,c0,a1,c1,a2,c2,?_,hE,?_,?_,?_⟩
 · rw[e1,e2,e3]; exact hv
 · rw[e1]; exact h1
 · rw[e2]; exact h2
 · rw[e3]; exact h3
set_option maxHeartbeats 1000000 in
theorem unnumR_c (x : LiftL) (i : Nat) (wd : Int) (ad : Option Addr) (cap : Nat) (w0 : World) (I0 : Imm) (hI : Sat I0 w0) (hl : RFl I0 1 intC (.sg ad x.labels.length cap) x.labels) (hlb : Labs x.labels) (hw0 : 0 ≤ wd) (hw1 : wd < 4294967296) (hi : i ≤ 65536) :
 Ctr prog 92 [.wg wd,.ig (4*(i:Int)),.sg ad x.labels.length cap] w0 (fun v w'=>v = .tuple #[.wg ((unnum x i wd).getD 0),.bool (unnum x i wd).isSome]∧Ext w0 I0 w' I0):=by
 have hle:=RSl.le hl;simp only[maxLen]at hle;have hib:=idxOf_b wd;have hop:0≤opOf wd∧opOf wd≤255:=by unfold opOf; omega
 refine fn (n:=61) func92 rfl rfl rfl ?_;have Z:=St.start hI;refine QwR (qq Z (Qaw rfl) (qq Z (Qab rfl) (QoR (qq Z (Qmw rfl) (qq Z (jM (s:=24) (c:=opOf wd) rfl rfl rfl rfl rfl) (qq Z (qK uv ut rfl (by omega) (by omega)) (qq Z (Qmw rfl) (qq Z (jM (s:=16) (c:=wd / 65536) rfl rfl rfl rfl rfl) ?_))))))));refine qq Z (jh (m:=8) (c:=wd / 65536 % 256) rfl rfl rfl rfl (by rw[IntKind.wrap_u32]; omega)) ?_;refine qq Z (qK uv ut rfl (by omega) (by omega)) (qq Z (Qmw rfl) ?_);refine qq Z (jh (m:=24) (c:=wd % 16777216) rfl rfl rfl rfl (by rw[IntKind.wrap_u32]; omega)) ?_;refine qq Z (qK uv ut rfl (by omega) (by omega)) (qq Z (Qai rfl) (qq Z (Qai rfl) (qq Z (Qai rfl) (QoN (xJ (QwR (qq Z (Qmi rfl) (qq Z (g_lss rfl rfl) (qq Z (Qmb rfl) (qu rfl rfl Z (fun hg=>(Qmi rfl)) ?_))))))))));intro u27 hu27 hn27;refine qu rfl rfl Z (fun hg=>(g_gtr (hu27 hg) rfl)) ?_;intro u28 hu28 hn28;refine qq Z (g_or rfl rfl (fun hq=>hu28 hq)) (QoN (qh rfl ?_ ?_))
 ·
  intro hc29;clear hu27 hn27 hu28 hn28
  try simp only[zA,zO,zN,zI,zF,zM,zT,zU]at hc29
  have hu:unnum x i wd=none:=vF (badN_t (by omega));refine QwR (qq Z (Qaw rfl) (qq Z (Qab rfl) (QoN (xO (ul (ret2 results92 (qg (v:=.wg _) rfl) (qg (v:=.bool _) rfl) ?_))))));exact⟨by rw[hu] <;> rfl,Z.nil⟩
 ·
  intro hc29;clear hu27 hn27 hu28 hn28
  try simp only[zA,zO,zN,zI,zF,zM,zT,zU]at hc29
  refine xM (xL (QwR (qq Z (Qmi rfl) (qq Z (qs (pl:=[(0,1),(1,1),(2,1),(3,1),(4,1)]) (cs:=[.ig _,.ig _,.ig _,.ig _,.ig _]) Qr ue (fun w=>by simp[xK]) (mp (v:=.ig _) rfl mp0) rfl) (qe (qr (cs:=[.ig _,.ig _,.ig _,.ig _,.ig _]) Z Qr rfl) ?_)))));clear Z;rintro _ w_1⟨b11,rfl,Z⟩;refine qe (qf 0 Z uD rfl rfl rfl (vs:=[.ig _,.ig _,.ig _,.ig _,.ig _]) rfl rfl rfl (xH rfl) (cs':=[_,_,_,_,_]) rfl) ?_;clear Z;rintro _ w_2⟨rfl,Z⟩;refine QoN (meet (fun σ w=>∃A J:Int,okS σ [(0,.wg wd),(1,.ig (4*(i:Int))),(2,.sg ad x.labels.length cap),(10,.ig J),(11,.zg b11)]∧St [] w0 I0 I0 w [.cel b11 92 [.ig (opOf wd),.ig A,.ig 0,.ig 0,.ig 0]]∧A=(if 7≤opOf wd then wd / 65536 % 256 else 0)∧J=idxOf wd) ?_ ?_)
  ·
   refine QwR (qq Z (Qmi rfl) (qq Z (g_eql rfl rfl) (qq Z (Qmb rfl) (qu rfl rfl Z (fun hg=>(Qmi rfl)) ?_))));intro u35 hu35 hn35;refine qu rfl rfl Z (fun hg=>(g_eql (hu35 hg) rfl)) ?_;intro u36 hu36 hn36;refine qq Z (g_or rfl rfl (fun hq=>hu36 hq)) (QoN (qh rfl ?_ ?_))
   ·
    intro hc37;clear hu35 hn35 hu36 hn36
    try simp only[zA,zO,zN,zI,zF,zM,zT,zU]at hc37
    have hA:wd / 65536 % 256=(if 7≤opOf wd then wd / 65536 % 256 else 0):=by rw[xS (by omega)]
    have hJ:wd % 65536=idxOf wd:=by unfold idxOf fieldM; rw[xP (by omega)]; omega
    refine QwR (qq Z (Qmi rfl) (qq Z (qa (o':=1) ue rfl xK rfl rfl rfl) (qe (qf 0 Z xK rfl rfl rfl (vs:=[.ig _]) rfl rfl rfl (xH rfl) (cs':=[_,_,_,_,_]) rfl) ?_)));clear Z;rintro _ w_3⟨rfl,Z⟩;refine QoN (reg (qq Z (Qmw rfl) ?_));refine qq Z (jh (m:=16) (c:=wd % 65536) rfl rfl rfl rfl (by rw[IntKind.wrap_u32]; omega)) ?_;refine qq Z (qK uv ut rfl (by omega) (by omega)) (qq Z (Qai rfl) (QoN ?_));exact⟨_,rfl,_,_,⟨rfl,rfl,rfl,rfl,rfl,trivial⟩,Z.sel [true],hA,hJ⟩
   ·
    intro hc37;clear hu35 hn35 hu36 hn36
    try simp only[zA,zO,zN,zI,zF,zM,zT,zU]at hc37
    have hA:(0:Int)=(if 7≤opOf wd then wd / 65536 % 256 else 0):=by rw[xP (by omega)]
    have hJ:wd % 16777216=idxOf wd:=by unfold idxOf fieldM; rw[xS (by omega)]; omega
    refine xM (xL ?_);exact⟨_,rfl,_,_,⟨rfl,rfl,rfl,rfl,rfl,trivial⟩,Z.sel [true],hA,hJ⟩
  ·
   rintro σ w_j⟨A,J,hs,Z,rfl,rfl⟩;rw[← qj hs];refine xJ (QwR (qq Z (Qmi rfl) (qq Z (qb _) (qq Z (qo rfl uf hl rfl) (qq Z (g_geq rfl rfl) (QoN (qh rfl ?_ ?_)))))))
   ·
    intro hc46
    try simp only[zA,zO,zN,zI,zF,zM,zT,zU]at hc46
    have hu:unnum x i wd=none:=vF (badN_t (by omega));refine QwR (qq Z (Qaw rfl) (qq Z (Qab rfl) (QoN (xO (ul (ret2 results92 (qg (v:=.wg _) rfl) (qg (v:=.bool _) rfl) ?_))))));exact⟨by rw[hu] <;> rfl,Z.nil⟩
   ·
    intro hc46
    try simp only[zA,zO,zN,zI,zF,zM,zT,zU]at hc46
    have hbn:badN x wd=false:=badN_f (by omega) (by omega) (by omega);obtain⟨nn,hni⟩:∃n,x.labels[(idxOf wd).toNat]? = some n:=⟨_,xI (by omega)⟩
    have hlA:=hl.at hni;have hnm:=hlb nn (xR hni);have hin:instOf x wd=⟨opOf wd,(if 7≤opOf wd then wd / 65536 % 256 else 0),0,0,nn⟩:=by unfold instOf; rw[xT,hni]; rfl
    refine xM (xL (QwR (qq Z (qb _) (qq Z (Qmi rfl) (qq Z (g_ixI uf xK hl rfl rfl (by omega) (by omega)) (qq Z (qt xW hlA rfl rfl) (qq Z (qa (o':=4) ue rfl xK rfl rfl rfl) (qe (qf 0 Z xK rfl rfl rfl (vs:=[.ig _]) rfl rfl rfl (xH rfl) (cs':=[_,_,_,_,_]) rfl) ?_))))))));clear Z;rintro _ w_4⟨rfl,Z⟩;refine QoN (xJ ?_);have hLk:Lnkd (instOf x wd):=by rw[hin]; exact⟨⟨by dsimp only; omega,by dsimp only; omega⟩,⟨by dsimp only; split <;> omega,by dsimp only; split <;> omega⟩,rfl,rfl,fun h=>by dsimp only at h ⊢; rw[xP (by omega)]⟩
    have hXn:-1099511627776≤(instOf x wd).n∧(instOf x wd).n≤1099511627776:=by rw[hin]; exact hnm
    have hes:Inl.encI (instOf x wd) (4*(i:Int))=none∨∃wv,Inl.encI (instOf x wd) (4*(i:Int))=some wv:=by cases Inl.encI (instOf x wd) (4*(i:Int)); exact .inl rfl; exact .inr ⟨_,rfl⟩
    refine hes.elim (fun he2=>?_) (fun he2=>?_)
    ·
     have hu:=(vh (i:=i) hbn).trans he2;refine reg (qq Z (g_ldO 0 (vs:=[.ig _,.ig _,.ig _,.ig _,.ig _]) uD Ql rfl rfl rfl rfl) (qq Z (Qmi rfl) (qe (qi call39 rfl (encR_n hin _ I0 Z.imm hLk hXn.1 hXn.2 (by omega) (by omega) he2)) ?_)));rintro _ w_5⟨rfl,hE⟩;replace Z:=Z.callE hE;refine qq Z (qb _) (qq Z (qk (v:=.wg _) rfl rfl) (qq Z (Qxi rfl rfl) (qq Z (Qaw rfl) (qq Z (Qai rfl) (QoR (qq Z (Qmw rfl) (qq Z (Qmi rfl) (qq Z (g_toV (g_eql rfl rfl) (congrArg Value.bool (uw (by decide)))) (qq Z (Qaw rfl) (qq Z (Qab rfl) (QoN (xO (ret2 results92 (qg (v:=.wg _) rfl) (qg (v:=.bool _) rfl) ?_)))))))))))));exact⟨by rw[hu] <;> rfl,Z.nil⟩
    ·
     obtain⟨wv,he2⟩:=he2;have hu:=(vh (i:=i) hbn).trans he2;refine reg (qq Z (g_ldO 0 (vs:=[.ig _,.ig _,.ig _,.ig _,.ig _]) uD Ql rfl rfl rfl rfl) (qq Z (Qmi rfl) (qe (qi call39 rfl (encR_s hin _ I0 Z.imm hLk hXn.1 hXn.2 (by omega) (by omega) he2)) ?_)));rintro _ w_6⟨rfl,hE⟩;replace Z:=Z.callE hE;refine qq Z (qb _) (qq Z (qk (v:=.wg _) rfl rfl) (qq Z (Qxi rfl rfl) (qq Z (Qaw rfl) (qq Z (Qai rfl) (QoR (qq Z (Qmw rfl) (qq Z (Qmi rfl) (qq Z (g_toV (g_eql rfl rfl) (congrArg Value.bool (uH rfl))) (qq Z (Qaw rfl) (qq Z (Qab rfl) (QoN (xO (ret2 results92 (qg (v:=.wg _) rfl) (qg (v:=.bool _) rfl) ?_)))))))))))));exact⟨by rw[hu] <;> rfl,Z.nil⟩
set_option maxHeartbeats 2000000 in
theorem lowRR_c (x : LiftL) (a0 a1 a2 : Option Addr) (c0 c1 c2 : Nat) (B : List Int) (e : Int) (w0 : World) (I0 : Imm) (hI : Sat I0 w0) (hx : RLf I0 a0 c0 a1 c1 a2 c2 x) (hw : Wrds x.words) (hlb : Labs x.labels) (he : lowR x = (B, e)) :
 Ctr prog 42 [.agg #[.sg a0 x.words.length c0,.sg a1 x.marks.length c1,.sg a2 x.labels.length c2]] w0 (fun v w'=>∃I' a c,v = .tuple #[.sg a B.length c,.ig e]∧Ext w0 I0 w' I'∧RBytes I' (.sg a B.length c) B):=by
 have hl0:=RSl.le hx.w;have hl1:=RSl.le hx.m;have hl2:=RSl.le hx.l;simp only[maxLen]at hl0 hl1 hl2;refine fn (n:=71) func42 rfl rfl rfl ?_;have Z:=St.start hI;refine QwR (qe (d_box (cs:=[.sg _ _ _,.sg _ _ _,.sg _ _ _]) Z rfl) ?_);clear Z;rintro _ w_1⟨b1,rfl,Z⟩;refine qq Z (qd _) (qq Z (Qai rfl) (QoN (xJ (QwR (qq Z (qa (o':=0) ub rfl uT rfl rfl rfl) (qq Z (qc 0 Qy rfl rfl rfl) (qq Z (qo rfl ui hx.w rfl) (qq Z (g_gtr rfl rfl) (qq Z (Qmb rfl) (qu rfl rfl Z (fun hg=>(qa (o':=1) ub rfl Qf rfl rfl rfl)) ?_))))))))));intro u17 hu17 hn17;refine qu rfl rfl Z (fun hg=>(qc 0 QN rfl (hu17 hg) rfl)) ?_;intro u18 hu18 hn18;refine qu rfl rfl Z (fun hg=>(qo rfl uR hx.m (hu18 hg))) ?_;intro u19 hu19 hn19;refine qu rfl rfl Z (fun hg=>(qa (o':=0) ub rfl uT rfl rfl rfl)) ?_;intro u20 hu20 hn20;refine qu rfl rfl Z (fun hg=>(qc 0 Qy rfl (hu20 hg) rfl)) ?_;intro u21 hu21 hn21;refine qu rfl rfl Z (fun hg=>(qo rfl ui hx.w (hu21 hg))) ?_;intro u22 hu22 hn22;refine qu rfl rfl Z (fun hg=>(g_neq (hu19 hg) (hu22 hg))) ?_;intro u23 hu23 hn23;refine qq Z (g_or rfl rfl (fun hq=>hu23 hq)) (QoN (qh rfl ?_ ?_))
 ·
  intro hc24;clear hu17 hn17 hu18 hn18 hu19 hn19 hu20 hn20 hu21 hn21 hu22 hn22 hu23 hn23
  try simp only[zA,zO,zN,zI,zF,zM,zT,zU]at hc24
  have hb:16384 < x.words.length∨x.marks.length≠x.words.length:=by omega
  rw[lower_none1 hb]at he;obtain⟨rfl,rfl⟩:=Prod.mk.inj he;refine QwR (qq Z (qd _) (qq Z (Qai rfl) (QoN (xO (ul (ret2 results42 (qg rfl) (qg (v:=.ig _) rfl) ?_))))))
  first | exact⟨_,none,0,rfl,Z.nil,RFl.nil⟩ | exact⟨_,a60,c60,rfl,Z.nil,h60⟩
 ·
  intro hc24;clear hu17 hn17 hu18 hn18 hu19 hn19 hu20 hn20 hu21 hn21 hu22 hn22 hu23 hn23
  try simp only[zA,zO,zN,zI,zF,zM,zT,zU]at hc24
  have hb:¬(16384 < x.words.length∨x.marks.length≠x.words.length):=by omega
  have hml:x.marks.length=x.words.length:=by omega
  have hwn:x.words.length≤16384:=by omega
  refine xM (xL (QwR (qe (jo Z ui uV) ?_)));clear Z;rintro _ w_2⟨Z,b25_,rfl⟩;refine qq Z (qd _) (QoN (xJ (QwR (qq Z (Qai rfl) (QoN (xU (loop (fun(x1:BtW) σ w=>okS σ [(1,.zg b1),(4,.sg x1.a x1.k x1.c),(5,.ig x1.k)]∧St [] w0 I0 I0 w [.row (.sg x1.a x1.k x1.c) 88 1 x1.k (flat u32C ((lowW x).take x1.k)),.cel b1 71 [.sg a0 x.words.length c0,.sg a1 x.marks.length c1,.sg a2 x.labels.length c2]]∧x1.k≤x.words.length∧∀i,i < x1.k→(unnumP x i).isSome=true) (fun x1=>x.words.length - x1.k) (⟨0,some ⟨b25_,0,none⟩,0⟩) ?_ ?_)))))))
  ·
   exact⟨⟨rfl,rfl,rfl,trivial⟩,Z.sel [true,true],by dsimp only; omega,fun i hi=>by dsimp only at hi; omega⟩
  ·
   rintro⟨k,a,c⟩σ w_l⟨hs,Z,hkx,hgood⟩;dsimp only at hs Z hkx hgood ⊢;rw[← qj hs]; clear hs
   refine xJ (QwR (qq Z (Qmi rfl) (qq Z (qa (o':=0) ub rfl uT rfl rfl rfl) (qq Z (qc 1 Qy rfl rfl rfl) (qq Z (qo rfl ui hx.w rfl) (qq Z (g_lss rfl rfl) (QoN (qh rfl ?_ ?_))))))))
   ·
    intro hc30
    try simp only[zA,zO,zN,zI,zF,zM,zT,zU]at hc30
    obtain⟨m,hmi⟩:∃m,x.marks[k]? = some m:=⟨_,xI (by omega)⟩
    obtain⟨y,hyi⟩:∃y,x.words[k]? = some y:=⟨_,xI (by omega)⟩
    have hkw:k < x.words.length:=by omega
    have hmg:=getDb_at (d:=false) hmi;have hyg:=jV (d:=0) hyi;have hyb:=hw y (xR hyi);have hwA:=hx.w.at hyi;have hmA:=hx.m.at hmi;refine xM (xL (xJ (xU (QwR (qq Z (qa (o':=0) ub rfl uT rfl rfl rfl) (qq Z (qc 1 Qy rfl rfl rfl) (qq Z (Qmi rfl) (qq Z (g_ixI ui uV hx.w rfl rfl (by omega) (by omega)) (qq Z (qt QH hwA rfl rfl) (qq Z (Qaw rfl) (QoN (meet (fun σ w=>okS σ [(1,.zg b1),(4,.sg a k c),(5,.ig k),(6,.wg ((unnumP x k).getD 0))]∧St [] w0 I0 I0 w [.row (.sg a k c) 88 1 k (flat u32C ((lowW x).take k)),.cel b1 71 [.sg a0 x.words.length c0,.sg a1 x.marks.length c1,.sg a2 x.labels.length c2]]∧(unnumP x k).isSome=true) ?_ ?_))))))))))))
    ·
     refine QwR (qq Z (qa (o':=1) ub rfl Qf rfl rfl rfl) (qq Z (qc 1 QN rfl rfl rfl) (qq Z (Qmi rfl) (qq Z (g_ixI uR uy hx.m rfl rfl (by omega) (by omega)) (qq Z (qt QA hmA rfl rfl) (QoN (qh rfl ?_ ?_)))))))
     ·
      intro hc42;have hum:unnumP x k=unnum x k y:=by rw[← hyg]; exact unnumP_m (by rw[hmg]; exact hc42)
      refine QwR (qq Z (Qmw rfl) (qq Z (Qmi rfl) (qq Z (g_mul rfl rfl (by omega) (by omega)) (qq Z (qa (o':=2) ub rfl uE rfl rfl rfl) (qq Z (qc 1 Qz rfl rfl rfl) (qe (qi call92 rfl (unnumR_c x k y a2 c2 _ I0 Z.imm hx.l hlb hyb.1 hyb.2 (by omega))) ?_))))));rintro _ w_3⟨rfl,hE⟩;replace Z:=Z.callE hE;refine qq Z (qb _) (qq Z (qk (v:=.wg _) rfl rfl) (qq Z (qk (v:=.bool _) rfl rfl) (qq Z (Qaw rfl) (qq Z (Qab rfl) (QoN (xJ (QwR (qq Z (Qmb rfl) (qq Z (g_not rfl) (QoN (qh rfl ?_ ?_)))))))))))
      ·
       intro hc53;have hun:unnum x k y=none:=by
        cases h:unnum x k y with
        | none=>rfl
        | some z=>rw[h]at hc53; cases hc53
       have hlow:=vq hkw (hum.trans hun);rw[kY hb hlow]at he;obtain⟨rfl,rfl⟩:=Prod.mk.inj he;refine QwR (qq Z (qd _) (qq Z (Qai rfl) (QoN (xO (ul (ul (Qq (ul (ul (Qq (ul (ret2 results42 (qg rfl) (qg (v:=.ig _) rfl) ?_))))))))))))
       first | exact⟨_,none,0,rfl,Z.nil,RFl.nil⟩ | exact⟨_,a60,c60,rfl,Z.nil,h60⟩
      ·
       intro hc53;have hsm:(unnumP x k).isSome=true:=by rw[hum]; simpa using hc53
       have hval:(unnum x k y).getD 0=(unnumP x k).getD 0:=by rw[hum]
       refine xM (xL (reg (qq Z (Qmw rfl) (qq Z (Qaw rfl) (QoN ?_)))));exact⟨_,rfl,⟨rfl,rfl,rfl,congrArg (Value.int .u32) hval,trivial⟩,Z.sel [true,true],hsm⟩
     ·
      intro hc42;have hum:unnumP x k=some y:=by rw[← hyg]; exact unnumP_u (by rw[hmg]; exact hc42)
      have hsm:(unnumP x k).isSome=true:=by rw[hum]; rfl
      have hval:y=(unnumP x k).getD 0:=by rw[hum]; rfl
      refine xM (xL ?_);exact⟨_,rfl,⟨rfl,rfl,rfl,congrArg (Value.int .u32) hval,trivial⟩,Z.sel [true,true],hsm⟩
    ·
     rintro σ w_j⟨hs,Z,hsm⟩;rw[← qj hs];refine reg (qq Z (qb _) (qq Z (Qmw rfl) ?_));refine qe (d_lit (vs:=[.wg _]) (cs:=[.wg _]) Z ui uV JA rfl rfl rfl rfl (fun v hv=>by simp only[xV,xY,or_false]at hv; subst hv; rfl) rfl) ?_;clear Z;rintro _ w_4⟨b57,rfl,Z⟩;refine qe (qB 1 0 Z rfl ui Jr rfl rfl rfl rfl rfl rfl rfl rfl (by omega) (by omega)) ?_;clear Z;rintro _ w_5⟨a58,p58,rfl,Z⟩;refine qq Z (qd _) (qy (uM (xL (reg (qq Z (Qmi rfl) (qq Z (g_add rfl rfl (by omega) (by omega)) (qq Z (Qai rfl) ?_)))))));refine⟨⟨k+1,a58,p58⟩,_,rfl,⟨⟨rfl,rfl,rfl,trivial⟩,?_,by dsimp only; omega,fun i hi=>(Qd.1 hi).elim (hgood i) (fun h=>by subst h; exact hsm)⟩,by dsimp only; omega⟩;dsimp only;rw[qz (lowW_at hkw),ql,qS];exact Z.sel [false,true,true]
   ·
    intro hc30
    try simp only[zA,zO,zN,zI,zF,zM,zT,zU]at hc30
    have hk:k=x.words.length:=by omega
    subst hk;refine ur (um (um (Qi (xL (xJ ?_)))));have hlow:lowBad x=false:=lowBad_f hgood;have hww:=vO hw;rw[show(lowW x).take x.words.length=lowW x from QC (by rw[jr]; exact uc _)]at Z;have hF:=St.freezeRow (u:=.sg a x.words.length c) (m:=x.words.length) (xs:=lowW x) qW (by exact Z.ord [0,1]) ((jr x).symm);clear Z;obtain⟨I_hws,Z,hI_hws,hws⟩:=hF;replace hx:=hx.mono hI_hws;refine reg (qq Z (qb _) (qe (qi call40 rfl (bytes2_E a c x.words.length (lowW x) _ _ Z.imm hws hww (jr x).symm (by omega))) ?_));rintro _ w_6⟨I_f,a60,c60,rfl,hE,h60⟩;replace Z:=Z.callE hE;replace hx:=hx.mono hE.ext;replace hws:=hws.mono hE.ext;refine qq Z (qd _) (QoR (qq Z (qb _) ?_));refine qe (qi call41 rfl (liftR_e a60 c60 (lowW x) _ _ Z.imm h60 hww (by rw[jr]; omega))) ?_;rintro _ w_7⟨I_f,a0y,c0y,a1y,c1y,a2y,c2y,rfl,hE,h63⟩;replace Z:=Z.callE hE;replace hx:=hx.mono hE.ext;replace hws:=hws.mono hE.ext;replace h60:=h60.mono hE.ext;refine qq Z (qb _) (qq Z (qk rfl rfl) (qq Z (Qxi rfl rfl) (qe (qr (cs:=[.sg _ _ _,.sg _ _ _,.sg _ _ _]) Z uY rfl) ?_)));clear Z;rintro _ w_8⟨b10,rfl,Z⟩;refine qe (qf 0 Z uU rfl rfl rfl (vs:=[.sg _ _ _,.sg _ _ _,.sg _ _ _]) rfl rfl rfl (xH rfl) (cs':=[_,_,_]) rfl) ?_;clear Z;rintro _ w_9⟨rfl,Z⟩;refine qq Z (Qai rfl) (QoN (xJ (QwR (qq Z (g_ldO 0 (vs:=[.sg _ _ _,.sg _ _ _,.sg _ _ _]) uU QI rfl rfl rfl rfl) (qq Z (g_ldO 1 (vs:=[.sg _ _ _,.sg _ _ _,.sg _ _ _]) uU QI rfl rfl rfl rfl) (qe (qi call93 rfl (lfeqR_c (liftP (lowW x)) x _ _ _ _ _ _ _ _ _ _ _ _ _ _ Z.imm h63 hx)) ?_))))));rintro _ w_10⟨rfl,hE⟩
    replace Z:=Z.callE hE;refine qq Z (g_not rfl) (QoN (qh rfl ?_ ?_))
    ·
     intro hc69;have heq:liftEq (liftP (lowW x)) x=false:=by simpa using hc69
     rw[lower_none3 hb hlow heq]at he;obtain⟨rfl,rfl⟩:=Prod.mk.inj he;refine QwR (qq Z (qd _) (qq Z (Qai rfl) (QoN (xO (ul (ret2 results42 (qg rfl) (qg (v:=.ig _) rfl) ?_))))))
     first | exact⟨_,none,0,rfl,Z.nil,RFl.nil⟩ | exact⟨_,a60,c60,rfl,Z.nil,h60⟩
    ·
     intro hc69;have heq:liftEq (liftP (lowW x)) x=true:=by simpa using hc69
     rw[yU hb hlow heq]at he;obtain⟨rfl,rfl⟩:=Prod.mk.inj he;refine xM (xL (QwR (qq Z (qb _) (qq Z (qd _) (qq Z (Qai rfl) (QoN (xO (ret2 results42 (qg rfl) (qg (v:=.ig _) rfl) ?_))))))))
     first | exact⟨_,none,0,rfl,Z.nil,RFl.nil⟩ | exact⟨_,a60,c60,rfl,Z.nil,h60⟩
theorem lowRR_E (x : LiftL) (a0 a1 a2 : Option Addr) (c0 c1 c2 : Nat) (B : List Int) (e : Int) (n0 n1 n2 : Nat) (w0 : World) (I0 : Imm) (hI : Sat I0 w0) (hx : RLf I0 a0 c0 a1 c1 a2 c2 x) (hw : Wrds x.words) (hlb : Labs x.labels) (he : lowR x = (B, e)) (e0 : n0 = x.words.length) (e1 : n1 = x.marks.length) (e2 : n2 = x.labels.length) :
 Ctr prog 42 [.agg #[.sg a0 n0 c0,.sg a1 n1 c1,.sg a2 n2 c2]] w0 (fun v w'=>∃I' a c,v = .tuple #[.sg a B.length c,.ig e]∧Ext w0 I0 w' I'∧RBytes I' (.sg a B.length c) B):=by
 subst e0 e1 e2; exact lowRR_c x a0 a1 a2 c0 c1 c2 B e w0 I0 hI hx hw hlb he
end Go.Proofs.YtgkgihnpjgbmhaaGreatDoor
