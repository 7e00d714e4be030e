/- coder.Decode of nothing. Conditions: none. What a code of the range coder says, read from its front: plain laws. Conditions: none. coder.Decode of a code: it gives the text. Conditions: none. -/
import Derived.Test.YtgkgihnpjgbmhaaGreatDoorPk14
import Derived.Test.YtgkgihnpjgbmhaaGreatDoorKLaw
set_option linter.unusedSimpArgs false
set_option linter.unusedVariables false
namespace Go.Proofs.YtgkgihnpjgbmhaaGreatDoor
open Tryz
open Go Go.RowKit Go.Inl
set_option maxHeartbeats 1000000 in
theorem equalB_c (a1 a2 : Option Addr) (c1 c2 : Nat) (x y : List Int) (w0 : World) (I0 : Imm) (hI : Sat I0 w0) (hx : RBytes I0 (.sg a1 x.length c1) x) (hy : RBytes I0 (.sg a2 y.length c2) y) :
 Ctr prog 78 [.sg a1 x.length c1,.sg a2 y.length c2] w0 (fun v w'=>v = .bool (decide (x=y))∧Ext w0 I0 w' I0):=by
 have hxl:=RSl.le hx;have hyl:=RSl.le hy;simp only[maxLen]at hxl hyl;refine fn (n:=26) func78 rfl rfl rfl ?_;have Z:=St.start hI;refine QwR (qq Z (Qab rfl) (QoN (xJ (QwR (qq Z (qb _) (qq Z (qo rfl xQ hx rfl) (qq Z (qb _) (qq Z (qo rfl xQ hy rfl) (qq Z (g_neq rfl rfl) (QoN (qh rfl ?_ ?_)))))))))))
 ·
  intro hc10
  try simp only[zA,zO,zN,zI,zF,zM,zT,zU]at hc10
  have hne:¬x=y:=fun e=>by subst e; omega
  refine QwR (qq Z (Qab rfl) (QoN (xO (ul (ret1 JU (qg (v:=.bool _) rfl) ?_)))));exact⟨by rw[uw hne],Z.nil⟩
 ·
  intro hc10
  try simp only[zA,zO,zN,zI,zF,zM,zT,zU]at hc10
  have hlen:x.length=y.length:=by omega
  refine xM (xL (xJ (QwR (qq Z (qb _) (qq Z (qo rfl xQ hx rfl) (qq Z (Qmi rfl) (QoN (xU (loop (fun(k:Nat) σ w=>okS σ [(0,.sg a1 x.length c1),(1,.sg a2 y.length c2),(12,.ig x.length),(13,.ig k)]∧St [] w0 I0 I0 w []∧k≤x.length∧x.take k=y.take k) (fun k=>x.length - k) (0) ?_ ?_)))))))))
  ·
   exact⟨⟨rfl,rfl,rfl,rfl,trivial⟩,Z.sel [],Nat.zero_le _,rfl⟩
  ·
   rintro k σ w_l⟨hs,Z,hk0,htk⟩;rw[← qj hs]; clear hs
   refine QwR (qq Z (g_lss rfl rfl) (QoN (xJ (qh rfl ?_ ?_))))
   ·
    intro hc14
    try simp only[zA,zO,zN,zI,zF,zM,zT,zU]at hc14
    obtain⟨p,hp⟩:∃p,x[k]? = some p:=⟨_,xI (by omega)⟩
    obtain⟨q,hq⟩:∃q,y[k]? = some q:=⟨_,xI (by omega)⟩
    have hpA:=hx.at hp;have hqA:=hy.at hq;refine xM (xL (xJ (xU (QwR (qq Z (Qmi rfl) (qq Z (Qai rfl) (QoN (xJ (draw (.pg 0 (.pg 1 (.pg 2 (.hg 3 (.pg 4 (.pg 5 (.pg 6 (.hg 7 (.pg 8 .nil))))))))) mixed (by kernel_rfl) Z ?_)))))))));intro w_1 Z;refine sp rfl (qb _) (sp rfl (Qmi rfl) (sp rfl (g_ixI xQ un hx rfl rfl (by omega) (by omega)) (sh rfl (qt uZ hpA rfl rfl) (sp rfl (qb _) (sp rfl (Qmi rfl) (sp rfl (g_ixI xQ un hy rfl rfl (by omega) (by omega)) (sh rfl (qt uZ hqA rfl rfl) (sp rfl (g_neq rfl rfl) (sn (xL (qh rfl ?_ ?_)))))))))))
    ·
     intro hc24
     try simp only[zA,zO,zN,zI,zF,zM,zT,zU]at hc24
     have hne:¬x=y:=fun e=>by subst e; rw[hp]at hq; exact hc24 (Option.some.inj hq)
     refine QwR (qq Z (Qab rfl) (QoN (xO (Qq (ul (ul (Qq (ul (ret1 JU (qg (v:=.bool _) rfl) ?_)))))))));exact⟨by rw[uw hne],Z.nil⟩
    ·
     intro hc24
     try simp only[zA,zO,zN,zI,zF,zM,zT,zU]at hc24
     obtain rfl:p=q:=by simpa using hc24
     have htk2:x.take (k+1)=y.take (k+1):=by rw[qz hp,qz hq,htk]
     refine xM (uM (xL (reg (qq Z (g_add rfl rfl (by omega) (by omega)) (qq Z (Qmi rfl) ?_)))));exact⟨k+1,_,rfl,⟨⟨rfl,rfl,rfl,rfl,trivial⟩,Z.sel [],by omega,htk2⟩,by omega⟩
   ·
    intro hc14
    try simp only[zA,zO,zN,zI,zF,zM,zT,zU]at hc14
    obtain rfl:k=x.length:=by omega
    have heq:x=y:=by rw[uL,hlen,uL]at htk; exact htk
    refine ur (um (um (Qi (xL (QwR (qq Z (Qab rfl) (QoN (xO (ret1 JU (qg (v:=.bool _) rfl) ?_)))))))));exact⟨by rw[uH heq],Z.nil⟩
end Go.Proofs.YtgkgihnpjgbmhaaGreatDoor
namespace Go.Proofs.YtgkgihnpjgbmhaaGreatDoor
open Tryz
open Go Go.RowKit Go.Inl
def valS (s:Cs):Int:=4294967296*valC s.out+s.low
theorem put_val {s : Cs} (h : CsOk s) {r before cnt t : Int} (hr : 1 ≤ r) (hb : 0 ≤ before) (hc : 1 ≤ cnt) (ht : before + cnt ≤ t) (hrt : r * t ≤ s.size) :
 valS (putC s r before cnt)=valS s+r*before∧(putC s r before cnt).size=r*cnt∧(putC s r before cnt).out.length=s.out.length:=by
 have e1:r*before+r*cnt≤r*t:=by rw[← Int.mul_add]; exact Int.mul_le_mul_of_nonneg_left ht (by omega)
 have e3:1≤r*cnt:=by have:=Int.mul_le_mul hr hc (by omega) (by omega); omega
 have e2:0≤r*before:=Int.mul_nonneg (by omega) hb;obtain⟨rb,hrb⟩:∃x,r*before=x:=⟨_,rfl⟩
 obtain⟨rc,hrc⟩:∃x,r*cnt=x:=⟨_,rfl⟩
 refine⟨?_,?_,xj s r before cnt⟩
 · rw [hrb, hrc] at e1
   rw[hrb]at e2;rw[hrc]at e3;have hl:=h.low;have hs:=h.size;unfold putC;rw[hrb,hrc];split
   · have hcv := CsOk.carry (s := s) (lo := s.low + rb) (si := rc) h.byt (by have := h.all; omega) (by omega) (by omega)
     obtain⟨_,hv,_⟩:=carried_val h.byt hcv;unfold valS;dsimp only;rw[hv]; omega
   · unfold valS; dsimp only; omega
 · unfold putC; split <;> rfl
theorem norm_val : ∀ (k : Nat) (s : Cs), ∃ j, valS (normC k s) = 256 ^ j * valS s ∧ (normC k s).size = 256 ^ j * s.size ∧ (normC k s).out.length = s.out.length + j
 | 0,s=>⟨0,by simp[normC],by simp[normC],rfl⟩
 | k+1,s=>by
   unfold normC;split
   · obtain ⟨j, h1, h2, h3⟩ := norm_val k ⟨s.low % 16777216 * 256, s.size * 256, s.out ++ [s.low / 16777216]⟩
     have e:valS ⟨s.low % 16777216*256,s.size*256,s.out++[s.low / 16777216]⟩=256*valS s:=by unfold valS; dsimp only; rw[jK]; omega
     refine⟨j+1,?_,?_,?_⟩
     · rw[h1,e,Int.pow_succ,Int.mul_assoc]
     · rw[h2,Int.pow_succ,Int.mul_assoc]; dsimp only; rw[Int.mul_comm s.size]
     · rw[h3,xN]; simp; omega
   · exact⟨0,by simp,by simp,rfl⟩
def Nest (f t:Cs):Prop:=t.out.length≤f.out.length∧256 ^ (f.out.length - t.out.length)*valS t≤valS f∧valS f+f.size≤256 ^ (f.out.length - t.out.length)*(valS t+t.size)
theorem vM {f t:Cs}(k:Nat)(h:Nest f (normC k t)):Nest f t:=by
 obtain⟨j,h1,h2,h3⟩:=norm_val k t;obtain⟨g1,g2,g3⟩:=h;rw[h3]at g1 g2 g3;rw[h1]at g2;rw[h1,h2,← Int.mul_add,← Int.mul_assoc,← Int.pow_add]at g3;rw[← Int.mul_assoc,← Int.pow_add]at g2;rw[show f.out.length - (t.out.length+j)+j=f.out.length - t.out.length by omega]at g2 g3;exact⟨by omega,g2,g3⟩
theorem nest_put {f s:Cs}(hs:CsOk s){r before cnt t:Int}(hr:1≤r)(hb:0≤before)(hc:1≤cnt)(ht:before+cnt≤t)(hrt:r*t≤s.size)(h:Nest f (putC s r before cnt)):Nest f s:=by
 obtain⟨h1,h2,h3⟩:=put_val hs hr hb hc ht hrt;obtain⟨g1,g2,g3⟩:=h;rw[h3]at g1 g2 g3;rw[h1]at g2;rw[h1,h2]at g3;have e2:0≤r*before:=Int.mul_nonneg (by omega) hb;have e1:r*before+r*cnt≤r*t:=by rw[← Int.mul_add]; exact Int.mul_le_mul_of_nonneg_left ht (by omega)
 have hp:0≤(256:Int) ^ (f.out.length - s.out.length):=Int.le_of_lt (yQ _);exact⟨g1,Int.le_trans (Int.mul_le_mul_of_nonneg_left (by omega) hp) g2,Int.le_trans g3 (Int.mul_le_mul_of_nonneg_left (by omega) hp)⟩
theorem step_facts {s:Cs}{A:Ad}{x:Nat}(h:Good13 s)(hA:AdOk A)(hx:x < 256):1≤s.size / A.t∧0≤(A.c.take x).sum∧1≤A.c.getD x 0∧(A.c.take x).sum+A.c.getD x 0≤A.t∧s.size / A.t*A.t≤s.size:=by
 obtain⟨q1,q2,q3⟩:=je A.c x hA.pos (by rw[hA.len]; exact hx);rw[hA.sum]at q3;obtain⟨r1,r2⟩:=zk h.big (show 1≤A.t∧A.t≤65536 from⟨by omega,hA.top⟩);exact⟨by omega,q1,q2,q3,r2⟩
theorem nest_step {f s:Cs}{A:Ad}{x:Nat}(h:Good13 s)(hA:AdOk A)(hx:x < 256)(hn:Nest f (stepC s A x)):Nest f s:=by
 obtain⟨q1,q2,q3,q4,q5⟩:=step_facts h hA hx;exact nest_put h.ok q1 q2 q3 q4 q5 (vM 4 hn)
theorem nest_fold {M : Mdl} (hM : MdlOk M) : ∀ (ys : List Int) (p : Cs × M.S), Good13 p.1 → M.inv p.2 → Byt ys → Nest (ys.foldl (encF M) p).1 p.1
 | [],p,_,_,_=>⟨uc _,by rw[List.foldl_nil,Nat.sub_self]; simp,by rw[List.foldl_nil,Nat.sub_self]; simp⟩
 | y::ys,p,h1,h2,h3=>by
   have hy:=h3 y (List.mem_cons_self ..);have hx:y.toNat < 256:=by omega
   have:=nest_fold hM ys (encF M p y) (yy h1 (hM.tab _ h2) hx) (hM.nxt _ _ h2 hx) (fun z hz=>h3 z (List.mem_cons_of_mem _ hz));exact nest_step h1 (hM.tab _ h2) hx this
theorem nest_up {M:Mdl}(hM:MdlOk M){s0:M.S}(hs0:M.inv s0){x:List Int}(hx:Byt x){k:Nat}(hk:k≤x.length):Nest (encUp M s0 x x.length).1 (encUp M s0 x k).1:=by
 obtain⟨h1,h2,_⟩:=zV hM hs0 hx k hk;have:=nest_fold hM (x.drop k) (encUp M s0 x k) h1 h2 (fun y hy=>hx y (List.mem_of_mem_drop hy));have e:(x.drop k).foldl (encF M) (encUp M s0 x k)=encUp M s0 x x.length:=by
  unfold encUp;rw[← List.foldl_append,List.take_append_drop,uL]
 rwa [e]at this
def strV (b : List Int) : Nat → Int
 | 0=>0
 | m+1=>256*strV b m+b.getD m 0
theorem trimZ_getD (l:List Int)(j:Nat):(trimZ l).getD j 0=l.getD j 0:=by
 refine zj (p:=fun l=>∀j,(trimZ l).getD j 0=l.getD j 0) ?_ ?_ l j
 · intro j; rfl
 · intro l d ih j
   by_cases h:d=0
   · subst h
     rw[trimZ_zero,ih];simp only[xT];by_cases hj:j < l.length
     · rw[ux hj]
     · rw [uB (by omega), List.getElem?_eq_none (by omega)]
       cases h:j - l.length with
       | zero=>rfl
       | succ n=>rfl
   · rw[trimZ_ne l h]
theorem strV_take (l : List Int) : ∀ m, m ≤ l.length → strV (trimZ l) m = valC (l.take m)
 | 0,_=>rfl
 | m+1,h=>by
   obtain⟨y,hy⟩:∃y,l[m]? = some y:=⟨_,xI (by omega)⟩
   rw[strV,strV_take l m (by omega),trimZ_getD,qz hy,jK,xT,hy]; rfl
theorem tail_val {s:Cs}(h:CsOk s):valC (tailC s)=valS s:=by
 have:=h.low;unfold tailC valS;rw[kM];show 256 ^ 4*valC s.out+(256*(256*(256*(256*0+s.low / 16777216)+s.low / 65536 % 256)+s.low / 256 % 256)+s.low % 256)=_
 omega
theorem dec_in {f t:Cs}(hf:CsOk f)(h:Nest f t):valS t≤strV (trimZ (tailC f)) (4+t.out.length)∧strV (trimZ (tailC f)) (4+t.out.length) < valS t+t.size:=by
 obtain⟨g1,g2,g3⟩:=h;have hl:=yb f;rw[strV_take _ _ (by omega)];have hv:=tail_val hf;conv at hv=>lhs; rw[← List.take_append_drop (4+t.out.length) (tailC f)]
 rw[kM]at hv;obtain⟨d1,d2⟩:=valC_bd ((tailC f).drop (4+t.out.length)) (fun y hy=>tail_byt hf y (List.mem_of_mem_drop hy));rw[Qj,hl,show f.out.length+4 - (4+t.out.length)=f.out.length - t.out.length by omega]at hv d2;have hs:=hf.size;obtain⟨e,he⟩:∃e:Int,256 ^ (f.out.length - t.out.length)=e:=⟨_,rfl⟩
 have hp:0 < e:=by rw[← he]; exact yQ _
 rw[he]at hv d2 g2 g3;obtain⟨S,Z⟩:∃S,valC ((tailC f).take (4+t.out.length))=S:=⟨_,rfl⟩
 rw[Z]at hv ⊢;constructor
 · refine Int.le_of_lt_add_one (Int.lt_of_mul_lt_mul_left (a := e) ?_ (by omega))
   rw[Int.mul_add]; omega
 · refine Int.lt_of_mul_lt_mul_left (a := e) ?_ (by omega)
   omega
end Go.Proofs.YtgkgihnpjgbmhaaGreatDoor
namespace Go.Proofs.YtgkgihnpjgbmhaaGreatDoor
open Tryz
open Go Go.RowKit Go.Inl
def ahd (b:List Int)(s:Cs):Int:=strV b (4+s.out.length) - valS s
theorem zr {b:List Int}(h:Byt b)(j:Nat):0≤b.getD j 0∧b.getD j 0≤255:=by
 rw[xT];cases hj:b[j]? with
 | none=>exact⟨Int.le_refl _,by show(0:Int)≤255; decide⟩
 | some y=>exact h y (xR hj)
theorem strV4 {b:List Int}(h:Byt b){k:Nat}(hk:k≤4):0≤strV b k∧strV b k≤4294967295:=by
 have h0:=zr h 0;have h1:=zr h 1;have h2:=zr h 2;have h3:=zr h 3;match k,hk with
 | 0,_=>exact⟨Int.le_refl _,by show(0:Int)≤4294967295; decide⟩
 | 1,_=>simp only[strV]; omega
 | 2,_=>simp only[strV]; omega
 | 3,_=>simp only[strV]; omega
 | 4,_=>simp only[strV]; omega
theorem drop_head (b:List Int)(k:Nat):(b.drop k).headD 0=b.getD k 0:=by
 rw[xT,← List.head?_drop];cases b.drop k <;> rfl
theorem ahd_step {b:List Int}{t:Cs}:ahd b ⟨t.low % 16777216*256,t.size*256,t.out++[t.low / 16777216]⟩=ahd b t*256+b.getD (4+t.out.length) 0:=by
 unfold ahd;have e:valS ⟨t.low % 16777216*256,t.size*256,t.out++[t.low / 16777216]⟩=256*valS t:=by unfold valS; dsimp only; rw[jK]; omega
 rw[e];dsimp only;rw[xN,show 4+(t.out.length+[t.low / 16777216].length)=(4+t.out.length)+1 from rfl,strV];omega
theorem ahd_put {b : List Int} {s : Cs} (h : CsOk s) {r before cnt t : Int} (hr : 1 ≤ r) (hb : 0 ≤ before) (hc : 1 ≤ cnt) (ht : before + cnt ≤ t) (hrt : r * t ≤ s.size) :
 ahd b (putC s r before cnt)=ahd b s - r*before∧(putC s r before cnt).size=r*cnt:=by
 obtain⟨h1,h2,h3⟩:=put_val h hr hb hc ht hrt;unfold ahd;rw[h1,h3];exact⟨by omega,h2⟩
theorem ahd_in {b:List Int}{f t:Cs}(hf:CsOk f)(hb:trimZ (tailC f)=b)(h:Nest f t):0≤ahd b t∧ahd b t < t.size:=by
 have:=dec_in hf h;rw[hb]at this;unfold ahd; omega
theorem sum_take_mono : ∀ (l : List Int) (i j : Nat), (∀ n ∈ l, 1 ≤ n) → i ≤ j → (l.take i).sum ≤ (l.take j).sum
 | l,0,j,h,_=>by
   have:=sum_ge (l.take j) (fun n hn=>h n (List.mem_of_mem_take hn));rw[List.take_zero,List.sum_nil]; omega
 | [],i+1,j,h,_=>by rw[List.take_nil,List.take_nil]; exact Int.le_refl _
 | x::l,i+1,0,h,hij=>by omega
 | x::l,i+1,j+1,h,hij=>by
   have:=sum_take_mono l i j (fun n hn=>h n (List.mem_cons_of_mem _ hn)) (by omega);rw[List.take_succ_cons,List.take_succ_cons,List.sum_cons,List.sum_cons]; omega
structure D0W where
 k:Nat
 a:Option Addr
 c:Nat
structure DecW (M : Mdl) where
 k:Nat
 cs:Cs
 s:M.S
 a:Option Addr
 c:Nat
 d:Option Addr
 e:Nat
theorem g_ltF13 {P:Program}{n:Nat}{σ:Nat→Value}{S:World→Prop}{t t' ty:TypeId}{x y:Operand}{k:IntKind}{a b:Int}(hx:ev n σ x = .int k a)(hy:ev n σ y = .int k b)(h:¬a < b):Gives P (ev n σ) S (.binOp .lss t x y t') ty (.bool false):=by
 have:=g_lss (P:=P) (S:=S) (t:=t) (t':=t') (ty:=ty) hx hy;rwa [uw h]at this
theorem g_gtF13 {P:Program}{n:Nat}{σ:Nat→Value}{S:World→Prop}{t t' ty:TypeId}{x y:Operand}{k:IntKind}{a b:Int}(hx:ev n σ x = .int k a)(hy:ev n σ y = .int k b)(h:¬b < a):Gives P (ev n σ) S (.binOp .gtr t x y t') ty (.bool false):=by
 have:=g_gtr (P:=P) (S:=S) (t:=t) (t':=t') (ty:=ty) hx hy;rwa [uw h]at this
theorem next_c (b : Nat) (ad : Option Addr) (cap : Nat) (l : List Int) (w0 : World) (I0 : Imm) (hI : Sat I0 w0) (hb : w0.heap[b]? = some (.cells [.sg ad l.length cap].toArray 22 (0, 0))) (hn : I0 b = none) (hl : RBytes I0 (.sg ad l.length cap) l) (hlb : Byt l) :
 Ctr prog 148 [.zg b] w0 (fun v w'=>v = .int .u64 (l.headD 0)∧∃a c,St [b] w0 I0 I0 w' [.cel b 22 [.sg a l.tail.length c]]∧∀J,RBytes J (.sg ad l.length cap) l→RBytes J (.sg a l.tail.length c) l.tail):=by
 have hll:=RSl.le hl;simp only[maxLen]at hll;refine fn (n:=13) func148 rfl rfl rfl ?_;have Z:St [b] w0 I0 I0 w0 [.cel b 22 [.sg ad l.length cap]]:=St.startX hI hb hn;refine QwR (qq Z (qv (v:=.int .u64 _) rfl) (QoN (xJ (QwR (qq Z (qc 0 Qx rfl rfl rfl) (qq Z (qo rfl xQ hl rfl) (qq Z (g_eql rfl rfl) (QoN (qh rfl ?_ ?_)))))))))
 ·
  intro hc5
  try simp only[zA,zO,zN,zI,zF,zM,zT,zU]at hc5
  obtain rfl:l=[]:=Qs.1 (by omega);refine QwR (qq Z (qv (v:=.int .u64 _) rfl) (QoN (xO (ul (ret1 results148 (qg (v:=.int .u64 _) rfl) ?_)))));exact⟨rfl,_,_,Z,fun J h=>h⟩
 ·
  intro hc5
  try simp only[zA,zO,zN,zI,zF,zM,zT,zU]at hc5
  obtain⟨y,l2,rfl⟩:∃y l2,l=y::l2:=by
   cases l with
   | nil=>exact absurd rfl hc5
   | cons y l2=>exact⟨y,l2,rfl⟩
  have hyb:=hlb y (List.mem_cons_self ..);have hcv:IntKind.u64.wrap y=y:=by rw[IntKind.wrap_u64]; omega
  have hyA:=hl.at (show(y::l2)[(0:Int).toNat]? = some y from rfl);have hs2:=RSl.slL hl 1 (by simp);rw[List.drop_one]at hs2;obtain⟨a2,c2,hv2,_⟩:=hs2.len;rw[hv2]at hs2;refine xM (xL (QwR (qq Z (qc 0 Qx rfl rfl rfl) (qq Z (g_ixI xQ un hl rfl rfl (by omega) (by omega)) (qq Z (qt uZ hyA rfl rfl) (qq Z (qv (v:=.bg _) rfl) (QoR (qq Z (qc 0 Qx rfl rfl rfl) (qq Z (kt (kj (l0:=1) xQ un rfl rfl (by omega) (by omega) rfl) hv2) (qe (qf 0 Z uI rfl rfl rfl (vs:=[.sg _ _ _]) rfl rfl rfl (xH rfl) (cs':=[_]) rfl) ?_))))))))));clear Z;rintro _ w_1⟨rfl,Z⟩;refine QoR (qq Z (qx (v:=.bg _) rfl) (qq Z (jI uA QL rfl hcv) (qq Z (qv (v:=.int .u64 _) rfl) (QoN (xO (ret1 results148 (qg (v:=.int .u64 _) rfl) ?_))))));exact⟨rfl,_,_,Z,fun J h=>by
   have h2:=RSl.slL h 1 (by simp);rw[List.drop_one,hv2]at h2;exact h2⟩
set_option maxRecDepth 20000 in
set_option maxHeartbeats 2000000 in
theorem dec_c (M : Mdl) (hM : MdlOk M) (s0 : M.S) (hs0 : M.inv s0) (n : Int) (hbeg : ∀ (w : World) (I : Imm), Sat I w → Ctr prog 94 [.ig n] w (fun v w' => ∃ I' F, Ext w I w' I' ∧ M.holds I' v s0 F ∧ ∀ c ∈ F, w.heap.size ≤ c))
 (x:List Int) (hx:Byt x) (hxl:x.length≤65536) (ad:Option Addr) (cap:Nat) (b:List Int) (hbe:encP M s0 x=b) (w0:World) (I0:Imm) (hI:Sat I0 w0) (hb:RBytes I0 (.sg ad b.length cap) b) :
 Ctr prog 130 [.ig n,.sg ad b.length cap,.ig x.length] w0 (fun v w'=>∃I' a c,v = .tuple #[.sg a x.length c,.ig 0]∧Ext w0 I0 w' I'∧RBytes I' (.sg a x.length c) x):=by
 have hbb:=(encP_ok hM hs0 hx).1;rw[hbe]at hbb;obtain⟨hFg,_,_⟩:=zV hM hs0 hx x.length (uc _);have hFb:trimZ (tailC (encUp M s0 x x.length).1)=b:=hbe;have hnest:=fun k (hk:k≤x.length)=>nest_up hM hs0 hx hk
 obtain⟨Fin,hFin⟩:∃f,(encUp M s0 x x.length).1=f:=⟨_,rfl⟩
 rw[hFin]at hFg hFb hnest;refine fn (n:=128) func130 rfl rfl rfl ?_;have Z:=St.start hI;refine QwR (qq Z (qd _) (qq Z (Qai rfl) (QoR (qq Z (Qmi rfl) (qe (qi call94 rfl (hbeg _ _ Z.imm)) ?_)))));rintro mv w_1⟨I1,F1,hE,hH1,hF1⟩;replace Z:=Z.callE hE;obtain⟨mT,mx,hmv⟩:=hM.iface _ _ _ _ hH1;have hFn1:∀c∈F1,w0.heap.size≤c:=fun c hc=>hF1 c hc
 refine qq Z (qd _) (QoN (xJ (QwR (qq Z (qb _) (qq Z (g_ifaceNil model_ty hmv rfl) (qq Z (Qmb rfl) (qqs rfl rfl Z (Qmi rfl) (qqs rfl rfl Z (g_ltF13 rfl rfl (by omega)) (qq Z (g_or rfl rfl (fun _=>rfl)) (qq Z (Qmb rfl) (qqs rfl rfl Z (Qmi rfl) (qqs rfl rfl Z (g_gtF13 rfl rfl (by omega)) (qq Z (g_or rfl rfl (fun _=>rfl)) ?_)))))))))))));refine QoN (qV (rfl) (xM (xL (QwR (qq Z (qb _) (qe (qr (cs:=[.sg _ _ _]) Z JR rfl) ?_))))));clear Z;rintro _ w_2⟨b9,rfl,Z⟩;refine qe (qf 0 Z uI rfl rfl rfl (vs:=[.sg _ _ _]) rfl rfl rfl (xH rfl) (cs':=[_]) rfl) ?_;clear Z;rintro _ w_3⟨rfl,Z⟩;refine QoR (qq Z (jP ml0 (ml rfl ml0)) (qq Z (qd _) (QoR (qq Z (qv (v:=.int .u64 _) rfl) (QoN (xJ (QwR (qq Z (Qmi rfl) (QoN (xU (loop (fun(z:D0W) σ w=>okS σ [(0,.ig n),(1,.sg ad b.length cap),(2,.ig x.length),(8,mv),(10,.func (.func 148) #[] #[.zg b9]),(11,.int .u64 (strV b z.k)),(35,.ig z.k)]∧St [] w0 I0 I1 w [.cel b9 22 [.slice z.a (b.drop (z.k)).length z.c]]∧z.k≤4∧RBytes I0 (.slice z.a (b.drop (z.k)).length z.c) (b.drop (z.k))) (fun z=>4 - z.k) (⟨0,ad,cap⟩) ?_ ?_)))))))))))
 ·
  exact⟨⟨rfl,rfl,rfl,rfl,rfl,rfl,rfl,trivial⟩,Z.sel [true],Nat.zero_le _,hb⟩
 ·
  rintro⟨k,a,c⟩σ w_l⟨hs,Z,hk0,hr⟩;dsimp only at hs Z hk0 hr ⊢;rw[← qj hs]; clear hs
  refine QwR (qq Z (g_lss rfl rfl) (QoN (xJ (qh rfl ?_ ?_))))
  ·
   intro hc36
   try simp only[zA,zO,zN,zI,zF,zM,zT,zU]at hc36
   have hv1:=strV4 hbb (k:=k) (by omega);have hv2:=strV4 hbb (k:=k+1) (by omega);have hv3:=zr hbb k;rw[strV]at hv2;have hw38:IntKind.u64.wrap (strV b k*256)=strV b k*256:=by rw[IntKind.wrap_u64]; omega
   have hw41:IntKind.u64.wrap (strV b k*256+(b.drop k).headD 0)=strV b (k+1):=by rw[drop_head,strV,IntKind.wrap_u64]; omega
   refine xM (xL (xJ (xU (reg (qq Z (qx (v:=.int .u64 _) rfl) (qq Z (ze rfl rfl hw38) (qq Z (qb _) (qe (zb call148 rfl rfl (next_c b9 a c (b.drop (k)) _ _ Z.imm (qG Z (k:=0) rfl) (qF Z (k:=0) rfl) (hr.mono Z.ext) (fun y hy=>hbb y (List.mem_of_mem_drop hy)))) ?_))))))));rintro _ w_4⟨rfl,aN,cN,hE,hrN⟩;replace Z:=Z.callX (k:=0) rfl hE;have hrM:=hrN I0 hr;rw[List.tail_drop]at Z hrM;refine qq Z (vU rfl rfl hw41) (qq Z (qv (v:=.int .u64 _) rfl) (qy (uM (xL (reg (qq Z (g_add rfl rfl (by omega) (by omega)) (qq Z (Qmi rfl) ?_)))))));exact⟨⟨k+1,aN,cN⟩,_,rfl,⟨⟨rfl,rfl,rfl,rfl,rfl,rfl,rfl,trivial⟩,Z.sel [true],by dsimp only; omega,hrM⟩,by dsimp only; omega⟩
  ·
   intro hc36
   try simp only[zA,zO,zN,zI,zF,zM,zT,zU]at hc36
   obtain rfl:k=4:=by omega
   refine ur (um (um (Qi (xL (QwR (qq Z (qv (v:=.int .u64 _) rfl) (QoR (qq Z (Qmi rfl) (qe (xo Z xQ QP rfl rfl (by omega) (by omega) (by omega)) ?_)))))))));clear Z;rintro _ w_5⟨a44,p44,rfl,Z⟩;refine qq Z (qd _) (QoN (xJ (QwR (qq Z (Qmi rfl) (qq Z (Qmi rfl) (QoN (xU (loop (fun(z:DecW M) σ w=>okS σ [(0,.ig n),(1,.sg ad b.length cap),(8,mv),(10,.func (.func 148) #[] #[.zg b9]),(11,.int .u64 (ahd b z.cs)),(12,.int .u64 z.cs.size),(13,.sg z.d z.k z.e),(45,.ig x.length),(46,.ig z.k)]∧∃I,St [] w0 I0 I w [.cel b9 22 [.slice z.a (b.drop (4+z.cs.out.length)).length z.c],.row (.sg z.d z.k z.e) 5 1 z.k (flat byteC (x.take z.k))]∧z.k≤x.length∧encUp M s0 x z.k=(z.cs,z.s)∧Good13 z.cs∧M.inv z.s∧RBytes I0 (.slice z.a (b.drop (4+z.cs.out.length)).length z.c) (b.drop (4+z.cs.out.length))∧∃F,M.holds I mv z.s F∧∀c∈F,w0.heap.size≤c) (fun z=>x.length - z.k) (⟨0,startC,s0,a,c,a44,p44⟩) ?_ ?_))))))))
   ·
    exact⟨⟨rfl,rfl,rfl,rfl,congrArg (Value.int .u64) (by show strV b 4=strV b (4+0) - valS startC; show strV b 4=strV b 4 - 0; omega),rfl,rfl,rfl,rfl,trivial⟩,_,Z.ord [1,0],Nat.zero_le _,rfl,⟨xD,by show(16777216:Int)≤4294967295; decide⟩,hs0,hr,F1,hH1,hFn1⟩
   ·
    rintro⟨k,cs,s,a,c_,d,e⟩σ w_l⟨hs,I,Z,hk0,hup,hGd,hMi,hr,F,hH,hFn⟩;dsimp only at hs Z hk0 hup hGd hMi hr hH ⊢;rw[← qj hs]; clear hs
    refine QwR (qq Z (g_lss rfl rfl) (QoN (xJ (qh rfl ?_ ?_))))
    ·
     intro hc47
     try simp only[zA,zO,zN,zI,zF,zM,zT,zU]at hc47
     obtain⟨y,hyi⟩:∃y,x[k]? = some y:=⟨_,xI (by omega)⟩
     have hyb:=hx y (xR hyi);have hnx:=ve (M:=M) (s0:=s0) hyi;rw[hup]at hnx;have hA:=hM.tab s hMi;obtain⟨A,hAe⟩:∃A,M.tab s=A:=⟨_,rfl⟩
     have hg2:=yy hGd hA (show y.toNat < 256 by omega);have hMi2:=hM.nxt s y.toNat hMi (by omega);replace hnx:encUp M s0 x (k+1)=(stepC cs A y.toNat,M.nxt s y.toNat):=by rw[hnx]; unfold encF; rw[hAe]
     rw[hAe]at hA hg2;obtain⟨q1,q2,q3⟩:=je A.c y.toNat hA.pos (by rw[hA.len]; omega);rw[hA.sum]at q3;have hAt:1≤A.t∧A.t≤65536:=⟨by omega,hA.top⟩
     obtain⟨r1,r2⟩:=zk hGd.big hAt;obtain⟨u1,u2⟩:=hGd.ok.low;obtain⟨u3,u4⟩:=hGd.ok.size;have hpo:=put_ok hGd.ok (r:=cs.size / A.t) (before:=(A.c.take y.toNat).sum) (cnt:=A.c.getD y.toNat 0) (t:=A.t) (by omega) q1 q2 q3 r2;obtain⟨before,hbf⟩:∃x,(A.c.take y.toNat).sum=x:=⟨_,rfl⟩
     obtain⟨cnt,hct⟩:∃x,A.c.getD y.toNat 0=x:=⟨_,rfl⟩
     obtain⟨r,hrq⟩:∃x,cs.size / A.t=x:=⟨_,rfl⟩
     have hcn:A.c[y.toNat]? = some cnt:=by rw[← hct,xT]; rw[xI (show y.toNat < A.c.length by rw[hA.len]; omega)]; rfl
     rw[hbf]at q1 q3 hpo;rw[hct]at q2 q3 hpo;rw[hrq]at r1 r2 hpo;have e1:r*before+r*cnt≤r*A.t:=by rw[← Int.mul_add]; exact Int.mul_le_mul_of_nonneg_left q3 (by omega)
     have e2:0≤r*before:=Int.mul_nonneg (by omega) q1;have e3:1≤r*cnt:=by have:=Int.mul_le_mul (show 1≤r by omega) q2 (by omega) (by omega); omega
     have hrle:r≤cs.size:=by rw[← hrq]; exact Int.ediv_le_self _ (by omega)
     obtain⟨rb,hrb⟩:∃x,r*before=x:=⟨_,rfl⟩
     obtain⟨rc,hrc⟩:∃x,r*cnt=x:=⟨_,rfl⟩
     rw[hrb]at e1 e2;rw[hrc]at e1 e3;have hrw:IntKind.u64.wrap (cs.size / A.t)=r:=by rw[hrq,IntKind.wrap_u64]; omega
     have hcb:∀n∈A.c.take y.toNat,0≤n∧n≤4294967295:=fun n hn=>by
      have h0:=List.mem_of_mem_take hn;obtain⟨j,hj,hjn⟩:=List.getElem_of_mem h0;have h2:=je A.c j hA.pos hj;rw[xT,xI hj,hA.sum]at h2;simp at h2; omega
     have hty:y.toNat=(A.c.take y.toNat).length:=by rw[uo,hA.len]; omega
     have hm1:IntKind.u64.wrap (r*(A.c.take y.toNat).sum)=rb:=by rw[hbf,hrb,IntKind.wrap_u64]; omega
     have hm3:IntKind.u64.wrap cnt=cnt:=by rw[IntKind.wrap_u64]; omega
     have hm4:IntKind.u64.wrap (r*cnt)=rc:=by rw[hrc,IntKind.wrap_u64]; omega
     have hstep:stepC cs A y.toNat=normC 4 (putC cs r before cnt):=by unfold stepC; rw[hrq,hbf,hct]
     have hpl:=xj cs r before cnt;obtain⟨P1,hP1⟩:∃P,putC cs r before cnt=P:=⟨_,rfl⟩
     rw[hP1]at hpo hstep hpl;rw[hstep]at hnx hg2;have hin:=ahd_in hFg.ok hFb (t:=cs) (by have:=hnest k hk0; rw[hup]at this; exact this);have hnk:=hnest (k+1) (by omega);rw[hnx]at hnk;have hP1n:Nest Fin P1:=vM 4 hnk;have hP1i:=ahd_in hFg.ok hFb hP1n;obtain⟨hp1,hp2⟩:=ahd_put (b:=b) hGd.ok (r:=r) (before:=before) (cnt:=cnt) (t:=A.t) (by omega) q1 q2 q3 r2;rw[hP1,hrb]at hp1;rw[hP1,hrc]at hp2;rw[hp2]at hP1i;have hw86:IntKind.u64.wrap (ahd b cs - rb)=ahd b P1:=by rw[IntKind.wrap_u64]; omega
     have hcy:IntKind.u8.wrap (y.toNat:Int)=y:=by rw[IntKind.wrap_u8]; omega
     have hyt:(y.toNat:Int)=y:=by omega
     have hrct:r*(before+cnt)=rb+rc:=by rw[Int.mul_add,hrb,hrc]
     have htk:=qz hyi;refine xM (xL (xJ (xU (QwR (qq Z (qb _) (qe (hM.counts _ mv s F Z.imm hH hMi rfl) ?_))))));rintro v50 w_6⟨I2,F2,tb,hv50,hC,hH2,hT2,hF2⟩;rw[hAe]at hv50 hT2;subst hv50;have hsz0:=Z.size;replace Z:=St.chg hI Z (fun c hc=>⟨hM.foot _ _ _ _ hH c hc,hFn c hc⟩) hC;have hFn2:∀c∈F2,w0.heap.size≤c:=fun c hc=>(hF2 c hc).elim (hFn c) (fun h=>Nat.le_trans hsz0 h)
     refine qq Z (qb _) (qq Z (qk rfl rfl) (qq Z (qk (v:=.int .u64 _) rfl rfl) (qq Z (qd _) (qq Z (qv (v:=.int .u64 _) rfl) (QoR (qq Z (qx (v:=.int .u64 _) rfl) (qq Z (qx (v:=.int .u64 _) rfl) (qq Z (vw rfl rfl (by omega) (by omega) hrw) (qq Z (qv (v:=.int .u64 _) rfl) (QoR (qq Z (Qai rfl) ?_)))))))))));refine qq Z (qv (v:=.int .u64 _) rfl) (QoN (xJ (xU (loop (fun(c:Nat) σ w=>okS σ [(0,.ig n),(1,.sg ad b.length cap),(8,mv),(10,.func (.func 148) #[] #[.zg b9]),(11,.int .u64 (ahd b cs)),(12,.int .u64 cs.size),(13,.sg d k e),(14,.zg tb),(15,.int .u64 A.t),(16,.int .u64 r),(17,.ig c),(18,.int .u64 (A.c.take c).sum),(45,.ig x.length),(46,.ig k)]∧St [] w0 I0 I2 w [.cel b9 22 [.slice a (b.drop (4+cs.out.length)).length c_],.row (.sg d k e) 5 1 k (flat byteC (x.take k))]∧c≤y.toNat) (fun c=>y.toNat - c) (0) ?_ ?_))))
     ·
      exact⟨⟨rfl,rfl,rfl,rfl,rfl,rfl,rfl,rfl,rfl,rfl,rfl,rfl,rfl,rfl,trivial⟩,Z.sel [true,true],Nat.zero_le _⟩
     ·
      rintro c σ w_l⟨hs,Z,hcl⟩;rw[← qj hs]; clear hs
      refine xJ (xJ ?_);obtain⟨lc,hlc⟩:∃n,A.c[c]? = some n:=⟨_,xI (by rw[hA.len]; omega)⟩
      have hlt:=je A.c c hA.pos (by rw[hA.len]; omega);rw[xT,hlc,hA.sum]at hlt;obtain⟨lt1,lt2,lt3⟩:=hlt;dsimp only[Option.getD_some]at lt2 lt3;have hrl1:r*((A.c.take c).sum+lc)≤r*A.t:=Int.mul_le_mul_of_nonneg_left lt3 (by omega);have hrl2:0≤r*((A.c.take c).sum+lc):=Int.mul_nonneg (by omega) (by omega);have hw66:IntKind.u64.wrap lc=lc:=by rw[IntKind.wrap_u64]; omega
      have hw67:IntKind.u64.wrap ((A.c.take c).sum+lc)=(A.c.take c).sum+lc:=by rw[IntKind.wrap_u64]; omega
      have hw68:IntKind.u64.wrap (r*((A.c.take c).sum+lc))=r*((A.c.take c).sum+lc):=by rw[IntKind.wrap_u64]; omega
      refine reg (qq Z (Qmi rfl) (qq Z (g_lss rfl rfl) (qq Z (Qmb rfl) (qu rfl rfl Z (fun hg=>(qx (v:=.int .u64 _) rfl)) ?_))));intro u59 hu59 hn59;refine qu rfl rfl Z (fun hg=>(qx (v:=.int .u64 _) rfl)) ?_;intro u60 hu60 hn60;refine qu rfl rfl Z (fun hg=>(qb _)) ?_;intro u61 hu61 hn61;refine qu rfl rfl Z (fun hg=>(Qmi rfl)) ?_;intro u62 hu62 hn62;refine qu rfl rfl Z (fun hg=>(qm (hu61 hg))) ?_;intro u63 hu63 hn63;refine qu rfl rfl Z (fun hg=>(qQ (o':=c) QU uV (hu63 hg) (hu62 hg) (by omega) (by omega) (by omega))) ?_;intro u64 hu64 hn64;refine qu rfl rfl Z (fun hg=>(zP QH (atCell hT2.hold) (hu64 hg) (xb hlc))) ?_;intro u65 hu65 hn65;refine qu rfl rfl Z (fun hg=>(jI uv QL (hu65 hg) hw66)) ?_;intro u66 hu66 hn66;refine qu rfl rfl Z (fun hg=>(vU (hu60 hg) (hu66 hg) hw67)) ?_;intro u67 hu67 hn67;refine qu rfl rfl Z (fun hg=>(ze (hu59 hg) (hu67 hg) hw68)) ?_;intro u68 hu68 hn68;refine qu rfl rfl Z (fun hg=>(qx (v:=.int .u64 _) rfl)) ?_;intro u69 hu69 hn69;refine qu rfl rfl Z (fun hg=>(g_leq (hu68 hg) (hu69 hg))) ?_;intro u70 hu70 hn70;refine qq Z (g_and rfl rfl (fun hq=>hu70 hq)) (QoN (qh rfl ?_ ?_))
      ·
       intro hc71;clear hu59 hn59 hu60 hn60 hu61 hn61 hu62 hn62 hu63 hn63 hu64 hn64 hu65 hn65 hu66 hn66 hu67 hn67 hu68 hn68 hu69 hn69 hu70 hn70;have hc1:c < y.toNat:=by
        rw[uC,ua,ua]at hc71;refine Nat.lt_of_le_of_ne hcl fun e=>?_
        subst e;rw[hcn]at hlc;obtain rfl:=Option.some.inj hlc;rw[hbf,hrct]at hc71;omega
       have hlc256:c < 255:=by omega
       have hw79:IntKind.u64.wrap ((A.c.take c).sum+lc)=(A.c.take (c+1)).sum:=by rw[yN hlc,IntKind.wrap_u64]; omega
       refine xM (xL (xU (QwR (qq Z (qx (v:=.int .u64 _) rfl) (qq Z (qb _) (qq Z (Qmi rfl) (qq Z (qm rfl) (qq Z (qQ (o':=c) QU uV rfl rfl (by omega) (by omega) (by omega)) (qq Z (zP QH (atCell hT2.hold) rfl (xb hlc)) (qq Z (jI uv QL rfl hw66) (qq Z (vU rfl rfl hw79) (qq Z (qv (v:=.int .u64 _) rfl) ?_))))))))))));refine QoN (reg (qq Z (Qmi rfl) (qq Z (g_add rfl rfl (by omega) (by omega)) (qq Z (Qai rfl) ?_))));exact⟨c+1,_,rfl,⟨⟨rfl,rfl,rfl,rfl,rfl,rfl,rfl,rfl,rfl,rfl,rfl,rfl,rfl,rfl,trivial⟩,Z.sel [true,true],by omega⟩,by omega⟩
      ·
       intro hc71;clear hu59 hn59 hu60 hn60 hu61 hn61 hu62 hn62 hu63 hn63 hu64 hn64 hu65 hn65 hu66 hn66 hu67 hn67 hu68 hn68 hu69 hn69 hu70 hn70;obtain rfl:c=y.toNat:=by
        refine Nat.le_antisymm hcl (Nat.le_of_not_lt fun hlt=>?_);have h1:=sum_take_mono A.c (c+1) y.toNat hA.pos (by omega);rw[yN hlc,hbf]at h1;have h2:r*((A.c.take c).sum+lc)≤rb:=by rw[← hrb]; exact Int.mul_le_mul_of_nonneg_left h1 (by omega)
        rw[Bool.and_eq_false_iff,xZ,xZ]at hc71;omega
       rw[hbf]at *;refine ur (um (um (Qi (xL (QwR (qq Z (qx (v:=.int .u64 _) rfl) (qq Z (qx (v:=.int .u64 _) rfl) (qq Z (qx (v:=.int .u64 _) rfl) (qq Z (ze rfl rfl hm1) (qq Z (g_subu rfl rfl hw86) (qq Z (qv (v:=.int .u64 _) rfl) (QoR (qq Z (qx (v:=.int .u64 _) rfl) (qq Z (qb _) (qq Z (Qmi rfl) (qq Z (qm rfl) ?_))))))))))))))));refine qq Z (qQ (o':=y.toNat) QU uV rfl rfl (by omega) (by omega) (by omega)) (qq Z (zP QH (atCell hT2.hold) rfl (xb hcn)) (qq Z (jI uv QL rfl hm3) (qq Z (ze rfl rfl hm4) (qq Z (qv (v:=.int .u64 _) rfl) (QoN (xJ (QwR (qq Z (qx (v:=.int .u64 _) rfl) (qq Z (qx (v:=.int .u64 _) rfl) (qq Z (g_geq rfl rfl) ?_))))))))));refine QoN (qV (congrArg Value.bool (uw (by omega))) (xM (xL (xJ (xU (loop (fun(z:NrmW) σ w=>okS σ [(0,.ig n),(1,.sg ad b.length cap),(8,mv),(10,.func (.func 148) #[] #[.zg b9]),(11,.int .u64 (ahd b z.s)),(12,.int .u64 z.s.size),(13,.sg d k e),(17,.ig y.toNat),(45,.ig x.length),(46,.ig k)]∧St [] w0 I0 I2 w [.cel b9 22 [.slice z.a (b.drop (4+z.s.out.length)).length z.c],.row (.sg d k e) 5 1 k (flat byteC (x.take k))]∧normC z.j z.s=normC 4 P1∧CsOk z.s∧16777216≤z.s.size*256 ^ z.j∧RBytes I0 (.slice z.a (b.drop (4+z.s.out.length)).length z.c) (b.drop (4+z.s.out.length))) (fun z=>z.j) (⟨4,P1,a,c_⟩) ?_ ?_))))))
       ·
        refine⟨⟨rfl,rfl,rfl,rfl,rfl,?_,rfl,rfl,rfl,rfl,trivial⟩,?_,rfl,hpo,?_,?_⟩
        · exact congrArg (Value.int .u64) hp2.symm
        · dsimp only; rw[hpl]; exact Z.sel [true,true]
        · dsimp only
          have:=hpo.size.1;omega
        · dsimp only; rw[hpl]; exact hr
       ·
        rintro⟨j,t,a,c⟩σ w_l⟨hs,Z,hne,hns,hnb,hr⟩;dsimp only at hs Z hne hns hnb hr ⊢;rw[← qj hs]; clear hs
        refine xJ (QwR (qq Z (qx (v:=.int .u64 _) rfl) (qq Z (g_lss rfl rfl) (QoN (qh rfl ?_ ?_)))))
        ·
         intro hc99
         try simp only[zA,zO,zN,zI,zF,zM,zT,zU]at hc99
         obtain⟨j',rfl⟩:∃j',j=j'+1:=by
          cases j with
          | zero=>simp at hnb; omega
          | succ j'=>exact⟨j',rfl⟩
         have hno:=vo hns hc99;have hti:=ahd_in hFg.ok hFb (t:=t) (vM (j'+1) (by rw[hne]; exact hnk));have hgb:=zr hbb (4+t.out.length);have hstp:=ahd_step (b:=b) (t:=t);have hne2:normC j' ⟨t.low % 16777216*256,t.size*256,t.out++[t.low / 16777216]⟩=normC 4 P1:=by
          rw[← hne];conv=>rhs; unfold normC
          rw[xS hc99]
         obtain⟨v3,v4⟩:=hns.size;have hn3:IntKind.u64.wrap (ahd b t*256)=ahd b t*256:=by rw[IntKind.wrap_u64]; omega
         have hn4:IntKind.u64.wrap (t.size*256)=t.size*256:=by rw[IntKind.wrap_u64]; omega
         have hn5:IntKind.u64.wrap (ahd b t*256+(b.drop (4+t.out.length)).headD 0)=ahd b ⟨t.low % 16777216*256,t.size*256,t.out++[t.low / 16777216]⟩:=by rw[drop_head,hstp,IntKind.wrap_u64]; omega
         have hnb2:16777216≤t.size*256*256 ^ j':=by rw[jn,← Int.mul_assoc]at hnb; exact hnb
         refine xM (xL (xJ (xU (reg (qq Z (qx (v:=.int .u64 _) rfl) (qq Z (ze rfl rfl hn3) (qq Z (qb _) (qe (zb call148 rfl rfl (next_c b9 a c (b.drop (4+t.out.length)) _ _ Z.imm (qG Z (k:=0) rfl) (qF Z (k:=0) rfl) (hr.mono Z.ext) (fun y hy=>hbb y (List.mem_of_mem_drop hy)))) ?_))))))));rintro _ w_7⟨rfl,aN,cN,hE,hrN⟩;replace Z:=Z.callX (k:=0) rfl hE;have hrM:=hrN I0 hr;rw[List.tail_drop]at Z hrM;refine qq Z (vU rfl rfl hn5) (qq Z (qv (v:=.int .u64 _) rfl) (qy (uM (xL (reg (qq Z (qx (v:=.int .u64 _) rfl) (qq Z (ze rfl rfl hn4) (qq Z (qv (v:=.int .u64 _) rfl) ?_))))))));refine⟨⟨j',⟨t.low % 16777216*256,t.size*256,t.out++[t.low / 16777216]⟩,aN,cN⟩,_,rfl,⟨⟨rfl,rfl,rfl,rfl,rfl,rfl,rfl,rfl,rfl,rfl,trivial⟩,?_,hne2,hno,hnb2,?_⟩,by dsimp only; omega⟩
         · dsimp only; rw[xN]; exact Z.sel [true,true]
         · dsimp only; rw[xN]; exact hrM
        ·
         intro hc99
         try simp only[zA,zO,zN,zI,zF,zM,zT,zU]at hc99
         have hte:t=normC 4 P1:=by
          rw[← hne];cases j with
          | zero=>rfl
          | succ j'=>unfold normC; rw[xP (by omega)]
         refine ur (um (um (Qi (xL (xJ ?_)))));subst hte;refine reg (qq Z (qb _) (qq Z (Qmi rfl) (qq Z (jI ut uA rfl hcy) ?_)));refine qe (d_lit (vs:=[.bg _]) (cs:=[.bg _]) Z xQ un QZ rfl rfl rfl rfl (fun v hv=>by simp only[xV,xY,or_false]at hv; subst hv; rfl) rfl) ?_;clear Z;rintro _ w_8⟨b_8,rfl,Z⟩;refine qe (qB 2 0 Z rfl xQ QP rfl rfl rfl rfl rfl rfl rfl rfl (by omega) (by omega)) ?_;clear Z;rintro _ w_9⟨a111,p111,rfl,Z⟩;refine qq Z (qd _) (QoN (reg (qq Z (qb _) (qq Z (Qmi rfl) (qq Z (jI ut uA rfl hcy) (qe (hM.saw _ mv s F2 y.toNat (by omega) Z.imm hH2 hMi rfl (congrArg (Value.int .u8) hyt.symm)) ?_))))));rintro _ w_10⟨I3,F3,rfl,hC,hH3,hF3⟩;have hsz1:=Z.size;replace Z:=St.chg hI Z (fun c hc=>⟨hM.foot _ _ _ _ hH2 c hc,hFn2 c hc⟩) hC;have hFn3:∀c∈F3,w0.heap.size≤c:=fun c hc=>(hF3 c hc).elim (hFn2 c) (fun h=>Nat.le_trans hsz1 h)
         refine qy (uM (xL (reg (qq Z (g_add rfl rfl (by omega) (by omega)) (qq Z (Qmi rfl) ?_)))));refine⟨⟨k+1,normC 4 P1,M.nxt s y.toNat,a,c,a111,p111⟩,_,rfl,⟨⟨rfl,rfl,rfl,rfl,rfl,rfl,rfl,rfl,rfl,trivial⟩,_,?_,by dsimp only; omega,hnx,hg2,hMi2,hr,F3,hH3,hFn3⟩,by dsimp only; omega⟩;dsimp only;rw[htk,ql,qS];exact Z.sel [false,true,true]
    ·
     intro hc47
     try simp only[zA,zO,zN,zI,zF,zM,zT,zU]at hc47
     obtain rfl:k=x.length:=by omega
     rw[uL]at Z;refine ur (um (um (Qi (xL (xJ (xJ ?_))))));have hF:=St.freezeRow (u:=.sg d x.length e) (m:=x.length) (xs:=x) qA (by exact Z.ord [1,0]) (rfl);clear Z;obtain⟨I_hout,Z,hI_hout,hout⟩:=hF;refine reg (qq Z (Qmi rfl) (qq Z (qb _) (qe (qi call46 rfl (enc_c M hM s0 hs0 n hbeg _ _ x _ _ Z.imm hout hx hxl)) ?_)));rintro _ w_11⟨I_f,a120,c120,rfl,hE,h120⟩;replace Z:=Z.callE hE;replace hout:=hout.mono hE.ext;refine qq Z (qb _) (qq Z (qk rfl rfl) (qq Z (Qxi rfl rfl) (qq Z (qd _) (qq Z (Qai rfl) (QoR (qq Z (qb _) (qq Z (qb _) (qe (qi call78 rfl (equalB_c _ _ _ _ (encP M s0 x) b _ _ Z.imm h120 (hb.mono Z.ext))) ?_))))))));rintro _ w_12⟨rfl,hE⟩;replace Z:=Z.callE hE;refine qq Z (g_not rfl) (QoN ?_);refine qV (congrArg Value.bool (by rw[uH hbe]; rfl)) ?_;refine xM (xL (QwR (qq Z (qb _) (qq Z (qd _) (qq Z (Qai rfl) (QoN (xO (ret2 results130 (qg rfl) (qg (v:=.ig _) rfl) ?_))))))));exact⟨_,_,_,rfl,Z.nil,hout⟩
end Go.Proofs.YtgkgihnpjgbmhaaGreatDoor
