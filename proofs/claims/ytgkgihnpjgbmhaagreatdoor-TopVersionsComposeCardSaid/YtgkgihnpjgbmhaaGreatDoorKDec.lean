/- coder.Decode of nothing. Conditions: none. What a code of the range coder says, read from its front: plain laws. Conditions: none. coder.Decode of a code: it gives the text. Conditions: none. -/
import Derived.Test.YtgkgihnpjgbmhaaGreatDoorPk14
import Derived.Test.YtgkgihnpjgbmhaaGreatDoorKLaw
set_option linter.unusedSimpArgs false
set_option linter.unusedVariables false
namespace Go.Proofs.YtgkgihnpjgbmhaaGreatDoor
open Tryz
open Go Go.RowKit Go.Inl
set_option maxHeartbeats 1000000 in
theorem equalB_c (a1 a2 : Option Addr) (c1 c2 : Nat) (x y : List Int) (w0 : World) (I0 : Imm) (hI : Sat I0 w0) (hx : RBytes I0 (.slice a1 x.length c1) x) (hy : RBytes I0 (.slice a2 y.length c2) y) :
 Ctr prog 78 [.slice a1 x.length c1,.slice a2 y.length c2] w0 (fun v w'=>v = .bool (decide (x=y))∧Ext w0 I0 w' I0):=by
 have hxl:=RSl.le hx;have hyl:=RSl.le hy;simp only[maxLen]at hxl hyl;refine fn (n:=26) func78 rfl rfl rfl ?_;have hS:=St.start hI;refine QwR (qq hS (Qab rfl) (QoN (vD (QwR (qq hS (qb _) (qq hS (qo rfl vH hx rfl) (qq hS (qb _) (qq hS (qo rfl vH hy rfl) (qq hS (g_neq rfl rfl) (QoN (qj rfl ?_ ?_)))))))))))
 ·
  intro hc10
  try simp only[zA,zO,zN,zI,zF,zM,zT,zU]at hc10
  have hne:¬x=y:=fun e=>by subst e; omega
  refine QwR (qq hS (Qab rfl) (QoN (vM (xF (ret1 results78 (qh (v:=.bool _) rfl) ?_)))));exact⟨by rw[xX hne],hS.nil⟩
 ·
  intro hc10
  try simp only[zA,zO,zN,zI,zF,zM,zT,zU]at hc10
  have hlen:x.length=y.length:=by omega
  refine vL (vK (vD (QwR (qq hS (qb _) (qq hS (qo rfl vH hx rfl) (qq hS (Qmi rfl) (QoN (vS (loop (fun(k:Nat) σ w=>okS σ [(0,.slice a1 x.length c1),(1,.slice a2 y.length c2),(12,.int .i64 x.length),(13,.int .i64 k)]∧St [] w0 I0 I0 w []∧k≤x.length∧x.take k=y.take k) (fun k=>x.length - k) (0) ?_ ?_)))))))))
  ·
   exact⟨⟨rfl,rfl,rfl,rfl,trivial⟩,hS.sel [],Nat.zero_le _,rfl⟩
  ·
   rintro k σ w_l⟨hs,hS,hk0,htk⟩;rw[← qk hs]; clear hs
   refine QwR (qq hS (g_lss rfl rfl) (QoN (vD (qj rfl ?_ ?_))))
   ·
    intro hc14
    try simp only[zA,zO,zN,zI,zF,zM,zT,zU]at hc14
    obtain⟨p,hp⟩:∃p,x[k]? = some p:=⟨_,vC (by omega)⟩
    obtain⟨q,hq⟩:∃q,y[k]? = some q:=⟨_,vC (by omega)⟩
    have hpA:=hx.at hp;have hqA:=hy.at hq;refine vL (vK (vD (vS (QwR (qq hS (Qmi rfl) (qq hS (Qai rfl) (QoN (vD (draw (.cons 0 .pure (.cons 1 .pure (.cons 2 .pure (.cons 3 .held (.cons 4 .pure (.cons 5 .pure (.cons 6 .pure (.cons 7 .held (.cons 8 .pure .nil))))))))) mixed (by kernel_rfl) hS ?_)))))))));intro w_1 hS;refine sp rfl (qb _) (sp rfl (Qmi rfl) (sp rfl (g_ixI vH xd hx rfl rfl (by omega) (by omega)) (sh rfl (qJ xR hpA rfl rfl) (sp rfl (qb _) (sp rfl (Qmi rfl) (sp rfl (g_ixI vH xd hy rfl rfl (by omega) (by omega)) (sh rfl (qJ xR hqA rfl rfl) (sp rfl (g_neq rfl rfl) (sn (vK (qj rfl ?_ ?_)))))))))))
    ·
     intro hc24
     try simp only[zA,zO,zN,zI,zF,zM,zT,zU]at hc24
     have hne:¬x=y:=fun e=>by subst e; rw[hp]at hq; exact hc24 (Option.some.inj hq)
     refine QwR (qq hS (Qab rfl) (QoN (vM (uJ (xF (xF (uJ (xF (ret1 results78 (qh (v:=.bool _) rfl) ?_)))))))));exact⟨by rw[xX hne],hS.nil⟩
    ·
     intro hc24
     try simp only[zA,zO,zN,zI,zF,zM,zT,zU]at hc24
     obtain rfl:p=q:=by simpa using hc24
     have htk2:x.take (k+1)=y.take (k+1):=by rw[qy hp,qy hq,htk]
     refine vL (xO (vK (reg (qq hS (g_add rfl rfl (by omega) (by omega)) (qq hS (Qmi rfl) ?_)))));exact⟨k+1,_,rfl,⟨⟨rfl,rfl,rfl,rfl,trivial⟩,hS.sel [],by omega,htk2⟩,by omega⟩
   ·
    intro hc14
    try simp only[zA,zO,zN,zI,zF,zM,zT,zU]at hc14
    obtain rfl:k=x.length:=by omega
    have heq:x=y:=by rw[xB,hlen,xB]at htk; exact htk
    refine xm (xh (xh (ua (vK (QwR (qq hS (Qab rfl) (QoN (vM (ret1 results78 (qh (v:=.bool _) rfl) ?_)))))))));exact⟨by rw[ur heq],hS.nil⟩
end Go.Proofs.YtgkgihnpjgbmhaaGreatDoor
namespace Go.Proofs.YtgkgihnpjgbmhaaGreatDoor
open Tryz
open Go Go.RowKit Go.Inl
def valS (s:Cs):Int:=4294967296*valC s.out+s.low
theorem put_val {s : Cs} (h : CsOk s) {r before cnt t : Int} (hr : 1 ≤ r) (hb : 0 ≤ before) (hc : 1 ≤ cnt) (ht : before + cnt ≤ t) (hrt : r * t ≤ s.size) :
 valS (putC s r before cnt)=valS s+r*before∧(putC s r before cnt).size=r*cnt∧(putC s r before cnt).out.length=s.out.length:=by
 have e1:r*before+r*cnt≤r*t:=by rw[← Int.mul_add]; exact Int.mul_le_mul_of_nonneg_left ht (by omega)
 have e3:1≤r*cnt:=by have:=Int.mul_le_mul hr hc (by omega) (by omega); omega
 have e2:0≤r*before:=Int.mul_nonneg (by omega) hb;obtain⟨rb,hrb⟩:∃x,r*before=x:=⟨_,rfl⟩
 obtain⟨rc,hrc⟩:∃x,r*cnt=x:=⟨_,rfl⟩
 refine⟨?_,?_,yr s r before cnt⟩
 · rw [hrb, hrc] at e1
   rw[hrb]at e2;rw[hrc]at e3;have hl:=h.low;have hs:=h.size;unfold putC;rw[hrb,hrc];split
   · have hcv := CsOk.carry (s := s) (lo := s.low + rb) (si := rc) h.byt (by have := h.all; omega) (by omega) (by omega)
     obtain⟨_,hv,_⟩:=carried_val h.byt hcv;unfold valS;dsimp only;rw[hv]; omega
   · unfold valS; dsimp only; omega
 · unfold putC; split <;> rfl
theorem norm_val : ∀ (k : Nat) (s : Cs), ∃ j, valS (normC k s) = 256 ^ j * valS s ∧ (normC k s).size = 256 ^ j * s.size ∧ (normC k s).out.length = s.out.length + j
 | 0,s=>⟨0,by simp[normC],by simp[normC],rfl⟩
 | k+1,s=>by
   unfold normC;split
   · obtain ⟨j, h1, h2, h3⟩ := norm_val k ⟨s.low % 16777216 * 256, s.size * 256, s.out ++ [s.low / 16777216]⟩
     have e:valS ⟨s.low % 16777216*256,s.size*256,s.out++[s.low / 16777216]⟩=256*valS s:=by unfold valS; dsimp only; rw[jp]; omega
     refine⟨j+1,?_,?_,?_⟩
     · rw[h1,e,Int.pow_succ,Int.mul_assoc]
     · rw[h2,Int.pow_succ,Int.mul_assoc]; dsimp only; rw[Int.mul_comm s.size]
     · rw[h3,vE]; simp; omega
   · exact⟨0,by simp,by simp,rfl⟩
def Nest (f t:Cs):Prop:=t.out.length≤f.out.length∧256 ^ (f.out.length - t.out.length)*valS t≤valS f∧valS f+f.size≤256 ^ (f.out.length - t.out.length)*(valS t+t.size)
theorem zZ {f t:Cs}(k:Nat)(h:Nest f (normC k t)):Nest f t:=by
 obtain⟨j,h1,h2,h3⟩:=norm_val k t;obtain⟨g1,g2,g3⟩:=h;rw[h3]at g1 g2 g3;rw[h1]at g2;rw[h1,h2,← Int.mul_add,← Int.mul_assoc,← Int.pow_add]at g3;rw[← Int.mul_assoc,← Int.pow_add]at g2;rw[show f.out.length - (t.out.length+j)+j=f.out.length - t.out.length by omega]at g2 g3;exact⟨by omega,g2,g3⟩
theorem nest_put {f s:Cs}(hs:CsOk s){r before cnt t:Int}(hr:1≤r)(hb:0≤before)(hc:1≤cnt)(ht:before+cnt≤t)(hrt:r*t≤s.size)(h:Nest f (putC s r before cnt)):Nest f s:=by
 obtain⟨h1,h2,h3⟩:=put_val hs hr hb hc ht hrt;obtain⟨g1,g2,g3⟩:=h;rw[h3]at g1 g2 g3;rw[h1]at g2;rw[h1,h2]at g3;have e2:0≤r*before:=Int.mul_nonneg (by omega) hb;have e1:r*before+r*cnt≤r*t:=by rw[← Int.mul_add]; exact Int.mul_le_mul_of_nonneg_left ht (by omega)
 have hp:0≤(256:Int) ^ (f.out.length - s.out.length):=Int.le_of_lt (zp _);exact⟨g1,Int.le_trans (Int.mul_le_mul_of_nonneg_left (by omega) hp) g2,Int.le_trans g3 (Int.mul_le_mul_of_nonneg_left (by omega) hp)⟩
theorem step_facts {s:Cs}{A:Ad}{x:Nat}(h:Good13 s)(hA:AdOk A)(hx:x < 256):1≤s.size / A.t∧0≤(A.c.take x).sum∧1≤A.c.getD x 0∧(A.c.take x).sum+A.c.getD x 0≤A.t∧s.size / A.t*A.t≤s.size:=by
 obtain⟨q1,q2,q3⟩:=qS A.c x hA.pos (by rw[hA.len]; exact hx);rw[hA.sum]at q3;obtain⟨r1,r2⟩:=kp h.big (show 1≤A.t∧A.t≤65536 from⟨by omega,hA.top⟩);exact⟨by omega,q1,q2,q3,r2⟩
theorem nest_step {f s:Cs}{A:Ad}{x:Nat}(h:Good13 s)(hA:AdOk A)(hx:x < 256)(hn:Nest f (stepC s A x)):Nest f s:=by
 obtain⟨q1,q2,q3,q4,q5⟩:=step_facts h hA hx;exact nest_put h.ok q1 q2 q3 q4 q5 (zZ 4 hn)
theorem nest_fold {M : Mdl} (hM : MdlOk M) : ∀ (ys : List Int) (p : Cs × M.S), Good13 p.1 → M.inv p.2 → Byt ys → Nest (ys.foldl (encF M) p).1 p.1
 | [],p,_,_,_=>⟨vX _,by rw[List.foldl_nil,Nat.sub_self]; simp,by rw[List.foldl_nil,Nat.sub_self]; simp⟩
 | y::ys,p,h1,h2,h3=>by
   have hy:=h3 y (List.mem_cons_self ..);have hx:y.toNat < 256:=by omega
   have:=nest_fold hM ys (encF M p y) (zd h1 (hM.tab _ h2) hx) (hM.nxt _ _ h2 hx) (fun z hz=>h3 z (List.mem_cons_of_mem _ hz));exact nest_step h1 (hM.tab _ h2) hx this
theorem nest_up {M:Mdl}(hM:MdlOk M){s0:M.S}(hs0:M.inv s0){x:List Int}(hx:Byt x){k:Nat}(hk:k≤x.length):Nest (encUp M s0 x x.length).1 (encUp M s0 x k).1:=by
 obtain⟨h1,h2,_⟩:=kI hM hs0 hx k hk;have:=nest_fold hM (x.drop k) (encUp M s0 x k) h1 h2 (fun y hy=>hx y (List.mem_of_mem_drop hy));have e:(x.drop k).foldl (encF M) (encUp M s0 x k)=encUp M s0 x x.length:=by
  unfold encUp;rw[← List.foldl_append,List.take_append_drop,xB]
 rwa [e]at this
def strV (b : List Int) : Nat → Int
 | 0=>0
 | m+1=>256*strV b m+b.getD m 0
theorem trimZ_getD (l:List Int)(j:Nat):(trimZ l).getD j 0=l.getD j 0:=by
 refine ko (p:=fun l=>∀j,(trimZ l).getD j 0=l.getD j 0) ?_ ?_ l j
 · intro j; rfl
 · intro l d ih j
   by_cases h:d=0
   · subst h
     rw[trimZ_zero,ih];simp only[vQ];by_cases hj:j < l.length
     · rw[xg hj]
     · rw [xx (by omega), List.getElem?_eq_none (by omega)]
       cases h:j - l.length with
       | zero=>rfl
       | succ n=>rfl
   · rw[trimZ_ne l h]
theorem strV_take (l : List Int) : ∀ m, m ≤ l.length → strV (trimZ l) m = valC (l.take m)
 | 0,_=>rfl
 | m+1,h=>by
   obtain⟨y,hy⟩:∃y,l[m]? = some y:=⟨_,vC (by omega)⟩
   rw[strV,strV_take l m (by omega),trimZ_getD,qy hy,jp,vQ,hy]; rfl
theorem tail_val {s:Cs}(h:CsOk s):valC (tailC s)=valS s:=by
 have:=h.low;unfold tailC valS;rw[jV];show 256 ^ 4*valC s.out+(256*(256*(256*(256*0+s.low / 16777216)+s.low / 65536 % 256)+s.low / 256 % 256)+s.low % 256)=_
 omega
theorem dec_in {f t:Cs}(hf:CsOk f)(h:Nest f t):valS t≤strV (trimZ (tailC f)) (4+t.out.length)∧strV (trimZ (tailC f)) (4+t.out.length) < valS t+t.size:=by
 obtain⟨g1,g2,g3⟩:=h;have hl:=kL f;rw[strV_take _ _ (by omega)];have hv:=tail_val hf;conv at hv=>lhs; rw[← List.take_append_drop (4+t.out.length) (tailC f)]
 rw[jV]at hv;obtain⟨d1,d2⟩:=valC_bd ((tailC f).drop (4+t.out.length)) (fun y hy=>tail_byt hf y (List.mem_of_mem_drop hy));rw[ug,hl,show f.out.length+4 - (4+t.out.length)=f.out.length - t.out.length by omega]at hv d2;have hs:=hf.size;obtain⟨e,he⟩:∃e:Int,256 ^ (f.out.length - t.out.length)=e:=⟨_,rfl⟩
 have hp:0 < e:=by rw[← he]; exact zp _
 rw[he]at hv d2 g2 g3;obtain⟨S,hS⟩:∃S,valC ((tailC f).take (4+t.out.length))=S:=⟨_,rfl⟩
 rw[hS]at hv ⊢;constructor
 · refine Int.le_of_lt_add_one (Int.lt_of_mul_lt_mul_left (a := e) ?_ (by omega))
   rw[Int.mul_add]; omega
 · refine Int.lt_of_mul_lt_mul_left (a := e) ?_ (by omega)
   omega
end Go.Proofs.YtgkgihnpjgbmhaaGreatDoor
namespace Go.Proofs.YtgkgihnpjgbmhaaGreatDoor
open Tryz
open Go Go.RowKit Go.Inl
def ahd (b:List Int)(s:Cs):Int:=strV b (4+s.out.length) - valS s
theorem ku {b:List Int}(h:Byt b)(j:Nat):0≤b.getD j 0∧b.getD j 0≤255:=by
 rw[vQ];cases hj:b[j]? with
 | none=>exact⟨Int.le_refl _,by show(0:Int)≤255; decide⟩
 | some y=>exact h y (vI hj)
theorem strV4 {b:List Int}(h:Byt b){k:Nat}(hk:k≤4):0≤strV b k∧strV b k≤4294967295:=by
 have h0:=ku h 0;have h1:=ku h 1;have h2:=ku h 2;have h3:=ku h 3;match k,hk with
 | 0,_=>exact⟨Int.le_refl _,by show(0:Int)≤4294967295; decide⟩
 | 1,_=>simp only[strV]; omega
 | 2,_=>simp only[strV]; omega
 | 3,_=>simp only[strV]; omega
 | 4,_=>simp only[strV]; omega
theorem drop_head (b:List Int)(k:Nat):(b.drop k).headD 0=b.getD k 0:=by
 rw[vQ,← List.head?_drop];cases b.drop k <;> rfl
theorem ahd_step {b:List Int}{t:Cs}:ahd b ⟨t.low % 16777216*256,t.size*256,t.out++[t.low / 16777216]⟩=ahd b t*256+b.getD (4+t.out.length) 0:=by
 unfold ahd;have e:valS ⟨t.low % 16777216*256,t.size*256,t.out++[t.low / 16777216]⟩=256*valS t:=by unfold valS; dsimp only; rw[jp]; omega
 rw[e];dsimp only;rw[vE,show 4+(t.out.length+[t.low / 16777216].length)=(4+t.out.length)+1 from rfl,strV];omega
theorem ahd_put {b : List Int} {s : Cs} (h : CsOk s) {r before cnt t : Int} (hr : 1 ≤ r) (hb : 0 ≤ before) (hc : 1 ≤ cnt) (ht : before + cnt ≤ t) (hrt : r * t ≤ s.size) :
 ahd b (putC s r before cnt)=ahd b s - r*before∧(putC s r before cnt).size=r*cnt:=by
 obtain⟨h1,h2,h3⟩:=put_val h hr hb hc ht hrt;unfold ahd;rw[h1,h3];exact⟨by omega,h2⟩
theorem vA {b:List Int}{f t:Cs}(hf:CsOk f)(hb:trimZ (tailC f)=b)(h:Nest f t):0≤ahd b t∧ahd b t < t.size:=by
 have:=dec_in hf h;rw[hb]at this;unfold ahd; omega
theorem sum_take_mono : ∀ (l : List Int) (i j : Nat), (∀ n ∈ l, 1 ≤ n) → i ≤ j → (l.take i).sum ≤ (l.take j).sum
 | l,0,j,h,_=>by
   have:=yV (l.take j) (fun n hn=>h n (List.mem_of_mem_take hn));rw[List.take_zero,List.sum_nil]; omega
 | [],i+1,j,h,_=>by rw[List.take_nil,List.take_nil]; exact Int.le_refl _
 | x::l,i+1,0,h,hij=>by omega
 | x::l,i+1,j+1,h,hij=>by
   have:=sum_take_mono l i j (fun n hn=>h n (List.mem_cons_of_mem _ hn)) (by omega);rw[List.take_succ_cons,List.take_succ_cons,List.sum_cons,List.sum_cons]; omega
structure D0W where
 k:Nat
 a:Option Addr
 c:Nat
structure DecW (M : Mdl) where
 k:Nat
 cs:Cs
 s:M.S
 a:Option Addr
 c:Nat
 d:Option Addr
 e:Nat
theorem g_ltF13 {P:Program}{n:Nat}{σ:Nat→Value}{S:World→Prop}{t t' ty:TypeId}{x y:Operand}{k:IntKind}{a b:Int}(hx:ev n σ x = .int k a)(hy:ev n σ y = .int k b)(h:¬a < b):Gives P (ev n σ) S (.binOp .lss t x y t') ty (.bool false):=by
 have:=g_lss (P:=P) (S:=S) (t:=t) (t':=t') (ty:=ty) hx hy;rwa [xX h]at this
theorem g_gtF13 {P:Program}{n:Nat}{σ:Nat→Value}{S:World→Prop}{t t' ty:TypeId}{x y:Operand}{k:IntKind}{a b:Int}(hx:ev n σ x = .int k a)(hy:ev n σ y = .int k b)(h:¬b < a):Gives P (ev n σ) S (.binOp .gtr t x y t') ty (.bool false):=by
 have:=g_gtr (P:=P) (S:=S) (t:=t) (t':=t') (ty:=ty) hx hy;rwa [xX h]at this
theorem next_c (b : Nat) (ad : Option Addr) (cap : Nat) (l : List Int) (w0 : World) (I0 : Imm) (hI : Sat I0 w0) (hb : w0.heap[b]? = some (.cells [.slice ad l.length cap].toArray 22 (0, 0))) (hn : I0 b = none) (hl : RBytes I0 (.slice ad l.length cap) l) (hlb : Byt l) :
 Ctr prog 148 [.pointer (some ⟨b,0,none⟩)] w0 (fun v w'=>v = .int .u64 (l.headD 0)∧∃a c,St [b] w0 I0 I0 w' [.cel b 22 [.slice a l.tail.length c]]∧∀J,RBytes J (.slice ad l.length cap) l→RBytes J (.slice a l.tail.length c) l.tail):=by
 have hll:=RSl.le hl;simp only[maxLen]at hll;refine fn (n:=13) func148 rfl rfl rfl ?_;have hS:St [b] w0 I0 I0 w0 [.cel b 22 [.slice ad l.length cap]]:=St.startX hI hb hn;refine QwR (qq hS (qr (v:=.int .u64 _) rfl) (QoN (vD (QwR (qq hS (qd 0 ub rfl rfl rfl) (qq hS (qo rfl vH hl rfl) (qq hS (g_eql rfl rfl) (QoN (qj rfl ?_ ?_)))))))))
 ·
  intro hc5
  try simp only[zA,zO,zN,zI,zF,zM,zT,zU]at hc5
  obtain rfl:l=[]:=uk.1 (by omega);refine QwR (qq hS (qr (v:=.int .u64 _) rfl) (QoN (vM (xF (ret1 results148 (qh (v:=.int .u64 _) rfl) ?_)))));exact⟨rfl,_,_,hS,fun J h=>h⟩
 ·
  intro hc5
  try simp only[zA,zO,zN,zI,zF,zM,zT,zU]at hc5
  obtain⟨y,l2,rfl⟩:∃y l2,l=y::l2:=by
   cases l with
   | nil=>exact absurd rfl hc5
   | cons y l2=>exact⟨y,l2,rfl⟩
  have hyb:=hlb y (List.mem_cons_self ..);have hcv:IntKind.u64.wrap y=y:=by rw[IntKind.wrap_u64]; omega
  have hyA:=hl.at (show(y::l2)[(0:Int).toNat]? = some y from rfl);have hs2:=RSl.slL hl 1 (by simp);rw[List.drop_one]at hs2;obtain⟨a2,c2,hv2,_⟩:=hs2.len;rw[hv2]at hs2;refine vL (vK (QwR (qq hS (qd 0 ub rfl rfl rfl) (qq hS (g_ixI vH xd hl rfl rfl (by omega) (by omega)) (qq hS (qJ xR hyA rfl rfl) (qq hS (qr (v:=.int .u8 _) rfl) (QoR (qq hS (qd 0 ub rfl rfl rfl) (qq hS (jB (yc (l0:=1) vH xd rfl rfl (by omega) (by omega) rfl) hv2) (qe (qf 0 hS xj rfl rfl rfl (vs:=[.slice _ _ _]) rfl rfl rfl (vB rfl) (cs':=[_]) rfl) ?_))))))))));clear hS;rintro _ w_1⟨rfl,hS⟩;refine QoR (qq hS (qs (v:=.int .u8 _) rfl) (qq hS (jm xI ul rfl hcv) (qq hS (qr (v:=.int .u64 _) rfl) (QoN (vM (ret1 results148 (qh (v:=.int .u64 _) rfl) ?_))))));exact⟨rfl,_,_,hS,fun J h=>by
   have h2:=RSl.slL h 1 (by simp);rw[List.drop_one,hv2]at h2;exact h2⟩
set_option maxRecDepth 20000 in
set_option maxHeartbeats 2000000 in
theorem dec_c (M : Mdl) (hM : MdlOk M) (s0 : M.S) (hs0 : M.inv s0) (n : Int) (hbeg : ∀ (w : World) (I : Imm), Sat I w → Ctr prog 94 [.int .i64 n] w (fun v w' => ∃ I' F, Ext w I w' I' ∧ M.holds I' v s0 F ∧ ∀ c ∈ F, w.heap.size ≤ c))
 (x:List Int) (hx:Byt x) (hxl:x.length≤65536) (ad:Option Addr) (cap:Nat) (b:List Int) (hbe:encP M s0 x=b) (w0:World) (I0:Imm) (hI:Sat I0 w0) (hb:RBytes I0 (.slice ad b.length cap) b) :
 Ctr prog 130 [.int .i64 n,.slice ad b.length cap,.int .i64 x.length] w0 (fun v w'=>∃I' a c,v = .tuple #[.slice a x.length c,.int .i64 0]∧Ext w0 I0 w' I'∧RBytes I' (.slice a x.length c) x):=by
 have hbb:=(vp hM hs0 hx).1;rw[hbe]at hbb;obtain⟨hFg,_,_⟩:=kI hM hs0 hx x.length (vX _);have hFb:trimZ (tailC (encUp M s0 x x.length).1)=b:=hbe;have hnest:=fun k (hk:k≤x.length)=>nest_up hM hs0 hx hk
 obtain⟨Fin,hFin⟩:∃f,(encUp M s0 x x.length).1=f:=⟨_,rfl⟩
 rw[hFin]at hFg hFb hnest;refine fn (n:=128) func130 rfl rfl rfl ?_;have hS:=St.start hI;refine QwR (qq hS (qc _) (qq hS (Qai rfl) (QoR (qq hS (Qmi rfl) (qe (qg call94 rfl (hbeg _ _ hS.imm)) ?_)))));rintro mv w_1⟨I1,F1,hE,hH1,hF1⟩;replace hS:=hS.callE hE;obtain⟨mT,mx,hmv⟩:=hM.iface _ _ _ _ hH1;have hFn1:∀c∈F1,w0.heap.size≤c:=fun c hc=>hF1 c hc
 refine qq hS (qc _) (QoN (vD (QwR (qq hS (qb _) (qq hS (g_ifaceNil model_ty hmv rfl) (qq hS (Qmb rfl) (qqs rfl rfl hS (Qmi rfl) (qqs rfl rfl hS (g_ltF13 rfl rfl (by omega)) (qq hS (g_or rfl rfl (fun _=>rfl)) (qq hS (Qmb rfl) (qqs rfl rfl hS (Qmi rfl) (qqs rfl rfl hS (g_gtF13 rfl rfl (by omega)) ?_))))))))))));refine qq hS (g_or rfl rfl (fun _=>rfl)) (QoN (jf (rfl) (vL (vK (QwR (qq hS (qb _) (qe (qv (cs:=[.slice _ _ _]) hS zeroValue22 rfl) ?_)))))));clear hS;rintro _ w_2⟨b9,rfl,hS⟩;refine qe (qf 0 hS xj rfl rfl rfl (vs:=[.slice _ _ _]) rfl rfl rfl (vB rfl) (cs':=[_]) rfl) ?_;clear hS;rintro _ w_3⟨rfl,hS⟩;refine QoR (qq hS (g_makeFuncL ml0 (ml rfl ml0)) (qq hS (qc _) (QoR (qq hS (qr (v:=.int .u64 _) rfl) (QoN (vD (QwR (qq hS (Qmi rfl) (QoN (vS (loop (fun(z:D0W) σ w=>okS σ [(0,.int .i64 n),(1,.slice ad b.length cap),(2,.int .i64 x.length),(8,mv),(10,.func (.func 148) #[] #[.pointer (some ⟨b9,0,none⟩)]),(11,.int .u64 (strV b z.k)),(35,.int .i64 z.k)]∧St [] w0 I0 I1 w [.cel b9 22 [.slice z.a (b.drop (z.k)).length z.c]]∧z.k≤4∧RBytes I0 (.slice z.a (b.drop (z.k)).length z.c) (b.drop (z.k))) (fun z=>4 - z.k) (⟨0,ad,cap⟩) ?_ ?_)))))))))))
 ·
  exact⟨⟨rfl,rfl,rfl,rfl,rfl,rfl,rfl,trivial⟩,hS.sel [true],Nat.zero_le _,hb⟩
 ·
  rintro⟨k,a,c⟩σ w_l⟨hs,hS,hk0,hr⟩;dsimp only at hs hS hk0 hr ⊢;rw[← qk hs]; clear hs
  refine QwR (qq hS (g_lss rfl rfl) (QoN (vD (qj rfl ?_ ?_))))
  ·
   intro hc36
   try simp only[zA,zO,zN,zI,zF,zM,zT,zU]at hc36
   have hv1:=strV4 hbb (k:=k) (by omega);have hv2:=strV4 hbb (k:=k+1) (by omega);have hv3:=ku hbb k;rw[strV]at hv2;have hw38:IntKind.u64.wrap (strV b k*256)=strV b k*256:=by rw[IntKind.wrap_u64]; omega
   have hw41:IntKind.u64.wrap (strV b k*256+(b.drop k).headD 0)=strV b (k+1):=by rw[drop_head,strV,IntKind.wrap_u64]; omega
   refine vL (vK (vD (vS (reg (qq hS (qs (v:=.int .u64 _) rfl) (qq hS (kj rfl rfl hw38) (qq hS (qb _) (qe (yy call148 rfl rfl (next_c b9 a c (b.drop (k)) _ _ hS.imm (qA hS (k:=0) rfl) (qz hS (k:=0) rfl) (hr.mono hS.ext) (fun y hy=>hbb y (List.mem_of_mem_drop hy)))) ?_))))))));rintro _ w_4⟨rfl,aN,cN,hE,hrN⟩;replace hS:=hS.callX (k:=0) rfl hE;have hrM:=hrN I0 hr;rw[List.tail_drop]at hS hrM;refine qq hS (ye rfl rfl hw41) (qq hS (qr (v:=.int .u64 _) rfl) (qB (xO (vK (reg (qq hS (g_add rfl rfl (by omega) (by omega)) (qq hS (Qmi rfl) ?_)))))));exact⟨⟨k+1,aN,cN⟩,_,rfl,⟨⟨rfl,rfl,rfl,rfl,rfl,rfl,rfl,trivial⟩,hS.sel [true],by dsimp only; omega,hrM⟩,by dsimp only; omega⟩
  ·
   intro hc36
   try simp only[zA,zO,zN,zI,zF,zM,zT,zU]at hc36
   obtain rfl:k=4:=by omega
   refine xm (xh (xh (ua (vK (QwR (qq hS (qr (v:=.int .u64 _) rfl) (QoR (qq hS (Qmi rfl) (qe (yu hS vH uH rfl rfl (by omega) (by omega) (by omega)) ?_)))))))));clear hS;rintro _ w_5⟨a44,p44,rfl,hS⟩;refine qq hS (qc _) (QoN (vD (QwR (qq hS (Qmi rfl) (qq hS (Qmi rfl) (QoN (vS (loop (fun(z:DecW M) σ w=>okS σ [(0,.int .i64 n),(1,.slice ad b.length cap),(8,mv),(10,.func (.func 148) #[] #[.pointer (some ⟨b9,0,none⟩)]),(11,.int .u64 (ahd b z.cs)),(12,.int .u64 z.cs.size),(13,.slice z.d z.k z.e),(45,.int .i64 x.length),(46,.int .i64 z.k)]∧∃I,St [] w0 I0 I w [.cel b9 22 [.slice z.a (b.drop (4+z.cs.out.length)).length z.c],.row (.slice z.d z.k z.e) 5 1 z.k (flat byteC (x.take z.k))]∧z.k≤x.length∧encUp M s0 x z.k=(z.cs,z.s)∧Good13 z.cs∧M.inv z.s∧RBytes I0 (.slice z.a (b.drop (4+z.cs.out.length)).length z.c) (b.drop (4+z.cs.out.length))∧∃F,M.holds I mv z.s F∧∀c∈F,w0.heap.size≤c) (fun z=>x.length - z.k) (⟨0,startC,s0,a,c,a44,p44⟩) ?_ ?_))))))))
   ·
    exact⟨⟨rfl,rfl,rfl,rfl,congrArg (Value.int .u64) (by show strV b 4=strV b (4+0) - valS startC; show strV b 4=strV b 4 - 0; omega),rfl,rfl,rfl,rfl,trivial⟩,_,hS.ord [1,0],Nat.zero_le _,rfl,⟨yD,by show(16777216:Int)≤4294967295; decide⟩,hs0,hr,F1,hH1,hFn1⟩
   ·
    rintro⟨k,cs,s,a,c_,d,e⟩σ w_l⟨hs,I,hS,hk0,hup,hGd,hMi,hr,F,hH,hFn⟩;dsimp only at hs hS hk0 hup hGd hMi hr hH ⊢;rw[← qk hs]; clear hs
    refine QwR (qq hS (g_lss rfl rfl) (QoN (vD (qj rfl ?_ ?_))))
    ·
     intro hc47
     try simp only[zA,zO,zN,zI,zF,zM,zT,zU]at hc47
     obtain⟨y,hyi⟩:∃y,x[k]? = some y:=⟨_,vC (by omega)⟩
     have hyb:=hx y (vI hyi);have hnx:=zv (M:=M) (s0:=s0) hyi;rw[hup]at hnx;have hA:=hM.tab s hMi;obtain⟨A,hAe⟩:∃A,M.tab s=A:=⟨_,rfl⟩
     have hg2:=zd hGd hA (show y.toNat < 256 by omega);have hMi2:=hM.nxt s y.toNat hMi (by omega);replace hnx:encUp M s0 x (k+1)=(stepC cs A y.toNat,M.nxt s y.toNat):=by rw[hnx]; unfold encF; rw[hAe]
     rw[hAe]at hA hg2;obtain⟨q1,q2,q3⟩:=qS A.c y.toNat hA.pos (by rw[hA.len]; omega);rw[hA.sum]at q3;have hAt:1≤A.t∧A.t≤65536:=⟨by omega,hA.top⟩
     obtain⟨r1,r2⟩:=kp hGd.big hAt;obtain⟨u1,u2⟩:=hGd.ok.low;obtain⟨u3,u4⟩:=hGd.ok.size;have hpo:=vx hGd.ok (r:=cs.size / A.t) (before:=(A.c.take y.toNat).sum) (cnt:=A.c.getD y.toNat 0) (t:=A.t) (by omega) q1 q2 q3 r2;obtain⟨before,hbf⟩:∃x,(A.c.take y.toNat).sum=x:=⟨_,rfl⟩
     obtain⟨cnt,hct⟩:∃x,A.c.getD y.toNat 0=x:=⟨_,rfl⟩
     obtain⟨r,hrq⟩:∃x,cs.size / A.t=x:=⟨_,rfl⟩
     have hcn:A.c[y.toNat]? = some cnt:=by rw[← hct,vQ]; rw[vC (show y.toNat < A.c.length by rw[hA.len]; omega)]; rfl
     rw[hbf]at q1 q3 hpo;rw[hct]at q2 q3 hpo;rw[hrq]at r1 r2 hpo;have e1:r*before+r*cnt≤r*A.t:=by rw[← Int.mul_add]; exact Int.mul_le_mul_of_nonneg_left q3 (by omega)
     have e2:0≤r*before:=Int.mul_nonneg (by omega) q1;have e3:1≤r*cnt:=by have:=Int.mul_le_mul (show 1≤r by omega) q2 (by omega) (by omega); omega
     have hrle:r≤cs.size:=by rw[← hrq]; exact Int.ediv_le_self _ (by omega)
     obtain⟨rb,hrb⟩:∃x,r*before=x:=⟨_,rfl⟩
     obtain⟨rc,hrc⟩:∃x,r*cnt=x:=⟨_,rfl⟩
     rw[hrb]at e1 e2;rw[hrc]at e1 e3;have hrw:IntKind.u64.wrap (cs.size / A.t)=r:=by rw[hrq,IntKind.wrap_u64]; omega
     have hcb:∀n∈A.c.take y.toNat,0≤n∧n≤4294967295:=fun n hn=>by
      have h0:=List.mem_of_mem_take hn;obtain⟨j,hj,hjn⟩:=List.getElem_of_mem h0;have h2:=qS A.c j hA.pos hj;rw[vQ,vC hj,hA.sum]at h2;simp at h2; omega
     have hty:y.toNat=(A.c.take y.toNat).length:=by rw[xc,hA.len]; omega
     have hm1:IntKind.u64.wrap (r*(A.c.take y.toNat).sum)=rb:=by rw[hbf,hrb,IntKind.wrap_u64]; omega
     have hm3:IntKind.u64.wrap cnt=cnt:=by rw[IntKind.wrap_u64]; omega
     have hm4:IntKind.u64.wrap (r*cnt)=rc:=by rw[hrc,IntKind.wrap_u64]; omega
     have hstep:stepC cs A y.toNat=normC 4 (putC cs r before cnt):=by unfold stepC; rw[hrq,hbf,hct]
     have hpl:=yr cs r before cnt;obtain⟨P1,hP1⟩:∃P,putC cs r before cnt=P:=⟨_,rfl⟩
     rw[hP1]at hpo hstep hpl;rw[hstep]at hnx hg2;have hin:=vA hFg.ok hFb (t:=cs) (by have:=hnest k hk0; rw[hup]at this; exact this);have hnk:=hnest (k+1) (by omega);rw[hnx]at hnk;have hP1n:Nest Fin P1:=zZ 4 hnk;have hP1i:=vA hFg.ok hFb hP1n;obtain⟨hp1,hp2⟩:=ahd_put (b:=b) hGd.ok (r:=r) (before:=before) (cnt:=cnt) (t:=A.t) (by omega) q1 q2 q3 r2;rw[hP1,hrb]at hp1;rw[hP1,hrc]at hp2;rw[hp2]at hP1i;have hw86:IntKind.u64.wrap (ahd b cs - rb)=ahd b P1:=by rw[IntKind.wrap_u64]; omega
     have hcy:IntKind.u8.wrap (y.toNat:Int)=y:=by rw[IntKind.wrap_u8]; omega
     have hyt:(y.toNat:Int)=y:=by omega
     have hrct:r*(before+cnt)=rb+rc:=by rw[Int.mul_add,hrb,hrc]
     have htk:=qy hyi;refine vL (vK (vD (vS (QwR (qq hS (qb _) (qe (hM.counts _ mv s F hS.imm hH hMi rfl) ?_))))));rintro v50 w_6⟨I2,F2,tb,hv50,hC,hH2,hT2,hF2⟩;rw[hAe]at hv50 hT2;subst hv50;have hsz0:=hS.size;replace hS:=St.chg hI hS (fun c hc=>⟨hM.foot _ _ _ _ hH c hc,hFn c hc⟩) hC;have hFn2:∀c∈F2,w0.heap.size≤c:=fun c hc=>(hF2 c hc).elim (hFn c) (fun h=>Nat.le_trans hsz0 h)
     refine qq hS (qb _) (qq hS (qm rfl rfl) (qq hS (qm (v:=.int .u64 _) rfl rfl) (qq hS (qc _) (qq hS (qr (v:=.int .u64 _) rfl) (QoR (qq hS (qs (v:=.int .u64 _) rfl) (qq hS (qs (v:=.int .u64 _) rfl) (qq hS (zE rfl rfl (by omega) (by omega) hrw) (qq hS (qr (v:=.int .u64 _) rfl) (QoR (qq hS (Qai rfl) ?_)))))))))));refine qq hS (qr (v:=.int .u64 _) rfl) (QoN (vD (vS (loop (fun(c:Nat) σ w=>okS σ [(0,.int .i64 n),(1,.slice ad b.length cap),(8,mv),(10,.func (.func 148) #[] #[.pointer (some ⟨b9,0,none⟩)]),(11,.int .u64 (ahd b cs)),(12,.int .u64 cs.size),(13,.slice d k e),(14,.pointer (some ⟨tb,0,none⟩)),(15,.int .u64 A.t),(16,.int .u64 r),(17,.int .i64 c),(18,.int .u64 (A.c.take c).sum),(45,.int .i64 x.length),(46,.int .i64 k)]∧St [] w0 I0 I2 w [.cel b9 22 [.slice a (b.drop (4+cs.out.length)).length c_],.row (.slice d k e) 5 1 k (flat byteC (x.take k))]∧c≤y.toNat) (fun c=>y.toNat - c) (0) ?_ ?_))))
     ·
      exact⟨⟨rfl,rfl,rfl,rfl,rfl,rfl,rfl,rfl,rfl,rfl,rfl,rfl,rfl,rfl,trivial⟩,hS.sel [true,true],Nat.zero_le _⟩
     ·
      rintro c σ w_l⟨hs,hS,hcl⟩;rw[← qk hs]; clear hs
      refine vD (vD ?_);obtain⟨lc,hlc⟩:∃n,A.c[c]? = some n:=⟨_,vC (by rw[hA.len]; omega)⟩
      have hlt:=qS A.c c hA.pos (by rw[hA.len]; omega);rw[vQ,hlc,hA.sum]at hlt;obtain⟨lt1,lt2,lt3⟩:=hlt;dsimp only[Option.getD_some]at lt2 lt3;have hrl1:r*((A.c.take c).sum+lc)≤r*A.t:=Int.mul_le_mul_of_nonneg_left lt3 (by omega);have hrl2:0≤r*((A.c.take c).sum+lc):=Int.mul_nonneg (by omega) (by omega);have hw66:IntKind.u64.wrap lc=lc:=by rw[IntKind.wrap_u64]; omega
      have hw67:IntKind.u64.wrap ((A.c.take c).sum+lc)=(A.c.take c).sum+lc:=by rw[IntKind.wrap_u64]; omega
      have hw68:IntKind.u64.wrap (r*((A.c.take c).sum+lc))=r*((A.c.take c).sum+lc):=by rw[IntKind.wrap_u64]; omega
      refine reg (qq hS (Qmi rfl) (qq hS (g_lss rfl rfl) (qq hS (Qmb rfl) (qu rfl rfl hS (fun hg=>(qs (v:=.int .u64 _) rfl)) ?_))));intro u59 hu59 hn59;refine qu rfl rfl hS (fun hg=>(qs (v:=.int .u64 _) rfl)) ?_;intro u60 hu60 hn60;refine qu rfl rfl hS (fun hg=>(qb _)) ?_;intro u61 hu61 hn61;refine qu rfl rfl hS (fun hg=>(Qmi rfl)) ?_;intro u62 hu62 hn62;refine qu rfl rfl hS (fun hg=>(qi (hu61 hg))) ?_;intro u63 hu63 hn63;refine qu rfl rfl hS (fun hg=>(jk (o':=c) uq uC (hu63 hg) (hu62 hg) (by omega) (by omega) (by omega))) ?_;intro u64 hu64 hn64;refine qu rfl rfl hS (fun hg=>(kG Qd (atCell hT2.hold) (hu64 hg) (yk hlc))) ?_;intro u65 hu65 hn65;refine qu rfl rfl hS (fun hg=>(jm uU ul (hu65 hg) hw66)) ?_;intro u66 hu66 hn66;refine qu rfl rfl hS (fun hg=>(ye (hu60 hg) (hu66 hg) hw67)) ?_;intro u67 hu67 hn67;refine qu rfl rfl hS (fun hg=>(kj (hu59 hg) (hu67 hg) hw68)) ?_;intro u68 hu68 hn68;refine qu rfl rfl hS (fun hg=>(qs (v:=.int .u64 _) rfl)) ?_;intro u69 hu69 hn69;refine qu rfl rfl hS (fun hg=>(g_leq (hu68 hg) (hu69 hg))) ?_;intro u70 hu70 hn70;refine qq hS (g_and rfl rfl (fun hq=>hu70 hq)) (QoN (qj rfl ?_ ?_))
      ·
       intro hc71;clear hu59 hn59 hu60 hn60 hu61 hn61 hu62 hn62 hu63 hn63 hu64 hn64 hu65 hn65 hu66 hn66 hu67 hn67 hu68 hn68 hu69 hn69 hu70 hn70;have hc1:c < y.toNat:=by
        rw[xf,vU,vU]at hc71;refine Nat.lt_of_le_of_ne hcl fun e=>?_
        subst e;rw[hcn]at hlc;obtain rfl:=Option.some.inj hlc;rw[hbf,hrct]at hc71;omega
       have hlc256:c < 255:=by omega
       have hw79:IntKind.u64.wrap ((A.c.take c).sum+lc)=(A.c.take (c+1)).sum:=by rw[zl hlc,IntKind.wrap_u64]; omega
       refine vL (vK (vS (QwR (qq hS (qs (v:=.int .u64 _) rfl) (qq hS (qb _) (qq hS (Qmi rfl) (qq hS (qi rfl) (qq hS (jk (o':=c) uq uC rfl rfl (by omega) (by omega) (by omega)) (qq hS (kG Qd (atCell hT2.hold) rfl (yk hlc)) (qq hS (jm uU ul rfl hw66) (qq hS (ye rfl rfl hw79) (qq hS (qr (v:=.int .u64 _) rfl) ?_))))))))))));refine QoN (reg (qq hS (Qmi rfl) (qq hS (g_add rfl rfl (by omega) (by omega)) (qq hS (Qai rfl) ?_))));exact⟨c+1,_,rfl,⟨⟨rfl,rfl,rfl,rfl,rfl,rfl,rfl,rfl,rfl,rfl,rfl,rfl,rfl,rfl,trivial⟩,hS.sel [true,true],by omega⟩,by omega⟩
      ·
       intro hc71;clear hu59 hn59 hu60 hn60 hu61 hn61 hu62 hn62 hu63 hn63 hu64 hn64 hu65 hn65 hu66 hn66 hu67 hn67 hu68 hn68 hu69 hn69 hu70 hn70;obtain rfl:c=y.toNat:=by
        refine Nat.le_antisymm hcl (Nat.le_of_not_lt fun hlt=>?_);have h1:=sum_take_mono A.c (c+1) y.toNat hA.pos (by omega);rw[zl hlc,hbf]at h1;have h2:r*((A.c.take c).sum+lc)≤rb:=by rw[← hrb]; exact Int.mul_le_mul_of_nonneg_left h1 (by omega)
        rw[Bool.and_eq_false_iff,vW,vW]at hc71;omega
       rw[hbf]at *;refine xm (xh (xh (ua (vK (QwR (qq hS (qs (v:=.int .u64 _) rfl) (qq hS (qs (v:=.int .u64 _) rfl) (qq hS (qs (v:=.int .u64 _) rfl) (qq hS (kj rfl rfl hm1) (qq hS (g_subu rfl rfl hw86) (qq hS (qr (v:=.int .u64 _) rfl) (QoR (qq hS (qs (v:=.int .u64 _) rfl) (qq hS (qb _) (qq hS (Qmi rfl) ?_)))))))))))))));refine qq hS (qi rfl) (qq hS (jk (o':=y.toNat) uq uC rfl rfl (by omega) (by omega) (by omega)) (qq hS (kG Qd (atCell hT2.hold) rfl (yk hcn)) (qq hS (jm uU ul rfl hm3) (qq hS (kj rfl rfl hm4) (qq hS (qr (v:=.int .u64 _) rfl) (QoN (vD (QwR (qq hS (qs (v:=.int .u64 _) rfl) (qq hS (qs (v:=.int .u64 _) rfl) ?_))))))))));refine qq hS (g_geq rfl rfl) (QoN (jf (congrArg Value.bool (xX (by omega))) (vL (vK (vD (vS (loop (fun(z:NrmW) σ w=>okS σ [(0,.int .i64 n),(1,.slice ad b.length cap),(8,mv),(10,.func (.func 148) #[] #[.pointer (some ⟨b9,0,none⟩)]),(11,.int .u64 (ahd b z.s)),(12,.int .u64 z.s.size),(13,.slice d k e),(17,.int .i64 y.toNat),(45,.int .i64 x.length),(46,.int .i64 k)]∧St [] w0 I0 I2 w [.cel b9 22 [.slice z.a (b.drop (4+z.s.out.length)).length z.c],.row (.slice d k e) 5 1 k (flat byteC (x.take k))]∧normC z.j z.s=normC 4 P1∧CsOk z.s∧16777216≤z.s.size*256 ^ z.j∧RBytes I0 (.slice z.a (b.drop (4+z.s.out.length)).length z.c) (b.drop (4+z.s.out.length))) (fun z=>z.j) (⟨4,P1,a,c_⟩) ?_ ?_)))))))
       ·
        refine⟨⟨rfl,rfl,rfl,rfl,rfl,?_,rfl,rfl,rfl,rfl,trivial⟩,?_,rfl,hpo,?_,?_⟩
        · exact congrArg (Value.int .u64) hp2.symm
        · dsimp only; rw[hpl]; exact hS.sel [true,true]
        · dsimp only
          have:=hpo.size.1;omega
        · dsimp only; rw[hpl]; exact hr
       ·
        rintro⟨j,t,a,c⟩σ w_l⟨hs,hS,hne,hns,hnb,hr⟩;dsimp only at hs hS hne hns hnb hr ⊢;rw[← qk hs]; clear hs
        refine vD (QwR (qq hS (qs (v:=.int .u64 _) rfl) (qq hS (g_lss rfl rfl) (QoN (qj rfl ?_ ?_)))))
        ·
         intro hc99
         try simp only[zA,zO,zN,zI,zF,zM,zT,zU]at hc99
         obtain⟨j',rfl⟩:∃j',j=j'+1:=by
          cases j with
          | zero=>simp at hnb; omega
          | succ j'=>exact⟨j',rfl⟩
         have hno:=zC hns hc99;have hti:=vA hFg.ok hFb (t:=t) (zZ (j'+1) (by rw[hne]; exact hnk));have hgb:=ku hbb (4+t.out.length);have hstp:=ahd_step (b:=b) (t:=t);have hne2:normC j' ⟨t.low % 16777216*256,t.size*256,t.out++[t.low / 16777216]⟩=normC 4 P1:=by
          rw[← hne];conv=>rhs; unfold normC
          rw[vJ hc99]
         obtain⟨v3,v4⟩:=hns.size;have hn3:IntKind.u64.wrap (ahd b t*256)=ahd b t*256:=by rw[IntKind.wrap_u64]; omega
         have hn4:IntKind.u64.wrap (t.size*256)=t.size*256:=by rw[IntKind.wrap_u64]; omega
         have hn5:IntKind.u64.wrap (ahd b t*256+(b.drop (4+t.out.length)).headD 0)=ahd b ⟨t.low % 16777216*256,t.size*256,t.out++[t.low / 16777216]⟩:=by rw[drop_head,hstp,IntKind.wrap_u64]; omega
         have hnb2:16777216≤t.size*256*256 ^ j':=by rw[qY,← Int.mul_assoc]at hnb; exact hnb
         refine vL (vK (vD (vS (reg (qq hS (qs (v:=.int .u64 _) rfl) (qq hS (kj rfl rfl hn3) (qq hS (qb _) (qe (yy call148 rfl rfl (next_c b9 a c (b.drop (4+t.out.length)) _ _ hS.imm (qA hS (k:=0) rfl) (qz hS (k:=0) rfl) (hr.mono hS.ext) (fun y hy=>hbb y (List.mem_of_mem_drop hy)))) ?_))))))));rintro _ w_7⟨rfl,aN,cN,hE,hrN⟩;replace hS:=hS.callX (k:=0) rfl hE;have hrM:=hrN I0 hr;rw[List.tail_drop]at hS hrM;refine qq hS (ye rfl rfl hn5) (qq hS (qr (v:=.int .u64 _) rfl) (qB (xO (vK (reg (qq hS (qs (v:=.int .u64 _) rfl) (qq hS (kj rfl rfl hn4) (qq hS (qr (v:=.int .u64 _) rfl) ?_))))))));refine⟨⟨j',⟨t.low % 16777216*256,t.size*256,t.out++[t.low / 16777216]⟩,aN,cN⟩,_,rfl,⟨⟨rfl,rfl,rfl,rfl,rfl,rfl,rfl,rfl,rfl,rfl,trivial⟩,?_,hne2,hno,hnb2,?_⟩,by dsimp only; omega⟩
         · dsimp only; rw[vE]; exact hS.sel [true,true]
         · dsimp only; rw[vE]; exact hrM
        ·
         intro hc99
         try simp only[zA,zO,zN,zI,zF,zM,zT,zU]at hc99
         have hte:t=normC 4 P1:=by
          rw[← hne];cases j with
          | zero=>rfl
          | succ j'=>unfold normC; rw[vG (by omega)]
         refine xm (xh (xh (ua (vK (vD ?_)))));subst hte;refine reg (qq hS (qb _) (qq hS (Qmi rfl) (qq hS (jm uv xI rfl hcy) ?_)));refine qe (d_lit (vs:=[.int .u8 _]) (cs:=[.int .u8 _]) hS vH xd uR rfl rfl rfl rfl (fun v hv=>by simp only[vN,vP,or_false]at hv; subst hv; rfl) rfl) ?_;clear hS;rintro _ w_8⟨b_8,rfl,hS⟩;refine qe (qV 2 0 hS rfl vH uH rfl rfl rfl rfl rfl rfl rfl rfl (by omega) (by omega)) ?_;clear hS;rintro _ w_9⟨a111,p111,rfl,hS⟩;refine qq hS (qc _) (QoN (reg (qq hS (qb _) (qq hS (Qmi rfl) (qq hS (jm uv xI rfl hcy) (qe (hM.saw _ mv s F2 y.toNat (by omega) hS.imm hH2 hMi rfl (congrArg (Value.int .u8) hyt.symm)) ?_))))));rintro _ w_10⟨I3,F3,rfl,hC,hH3,hF3⟩;have hsz1:=hS.size;replace hS:=St.chg hI hS (fun c hc=>⟨hM.foot _ _ _ _ hH2 c hc,hFn2 c hc⟩) hC;have hFn3:∀c∈F3,w0.heap.size≤c:=fun c hc=>(hF3 c hc).elim (hFn2 c) (fun h=>Nat.le_trans hsz1 h)
         refine qB (xO (vK (reg (qq hS (g_add rfl rfl (by omega) (by omega)) (qq hS (Qmi rfl) ?_)))));refine⟨⟨k+1,normC 4 P1,M.nxt s y.toNat,a,c,a111,p111⟩,_,rfl,⟨⟨rfl,rfl,rfl,rfl,rfl,rfl,rfl,rfl,rfl,trivial⟩,_,?_,by dsimp only; omega,hnx,hg2,hMi2,hr,F3,hH3,hFn3⟩,by dsimp only; omega⟩;dsimp only;rw[htk,ql,ju];exact hS.sel [false,true,true]
    ·
     intro hc47
     try simp only[zA,zO,zN,zI,zF,zM,zT,zU]at hc47
     obtain rfl:k=x.length:=by omega
     rw[xB]at hS;refine xm (xh (xh (ua (vK (vD (vD ?_))))));have hF:=St.freezeRow (u:=.slice d x.length e) (m:=x.length) (xs:=x) qx (by exact hS.ord [1,0]) (rfl);clear hS;obtain⟨I_hout,hS,hI_hout,hout⟩:=hF;refine reg (qq hS (Qmi rfl) (qq hS (qb _) (qe (qg call46 rfl (enc_c M hM s0 hs0 n hbeg _ _ x _ _ hS.imm hout hx hxl)) ?_)));rintro _ w_11⟨I_f,a120,c120,rfl,hE,h120⟩;replace hS:=hS.callE hE;replace hout:=hout.mono hE.ext;refine qq hS (qb _) (qq hS (qm rfl rfl) (qq hS (Qxi rfl rfl) (qq hS (qc _) (qq hS (Qai rfl) (QoR (qq hS (qb _) (qq hS (qb _) (qe (qg call78 rfl (equalB_c _ _ _ _ (encP M s0 x) b _ _ hS.imm h120 (hb.mono hS.ext))) ?_))))))));rintro _ w_12⟨rfl,hE⟩;replace hS:=hS.callE hE;refine qq hS (g_not rfl) (QoN ?_);refine jf (congrArg Value.bool (by rw[ur hbe]; rfl)) ?_;refine vL (vK (QwR (qq hS (qb _) (qq hS (qc _) (qq hS (Qai rfl) (QoN (vM (ret2 results130 (qh rfl) (qh (v:=.int .i64 _) rfl) ?_))))))));exact⟨_,_,_,rfl,hS.nil,hout⟩
end Go.Proofs.YtgkgihnpjgbmhaaGreatDoor
