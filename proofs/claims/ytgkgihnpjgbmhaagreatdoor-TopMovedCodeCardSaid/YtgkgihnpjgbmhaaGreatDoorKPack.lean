/- The range coder in plain Lean: models, one step, codes. Conditions: none. Carries, and what a step of the coder keeps. Conditions: none. Patches as bytes, in plain Lean. Conditions: none. -/
import Derived.Test.YtgkgihnpjgbmhaaGreatDoorKCore2
import Derived.Test.YtgkgihnpjgbmhaaGreatDoorKSpec
set_option linter.unusedSimpArgs false
set_option linter.unusedVariables false
namespace Go.Inl
open Go Go.RowKit
structure Ad where
 c:List Int
 t:Int
def adOne:Ad:=⟨List.replicate 256 1,256⟩
def sawA (A:Ad)(x:Nat):Ad :=
 if A.t+32≤65536 then ⟨A.c.set x (A.c.getD x 0+32),A.t+32⟩
 else ⟨(A.c.set x (A.c.getD x 0+32)).map fun n=>(n+1) / 2,((A.c.set x (A.c.getD x 0+32)).map fun n=>(n+1) / 2).sum⟩
structure AdOk (A : Ad) : Prop where
 len:A.c.length=256
 pos:∀n∈A.c,1≤n
 sum:A.c.sum=A.t
 top:A.t≤65536
theorem sum_rep (n:Nat)(x:Int):(List.replicate n x).sum=n*x:=by
 induction n with
 | zero=>simp
 | succ n ih=>rw[List.replicate_succ,List.sum_cons,ih]; push_cast; rw[Int.add_mul]; omega
theorem adOne_ok:AdOk adOne:=⟨uX,fun n hn=>by rw[List.eq_of_mem_replicate hn]; decide,by show(List.replicate 256 (1:Int)).sum=256; rw[sum_rep]; rfl,by show(256:Int)≤65536; decide⟩
theorem sum_ge : ∀ (l : List Int), (∀ n ∈ l, 1 ≤ n) → (l.length : Int) ≤ l.sum
 | [],_=>by simp
 | x::l,h=>by
   have h1:=h x (List.mem_cons_self ..);have h2:=sum_ge l fun n hn=>h n (List.mem_cons_of_mem _ hn)
   rw[List.sum_cons,List.length_cons]; push_cast; omega
theorem sum_set : ∀ (l : List Int) (i : Nat) (v : Int), i < l.length → (l.set i v).sum = l.sum - l.getD i 0 + v
 | [],i,v,h=>by simp at h
 | x::l,0,v,_=>by simp; omega
 | x::l,i+1,v,h=>by
   have:=sum_set l i v (by simpa using h);simp only[List.set_cons_succ,List.sum_cons,List.getD_cons_succ];omega
theorem sum_half : ∀ (l : List Int), (∀ n ∈ l, 1 ≤ n) → 2 * (l.map fun n => (n + 1) / 2).sum ≤ l.sum + l.length ∧ (∀ n ∈ l.map (fun n => (n + 1) / 2), 1 ≤ n)
 | [],_=>by simp
 | x::l,h=>by
   have h1:=h x (List.mem_cons_self ..);obtain⟨h2,h3⟩:=sum_half l fun n hn=>h n (List.mem_cons_of_mem _ hn)
   rw[Qt,List.sum_cons,List.sum_cons,List.length_cons];refine⟨by push_cast; omega,fun n hn=>?_⟩;rcases xV.1 hn with rfl | hn
   · omega
   · exact h3 n hn
theorem sawA_ok {A:Ad}(h:AdOk A){x:Nat}(hx:x < 256):AdOk (sawA A x):=by
 have hl:=h.len;have hp:∀n∈A.c.set x (A.c.getD x 0+32),1≤n:=fun n hn=>by
  rcases List.mem_or_eq_of_mem_set hn with hn | rfl
  · exact h.pos n hn
  · have hm:A.c.getD x 0∈A.c:=by
     rw[xT,xI (by omega)]; exact List.getElem_mem _
    have:=h.pos _ hm; omega
 have hs:=sum_set A.c x (A.c.getD x 0+32) (by omega);rw[h.sum]at hs;unfold sawA;split
 · exact⟨by simp[hl],hp,by show(A.c.set x (A.c.getD x 0+32)).sum=A.t+32; rw[hs]; omega,by assumption⟩
 · obtain ⟨h2, h3⟩ := sum_half _ hp
   rw[hs,ud,hl]at h2;have ht:=h.top;exact⟨by simp[hl],h3,rfl,by show((A.c.set x (A.c.getD x 0+32)).map fun n=>(n+1) / 2).sum≤65536; omega⟩
structure Cs where
 low:Int
 size:Int
 out:List Int
def carryAt (l : List Int) : Nat → List Int
 | 0=>l
 | i+1=>if l.getD i 0=255 then carryAt (l.set i 0) i else l.set i (l.getD i 0+1)
def carried (l:List Int):List Int:=carryAt l l.length
def normC : Nat → Cs → Cs
 | 0,s=>s
 | k+1,s=>if s.size < 16777216 then normC k ⟨s.low % 16777216*256,s.size*256,s.out++[s.low / 16777216]⟩ else s
def putC (s:Cs)(r before cnt:Int):Cs :=
 if 4294967296≤s.low+r*before then ⟨s.low+r*before - 4294967296,r*cnt,carried s.out⟩ else ⟨s.low+r*before,r*cnt,s.out⟩
def stepC (s:Cs)(A:Ad)(x:Nat):Cs:=normC 4 (putC s (s.size / A.t) (A.c.take x).sum (A.c.getD x 0))
def startC:Cs:=⟨0,4294967295,[]⟩
def tailC (s:Cs):List Int:=s.out++[s.low / 16777216,s.low / 65536 % 256,s.low / 256 % 256,s.low % 256]
def trimZ:List Int→List Int:=fun l=>(l.reverse.dropWhile (· = 0)).reverse
def valC (l:List Int):Int:=l.foldl (fun n x=>256*n+x) 0
theorem jK (l:List Int)(x:Int):valC (l++[x])=256*valC l+x:=by unfold valC; rw[List.foldl_append]; rfl
theorem jn (n:Nat):(256:Int) ^ (n+1)=256*256 ^ n:=by rw[Int.pow_succ,Int.mul_comm]
theorem kM (l m:List Int):valC (l++m)=256 ^ m.length*valC l+valC m:=by
 refine zj (p:=fun m=>valC (l++m)=256 ^ m.length*valC l+valC m) ?_ ?_ m
 · simp[valC]
 · intro m x ih
   rw[← uh,jK,ih,jK,xN,show m.length+[x].length=m.length+1 from rfl,jn,Int.mul_add,Int.mul_assoc]; omega
def Byt (l:List Int):Prop:=∀x∈l,0≤x∧x≤255
theorem valC_bd (l:List Int):Byt l→0≤valC l∧valC l+1≤256 ^ l.length:=by
 refine zj (p:=fun l=>Byt l→0≤valC l∧valC l+1≤256 ^ l.length) ?_ ?_ l
 · intro _; simp[valC]
 · intro l x ih h
   obtain⟨h1,h2⟩:=ih fun y hy=>h y (List.mem_append_left _ hy)
   have hx:=h x (by simp);rw[jK,xN,show l.length+[x].length=l.length+1 from rfl,jn];omega
end Go.Inl
namespace Go.Inl
open Go Go.RowKit
theorem getD_mid (p:List Int)(d:Int)(z:List Int):(p++d::z).getD p.length 0=d:=by
 rw[xT,uB (uc _),Nat.sub_self]; rfl
theorem xg (p:List Int)(d e:Int)(z:List Int):(p++d::z).set p.length e=p++e::z:=by
 rw[List.set_append,xP (Nat.lt_irrefl _),Nat.sub_self]; rfl
theorem yv (d:Int)(z:List Int):valC (d::z)=256 ^ z.length*d+valC z:=by
 have:=kM [d] z;simpa [valC] using this
theorem yQ (n:Nat):0 < (256:Int) ^ n:=Int.pow_pos (by decide)
theorem carry_val (p:List Int):∀z:List Int,Byt p→valC p+1 < 256 ^ p.length→(carryAt (p++z) p.length).length=(p++z).length∧valC (carryAt (p++z) p.length)=valC (p++z)+256 ^ z.length∧(Byt z→Byt (carryAt (p++z) p.length)):=by
 refine zj (p:=fun p=>∀z:List Int,Byt p→valC p+1 < 256 ^ p.length→(carryAt (p++z) p.length).length=(p++z).length∧valC (carryAt (p++z) p.length)=valC (p++z)+256 ^ z.length∧(Byt z→Byt (carryAt (p++z) p.length))) ?_ ?_ p
 · intro z _ h; simp[valC]at h
 · intro p d ih z hb hv
   have hd:=hb d (by simp);have hbp:Byt p:=fun y hy=>hb y (List.mem_append_left _ hy)
   have e1:(p++[d])++z=p++d::z:=by simp
   have e2:(p++[d]).length=p.length+1:=by simp
   rw[e1,e2,carryAt,getD_mid,xg,xg];rw[jK,e2,jn]at hv;have hP:=yQ z.length;by_cases h:d=255
   · rw [xS h]
     obtain⟨a1,a2,a3⟩:=ih (0::z) hbp (by omega);refine⟨by rw[a1]; simp,?_,fun hz=>a3 fun y hy=>?_⟩
     · rw [a2, kM, kM, yv, yv, List.length_cons, jn, List.length_cons, jn, h]
       omega
     · rcases xV.1 hy with rfl | hy
       · omega
       · exact hz y hy
   · rw [xP h]
     refine⟨by simp,?_,fun hz y hy=>?_⟩
     · rw [kM, kM, yv, yv, List.length_cons, List.length_cons, Int.mul_add]
       omega
     · rcases uJ.1 hy with hy | hy
       · exact hbp y hy
       · rcases xV.1 hy with rfl | hy
         · omega
         · exact hz y hy
theorem carried_val {l:List Int}(hb:Byt l)(hv:valC l+1 < 256 ^ l.length):(carried l).length=l.length∧valC (carried l)=valC l+1∧Byt (carried l):=by
 have:=carry_val l [] hb hv;simp only[List.append_nil]at this;exact⟨this.1,by unfold carried; simpa using this.2.1,this.2.2 fun y hy=>by simp at hy⟩
theorem carry_ex {l:List Int}:Byt l→valC l+1 < 256 ^ l.length→∃j,j < l.length∧l.getD j 0≠255:=by
 refine zj (p:=fun l=>Byt l→valC l+1 < 256 ^ l.length→∃j,j < l.length∧l.getD j 0≠255) ?_ ?_ l
 · intro _ h; simp[valC]at h
 · intro p d ih hb hv
   have hd:=hb d (by simp);have e2:(p++[d]).length=p.length+1:=by simp
   rw[jK,e2,jn]at hv;by_cases h:d=255
   · obtain ⟨j, h1, h2⟩ := ih (fun y hy => hb y (List.mem_append_left _ hy)) (by omega)
     refine⟨j,by omega,?_⟩;rw[xT,ux h1,← xT]; exact h2
   · exact⟨p.length,by omega,by rw[getD_mid]; exact h⟩
structure CsOk (s : Cs) : Prop where
 low:0≤s.low∧s.low < 4294967296
 size:1≤s.size∧s.size≤4294967295
 byt:Byt s.out
 all:4294967296*valC s.out+s.low+s.size≤4294967296*256 ^ s.out.length
theorem xD:CsOk startC:=⟨by decide,by decide,fun y hy=>by simp[startC]at hy,by simp[startC,valC]⟩
theorem CsOk.carry {s:Cs}{lo si:Int}(hb:Byt s.out)(ha:4294967296*valC s.out+lo+si≤4294967296*256 ^ s.out.length)(h1:4294967296≤lo)(h2:1≤si):valC s.out+1 < 256 ^ s.out.length:=by omega
theorem put_ok {s:Cs}(h:CsOk s){r before cnt t:Int}(hr:1≤r)(hb:0≤before)(hc:1≤cnt)(ht:before+cnt≤t)(hrt:r*t≤s.size):CsOk (putC s r before cnt):=by
 have e1:r*before+r*cnt≤r*t:=by rw[← Int.mul_add]; exact Int.mul_le_mul_of_nonneg_left ht (by omega)
 have e2:0≤r*before:=Int.mul_nonneg (by omega) hb;have e3:1≤r*cnt:=by have:=Int.mul_le_mul hr hc (by omega) (by omega); omega
 obtain⟨l1,l2⟩:=h.low;obtain⟨s1,s2⟩:=h.size;have ha:=h.all;unfold putC;split
 · rename_i hl
   have hv:=CsOk.carry (s:=s) (lo:=s.low+r*before) (si:=r*cnt) h.byt (by omega) hl e3;obtain⟨c1,c2,c3⟩:=carried_val h.byt hv;exact⟨⟨by show 0≤s.low+r*before - 4294967296; omega,by show s.low+r*before - 4294967296 < _; omega⟩,⟨e3,by show r*cnt≤_; omega⟩,c3,by
    show 4294967296*valC (carried s.out)+(s.low+r*before - 4294967296)+r*cnt≤4294967296*256 ^ (carried s.out).length
    rw[c1,c2]; omega⟩
 · exact⟨⟨by show 0≤s.low+r*before; omega,by show s.low+r*before < _; omega⟩,⟨e3,by show r*cnt≤_; omega⟩,h.byt,by
    show 4294967296*valC s.out+(s.low+r*before)+r*cnt≤4294967296*256 ^ s.out.length; omega⟩
theorem vo {s:Cs}(h:CsOk s)(hs:s.size < 16777216):CsOk ⟨s.low % 16777216*256,s.size*256,s.out++[s.low / 16777216]⟩:=by
 obtain⟨l1,l2⟩:=h.low;obtain⟨s1,s2⟩:=h.size;have ha:=h.all;refine⟨⟨by show 0≤s.low % 16777216*256; omega,by show s.low % 16777216*256 < _; omega⟩,⟨by show 1≤s.size*256; omega,by show s.size*256≤_; omega⟩,fun y hy=>?_,?_⟩
 · rcases uJ.1 hy with hy | hy
   · exact h.byt y hy
   · obtain rfl:=uG.1 hy; omega
 · show 4294967296 * valC (s.out ++ [s.low / 16777216]) + s.low % 16777216 * 256 + s.size * 256 ≤ 4294967296 * 256 ^ (s.out ++ [s.low / 16777216]).length
   rw[jK,xN,show s.out.length+[s.low / 16777216].length=s.out.length+1 from rfl,jn];omega
theorem norm_ok : ∀ (k : Nat) {s : Cs}, CsOk s → CsOk (normC k s)
 | 0,s,h=>h
 | k+1,s,h=>by
   unfold normC;split
   · rename_i hs; exact norm_ok k (vo h hs)
   · exact h
theorem norm_big : ∀ (k : Nat) {s : Cs}, CsOk s → 16777216 ≤ s.size * 256 ^ k → 16777216 ≤ (normC k s).size
 | 0,s,h,hk=>by show 16777216≤s.size; simpa using hk
 | k+1,s,h,hk=>by
   unfold normC;split
   · rename_i hs
     refine norm_big k (vo h hs) ?_;rw[jn,← Int.mul_assoc]at hk; exact hk
   · omega
theorem zk {s t:Int}(hs:16777216≤s)(ht:1≤t∧t≤65536):256≤s / t∧s / t*t≤s:=by
 refine⟨?_,Int.ediv_mul_le s (by omega)⟩;rw[Int.le_ediv_iff_mul_le (by omega)]; omega
theorem je : ∀ (l : List Int) (x : Nat), (∀ n ∈ l, 1 ≤ n) → x < l.length → 0 ≤ (l.take x).sum ∧ 1 ≤ l.getD x 0 ∧ (l.take x).sum + l.getD x 0 ≤ l.sum
 | [],x,_,h=>by simp at h
 | y::l,0,h,_=>by
   have h1:=h y (List.mem_cons_self ..);have h2:=sum_ge l fun n hn=>h n (List.mem_cons_of_mem _ hn)
   simp; omega
 | y::l,x+1,h,hx=>by
   have h1:=h y (List.mem_cons_self ..);have h2:=je l x (fun n hn=>h n (List.mem_cons_of_mem _ hn)) (by simpa using hx);simp only[List.take_succ_cons,List.sum_cons,List.getD_cons_succ];omega
structure Good13 (s : Cs) : Prop where
 ok:CsOk s
 big:16777216≤s.size
theorem yy {s:Cs}{A:Ad}{x:Nat}(h:Good13 s)(hA:AdOk A)(hx:x < 256):Good13 (stepC s A x):=by
 obtain⟨q1,q2,q3⟩:=je A.c x hA.pos (by rw[hA.len]; exact hx);rw[hA.sum]at q3;have ht:1≤A.t∧A.t≤65536:=⟨by omega,hA.top⟩
 obtain⟨r1,r2⟩:=zk h.big ht;have hp:=put_ok h.ok (r:=s.size / A.t) (before:=(A.c.take x).sum) (cnt:=A.c.getD x 0) (t:=A.t) (by omega) q1 q2 q3 r2;refine⟨norm_ok 4 hp,norm_big 4 hp ?_⟩;have:=hp.size.1;omega
end Go.Inl
namespace Go.Inl
open Go Go.RowKit
theorem pow_8 (j:Nat):(2:Int) ^ (8*j)=256 ^ j:=by rw[Int.pow_mul]; rfl
def numB : Nat → Int → List Int
 | 0,_=>[]
 | w+1,n=>n / 256 ^ w % 256::numB w n
def numsB (w:Nat)(l:List Int):List Int:=l.flatMap (numB w)
theorem kz : ∀ (w : Nat) (n : Int), (numB w n).length = w
 | 0,_=>rfl
 | w+1,n=>by rw[numB,List.length_cons,kz w n]
theorem numsB_succ (w:Nat){l:List Int}{k:Nat}{n:Int}(h:l[k]? = some n):numsB w (l.take (k+1))=numsB w (l.take k)++numB w n:=by
 unfold numsB; rw[qz h,List.flatMap_append]; simp
theorem qI (w : Nat) : ∀ l : List Int, (numsB w l).length = w * l.length
 | []=>rfl
 | n::l=>by show(numB w n++numsB w l).length=_; rw[xN,kz,qI w l,List.length_cons,Nat.mul_add]; omega
theorem jq : ∀ (w : Nat) (n : Int), Byt (numB w n)
 | 0,_=>fun x hx=>by cases hx
 | w+1,n=>fun x hx=>by
   rcases xV.1 hx with rfl | hx
   · omega
   · exact jq w n x hx
theorem jB (w:Nat)(l:List Int):Byt (numsB w l):=fun x hx=>by
 obtain⟨n,_,h⟩:=List.mem_flatMap.1 hx;exact jq w n x h
def adlF (p:Int×Int)(x:Int):Int×Int:=((p.1+x) % 65521,(p.2+(p.1+x) % 65521) % 65521)
def adl (l:List Int):Int×Int:=l.foldl adlF (1,0)
theorem adl_succ {l:List Int}{k:Nat}{x:Int}(h:l[k]? = some x):adl (l.take (k+1))=adlF (adl (l.take k)) x:=by unfold adl; rw[qz h,List.foldl_append]; rfl
theorem adl_bd (l:List Int):0≤(adl l).1∧(adl l).1≤65520∧0≤(adl l).2∧(adl l).2≤65520:=by
 refine zj (p:=fun l=>0≤(adl l).1∧(adl l).1≤65520∧0≤(adl l).2∧(adl l).2≤65520) (by decide) (fun l x ih=>?_) l;have:adl (l++[x])=adlF (adl l) x:=by unfold adl; rw[List.foldl_append]; rfl
 rw[this]; unfold adlF; dsimp only; omega
def sumP (l:List Int):List Int:=numsB 2 [(adl l).2,(adl l).1]
def opB (x:OpL):List Int:=numsB 1 [x.kind]++if x.kind=1∨x.kind=2 then numsB 3 [x.from_,x.len] else if x.kind=3 then numsB 3 [x.len]++numsB 1 [x.b] else numsB 3 [x.len]
def lsP (l:List OpL):List Int:=l.flatMap opB
def dtP (l:List OpL):List Int:=l.flatMap (·.data)
theorem opB_le (x:OpL):(opB x).length≤7:=by
 unfold opB;split
 · simp only[xN,qI,List.length_cons,List.length_nil]; omega
 · split
   · simp only[xN,qI,List.length_cons,List.length_nil]; omega
   · simp only[xN,qI,List.length_cons,List.length_nil]; omega
theorem lsP_le : ∀ l : List OpL, (lsP l).length ≤ 7 * l.length
 | []=>uc _
 | x::l=>by
   have h1:=opB_le x;have h2:=lsP_le l;show(opB x++lsP l).length≤_
   rw[xN,List.length_cons]; omega
theorem lsP_succ {l:List OpL}{k:Nat}{x:OpL}(h:l[k]? = some x):lsP (l.take (k+1))=lsP (l.take k)++opB x:=by unfold lsP; rw[qz h,List.flatMap_append]; simp
theorem dtP_succ {l:List OpL}{k:Nat}{x:OpL}(h:l[k]? = some x):dtP (l.take (k+1))=dtP (l.take k)++x.data:=by unfold dtP; rw[qz h,List.flatMap_append]; simp
theorem dtP_take (l:List OpL)(k:Nat):(dtP (l.take k)).length≤(dtP l).length:=by
 conv=>rhs; rw[← List.take_append_drop k l]
 unfold dtP;rw[List.flatMap_append,xN]; omega
theorem opB_byt (x:OpL):Byt (opB x):=by
 unfold opB;intro y hy;rcases uJ.1 hy with h | h
 · exact jB _ _ y h
 · split at h
   · exact jB _ _ y h
   · split at h
     · rcases uJ.1 h with h | h
       · exact jB _ _ y h
       · exact jB _ _ y h
     · exact jB _ _ y h
theorem zJ (l:List OpL):Byt (lsP l):=fun x hx=>by
 obtain⟨n,_,h⟩:=List.mem_flatMap.1 hx;exact opB_byt n x h
structure OpG (x : OpL) : Prop where
 kind:1≤x.kind∧x.kind≤4
 from_:0≤x.from_∧x.from_≤65536
 len:1≤x.len∧x.len≤65536
 b:0≤x.b∧x.b≤255
 dat:(x.data.length:Int)≤x.len
 byt:Byt x.data
theorem yI {l:List OpL}(h:∀x∈l,OpG x):Byt (dtP l):=fun x hx=>by
 obtain⟨n,hn,h2⟩:=List.mem_flatMap.1 hx;exact(h n hn).byt x h2
end Go.Inl
