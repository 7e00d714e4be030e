/- What package compose computes, as plain Lean, and its plain laws: through is associative, the whole patch changes nothing. Conditions: none. What package merge computes, as plain Lean. Conditions: none. Instructions and lifted code as plain Lean. Conditions: none. -/
import Derived.Test.YtgkgihnpjgbmhaaGreatDoorKOpt
import Derived.Test.YtgkgihnpjgbmhaaGreatDoorKCore3
import Derived.Test.YtgkgihnpjgbmhaaGreatDoorKCore2
set_option linter.unusedSimpArgs false
set_option linter.unusedVariables false
namespace Go.Inl
def z0:Sym:=⟨false,0,0⟩
def thr (a:List Sym)(s:Sym):Sym:=if s.old then ⟨(a.getD s.at_.toNat z0).old,(a.getD s.at_.toNat z0).at_,Go.IntKind.wrap .u8 ((a.getD s.at_.toNat z0).b+s.b)⟩ else ⟨false,0,s.b⟩
def badT (n:Nat)(s:Sym):Bool:=s.old && (decide (s.at_ < 0) || decide ((n:Int)≤s.at_))
def throughP (a b:List Sym):List Sym×Int:=if b.any (badT a.length) then ([],61) else (b.map (thr a),0)
def composeP (p q:PatL):PatL×Int :=
 if (symbolsP p).2≠0 then (PatL.zero,(symbolsP p).2)
 else if (symbolsP q).2≠0 then (PatL.zero,(symbolsP q).2)
 else if p.lifted≠q.lifted then (PatL.zero,62)
 else if p.out≠q.in_ then (PatL.zero,61)
 else if (throughP (symbolsP p).1 (symbolsP q).1).2≠0 then (PatL.zero,(throughP (symbolsP p).1 (symbolsP q).1).2)
 else if (cheapP (throughP (symbolsP p).1 (symbolsP q).1).1 p.in_).2≠0 then (PatL.zero,(cheapP (throughP (symbolsP p).1 (symbolsP q).1).1 p.in_).2)
 else ({ (cheapP (throughP (symbolsP p).1 (symbolsP q).1).1 p.in_).1 with lifted:=p.lifted },0)
theorem wrap8 (n:Int):Go.IntKind.wrap .u8 n=n % 256:=Go.IntKind.wrap_u8 n
theorem xe {a:List Sym}{s:Sym}(h:s.old=false):thr a s=⟨false,0,s.b⟩:=by unfold thr; rw[h]; rfl
theorem xd {a:List Sym}{s:Sym}(h:s.old=true):thr a s=⟨(a.getD s.at_.toNat z0).old,(a.getD s.at_.toNat z0).at_,Go.IntKind.wrap .u8 ((a.getD s.at_.toNat z0).b+s.b)⟩:=by unfold thr; rw[h]; rfl
theorem thr_ok {n:Int}{a:List Sym}(ha:okL n a):∀s,strange n (thr a s)=false:=fun s=>by
 cases h:s.old with
 | false=>rw[xe h]; simp[strange]
 | true =>
   rw[xd h];have key:strange n (a.getD s.at_.toNat z0)=false:=by
    rw[xT];cases hx:a[s.at_.toNat]? with
    | none=>simp[strange,z0]
    | some x=>exact ha x (xR hx)
   exact key
theorem thrL_ok {n:Int}{a:List Sym}(ha:okL n a)(b:List Sym):okL n (b.map (thr a)):=fun s hs=>by
 obtain⟨t,_,rfl⟩:=Qu.1 hs;exact thr_ok ha t
theorem thr_wf {a:List Sym}(ha:∀s∈a,s.wf){s:Sym}(hs:s.wf):(thr a s).wf:=by
 cases h:s.old with
 | false=>rw[xe h]; exact⟨by dsimp only; omega,by dsimp only; omega,hs.2.2.1,hs.2.2.2⟩
 | true =>
   rw[xd h];have key:(a.getD s.at_.toNat z0).wf:=by
    rw[xT];cases hx:a[s.at_.toNat]? with
    | none=>exact⟨by decide,by decide,by decide,by decide⟩
    | some x=>exact ha x (xR hx)
   refine⟨key.1,key.2.1,?_,?_⟩ <;> rw[wrap8] <;> dsimp only <;> omega
theorem thrL_wf {a b:List Sym}(ha:∀s∈a,s.wf)(hb:∀s∈b,s.wf):∀s∈b.map (thr a),s.wf:=fun s hs=>by
 obtain⟨t,ht,rfl⟩:=Qu.1 hs;exact thr_wf ha (hb t ht)
theorem badT_ok {n:Int}{b:List Sym}{k:Nat}(hb:okL n b)(h:n=k):b.any (badT k)=false:=by
 rw[List.any_eq_false];intro s hs;have h1:=hb s hs;unfold strange at h1;unfold badT;cases ho:s.old with
 | false=>simp
 | true=>simp[ho]at h1; simp; omega
theorem throughP_ok {n:Int}{a b:List Sym}(hb:okL n b)(h:n=a.length):throughP a b=(b.map (thr a),0):=by
 unfold throughP;rw[badT_ok hb h]; rfl
theorem composeP_ok {p q : PatL} (hp : (checkP p).2 = 0) (hq : (checkP q).2 = 0) (hl : p.lifted = q.lifted) (hf : p.out = q.in_) (hs : q.out ≤ 4096) :
 composeP p q=(formOf p.lifted p.in_ ((symsOf q.ops).map (thr (symsOf p.ops))),0):=by
 obtain⟨h1,h2,h3,h4,h5,h6,h7⟩:=ja hp;obtain⟨k1,k2,k3,k4,k5,k6,k7⟩:=ja hq;have ha:=(yS _ h1).1;have hb:=(yS _ k1).1;have ht:throughP (symsOf p.ops) (symsOf q.ops)=((symsOf q.ops).map (thr (symsOf p.ops)),0):=throughP_ok hb (by omega);have hc:=vY (l:=(symsOf q.ops).map (thr (symsOf p.ops))) (n:=p.in_) ⟨h3,h4⟩ (by rw[Qb]; omega) (thrL_ok ha _);unfold composeP;rw[jX hp,jX hq];simp only[ne_eq,not_true_eq_false,if_false,hl,hf,ht,hc];rfl
end Go.Inl
namespace Go.Inl
theorem zj {α:Type}{p:List α→Prop}(h0:p [])(h1:∀l a,p l→p (l++[a]))(l:List α):p l:=by
 have h:∀l:List α,p l.reverse:=by
  intro l;induction l with
  | nil=>exact h0
  | cons a l ih=>rw[List.reverse_cons]; exact h1 _ _ ih
 have:=h l.reverse;rwa [List.reverse_reverse]at this
/-! ### Marks -/
def marks (n:Nat)(f:Nat→Bool):List Bool:=(List.range n).map f
/-! ### What a patch touches and reads -/
def sAt (l:List Sym)(k:Nat):Sym:=l.getD k z0
theorem sAt_of {l:List Sym}{k:Nat}{s:Sym}(h:l[k]? = some s):sAt l k=s:=by unfold sAt; rw[xT,h]; rfl
def plc (n:Nat)(f:Nat→Bool):List Nat:=(List.range n).filter f
theorem plc_succ (n:Nat)(f:Nat→Bool):plc (n+1) f=if f n then plc n f++[n] else plc n f:=by
 unfold plc;rw[List.range_succ,List.filter_append];cases h:f n <;> simp[h]
end Go.Inl
namespace Go.Inl
open Go Go.RowKit
structure InstL where
 op:Int
 a:Int
 b:Int
 c:Int
 n:Int
def instC (x:InstL):List Value:=[.ig x.op,.ig x.a,.ig x.b,.ig x.c,.ig x.n]
def instV (x:InstL):Value:=.agg #[.ig x.op,.ig x.a,.ig x.b,.ig x.c,.ig x.n]
def dataI (w:Int):InstL:=⟨0,0,0,0,w⟩
def instEq (x y:InstL):Bool:=decide (x.op=y.op) && (decide (x.a=y.a) && (decide (x.b=y.b) && (decide (x.c=y.c) && decide (x.n=y.n))))
theorem kQ {x y:InstL}:instEq x y=true↔x=y:=by
 cases x; cases y; simp[instEq]
def regsP (op:Int):Int:=if op=1∨op=3∨op=4 then 3 else if op=2∨op=7∨op=8 then 1 else 0
def bitsP (op:Int):Int:=if op=5∨op=6 then 24 else if op=2∨op=7∨op=8 then 16 else 0
def signP (op:Int):Bool:=decide (op=5∨op=6∨op=7)
def targP (op:Int):Bool:=decide (5≤op∧op≤8)
def octP (w:Int)(i:Nat):Int:=w / 2 ^ (24 - 8*i) % 256
theorem oct0 (w:Int)(h0:0≤w)(h1:w < 4294967296):octP w 0=w / 16777216:=by show w / 16777216 % 256=_; omega
theorem oct1 (w:Int):octP w 1=w / 65536 % 256:=rfl
theorem oct2 (w:Int):octP w 2=w / 256 % 256:=rfl
theorem oct3 (w:Int):octP w 3=w % 256:=by show w / 1 % 256=_; rw[Int.ediv_one]
theorem oct_b (w:Int)(i:Nat):0≤octP w i∧octP w i≤255:=by unfold octP; omega
def lowP (w m:Int)(s:Bool):Int:=if s && decide (m / 2≤w % m) then w % m - m else w % m
def lowI (w op:Int):Int:=if bitsP op=24 then lowP w 16777216 (signP op) else if bitsP op=16 then lowP w 65536 (signP op) else 0
theorem lowI_b (w op:Int):-8388608≤lowI w op∧lowI w op≤16777215:=by
 unfold lowI lowP;split
 · split
   · rename_i h; simp only[uC,ua]at h; omega
   · rename_i h; omega
 · split
   · split
     · rename_i h; simp only[uC,ua]at h; omega
     · rename_i h; omega
   · omega
def badR (w op:Int):Bool:=(decide (0 < regsP op) && decide (15 < octP w 1)) || ((decide (1 < regsP op) && decide (15 < octP w 2)) || (decide (2 < regsP op) && decide (15 < octP w 3)))
def decI (w at_:Int):InstL :=
 if octP w 0=0∨8 < octP w 0 then dataI w
 else if badR w (octP w 0)=true then dataI w
 else ⟨octP w 0, if 0 < regsP (octP w 0) then octP w 1 else 0, if 1 < regsP (octP w 0) then octP w 2 else 0, if 2 < regsP (octP w 0) then octP w 3 else 0,
  if targP (octP w 0)=true then at_+4*lowI w (octP w 0) else lowI w (octP w 0)⟩
def encW (x:InstL)(at_:Int):Int :=
 if x.op=0 then x.n % 4294967296
 else x.op * 16777216 + (if targP x.op = true then (x.n - at_) / 4 else x.n) % (if bitsP x.op = 24 then 16777216 else if bitsP x.op = 16 then 65536 else 1)
  + (if 0 < regsP x.op then x.a % 256*65536 else 0)+(if 1 < regsP x.op then x.b % 256*256 else 0)+(if 2 < regsP x.op then x.c % 256 else 0)
def encI (x:InstL)(at_:Int):Option Int:=if (0≤x.op∧x.op≤8)∧instEq (decI (encW x at_) at_) x=true then some (encW x at_) else none
theorem encW_b {x:InstL}(h:0≤x.op∧x.op≤8)(at_:Int):0≤encW x at_∧encW x at_ < 4294967296:=by
 obtain⟨h0,h1⟩:=h;unfold encW;obtain⟨m,hm⟩:∃m,(if targP x.op=true then (x.n - at_) / 4 else x.n)=m:=⟨_,rfl⟩
 rw[hm];have e:x.op=0∨x.op=1∨x.op=2∨x.op=3∨x.op=4∨x.op=5∨x.op=6∨x.op=7∨x.op=8:=by omega
 rcases e with e | e | e | e | e | e | e | e | e <;> rw[e] <;> simp[regsP,bitsP] <;> omega
theorem encW_decI {w at_:Int}(h0:0≤w)(h1:w < 4294967296):encW (decI w at_) at_=w∧0≤(decI w at_).op∧(decI w at_).op≤8:=by
 obtain⟨o0,o1⟩:=oct_b w 0;have e0:=oct0 w h0 h1;unfold decI;split
 · refine ⟨?_, by show (0 : Int) ≤ 0; decide, by show (0 : Int) ≤ 8; decide⟩
   show w % 4294967296=w
   omega
 · rename_i hop
   split
   · refine ⟨?_, by show (0 : Int) ≤ 0; decide, by show (0 : Int) ≤ 8; decide⟩
     show w % 4294967296=w
     omega
   · rename_i hb
     obtain⟨op,hopE⟩:∃op,octP w 0=op:=⟨_,rfl⟩
     rw[hopE]at hop hb e0 o0 o1 ⊢;refine⟨?_,by show 0≤op; omega,by show op≤8; omega⟩;simp only[badR,JB,uC,ua]at hb;rw[oct1,oct2,oct3]at hb ⊢;have e:op=1∨op=2∨op=3∨op=4∨op=5∨op=6∨op=7∨op=8:=by omega
     rcases e with e | e | e | e | e | e | e | e <;> subst e <;> simp[encW,regsP,bitsP,targP,lowI,lowP,signP]at hb ⊢ <;> (repeat split) <;> omega
theorem encI_decI {w at_:Int}(h0:0≤w)(h1:w < 4294967296):encI (decI w at_) at_=some w:=by
 obtain⟨h2,h3,h4⟩:=encW_decI (at_:=at_) h0 h1;unfold encI;rw[h2,xS ⟨⟨h3,h4⟩,kQ.2 rfl⟩]
theorem zv {x:InstL}{at_ w:Int}(h:encI x at_=some w):decI w at_=x∧0≤w∧w < 4294967296:=by
 unfold encI at h;split at h
 · rename_i hc
   cases h
   exact⟨kQ.1 hc.2,encW_b hc.1 _⟩
 · cases h
/-! ### Words and bytes -/
def Byts (b:List Int):Prop:=∀y∈b,0≤y∧y≤255
def Wrds (l:List Int):Prop:=∀w∈l,0≤w∧w < 4294967296
def word4 (b:List Int)(i:Nat):Int:=b.getD (4*i) 0*16777216+b.getD (4*i+1) 0*65536+b.getD (4*i+2) 0*256+b.getD (4*i+3) 0
def wordsN (b:List Int)(k:Nat):List Int:=(List.range k).map (word4 b)
theorem jE (b:List Int)(k:Nat):(wordsN b k).length=k:=by simp[wordsN]
theorem wordsN_succ (b:List Int)(k:Nat):wordsN b (k+1)=wordsN b k++[word4 b k]:=by unfold wordsN; rw[List.range_succ,Qp]; rfl
theorem qZ {b:List Int}(h:Byts b)(i:Nat):0≤b.getD i 0∧b.getD i 0≤255:=by
 rw[xT];cases e:b[i]? with
 | none=>simp
 | some y=>exact h y (xR e)
theorem word4_b {b:List Int}(h:Byts b)(i:Nat):0≤word4 b i∧word4 b i < 4294967296:=by
 have h0:=qZ h (4*i); have h1:=qZ h (4*i+1); have h2:=qZ h (4*i+2); have h3:=qZ h (4*i+3)
 unfold word4; omega
theorem kW {b:List Int}(h:Byts b)(k:Nat):Wrds (wordsN b k):=by
 intro w hw;obtain⟨i,_,rfl⟩:=Qu.1 hw;exact word4_b h i
def bytes4 (w:Int):List Int:=[octP w 0,octP w 1,octP w 2,octP w 3]
def bytesP (l:List Int):List Int:=l.flatMap bytes4
theorem bytesP_snoc (l:List Int)(w:Int):bytesP (l++[w])=bytesP l++bytes4 w:=by simp[bytesP]
theorem qD (l:List Int):(bytesP l).length=4*l.length:=by
 induction l with
 | nil=>rfl
 | cons w l ih=>show(bytes4 w++bytesP l).length=_; rw[xN,ih,List.length_cons]; show 4+_=_; omega
theorem jD (l:List Int):Byts (bytesP l):=by
 intro y hy;obtain⟨w,_,hw⟩:=List.mem_flatMap.1 hy;simp only[bytes4,xV,xY,or_false]at hw;rcases hw with rfl | rfl | rfl | rfl <;> exact oct_b w _
/-! ### Lifted code -/
structure LiftL where
 words:List Int
 marks:List Bool
 labels:List Int
def LiftL.zero:LiftL:=⟨[],[],[]⟩
def linkedP (x:InstL)(len:Int):Bool:=decide (5≤x.op∧x.op≤8) && (decide (0≤x.n) && decide (x.n < len))
def instAt (ws:List Int)(i:Nat):InstL:=decI (ws.getD i 0) (4*(i:Int))
def lnk (ws:List Int)(i:Nat):Bool:=linkedP (instAt ws i) (4*(ws.length:Int))
def lks (ws:List Int):List Nat:=plc ws.length (lnk ws)
def lkA (ws:List Int)(l:List Nat)(k:Nat):List Value:=[.ig (l.getD k 0:Nat),instV (instAt ws (l.getD k 0))]
theorem lkA_at {ws:List Int}{l:List Nat}{k i:Nat}(h:l[k]? = some i):lkA ws l k=[.ig (i:Nat),instV (instAt ws i)]:=by
 unfold lkA; rw[xT,h]; rfl
def tgts (ws:List Int):List Int:=(lks ws).map fun i=>(instAt ws i).n
def fieldM (op:Int):Nat:=if op=5∨op=6 then 24 else 16
def numP (w op k:Int):Int:=w - w % 2 ^ fieldM op+k
def labelsP (ws:List Int):List Int:=Lib.compact ((tgts ws).mergeSort fun x y=>decide (x≤y))
def idxP (l:List Int)(n:Int):Nat:=l.findIdx fun x=>decide (x=n)
def numAt (ws ls:List Int)(i:Nat):Int:=numP (ws.getD i 0) (instAt ws i).op (idxP ls (instAt ws i).n)
def liftW (ws ls:List Int)(l:List Nat):List Int:=l.foldl (fun acc i=>acc.set i (numAt ws ls i)) ws
def liftM (n:Nat)(l:List Nat):List Bool:=l.foldl (fun acc i=>acc.set i true) (List.replicate n false)
def liftP (ws:List Int):LiftL:=⟨liftW ws (labelsP ws) (lks ws),liftM ws.length (lks ws),labelsP ws⟩
theorem jj (ws ls:List Int)(l:List Nat):(liftW ws ls l).length=ws.length:=by
 have h:∀(l:List Nat) (acc:List Int),(l.foldl (fun acc i=>acc.set i (numAt ws ls i)) acc).length=acc.length:=by
  intro l;induction l with
  | nil=>intro acc; rfl
  | cons i l ih=>intro acc; rw[List.foldl_cons,ih,ud]
 exact h l ws
theorem jp (n:Nat)(l:List Nat):(liftM n l).length=n:=by
 have h:∀(l:List Nat) (acc:List Bool),(l.foldl (fun acc i=>acc.set i true) acc).length=acc.length:=by
  intro l;induction l with
  | nil=>intro acc; rfl
  | cons i l ih=>intro acc; rw[List.foldl_cons,ih,ud]
 rw[liftM,h,uX]
theorem liftW_snoc (ws ls:List Int)(l:List Nat)(i:Nat):liftW ws ls (l++[i])=(liftW ws ls l).set i (numAt ws ls i):=by unfold liftW; rw[List.foldl_append]; rfl
theorem liftM_snoc (n:Nat)(l:List Nat)(i:Nat):liftM n (l++[i])=(liftM n l).set i true:=by unfold liftM; rw[List.foldl_append]; rfl
theorem kq {ws:List Int}{i:Nat}:i∈lks ws↔i < ws.length∧lnk ws i=true:=by
 unfold lks plc; simp
theorem lks_len (ws:List Int):(lks ws).length≤ws.length:=by
 have:=List.length_filter_le (lnk ws) (List.range ws.length);rwa [List.length_range]at this
theorem tgts_len (ws:List Int):(tgts ws).length≤ws.length:=by unfold tgts; rw[Qb]; exact lks_len ws
theorem mem_tgts {ws:List Int}{i:Nat}(h:i∈lks ws):(instAt ws i).n∈tgts ws:=Qu.2 ⟨i,h,rfl⟩
/-! A sorted list, each element once. -/
theorem compact_mem {l:List Int}{x:Int}:x∈Lib.compact l↔x∈l:=by
 unfold Lib.compact Lib.compactUpTo;constructor
 · intro h
   obtain⟨i,hi,rfl⟩:=Qu.1 h;have h1:=List.mem_range.1 (List.mem_filter.1 hi).1;rw[getElem!_pos _ i (by simpa using h1)];simp
 · intro h
   obtain⟨i,hi⟩:=Jk.1 h;have hw:∀(j:Nat),j≤l.length→(∃i,i < j∧l[i]? = some x)→∃i,i < l.length∧l[i]? = some x∧Lib.keeps l.toArray i=true:=by
    intro j;induction j with
    | zero=>rintro _ ⟨i,h,_⟩; omega
    | succ j ih =>
      rintro hj⟨i,h1,h2⟩;by_cases hk:Lib.keeps l.toArray i=true
      · exact⟨i,by omega,h2,hk⟩
      · have h3 : Lib.keeps l.toArray i = false := by simpa using hk
        unfold Lib.keeps at h3;rw[xZ,not_or]at h3;obtain⟨h4,h5⟩:=h3;have h6:l.toArray[i]! = l.toArray[i - 1]!:=Classical.not_not.1 h5;rw[getElem!_pos _ i (by simp; omega),getElem!_pos _ (i - 1) (by simp; omega)]at h6;have h7:l[i - 1]? = some x:=by
         rw[xI (by omega),← h2,xI (by omega)];simpa using h6.symm
        exact ih (by omega) ⟨i - 1,by omega,h7⟩
   obtain⟨i,h1,h2,h3⟩:=hw l.length (uc _) ⟨i,(xX.1 hi).1,hi⟩;refine Qu.2 ⟨i,List.mem_filter.2 ⟨List.mem_range.2 h1,h3⟩,?_⟩;rw[getElem!_pos _ i (by simpa using h1)];rw[xI h1]at h2;simpa using h2
theorem compact_sorted {l:List Int}(h:l.Pairwise (· ≤ ·)):(Lib.compact l).Pairwise (· < ·):=by
 unfold Lib.compact Lib.compactUpTo;rw[List.pairwise_map];have hp:=List.pairwise_iff_getElem.1 h;have h1:((List.range l.length).filter (Lib.keeps l.toArray)).Pairwise (fun i j=>i < j∧j < l.length∧Lib.keeps l.toArray j=true):=by
  refine List.Pairwise.filter _ ?_ |>.imp_of_mem ?_ (R:=(· < ·))
  · exact List.pairwise_lt_range
  · intro i j hi hj hij
    have:=List.mem_filter.1 hj;exact⟨hij,List.mem_range.1 this.1,this.2⟩
 refine h1.imp ?_;rintro i j⟨hij,hj,hk⟩;rw[getElem!_pos _ i (by simp; omega),getElem!_pos _ j (by simpa using hj)];unfold Lib.keeps at hk;rw[ua]at hk;have h2:=hk.resolve_left (by omega);rw[getElem!_pos _ j (by simpa using hj),getElem!_pos _ (j - 1) (by simp; omega)]at h2;have h3:=hp (j - 1) j (by omega) hj (by omega);simp only[List.getElem_toArray]at h2 ⊢;by_cases hi:i=j - 1
 · subst hi; omega
 · have:=hp i (j - 1) (by omega) (by omega) (by omega); omega
theorem sort_sorted (l:List Int):(l.mergeSort fun x y=>decide (x≤y)).Pairwise (· ≤ ·):=by
 have:=List.pairwise_mergeSort (le:=fun x y:Int=>decide (x≤y)) (fun a b c h1 h2=>by simp at *; omega) (fun a b=>by simp; omega) l;exact this.imp fun h=>by simpa using h
theorem kP (ws:List Int):(labelsP ws).Pairwise (· < ·):=compact_sorted (sort_sorted _)
theorem jY {ws:List Int}{n:Int}:n∈labelsP ws↔n∈tgts ws:=by unfold labelsP; rw[compact_mem]; exact List.mem_mergeSort
theorem jv (ws:List Int):(labelsP ws).length≤ws.length:=by
 unfold labelsP;refine Nat.le_trans (vf _) ?_;rw[List.length_mergeSort]; exact tgts_len ws
theorem vv {l:List Int}{n:Int}(h:n∈l):l[idxP l n]? = some n:=by
 have hx:∃x∈l,(fun x=>decide (x=n)) x=true:=⟨n,h,by simp⟩
 have hlt:idxP l n < l.length:=List.findIdx_lt_length_of_exists hx;rw[xI hlt];have:=List.findIdx_getElem (xs:=l) (p:=fun x=>decide (x=n)) (w:=hlt);simp only[ua]at this;exact congrArg some this
/-! ### Lowered code -/
def liftEq (x y:LiftL):Bool:=decide (x.words=y.words) && (decide (x.marks=y.marks) && decide (x.labels=y.labels))
theorem yV {x y:LiftL}:liftEq x y=true↔x=y:=by cases x; cases y; simp[liftEq]
def opOf (w:Int):Int:=w / 16777216
def idxOf (w:Int):Int:=w % 2 ^ fieldM (opOf w)
def instOf (x:LiftL)(w:Int):InstL:=⟨opOf w,if 7≤opOf w then w / 65536 % 256 else 0,0,0,x.labels.getD (idxOf w).toNat 0⟩
def badN (x:LiftL)(w:Int):Bool:=decide (opOf w < 5) || (decide (8 < opOf w) || decide ((x.labels.length:Int)≤idxOf w))
def unnum (x:LiftL)(i:Nat)(w:Int):Option Int:=if badN x w=true then none else encI (instOf x w) (4*(i:Int))
def unnumP (x:LiftL)(i:Nat):Option Int:=if x.marks.getD i false=true then unnum x i (x.words.getD i 0) else some (x.words.getD i 0)
def lowW (x:LiftL):List Int:=(List.range x.words.length).map fun i=>(unnumP x i).getD 0
def lowBad (x:LiftL):Bool:=(List.range x.words.length).any fun i=>(unnumP x i).isNone
def lowerP (x:LiftL):Option (List Int) :=
 if 16384 < x.words.length∨x.marks.length≠x.words.length then none
 else if lowBad x=true then none
 else if liftEq (liftP (lowW x)) x=true then some (bytesP (lowW x)) else none
def lowR (x:LiftL):List Int×Int:=match lowerP x with | some b=>(b,0) | none=>([],30)
theorem jr (x:LiftL):(lowW x).length=x.words.length:=by simp[lowW]
theorem lowW_at {x:LiftL}{i:Nat}(h:i < x.words.length):(lowW x)[i]? = some ((unnumP x i).getD 0):=by
 unfold lowW; rw[uW,List.getElem?_range h]; rfl
def lowK (x:LiftL)(k:Nat):List Int:=(lowW x).take k++x.words.drop k
theorem lowK_len {x:LiftL}{k:Nat}(h:k≤x.words.length):(lowK x k).length=x.words.length:=by
 unfold lowK; rw[xN,uo,Qj,jr]; omega
theorem lowK_at {x:LiftL}{k:Nat}(h:k < x.words.length):(lowK x k)[k]? = some (x.words.getD k 0):=by
 unfold lowK;rw[uB (by rw[uo,jr]; omega),uo,jr,Nat.min_eq_left (by omega),Nat.sub_self,List.getElem?_drop,Nat.add_zero,xT,xI h]; rfl
theorem vp {x:LiftL}{k:Nat}{w:Int}(h:k < x.words.length)(hw:unnumP x k=some w):(lowK x k).set k w=lowK x (k+1):=by
 have h1:=lowW_at h;rw[hw]at h1;have h2:(lowW x).take (k+1)=(lowW x).take k++[w]:=qz h1;unfold lowK;rw[h2,List.set_append,xP (by rw[uo,jr]; omega),uo,jr,Nat.min_eq_left (by omega),Nat.sub_self,uh];congr 1
 rw[List.drop_eq_getElem_cons h]; rfl
theorem vQ {x:LiftL}{k:Nat}(h:k < x.words.length)(hw:unnumP x k=some (x.words.getD k 0)):lowK x (k+1)=lowK x k:=by
 rw[← vp h hw];exact vj (lowK_at h)
theorem lowK_0 (x:LiftL):lowK x 0=x.words:=by unfold lowK; rw[List.take_zero,List.drop_zero,Ja]
theorem lowK_all (x:LiftL):lowK x x.words.length=lowW x:=by
 unfold lowK; rw[List.drop_length,List.append_nil,QC (by rw[jr]; exact uc _)]
theorem lowBad_f {x:LiftL}(h:∀i,i < x.words.length→(unnumP x i).isSome=true):lowBad x=false:=by
 unfold lowBad; rw[List.any_eq_false]
 intro i hi;have:=h i (List.mem_range.1 hi);cases hu:unnumP x i with
 | none=>rw[hu]at this; cases this
 | some w=>simp
theorem vq {x:LiftL}{i:Nat}(h:i < x.words.length)(hu:unnumP x i=none):lowBad x=true:=by
 unfold lowBad; rw[List.any_eq_true]
 exact⟨i,List.mem_range.2 h,by rw[hu]; rfl⟩
theorem vP {x:LiftL}(h:lowerP x=none):lowR x=([],30):=by unfold lowR; rw[h]
theorem lowR_some {x:LiftL}{b:List Int}(h:lowerP x=some b):lowR x=(b,0):=by unfold lowR; rw[h]
theorem zh {l:List Int}(h:Wrds l)(i:Nat):0≤l.getD i 0∧l.getD i 0 < 4294967296:=by
 rw[xT];cases e:l[i]? with
 | none=>simp
 | some y=>exact h y (xR e)
theorem vO {x:LiftL}(h:Wrds x.words):Wrds (lowW x):=by
 intro w hw;obtain⟨i,_,rfl⟩:=Qu.1 hw;have h1:=zh h i;cases hu:unnumP x i with
 | none=>simp
 | some w =>
   show 0≤w∧w < 4294967296
   unfold unnumP at hu;split at hu
   · unfold unnum at hu
     split at hu
     · cases hu
     · exact(zv hu).2
   · cases hu; exact h1
theorem bytes4_word {w:Int}(h:0≤w∧w < 4294967296)(pre post:List Int)(i:Nat)(hp:pre.length=4*i):word4 (pre++(bytes4 w++post)) i=w:=by
 have g:∀j,(pre++(bytes4 w++post)).getD (4*i+j) 0=(bytes4 w++post).getD j 0:=by
  intro j;rw[xT,xT,uB (by omega)];congr 2; omega
 unfold word4;rw[show 4*i=4*i+0 from rfl,g 0,g 1,g 2,g 3];show octP w 0*16777216+octP w 1*65536+octP w 2*256+octP w 3=w
 rw[oct0 w h.1 h.2,oct1,oct2,oct3]; omega
theorem kF {ws:List Int}(h:Wrds ws):wordsN (bytesP ws) ws.length=ws:=by
 apply List.ext_getElem?
 intro i;by_cases hi:i < ws.length
 · unfold wordsN
   rw[uW,List.getElem?_range hi];have e:bytesP ws=bytesP (ws.take i)++(bytes4 ws[i]++bytesP (ws.drop (i+1))):=by
    conv=>lhs; rw[← List.take_append_drop i ws,List.drop_eq_getElem_cons hi]
    unfold bytesP; rw[List.flatMap_append,List.flatMap_cons]
   show some (word4 (bytesP ws) i)=_
   rw[e,bytes4_word (h _ (List.getElem_mem hi)) _ _ i (by rw[qD,uo]; omega),xI hi]
 · rw[List.getElem?_eq_none (by rw[jE]; omega),List.getElem?_eq_none (by omega)]
end Go.Inl
