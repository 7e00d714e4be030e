/- match.copied: the copy of a map answers as the map. Conditions: no key twice. match.build: the automaton of all pieces of a text. Conditions: at most 65536 bytes. match.automaton.ends: the longest piece that ends at each place. Conditions: at most 65536 bytes. -/
import Derived.Test.YtgkgihnpjgbmhaaGreatDoorKM1
import Derived.Test.YtgkgihnpjgbmhaaGreatDoorKM0
import Derived.Test.YtgkgihnpjgbmhaaGreatDoorFacts
import Derived.Test.YtgkgihnpjgbmhaaGreatDoorKCore2
import Derived.Test.YtgkgihnpjgbmhaaGreatDoorKCore3
set_option linter.unusedSimpArgs false
set_option linter.unusedVariables false
namespace Go.Proofs.YtgkgihnpjgbmhaaGreatDoor
open Tryz
open Go Go.RowKit Go.Inl
theorem qJ {P:Program}{ρ:Operand→Value}{S:World→Prop}{op:Op}{ty:TypeId}{v v':Value}(h:Gives P ρ S op ty v)(e:v=v'):Gives P ρ S op ty v':=by subst e; exact h
structure CpI (l : List (Int × Int)) (seen : Array Nat) (m : List (Int × Int)) : Prop where
 has:∀(j:Nat) (k v:Int),l[j]? = some (k,v)→j∈seen.toList→lookI m k=some v
 of:∀k v,lookI m k=some v→lookI l k=some v
 nd:KeysN m
theorem CpI.init (l:List (Int×Int)):CpI l #[] []:=⟨fun j k v _ h=>by simp at h,fun k v h=>(by cases h),by unfold KeysN; simp⟩
theorem CpI.step {l m:List (Int×Int)}{seen:Array Nat}{j:Nat}{k v:Int}(h:CpI l seen m)(hn:KeysN l)(hj:l[j]? = some (k,v)):CpI l (seen.push j) (putU m k v):=by
 have hk:=look_at hn hj;refine⟨fun i k' v' hi hs=>?_,fun k' v' hl=>?_,h.nd.put k v⟩
 · rw [vt]
   have hk':=look_at hn hi;split
   · rename_i e; rw[e,hk]at hk'; exact hk'
   · rename_i e
     rw[Array.toList_push,uJ]at hs;rcases hs with hs | hs
     · exact h.has i k' v' hi hs
     · rw [uG.1 hs, hj] at hi
       cases hi
       exact absurd rfl e
 · rw [vt] at hl
   split at hl
   · rename_i e; rw[e,hk]; exact hl
   · exact h.of k' v' hl
theorem CpI.done {l m:List (Int×Int)}{seen:Array Nat}(h:CpI l seen m)(ha:∀j,j < l.length→j∈seen.toList)(k:Int):lookI m k=lookI l k:=by
 cases hl:lookI l k with
 | some v =>
   obtain⟨j,hj⟩:=look_ex hl;exact h.has j k v hj (ha j (xX.1 hj).1)
 | none =>
   cases hm:lookI m k with
   | none=>rfl
   | some v=>rw[h.of k v hm]at hl; cases hl
def leftC (n:Nat)(seen:Array Nat):Nat:=((List.range n).filter fun j => !seen.toList.contains j).length
theorem filter_lt {α : Type} (p q : α → Bool) : ∀ (l : List α) (x : α), x ∈ l → (∀ y, q y = true → p y = true) → p x = true → q x = false → (l.filter q).length < (l.filter p).length
 | [],x,h,_,_,_=>by cases h
 | y::r,x,h,hi,h1,h2=>by
   have hle:(r.filter q).length≤(r.filter p).length:=by
    clear h;induction r with
    | nil=>simp
    | cons z r ih =>
      rw[List.filter_cons,List.filter_cons];by_cases hq:q z=true
      · rw[xS hq,xS (hi z hq)]; simpa using ih
      · rw [xP hq]
        split
        · simp only[List.length_cons]; omega
        · exact ih
   rw[List.filter_cons,List.filter_cons];rcases xV.1 h with rfl | h
   · rw[xS h1,xP (by rw[h2]; simp),List.length_cons]; omega
   · have := filter_lt p q r x h hi h1 h2
     by_cases hq:q y=true
     · rw[xS hq,xS (hi y hq)]; simpa using this
     · rw [xP hq]
       split
       · rw[List.length_cons]; omega
       · exact this
theorem leftC_lt {n j:Nat}{seen:Array Nat}(hj:j < n)(hn:j∉seen.toList):leftC n (seen.push j) < leftC n seen:=by
 unfold leftC;refine filter_lt _ _ _ j (List.mem_range.2 hj) (fun y hy=>?_) (by simpa using hn) (by simp);simp only[Array.toList_push,uS,List.contains_eq_mem,xZ,uJ,not_or]at hy ⊢;exact hy.1
structure CpW where
 seen:Array Nat
 m:List (Int×Int)
theorem copied_c (r : Nat) (l : List (Int × Int)) (hn : KeysN l) (w0 : World) (I0 : Imm) (hI : Sat I0 w0) (hm : I0 r = some (mapU l)) :
 Ctr prog 103 [.map (some r)] w0 (fun v w'=>∃b m,v = .map (some b)∧St [] w0 I0 I0 w' [.obj b (mapU m)]∧KeysN m∧∀k,lookI m k=lookI l k):=by
 refine fn (n:=20) func103 rfl rfl rfl ?_;have Z:=St.start hI;refine QwR (qq Z (qd _) (QoR (qq Z (qb _) (qq Z (g_lenMU rfl QT hm rfl) (qe (d_makeMapSU Z QT rfl) ?_)))));clear Z;rintro _ w_1⟨bo,rfl,Z⟩;refine qq Z (qd _) (QoN (xJ (QwR (qq Z (qb _) (qe (d_rangeU Z QT hm rfl) ?_)))));clear Z;rintro _ w_2⟨bi,rfl,Z⟩;refine QoN (xU (loop (fun(z:CpW) σ w=>okS σ [(0,.map (some r)),(3,.map (some bo)),(10,.zg bi)]∧St [] w0 I0 I0 w [.obj bi (.mapIter (some r) l.length z.seen l.length),.obj bo (mapU z.m)]∧CpI l z.seen z.m) (fun z=>leftC l.length z.seen) (⟨#[],[]⟩) ?_ ?_))
 ·
  exact⟨⟨rfl,rfl,rfl,trivial⟩,Z.sel [true,true],CpI.init l⟩
 ·
  rintro⟨seen,m⟩σ w_l⟨hs,Z,hc⟩;dsimp only at hs Z hc ⊢;rw[← qj hs]; clear hs
  refine QwR (qe (d_nextU 0 bi Z rfl hm rfl) ?_);clear Z;rintro _ w_3⟨more,arr,seen2,rfl,harr,Z,hno,hyes⟩;refine qq Z (qk rfl harr) (QoN (xJ (qh rfl ?_ ?_)))
  ·
   intro hc12;obtain⟨j,k,v,hj,hns,rfl⟩:=hyes hc12;refine xM (xL (xU (QwR (qq Z (g_entryU 0 bi rfl hm hj rfl) (qq Z (qk (v:=.bg _) rfl rfl) (qq Z (Qxi rfl rfl) (qq Z (qv (v:=.bg _) rfl) (qq Z (Qai rfl) (QoN (reg (qq Z (qb _) (qq Z (qx (v:=.bg _) rfl) (qq Z (Qmi rfl) (qe (d_mapPutOU 1 Z QT uA rfl rfl rfl rfl) ?_))))))))))))));clear Z;rintro _ w_4⟨rfl,Z⟩;exact⟨⟨seen.push j,putU m k v⟩,_,rfl,⟨⟨rfl,rfl,rfl,trivial⟩,Z.sel [true,true],hc.step hn hj⟩,leftC_lt (xX.1 hj).1 hns⟩
  ·
   intro hc12;obtain⟨rfl,hall⟩:=hno hc12;refine ur (um (um (Qi (xL (QwR (qq Z (qb _) (qq Z (qd _) (QoN (xO (ret1 results103 (qg rfl) ?_))))))))));exact⟨bo,m,rfl,Z.sel [false,true],hc.nd,hc.done hall⟩
end Go.Proofs.YtgkgihnpjgbmhaaGreatDoor
namespace Go.Proofs.YtgkgihnpjgbmhaaGreatDoor
open Tryz
open Go Go.RowKit Go.Inl
structure StC where
 b:Nat
 lk:Int
 ln:Int
 en:Int
def stC (x:StC):List Value:=[.map (some x.b),.ig x.lk,.ig x.ln,.ig x.en]
theorem js (x:StC):(stC x).length=4:=rfl
def lkV : Option Nat → Int
 | none=>-1
 | some u=>u
structure HA (I : Imm) (n0 : Nat) (xs : List StC) (f : Nat → Sst) : Prop where
 cell:∀(v:Nat) (x:StC),xs[v]? = some x→x.lk=lkV (f v).lk∧x.ln=(f v).ln∧x.en=(f v).en
 map:∀(v:Nat) (x:StC),xs[v]? = some x→∃l,I x.b=some (mapU l)∧KeysN l∧∀k,lookI l k=((f v).nx k).map (fun(u:Nat)=>(u:Int))
 inj:∀(v u:Nat) (x y:StC),xs[v]? = some x→xs[u]? = some y→x.b=y.b→v=u
 new:∀x∈xs,n0≤x.b
theorem HA.mono {I J:Imm}{n0:Nat}{xs:List StC}{f:Nat→Sst}(h:HA I n0 xs f)(hs:Inl.Sub I J):HA J n0 xs f :=
 ⟨h.cell,fun v x hx=>by obtain⟨l,h1,h2⟩:=h.map v x hx; exact⟨l,hs _ _ h1,h2⟩,h.inj,h.new⟩
theorem HA.put {I : Imm} {n0 : Nat} {xs : List StC} {g : Nat → Sst} (h : HA I n0 xs g) {v : Nat} {x : StC} (hx : xs[v]? = some x) {l : List (Int × Int)} (hl : I x.b = some (mapU l)) (hn : KeysN l) (hk : ∀ k, lookI l k = ((g v).nx k).map (fun (u : Nat) => (u : Int))) (c : Int) (u : Nat) :
 HA (I.upd x.b (mapU (putU l c u))) n0 xs (setNx g v c u):=by
 refine⟨fun w y hy=>?_,fun w y hy=>?_,h.inj,h.new⟩
 · have := h.cell w y hy
   unfold setNx;split
   · rename_i e; subst e; exact this
   · exact this
 · by_cases e : w = v
   · subst e
     rw[hx]at hy;obtain rfl:=Option.some.inj hy;refine⟨_,Imm.upd_same _ _ _,hn.put c u,fun k=>?_⟩;unfold setNx;rw[xS rfl,vt,hk];dsimp only;split <;> rfl
   · obtain ⟨m, h1, h2, h3⟩ := h.map w y hy
     refine⟨m,?_,h2,fun k=>?_⟩
     · rw[Imm.upd_ne _ _ (fun e2=>e (h.inj w v y x hy hx e2))]; exact h1
     · unfold setNx; rw[xP e]; exact h3 k
theorem HA.app {I J : Imm} {n0 : Nat} {xs : List StC} {g : Nat → Sst} (h : HA I n0 xs g) (hs : Inl.Sub I J) {b : Nat} {l : List (Int × Int)} (hb : J b = some (mapU l)) (hI : I b = none) (hn : KeysN l) {s : Sst} (hk : ∀ k, lookI l k = (s.nx k).map (fun (u : Nat) => (u : Int))) (h0 : n0 ≤ b) {x : StC} (hx : x = ⟨b, lkV s.lk, s.ln, s.en⟩) :
 HA J n0 (xs++[x]) (fun v=>if v=xs.length then s else g v):=by
 have old:∀(v:Nat) (y:StC),(xs++[x])[v]? = some y→(xs[v]? = some y∧v≠xs.length)∨(v=xs.length∧y=x):=fun v y hy=>by
  rcases Nat.lt_or_ge v xs.length with e | e
  · rw[ux e]at hy; exact .inl ⟨hy,by omega⟩
  · rw [uB e] at hy
    have h1:=(xX.1 hy).1;simp at h1
    have e2:v=xs.length:=by omega
    subst e2;rw[Nat.sub_self]at hy;exact .inr ⟨rfl,(Option.some.inj hy).symm⟩
 have ne:∀(v:Nat) (y:StC),xs[v]? = some y→y.b≠b:=fun v y hy e=>by
  obtain⟨m,h1,_⟩:=h.map v y hy;rw[e,hI]at h1; cases h1
 refine⟨fun v y hy=>?_,fun v y hy=>?_,fun v u y z hy hz e=>?_,fun y hy=>?_⟩
 · rcases old v y hy with ⟨h1, h2⟩ | ⟨rfl, rfl⟩
   · rw[xP h2]; exact h.cell v y h1
   · rw[xS rfl,hx]; exact⟨rfl,rfl,rfl⟩
 · rcases old v y hy with ⟨h1, h2⟩ | ⟨rfl, rfl⟩
   · rw [xP h2]
     obtain⟨m,h3,h4⟩:=h.map v y h1;exact⟨m,hs _ _ h3,h4⟩
   · rw[xS rfl,hx]; exact⟨l,hb,hn,hk⟩
 · rcases old v y hy with ⟨h1, _⟩ | ⟨rfl, rfl⟩ <;> rcases old u z hz with ⟨h2, _⟩ | ⟨rfl, rfl⟩
   · exact h.inj v u y z h1 h2 e
   · rw[hx]at e; exact absurd e (ne v y h1)
   · rw[hx]at e; exact absurd e.symm (ne u z h2)
   · rfl
 · rcases uJ.1 hy with hy | hy
   · exact h.new y hy
   · rw[uG.1 hy,hx]; exact h0
theorem HA.link {I:Imm}{n0:Nat}{xs:List StC}{g:Nat→Sst}(h:HA I n0 xs g){v:Nat}{x:StC}(hx:xs[v]? = some x)(u:Nat):HA I n0 (xs.set v ⟨x.b,u,x.ln,x.en⟩) (fun w=>if w=v then { g v with lk:=some u } else g w):=by
 have hv:=(xX.1 hx).1;have old:∀(w:Nat) (y:StC),(xs.set v ⟨x.b,u,x.ln,x.en⟩)[w]? = some y→(w=v∧y=⟨x.b,u,x.ln,x.en⟩)∨(w≠v∧xs[w]? = some y):=fun w y hy=>by
  rw[List.getElem?_set]at hy;by_cases e:v=w
  · rw [xS e] at hy
    rw[xS (by omega)]at hy;exact .inl ⟨e.symm,(Option.some.inj hy).symm⟩
  · rw[xP e]at hy; exact .inr ⟨fun h=>e h.symm,hy⟩
 have oldb:∀(w:Nat) (y:StC),(xs.set v ⟨x.b,u,x.ln,x.en⟩)[w]? = some y→∃z,xs[w]? = some z∧z.b=y.b:=fun w y hy=>by
  rcases old w y hy with ⟨rfl,rfl⟩ | ⟨_,h2⟩
  · exact⟨x,hx,rfl⟩
  · exact⟨y,h2,rfl⟩
 refine⟨fun w y hy=>?_,fun w y hy=>?_,fun w z y q hy hq e=>?_,fun y hy=>?_⟩
 · rcases old w y hy with ⟨rfl, rfl⟩ | ⟨h1, h2⟩
   · rw[xS rfl]; exact⟨rfl,(h.cell w x hx).2⟩
   · rw[xP h1]; exact h.cell w y h2
 · rcases old w y hy with ⟨rfl, rfl⟩ | ⟨h1, h2⟩
   · rw[xS rfl]; exact h.map w x hx
   · rw[xP h1]; exact h.map w y h2
 · obtain ⟨a, ha, ha2⟩ := oldb w y hy
   obtain⟨d,hd,hd2⟩:=oldb z q hq;exact h.inj w z a d ha hd (by rw[ha2,hd2]; exact e)
 · obtain ⟨w, hw⟩ := Jk.1 hy
   obtain⟨a,ha,ha2⟩:=oldb w y hw;rw[← ha2]; exact h.new a (xR ha)
theorem nx_of {l:List (Int×Int)}{s:Sst}{c:Int}(h:lookI l c=(s.nx c).map (fun(u:Nat)=>(u:Int))):(lookI l c).isSome=true→∃q,s.nx c=some q:=fun hs=>by
 rw[h]at hs;cases e:s.nx c with
 | some q=>exact⟨q,rfl⟩
 | none=>rw[e]at hs; cases hs
theorem nx_no {l:List (Int×Int)}{s:Sst}{c:Int}(h:lookI l c=(s.nx c).map (fun(u:Nat)=>(u:Int))):(lookI l c).isSome=false→s.nx c=none:=fun hs=>by
 rw[h]at hs;cases e:s.nx c with
 | none=>rfl
 | some q=>rw[e]at hs; cases hs
theorem nx_q {l:List (Int×Int)}{s:Sst}{c:Int}{q:Nat}(h:lookI l c=(s.nx c).map (fun(u:Nat)=>(u:Int)))(hq:q≠0):(lookI l c).getD 0=(q:Int)↔s.nx c=some q:=by
 rw[h];cases e:s.nx c with
 | none=>simp; omega
 | some u=>simp <;> omega
structure BdW where
 k:Nat
 xs:List StC
 f:Nat→Sst
 str:Nat→List Int
 last:Nat
 a:Option Addr
 c:Nat
structure BaW where
 g:Nat→Sst
 p:Option Nat
set_option maxHeartbeats 40000000 in
theorem buildM_c (ad : Option Addr) (cap : Nat) (b : List Int) (w0 : World) (I0 : Imm) (hI : Sat I0 w0) (hb : RBytes I0 (.sg ad b.length cap) b) (hbb : ∀ y ∈ b, 0 ≤ y ∧ y ≤ 255) (hbl : b.length ≤ 65536) :
 Ctr prog 58 [.sg ad b.length cap] w0 (fun v w'=>∃I' a c xs f str,v = .sg a xs.length c∧Ext w0 I0 w' I'∧RFl I' 4 stC (.sg a xs.length c) xs∧HA I' w0.heap.size xs f∧SaOk f (fun v=>v < xs.length) str b∧xs.length≤2*b.length+1):=by
 refine fn (n:=156) func58 rfl rfl rfl ?_;have Z:=St.start hI;refine QwR (qq Z (qd _) (QoR (qe (d_makeMapU Z) ?_)));clear Z;rintro _ w_1⟨m0,rfl,Z⟩;refine qq Z (qs (pl:=[(0,1),(1,1),(2,1),(3,1)]) (cs:=[_,.ig _,.ig _,.ig _]) JE Qk (fun w=>by simp[Jn,xK]) (mp rfl (mp (v:=.ig _) rfl mp0)) rfl) ?_;refine qe (d_lit (vs:=[.agg #[_,.ig _,.ig _,.ig _]]) (cs:=[_,.ig _,.ig _,.ig _]) Z Qa QB JE rfl rfl rfl rfl (fun v hv=>by simp only[xV,xY,or_false]at hv; subst hv; rfl) rfl) ?_;clear Z;rintro _ w_2⟨b15,rfl,Z⟩;refine qq Z (qd _) (QoR (qq Z (Qai rfl) (QoN (xJ (QwR (qq Z (qb _) (qq Z (qo rfl xQ (hb.mono Z.ext) rfl) (qq Z (Qmi rfl) (QoN (xU ?_))))))))));have hnm0:=Z.new (.obj m0 (mapU [])) (List.mem_cons_of_mem _ (List.mem_cons_self ..)) m0 (by simp[Res.foot]);have hSr:=Z.asRow (k:=0) (sz:=4) (m:=1) rfl rfl (by show 1≤maxLen; decide);have hSo:St [] w0 I0 I0 _ [.obj m0 (mapU []),.row (.sg (some ⟨b15,0,none⟩) 1 1) 192 4 1 [.map (some m0),.ig (-1),.ig 0,.ig 0]]:=hSr.ord [1,0];clear Z hSr;obtain⟨I1,Z,hs1,hm1⟩:=hSo.freezeO;have hHA1:=(HA.app (xs:=[]) (g:=fun _=>⟨fun _=>none,none,0,0⟩) (n0:=w0.heap.size) (s:=⟨fun _=>none,none,0,0⟩) (x:=⟨m0,-1,0,0⟩) ⟨fun v x h=>(by simp at h),fun v x h=>(by simp at h),fun v u x y h=>(by simp at h),fun x h=>(by cases h)⟩ hs1 hm1 hnm0.1 (by unfold KeysN; simp) (fun c=>rfl) (hnm0.2.elim id fun h=>by simp at h) rfl)
 have hok1:=(SaOk.one (f:=fun v=>if v=([]:List StC).length then ⟨fun _=>none,none,0,0⟩ else ⟨fun _=>none,none,0,0⟩) rfl).congr (D':=fun v=>v < [(⟨m0,-1,0,0⟩:StC)].length) (fun v=>by simp);obtain⟨f1,str1,hHA1,hok1,hs10⟩:∃f1 str1,HA I1 w0.heap.size [(⟨m0,-1,0,0⟩:StC)] f1∧SaOk f1 (fun v=>v < [(⟨m0,-1,0,0⟩:StC)].length) str1 []∧str1 0=[]:=⟨_,_,hHA1,hok1,rfl⟩
 refine loop (fun(z:BdW) σ w=>okS σ [(0,.sg ad b.length cap),(3,.sg z.a z.xs.length z.c),(4,.ig z.last),(16,.sg ad b.length cap),(17,.ig b.length),(18,.ig z.k)]∧∃I,St [] w0 I0 I w [.row (.sg z.a z.xs.length z.c) 192 4 z.xs.length (flat stC z.xs)]∧z.k≤b.length∧HA I w0.heap.size z.xs z.f∧SaOk z.f (fun v=>v < z.xs.length) z.str (b.take z.k)∧z.last < z.xs.length∧z.str z.last=b.take z.k∧z.xs.length≤2*z.k+1) (fun z=>b.length - z.k) (⟨0,[⟨m0,-1,0,0⟩],f1,str1,0,some ⟨b15,0,none⟩,1⟩) ?_ ?_
 ·
  exact⟨⟨rfl,rfl,rfl,rfl,rfl,rfl,trivial⟩,I1,Z,Nat.zero_le _,hHA1,hok1,Nat.zero_lt_one,hs10,uc _⟩
 ·
  rintro⟨k,xs,f,str,last,a,c⟩σ w_l⟨hs,I,Z,hk0,hHA,hok,hla,hls,hxk⟩;dsimp only at hs Z hk0 hHA hok hla hls hxk ⊢;rw[← qj hs]; clear hs
  refine QwR (qq Z (g_lss rfl rfl) (QoN (xJ (qh rfl ?_ ?_))))
  ·
   intro hc19
   try simp only[zA,zO,zN,zI,zF,zM,zT,zU]at hc19
   obtain⟨y,hyi⟩:∃y,b[k]? = some y:=⟨_,xI (by omega)⟩
   have hyA:=(hb.mono Z.ext).at hyi;have hyb:=hbb y (xR hyi);obtain⟨xl,hxl⟩:∃x,xs[((last:Nat):Int).toNat]? = some x:=⟨_,xI (by rw[Int.toNat_natCast]; omega)⟩
   have hxl_:=hxl;rw[Int.toNat_natCast]at hxl_;have hkl:(b.take k).length=k:=by rw[uo]; omega
   have hxln:xl.ln=(k:Int):=by rw[(hHA.cell _ _ hxl_).2.1,← hok.sl last hla,hls,hkl]
   refine xM (xL (xJ (xU (QwR (qq Z (Qmi rfl) (qq Z (g_ixI xQ un (hb.mono Z.ext) rfl rfl (by omega) (by omega)) (qq Z (qt uZ hyA rfl rfl) (qq Z (Qai rfl) (qq Z (qv (v:=.bg _) rfl) (QoR (qq Z (qb _) (qq Z (g_lenR 0 rfl Qa rfl rfl) (qq Z (Qai rfl) (QoR (qq Z (qb _) (qe (d_makeMapU Z) ?_))))))))))))))));clear Z;rintro _ w_3⟨bm,rfl,Z⟩;refine qq Z (qb _) (qq Z (Qmi rfl) ?_);refine qq Z (g_ixR 1 Qa QB rfl rfl rfl (by show(0:Int)≤(last:Nat); omega) (by show((last:Nat):Int) < _; omega)) ?_;refine qq Z (qE (c':=2) Qk rfl xK rfl rfl rfl) (qq Z (jg 1 xW rfl rfl (qN js xs _ xl hxl 2 _ rfl)) (qq Z (g_add rfl rfl (by omega) (by omega)) (qq Z (Qmi rfl) (qq Z (g_add rfl rfl (by omega) (by omega)) (qq Z (qs (pl:=[(0,1),(1,1),(2,1),(3,1)]) (cs:=[_,.ig _,.ig _,.ig _]) JE Qk (fun w=>by simp[Jn,xK]) (mp rfl (mp (v:=.ig _) rfl (mp (v:=.ig _) rfl mp0))) rfl) ?_)))));refine qe (d_lit (vs:=[.agg #[_,.ig _,.ig _,.ig _]]) (cs:=[_,.ig _,.ig _,.ig _]) Z Qa QB JE rfl rfl rfl rfl (fun v hv=>by simp only[xV,xY,or_false]at hv; subst hv; rfl) rfl) ?_;clear Z;rintro _ w_4⟨b36,rfl,Z⟩;refine qe (qB 2 0 Z rfl Qa info192 rfl rfl rfl rfl rfl rfl rfl rfl (by omega) (by omega)) ?_;clear Z;rintro _ w_5⟨a37,p37,rfl,Z⟩;refine qq Z (qd _) (QoN (xJ ?_));have hSo:St [] w0 I0 I _ [.obj bm (mapU []),.row (.sg a37 (xs.length+1) p37) 192 4 (xs.length+1) (flat stC xs++[.map (some bm),.ig 0,.ig (xl.ln+1),.ig ((k:Int)+1)])]:=Z.ord [1,2];clear Z;have hnbm:=hSo.new _ (List.mem_cons_self ..) bm (by simp[Res.foot]);obtain⟨I1,Z,hs1,hm1⟩:=hSo.freezeO
   have hHA1:=hHA.app (s:=⟨fun _=>none,some 0,(b.take k).length+1,(b.take k).length+1⟩) (x:=⟨bm,0,(k+1:Nat),(k+1:Nat)⟩) hs1 hm1 hnbm.1 (by unfold KeysN; simp) (fun c=>rfl) (hnbm.2.elim id fun h=>by simp at h) (by rw[hkl]; rfl);have hsta:=StA.init (N:=xs.length) (c:=y) (g:=fun v=>if v=xs.length then ⟨fun _=>none,some 0,(b.take k).length+1,(b.take k).length+1⟩ else f v) hok hla hls (xS rfl) (fun v hv=>xP (by omega));obtain⟨xs1,hxs1⟩:∃ys,xs++[(⟨bm,0,(k+1:Nat),(k+1:Nat)⟩:StC)]=ys:=⟨_,rfl⟩
   have hfl:flat stC xs++[.map (some bm),.ig 0,.ig (xl.ln+1),.ig ((k:Int)+1)]=flat stC xs1:=by rw[← hxs1,ql,hxln]; rfl
   have hx1l:xs1.length=xs.length+1:=by rw[← hxs1,xN]; rfl
   rw[hfl,← hx1l]at Z;rw[hxs1]at hHA1;obtain⟨g1,hHA1,hsta⟩:∃g1,HA I1 w0.heap.size xs1 g1∧StA f (fun v=>v < xs.length) str (b.take k) y xs.length g1 (some last):=⟨_,hHA1,hsta⟩
   refine reg (qq Z (Qmi rfl) (qq Z (Qai rfl) (QoN (meet (fun σ w=>∃J g p,okS σ [(0,.sg ad b.length cap),(3,.sg a37 xs1.length p37),(4,.ig last),(5,.ig k),(6,.bg y),(7,.ig xs.length),(8,.ig (lkV p)),(16,.sg ad b.length cap),(17,.ig b.length),(18,.ig k)]∧St [] w0 I0 J w [.row (.sg a37 xs1.length p37) 192 4 xs1.length (flat stC xs1)]∧HA J w0.heap.size xs1 g∧StA f (fun v=>v < xs.length) str (b.take k) y xs.length g p∧(∀p0,p=some p0→∃q,(g p0).nx y=some q)) ?_ ?_))))
   ·
    refine xU (loop (fun(z:BaW) σ w=>okS σ [(0,.sg ad b.length cap),(3,.sg a37 xs1.length p37),(4,.ig last),(5,.ig k),(6,.bg y),(7,.ig xs.length),(8,.ig (lkV z.p)),(16,.sg ad b.length cap),(17,.ig b.length),(18,.ig k)]∧∃I,St [] w0 I0 I w [.row (.sg a37 xs1.length p37) 192 4 xs1.length (flat stC xs1)]∧HA I w0.heap.size xs1 z.g∧StA f (fun v=>v < xs.length) str (b.take k) y xs.length z.g z.p) (fun z=>mOf f z.p) (⟨g1,some last⟩) ?_ ?_)
    ·
     exact⟨⟨rfl,by rw[hx1l]; rfl,rfl,rfl,rfl,rfl,rfl,rfl,rfl,rfl,trivial⟩,I1,Z,hHA1,hsta⟩
    ·
     rintro⟨g,p⟩σ w_l⟨hs,I,Z,hHA,hst⟩;dsimp only at hs Z hHA hst ⊢;rw[← qj hs]; clear hs
     refine xJ (QwR (qq Z (Qmi rfl) (qq Z (g_geq rfl rfl) (QoN (qh rfl ?_ ?_)))))
     ·
      intro hc40
      try simp only[zA,zO,zN,zI,zF,zM,zT,zU]at hc40
      obtain⟨p0,rfl⟩:∃p0,p=some p0:=by
       cases p with
       | none=>exact absurd hc40 (by decide)
       | some p0=>exact⟨p0,rfl⟩
      have hp0:p0 < xs.length:=(hst.cur p0 rfl).1;obtain⟨xp,hxp⟩:∃x,xs1[((p0:Nat):Int).toNat]? = some x:=⟨_,xI (by rw[Int.toNat_natCast]; omega)⟩
      have hxp_:=hxp;rw[Int.toNat_natCast]at hxp_;obtain⟨lp,hlp,hklp,hnlp⟩:=hHA.map _ xp hxp_;have hnp:=hHA.new xp (xR hxp_);have hcp:=(hHA.cell _ _ hxp_).1;refine xM (xL (xJ (xU (xJ (QwR (qq Z (qb _) (qq Z (Qmi rfl) ?_)))))));refine qq Z (g_ixR 0 Qa QB rfl rfl rfl (by show(0:Int)≤(p0:Nat); omega) (by show((p0:Nat):Int) < _; omega)) ?_;refine qq Z (qE (c':=0) Qk rfl Jn rfl rfl rfl) (qq Z (jg 0 JH rfl rfl (qN js xs1 _ xp hxp 0 _ rfl)) (qq Z (qx (v:=.bg _) rfl) (qq Z (vT QT uA Qe hlp rfl rfl) (qq Z (qb _) (qq Z (Qxi rfl rfl) (qq Z (qk (v:=.bool _) rfl rfl) (qq Z (Qai rfl) (qq Z (Qab rfl) (QoR (qq Z (Qmb rfl) (QoN (qh rfl ?_ ?_))))))))))))
      ·
       intro hc56;have hex:∀p1,some p0=some p1→∃q,(g p1).nx y=some q:=fun p1 h=>by obtain rfl:=Option.some.inj h; exact nx_of (hnlp y) hc56
       refine ur (um (blkO rfl (um (um (Qi (xL ?_))))));exact⟨_,rfl,_,_,_,⟨rfl,rfl,rfl,rfl,rfl,rfl,rfl,rfl,rfl,rfl,trivial⟩,Z.sel [true],hHA,hst,hex⟩
      ·
       intro hc56;have hno:=nx_no (hnlp y) hc56;have hst2:=hst.step hok (Nat.lt_irrefl _) hno;have hHA2:=hHA.put hxp_ hlp hklp hnlp y xs.length;have hdec:mOf f (g p0).lk < mOf f (some p0):=by rw[hst.lk p0 hp0,vN hok hp0,kb]; have:=hok.lo_le hp0; omega
       refine xM (xL (reg (qq Z (qb _) (qq Z (Qmi rfl) ?_))));refine qq Z (g_ixR 0 Qa QB rfl rfl rfl (by show(0:Int)≤(p0:Nat); omega) (by show((p0:Nat):Int) < _; omega)) ?_;refine qq Z (qE (c':=0) Qk rfl Jn rfl rfl rfl) (qq Z (jg 0 JH rfl rfl (qN js xs1 _ xp hxp 0 _ rfl)) (qq Z (qx (v:=.bg _) rfl) (qq Z (Qmi rfl) (qe (d_mapPutIU hI Z QT uA hlp hnp rfl rfl rfl) ?_))));clear Z;rintro _ w_6⟨rfl,Z⟩;refine qy (uM (xL (reg (qq Z (qb _) (qq Z (Qmi rfl) ?_)))));refine qq Z (g_ixR 0 Qa QB rfl rfl rfl (by show(0:Int)≤(p0:Nat); omega) (by show((p0:Nat):Int) < _; omega)) ?_;refine qq Z (qE (c':=1) Qk rfl xK rfl rfl rfl) (qq Z (jg 0 xW rfl rfl (qN js xs1 _ xp hxp 1 _ rfl)) (qq Z (Qai rfl) ?_));exact⟨⟨setNx g p0 y xs.length,(g p0).lk⟩,_,rfl,⟨⟨rfl,rfl,rfl,rfl,rfl,rfl,congrArg (Value.int .i64) hcp,rfl,rfl,rfl,trivial⟩,_,Z.sel [true],hHA2,hst2⟩,hdec⟩
     ·
      intro hc40
      try simp only[zA,zO,zN,zI,zF,zM,zT,zU]at hc40
      have hpn:p=none:=by
       cases p with
       | none=>rfl
       | some p0=>exact absurd (show(0:Int)≤(p0:Nat) by omega) hc40
      subst hpn;have hex:∀p0,(none:Option Nat)=some p0→∃q,(g p0).nx y=some q:=fun p0 h=>by cases h
      refine ur (um (um (Qi (xL ?_))));exact⟨_,rfl,_,_,_,⟨rfl,rfl,rfl,rfl,rfl,rfl,rfl,rfl,rfl,rfl,trivial⟩,Z.sel [true],hHA,hst,hex⟩
   ·
    rintro σ w⟨J,g,p,hs,Z,hHA,hst,hex⟩;rw[← qj hs];refine QwR (qq Z (Qmi rfl) (qq Z (Qai rfl) (QoN (xJ (QwR (qq Z (Qmi rfl) (qq Z (g_lss rfl rfl) (QoN (qh rfl ?_ ?_)))))))))
    ·
     intro hc66
     try simp only[zA,zO,zN,zI,zF,zM,zT,zU]at hc66
     have hpn:p=none:=by
      cases p with
      | none=>rfl
      | some p0=>exact absurd (show(0:Int)≤(p0:Nat) by omega) (Int.not_le.2 hc66)
     subst hpn;have hok9:=(hst.done0 hok hla hls (Nat.lt_irrefl _)).congr (D':=fun v=>v < xs1.length) (fun v=>by rw[hx1l]; omega);rw[← qz hyi]at hok9;refine ur (um (Qi (xL (reg (qq Z (g_add rfl rfl (by omega) (by omega)) (qq Z (Qmi rfl) ?_))))))
     first
      | exact⟨⟨k+1,xs1,g,_,xs.length,a37,p37⟩,_,rfl,⟨⟨rfl,rfl,rfl,rfl,rfl,rfl,trivial⟩,_,Z.sel [true],by dsimp only; omega,hHA,hok9,by dsimp only; omega,xS rfl,by dsimp only; omega⟩,by dsimp only; omega⟩
      | exact⟨⟨k+1,xs1.set xs.length ⟨xn.b,q,xn.ln,xn.en⟩,_,_,xs.length,a37,p37⟩,_,rfl,⟨⟨rfl,by dsimp only; rw[ud]; rfl,rfl,rfl,rfl,rfl,trivial⟩,_,(by dsimp only; rw[ud]; exact Z.sel [true]),by dsimp only; omega,hHA9,(by dsimp only; rw[ud]; exact hok9),by dsimp only; rw[ud]; omega,xS rfl,by dsimp only; rw[ud]; omega⟩,by dsimp only; omega⟩
      | exact⟨⟨k+1,(xs2.set q ⟨xq.b,(xs.length+1:Nat),xq.ln,xq.en⟩).set xs.length ⟨xn.b,(xs.length+1:Nat),xn.ln,xn.en⟩,_,str9,xs.length,a118,p118⟩,_,rfl,⟨⟨rfl,by dsimp only; rw[ud,ud]; rfl,rfl,rfl,rfl,rfl,trivial⟩,_,(by dsimp only; rw[ud,ud]; exact Z.sel [true]),by dsimp only; omega,hHA9,(by dsimp only; rw[ud,ud]; exact hok9),by dsimp only; rw[ud,ud]; omega,hl9,by dsimp only; rw[ud,ud]; omega⟩,by dsimp only; omega⟩
    ·
     intro hc66
     try simp only[zA,zO,zN,zI,zF,zM,zT,zU]at hc66
     obtain⟨p0,rfl⟩:∃p0,p=some p0:=by
      cases p with
      | none=>exact absurd (show(-1:Int) < 0 by decide) hc66
      | some p0=>exact⟨p0,rfl⟩
     obtain⟨q,hq⟩:=hex p0 rfl;obtain⟨a1,a2,a3,a4,a5,a6⟩:=hst.at_ hok hq;obtain⟨hp0,hps⟩:=hst.cur p0 rfl;have hq0:=hok.ne0 a1 a2;have hpk:(f p0).ln≤k:=by rw[← hok.sl p0 hp0,← hkl]; exact hps.length_le
     have hqk:(f q).ln≤k:=by rw[← hok.sl q a1,← hkl]; exact(hok.infS a1).length_le
     obtain⟨xp,hxp⟩:∃x,xs1[((p0:Nat):Int).toNat]? = some x:=⟨_,xI (by rw[Int.toNat_natCast]; omega)⟩
     have hxp_:=hxp;rw[Int.toNat_natCast]at hxp_;obtain⟨lp,hlp,hklp,hnlp⟩:=hHA.map _ xp hxp_;obtain⟨xq,hxq⟩:∃x,xs1[((q:Nat):Int).toNat]? = some x:=⟨_,xI (by rw[Int.toNat_natCast]; omega)⟩
     have hxq_:=hxq;rw[Int.toNat_natCast]at hxq_;obtain⟨lq,hlq,hklq,hnlq⟩:=hHA.map _ xq hxq_;obtain⟨xn,hxn⟩:∃x,xs1[((xs.length:Nat):Int).toNat]? = some x:=⟨_,xI (by rw[Int.toNat_natCast]; omega)⟩
     have hxn_:=hxn;rw[Int.toNat_natCast]at hxn_;have hqv:(lookI lp y).getD 0=(q:Int):=(nx_q (hnlp y) hq0).2 hq;obtain⟨cp1,cp2,cp3⟩:=hHA.cell _ _ hxp_;obtain⟨cq1,cq2,cq3⟩:=hHA.cell _ _ hxq_;rw[a5]at cp2;rw[a4]at cq2;rw[hst.en q a1]at cq3;have hqe:=(hok.en q a1).1;rw[hkl]at hqe;refine xM (xL (QwR (qq Z (qb _) (qq Z (Qmi rfl) ?_))));refine qq Z (g_ixR 0 Qa QB rfl rfl rfl (by show(0:Int)≤(p0:Nat); omega) (by show((p0:Nat):Int) < _; omega)) ?_;refine qq Z (qE (c':=0) Qk rfl Jn rfl rfl rfl) (qq Z (jg 0 JH rfl rfl (qN js xs1 _ xp hxp 0 _ rfl)) (qq Z (qx (v:=.bg _) rfl) (qq Z (qJ (g_lookF1U QT uA Qe hlp rfl rfl) (congrArg (Value.int .i64) hqv)) (qq Z (Qai rfl) (QoN (xJ (xJ (draw (.pg 0 (.pg 1 (.hg 2 (.pg 3 (.hg 4 (.pg 5 (.pg 6 (.hg 7 (.pg 8 (.hg 9 (.pg 10 (.pg 11 .nil)))))))))))) mixed (by kernel_rfl) Z ?_))))))));intro w_7 Z;refine sp rfl (qb _) (sp rfl (Qmi rfl) ?_);refine sh rfl (g_ixR 0 Qa QB rfl rfl rfl (by show(0:Int)≤(q:Nat); omega) (by show((q:Nat):Int) < _; omega)) ?_;refine sp rfl (qE (c':=2) Qk rfl xK rfl rfl rfl) (sh rfl (jg 0 xW rfl rfl (qN js xs1 _ xq hxq 2 _ rfl)) (sp rfl (qb _) (sp rfl (Qmi rfl) ?_)));refine sh rfl (g_ixR 0 Qa QB rfl rfl rfl (by show(0:Int)≤(p0:Nat); omega) (by show((p0:Nat):Int) < _; omega)) ?_;refine sp rfl (qE (c':=2) Qk rfl xK rfl rfl rfl) (sh rfl (jg 0 xW rfl rfl (qN js xs1 _ xp hxp 2 _ rfl)) (sp rfl (g_add rfl rfl (by omega) (by omega)) (sp rfl (g_eql rfl rfl) (sn (xL (qh rfl ?_ ?_))))))
     ·
      intro hc85
      try simp only[zA,zO,zN,zI,zF,zM,zT,zU]at hc85
      have hok9:=(hst.done1 (g':=fun w=>if w=xs.length then { g xs.length with lk:=some q } else g w) hok hla hls (Nat.lt_irrefl _) hq (by rw[a4,a5]; omega) (xS rfl) (fun v hv=>xP (by omega))).congr (D':=fun v=>v < xs1.length) (fun v=>by rw[hx1l]; omega);rw[← qz hyi]at hok9;have hHA9:=hHA.link hxn_ q;refine QwR (qq Z (qb _) (qq Z (Qmi rfl) (qq Z (Qmi rfl) ?_)));refine qq Z (g_ixR 0 Qa QB rfl rfl rfl (by show(0:Int)≤(xs.length:Nat); omega) (by show((xs.length:Nat):Int) < _; omega)) ?_;refine qq Z (qE (c':=1) Qk rfl xK rfl rfl rfl) (qe (jd 0 (c:=1) js ⟨xn.b,q,xn.ln,xn.en⟩ Z rfl hxn xK rfl rfl rfl (vs:=[.ig _]) rfl rfl rfl rfl rfl) ?_);clear Z;rintro _ w_8⟨rfl,Z⟩;refine QoN (ur (um (Qi (xL (reg (qq Z (g_add rfl rfl (by omega) (by omega)) (qq Z (Qmi rfl) ?_)))))))
      first
       | exact⟨⟨k+1,xs1,g,_,xs.length,a37,p37⟩,_,rfl,⟨⟨rfl,rfl,rfl,rfl,rfl,rfl,trivial⟩,_,Z.sel [true],by dsimp only; omega,hHA,hok9,by dsimp only; omega,xS rfl,by dsimp only; omega⟩,by dsimp only; omega⟩
       | exact⟨⟨k+1,xs1.set xs.length ⟨xn.b,q,xn.ln,xn.en⟩,_,_,xs.length,a37,p37⟩,_,rfl,⟨⟨rfl,by dsimp only; rw[ud]; rfl,rfl,rfl,rfl,rfl,trivial⟩,_,(by dsimp only; rw[ud]; exact Z.sel [true]),by dsimp only; omega,hHA9,(by dsimp only; rw[ud]; exact hok9),by dsimp only; rw[ud]; omega,xS rfl,by dsimp only; rw[ud]; omega⟩,by dsimp only; omega⟩
       | exact⟨⟨k+1,(xs2.set q ⟨xq.b,(xs.length+1:Nat),xq.ln,xq.en⟩).set xs.length ⟨xn.b,(xs.length+1:Nat),xn.ln,xn.en⟩,_,str9,xs.length,a118,p118⟩,_,rfl,⟨⟨rfl,by dsimp only; rw[ud,ud]; rfl,rfl,rfl,rfl,rfl,trivial⟩,_,(by dsimp only; rw[ud,ud]; exact Z.sel [true]),by dsimp only; omega,hHA9,(by dsimp only; rw[ud,ud]; exact hok9),by dsimp only; rw[ud,ud]; omega,hl9,by dsimp only; rw[ud,ud]; omega⟩,by dsimp only; omega⟩
     ·
      intro hc85
      try simp only[zA,zO,zN,zI,zF,zM,zT,zU]at hc85
      refine xM (xL (QwR (qq Z (qb _) (qq Z (g_lenR 0 rfl Qa rfl rfl) (qq Z (Qai rfl) (QoN (xJ (draw (.pg 0 (.pg 1 (.pg 2 (.hg 3 (.pg 4 (.hg 5 (.pg 7 (.pg 8 (.hg 9 (.pg 10 (.hg 11 (.pg 12 (.pg 13 (.hg 14 (.pg 15 (.hg 16 (.pg 17 (.pg 18 (.pg 19 (.hg 20 (.pg 21 (.hg 22 (.cons 6 .eff (.pg 23 (.cons 24 .eff (.cons 25 .bar (.pg 26 .nil))))))))))))))))))))))))))) mixed (by kernel_rfl) Z ?_))))))));intro w_9 Z;refine sp rfl (qb _) (sp rfl (qb _) (sp rfl (Qmi rfl) ?_));refine sh rfl (g_ixR 0 Qa QB rfl rfl rfl (by show(0:Int)≤(q:Nat); omega) (by show((q:Nat):Int) < _; omega)) ?_;refine sp rfl (qE (c':=0) Qk rfl Jn rfl rfl rfl) (sh rfl (jg 0 JH rfl rfl (qN js xs1 _ xq hxq 0 _ rfl)) (sp rfl (qb _) (sp rfl (Qmi rfl) ?_)));refine sh rfl (g_ixR 0 Qa QB rfl rfl rfl (by show(0:Int)≤(q:Nat); omega) (by show((q:Nat):Int) < _; omega)) ?_;refine sp rfl (qE (c':=1) Qk rfl xK rfl rfl rfl) (sh rfl (jg 0 xW rfl rfl (qN js xs1 _ xq hxq 1 _ rfl)) (sp rfl (qb _) (sp rfl (Qmi rfl) ?_)));refine sh rfl (g_ixR 0 Qa QB rfl rfl rfl (by show(0:Int)≤(p0:Nat); omega) (by show((p0:Nat):Int) < _; omega)) ?_;refine sp rfl (qE (c':=2) Qk rfl xK rfl rfl rfl) (sh rfl (jg 0 xW rfl rfl (qN js xs1 _ xp hxp 2 _ rfl)) (sp rfl (g_add rfl rfl (by omega) (by omega)) (sp rfl (qb _) (sp rfl (Qmi rfl) ?_))));refine sh rfl (g_ixR 0 Qa QB rfl rfl rfl (by show(0:Int)≤(q:Nat); omega) (by show((q:Nat):Int) < _; omega)) ?_;refine sp rfl (qE (c':=3) Qk rfl xK rfl rfl rfl) (sh rfl (jg 0 xW rfl rfl (qN js xs1 _ xq hxq 3 _ rfl)) ?_);have hS0:=Z
      refine se rfl (qi call103 rfl (copied_c xq.b lq hklq _ _ Z.imm hlq)) ?_;rintro _ w_10⟨bc,mc,rfl,hE,hmn,hmc⟩;replace Z:=Z.call hE;refine⟨_,_,hS0.le hE.ext (List.sublist_append_right _ _),Z,sp rfl (qs (pl:=[(0,1),(1,1),(2,1),(3,1)]) (cs:=[_,.ig _,.ig _,.ig _]) JE Qk (fun w=>by simp[Jn,xK]) (mp rfl (mp (v:=.ig _) rfl (mp (v:=.ig _) rfl (mp (v:=.ig _) rfl mp0)))) rfl) ?_⟩;have hS0:=Z;refine se rfl (d_lit (vs:=[.agg #[_,.ig _,.ig _,.ig _]]) (cs:=[_,.ig _,.ig _,.ig _]) Z Qa QB JE rfl rfl rfl rfl (fun v hv=>by simp only[xV,xY,or_false]at hv; subst hv; rfl) rfl) ?_;rintro _ w_11⟨b117,rfl,Z⟩;refine⟨_,_,hS0.le (Sub.refl _) (uq _ _),Z,sb rfl (qB 2 0 Z rfl Qa info192 rfl rfl rfl rfl rfl rfl rfl rfl (by omega) (by omega)) ?_⟩;rintro _ w_12⟨a118,p118,rfl,Z⟩;refine⟨_,_,Z,sp rfl (qd _) (sn (xL ?_))⟩;have hSo:St [] w0 I0 _ _ [.obj bc (mapU mc),.row (.sg a118 (xs1.length+1) p118) 192 4 (xs1.length+1) (flat stC xs1++[.map (some bc),.ig xq.lk,.ig (xp.ln+1),.ig xq.en])]:=Z.ord [1,2];clear Z;have hnbc:=hSo.new _ (List.mem_cons_self ..) bc (by simp[Res.foot]);obtain⟨I2,Z,hs2,hm2⟩:=hSo.freezeO;have hHA2:=hHA.app (s:=⟨(g q).nx,(g q).lk,(g p0).ln+1,(g q).en⟩) (x:=⟨bc,xq.lk,xp.ln+1,xq.en⟩) hs2 hm2 hnbc.1 hmn (fun c=>(hmc c).trans (hnlq c)) (hnbc.2.elim id fun h=>by simp at h) (by rw[cq1,cp2,cq3,a5,hst.en q a1]; rfl);have hstb:=hst.two (M:=xs.length+1) (g':=fun v=>if v=xs1.length then ⟨(g q).nx,(g q).lk,(g p0).ln+1,(g q).en⟩ else g v) hok (Nat.lt_irrefl _) hq (by omega) (xS hx1l.symm) (fun v hv=>xP (by rw[hx1l]; rcases hv with hv | hv <;> omega))
      obtain⟨xs2,hxs2⟩:∃ys,xs1++[(⟨bc,xq.lk,xp.ln+1,xq.en⟩:StC)]=ys:=⟨_,rfl⟩
      have hfl:flat stC xs1++[.map (some bc),.ig xq.lk,.ig (xp.ln+1),.ig xq.en]=flat stC xs2:=by rw[← hxs2,ql]; rfl
      have hx2l:xs2.length=xs1.length+1:=by rw[← hxs2,xN]; rfl
      rw[hfl,← hx2l]at Z;rw[hxs2]at hHA2;obtain⟨g9,hHA2,hstb⟩:∃g9,HA I2 w0.heap.size xs2 g9∧StB f (fun v=>v < xs.length) str (b.take k) y xs.length (xs.length+1) q ((f p0).ln+1) g9 (some p0):=⟨_,hHA2,hstb⟩
      have hxq2:xs2[((q:Nat):Int).toNat]? = some xq:=by rw[← hxs2,ux (by rw[Int.toNat_natCast]; omega)]; exact hxq
      have hxn0:xs2[((xs.length:Nat):Int).toNat]? = some xn:=by rw[← hxs2,ux (by rw[Int.toNat_natCast]; omega)]; exact hxn
      have hxn2:(xs2.set ((q:Nat):Int).toNat ⟨xq.b,(xs.length+1:Nat),xq.ln,xq.en⟩)[((xs.length:Nat):Int).toNat]? = some xn:=by rw[List.getElem?_set_ne (by omega)]; exact hxn0
      refine meet (fun σ w=>∃J g2 p,okS σ [(0,.sg ad b.length cap),(3,.sg a118 xs2.length p118),(4,.ig xs.length),(5,.ig k),(6,.bg y),(7,.ig xs.length),(8,.ig (lkV p)),(16,.sg ad b.length cap),(17,.ig b.length),(18,.ig k),(11,.ig q),(12,.ig ((xs.length+1:Nat):Int))]∧St [] w0 I0 J w [.row (.sg a118 xs2.length p118) 192 4 xs2.length (flat stC xs2)]∧HA J w0.heap.size xs2 g2∧StB f (fun v=>v < xs.length) str (b.take k) y xs.length (xs.length+1) q ((f p0).ln+1) g2 p∧(∀p1,p=some p1→(g2 p1).nx y≠some q)) ?_ ?_
      ·
       refine xU (loop (fun(z:BaW) σ w=>okS σ [(0,.sg ad b.length cap),(3,.sg a118 xs2.length p118),(4,.ig xs.length),(5,.ig k),(6,.bg y),(7,.ig xs.length),(8,.ig (lkV z.p)),(16,.sg ad b.length cap),(17,.ig b.length),(18,.ig k),(11,.ig q),(12,.ig ((xs.length+1:Nat):Int))]∧∃I,St [] w0 I0 I w [.row (.sg a118 xs2.length p118) 192 4 xs2.length (flat stC xs2)]∧HA I w0.heap.size xs2 z.g∧StB f (fun v=>v < xs.length) str (b.take k) y xs.length (xs.length+1) q ((f p0).ln+1) z.g z.p) (fun z=>mOf f z.p) (⟨g9,some p0⟩) ?_ ?_)
       ·
        exact⟨⟨rfl,by rw[hx2l]; rfl,rfl,rfl,rfl,rfl,rfl,rfl,rfl,rfl,rfl,(by rw[hx1l]; rfl),trivial⟩,I2,Z,hHA2,hstb⟩
       ·
        rintro⟨g2,p⟩σ w_l⟨hs,I,Z,hHA,hst2⟩;dsimp only at hs Z hHA hst2 ⊢;rw[← qj hs]; clear hs
        refine xJ (xJ ?_);have hpc:p=none∨∃p1,p=some p1:=by cases p with | none=>exact .inl rfl | some p1=>exact .inr ⟨p1,rfl⟩
        refine hpc.elim (fun hA=>?_) (fun hB=>?_)
        ·
         subst hA;have hex2:∀p1,(none:Option Nat)=some p1→(g2 p1).nx y≠some q:=fun p1 h=>by cases h
         refine reg (qq Z (Qmi rfl) ?_);refine qq Z (qJ (g_geq rfl rfl) (congrArg Value.bool (uw (by show ¬(0:Int)≤-1; omega)))) ?_;refine qq Z (Qmb rfl) (qsf rfl rfl rfl (qsf rfl rfl rfl (qsf rfl rfl rfl (qsf rfl rfl rfl (qsf rfl rfl rfl (qsf rfl rfl rfl (qsf rfl rfl rfl (qsf rfl rfl rfl (qsf rfl rfl rfl (qq Z (g_and (b:=false) rfl rfl (fun h=>(by cases h))) (QoN (qV (rfl) (ur (um (um (Qi (xL ?_)))))))))))))))));exact⟨_,rfl,_,_,_,⟨rfl,rfl,rfl,rfl,rfl,rfl,rfl,rfl,rfl,rfl,rfl,rfl,trivial⟩,Z.sel [true],hHA,hst2,hex2⟩
        ·
         obtain⟨p1,rfl⟩:=hB;obtain⟨hp1,hps1,_⟩:=hst2.cur p1 rfl;obtain⟨x1,hx1⟩:∃x,xs2[((p1:Nat):Int).toNat]? = some x:=⟨_,xI (by rw[Int.toNat_natCast]; omega)⟩
         have hx1_:=hx1;rw[Int.toNat_natCast]at hx1_;obtain⟨l1,hl1,hkl1,hnl1⟩:=hHA.map _ x1 hx1_;have hnb1:=hHA.new x1 (xR hx1_);have hc1:=(hHA.cell _ _ hx1_).1;refine reg (qq Z (Qmi rfl) ?_);refine qq Z (qJ (g_geq rfl rfl) (congrArg Value.bool (uH (by show(0:Int)≤(p1:Nat); omega)))) ?_;refine qq Z (Qmb rfl) (qqs rfl rfl Z (qb _) (qqs rfl rfl Z (Qmi rfl) ?_));refine qqs rfl rfl Z (g_ixR 0 Qa QB rfl rfl rfl (by show(0:Int)≤(p1:Nat); omega) (by show((p1:Nat):Int) < _; omega)) ?_;refine qqs rfl rfl Z (qE (c':=0) Qk rfl Jn rfl rfl rfl) (qqs rfl rfl Z (jg 0 JH rfl rfl (qN js xs2 _ x1 hx1 0 _ rfl)) (qqs rfl rfl Z (qx (v:=.bg _) rfl) (qqs rfl rfl Z (g_lookF1U QT uA Qe hl1 rfl rfl) (qqs rfl rfl Z (Qmi rfl) (qqs rfl rfl Z (g_eql rfl rfl) (qq Z (g_and rfl rfl (fun _=>rfl)) (QoN ?_)))))));refine qh rfl ?_ ?_
         ·
          intro hc131;have hnq:=(nx_q (hnl1 y) hq0).1 (by simpa using hc131);have hst3:=hst2.step hok (Nat.lt_irrefl _) (by omega) (by omega) a1 a2 hps (by rw[hok.sl p0 hp0]) hnq;have hHA3:=hHA.put hx1_ hl1 hkl1 hnl1 y (xs.length+1);have hdec:mOf f (g2 p1).lk < mOf f (some p1):=by rw[hst2.lk p1 hp1,vN hok hp1,kb]; have:=hok.lo_le hp1; omega
          refine xM (xL (xJ (xU (reg (qq Z (qb _) (qq Z (Qmi rfl) ?_))))));refine qq Z (g_ixR 0 Qa QB rfl rfl rfl (by show(0:Int)≤(p1:Nat); omega) (by show((p1:Nat):Int) < _; omega)) ?_;refine qq Z (qE (c':=0) Qk rfl Jn rfl rfl rfl) (qq Z (jg 0 JH rfl rfl (qN js xs2 _ x1 hx1 0 _ rfl)) (qq Z (qx (v:=.bg _) rfl) (qq Z (Qmi rfl) (qe (d_mapPutIU hI Z QT uA hl1 hnb1 rfl rfl rfl) ?_))));clear Z;rintro _ w_13⟨rfl,Z⟩;refine qy (uM (xL (reg (qq Z (qb _) (qq Z (Qmi rfl) ?_)))));refine qq Z (g_ixR 0 Qa QB rfl rfl rfl (by show(0:Int)≤(p1:Nat); omega) (by show((p1:Nat):Int) < _; omega)) ?_;refine qq Z (qE (c':=1) Qk rfl xK rfl rfl rfl) (qq Z (jg 0 xW rfl rfl (qN js xs2 _ x1 hx1 1 _ rfl)) (qq Z (Qai rfl) ?_));exact⟨⟨setNx g2 p1 y (xs.length+1),(g2 p1).lk⟩,_,rfl,⟨⟨rfl,rfl,rfl,rfl,rfl,rfl,congrArg (Value.int .i64) hc1,rfl,rfl,rfl,rfl,rfl,trivial⟩,_,Z.sel [true],hHA3,hst3⟩,hdec⟩
         ·
          intro hc131;have hex2:∀p2,some p1=some p2→(g2 p2).nx y≠some q:=fun p2 h e=>by
           obtain rfl:=Option.some.inj h;have:=(nx_q (hnl1 y) hq0).2 e;rw[this]at hc131;simp at hc131
          refine ur (um (um (Qi (xL ?_))));exact⟨_,rfl,_,_,_,⟨rfl,rfl,rfl,rfl,rfl,rfl,rfl,rfl,rfl,rfl,rfl,rfl,trivial⟩,Z.sel [true],hHA,hst2,hex2⟩
      ·
       rintro σ w⟨J,g2,p,hs,Z,hHA,hst2,hex2⟩;rw[← qj hs];have hxq2_:=hxq2;have hxn2_:=hxn2;rw[Int.toNat_natCast]at hxq2_ hxn2_;have hHA9:=(hHA.link hxq2_ (xs.length+1)).link (by rw[Int.toNat_natCast]at hxn2_; exact hxn2_) (xs.length+1);obtain⟨str9,hok8,hl9⟩:=hst2.done (m:=(f p0).ln+1) (g':=fun w=>if w=xs.length then { (fun w=>if w=q then { g2 q with lk:=some (xs.length+1) } else g2 w) xs.length with lk:=some (xs.length+1) } else (fun w=>if w=q then { g2 q with lk:=some (xs.length+1) } else g2 w) w) hok hla hls (Nat.lt_irrefl _) (by omega) (by omega) a1 a2 hps (by rw[hok.sl p0 hp0]) (by omega) (hst.h1 hok hla hls) (hst.h2 hok hq) hex2 (by rw[xP (by omega)]; exact xS rfl) (by rw[xS rfl]; dsimp only; rw[xP (by omega)]) (fun v h1 h2=>by rw[xP h2]; exact xP h1);have hok9:=hok8.congr (D':=fun v=>v < xs2.length) (fun v=>by rw[hx2l,hx1l]; omega);rw[← qz hyi]at hok9 hl9;refine reg (qq Z (qb _) (qq Z (Qmi rfl) (qq Z (qb _) (qq Z (Qmi rfl) (qq Z (Qmi rfl) (qq Z (Qmi rfl) ?_))))));refine qq Z (g_ixR 0 Qa QB rfl rfl rfl (by show(0:Int)≤(q:Nat); omega) (by show((q:Nat):Int) < _; omega)) ?_;refine qq Z (qE (c':=1) Qk rfl xK rfl rfl rfl) (qe (jd 0 (c:=1) js ⟨xq.b,(xs.length+1:Nat),xq.ln,xq.en⟩ Z rfl hxq2 xK rfl rfl rfl (vs:=[.ig _]) rfl rfl rfl rfl rfl) ?_);clear Z;rintro _ w_14⟨rfl,Z⟩;refine qq Z (g_ixR 0 Qa QB rfl rfl rfl (by show(0:Int)≤(xs.length:Nat); omega) (by show((xs.length:Nat):Int) < _; omega)) ?_;refine qq Z (qE (c':=1) Qk rfl xK rfl rfl rfl) (qe (jd 0 (c:=1) js ⟨xn.b,(xs.length+1:Nat),xn.ln,xn.en⟩ Z (by rw[ud]) hxn2 xK rfl rfl rfl (vs:=[.ig _]) rfl rfl rfl rfl rfl) ?_)
       clear Z;rintro _ w_15⟨rfl,Z⟩;refine qy (uM (xL (reg (qq Z (g_add rfl rfl (by omega) (by omega)) (qq Z (Qmi rfl) ?_)))))
       first
        | exact⟨⟨k+1,xs1,g,_,xs.length,a37,p37⟩,_,rfl,⟨⟨rfl,rfl,rfl,rfl,rfl,rfl,trivial⟩,_,Z.sel [true],by dsimp only; omega,hHA,hok9,by dsimp only; omega,xS rfl,by dsimp only; omega⟩,by dsimp only; omega⟩
        | exact⟨⟨k+1,xs1.set xs.length ⟨xn.b,q,xn.ln,xn.en⟩,_,_,xs.length,a37,p37⟩,_,rfl,⟨⟨rfl,by dsimp only; rw[ud]; rfl,rfl,rfl,rfl,rfl,trivial⟩,_,(by dsimp only; rw[ud]; exact Z.sel [true]),by dsimp only; omega,hHA9,(by dsimp only; rw[ud]; exact hok9),by dsimp only; rw[ud]; omega,xS rfl,by dsimp only; rw[ud]; omega⟩,by dsimp only; omega⟩
        | exact⟨⟨k+1,(xs2.set q ⟨xq.b,(xs.length+1:Nat),xq.ln,xq.en⟩).set xs.length ⟨xn.b,(xs.length+1:Nat),xn.ln,xn.en⟩,_,str9,xs.length,a118,p118⟩,_,rfl,⟨⟨rfl,by dsimp only; rw[ud,ud]; rfl,rfl,rfl,rfl,rfl,trivial⟩,_,(by dsimp only; rw[ud,ud]; exact Z.sel [true]),by dsimp only; omega,hHA9,(by dsimp only; rw[ud,ud]; exact hok9),by dsimp only; rw[ud,ud]; omega,hl9,by dsimp only; rw[ud,ud]; omega⟩,by dsimp only; omega⟩
  ·
   intro hc19
   try simp only[zA,zO,zN,zI,zF,zM,zT,zU]at hc19
   obtain rfl:k=b.length:=by omega
   rw[uL]at hok;refine ur (um (um (Qi (xL (QwR (qq Z (qb _) (qq Z (qd _) (QoN (xO (ret1 results58 (qg rfl) ?_))))))))));obtain⟨I9,hS9,hs9,h9⟩:=St.freezeRow (E:=192) (xs:=xs) js (Z.sel [true]) rfl;exact⟨I9,a,c,xs,f,str,rfl,hS9,h9,hHA.mono hs9,hok,hxk⟩
end Go.Proofs.YtgkgihnpjgbmhaaGreatDoor
namespace Go.Proofs.YtgkgihnpjgbmhaaGreatDoor
open Tryz
open Go Go.RowKit Go.Inl
structure FdW where
 a:Int
 n:Int
def fdC (x:FdW):List Value:=[.ig x.a,.ig x.n]
theorem xt (x:FdW):(fdC x).length=2:=rfl
def FdsOk (s b:List Int)(k:Nat)(F:List FdW):Prop:=∀i,i≤k→∀x,F[i]? = some x→∃p n:Nat,x=⟨p,n⟩∧FndOk s (b.take i) p n
theorem FdsOk.zero (s b:List Int)(N:Nat):FdsOk s b 0 (List.replicate N ⟨0,0⟩):=fun i hi x hx=>by
 obtain rfl:i=0:=by omega
 have:=List.eq_of_mem_replicate (xR hx);subst this;exact⟨0,0,rfl,Nat.zero_le _,⟨[],List.nil_suffix,rfl,List.nil_suffix⟩,fun t h1 _=>by have:=h1.length_le; exact this⟩
theorem FdsOk.put {s b:List Int}{k:Nat}{F:List FdW}(h:FdsOk s b k F){p n:Nat}(hf:FndOk s (b.take (k+1)) p n):FdsOk s b (k+1) (F.set (k+1) ⟨p,n⟩):=fun i hi x hx=>by
 rw[List.getElem?_set]at hx;by_cases e:k+1=i
 · subst e
   rw[xS rfl]at hx;split at hx
   · obtain rfl:=Option.some.inj hx; exact⟨p,n,rfl,hf⟩
   · cases hx
 · rw [xP e] at hx
   exact h i (by omega) x hx
structure EnW where
 k:Nat
 F:List FdW
 p:Nat
 n:Nat
structure EiW where
 p:Nat
 n:Nat
set_option maxHeartbeats 4000000 in
theorem endsM_c (aa ad : Option Addr) (ac cap n0 : Nat) (xs : List StC) (f : Nat → Sst) (str : Nat → List Int) (s b : List Int) (w0 : World) (I0 : Imm) (hI : Sat I0 w0) (hx : RFl I0 4 stC (.sg aa xs.length ac) xs) (hHA : HA I0 n0 xs f) (hok : SaOk f (fun v => v < xs.length) str s) (hb : RBytes I0 (.sg ad b.length cap) b) (hbl : b.length ≤ 65536) :
 Ctr prog 59 [.sg aa xs.length ac,.sg ad b.length cap] w0 (fun v w'=>∃I' a c F,v = .sg a (b.length+1) c∧Ext w0 I0 w' I'∧RFl I' 2 fdC (.sg a (b.length+1) c) F∧F.length=b.length+1∧FdsOk s b b.length F):=by
 refine fn (n:=75) func59 rfl rfl rfl ?_;have Z:=St.start hI;refine QwR (qq Z (qd _) (QoR (qq Z (qb _) (qq Z (qo rfl xQ (hb.mono Z.ext) rfl) (qq Z (g_add rfl rfl (by omega) (by omega)) (qe (jS xt ⟨0,0⟩ (b.length+1) Z JV info128 rfl rfl rfl rfl (by omega) (by omega) rfl) ?_))))));clear Z;rintro _ w_1⟨b17,rfl,Z⟩;replace Z:=Z.asRow (k:=0) (sz:=2) (m:=b.length+1) rfl (by rw[qU xt,uX]) (by unfold maxLen; omega);refine qq Z (qd _) (QoR (qq Z (Qai rfl) (qq Z (Qai rfl) (QoN (xJ (QwR (qq Z (qb _) (qq Z (qo rfl xQ (hb.mono Z.ext) rfl) (qq Z (Qmi rfl) (QoN (xU (loop (fun(z:EnW) σ w=>okS σ [(0,.sg aa xs.length ac),(1,.sg ad b.length cap),(5,.sg (some ⟨b17,0,none⟩) (b.length+1) (b.length+1)),(6,.ig z.p),(7,.ig z.n),(18,.sg ad b.length cap),(19,.ig b.length),(20,.ig z.k)]∧St [] w0 I0 I0 w [.row (.sg (some ⟨b17,0,none⟩) (b.length+1) (b.length+1)) 128 2 (b.length+1) (flat fdC z.F)]∧z.k≤b.length∧AtI f (fun v=>v < xs.length) str s (b.take z.k) z.p z.n∧z.F.length=b.length+1∧FdsOk s b z.k z.F) (fun z=>b.length - z.k) (⟨0,List.replicate (b.length+1) ⟨0,0⟩,0,0⟩) ?_ ?_))))))))))))
 ·
  exact⟨⟨rfl,rfl,rfl,rfl,rfl,rfl,rfl,rfl,trivial⟩,Z,Nat.zero_le _,AtI.init hok,uX,FdsOk.zero _ _ _⟩
 ·
  rintro⟨k,F,p,n⟩σ w_l⟨hs,Z,hk,hai,hFl,hF⟩;dsimp only at hs Z hk hai hFl hF ⊢;rw[← qj hs]; clear hs
  refine QwR (qq Z (g_lss rfl rfl) (QoN (xJ (qh rfl ?_ ?_))))
  ·
   intro hc21
   try simp only[zA,zO,zN,zI,zF,zM,zT,zU]at hc21
   obtain⟨y,hyi⟩:∃y,b[k]? = some y:=⟨_,xI (by omega)⟩
   have hkb:k < b.length:=by omega
   have hyA:=(hb.mono Z.ext).at hyi;obtain⟨x0,hF0⟩:∃x,F[k+1]? = some x:=⟨_,xI (by omega)⟩
   refine xM (xL (xJ (xU (QwR (qq Z (Qmi rfl) (qq Z (g_ixI xQ un (hb.mono Z.ext) rfl rfl (by omega) (by omega)) (qq Z (qt uZ hyA rfl rfl) (qq Z (Qai rfl) (qq Z (qv (v:=.bg _) rfl) (QoN (meet (fun σ w=>∃p n:Nat,okS σ [(0,.sg aa xs.length ac),(1,.sg ad b.length cap),(5,.sg (some ⟨b17,0,none⟩) (b.length+1) (b.length+1)),(6,.ig p),(7,.ig n),(8,.ig k),(9,.bg y),(18,.sg ad b.length cap),(19,.ig b.length),(20,.ig k)]∧St [] w0 I0 I0 w [.row (.sg (some ⟨b17,0,none⟩) (b.length+1) (b.length+1)) 128 2 (b.length+1) (flat fdC F)]∧AtL f (fun v=>v < xs.length) str s (b.take k) y p n∧(p=0∨∃u,(f p).nx y=some u)) ?_ ?_)))))))))))
   ·
    refine xU (loop (fun(z:EiW) σ w=>okS σ [(0,.sg aa xs.length ac),(1,.sg ad b.length cap),(5,.sg (some ⟨b17,0,none⟩) (b.length+1) (b.length+1)),(6,.ig z.p),(7,.ig z.n),(8,.ig k),(9,.bg y),(18,.sg ad b.length cap),(19,.ig b.length),(20,.ig k)]∧St [] w0 I0 I0 w [.row (.sg (some ⟨b17,0,none⟩) (b.length+1) (b.length+1)) 128 2 (b.length+1) (flat fdC F)]∧AtL f (fun v=>v < xs.length) str s (b.take k) y z.p z.n) (fun z=>(f z.p).ln) (⟨p,n⟩) ?_ ?_)
    ·
     exact⟨⟨rfl,rfl,rfl,rfl,rfl,rfl,rfl,rfl,rfl,rfl,trivial⟩,Z,hai.to⟩
    ·
     rintro⟨p,n⟩σ w_l⟨hs,Z,hal⟩;dsimp only at hs Z hal ⊢;rw[← qj hs]; clear hs
     refine xJ (QwR (qq Z (Qmi rfl) (qq Z (g_gtr rfl rfl) (QoN (qh rfl ?_ ?_)))))
     ·
      intro hc26
      try simp only[zA,zO,zN,zI,zF,zM,zT,zU]at hc26
      have hpd:p < xs.length:=hal.dom;obtain⟨xp,hxp⟩:∃x,xs[((p:Nat):Int).toNat]? = some x:=⟨_,xI (by rw[Int.toNat_natCast]; omega)⟩
      have hxp_:=hxp;rw[Int.toNat_natCast]at hxp_;have hxpA:=(hx.mono Z.ext).at hxp;obtain⟨lp,hlp,hklp,hnlp⟩:=(hHA.mono Z.ext).map _ xp hxp_;refine xM (xL (xU (xJ (QwR (qq Z (qb _) (qq Z (Qmi rfl) ?_))))));refine qq Z (g_ixI Qa QB (hx.mono Z.ext) rfl rfl (by show(0:Int)≤(p:Nat); omega) (by show((p:Nat):Int) < _; omega)) ?_;refine qq Z (qE (c':=0) Qk rfl Jn rfl rfl rfl) (qq Z (qt JH hxpA rfl rfl) (qq Z (qx (v:=.bg _) rfl) (qq Z (vT QT uA Qe hlp rfl rfl) (qq Z (qb _) (qq Z (Qxi rfl rfl) (qq Z (qk (v:=.bool _) rfl rfl) (qq Z (Qai rfl) (qq Z (Qab rfl) (QoR (qq Z (Qmb rfl) (QoN (qh rfl ?_ ?_))))))))))))
      ·
       intro hc37;have hex:p=0∨∃u,(f p).nx y=some u:=.inr (nx_of (hnlp y) hc37);refine ur (um (blkO rfl (um (Qi (xL ?_)))));exact⟨_,rfl,_,_,⟨rfl,rfl,rfl,rfl,rfl,rfl,rfl,rfl,rfl,rfl,trivial⟩,Z.sel [true],hal,hex⟩
      ·
       intro hc37;have hno:=nx_no (hnlp y) hc37;obtain⟨u,hu,hult,hal2⟩:=hal.step hok (by omega) hno;have hud:u < xs.length:=hal2.dom;have hlk:xp.lk=(u:Int):=by rw[(hHA.cell _ _ hxp_).1,hu]; rfl
       obtain⟨xu,hxu⟩:∃x,xs[u]? = some x:=⟨_,xI hud⟩
       have hxuA:atI I0 (elA (.sg aa xs.length ac) xp.lk.toNat 4 0) (stC xu):=by rw[hlk]; exact(hx.mono Z.ext).at hxu
       have hlu:=(hHA.cell _ _ hxu).2.1;refine xM (xL (QwR (qq Z (qb _) (qq Z (Qmi rfl) ?_))));refine qq Z (g_ixI Qa QB (hx.mono Z.ext) rfl rfl (by show(0:Int)≤(p:Nat); omega) (by show((p:Nat):Int) < _; omega)) ?_;refine qq Z (qE (c':=1) Qk rfl xK rfl rfl rfl) (qq Z (qt xW hxpA rfl rfl) (qq Z (Qai rfl) (QoN (reg (qq Z (qb _) (qq Z (Qmi rfl) ?_))))));refine qq Z (g_ixI Qa QB (hx.mono Z.ext) rfl rfl (by rw[hlk]; omega) (by rw[hlk]; omega)) ?_;refine qq Z (qE (c':=2) Qk rfl xK rfl rfl rfl) (qq Z (qt xW hxuA rfl rfl) (qq Z (Qai rfl) ?_));exact⟨⟨u,(f u).ln⟩,_,rfl,⟨⟨rfl,rfl,rfl,congrArg (Value.int .i64) hlk,congrArg (Value.int .i64) hlu,rfl,rfl,rfl,rfl,rfl,trivial⟩,Z.sel [true],hal2⟩,hult⟩
     ·
      intro hc26
      try simp only[zA,zO,zN,zI,zF,zM,zT,zU]at hc26
      obtain rfl:p=0:=by omega
      have hex:(0:Nat)=0∨∃u,(f 0).nx y=some u:=.inl rfl;refine ur (um (um (Qi (xL ?_))));exact⟨_,rfl,_,_,⟨rfl,rfl,rfl,rfl,rfl,rfl,rfl,rfl,rfl,rfl,trivial⟩,Z.sel [true],hal,hex⟩
   ·
    rintro σ w⟨p,n,hs,Z,hal,hex⟩;rw[← qj hs];refine meet (fun σ w=>∃p n:Nat,okS σ [(0,.sg aa xs.length ac),(1,.sg ad b.length cap),(5,.sg (some ⟨b17,0,none⟩) (b.length+1) (b.length+1)),(6,.ig p),(7,.ig n),(8,.ig k),(9,.bg y),(18,.sg ad b.length cap),(19,.ig b.length),(20,.ig k)]∧St [] w0 I0 I0 w [.row (.sg (some ⟨b17,0,none⟩) (b.length+1) (b.length+1)) 128 2 (b.length+1) (flat fdC F)]∧AtI f (fun v=>v < xs.length) str s (b.take (k+1)) p n) ?_ ?_
    ·
     refine xJ ?_;obtain⟨w_,hw1,hw2,_⟩:=hal.wit;have hnk:n≤k:=by
      have:=hw1.length_le;rw[uo]at this;omega
     have hpd:p < xs.length:=hal.dom;obtain⟨xp,hxp⟩:∃x,xs[((p:Nat):Int).toNat]? = some x:=⟨_,xI (by rw[Int.toNat_natCast]; omega)⟩
     have hxp_:=hxp;rw[Int.toNat_natCast]at hxp_;have hxpA:=(hx.mono Z.ext).at hxp;obtain⟨lp,hlp,hklp,hnlp⟩:=(hHA.mono Z.ext).map _ xp hxp_;refine reg (qq Z (qb _) (qq Z (Qmi rfl) ?_));refine qq Z (g_ixI Qa QB (hx.mono Z.ext) rfl rfl (by show(0:Int)≤(p:Nat); omega) (by show((p:Nat):Int) < _; omega)) ?_;refine qq Z (qE (c':=0) Qk rfl Jn rfl rfl rfl) (qq Z (qt JH hxpA rfl rfl) (qq Z (qx (v:=.bg _) rfl) (qq Z (vT QT uA Qe hlp rfl rfl) (qq Z (qb _) (qq Z (Qxi rfl rfl) (qq Z (qk (v:=.bool _) rfl rfl) (qq Z (Qai rfl) (qq Z (Qab rfl) (QoR (qq Z (Qmb rfl) (QoN (qh rfl ?_ ?_))))))))))))
     ·
      intro hc58;obtain⟨u,hu⟩:=nx_of (hnlp y) hc58;obtain⟨u1,u2⟩:=hok.snd p y u hal.dom hu;have huv:=(nx_q (hnlp y) (hok.ne0 u1 (u2 _ (hok.self hal.dom)))).2 hu;have hai2:=hal.hit hok hu;rw[← qz hyi]at hai2;refine QwR (qq Z (Qmi rfl) (qq Z (Qai rfl) (QoN (reg (qq Z (Qmi rfl) (qq Z (g_add rfl rfl (by omega) (by omega)) (qq Z (Qai rfl) (QoN ?_))))))))
      first
       | exact⟨_,rfl,_,_,⟨rfl,rfl,rfl,congrArg (Value.int .i64) huv,rfl,rfl,rfl,rfl,rfl,rfl,trivial⟩,Z.sel [true],hai2⟩
       | exact⟨_,rfl,0,0,⟨rfl,rfl,rfl,rfl,rfl,rfl,rfl,rfl,rfl,rfl,trivial⟩,Z.sel [true],hai2⟩
     ·
      intro hc58;have hno:=nx_no (hnlp y) hc58;obtain rfl:p=0:=hex.resolve_right (fun⟨u,hu⟩=>by rw[hu]at hno; cases hno);obtain⟨rfl,hai2⟩:=hal.miss hok hno;rw[← qz hyi]at hai2;refine xM (xL ?_)
      first
       | exact⟨_,rfl,_,_,⟨rfl,rfl,rfl,congrArg (Value.int .i64) huv,rfl,rfl,rfl,rfl,rfl,rfl,trivial⟩,Z.sel [true],hai2⟩
       | exact⟨_,rfl,0,0,⟨rfl,rfl,rfl,rfl,rfl,rfl,rfl,rfl,rfl,rfl,trivial⟩,Z.sel [true],hai2⟩
    ·
     rintro σ w⟨p,n,hs,Z,hai⟩;rw[← qj hs];have hpd:p < xs.length:=hai.dom;obtain⟨xp,hxp⟩:∃x,xs[((p:Nat):Int).toNat]? = some x:=⟨_,xI (by rw[Int.toNat_natCast]; omega)⟩
     have hxp_:=hxp;rw[Int.toNat_natCast]at hxp_;have hxpA:=(hx.mono Z.ext).at hxp;have hfd:=hai.found hok;have hen:=(hHA.cell _ _ hxp_).2.2;refine reg (qq Z (qb _) (qq Z (Qmi rfl) (qq Z (g_add rfl rfl (by omega) (by omega)) (qq Z (qb _) (qq Z (Qmi rfl) ?_)))));refine qq Z (g_ixI Qa QB (hx.mono Z.ext) rfl rfl (by show(0:Int)≤(p:Nat); omega) (by show((p:Nat):Int) < _; omega)) ?_;refine qq Z (qE (c':=3) Qk rfl xK rfl rfl rfl) (qq Z (qt xW hxpA rfl rfl) (qq Z (Qmi rfl) (qq Z (qs (pl:=[(0,1),(1,1)]) (cs:=[.ig _,.ig _]) zeroValue128 underlying128 (fun w=>by simp[xK]) (mp (v:=.ig _) rfl (mp (v:=.ig _) rfl mp0)) rfl) (qq Z (g_ixR 0 JV sizeOf128 rfl rfl rfl (by omega) (by omega)) ?_))));refine qe (jd 0 (c:=0) (i:=k+1) xt ⟨xp.en,n⟩ Z hFl.symm hF0 sizeOf128 rfl rfl rfl (vs:=[.ig _,.ig _]) rfl rfl rfl rfl rfl) ?_;clear Z;rintro _ w_2⟨rfl,Z⟩;refine qy (uM (xL (reg (qq Z (g_add rfl rfl (by omega) (by omega)) (qq Z (Qmi rfl) ?_)))));exact⟨⟨k+1,F.set (k+1) ⟨xp.en,n⟩,p,n⟩,_,rfl,⟨⟨rfl,rfl,rfl,rfl,rfl,rfl,rfl,rfl,trivial⟩,Z.sel [true],by dsimp only; omega,hai,by dsimp only; rw[ud]; exact hFl,by rw[hen]; exact hF.put hfd⟩,by dsimp only; omega⟩
  ·
   intro hc21
   try simp only[zA,zO,zN,zI,zF,zM,zT,zU]at hc21
   obtain rfl:k=b.length:=by omega
   refine ur (um (um (Qi (xL (QwR (qq Z (qb _) (qq Z (qd _) (QoN (xO (ret1 results59 (qg rfl) ?_))))))))));obtain⟨I9,hS9,hs9,h9⟩:=St.freezeRow (E:=128) (xs:=F) xt (Z.sel [true]) hFl.symm;exact⟨I9,_,_,F,rfl,hS9,h9,hFl,hF⟩
end Go.Proofs.YtgkgihnpjgbmhaaGreatDoor
