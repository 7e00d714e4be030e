/- match.copied: the copy of a map answers as the map. Conditions: no key twice. match.build: the automaton of all pieces of a text. Conditions: at most 65536 bytes. match.automaton.ends: the longest piece that ends at each place. Conditions: at most 65536 bytes. -/
import Derived.Test.YtgkgihnpjgbmhaaGreatDoorSq
import Derived.Test.YtgkgihnpjgbmhaaGreatDoorKM1
import Derived.Test.YtgkgihnpjgbmhaaGreatDoorKM0
import Derived.Test.YtgkgihnpjgbmhaaGreatDoorFacts
import Derived.Test.YtgkgihnpjgbmhaaGreatDoorKCore2
import Derived.Test.YtgkgihnpjgbmhaaGreatDoorKCore3
set_option linter.unusedSimpArgs false
set_option linter.unusedVariables false
namespace Go.Proofs.YtgkgihnpjgbmhaaGreatDoor
open Tryz
open Go Go.RowKit Go.Inl
theorem qI {P:Program}{ρ:Operand→Value}{S:World→Prop}{op:Op}{ty:TypeId}{v v':Value}(h:Gives P ρ S op ty v)(e:v=v'):Gives P ρ S op ty v':=by subst e; exact h
structure CpI (l : List (Int × Int)) (seen : Array Nat) (m : List (Int × Int)) : Prop where
 has:∀(j:Nat) (k v:Int),l[j]? = some (k,v)→j∈seen.toList→lookI m k=some v
 of:∀k v,lookI m k=some v→lookI l k=some v
 nd:KeysN m
theorem CpI.init (l:List (Int×Int)):CpI l #[] []:=⟨fun j k v _ h=>by simp at h,fun k v h=>(by cases h),by unfold KeysN; simp⟩
theorem CpI.step {l m:List (Int×Int)}{seen:Array Nat}{j:Nat}{k v:Int}(h:CpI l seen m)(hn:KeysN l)(hj:l[j]? = some (k,v)):CpI l (seen.push j) (putU m k v):=by
 have hk:=vi hn hj;refine⟨fun i k' v' hi hs=>?_,fun k' v' hl=>?_,h.nd.put k v⟩
 · rw [zD]
   have hk':=vi hn hi;split
   · rename_i e; rw[e,hk]at hk'; exact hk'
   · rename_i e
     rw[Array.toList_push,xA]at hs;rcases hs with hs | hs
     · exact h.has i k' v' hi hs
     · rw [xi.1 hs, hj] at hi
       cases hi
       exact absurd rfl e
 · rw [zD] at hl
   split at hl
   · rename_i e; rw[e,hk]; exact hl
   · exact h.of k' v' hl
theorem CpI.done {l m:List (Int×Int)}{seen:Array Nat}(h:CpI l seen m)(ha:∀j,j < l.length→j∈seen.toList)(k:Int):lookI m k=lookI l k:=by
 cases hl:lookI l k with
 | some v =>
   obtain⟨j,hj⟩:=look_ex hl;exact h.has j k v hj (ha j (vY.1 hj).1)
 | none =>
   cases hm:lookI m k with
   | none=>rfl
   | some v=>rw[h.of k v hm]at hl; cases hl
def leftC (n:Nat)(seen:Array Nat):Nat:=((List.range n).filter fun j => !seen.toList.contains j).length
theorem filter_lt {α : Type} (p q : α → Bool) : ∀ (l : List α) (x : α), x ∈ l → (∀ y, q y = true → p y = true) → p x = true → q x = false → (l.filter q).length < (l.filter p).length
 | [],x,h,_,_,_=>by cases h
 | y::r,x,h,hi,h1,h2=>by
   have hle:(r.filter q).length≤(r.filter p).length:=by
    clear h;induction r with
    | nil=>simp
    | cons z r ih =>
      rw[List.filter_cons,List.filter_cons];by_cases hq:q z=true
      · rw[vJ hq,vJ (hi z hq)]; simpa using ih
      · rw [vG hq]
        split
        · simp only[List.length_cons]; omega
        · exact ih
   rw[List.filter_cons,List.filter_cons];rcases vN.1 h with rfl | h
   · rw[vJ h1,vG (by rw[h2]; simp),List.length_cons]; omega
   · have := filter_lt p q r x h hi h1 h2
     by_cases hq:q y=true
     · rw[vJ hq,vJ (hi y hq)]; simpa using this
     · rw [vG hq]
       split
       · rw[List.length_cons]; omega
       · exact this
theorem leftC_lt {n j:Nat}{seen:Array Nat}(hj:j < n)(hn:j∉seen.toList):leftC n (seen.push j) < leftC n seen:=by
 unfold leftC;refine filter_lt _ _ _ j (List.mem_range.2 hj) (fun y hy=>?_) (by simpa using hn) (by simp);simp only[Array.toList_push,uu,List.contains_eq_mem,vW,xA,not_or]at hy ⊢;exact hy.1
structure CpW where
 seen:Array Nat
 m:List (Int×Int)
theorem copied_c (r : Nat) (l : List (Int × Int)) (hn : KeysN l) (w0 : World) (I0 : Imm) (hI : Sat I0 w0) (hm : I0 r = some (mapU l)) :
 Ctr prog 103 [.map (some r)] w0 (fun v w'=>∃b m,v = .map (some b)∧St [] w0 I0 I0 w' [.obj b (mapU m)]∧KeysN m∧∀k,lookI m k=lookI l k):=by
 refine fn (n:=20) func103 rfl rfl rfl ?_;have hS:=St.start hI;refine QwR (qq hS (qc _) (QoR (qq hS (qb _) (qq hS (g_lenMU rfl uo hm rfl) (qe (d_makeMapSU hS uo rfl) ?_)))));clear hS;rintro _ w_1⟨bo,rfl,hS⟩;refine qq hS (qc _) (QoN (vD (QwR (qq hS (qb _) (qe (d_rangeU hS uo hm rfl) ?_)))));clear hS;rintro _ w_2⟨bi,rfl,hS⟩;refine QoN (vS (loop (fun(z:CpW) σ w=>okS σ [(0,.map (some r)),(3,.map (some bo)),(10,.pointer (some ⟨bi,0,none⟩))]∧St [] w0 I0 I0 w [.obj bi (.mapIter (some r) l.length z.seen l.length),.obj bo (mapU z.m)]∧CpI l z.seen z.m) (fun z=>leftC l.length z.seen) (⟨#[],[]⟩) ?_ ?_))
 ·
  exact⟨⟨rfl,rfl,rfl,trivial⟩,hS.sel [true,true],CpI.init l⟩
 ·
  rintro⟨seen,m⟩σ w_l⟨hs,hS,hc⟩;dsimp only at hs hS hc ⊢;rw[← qk hs]; clear hs
  refine QwR (qe (d_nextU 0 bi hS rfl hm rfl) ?_);clear hS;rintro _ w_3⟨more,arr,seen2,rfl,harr,hS,hno,hyes⟩;refine qq hS (qm rfl harr) (QoN (vD (qj rfl ?_ ?_)))
  ·
   intro hc12;obtain⟨j,k,v,hj,hns,rfl⟩:=hyes hc12;refine vL (vK (vS (QwR (qq hS (g_entryU 0 bi rfl hm hj rfl) (qq hS (qm (v:=.int .u8 _) rfl rfl) (qq hS (Qxi rfl rfl) (qq hS (qr (v:=.int .u8 _) rfl) (qq hS (Qai rfl) (QoN (reg (qq hS (qb _) (qq hS (qs (v:=.int .u8 _) rfl) (qq hS (Qmi rfl) (qe (d_mapPutOU 1 hS uo xI rfl rfl rfl rfl) ?_))))))))))))));clear hS;rintro _ w_4⟨rfl,hS⟩;exact⟨⟨seen.push j,putU m k v⟩,_,rfl,⟨⟨rfl,rfl,rfl,trivial⟩,hS.sel [true,true],hc.step hn hj⟩,leftC_lt (vY.1 hj).1 hns⟩
  ·
   intro hc12;obtain⟨rfl,hall⟩:=hno hc12;refine xm (xh (xh (ua (vK (QwR (qq hS (qb _) (qq hS (qc _) (QoN (vM (ret1 results103 (qh rfl) ?_))))))))));exact⟨bo,m,rfl,hS.sel [false,true],hc.nd,hc.done hall⟩
end Go.Proofs.YtgkgihnpjgbmhaaGreatDoor
namespace Go.Proofs.YtgkgihnpjgbmhaaGreatDoor
open Tryz
open Go Go.RowKit Go.Inl
structure StC where
 b:Nat
 lk:Int
 ln:Int
 en:Int
def stC (x:StC):List Value:=[.map (some x.b),.int .i64 x.lk,.int .i64 x.ln,.int .i64 x.en]
theorem jb (x:StC):(stC x).length=4:=rfl
def lkV : Option Nat → Int
 | none=>-1
 | some u=>u
structure HA (I : Imm) (n0 : Nat) (xs : List StC) (f : Nat → Sst) : Prop where
 cell:∀(v:Nat) (x:StC),xs[v]? = some x→x.lk=lkV (f v).lk∧x.ln=(f v).ln∧x.en=(f v).en
 map:∀(v:Nat) (x:StC),xs[v]? = some x→∃l,I x.b=some (mapU l)∧KeysN l∧∀k,lookI l k=((f v).nx k).map (fun(u:Nat)=>(u:Int))
 inj:∀(v u:Nat) (x y:StC),xs[v]? = some x→xs[u]? = some y→x.b=y.b→v=u
 new:∀x∈xs,n0≤x.b
theorem HA.mono {I J:Imm}{n0:Nat}{xs:List StC}{f:Nat→Sst}(h:HA I n0 xs f)(hs:Inl.Sub I J):HA J n0 xs f :=
 ⟨h.cell,fun v x hx=>by obtain⟨l,h1,h2⟩:=h.map v x hx; exact⟨l,hs _ _ h1,h2⟩,h.inj,h.new⟩
theorem HA.put {I : Imm} {n0 : Nat} {xs : List StC} {g : Nat → Sst} (h : HA I n0 xs g) {v : Nat} {x : StC} (hx : xs[v]? = some x) {l : List (Int × Int)} (hl : I x.b = some (mapU l)) (hn : KeysN l) (hk : ∀ k, lookI l k = ((g v).nx k).map (fun (u : Nat) => (u : Int))) (c : Int) (u : Nat) :
 HA (I.upd x.b (mapU (putU l c u))) n0 xs (setNx g v c u):=by
 refine⟨fun w y hy=>?_,fun w y hy=>?_,h.inj,h.new⟩
 · have := h.cell w y hy
   unfold setNx;split
   · rename_i e; subst e; exact this
   · exact this
 · by_cases e : w = v
   · subst e
     rw[hx]at hy;obtain rfl:=Option.some.inj hy;refine⟨_,Imm.upd_same _ _ _,hn.put c u,fun k=>?_⟩;unfold setNx;rw[vJ rfl,zD,hk];dsimp only;split <;> rfl
   · obtain ⟨m, h1, h2, h3⟩ := h.map w y hy
     refine⟨m,?_,h2,fun k=>?_⟩
     · rw[Imm.upd_ne _ _ (fun e2=>e (h.inj w v y x hy hx e2))]; exact h1
     · unfold setNx; rw[vG e]; exact h3 k
theorem HA.app {I J : Imm} {n0 : Nat} {xs : List StC} {g : Nat → Sst} (h : HA I n0 xs g) (hs : Inl.Sub I J) {b : Nat} {l : List (Int × Int)} (hb : J b = some (mapU l)) (hI : I b = none) (hn : KeysN l) {s : Sst} (hk : ∀ k, lookI l k = (s.nx k).map (fun (u : Nat) => (u : Int))) (h0 : n0 ≤ b) {x : StC} (hx : x = ⟨b, lkV s.lk, s.ln, s.en⟩) :
 HA J n0 (xs++[x]) (fun v=>if v=xs.length then s else g v):=by
 have old:∀(v:Nat) (y:StC),(xs++[x])[v]? = some y→(xs[v]? = some y∧v≠xs.length)∨(v=xs.length∧y=x):=fun v y hy=>by
  rcases Nat.lt_or_ge v xs.length with e | e
  · rw[xg e]at hy; exact .inl ⟨hy,by omega⟩
  · rw [xx e] at hy
    have h1:=(vY.1 hy).1;simp at h1
    have e2:v=xs.length:=by omega
    subst e2;rw[Nat.sub_self]at hy;exact .inr ⟨rfl,(Option.some.inj hy).symm⟩
 have ne:∀(v:Nat) (y:StC),xs[v]? = some y→y.b≠b:=fun v y hy e=>by
  obtain⟨m,h1,_⟩:=h.map v y hy;rw[e,hI]at h1; cases h1
 refine⟨fun v y hy=>?_,fun v y hy=>?_,fun v u y z hy hz e=>?_,fun y hy=>?_⟩
 · rcases old v y hy with ⟨h1, h2⟩ | ⟨rfl, rfl⟩
   · rw[vG h2]; exact h.cell v y h1
   · rw[vJ rfl,hx]; exact⟨rfl,rfl,rfl⟩
 · rcases old v y hy with ⟨h1, h2⟩ | ⟨rfl, rfl⟩
   · rw [vG h2]
     obtain⟨m,h3,h4⟩:=h.map v y h1;exact⟨m,hs _ _ h3,h4⟩
   · rw[vJ rfl,hx]; exact⟨l,hb,hn,hk⟩
 · rcases old v y hy with ⟨h1, _⟩ | ⟨rfl, rfl⟩ <;> rcases old u z hz with ⟨h2, _⟩ | ⟨rfl, rfl⟩
   · exact h.inj v u y z h1 h2 e
   · rw[hx]at e; exact absurd e (ne v y h1)
   · rw[hx]at e; exact absurd e.symm (ne u z h2)
   · rfl
 · rcases xA.1 hy with hy | hy
   · exact h.new y hy
   · rw[xi.1 hy,hx]; exact h0
theorem HA.link {I:Imm}{n0:Nat}{xs:List StC}{g:Nat→Sst}(h:HA I n0 xs g){v:Nat}{x:StC}(hx:xs[v]? = some x)(u:Nat):HA I n0 (xs.set v ⟨x.b,u,x.ln,x.en⟩) (fun w=>if w=v then { g v with lk:=some u } else g w):=by
 have hv:=(vY.1 hx).1;have old:∀(w:Nat) (y:StC),(xs.set v ⟨x.b,u,x.ln,x.en⟩)[w]? = some y→(w=v∧y=⟨x.b,u,x.ln,x.en⟩)∨(w≠v∧xs[w]? = some y):=fun w y hy=>by
  rw[List.getElem?_set]at hy;by_cases e:v=w
  · rw [vJ e] at hy
    rw[vJ (by omega)]at hy;exact .inl ⟨e.symm,(Option.some.inj hy).symm⟩
  · rw[vG e]at hy; exact .inr ⟨fun h=>e h.symm,hy⟩
 have oldb:∀(w:Nat) (y:StC),(xs.set v ⟨x.b,u,x.ln,x.en⟩)[w]? = some y→∃z,xs[w]? = some z∧z.b=y.b:=fun w y hy=>by
  rcases old w y hy with ⟨rfl,rfl⟩ | ⟨_,h2⟩
  · exact⟨x,hx,rfl⟩
  · exact⟨y,h2,rfl⟩
 refine⟨fun w y hy=>?_,fun w y hy=>?_,fun w z y q hy hq e=>?_,fun y hy=>?_⟩
 · rcases old w y hy with ⟨rfl, rfl⟩ | ⟨h1, h2⟩
   · rw[vJ rfl]; exact⟨rfl,(h.cell w x hx).2⟩
   · rw[vG h1]; exact h.cell w y h2
 · rcases old w y hy with ⟨rfl, rfl⟩ | ⟨h1, h2⟩
   · rw[vJ rfl]; exact h.map w x hx
   · rw[vG h1]; exact h.map w y h2
 · obtain ⟨a, ha, ha2⟩ := oldb w y hy
   obtain⟨d,hd,hd2⟩:=oldb z q hq;exact h.inj w z a d ha hd (by rw[ha2,hd2]; exact e)
 · obtain ⟨w, hw⟩ := uX.1 hy
   obtain⟨a,ha,ha2⟩:=oldb w y hw;rw[← ha2]; exact h.new a (vI ha)
theorem nx_of {l:List (Int×Int)}{s:Sst}{c:Int}(h:lookI l c=(s.nx c).map (fun(u:Nat)=>(u:Int))):(lookI l c).isSome=true→∃q,s.nx c=some q:=fun hs=>by
 rw[h]at hs;cases e:s.nx c with
 | some q=>exact⟨q,rfl⟩
 | none=>rw[e]at hs; cases hs
theorem nx_no {l:List (Int×Int)}{s:Sst}{c:Int}(h:lookI l c=(s.nx c).map (fun(u:Nat)=>(u:Int))):(lookI l c).isSome=false→s.nx c=none:=fun hs=>by
 rw[h]at hs;cases e:s.nx c with
 | none=>rfl
 | some q=>rw[e]at hs; cases hs
theorem nx_q {l:List (Int×Int)}{s:Sst}{c:Int}{q:Nat}(h:lookI l c=(s.nx c).map (fun(u:Nat)=>(u:Int)))(hq:q≠0):(lookI l c).getD 0=(q:Int)↔s.nx c=some q:=by
 rw[h];cases e:s.nx c with
 | none=>simp; omega
 | some u=>simp <;> omega
structure BdW where
 k:Nat
 xs:List StC
 f:Nat→Sst
 str:Nat→List Int
 last:Nat
 a:Option Addr
 c:Nat
structure BaW where
 g:Nat→Sst
 p:Option Nat
set_option maxHeartbeats 40000000 in
theorem buildM_c (ad : Option Addr) (cap : Nat) (b : List Int) (w0 : World) (I0 : Imm) (hI : Sat I0 w0) (hb : RBytes I0 (.slice ad b.length cap) b) (hbb : ∀ y ∈ b, 0 ≤ y ∧ y ≤ 255) (hbl : b.length ≤ 65536) :
 Ctr prog 58 [.slice ad b.length cap] w0 (fun v w'=>∃I' a c xs f str,v = .slice a xs.length c∧Ext w0 I0 w' I'∧RFl I' 4 stC (.slice a xs.length c) xs∧HA I' w0.heap.size xs f∧SaOk f (fun v=>v < xs.length) str b∧xs.length≤2*b.length+1):=by
 refine fn (n:=156) func58 rfl rfl rfl ?_;have hS:=St.start hI;refine QwR (qq hS (qc _) (QoR (qe (d_makeMapU hS) ?_)));clear hS;rintro _ w_1⟨m0,rfl,hS⟩;refine qq hS (qt (pl:=[(0,1),(1,1),(2,1),(3,1)]) (cs:=[_,.int .i64 _,.int .i64 _,.int .i64 _]) uV xH (fun w=>by simp[uN,vF]) (mp rfl (mp (v:=.int .i64 _) rfl mp0)) rfl) ?_;refine qe (d_lit (vs:=[.agg #[_,.int .i64 _,.int .i64 _,.int .i64 _]]) (cs:=[_,.int .i64 _,.int .i64 _,.int .i64 _]) hS xC xT uV rfl rfl rfl rfl (fun v hv=>by simp only[vN,vP,or_false]at hv; subst hv; rfl) rfl) ?_;clear hS;rintro _ w_2⟨b15,rfl,hS⟩;refine qq hS (qc _) (QoR (qq hS (Qai rfl) (QoN (vD (QwR (qq hS (qb _) (qq hS (qo rfl vH (hb.mono hS.ext) rfl) (qq hS (Qmi rfl) (QoN (vS ?_))))))))));have hnm0:=hS.new (.obj m0 (mapU [])) (List.mem_cons_of_mem _ (List.mem_cons_self ..)) m0 (by simp[Res.foot]);have hSr:=hS.asRow (k:=0) (sz:=4) (m:=1) rfl rfl (by show 1≤maxLen; decide);have hSo:St [] w0 I0 I0 _ [.obj m0 (mapU []),.row (.slice (some ⟨b15,0,none⟩) 1 1) 192 4 1 [.map (some m0),.int .i64 (-1),.int .i64 0,.int .i64 0]]:=hSr.ord [1,0];clear hS hSr;obtain⟨I1,hS,hs1,hm1⟩:=hSo.freezeO;have hHA1:=(HA.app (xs:=[]) (g:=fun _=>⟨fun _=>none,none,0,0⟩) (n0:=w0.heap.size) (s:=⟨fun _=>none,none,0,0⟩) (x:=⟨m0,-1,0,0⟩) ⟨fun v x h=>(by simp at h),fun v x h=>(by simp at h),fun v u x y h=>(by simp at h),fun x h=>(by cases h)⟩ hs1 hm1 hnm0.1 (by unfold KeysN; simp) (fun c=>rfl) (hnm0.2.elim id fun h=>by simp at h) rfl)
 have hok1:=(SaOk.one (f:=fun v=>if v=([]:List StC).length then ⟨fun _=>none,none,0,0⟩ else ⟨fun _=>none,none,0,0⟩) rfl).congr (D':=fun v=>v < [(⟨m0,-1,0,0⟩:StC)].length) (fun v=>by simp);obtain⟨f1,str1,hHA1,hok1,hs10⟩:∃f1 str1,HA I1 w0.heap.size [(⟨m0,-1,0,0⟩:StC)] f1∧SaOk f1 (fun v=>v < [(⟨m0,-1,0,0⟩:StC)].length) str1 []∧str1 0=[]:=⟨_,_,hHA1,hok1,rfl⟩
 refine loop (fun(z:BdW) σ w=>okS σ [(0,.slice ad b.length cap),(3,.slice z.a z.xs.length z.c),(4,.int .i64 z.last),(16,.slice ad b.length cap),(17,.int .i64 b.length),(18,.int .i64 z.k)]∧∃I,St [] w0 I0 I w [.row (.slice z.a z.xs.length z.c) 192 4 z.xs.length (flat stC z.xs)]∧z.k≤b.length∧HA I w0.heap.size z.xs z.f∧SaOk z.f (fun v=>v < z.xs.length) z.str (b.take z.k)∧z.last < z.xs.length∧z.str z.last=b.take z.k∧z.xs.length≤2*z.k+1) (fun z=>b.length - z.k) (⟨0,[⟨m0,-1,0,0⟩],f1,str1,0,some ⟨b15,0,none⟩,1⟩) ?_ ?_
 ·
  exact⟨⟨rfl,rfl,rfl,rfl,rfl,rfl,trivial⟩,I1,hS,Nat.zero_le _,hHA1,hok1,Nat.zero_lt_one,hs10,vX _⟩
 ·
  rintro⟨k,xs,f,str,last,a,c⟩σ w_l⟨hs,I,hS,hk0,hHA,hok,hla,hls,hxk⟩;dsimp only at hs hS hk0 hHA hok hla hls hxk ⊢;rw[← qk hs]; clear hs
  refine QwR (qq hS (g_lss rfl rfl) (QoN (vD (qj rfl ?_ ?_))))
  ·
   intro hc19
   try simp only[zA,zO,zN,zI,zF,zM,zT,zU]at hc19
   obtain⟨y,hyi⟩:∃y,b[k]? = some y:=⟨_,vC (by omega)⟩
   have hyA:=(hb.mono hS.ext).at hyi;have hyb:=hbb y (vI hyi);obtain⟨xl,hxl⟩:∃x,xs[((last:Nat):Int).toNat]? = some x:=⟨_,vC (by rw[Int.toNat_natCast]; omega)⟩
   have hxl_:=hxl;rw[Int.toNat_natCast]at hxl_;have hkl:(b.take k).length=k:=by rw[xc]; omega
   have hxln:xl.ln=(k:Int):=by rw[(hHA.cell _ _ hxl_).2.1,← hok.sl last hla,hls,hkl]
   refine vL (vK (vD (vS (QwR (qq hS (Qmi rfl) (qq hS (g_ixI vH xd (hb.mono hS.ext) rfl rfl (by omega) (by omega)) (qq hS (qJ xR hyA rfl rfl) (qq hS (Qai rfl) (qq hS (qr (v:=.int .u8 _) rfl) (QoR (qq hS (qb _) (qq hS (yP 0 rfl xC rfl rfl) (qq hS (Qai rfl) (QoR (qq hS (qb _) (qe (d_makeMapU hS) ?_))))))))))))))));clear hS;rintro _ w_3⟨bm,rfl,hS⟩;refine qq hS (qb _) (qq hS (Qmi rfl) ?_);refine qq hS (g_ixR 1 xC xT rfl rfl rfl (by show(0:Int)≤(last:Nat); omega) (by show((last:Nat):Int) < _; omega)) ?_;refine qq hS (qw (c':=2) xH rfl vF rfl rfl rfl) (qq hS (ja 1 vV rfl rfl (qG jb xs _ xl hxl 2 _ rfl)) (qq hS (g_add rfl rfl (by omega) (by omega)) (qq hS (Qmi rfl) (qq hS (g_add rfl rfl (by omega) (by omega)) (qq hS (qt (pl:=[(0,1),(1,1),(2,1),(3,1)]) (cs:=[_,.int .i64 _,.int .i64 _,.int .i64 _]) uV xH (fun w=>by simp[uN,vF]) (mp rfl (mp (v:=.int .i64 _) rfl (mp (v:=.int .i64 _) rfl mp0))) rfl) ?_)))));refine qe (d_lit (vs:=[.agg #[_,.int .i64 _,.int .i64 _,.int .i64 _]]) (cs:=[_,.int .i64 _,.int .i64 _,.int .i64 _]) hS xC xT uV rfl rfl rfl rfl (fun v hv=>by simp only[vN,vP,or_false]at hv; subst hv; rfl) rfl) ?_;clear hS;rintro _ w_4⟨b36,rfl,hS⟩;refine qe (qV 2 0 hS rfl xC info192 rfl rfl rfl rfl rfl rfl rfl rfl (by omega) (by omega)) ?_;clear hS;rintro _ w_5⟨a37,p37,rfl,hS⟩;refine qq hS (qc _) (QoN (vD ?_));have hSo:St [] w0 I0 I _ [.obj bm (mapU []),.row (.slice a37 (xs.length+1) p37) 192 4 (xs.length+1) (flat stC xs++[.map (some bm),.int .i64 0,.int .i64 (xl.ln+1),.int .i64 ((k:Int)+1)])]:=hS.ord [1,2]
   clear hS;have hnbm:=hSo.new _ (List.mem_cons_self ..) bm (by simp[Res.foot]);obtain⟨I1,hS,hs1,hm1⟩:=hSo.freezeO;have hHA1:=hHA.app (s:=⟨fun _=>none,some 0,(b.take k).length+1,(b.take k).length+1⟩) (x:=⟨bm,0,(k+1:Nat),(k+1:Nat)⟩) hs1 hm1 hnbm.1 (by unfold KeysN; simp) (fun c=>rfl) (hnbm.2.elim id fun h=>by simp at h) (by rw[hkl]; rfl);have hsta:=StA.init (N:=xs.length) (c:=y) (g:=fun v=>if v=xs.length then ⟨fun _=>none,some 0,(b.take k).length+1,(b.take k).length+1⟩ else f v) hok hla hls (vJ rfl) (fun v hv=>vG (by omega));obtain⟨xs1,hxs1⟩:∃ys,xs++[(⟨bm,0,(k+1:Nat),(k+1:Nat)⟩:StC)]=ys:=⟨_,rfl⟩
   have hfl:flat stC xs++[.map (some bm),.int .i64 0,.int .i64 (xl.ln+1),.int .i64 ((k:Int)+1)]=flat stC xs1:=by rw[← hxs1,ql,hxln]; rfl
   have hx1l:xs1.length=xs.length+1:=by rw[← hxs1,vE]; rfl
   rw[hfl,← hx1l]at hS;rw[hxs1]at hHA1;obtain⟨g1,hHA1,hsta⟩:∃g1,HA I1 w0.heap.size xs1 g1∧StA f (fun v=>v < xs.length) str (b.take k) y xs.length g1 (some last):=⟨_,hHA1,hsta⟩
   refine reg (qq hS (Qmi rfl) (qq hS (Qai rfl) (QoN (meet (fun σ w=>∃J g p,okS σ [(0,.slice ad b.length cap),(3,.slice a37 xs1.length p37),(4,.int .i64 last),(5,.int .i64 k),(6,.int .u8 y),(7,.int .i64 xs.length),(8,.int .i64 (lkV p)),(16,.slice ad b.length cap),(17,.int .i64 b.length),(18,.int .i64 k)]∧St [] w0 I0 J w [.row (.slice a37 xs1.length p37) 192 4 xs1.length (flat stC xs1)]∧HA J w0.heap.size xs1 g∧StA f (fun v=>v < xs.length) str (b.take k) y xs.length g p∧(∀p0,p=some p0→∃q,(g p0).nx y=some q)) ?_ ?_))))
   ·
    refine vS (loop (fun(z:BaW) σ w=>okS σ [(0,.slice ad b.length cap),(3,.slice a37 xs1.length p37),(4,.int .i64 last),(5,.int .i64 k),(6,.int .u8 y),(7,.int .i64 xs.length),(8,.int .i64 (lkV z.p)),(16,.slice ad b.length cap),(17,.int .i64 b.length),(18,.int .i64 k)]∧∃I,St [] w0 I0 I w [.row (.slice a37 xs1.length p37) 192 4 xs1.length (flat stC xs1)]∧HA I w0.heap.size xs1 z.g∧StA f (fun v=>v < xs.length) str (b.take k) y xs.length z.g z.p) (fun z=>mOf f z.p) (⟨g1,some last⟩) ?_ ?_)
    ·
     exact⟨⟨rfl,by rw[hx1l]; rfl,rfl,rfl,rfl,rfl,rfl,rfl,rfl,rfl,trivial⟩,I1,hS,hHA1,hsta⟩
    ·
     rintro⟨g,p⟩σ w_l⟨hs,I,hS,hHA,hst⟩;dsimp only at hs hS hHA hst ⊢;rw[← qk hs]; clear hs
     refine vD (QwR (qq hS (Qmi rfl) (qq hS (g_geq rfl rfl) (QoN (qj rfl ?_ ?_)))))
     ·
      intro hc40
      try simp only[zA,zO,zN,zI,zF,zM,zT,zU]at hc40
      obtain⟨p0,rfl⟩:∃p0,p=some p0:=by
       cases p with
       | none=>exact absurd hc40 (by decide)
       | some p0=>exact⟨p0,rfl⟩
      have hp0:p0 < xs.length:=(hst.cur p0 rfl).1;obtain⟨xp,hxp⟩:∃x,xs1[((p0:Nat):Int).toNat]? = some x:=⟨_,vC (by rw[Int.toNat_natCast]; omega)⟩
      have hxp_:=hxp;rw[Int.toNat_natCast]at hxp_;obtain⟨lp,hlp,hklp,hnlp⟩:=hHA.map _ xp hxp_;have hnp:=hHA.new xp (vI hxp_);have hcp:=(hHA.cell _ _ hxp_).1;refine vL (vK (vD (vS (vD (QwR (qq hS (qb _) (qq hS (Qmi rfl) ?_)))))));refine qq hS (g_ixR 0 xC xT rfl rfl rfl (by show(0:Int)≤(p0:Nat); omega) (by show((p0:Nat):Int) < _; omega)) ?_;refine qq hS (qw (c':=0) xH rfl uN rfl rfl rfl) (qq hS (ja 0 uW rfl rfl (qG jb xs1 _ xp hxp 0 _ rfl)) (qq hS (qs (v:=.int .u8 _) rfl) (qq hS (yd uo xI xL hlp rfl rfl) (qq hS (qb _) (qq hS (Qxi rfl rfl) (qq hS (qm (v:=.bool _) rfl rfl) (qq hS (Qai rfl) (qq hS (Qab rfl) (QoR (qq hS (Qmb rfl) (QoN ?_)))))))))));refine qj rfl ?_ ?_
      ·
       intro hc56;have hex:∀p1,some p0=some p1→∃q,(g p1).nx y=some q:=fun p1 h=>by obtain rfl:=Option.some.inj h; exact nx_of (hnlp y) hc56
       refine xm (xh (blkO rfl (xh (xh (ua (vK ?_))))));exact⟨_,rfl,_,_,_,⟨rfl,rfl,rfl,rfl,rfl,rfl,rfl,rfl,rfl,rfl,trivial⟩,hS.sel [true],hHA,hst,hex⟩
      ·
       intro hc56;have hno:=nx_no (hnlp y) hc56;have hst2:=hst.step hok (Nat.lt_irrefl _) hno;have hHA2:=hHA.put hxp_ hlp hklp hnlp y xs.length;have hdec:mOf f (g p0).lk < mOf f (some p0):=by rw[hst.lk p0 hp0,ya hok hp0,jy]; have:=hok.lo_le hp0; omega
       refine vL (vK (reg (qq hS (qb _) (qq hS (Qmi rfl) ?_))));refine qq hS (g_ixR 0 xC xT rfl rfl rfl (by show(0:Int)≤(p0:Nat); omega) (by show((p0:Nat):Int) < _; omega)) ?_;refine qq hS (qw (c':=0) xH rfl uN rfl rfl rfl) (qq hS (ja 0 uW rfl rfl (qG jb xs1 _ xp hxp 0 _ rfl)) (qq hS (qs (v:=.int .u8 _) rfl) (qq hS (Qmi rfl) (qe (d_mapPutIU hI hS uo xI hlp hnp rfl rfl rfl) ?_))));clear hS;rintro _ w_6⟨rfl,hS⟩;refine qB (xO (vK (reg (qq hS (qb _) (qq hS (Qmi rfl) ?_)))));refine qq hS (g_ixR 0 xC xT rfl rfl rfl (by show(0:Int)≤(p0:Nat); omega) (by show((p0:Nat):Int) < _; omega)) ?_;refine qq hS (qw (c':=1) xH rfl vF rfl rfl rfl) (qq hS (ja 0 vV rfl rfl (qG jb xs1 _ xp hxp 1 _ rfl)) (qq hS (Qai rfl) ?_));exact⟨⟨setNx g p0 y xs.length,(g p0).lk⟩,_,rfl,⟨⟨rfl,rfl,rfl,rfl,rfl,rfl,congrArg (Value.int .i64) hcp,rfl,rfl,rfl,trivial⟩,_,hS.sel [true],hHA2,hst2⟩,hdec⟩
     ·
      intro hc40
      try simp only[zA,zO,zN,zI,zF,zM,zT,zU]at hc40
      have hpn:p=none:=by
       cases p with
       | none=>rfl
       | some p0=>exact absurd (show(0:Int)≤(p0:Nat) by omega) hc40
      subst hpn;have hex:∀p0,(none:Option Nat)=some p0→∃q,(g p0).nx y=some q:=fun p0 h=>by cases h
      refine xm (xh (xh (ua (vK ?_))));exact⟨_,rfl,_,_,_,⟨rfl,rfl,rfl,rfl,rfl,rfl,rfl,rfl,rfl,rfl,trivial⟩,hS.sel [true],hHA,hst,hex⟩
   ·
    rintro σ w⟨J,g,p,hs,hS,hHA,hst,hex⟩;rw[← qk hs];refine QwR (qq hS (Qmi rfl) (qq hS (Qai rfl) (QoN (vD (QwR (qq hS (Qmi rfl) (qq hS (g_lss rfl rfl) (QoN (qj rfl ?_ ?_)))))))))
    ·
     intro hc66
     try simp only[zA,zO,zN,zI,zF,zM,zT,zU]at hc66
     have hpn:p=none:=by
      cases p with
      | none=>rfl
      | some p0=>exact absurd (show(0:Int)≤(p0:Nat) by omega) (Int.not_le.2 hc66)
     subst hpn;have hok9:=(hst.done0 hok hla hls (Nat.lt_irrefl _)).congr (D':=fun v=>v < xs1.length) (fun v=>by rw[hx1l]; omega);rw[← qy hyi]at hok9;refine xm (xh (ua (vK (reg (qq hS (g_add rfl rfl (by omega) (by omega)) (qq hS (Qmi rfl) ?_))))))
     first
      | exact⟨⟨k+1,xs1,g,_,xs.length,a37,p37⟩,_,rfl,⟨⟨rfl,rfl,rfl,rfl,rfl,rfl,trivial⟩,_,hS.sel [true],by dsimp only; omega,hHA,hok9,by dsimp only; omega,vJ rfl,by dsimp only; omega⟩,by dsimp only; omega⟩
      | exact⟨⟨k+1,xs1.set xs.length ⟨xn.b,q,xn.ln,xn.en⟩,_,_,xs.length,a37,p37⟩,_,rfl,⟨⟨rfl,by dsimp only; rw[vR]; rfl,rfl,rfl,rfl,rfl,trivial⟩,_,(by dsimp only; rw[vR]; exact hS.sel [true]),by dsimp only; omega,hHA9,(by dsimp only; rw[vR]; exact hok9),by dsimp only; rw[vR]; omega,vJ rfl,by dsimp only; rw[vR]; omega⟩,by dsimp only; omega⟩
      | exact⟨⟨k+1,(xs2.set q ⟨xq.b,(xs.length+1:Nat),xq.ln,xq.en⟩).set xs.length ⟨xn.b,(xs.length+1:Nat),xn.ln,xn.en⟩,_,str9,xs.length,a118,p118⟩,_,rfl,⟨⟨rfl,by dsimp only; rw[vR,vR]; rfl,rfl,rfl,rfl,rfl,trivial⟩,_,(by dsimp only; rw[vR,vR]; exact hS.sel [true]),by dsimp only; omega,hHA9,(by dsimp only; rw[vR,vR]; exact hok9),by dsimp only; rw[vR,vR]; omega,hl9,by dsimp only; rw[vR,vR]; omega⟩,by dsimp only; omega⟩
    ·
     intro hc66
     try simp only[zA,zO,zN,zI,zF,zM,zT,zU]at hc66
     obtain⟨p0,rfl⟩:∃p0,p=some p0:=by
      cases p with
      | none=>exact absurd (show(-1:Int) < 0 by decide) hc66
      | some p0=>exact⟨p0,rfl⟩
     obtain⟨q,hq⟩:=hex p0 rfl;obtain⟨a1,a2,a3,a4,a5,a6⟩:=hst.at_ hok hq;obtain⟨hp0,hps⟩:=hst.cur p0 rfl;have hq0:=hok.ne0 a1 a2;have hpk:(f p0).ln≤k:=by rw[← hok.sl p0 hp0,← hkl]; exact hps.length_le
     have hqk:(f q).ln≤k:=by rw[← hok.sl q a1,← hkl]; exact(hok.infS a1).length_le
     obtain⟨xp,hxp⟩:∃x,xs1[((p0:Nat):Int).toNat]? = some x:=⟨_,vC (by rw[Int.toNat_natCast]; omega)⟩
     have hxp_:=hxp;rw[Int.toNat_natCast]at hxp_;obtain⟨lp,hlp,hklp,hnlp⟩:=hHA.map _ xp hxp_;obtain⟨xq,hxq⟩:∃x,xs1[((q:Nat):Int).toNat]? = some x:=⟨_,vC (by rw[Int.toNat_natCast]; omega)⟩
     have hxq_:=hxq;rw[Int.toNat_natCast]at hxq_;obtain⟨lq,hlq,hklq,hnlq⟩:=hHA.map _ xq hxq_;obtain⟨xn,hxn⟩:∃x,xs1[((xs.length:Nat):Int).toNat]? = some x:=⟨_,vC (by rw[Int.toNat_natCast]; omega)⟩
     have hxn_:=hxn;rw[Int.toNat_natCast]at hxn_;have hqv:(lookI lp y).getD 0=(q:Int):=(nx_q (hnlp y) hq0).2 hq;obtain⟨cp1,cp2,cp3⟩:=hHA.cell _ _ hxp_;obtain⟨cq1,cq2,cq3⟩:=hHA.cell _ _ hxq_;rw[a5]at cp2;rw[a4]at cq2;rw[hst.en q a1]at cq3;have hqe:=(hok.en q a1).1;rw[hkl]at hqe;refine vL (vK (QwR (qq hS (qb _) (qq hS (Qmi rfl) ?_))));refine qq hS (g_ixR 0 xC xT rfl rfl rfl (by show(0:Int)≤(p0:Nat); omega) (by show((p0:Nat):Int) < _; omega)) ?_;refine qq hS (qw (c':=0) xH rfl uN rfl rfl rfl) (qq hS (ja 0 uW rfl rfl (qG jb xs1 _ xp hxp 0 _ rfl)) (qq hS (qs (v:=.int .u8 _) rfl) (qq hS (qI (g_lookF1U uo xI xL hlp rfl rfl) (congrArg (Value.int .i64) hqv)) (qq hS (Qai rfl) (QoN (vD (vD (draw (.cons 0 .pure (.cons 1 .pure (.cons 2 .held (.cons 3 .pure (.cons 4 .held (.cons 5 .pure (.cons 6 .pure (.cons 7 .held (.cons 8 .pure (.cons 9 .held (.cons 10 .pure (.cons 11 .pure .nil)))))))))))) mixed (by kernel_rfl) hS ?_))))))));intro w_7 hS;refine sp rfl (qb _) (sp rfl (Qmi rfl) ?_);refine sh rfl (g_ixR 0 xC xT rfl rfl rfl (by show(0:Int)≤(q:Nat); omega) (by show((q:Nat):Int) < _; omega)) ?_;refine sp rfl (qw (c':=2) xH rfl vF rfl rfl rfl) (sh rfl (ja 0 vV rfl rfl (qG jb xs1 _ xq hxq 2 _ rfl)) (sp rfl (qb _) (sp rfl (Qmi rfl) ?_)));refine sh rfl (g_ixR 0 xC xT rfl rfl rfl (by show(0:Int)≤(p0:Nat); omega) (by show((p0:Nat):Int) < _; omega)) ?_;refine sp rfl (qw (c':=2) xH rfl vF rfl rfl rfl) (sh rfl (ja 0 vV rfl rfl (qG jb xs1 _ xp hxp 2 _ rfl)) (sp rfl (g_add rfl rfl (by omega) (by omega)) (sp rfl (g_eql rfl rfl) (sn (vK (qj rfl ?_ ?_))))))
     ·
      intro hc85
      try simp only[zA,zO,zN,zI,zF,zM,zT,zU]at hc85
      have hok9:=(hst.done1 (g':=fun w=>if w=xs.length then { g xs.length with lk:=some q } else g w) hok hla hls (Nat.lt_irrefl _) hq (by rw[a4,a5]; omega) (vJ rfl) (fun v hv=>vG (by omega))).congr (D':=fun v=>v < xs1.length) (fun v=>by rw[hx1l]; omega);rw[← qy hyi]at hok9;have hHA9:=hHA.link hxn_ q;refine QwR (qq hS (qb _) (qq hS (Qmi rfl) (qq hS (Qmi rfl) ?_)));refine qq hS (g_ixR 0 xC xT rfl rfl rfl (by show(0:Int)≤(xs.length:Nat); omega) (by show((xs.length:Nat):Int) < _; omega)) ?_;refine qq hS (qw (c':=1) xH rfl vF rfl rfl rfl) (qe (jn 0 (c:=1) jb ⟨xn.b,q,xn.ln,xn.en⟩ hS rfl hxn vF rfl rfl rfl (vs:=[.int .i64 _]) rfl rfl rfl rfl rfl) ?_);clear hS;rintro _ w_8⟨rfl,hS⟩;refine QoN (xm (xh (ua (vK (reg (qq hS (g_add rfl rfl (by omega) (by omega)) (qq hS (Qmi rfl) ?_)))))))
      first
       | exact⟨⟨k+1,xs1,g,_,xs.length,a37,p37⟩,_,rfl,⟨⟨rfl,rfl,rfl,rfl,rfl,rfl,trivial⟩,_,hS.sel [true],by dsimp only; omega,hHA,hok9,by dsimp only; omega,vJ rfl,by dsimp only; omega⟩,by dsimp only; omega⟩
       | exact⟨⟨k+1,xs1.set xs.length ⟨xn.b,q,xn.ln,xn.en⟩,_,_,xs.length,a37,p37⟩,_,rfl,⟨⟨rfl,by dsimp only; rw[vR]; rfl,rfl,rfl,rfl,rfl,trivial⟩,_,(by dsimp only; rw[vR]; exact hS.sel [true]),by dsimp only; omega,hHA9,(by dsimp only; rw[vR]; exact hok9),by dsimp only; rw[vR]; omega,vJ rfl,by dsimp only; rw[vR]; omega⟩,by dsimp only; omega⟩
       | exact⟨⟨k+1,(xs2.set q ⟨xq.b,(xs.length+1:Nat),xq.ln,xq.en⟩).set xs.length ⟨xn.b,(xs.length+1:Nat),xn.ln,xn.en⟩,_,str9,xs.length,a118,p118⟩,_,rfl,⟨⟨rfl,by dsimp only; rw[vR,vR]; rfl,rfl,rfl,rfl,rfl,trivial⟩,_,(by dsimp only; rw[vR,vR]; exact hS.sel [true]),by dsimp only; omega,hHA9,(by dsimp only; rw[vR,vR]; exact hok9),by dsimp only; rw[vR,vR]; omega,hl9,by dsimp only; rw[vR,vR]; omega⟩,by dsimp only; omega⟩
     ·
      intro hc85
      try simp only[zA,zO,zN,zI,zF,zM,zT,zU]at hc85
      refine vL (vK (QwR (qq hS (qb _) (qq hS (yP 0 rfl xC rfl rfl) (qq hS (Qai rfl) (QoN (vD (draw (.cons 0 .pure (.cons 1 .pure (.cons 2 .pure (.cons 3 .held (.cons 4 .pure (.cons 5 .held (.cons 7 .pure (.cons 8 .pure (.cons 9 .held (.cons 10 .pure (.cons 11 .held (.cons 12 .pure (.cons 13 .pure (.cons 14 .held (.cons 15 .pure (.cons 16 .held (.cons 17 .pure (.cons 18 .pure (.cons 19 .pure (.cons 20 .held (.cons 21 .pure (.cons 22 .held (.cons 6 .eff (.cons 23 .pure (.cons 24 .eff (.cons 25 .bar (.cons 26 .pure .nil))))))))))))))))))))))))))) mixed (by kernel_rfl) hS ?_))))))));intro w_9 hS;refine sp rfl (qb _) (sp rfl (qb _) (sp rfl (Qmi rfl) ?_));refine sh rfl (g_ixR 0 xC xT rfl rfl rfl (by show(0:Int)≤(q:Nat); omega) (by show((q:Nat):Int) < _; omega)) ?_;refine sp rfl (qw (c':=0) xH rfl uN rfl rfl rfl) (sh rfl (ja 0 uW rfl rfl (qG jb xs1 _ xq hxq 0 _ rfl)) (sp rfl (qb _) (sp rfl (Qmi rfl) ?_)));refine sh rfl (g_ixR 0 xC xT rfl rfl rfl (by show(0:Int)≤(q:Nat); omega) (by show((q:Nat):Int) < _; omega)) ?_;refine sp rfl (qw (c':=1) xH rfl vF rfl rfl rfl) (sh rfl (ja 0 vV rfl rfl (qG jb xs1 _ xq hxq 1 _ rfl)) (sp rfl (qb _) (sp rfl (Qmi rfl) ?_)));refine sh rfl (g_ixR 0 xC xT rfl rfl rfl (by show(0:Int)≤(p0:Nat); omega) (by show((p0:Nat):Int) < _; omega)) ?_;refine sp rfl (qw (c':=2) xH rfl vF rfl rfl rfl) (sh rfl (ja 0 vV rfl rfl (qG jb xs1 _ xp hxp 2 _ rfl)) (sp rfl (g_add rfl rfl (by omega) (by omega)) (sp rfl (qb _) (sp rfl (Qmi rfl) ?_))));refine sh rfl (g_ixR 0 xC xT rfl rfl rfl (by show(0:Int)≤(q:Nat); omega) (by show((q:Nat):Int) < _; omega)) ?_
      refine sp rfl (qw (c':=3) xH rfl vF rfl rfl rfl) (sh rfl (ja 0 vV rfl rfl (qG jb xs1 _ xq hxq 3 _ rfl)) ?_);have hS0:=hS;refine se rfl (qg call103 rfl (copied_c xq.b lq hklq _ _ hS.imm hlq)) ?_;rintro _ w_10⟨bc,mc,rfl,hE,hmn,hmc⟩;replace hS:=hS.call hE;refine⟨_,_,hS0.le hE.ext (List.sublist_append_right _ _),hS,sp rfl (qt (pl:=[(0,1),(1,1),(2,1),(3,1)]) (cs:=[_,.int .i64 _,.int .i64 _,.int .i64 _]) uV xH (fun w=>by simp[uN,vF]) (mp rfl (mp (v:=.int .i64 _) rfl (mp (v:=.int .i64 _) rfl (mp (v:=.int .i64 _) rfl mp0)))) rfl) ?_⟩;have hS0:=hS;refine se rfl (d_lit (vs:=[.agg #[_,.int .i64 _,.int .i64 _,.int .i64 _]]) (cs:=[_,.int .i64 _,.int .i64 _,.int .i64 _]) hS xC xT uV rfl rfl rfl rfl (fun v hv=>by simp only[vN,vP,or_false]at hv; subst hv; rfl) rfl) ?_;rintro _ w_11⟨b117,rfl,hS⟩;refine⟨_,_,hS0.le (Sub.refl _) (xQ _ _),hS,sb rfl (qV 2 0 hS rfl xC info192 rfl rfl rfl rfl rfl rfl rfl rfl (by omega) (by omega)) ?_⟩;rintro _ w_12⟨a118,p118,rfl,hS⟩;refine⟨_,_,hS,sp rfl (qc _) (sn (vK ?_))⟩;have hSo:St [] w0 I0 _ _ [.obj bc (mapU mc),.row (.slice a118 (xs1.length+1) p118) 192 4 (xs1.length+1) (flat stC xs1++[.map (some bc),.int .i64 xq.lk,.int .i64 (xp.ln+1),.int .i64 xq.en])]:=hS.ord [1,2];clear hS;have hnbc:=hSo.new _ (List.mem_cons_self ..) bc (by simp[Res.foot]);obtain⟨I2,hS,hs2,hm2⟩:=hSo.freezeO;have hHA2:=hHA.app (s:=⟨(g q).nx,(g q).lk,(g p0).ln+1,(g q).en⟩) (x:=⟨bc,xq.lk,xp.ln+1,xq.en⟩) hs2 hm2 hnbc.1 hmn (fun c=>(hmc c).trans (hnlq c)) (hnbc.2.elim id fun h=>by simp at h) (by rw[cq1,cp2,cq3,a5,hst.en q a1]; rfl)
      have hstb:=hst.two (M:=xs.length+1) (g':=fun v=>if v=xs1.length then ⟨(g q).nx,(g q).lk,(g p0).ln+1,(g q).en⟩ else g v) hok (Nat.lt_irrefl _) hq (by omega) (vJ hx1l.symm) (fun v hv=>vG (by rw[hx1l]; rcases hv with hv | hv <;> omega));obtain⟨xs2,hxs2⟩:∃ys,xs1++[(⟨bc,xq.lk,xp.ln+1,xq.en⟩:StC)]=ys:=⟨_,rfl⟩
      have hfl:flat stC xs1++[.map (some bc),.int .i64 xq.lk,.int .i64 (xp.ln+1),.int .i64 xq.en]=flat stC xs2:=by rw[← hxs2,ql]; rfl
      have hx2l:xs2.length=xs1.length+1:=by rw[← hxs2,vE]; rfl
      rw[hfl,← hx2l]at hS;rw[hxs2]at hHA2;obtain⟨g9,hHA2,hstb⟩:∃g9,HA I2 w0.heap.size xs2 g9∧StB f (fun v=>v < xs.length) str (b.take k) y xs.length (xs.length+1) q ((f p0).ln+1) g9 (some p0):=⟨_,hHA2,hstb⟩
      have hxq2:xs2[((q:Nat):Int).toNat]? = some xq:=by rw[← hxs2,xg (by rw[Int.toNat_natCast]; omega)]; exact hxq
      have hxn0:xs2[((xs.length:Nat):Int).toNat]? = some xn:=by rw[← hxs2,xg (by rw[Int.toNat_natCast]; omega)]; exact hxn
      have hxn2:(xs2.set ((q:Nat):Int).toNat ⟨xq.b,(xs.length+1:Nat),xq.ln,xq.en⟩)[((xs.length:Nat):Int).toNat]? = some xn:=by rw[List.getElem?_set_ne (by omega)]; exact hxn0
      refine meet (fun σ w=>∃J g2 p,okS σ [(0,.slice ad b.length cap),(3,.slice a118 xs2.length p118),(4,.int .i64 xs.length),(5,.int .i64 k),(6,.int .u8 y),(7,.int .i64 xs.length),(8,.int .i64 (lkV p)),(16,.slice ad b.length cap),(17,.int .i64 b.length),(18,.int .i64 k),(11,.int .i64 q),(12,.int .i64 ((xs.length+1:Nat):Int))]∧St [] w0 I0 J w [.row (.slice a118 xs2.length p118) 192 4 xs2.length (flat stC xs2)]∧HA J w0.heap.size xs2 g2∧StB f (fun v=>v < xs.length) str (b.take k) y xs.length (xs.length+1) q ((f p0).ln+1) g2 p∧(∀p1,p=some p1→(g2 p1).nx y≠some q)) ?_ ?_
      ·
       refine vS (loop (fun(z:BaW) σ w=>okS σ [(0,.slice ad b.length cap),(3,.slice a118 xs2.length p118),(4,.int .i64 xs.length),(5,.int .i64 k),(6,.int .u8 y),(7,.int .i64 xs.length),(8,.int .i64 (lkV z.p)),(16,.slice ad b.length cap),(17,.int .i64 b.length),(18,.int .i64 k),(11,.int .i64 q),(12,.int .i64 ((xs.length+1:Nat):Int))]∧∃I,St [] w0 I0 I w [.row (.slice a118 xs2.length p118) 192 4 xs2.length (flat stC xs2)]∧HA I w0.heap.size xs2 z.g∧StB f (fun v=>v < xs.length) str (b.take k) y xs.length (xs.length+1) q ((f p0).ln+1) z.g z.p) (fun z=>mOf f z.p) (⟨g9,some p0⟩) ?_ ?_)
       ·
        exact⟨⟨rfl,by rw[hx2l]; rfl,rfl,rfl,rfl,rfl,rfl,rfl,rfl,rfl,rfl,(by rw[hx1l]; rfl),trivial⟩,I2,hS,hHA2,hstb⟩
       ·
        rintro⟨g2,p⟩σ w_l⟨hs,I,hS,hHA,hst2⟩;dsimp only at hs hS hHA hst2 ⊢;rw[← qk hs]; clear hs
        refine vD (vD ?_);have hpc:p=none∨∃p1,p=some p1:=by cases p with | none=>exact .inl rfl | some p1=>exact .inr ⟨p1,rfl⟩
        refine hpc.elim (fun hA=>?_) (fun hB=>?_)
        ·
         subst hA;have hex2:∀p1,(none:Option Nat)=some p1→(g2 p1).nx y≠some q:=fun p1 h=>by cases h
         refine reg (qq hS (Qmi rfl) ?_);refine qq hS (qI (g_geq rfl rfl) (congrArg Value.bool (xX (by show ¬(0:Int)≤-1; omega)))) ?_;refine qq hS (Qmb rfl) (qsf rfl rfl rfl (qsf rfl rfl rfl (qsf rfl rfl rfl (qsf rfl rfl rfl (qsf rfl rfl rfl (qsf rfl rfl rfl (qsf rfl rfl rfl (qsf rfl rfl rfl (qsf rfl rfl rfl (qq hS (g_and (b:=false) rfl rfl (fun h=>(by cases h))) (QoN (jf (rfl) (xm (xh (xh (ua (vK ?_)))))))))))))))));exact⟨_,rfl,_,_,_,⟨rfl,rfl,rfl,rfl,rfl,rfl,rfl,rfl,rfl,rfl,rfl,rfl,trivial⟩,hS.sel [true],hHA,hst2,hex2⟩
        ·
         obtain⟨p1,rfl⟩:=hB;obtain⟨hp1,hps1,_⟩:=hst2.cur p1 rfl;obtain⟨x1,hx1⟩:∃x,xs2[((p1:Nat):Int).toNat]? = some x:=⟨_,vC (by rw[Int.toNat_natCast]; omega)⟩
         have hx1_:=hx1;rw[Int.toNat_natCast]at hx1_;obtain⟨l1,hl1,hkl1,hnl1⟩:=hHA.map _ x1 hx1_;have hnb1:=hHA.new x1 (vI hx1_);have hc1:=(hHA.cell _ _ hx1_).1;refine reg (qq hS (Qmi rfl) ?_);refine qq hS (qI (g_geq rfl rfl) (congrArg Value.bool (ur (by show(0:Int)≤(p1:Nat); omega)))) ?_;refine qq hS (Qmb rfl) (qqs rfl rfl hS (qb _) (qqs rfl rfl hS (Qmi rfl) ?_));refine qqs rfl rfl hS (g_ixR 0 xC xT rfl rfl rfl (by show(0:Int)≤(p1:Nat); omega) (by show((p1:Nat):Int) < _; omega)) ?_;refine qqs rfl rfl hS (qw (c':=0) xH rfl uN rfl rfl rfl) (qqs rfl rfl hS (ja 0 uW rfl rfl (qG jb xs2 _ x1 hx1 0 _ rfl)) (qqs rfl rfl hS (qs (v:=.int .u8 _) rfl) (qqs rfl rfl hS (g_lookF1U uo xI xL hl1 rfl rfl) (qqs rfl rfl hS (Qmi rfl) (qqs rfl rfl hS (g_eql rfl rfl) (qq hS (g_and rfl rfl (fun _=>rfl)) ?_))))));refine QoN (qj rfl ?_ ?_)
         ·
          intro hc131;have hnq:=(nx_q (hnl1 y) hq0).1 (by simpa using hc131);have hst3:=hst2.step hok (Nat.lt_irrefl _) (by omega) (by omega) a1 a2 hps (by rw[hok.sl p0 hp0]) hnq;have hHA3:=hHA.put hx1_ hl1 hkl1 hnl1 y (xs.length+1);have hdec:mOf f (g2 p1).lk < mOf f (some p1):=by rw[hst2.lk p1 hp1,ya hok hp1,jy]; have:=hok.lo_le hp1; omega
          refine vL (vK (vD (vS (reg (qq hS (qb _) (qq hS (Qmi rfl) ?_))))));refine qq hS (g_ixR 0 xC xT rfl rfl rfl (by show(0:Int)≤(p1:Nat); omega) (by show((p1:Nat):Int) < _; omega)) ?_;refine qq hS (qw (c':=0) xH rfl uN rfl rfl rfl) (qq hS (ja 0 uW rfl rfl (qG jb xs2 _ x1 hx1 0 _ rfl)) (qq hS (qs (v:=.int .u8 _) rfl) (qq hS (Qmi rfl) (qe (d_mapPutIU hI hS uo xI hl1 hnb1 rfl rfl rfl) ?_))));clear hS;rintro _ w_13⟨rfl,hS⟩;refine qB (xO (vK (reg (qq hS (qb _) (qq hS (Qmi rfl) ?_)))));refine qq hS (g_ixR 0 xC xT rfl rfl rfl (by show(0:Int)≤(p1:Nat); omega) (by show((p1:Nat):Int) < _; omega)) ?_;refine qq hS (qw (c':=1) xH rfl vF rfl rfl rfl) (qq hS (ja 0 vV rfl rfl (qG jb xs2 _ x1 hx1 1 _ rfl)) (qq hS (Qai rfl) ?_));exact⟨⟨setNx g2 p1 y (xs.length+1),(g2 p1).lk⟩,_,rfl,⟨⟨rfl,rfl,rfl,rfl,rfl,rfl,congrArg (Value.int .i64) hc1,rfl,rfl,rfl,rfl,rfl,trivial⟩,_,hS.sel [true],hHA3,hst3⟩,hdec⟩
         ·
          intro hc131;have hex2:∀p2,some p1=some p2→(g2 p2).nx y≠some q:=fun p2 h e=>by
           obtain rfl:=Option.some.inj h;have:=(nx_q (hnl1 y) hq0).2 e;rw[this]at hc131;simp at hc131
          refine xm (xh (xh (ua (vK ?_))));exact⟨_,rfl,_,_,_,⟨rfl,rfl,rfl,rfl,rfl,rfl,rfl,rfl,rfl,rfl,rfl,rfl,trivial⟩,hS.sel [true],hHA,hst2,hex2⟩
      ·
       rintro σ w⟨J,g2,p,hs,hS,hHA,hst2,hex2⟩;rw[← qk hs];have hxq2_:=hxq2;have hxn2_:=hxn2;rw[Int.toNat_natCast]at hxq2_ hxn2_;have hHA9:=(hHA.link hxq2_ (xs.length+1)).link (by rw[Int.toNat_natCast]at hxn2_; exact hxn2_) (xs.length+1);obtain⟨str9,hok8,hl9⟩:=hst2.done (m:=(f p0).ln+1) (g':=fun w=>if w=xs.length then { (fun w=>if w=q then { g2 q with lk:=some (xs.length+1) } else g2 w) xs.length with lk:=some (xs.length+1) } else (fun w=>if w=q then { g2 q with lk:=some (xs.length+1) } else g2 w) w) hok hla hls (Nat.lt_irrefl _) (by omega) (by omega) a1 a2 hps (by rw[hok.sl p0 hp0]) (by omega) (hst.h1 hok hla hls) (hst.h2 hok hq) hex2 (by rw[vG (by omega)]; exact vJ rfl) (by rw[vJ rfl]; dsimp only; rw[vG (by omega)]) (fun v h1 h2=>by rw[vG h2]; exact vG h1);have hok9:=hok8.congr (D':=fun v=>v < xs2.length) (fun v=>by rw[hx2l,hx1l]; omega);rw[← qy hyi]at hok9 hl9;refine reg (qq hS (qb _) (qq hS (Qmi rfl) (qq hS (qb _) (qq hS (Qmi rfl) (qq hS (Qmi rfl) (qq hS (Qmi rfl) ?_))))));refine qq hS (g_ixR 0 xC xT rfl rfl rfl (by show(0:Int)≤(q:Nat); omega) (by show((q:Nat):Int) < _; omega)) ?_;refine qq hS (qw (c':=1) xH rfl vF rfl rfl rfl) (qe (jn 0 (c:=1) jb ⟨xq.b,(xs.length+1:Nat),xq.ln,xq.en⟩ hS rfl hxq2 vF rfl rfl rfl (vs:=[.int .i64 _]) rfl rfl rfl rfl rfl) ?_);clear hS;rintro _ w_14⟨rfl,hS⟩;refine qq hS (g_ixR 0 xC xT rfl rfl rfl (by show(0:Int)≤(xs.length:Nat); omega) (by show((xs.length:Nat):Int) < _; omega)) ?_;refine qq hS (qw (c':=1) xH rfl vF rfl rfl rfl) (qe (jn 0 (c:=1) jb ⟨xn.b,(xs.length+1:Nat),xn.ln,xn.en⟩ hS (by rw[vR]) hxn2 vF rfl rfl rfl (vs:=[.int .i64 _]) rfl rfl rfl rfl rfl) ?_)
       clear hS;rintro _ w_15⟨rfl,hS⟩;refine qB (xO (vK (reg (qq hS (g_add rfl rfl (by omega) (by omega)) (qq hS (Qmi rfl) ?_)))))
       first
        | exact⟨⟨k+1,xs1,g,_,xs.length,a37,p37⟩,_,rfl,⟨⟨rfl,rfl,rfl,rfl,rfl,rfl,trivial⟩,_,hS.sel [true],by dsimp only; omega,hHA,hok9,by dsimp only; omega,vJ rfl,by dsimp only; omega⟩,by dsimp only; omega⟩
        | exact⟨⟨k+1,xs1.set xs.length ⟨xn.b,q,xn.ln,xn.en⟩,_,_,xs.length,a37,p37⟩,_,rfl,⟨⟨rfl,by dsimp only; rw[vR]; rfl,rfl,rfl,rfl,rfl,trivial⟩,_,(by dsimp only; rw[vR]; exact hS.sel [true]),by dsimp only; omega,hHA9,(by dsimp only; rw[vR]; exact hok9),by dsimp only; rw[vR]; omega,vJ rfl,by dsimp only; rw[vR]; omega⟩,by dsimp only; omega⟩
        | exact⟨⟨k+1,(xs2.set q ⟨xq.b,(xs.length+1:Nat),xq.ln,xq.en⟩).set xs.length ⟨xn.b,(xs.length+1:Nat),xn.ln,xn.en⟩,_,str9,xs.length,a118,p118⟩,_,rfl,⟨⟨rfl,by dsimp only; rw[vR,vR]; rfl,rfl,rfl,rfl,rfl,trivial⟩,_,(by dsimp only; rw[vR,vR]; exact hS.sel [true]),by dsimp only; omega,hHA9,(by dsimp only; rw[vR,vR]; exact hok9),by dsimp only; rw[vR,vR]; omega,hl9,by dsimp only; rw[vR,vR]; omega⟩,by dsimp only; omega⟩
  ·
   intro hc19
   try simp only[zA,zO,zN,zI,zF,zM,zT,zU]at hc19
   obtain rfl:k=b.length:=by omega
   rw[xB]at hok;refine xm (xh (xh (ua (vK (QwR (qq hS (qb _) (qq hS (qc _) (QoN (vM (ret1 results58 (qh rfl) ?_))))))))));obtain⟨I9,hS9,hs9,h9⟩:=St.freezeRow (E:=192) (xs:=xs) jb (hS.sel [true]) rfl;exact⟨I9,a,c,xs,f,str,rfl,hS9,h9,hHA.mono hs9,hok,hxk⟩
end Go.Proofs.YtgkgihnpjgbmhaaGreatDoor
namespace Go.Proofs.YtgkgihnpjgbmhaaGreatDoor
open Tryz
open Go Go.RowKit Go.Inl
structure FdW where
 a:Int
 n:Int
def fdC (x:FdW):List Value:=[.int .i64 x.a,.int .i64 x.n]
theorem yx (x:FdW):(fdC x).length=2:=rfl
def FdsOk (s b:List Int)(k:Nat)(F:List FdW):Prop:=∀i,i≤k→∀x,F[i]? = some x→∃p n:Nat,x=⟨p,n⟩∧FndOk s (b.take i) p n
theorem FdsOk.zero (s b:List Int)(N:Nat):FdsOk s b 0 (List.replicate N ⟨0,0⟩):=fun i hi x hx=>by
 obtain rfl:i=0:=by omega
 have:=List.eq_of_mem_replicate (vI hx);subst this;exact⟨0,0,rfl,Nat.zero_le _,⟨[],List.nil_suffix,rfl,List.nil_suffix⟩,fun t h1 _=>by have:=h1.length_le; exact this⟩
theorem FdsOk.put {s b:List Int}{k:Nat}{F:List FdW}(h:FdsOk s b k F){p n:Nat}(hf:FndOk s (b.take (k+1)) p n):FdsOk s b (k+1) (F.set (k+1) ⟨p,n⟩):=fun i hi x hx=>by
 rw[List.getElem?_set]at hx;by_cases e:k+1=i
 · subst e
   rw[vJ rfl]at hx;split at hx
   · obtain rfl:=Option.some.inj hx; exact⟨p,n,rfl,hf⟩
   · cases hx
 · rw [vG e] at hx
   exact h i (by omega) x hx
structure EnW where
 k:Nat
 F:List FdW
 p:Nat
 n:Nat
structure EiW where
 p:Nat
 n:Nat
set_option maxHeartbeats 4000000 in
theorem endsM_c (aa ad : Option Addr) (ac cap n0 : Nat) (xs : List StC) (f : Nat → Sst) (str : Nat → List Int) (s b : List Int) (w0 : World) (I0 : Imm) (hI : Sat I0 w0) (hx : RFl I0 4 stC (.slice aa xs.length ac) xs) (hHA : HA I0 n0 xs f) (hok : SaOk f (fun v => v < xs.length) str s) (hb : RBytes I0 (.slice ad b.length cap) b) (hbl : b.length ≤ 65536) :
 Ctr prog 59 [.slice aa xs.length ac,.slice ad b.length cap] w0 (fun v w'=>∃I' a c F,v = .slice a (b.length+1) c∧Ext w0 I0 w' I'∧RFl I' 2 fdC (.slice a (b.length+1) c) F∧F.length=b.length+1∧FdsOk s b b.length F):=by
 refine fn (n:=75) func59 rfl rfl rfl ?_;have hS:=St.start hI;refine QwR (qq hS (qc _) (QoR (qq hS (qb _) (qq hS (qo rfl vH (hb.mono hS.ext) rfl) (qq hS (g_add rfl rfl (by omega) (by omega)) (qe (vq yx ⟨0,0⟩ (b.length+1) hS Qi info128 rfl rfl rfl rfl (by omega) (by omega) rfl) ?_))))));clear hS;rintro _ w_1⟨b17,rfl,hS⟩;replace hS:=hS.asRow (k:=0) (sz:=2) (m:=b.length+1) rfl (by rw[qT yx,xW]) (by unfold maxLen; omega);refine qq hS (qc _) (QoR (qq hS (Qai rfl) (qq hS (Qai rfl) (QoN (vD (QwR (qq hS (qb _) (qq hS (qo rfl vH (hb.mono hS.ext) rfl) (qq hS (Qmi rfl) (QoN (vS (loop (fun(z:EnW) σ w=>okS σ [(0,.slice aa xs.length ac),(1,.slice ad b.length cap),(5,.slice (some ⟨b17,0,none⟩) (b.length+1) (b.length+1)),(6,.int .i64 z.p),(7,.int .i64 z.n),(18,.slice ad b.length cap),(19,.int .i64 b.length),(20,.int .i64 z.k)]∧St [] w0 I0 I0 w [.row (.slice (some ⟨b17,0,none⟩) (b.length+1) (b.length+1)) 128 2 (b.length+1) (flat fdC z.F)]∧z.k≤b.length∧AtI f (fun v=>v < xs.length) str s (b.take z.k) z.p z.n∧z.F.length=b.length+1∧FdsOk s b z.k z.F) (fun z=>b.length - z.k) (⟨0,List.replicate (b.length+1) ⟨0,0⟩,0,0⟩) ?_ ?_))))))))))))
 ·
  exact⟨⟨rfl,rfl,rfl,rfl,rfl,rfl,rfl,rfl,trivial⟩,hS,Nat.zero_le _,AtI.init hok,xW,FdsOk.zero _ _ _⟩
 ·
  rintro⟨k,F,p,n⟩σ w_l⟨hs,hS,hk,hai,hFl,hF⟩;dsimp only at hs hS hk hai hFl hF ⊢;rw[← qk hs]; clear hs
  refine QwR (qq hS (g_lss rfl rfl) (QoN (vD (qj rfl ?_ ?_))))
  ·
   intro hc21
   try simp only[zA,zO,zN,zI,zF,zM,zT,zU]at hc21
   obtain⟨y,hyi⟩:∃y,b[k]? = some y:=⟨_,vC (by omega)⟩
   have hkb:k < b.length:=by omega
   have hyA:=(hb.mono hS.ext).at hyi;obtain⟨x0,hF0⟩:∃x,F[k+1]? = some x:=⟨_,vC (by omega)⟩
   refine vL (vK (vD (vS (QwR (qq hS (Qmi rfl) (qq hS (g_ixI vH xd (hb.mono hS.ext) rfl rfl (by omega) (by omega)) (qq hS (qJ xR hyA rfl rfl) (qq hS (Qai rfl) (qq hS (qr (v:=.int .u8 _) rfl) (QoN (meet (fun σ w=>∃p n:Nat,okS σ [(0,.slice aa xs.length ac),(1,.slice ad b.length cap),(5,.slice (some ⟨b17,0,none⟩) (b.length+1) (b.length+1)),(6,.int .i64 p),(7,.int .i64 n),(8,.int .i64 k),(9,.int .u8 y),(18,.slice ad b.length cap),(19,.int .i64 b.length),(20,.int .i64 k)]∧St [] w0 I0 I0 w [.row (.slice (some ⟨b17,0,none⟩) (b.length+1) (b.length+1)) 128 2 (b.length+1) (flat fdC F)]∧AtL f (fun v=>v < xs.length) str s (b.take k) y p n∧(p=0∨∃u,(f p).nx y=some u)) ?_ ?_)))))))))))
   ·
    refine vS (loop (fun(z:EiW) σ w=>okS σ [(0,.slice aa xs.length ac),(1,.slice ad b.length cap),(5,.slice (some ⟨b17,0,none⟩) (b.length+1) (b.length+1)),(6,.int .i64 z.p),(7,.int .i64 z.n),(8,.int .i64 k),(9,.int .u8 y),(18,.slice ad b.length cap),(19,.int .i64 b.length),(20,.int .i64 k)]∧St [] w0 I0 I0 w [.row (.slice (some ⟨b17,0,none⟩) (b.length+1) (b.length+1)) 128 2 (b.length+1) (flat fdC F)]∧AtL f (fun v=>v < xs.length) str s (b.take k) y z.p z.n) (fun z=>(f z.p).ln) (⟨p,n⟩) ?_ ?_)
    ·
     exact⟨⟨rfl,rfl,rfl,rfl,rfl,rfl,rfl,rfl,rfl,rfl,trivial⟩,hS,hai.to⟩
    ·
     rintro⟨p,n⟩σ w_l⟨hs,hS,hal⟩;dsimp only at hs hS hal ⊢;rw[← qk hs]; clear hs
     refine vD (QwR (qq hS (Qmi rfl) (qq hS (g_gtr rfl rfl) (QoN (qj rfl ?_ ?_)))))
     ·
      intro hc26
      try simp only[zA,zO,zN,zI,zF,zM,zT,zU]at hc26
      have hpd:p < xs.length:=hal.dom;obtain⟨xp,hxp⟩:∃x,xs[((p:Nat):Int).toNat]? = some x:=⟨_,vC (by rw[Int.toNat_natCast]; omega)⟩
      have hxp_:=hxp;rw[Int.toNat_natCast]at hxp_;have hxpA:=(hx.mono hS.ext).at hxp;obtain⟨lp,hlp,hklp,hnlp⟩:=(hHA.mono hS.ext).map _ xp hxp_;refine vL (vK (vS (vD (QwR (qq hS (qb _) (qq hS (Qmi rfl) ?_))))));refine qq hS (g_ixI xC xT (hx.mono hS.ext) rfl rfl (by show(0:Int)≤(p:Nat); omega) (by show((p:Nat):Int) < _; omega)) ?_;refine qq hS (qw (c':=0) xH rfl uN rfl rfl rfl) (qq hS (qJ uW hxpA rfl rfl) (qq hS (qs (v:=.int .u8 _) rfl) (qq hS (yd uo xI xL hlp rfl rfl) (qq hS (qb _) (qq hS (Qxi rfl rfl) (qq hS (qm (v:=.bool _) rfl rfl) (qq hS (Qai rfl) (qq hS (Qab rfl) (QoR (qq hS (Qmb rfl) (QoN (qj rfl ?_ ?_))))))))))))
      ·
       intro hc37;have hex:p=0∨∃u,(f p).nx y=some u:=.inr (nx_of (hnlp y) hc37);refine xm (xh (blkO rfl (xh (ua (vK ?_)))));exact⟨_,rfl,_,_,⟨rfl,rfl,rfl,rfl,rfl,rfl,rfl,rfl,rfl,rfl,trivial⟩,hS.sel [true],hal,hex⟩
      ·
       intro hc37;have hno:=nx_no (hnlp y) hc37;obtain⟨u,hu,hult,hal2⟩:=hal.step hok (by omega) hno;have hud:u < xs.length:=hal2.dom;have hlk:xp.lk=(u:Int):=by rw[(hHA.cell _ _ hxp_).1,hu]; rfl
       obtain⟨xu,hxu⟩:∃x,xs[u]? = some x:=⟨_,vC hud⟩
       have hxuA:atI I0 (elA (.slice aa xs.length ac) xp.lk.toNat 4 0) (stC xu):=by rw[hlk]; exact(hx.mono hS.ext).at hxu
       have hlu:=(hHA.cell _ _ hxu).2.1;refine vL (vK (QwR (qq hS (qb _) (qq hS (Qmi rfl) ?_))));refine qq hS (g_ixI xC xT (hx.mono hS.ext) rfl rfl (by show(0:Int)≤(p:Nat); omega) (by show((p:Nat):Int) < _; omega)) ?_;refine qq hS (qw (c':=1) xH rfl vF rfl rfl rfl) (qq hS (qJ vV hxpA rfl rfl) (qq hS (Qai rfl) (QoN (reg (qq hS (qb _) (qq hS (Qmi rfl) ?_))))));refine qq hS (g_ixI xC xT (hx.mono hS.ext) rfl rfl (by rw[hlk]; omega) (by rw[hlk]; omega)) ?_;refine qq hS (qw (c':=2) xH rfl vF rfl rfl rfl) (qq hS (qJ vV hxuA rfl rfl) (qq hS (Qai rfl) ?_));exact⟨⟨u,(f u).ln⟩,_,rfl,⟨⟨rfl,rfl,rfl,congrArg (Value.int .i64) hlk,congrArg (Value.int .i64) hlu,rfl,rfl,rfl,rfl,rfl,trivial⟩,hS.sel [true],hal2⟩,hult⟩
     ·
      intro hc26
      try simp only[zA,zO,zN,zI,zF,zM,zT,zU]at hc26
      obtain rfl:p=0:=by omega
      have hex:(0:Nat)=0∨∃u,(f 0).nx y=some u:=.inl rfl;refine xm (xh (xh (ua (vK ?_))));exact⟨_,rfl,_,_,⟨rfl,rfl,rfl,rfl,rfl,rfl,rfl,rfl,rfl,rfl,trivial⟩,hS.sel [true],hal,hex⟩
   ·
    rintro σ w⟨p,n,hs,hS,hal,hex⟩;rw[← qk hs];refine meet (fun σ w=>∃p n:Nat,okS σ [(0,.slice aa xs.length ac),(1,.slice ad b.length cap),(5,.slice (some ⟨b17,0,none⟩) (b.length+1) (b.length+1)),(6,.int .i64 p),(7,.int .i64 n),(8,.int .i64 k),(9,.int .u8 y),(18,.slice ad b.length cap),(19,.int .i64 b.length),(20,.int .i64 k)]∧St [] w0 I0 I0 w [.row (.slice (some ⟨b17,0,none⟩) (b.length+1) (b.length+1)) 128 2 (b.length+1) (flat fdC F)]∧AtI f (fun v=>v < xs.length) str s (b.take (k+1)) p n) ?_ ?_
    ·
     refine vD ?_;obtain⟨w_,hw1,hw2,_⟩:=hal.wit;have hnk:n≤k:=by
      have:=hw1.length_le;rw[xc]at this;omega
     have hpd:p < xs.length:=hal.dom;obtain⟨xp,hxp⟩:∃x,xs[((p:Nat):Int).toNat]? = some x:=⟨_,vC (by rw[Int.toNat_natCast]; omega)⟩
     have hxp_:=hxp;rw[Int.toNat_natCast]at hxp_;have hxpA:=(hx.mono hS.ext).at hxp;obtain⟨lp,hlp,hklp,hnlp⟩:=(hHA.mono hS.ext).map _ xp hxp_;refine reg (qq hS (qb _) (qq hS (Qmi rfl) ?_));refine qq hS (g_ixI xC xT (hx.mono hS.ext) rfl rfl (by show(0:Int)≤(p:Nat); omega) (by show((p:Nat):Int) < _; omega)) ?_;refine qq hS (qw (c':=0) xH rfl uN rfl rfl rfl) (qq hS (qJ uW hxpA rfl rfl) (qq hS (qs (v:=.int .u8 _) rfl) (qq hS (yd uo xI xL hlp rfl rfl) (qq hS (qb _) (qq hS (Qxi rfl rfl) (qq hS (qm (v:=.bool _) rfl rfl) (qq hS (Qai rfl) (qq hS (Qab rfl) (QoR (qq hS (Qmb rfl) (QoN (qj rfl ?_ ?_))))))))))))
     ·
      intro hc58;obtain⟨u,hu⟩:=nx_of (hnlp y) hc58;obtain⟨u1,u2⟩:=hok.snd p y u hal.dom hu;have huv:=(nx_q (hnlp y) (hok.ne0 u1 (u2 _ (hok.self hal.dom)))).2 hu;have hai2:=hal.hit hok hu;rw[← qy hyi]at hai2;refine QwR (qq hS (Qmi rfl) (qq hS (Qai rfl) (QoN (reg (qq hS (Qmi rfl) (qq hS (g_add rfl rfl (by omega) (by omega)) (qq hS (Qai rfl) (QoN ?_))))))))
      first
       | exact⟨_,rfl,_,_,⟨rfl,rfl,rfl,congrArg (Value.int .i64) huv,rfl,rfl,rfl,rfl,rfl,rfl,trivial⟩,hS.sel [true],hai2⟩
       | exact⟨_,rfl,0,0,⟨rfl,rfl,rfl,rfl,rfl,rfl,rfl,rfl,rfl,rfl,trivial⟩,hS.sel [true],hai2⟩
     ·
      intro hc58;have hno:=nx_no (hnlp y) hc58;obtain rfl:p=0:=hex.resolve_right (fun⟨u,hu⟩=>by rw[hu]at hno; cases hno);obtain⟨rfl,hai2⟩:=hal.miss hok hno;rw[← qy hyi]at hai2;refine vL (vK ?_)
      first
       | exact⟨_,rfl,_,_,⟨rfl,rfl,rfl,congrArg (Value.int .i64) huv,rfl,rfl,rfl,rfl,rfl,rfl,trivial⟩,hS.sel [true],hai2⟩
       | exact⟨_,rfl,0,0,⟨rfl,rfl,rfl,rfl,rfl,rfl,rfl,rfl,rfl,rfl,trivial⟩,hS.sel [true],hai2⟩
    ·
     rintro σ w⟨p,n,hs,hS,hai⟩;rw[← qk hs];have hpd:p < xs.length:=hai.dom;obtain⟨xp,hxp⟩:∃x,xs[((p:Nat):Int).toNat]? = some x:=⟨_,vC (by rw[Int.toNat_natCast]; omega)⟩
     have hxp_:=hxp;rw[Int.toNat_natCast]at hxp_;have hxpA:=(hx.mono hS.ext).at hxp;have hfd:=hai.found hok;have hen:=(hHA.cell _ _ hxp_).2.2;refine reg (qq hS (qb _) (qq hS (Qmi rfl) (qq hS (g_add rfl rfl (by omega) (by omega)) (qq hS (qb _) (qq hS (Qmi rfl) ?_)))));refine qq hS (g_ixI xC xT (hx.mono hS.ext) rfl rfl (by show(0:Int)≤(p:Nat); omega) (by show((p:Nat):Int) < _; omega)) ?_;refine qq hS (qw (c':=3) xH rfl vF rfl rfl rfl) (qq hS (qJ vV hxpA rfl rfl) (qq hS (Qmi rfl) (qq hS (qt (pl:=[(0,1),(1,1)]) (cs:=[.int .i64 _,.int .i64 _]) zeroValue128 underlying128 (fun w=>by simp[vF]) (mp (v:=.int .i64 _) rfl (mp (v:=.int .i64 _) rfl mp0)) rfl) (qq hS (g_ixR 0 Qi sizeOf128 rfl rfl rfl (by omega) (by omega)) ?_))));refine qe (jn 0 (c:=0) (i:=k+1) yx ⟨xp.en,n⟩ hS hFl.symm hF0 sizeOf128 rfl rfl rfl (vs:=[.int .i64 _,.int .i64 _]) rfl rfl rfl rfl rfl) ?_;clear hS;rintro _ w_2⟨rfl,hS⟩;refine qB (xO (vK (reg (qq hS (g_add rfl rfl (by omega) (by omega)) (qq hS (Qmi rfl) ?_)))));exact⟨⟨k+1,F.set (k+1) ⟨xp.en,n⟩,p,n⟩,_,rfl,⟨⟨rfl,rfl,rfl,rfl,rfl,rfl,rfl,rfl,trivial⟩,hS.sel [true],by dsimp only; omega,hai,by dsimp only; rw[vR]; exact hFl,by rw[hen]; exact hF.put hfd⟩,by dsimp only; omega⟩
  ·
   intro hc21
   try simp only[zA,zO,zN,zI,zF,zM,zT,zU]at hc21
   obtain rfl:k=b.length:=by omega
   refine xm (xh (xh (ua (vK (QwR (qq hS (qb _) (qq hS (qc _) (QoN (vM (ret1 results59 (qh rfl) ?_))))))))));obtain⟨I9,hS9,hs9,h9⟩:=St.freezeRow (E:=128) (xs:=F) yx (hS.sel [true]) hFl.symm;exact⟨I9,_,_,F,rfl,hS9,h9,hFl,hF⟩
end Go.Proofs.YtgkgihnpjgbmhaaGreatDoor
