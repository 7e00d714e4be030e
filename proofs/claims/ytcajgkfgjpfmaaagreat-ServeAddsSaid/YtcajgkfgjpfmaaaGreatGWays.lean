/- Package graph: fields, Fits, find, ways, Path, Reach: what they compute. Conditions: a valid graph. -/
import Derived.Test.YtcajgkfgjpfmaaaGreatGCmp
import Derived.Test.YtcajgkfgjpfmaaaGreatSl3
import Derived.Test.YtcajgkfgjpfmaaaGreatSrvD
set_option linter.unusedSimpArgs false
set_option linter.unusedVariables false
namespace Go.Proofs.YtcajgkfgjpfmaaaGreat
open Tryz
open Go Go.RowKit Go.Inl
def needL (n:NeedL):List Int:=[n.s,n.u,n.r,n.e,n.o]
structure GrB (g : GrL) : Prop extends GrOk g where
 nv:g.vs.length≤16
 nl:g.ls.length≤64
 cb:∀k∈g.ls,k.c≤1000000
theorem xe {n m:NeedL}:fitN n m=true↔∀i:Nat,i < 5→(needL n).getD i 0≤(needL m).getD i 0:=by
 unfold fitN needL;simp only[xU,xO];constructor
 · rintro ⟨h0, h1, h2, h3, h4⟩ i hi
   rcases(show i=0∨i=1∨i=2∨i=3∨i=4 by omega) with rfl | rfl | rfl | rfl | rfl <;> assumption
 · intro h
   exact⟨h 0 (by omega),h 1 (by omega),h 2 (by omega),h 3 (by omega),h 4 (by omega)⟩
def posI (l:List Int)(n:Int):Nat:=l.findIdx fun x=>decide (n≤x)
structure SrtP (l : List Int) (n : Int) (i : Nat) : Prop where
 le:i≤l.length
 low:∀j x,l[j]? = some x→(x < n↔j < i)
theorem posI_le (l:List Int)(n:Int):posI l n≤l.length:=List.findIdx_le_length
theorem posI_srt {l:List Int}(h:l.Pairwise (· < ·))(n:Int):SrtP l n (posI l n):=by
 refine⟨posI_le l n,fun j x hj=>?_⟩;have hp:=List.pairwise_iff_getElem.1 h;obtain⟨h1,h2⟩:=uc.1 hj;constructor
 · intro hx
   rcases Nat.lt_or_ge j (posI l n) with g | g
   · exact g
   · have hlt : posI l n < l.length := by omega
     have h3:=List.findIdx_getElem (xs:=l) (p:=fun x=>decide (n≤x)) (w:=hlt);simp only[xO]at h3;have h4:l[posI l n]≤l[j]:=by
      rcases Nat.lt_or_eq_of_le g with g | g
      · exact Int.le_of_lt (hp _ _ hlt h1 g)
      · subst g; exact Int.le_refl _
     have h5:n≤l[posI l n]:=h3;omega
 · intro hji
   have h3:¬n≤l[j]:=by
    have:=List.not_of_lt_findIdx (xs:=l) (p:=fun x=>decide (n≤x)) (i:=j) hji;simpa using this
   omega
theorem posI_at {l:List Int}(h:l.Pairwise (· < ·)){n:Int}(hn:n∈l):l[posI l n]? = some n:=by
 obtain⟨i,hi⟩:=Qm.1 hn;have hs:=posI_srt h n;have h1:=hs.low i n hi;have h2:¬i < posI l n:=fun g=>Int.lt_irrefl _ (h1.2 g)
 have hil:=(uc.1 hi).1;have hpl:posI l n < l.length:=by omega
 have h3:=hs.low (posI l n) _ (xW hpl);have h4:¬l[posI l n] < n:=fun g=>Nat.lt_irrefl _ (h3.1 g)
 have hp:=List.pairwise_iff_getElem.1 h;rcases Nat.lt_or_eq_of_le (Nat.not_lt.1 h2) with g | g
 · have := hp _ _ hpl hil g
   rw[(uc.1 hi).2]at this;omega
 · rw[g]; exact hi
theorem posI_vIx {g:GrL}(hg:GrOk g){v:Int}(h:v∈g.vs):posI g.vs v=vIx g v:=(kR hg (posI_at hg.inc h)).symm
structure RWD (I : Imm) (css : List (List Value)) (D : List WayL) (kn : List Bool) : Prop where
 len:css.length=D.length
 klen:kn.length=D.length
 at_:∀j cs,css[j]? = some cs→∃a c,cs=[.slice a (lab D j).l.length c,.int .i64 (lab D j).c,.bool (lab D j).is,.bool (knB kn j)]∧RFl I 1 intC (.slice a (lab D j).l.length c) (lab D j).l
theorem RWD.mono {I J:Imm}{css:List (List Value)}{D:List WayL}{kn:List Bool}(h:RWD I css D kn)(hs:Inl.Sub I J):RWD J css D kn :=
 ⟨h.len,h.klen,fun j cs hj=>by obtain⟨a,c,h1,h2⟩:=h.at_ j cs hj; exact⟨a,c,h1,h2.mono hs⟩⟩
theorem RWD.cl {I:Imm}{css:List (List Value)}{D:List WayL}{kn:List Bool}(h:RWD I css D kn):∀cs∈css,cs.length=4:=fun cs hcs=>by
 obtain⟨j,hj⟩:=Qm.1 hcs;obtain⟨a,c,rfl,_⟩:=h.at_ j cs hj; rfl
theorem RWD.get {I:Imm}{css:List (List Value)}{D:List WayL}{kn:List Bool}(h:RWD I css D kn){j:Nat}(hj:j < D.length):∃a c,css[j]? = some [.slice a (lab D j).l.length c,.int .i64 (lab D j).c,.bool (lab D j).is,.bool (knB kn j)]∧RFl I 1 intC (.slice a (lab D j).l.length c) (lab D j).l:=by
 obtain⟨cs,hcs⟩:∃cs,css[j]? = some cs:=⟨_,xW (by rw[h.len]; exact hj)⟩
 obtain⟨a,c,rfl,h2⟩:=h.at_ j cs hcs;exact⟨a,c,hcs,h2⟩
theorem RWD.setKn {I:Imm}{css:List (List Value)}{D:List WayL}{kn:List Bool}(h:RWD I css D kn){j:Nat}{cs:List Value}(hj:css[j]? = some cs):RWD I (css.set j (cs.set 3 (.bool true))) D (kn.set j true):=by
 have hjl:=(uc.1 hj).1;have hjk:j < kn.length:=by rw[h.klen,← h.len]; exact hjl
 refine⟨by rw[QU]; exact h.len,by rw[QU]; exact h.klen,fun i ci hi=>?_⟩;rw[List.getElem?_set]at hi;by_cases e:j=i
 · subst e
   rw[ui rfl,ui hjl]at hi;obtain⟨a,c,rfl,h2⟩:=h.at_ j cs hj;refine⟨a,c,?_,h2⟩;rw[knB_set hjk,ui rfl];exact(Option.some.inj hi).symm
 · rw [ud e] at hi
   obtain⟨a,c,h1,h2⟩:=h.at_ i ci hi;refine⟨a,c,?_,h2⟩;rw[knB_set hjk,ud e]; exact h1
theorem RWD.setW {I:Imm}{css:List (List Value)}{D:List WayL}{kn:List Bool}(h:RWD I css D kn){j:Nat}(hj:j < D.length)(hk:knB kn j=false){w:WayL}{a:Option Addr}{c:Nat}(hw:RFl I 1 intC (.slice a w.l.length c) w.l):RWD I (css.set j [.slice a w.l.length c,.int .i64 w.c,.bool w.is,.bool false]) (D.set j w) kn:=by
 have hjl:j < css.length:=by rw[h.len]; exact hj
 refine⟨by rw[QU,QU]; exact h.len,by rw[QU]; exact h.klen,fun i ci hi=>?_⟩;rw[List.getElem?_set]at hi;rw[ky hj];by_cases e:j=i
 · subst e
   rw[ui rfl,ui hjl]at hi;rw[ui rfl,hk];exact⟨a,c,(Option.some.inj hi).symm,hw⟩
 · rw [ud e] at hi ⊢
   exact h.at_ i ci hi
def zWay:List Value:=[.slice none 0 0,.int .i64 0,.bool false,.bool false]
theorem knB_rep (n j:Nat):knB (List.replicate n false) j=false:=by
 unfold knB;rw[uh,List.getElem?_replicate];split <;> rfl
theorem rwd_zero (I:Imm)(n:Nat):RWD I (List.replicate n zWay) (zeroD n) (List.replicate n false):=by
 refine⟨by simp[zeroD],by simp[zeroD],fun j cs hj=>?_⟩;rw[yc,knB_rep];have h:=uf hj;rw[List.mem_replicate]at h;exact⟨none,0,h.2,RFl.nil⟩
theorem rwd_start {I:Imm}{g:GrL}{s:Int}(hs:s∈g.vs){cs:List Value}(hc:(List.replicate g.vs.length zWay)[vIx g s]? = some cs):RWD I ((List.replicate g.vs.length zWay).set (vIx g s) (cs.set 2 (.bool true))) (startL g s) (List.replicate g.vs.length false):=by
 have hcs:cs=zWay:=by
  have h:=uf hc;rw[List.mem_replicate]at h; exact h.2
 subst hcs;have h:=(rwd_zero I g.vs.length).setW (j:=vIx g s) (w:=WayL.src) (a:=none) (c:=0) (by rw[zc]; exact jt hs) (knB_rep _ _) RFl.nil;unfold startL;rw[ui hs];exact h
theorem RWD.ways {I:Imm}{css:List (List Value)}{D:List WayL}{kn:List Bool}(h:RWD I css D kn):All2 (RWay I) css D:=by
 refine⟨h.len,fun j cs d h1 h2=>?_⟩;obtain⟨a,c,e,h3⟩:=h.at_ j cs h1;have hd:lab D j=d:=by unfold lab; rw[uh,h2]; rfl
 rw[hd]at e h3;exact⟨a,c,_,e,h3⟩
theorem flatC_len {css:List (List Value)}{sz:Nat}(h:∀c∈css,c.length=sz):css.flatten.length=css.length*sz:=by
 induction css with
 | nil=>simp
 | cons c l ih=>rw[List.flatten_cons,ug,h c (List.mem_cons_self ..),ih (fun c hc=>h c (List.mem_cons_of_mem _ hc)),uP,Nat.add_mul]; omega
def opn (D:List WayL)(kn:List Bool)(k:Nat):List Nat:=(List.range k).filter fun j=>(lab D j).is && !knB kn j
theorem opn_succ (D:List WayL)(kn:List Bool)(k:Nat):opn D kn (k+1)=if ((lab D k).is && !knB kn k)=true then opn D kn k++[k] else opn D kn k:=by
 unfold opn;rw[List.range_succ,List.filter_append];rw[List.filter_cons];cases h:((lab D k).is && !knB kn k)
 · simp
 · simp
theorem opn_all (D:List WayL)(kn:List Bool):opn D kn D.length=openL D kn:=rfl
theorem opn_len (D:List WayL)(kn:List Bool)(k:Nat):(opn D kn k).length≤k:=by
 have:=List.length_filter_le (fun j=>(lab D j).is && !knB kn j) (List.range k);rwa [List.length_range]at this
structure BdW (D : List WayL) (r : Nat) : Prop where
 at_:∀j,(lab D j).l.length≤r∧0≤(lab D j).c∧(lab D j).c≤(r:Int)*1000000
theorem BdW.up {D:List WayL}{r:Nat}(h:BdW D r):BdW D (r+1):=⟨fun j=>by have:=h.at_ j; refine⟨by omega,by omega,?_⟩; omega⟩
theorem relUp_len {g:GrL}(hg:GrOk g){m:NeedL}{j:Nat}{w:WayL}{kn:List Bool}{D:List WayL}(hD:D.length=g.vs.length)(i:Nat):(relUp g m j w kn D i).length=g.vs.length:=(rel_ok hg hD i).len.trans hD
theorem relUp_bd {g : GrL} (hg : GrB g) {m : NeedL} {j : Nat} {w : WayL} {kn : List Bool} {D : List WayL} {r : Nat} (hD : D.length = g.vs.length) (h : BdW D r) (hw : w.l.length ≤ r ∧ 0 ≤ w.c ∧ w.c ≤ (r : Int) * 1000000) : ∀ i, BdW (relUp g m j w kn D i) (r + 1)
 | 0=>h.up
 | i+1=>by
   have ih:=relUp_bd hg (m:=m) (j:=j) (kn:=kn) hD h hw i;show BdW (match g.ls[i]? with | some k=>relD g m j w kn (relUp g m j w kn D i) i k | none=>relUp g m j w kn D i) _
   cases hk:g.ls[i]? with
   | none=>exact ih
   | some k =>
     have hkm:=uf hk;have hc1:=hg.cost k hkm;have hc2:=hg.cb k hkm;show BdW (relD g m j w kn (relUp g m j w kn D i) i k) _
     unfold relD;split
     · split
       · refine ⟨fun x => ?_⟩
         rw[ky (by rw[relUp_len hg.toGrOk hD]; exact jt (hg.ends k hkm).2)];split
         · refine ⟨?_, ?_, ?_⟩
           · show(w.l++[(i:Int)]).length≤_; rw[ug]; show w.l.length+1≤_; omega
           · show 0≤w.c+k.c; omega
           · show w.c+k.c≤_; omega
         · exact ih.at_ x
       · exact ih
     · exact ih
theorem vJ (g:GrL)(s:Int):BdW (startL g s) 0:=⟨fun j=>by rw[zj]; split <;> simp[WayL.src,WayL.zero]⟩
theorem BdW.mono {D:List WayL}{r r':Nat}(h:BdW D r)(hr:r≤r'):BdW D r':=⟨fun j=>by
 have:=h.at_ j;refine⟨by omega,by omega,by omega⟩⟩
theorem two_le {a:List Int}{b:Int}(h:a.length≤65536):∀x∈[a,[b]],x.length≤65536:=by
 intro x hx;rcases uq.1 hx with rfl | hx
 · exact h
 · rcases uq.1 hx with rfl | hx
   · show 1≤65536; decide
   · cases hx
theorem rway_cl {I:Imm}{css:List (List Value)}{l:List WayL}(h:All2 (RWay I) css l):∀c∈css,c.length=4:=fun c hc=>by
 obtain⟨j,hj⟩:=Qm.1 hc;have hjl:=(uc.1 hj).1;obtain⟨a,n,b,rfl,_⟩:=h.2 j c _ hj (xW (by rw[← h.1]; exact hjl));rfl
def natC (j:Nat):List Value:=[.int .i64 (j:Int)]
theorem natC_len (j:Nat):(natC j).length=1:=rfl
structure OutW where
 r:Nat
 D:List WayL
 kn:List Bool
 css:List (List Value)
structure OpW where
 k:Nat
 a:Option Addr
 c:Nat
 a2:Option Addr
 c2:Nat
 css:List (List Value)
structure LkW where
 i:Nat
 css:List (List Value)
theorem relUp_succ {g:GrL}{m:NeedL}{j:Nat}{w:WayL}{kn:List Bool}{D:List WayL}{i:Nat}{k:LnkL}(h:g.ls[i]? = some k):relUp g m j w kn D (i+1)=relD g m j w kn (relUp g m j w kn D i) i k:=by
 show(match g.ls[i]? with | some k=>relD g m j w kn (relUp g m j w kn D i) i k | none=>relUp g m j w kn D i)=_
 rw[h]
theorem fill5 (z0 z1 z2 z3 z4:Value)(a0 a1 a2 a3 a4:Int):Instr.fill (fun i=>some (i*1,1)) #[z0,z1,z2,z3,z4] [(0,.int .i64 a0),(1,.int .i64 a1),(2,.int .i64 a2),(3,.int .i64 a3),(4,.int .i64 a4)]=some #[.int .i64 a0,.int .i64 a1,.int .i64 a2,.int .i64 a3,.int .i64 a4]:=by
 simp[Instr.fill,Value.cells,List.zipIdx]
theorem fields_c (n:NeedL)(w0:World)(I0:Imm)(hI:Sat I0 w0):Ctr prog 149 [.agg #[.int .i64 n.s,.int .i64 n.u,.int .i64 n.r,.int .i64 n.e,.int .i64 n.o]] w0 (fun v w'=>v = .agg #[.int .i64 n.s,.int .i64 n.u,.int .i64 n.r,.int .i64 n.e,.int .i64 n.o]∧Ext w0 I0 w' I0):=by
 refine fn (n:=14) func149 rfl rfl rfl ?_;have hS:=St.start hI;refine QwR (qe (d_box (cs:=[.int .i64 _,.int .i64 _,.int .i64 _,.int .i64 _,.int .i64 _]) hS rfl) ?_);clear hS;rintro _ w_1⟨b1,rfl,hS⟩;refine qe (qw (cs:=[.int .i64 _,.int .i64 _,.int .i64 _,.int .i64 _,.int .i64 _]) hS Jl rfl) ?_;clear hS;rintro _ w_2⟨b2,rfl,hS⟩;refine QoR (qq hS (qb (o':=0) QL rfl xX rfl rfl rfl) (qq hS (qi 1 uj rfl rfl rfl) (qq hS (qb (o':=1) QL rfl xX rfl rfl rfl) (qq hS (qi 1 uj rfl rfl rfl) (qq hS (qb (o':=2) QL rfl xX rfl rfl rfl) (qq hS (qi 1 uj rfl rfl rfl) (qq hS (qb (o':=3) QL rfl xX rfl rfl rfl) (qq hS (qi 1 uj rfl rfl rfl) ?_))))))));refine qq hS (qb (o':=4) QL rfl xX rfl rfl rfl) (qq hS (qi 1 uj rfl rfl rfl) (qq hS (jm (cs:=[.int .i64 n.s,.int .i64 n.u,.int .i64 n.r,.int .i64 n.e,.int .i64 n.o]) Jl Kj xX rfl (fill5 _ _ _ _ _ _ _ _ _ _)) (qe (qj 0 hS Jq rfl rfl rfl (vs:=[.int .i64 _,.int .i64 _,.int .i64 _,.int .i64 _,.int .i64 _]) rfl rfl rfl (xP rfl) (cs':=[_,_,_,_,_]) rfl) ?_)));clear hS;rintro _ w_3⟨rfl,hS⟩;refine QoN (ub (ret1 results149 (qD 0 hS Jq isAgg145 rfl rfl rfl) ?_));exact⟨rfl,hS.nil⟩
set_option maxHeartbeats 1000000 in
theorem fits_c29 (n m:NeedL)(w0:World)(I0:Imm)(hI:Sat I0 w0):Ctr prog 124 [.agg #[.int .i64 n.s,.int .i64 n.u,.int .i64 n.r,.int .i64 n.e,.int .i64 n.o],.agg #[.int .i64 m.s,.int .i64 m.u,.int .i64 m.r,.int .i64 m.e,.int .i64 m.o]] w0 (fun v w'=>v = .bool (fitN n m)∧Ext w0 I0 w' I0):=by
 refine fn (n:=22) func124 rfl rfl rfl ?_;have hS:=St.start hI;refine QwR (qe (d_box (cs:=[.int .i64 _,.int .i64 _,.int .i64 _,.int .i64 _,.int .i64 _]) hS rfl) ?_);clear hS;rintro _ w_1⟨b2,rfl,hS⟩;refine qe (d_box (cs:=[.int .i64 _,.int .i64 _,.int .i64 _,.int .i64 _,.int .i64 _]) hS rfl) ?_;clear hS;rintro _ w_2⟨b3,rfl,hS⟩;refine qq hS (Qab rfl) (QoR (qq hS (g_ldO 0 (vs:=[.int .i64 _,.int .i64 _,.int .i64 _,.int .i64 _,.int .i64 _]) Qe QO rfl rfl rfl rfl) (qe (ql call149 rfl (fields_c m _ I0 hS.imm)) ?_)));rintro _ w_3⟨rfl,hE⟩;replace hS:=hS.callE hE;refine qe (qw (cs:=[.int .i64 _,.int .i64 _,.int .i64 _,.int .i64 _,.int .i64 _]) hS Jl rfl) ?_;clear hS;rintro _ w_4⟨b5,rfl,hS⟩;refine qe (qj 0 hS Jq rfl rfl rfl (vs:=[.int .i64 _,.int .i64 _,.int .i64 _,.int .i64 _,.int .i64 _]) rfl rfl rfl (xP rfl) (cs':=[_,_,_,_,_]) rfl) ?_;clear hS;rintro _ w_5⟨rfl,hS⟩;refine QoN (xL (QwR (qq hS (g_ldO 2 (vs:=[.int .i64 _,.int .i64 _,.int .i64 _,.int .i64 _,.int .i64 _]) Qe QO rfl rfl rfl rfl) (qe (ql call149 rfl (fields_c n _ I0 hS.imm)) ?_))));rintro _ w_6⟨rfl,hE⟩;replace hS:=hS.callE hE;refine qq hS (Qmi rfl) (QoN (uk (loop (fun(k:Nat) σ w=>okS σ [(5,.pointer (some ⟨b5,0,none⟩)),(11,.agg #[.int .i64 n.s,.int .i64 n.u,.int .i64 n.r,.int .i64 n.e,.int .i64 n.o]),(12,.int .i64 k)]∧St [] w0 I0 I0 w [.cel b5 145 [.int .i64 m.s,.int .i64 m.u,.int .i64 m.r,.int .i64 m.e,.int .i64 m.o]]∧k≤5∧∀i,i < k→(needL n).getD i 0≤(needL m).getD i 0) (fun k=>5 - k) (0) ?_ ?_)))
 ·
  exact⟨⟨rfl,rfl,rfl,trivial⟩,hS.sel [true,false,false],by omega,fun i hi=>by omega⟩
 ·
  rintro k σ w_l⟨hs,hS,hk,hall⟩;rw[← qx hs]; clear hs
  refine QwR (qq hS (g_lss rfl rfl) (QoN (xL (qo rfl ?_ ?_))))
  ·
   intro hc13
   try simp only[zA,zO,zN,zI,zF,zM,zT,zU]at hc13
   have hnk:([.int .i64 n.s,.int .i64 n.u,.int .i64 n.r,.int .i64 n.e,.int .i64 n.o]:List Value)[((k:Int)).toNat]? = some (.int .i64 ((needL n).getD k 0)):=by
    rcases(show k=0∨k=1∨k=2∨k=3∨k=4 by omega) with rfl | rfl | rfl | rfl | rfl <;> rfl
   have hmk:([.int .i64 m.s,.int .i64 m.u,.int .i64 m.r,.int .i64 m.e,.int .i64 m.o]:List Value)[k]? = some (.int .i64 ((needL m).getD k 0)):=by
    rcases(show k=0∨k=1∨k=2∨k=3∨k=4 by omega) with rfl | rfl | rfl | rfl | rfl <;> rfl
   refine xZ (xN (xL (uk (QwR (qq hS (Qmi rfl) (qq hS (jM (i:=(k:Int)) Kj xX uj rfl rfl (by omega) (by omega) hnk) (qq hS (Qai rfl) (qq hS (Qai rfl) (QoR (qq hS (Qmi rfl) (qq hS (Qmi rfl) (qq hS (qA (o':=k) Kj xX rfl rfl (by omega) (by omega) (by omega)) (qq hS (qi 0 uj rfl rfl hmk) (qq hS (g_gtr rfl rfl) ?_))))))))))))));refine QoN (qo rfl ?_ ?_)
   ·
    intro hc20
    try simp only[zA,zO,zN,zI,zF,zM,zT,zU]at hc20
    have e:fitN n m=false:=by
     cases h:fitN n m with
     | false=>rfl
     | true=>have:=xe.1 h k (by omega); omega
    refine QwR (qq hS (Qab rfl) (QoN (ub (Qs (uw (uw (Qs (uw (ret1 results124 (qr (v:=.bool _) rfl) ?_)))))))));exact⟨by rw[e] <;> rfl,hS.nil⟩
   ·
    intro hc20
    try simp only[zA,zO,zN,zI,zF,zM,zT,zU]at hc20
    have hnx:∀i,i < k+1→(needL n).getD i 0≤(needL m).getD i 0:=fun i hi=>by
     rcases Qk.1 hi with h | h
     · exact hall i h
     · subst h; omega
    refine xZ (Qh (xN (reg (qq hS (g_add rfl rfl (by omega) (by omega)) (qq hS (Qmi rfl) ?_)))));exact⟨k+1,_,rfl,⟨⟨rfl,rfl,rfl,trivial⟩,hS.sel [true],by omega,hnx⟩,by omega⟩
  ·
   intro hc13
   try simp only[zA,zO,zN,zI,zF,zM,zT,zU]at hc13
   have e:fitN n m=true:=xe.2 (fun i hi=>hall i (by omega));refine uD (uA (uA (Qw (xN (QwR (qq hS (Qab rfl) (QoN (ub (ret1 results124 (qr (v:=.bool _) rfl) ?_)))))))));exact⟨by rw[e] <;> rfl,hS.nil⟩
set_option maxHeartbeats 1000000 in
theorem bsearchP_c (ad : Option Addr) (cap i : Nat) (n : Int) (l : List Int) (w0 : World) (I0 : Imm) (hI : Sat I0 w0) (hl : RFl I0 1 intC (.slice ad l.length cap) l) (hs : SrtP l n i) (hsort : l.Pairwise (· < ·)) (hbig : l.length ≤ 4611686018427387903) :
 Ctr prog 80 [.slice ad l.length cap,.int .i64 n] w0 (fun v w'=>v = .tuple #[.int .i64 i,.bool (decide (n∈l))]∧Ext w0 I0 w' I0):=by
 have hle:=RSl.le hl;simp only[maxLen]at hle;have hil:=hs.le;have hbd:l.length≤4611686018427387903:=hbig;refine fn (n:=54) func80 rfl rfl rfl ?_;have hS:=St.start hI;refine QwR (qq hS (Qai rfl) (qq hS (Qab rfl) (QoR (qq hS (qk _) (qq hS (qz rfl ua hl rfl) (qq hS (Qai rfl) (QoR (qq hS (Qmi rfl) (qq hS (Qai rfl) (qq hS (Qai rfl) (QoN (xL (uk (loop (fun(x:BsW) σ w=>okS σ [(0,.slice ad l.length cap),(1,.int .i64 n),(6,.int .i64 l.length),(7,.int .i64 x.lo),(8,.int .i64 x.hi)]∧St [] w0 I0 I0 w []∧x.lo≤i∧i≤x.hi∧x.hi≤l.length) (fun x=>x.hi - x.lo) (⟨0,l.length⟩) ?_ ?_))))))))))))))
 ·
  exact⟨⟨rfl,rfl,rfl,rfl,rfl,trivial⟩,hS.sel [],by dsimp only; omega,by dsimp only; omega,by dsimp only; omega⟩
 ·
  rintro⟨lo,hi⟩σ w_l⟨hs,hS,h1,h2,h3⟩;dsimp only at hs hS h1 h2 h3 ⊢;rw[← qx hs]; clear hs
  refine xL (QwR (qq hS (Qmi rfl) (qq hS (Qmi rfl) (qq hS (g_lss rfl rfl) (QoN (qo rfl ?_ ?_))))))
  ·
   intro hc15
   try simp only[zA,zO,zN,zI,zF,zM,zT,zU]at hc15
   obtain⟨x,hxi⟩:∃x,l[(lo+hi) / 2]? = some x:=⟨_,xW (by omega)⟩
   have hxA:=hl.at hxi;have hlow:=hs.low _ _ hxi;refine xZ (xN (uk (QwR (qq hS (Qmi rfl) (qq hS (Qmi rfl) (qq hS (g_add rfl rfl (by omega) (by omega)) ?_))))));refine qq hS (ju (c:=(lo:Int)+hi) Qg KR rfl (by rw[IntKind.wrap_u64]; omega)) ?_;refine qq hS (xC (s:=1) (c:=((lo:Int)+hi) / 2) rfl rfl rfl rfl rfl) ?_;refine qq hS (ju (c:=(((lo+hi) / 2:Nat):Int)) KR Qg rfl (by rw[IntKind.wrap_i64]; omega)) ?_;refine qq hS (Qai rfl) (QoR (qq hS (qk _) (qq hS (Qmi rfl) (qq hS (g_ixI ua xX hl rfl rfl (by omega) (by omega)) (qq hS (qC uj hxA rfl rfl) (qq hS (Qmi rfl) (qe (ql call116 rfl (cless_c x n _ I0 hS.imm)) ?_)))))));rintro _ w_1⟨rfl,hE⟩;replace hS:=hS.callE hE;refine QoN (qo rfl ?_ ?_)
   ·
    intro hc27
    try simp only[zA,zO,zN,zI,zF,zM,zT,zU]at hc27
    have hb1:(lo+hi) / 2 < i:=hlow.1 hc27;refine reg (qq hS (Qmi rfl) (qq hS (g_add rfl rfl (by omega) (by omega)) (qq hS (Qai rfl) ?_)))
    first
     | exact⟨⟨(lo+hi) / 2+1,hi⟩,_,rfl,⟨⟨rfl,rfl,rfl,rfl,rfl,trivial⟩,hS.sel [],by dsimp only; omega,by dsimp only; omega,by dsimp only; omega⟩,by dsimp only; omega⟩
     | exact⟨⟨lo,(lo+hi) / 2⟩,_,rfl,⟨⟨rfl,rfl,rfl,rfl,rfl,trivial⟩,hS.sel [],by dsimp only; omega,by dsimp only; omega,by dsimp only; omega⟩,by dsimp only; omega⟩
   ·
    intro hc27
    try simp only[zA,zO,zN,zI,zF,zM,zT,zU]at hc27
    have hb1:¬(lo+hi) / 2 < i:=fun h=>hc27 (hlow.2 h)
    refine reg (qq hS (Qmi rfl) (qq hS (Qai rfl) ?_))
    first
     | exact⟨⟨(lo+hi) / 2+1,hi⟩,_,rfl,⟨⟨rfl,rfl,rfl,rfl,rfl,trivial⟩,hS.sel [],by dsimp only; omega,by dsimp only; omega,by dsimp only; omega⟩,by dsimp only; omega⟩
     | exact⟨⟨lo,(lo+hi) / 2⟩,_,rfl,⟨⟨rfl,rfl,rfl,rfl,rfl,trivial⟩,hS.sel [],by dsimp only; omega,by dsimp only; omega,by dsimp only; omega⟩,by dsimp only; omega⟩
  ·
   intro hc15
   try simp only[zA,zO,zN,zI,zF,zM,zT,zU]at hc15
   have hlo:lo=i:=by omega
   subst hlo;refine uD (uA (uA (Qw (xN (xL ?_)))));refine(show lo=l.length∨(lo < l.length∧∃z,l[lo]? = some z∧z=n)∨(lo < l.length∧∃z,l[lo]? = some z∧z≠n) by
    rcases(show lo=l.length∨lo < l.length by omega) with h | h
    · exact .inl h
    · by_cases g : l[lo] = n
      · exact .inr (.inl ⟨h,_,xW h,g⟩)
      · exact .inr (.inr ⟨h,_,xW h,g⟩)).elim (fun hcs=>?_) (fun h=>h.elim (fun hcs=>?_) (fun hcs=>?_))
   ·
    have hno:decide (n∈l)=false:=uY fun h=>by
     obtain⟨j,hj⟩:=Qm.1 h;have h1:=(uc.1 hj).1;have:=(hs.low j n hj).2 (by omega);omega
    refine reg (qq hS (Qmi rfl) (qq hS (Qmi rfl) (qq hS (Qmi rfl) (qq hS (g_toX (g_lss rfl rfl) (congrArg Value.bool (uY (by omega)))) (qq hS (Qmb rfl) (qsf rfl rfl rfl (qsf rfl rfl rfl (qsf rfl rfl rfl (qsf rfl rfl rfl (qsf rfl rfl rfl (qsf rfl rfl rfl (qsf rfl rfl rfl (qsu rfl rfl (qsu rfl rfl ?_))))))))))))));refine qsu rfl rfl (qsu rfl rfl (qsu rfl rfl (qsu rfl rfl (qsu rfl rfl (qsu rfl rfl (qsu rfl rfl (qsf rfl rfl rfl (qq hS (g_and (b:=false) rfl rfl (fun h=>(by cases h))) (qq hS (Qai rfl) (qq hS (Qab rfl) (QoN (ub (ret2 results80 (qr (v:=.int .i64 _) rfl) (qr (v:=.bool _) rfl) ?_)))))))))))));exact⟨by rw[hno] <;> rfl,hS.nil⟩
   ·
    obtain⟨hcs,z,hzi,rfl⟩:=hcs;have hzA:=hl.at hzi;have hno:decide (z∈l)=true:=uK (uf hzi);refine reg (qq hS (Qmi rfl) (qq hS (Qmi rfl) (qq hS (Qmi rfl) (qq hS (g_toX (g_lss rfl rfl) (congrArg Value.bool (uK (by omega)))) (qq hS (Qmb rfl) (qqs rfl rfl hS (qk _) (qqs rfl rfl hS (Qmi rfl) (qqs rfl rfl hS (g_ixI ua xX hl rfl rfl (by omega) (by omega)) (qqs rfl rfl hS (qC uj hzA rfl rfl) ?_)))))))));refine qqs rfl rfl hS (Qmi rfl) (qqs rfl rfl hS (g_toX (g_eql rfl rfl) (congrArg Value.bool (uK rfl))) (qqs rfl rfl hS (Qmb rfl) (qsf rfl rfl rfl (qsf rfl rfl rfl (qsf rfl rfl rfl (qsf rfl rfl rfl (qsf rfl rfl rfl (qsf rfl rfl rfl (qsu rfl rfl (qsu rfl rfl (qsf rfl rfl rfl (qqs rfl rfl hS (g_or (b:=true) rfl rfl (fun h=>(by cases h))) ?_))))))))))));refine qq hS (g_and (b:=true) rfl rfl (fun _=>rfl)) (qq hS (Qai rfl) (qq hS (Qab rfl) (QoN (ub (ret2 results80 (qr (v:=.int .i64 _) rfl) (qr (v:=.bool _) rfl) ?_)))));exact⟨by rw[hno] <;> rfl,hS.nil⟩
   ·
    obtain⟨hcs,z,hzi,hzn⟩:=hcs;have hzA:=hl.at hzi;have hno:decide (n∈l)=false:=uY fun h=>by
     obtain⟨j,hj⟩:=Qm.1 h;have h1:=hs.low j n hj;have h2:¬j < lo:=fun g=>Int.lt_irrefl _ (h1.2 g)
     have h3:=hs.low lo z hzi;have h4:¬z < n:=fun g=>Nat.lt_irrefl _ (h3.1 g)
     have hp:=hsort;have hj2:=(uc.1 hj)
     have hz2:=(uc.1 hzi)
     rcases Nat.lt_or_eq_of_le (Nat.not_lt.1 h2) with g | g
     · have := List.pairwise_iff_getElem.1 hp lo j hz2.1 hj2.1 g
       rw[hz2.2,hj2.2]at this;omega
     · subst g; rw[hzi]at hj; exact hzn (Option.some.inj hj)
    refine reg (qq hS (Qmi rfl) (qq hS (Qmi rfl) (qq hS (Qmi rfl) (qq hS (g_toX (g_lss rfl rfl) (congrArg Value.bool (uK (by omega)))) (qq hS (Qmb rfl) (qqs rfl rfl hS (qk _) (qqs rfl rfl hS (Qmi rfl) (qqs rfl rfl hS (g_ixI ua xX hl rfl rfl (by omega) (by omega)) (qqs rfl rfl hS (qC uj hzA rfl rfl) ?_)))))))));refine qqs rfl rfl hS (Qmi rfl) (qqs rfl rfl hS (g_toX (g_eql rfl rfl) (congrArg Value.bool (uY hzn))) (qqs rfl rfl hS (Qmb rfl) (qqs rfl rfl hS (qk _) (qqs rfl rfl hS (Qmi rfl) (qqs rfl rfl hS (g_ixI ua xX hl rfl rfl (by omega) (by omega)) (qqs rfl rfl hS (qC uj hzA rfl rfl) (qes rfl rfl (ql call117 rfl (snan_c z _ I0 hS.imm)) ?_)))))));rintro _ w_2⟨rfl,hE⟩;replace hS:=hS.callE hE;refine qqs rfl rfl hS (Qmb rfl) (qsf rfl rfl rfl (qsf rfl rfl rfl (qqs rfl rfl hS (g_and (b:=false) rfl rfl (fun h=>(by cases h))) (qqs rfl rfl hS (g_or (b:=false) rfl rfl (fun _=>rfl)) (qq hS (g_and (b:=false) rfl rfl (fun _=>rfl)) (qq hS (Qai rfl) (qq hS (Qab rfl) (QoN (ub (ret2 results80 (qr (v:=.int .i64 _) rfl) (qr (v:=.bool _) rfl) ?_))))))))));exact⟨by rw[hno] <;> rfl,hS.nil⟩
theorem xb (g : GrL) (a0 a1 : Option Addr) (c0 c1 : Nat) (v : Int) (w0 : World) (I0 : Imm) (hI : Sat I0 w0) (hG : RGr I0 a0 c0 a1 c1 g) (hinc : g.vs.Pairwise (· < ·)) (hnv : g.vs.length ≤ 16) :
 Ctr prog 93 [.agg #[.slice a0 g.vs.length c0,.slice a1 g.ls.length c1],.int .i64 v] w0 (fun u w'=>u = .tuple #[.int .i64 (posI g.vs v:Nat),.bool (decide (v∈g.vs))]∧Ext w0 I0 w' I0):=by
 refine fn (n:=12) func93 rfl rfl rfl ?_;have hS:=St.start hI;refine QwR (qe (d_box (cs:=[.slice _ _ _,.slice _ _ _]) hS rfl) ?_);clear hS;rintro _ w_1⟨b2,rfl,hS⟩;refine qq hS (Qai rfl) (qq hS (Qab rfl) (QoR (qq hS (qb (o':=0) ut rfl uo rfl rfl rfl) (qq hS (qi 0 uF rfl rfl rfl) (qq hS (Qmi rfl) (qe (ql call80 rfl (bsearchP_c a0 c0 (posI g.vs v) v g.vs _ I0 hS.imm hG.vs (posI_srt hinc v) hinc (by omega))) ?_))))));rintro _ w_2⟨rfl,hE⟩;replace hS:=hS.callE hE;refine qq hS (Qxi rfl rfl) (qq hS (qt (v:=.bool _) rfl rfl) (qq hS (Qai rfl) (qq hS (Qab rfl) (QoN (ub (ret2 results93 (qr (v:=.int .i64 _) rfl) (qr (v:=.bool _) rfl) ?_))))));exact⟨rfl,hS.nil⟩
set_option maxHeartbeats 4000000 in
theorem ways_c (g : GrL) (a0 a1 : Option Addr) (c0 c1 : Nat) (s : Int) (m : NeedL) (w0 : World) (I0 : Imm) (hI : Sat I0 w0) (hG : RGr I0 a0 c0 a1 c1 g) (hg : GrB g) :
 Ctr prog 85 [.agg #[.slice a0 g.vs.length c0,.slice a1 g.ls.length c1],.int .i64 s,.agg #[.int .i64 m.s,.int .i64 m.u,.int .i64 m.r,.int .i64 m.e,.int .i64 m.o]] w0 (fun v w'=>∃I' a c,v = .slice a g.vs.length c∧Ext w0 I0 w' I'∧RWays I' (.slice a g.vs.length c) (waysP g s m)):=by
 have hnv:=hg.nv;have hnl:=hg.nl;refine fn (n:=144) func85 rfl rfl rfl ?_;have hS:=St.start hI;refine QwR (qe (d_box (cs:=[.slice _ _ _,.slice _ _ _]) hS rfl) ?_);clear hS;rintro _ w_1⟨b3,rfl,hS⟩;refine qe (d_box (cs:=[.int .i64 _,.int .i64 _,.int .i64 _,.int .i64 _,.int .i64 _]) hS rfl) ?_;clear hS;rintro _ w_2⟨b5,rfl,hS⟩;refine qq hS (qy _) (QoR (qq hS (qb (o':=0) ut rfl uo rfl rfl rfl) (qq hS (qi 1 uF rfl rfl rfl) (qq hS (qz rfl ua hG.vs rfl) (qe (d_makeC zWay rfl g.vs.length hS Jn info161 rfl rfl rfl rfl rfl (by omega) rfl) ?_)))));clear hS;rintro _ w_3⟨b24,rfl,hS⟩;replace hS:=hS.asRow (k:=0) (sz:=4) (m:=g.vs.length) rfl (by rw[flatC_len (sz:=4) (fun c hc=>(List.mem_replicate.1 hc).2▸rfl),QW]) (by unfold maxLen; omega);refine qq hS (qy _) (QoR (qq hS (g_ldO 2 (vs:=[.slice _ _ _,.slice _ _ _]) uv Je rfl rfl rfl rfl) (qq hS (Qmi rfl) (qe (ql call93 rfl (xb g a0 a1 c0 c1 s _ _ hS.imm hG hg.inc hnv)) ?_))));rintro _ w_4⟨rfl,hE⟩;replace hS:=hS.callE hE;refine qq hS (qk _) (qq hS (Qxi rfl rfl) (qq hS (qt (v:=.bool _) rfl rfl) (qq hS (Qai rfl) (qq hS (Qab rfl) (QoN (xL (QwR (qq hS (Qmb rfl) (qq hS (g_not rfl) (QoN (qo rfl ?_ ?_)))))))))))
 ·
  intro hc32
  try simp only[zA,zO,zN,zI,zF,zM,zT,zU]at hc32
  have hDw:zeroD g.vs.length=waysP g s m:=(ways_no hc32 m).symm;have hDl:=zc g.vs.length;have hR:=rwd_zero I0 g.vs.length;refine QwR (qq hS (qk _) (qq hS (qy _) (QoN (ub (uw (ret1 results85 (qr rfl) ?_))))));obtain⟨I1,hS1,hI1,hd1⟩:=St.freezeRowR (xs:=waysP g s m) (hS.sel [true,false,false]) (by rw[← hDw]; exact hDl.symm) hR.cl (by rw[← hDw]; exact hR.ways);exact⟨I1,_,_,rfl,hS1.nil,RSl.mono hd1 (Inl.Sub.refl _) (fun _ _ h=>h.mono hI1)⟩
 ·
  intro hc32
  try simp only[zA,zO,zN,zI,zF,zM,zT,zU]at hc32
  refine xZ (xN (xL ?_));obtain⟨z0,hz0⟩:∃z,(List.replicate g.vs.length zWay)[vIx g s]? = some z:=⟨_,xW (by rw[QW]; exact jt hc32)⟩
  rw[posI_vIx hg.toGrOk hc32];have hvs:=jt hc32;refine reg (qq hS (qk _) (qq hS (Qmi rfl) (qq hS (g_ixR 0 Jn QQ rfl rfl rfl (by omega) (by omega)) (qq hS (qF (c':=2) Jb rfl uC rfl rfl rfl) (qe (d_storeRowF 0 2 (fun c hc=>(List.mem_replicate.1 hc).2▸rfl) hS (by rw[QW]) hz0 uC rfl rfl rfl rfl rfl rfl) ?_)))));clear hS;rintro _ w_5⟨rfl,hS⟩;refine QoN (xL (QwR (qq hS (qk _) (qq hS (xE 0 rfl Jn rfl rfl) (qq hS (Qmi rfl) (QoN (uk (loop (fun(x:OutW) σ w=>okS σ [(3,.pointer (some ⟨b3,0,none⟩)),(5,.pointer (some ⟨b5,0,none⟩)),(7,.slice (some ⟨b24,0,none⟩) g.vs.length g.vs.length),(39,.int .i64 g.vs.length),(40,.int .i64 x.r)]∧∃I,St [] w0 I0 I w [.row (.slice (some ⟨b24,0,none⟩) g.vs.length g.vs.length) 161 4 g.vs.length x.css.flatten,.cel b5 41 [.int .i64 m.s,.int .i64 m.u,.int .i64 m.r,.int .i64 m.e,.int .i64 m.o],.cel b3 34 [.slice a0 g.vs.length c0,.slice a1 g.ls.length c1]]∧(x.r≤g.vs.length∧RWD I x.css x.D x.kn∧(∃ord,DInv g m s ⟨x.D,x.kn⟩ ord)∧BdW x.D x.r∧dijk g m (g.vs.length - x.r) ⟨x.D,x.kn⟩=dijk g m g.vs.length (startD g s))∧RGr I a0 c0 a1 c1 g) (fun x=>g.vs.length - x.r) (⟨0,startL g s,List.replicate g.vs.length false,(List.replicate g.vs.length zWay).set (vIx g s) (z0.set 2 (.bool true))⟩) ?_ ?_))))))))
  ·
   exact⟨⟨rfl,rfl,rfl,rfl,rfl,trivial⟩,_,hS.sel [true,true,true],⟨by dsimp only; omega,rwd_start hc32 hz0,⟨[],vO hg.toGrOk m hc32⟩,vJ g s,rfl⟩,hG⟩
  ·
   rintro⟨r,D,kn,css⟩σ w_l⟨hs,I,hS,⟨hr0,hR,⟨ord,hDI⟩,hbd,hdj⟩,hG⟩;dsimp only at hs hS hr0 hR hDI hbd hdj ⊢;rw[← qx hs]; clear hs
   have hDl:=hDI.lb.len;have hkl:=hDI.klen;dsimp only at hDl hkl;refine QwR (qq hS (g_lss rfl rfl) (QoN (xL (qo rfl ?_ ?_))))
   ·
    intro hc41
    try simp only[zA,zO,zN,zI,zF,zM,zT,zU]at hc41
    refine xZ (xN (xL (uk (QwR (qq hS (qy _) (QoR (qq hS (qy _) (QoN (xL (QwR (qq hS (qk _) (qq hS (xE 0 rfl Jn rfl rfl) (qq hS (Qmi rfl) (QoN (uk ?_)))))))))))))));replace hS:=(hS.nilRow 3 1).nilRow 161 4;refine loop (fun(x:OpW) σ w=>okS σ [(3,.pointer (some ⟨b3,0,none⟩)),(5,.pointer (some ⟨b5,0,none⟩)),(7,.slice (some ⟨b24,0,none⟩) g.vs.length g.vs.length),(39,.int .i64 g.vs.length),(40,.int .i64 r),(10,.slice x.a (opn D kn x.k).length x.c),(11,.slice x.a2 (opn D kn x.k).length x.c2),(42,.slice (some ⟨b24,0,none⟩) g.vs.length g.vs.length),(43,.int .i64 g.vs.length),(44,.int .i64 x.k)]∧St [] w0 I0 I w [.row (.slice x.a (opn D kn x.k).length x.c) 161 4 (opn D kn x.k).length x.css.flatten,.row (.slice x.a2 (opn D kn x.k).length x.c2) 3 1 (opn D kn x.k).length (flat natC (opn D kn x.k)),.row (.slice (some ⟨b24,0,none⟩) g.vs.length g.vs.length) 161 4 g.vs.length css.flatten,.cel b5 41 [.int .i64 m.s,.int .i64 m.u,.int .i64 m.r,.int .i64 m.e,.int .i64 m.o],.cel b3 34 [.slice a0 g.vs.length c0,.slice a1 g.ls.length c1]]∧x.k≤g.vs.length∧All2 (RWay I) x.css ((opn D kn x.k).map (lab D))) (fun x=>g.vs.length - x.k) (⟨0,none,0,none,0,[]⟩) ?_ ?_
    ·
     exact⟨⟨rfl,rfl,rfl,rfl,rfl,rfl,rfl,rfl,rfl,rfl,trivial⟩,hS,by dsimp only; omega,All2.nil _⟩
    ·
     rintro⟨k,a,c,a2,c2,cso⟩σ w_l⟨hs,hS,hk0,hA⟩;dsimp only at hs hS hk0 hA ⊢;rw[← qx hs]; clear hs
     have hol:=opn_len D kn k;refine QwR (qq hS (g_lss rfl rfl) (QoN (xL (qo rfl ?_ ?_))))
     ·
      intro hc45
      try simp only[zA,zO,zN,zI,zF,zM,zT,zU]at hc45
      obtain⟨ax,cx,hcx,hxl⟩:=hR.get (j:=k) (by omega);have hop:=opn_succ D kn k;refine xZ (xN (xL (uk (QwR (qq hS (Qmi rfl) (qq hS (g_ixR 2 Jn QQ rfl rfl rfl (by omega) (by omega)) (qq hS (vD 2 hR.cl hcx QQ JR rfl rfl) (qe (qw (cs:=[.slice _ _ _,.int .i64 _,.bool _,.bool _]) hS JD rfl) ?_))))))));clear hS;rintro _ w_6⟨b13,rfl,hS⟩;refine qq hS (Qai rfl) (qe (qj 0 hS QQ rfl rfl rfl (vs:=[.slice _ _ _,.int .i64 _,.bool _,.bool _]) rfl rfl rfl (xP rfl) (cs':=[_,_,_,_]) rfl) ?_);clear hS;rintro _ w_7⟨rfl,hS⟩;refine QoR (qq hS (qb (o':=2) Jb rfl uC rfl rfl rfl) (qq hS (qi 0 QG rfl rfl rfl) (qq hS (Qmb rfl) (qu rfl rfl hS (fun hg=>(qb (o':=3) Jb rfl uC rfl rfl rfl)) ?_))));intro u52 hu52 hn52;refine qu rfl rfl hS (fun hg=>(qi 0 QG rfl (hu52 hg) rfl)) ?_;intro u53 hu53 hn53;refine qu rfl rfl hS (fun hg=>(g_not (hu53 hg))) ?_;intro u54 hu54 hn54;refine qq hS (g_and rfl rfl (fun hq=>hu54 hq)) (QoN (qo rfl ?_ ?_))
      ·
       intro hc55;clear hu52 hn52 hu53 hn53 hu54 hn54;rw[ui hc55]at hop;refine reg (qq hS (qk _) (qq hS (g_ldO 0 (vs:=[.slice _ _ _,.int .i64 _,.bool _,.bool _]) QQ JR rfl rfl rfl rfl) ?_));refine qe (d_lit (vs:=[.agg #[.slice _ _ _,.int .i64 _,.bool _,.bool _]]) (cs:=[.slice _ _ _,.int .i64 _,.bool _,.bool _]) hS Jn QQ JD rfl rfl rfl rfl (fun v hv=>by simp only[uq,ur,or_false]at hv; subst hv; rfl) rfl) ?_;clear hS;rintro _ w_8⟨b58,rfl,hS⟩;refine qe (qE 2 0 hS rfl Jn info161 rfl rfl rfl rfl rfl rfl rfl rfl (by omega) (by omega)) ?_;clear hS;rintro _ w_9⟨a59,p59,rfl,hS⟩;refine qq hS (qk _) (qq hS (Qmi rfl) ?_);refine qe (d_lit (vs:=[.int .i64 _]) (cs:=[.int .i64 _]) hS ua xX QA rfl rfl rfl rfl (fun v hv=>by simp only[uq,ur,or_false]at hv; subst hv; rfl) rfl) ?_;clear hS;rintro _ w_10⟨b62,rfl,hS⟩;refine qe (qE 4 0 hS rfl ua info3 rfl rfl rfl rfl rfl rfl rfl rfl (by omega) (by omega)) ?_;clear hS;rintro _ w_11⟨a63,p63,rfl,hS⟩;refine qq hS (qy _) (qq hS (qy _) (qh (Qh (xN (reg (qq hS (g_add rfl rfl (by omega) (by omega)) (qq hS (Qmi rfl) ?_)))))))
       first
        | exact⟨⟨k+1,a59,p59,a63,p63,cso++[[.slice ax (lab D k).l.length cx,.int .i64 (lab D k).c,.bool (lab D k).is,.bool (knB kn k)]]⟩,_,rfl,⟨by dsimp only; rw[hop,ug]; exact⟨rfl,rfl,rfl,rfl,rfl,rfl,rfl,rfl,rfl,rfl,trivial⟩,by dsimp only; rw[hop,ug,qB,QT]; exact hS.sel [false,false,false,true,true,true,true,true],by dsimp only; omega,by dsimp only; rw[hop,Qy]; exact hA.snoc ⟨_,_,_,rfl,hxl⟩⟩,by dsimp only; omega⟩
        | exact⟨⟨k+1,a,c,a2,c2,cso⟩,_,rfl,⟨by dsimp only; rw[hop]; exact⟨rfl,rfl,rfl,rfl,rfl,rfl,rfl,rfl,rfl,rfl,trivial⟩,by dsimp only; rw[hop]; exact hS.sel [false,false,false,true,true,true,true,true],by dsimp only; omega,by dsimp only; rw[hop]; exact hA⟩,by dsimp only; omega⟩
      ·
       intro hc55;clear hu52 hn52 hu53 hn53 hu54 hn54;rw[ud (by rw[hc55]; exact Bool.false_ne_true)]at hop;refine xZ (Qh (xN (reg (qq hS (g_add rfl rfl (by omega) (by omega)) (qq hS (Qmi rfl) ?_)))))
       first
        | exact⟨⟨k+1,a59,p59,a63,p63,cso++[[.slice ax (lab D k).l.length cx,.int .i64 (lab D k).c,.bool (lab D k).is,.bool (knB kn k)]]⟩,_,rfl,⟨by dsimp only; rw[hop,ug]; exact⟨rfl,rfl,rfl,rfl,rfl,rfl,rfl,rfl,rfl,rfl,trivial⟩,by dsimp only; rw[hop,ug,qB,QT]; exact hS.sel [false,true,true,true,true,true],by dsimp only; omega,by dsimp only; rw[hop,Qy]; exact hA.snoc ⟨_,_,_,rfl,hxl⟩⟩,by dsimp only; omega⟩
        | exact⟨⟨k+1,a,c,a2,c2,cso⟩,_,rfl,⟨by dsimp only; rw[hop]; exact⟨rfl,rfl,rfl,rfl,rfl,rfl,rfl,rfl,rfl,rfl,trivial⟩,by dsimp only; rw[hop]; exact hS.sel [false,true,true,true,true,true],by dsimp only; omega,by dsimp only; rw[hop]; exact hA⟩,by dsimp only; omega⟩
     ·
      intro hc45
      try simp only[zA,zO,zN,zI,zF,zM,zT,zU]at hc45
      obtain rfl:k=g.vs.length:=by omega
      refine uD (uA (uA (Qw (xN (xL (QwR (qq hS (qk _) (qq hS (xE 0 rfl Jn rfl rfl) (qq hS (g_eql rfl rfl) (QoN (qo rfl ?_ ?_)))))))))))
      ·
       intro hc67
       try simp only[zA,zO,zN,zI,zF,zM,zT,zU]at hc67
       have ho:openL D kn=[]:=by rw[← opn_all,hDl]; exact Ql.1 (by omega)
       obtain⟨q,hq⟩:∃q,g.vs.length - r=q+1:=⟨g.vs.length - r - 1,by omega⟩
       rw[hq]at hdj;have hdq:dijk g m (q+1) ⟨D,kn⟩=⟨D,kn⟩:=ui ho;rw[hdq]at hdj;have hDw:D=waysP g s m:=congrArg DjL.D hdj;refine uD (uA (blkO rfl (uA (uA (Qw (xN (QwR (qq hS (qk _) (qq hS (qy _) (QoN (ub (ret1 results85 (qr rfl) ?_))))))))))));obtain⟨I1,hS1,hI1,hd1⟩:=St.freezeRowR (xs:=waysP g s m) (hS.sel [false,false,true,false,false]) (by rw[← hDw]; exact hDl.symm) hR.cl (by rw[← hDw]; exact hR.ways);exact⟨I1,_,_,rfl,hS1.nil,RSl.mono hd1 (Inl.Sub.refl _) (fun _ _ h=>h.mono hI1)⟩
      ·
       intro hc67
       try simp only[zA,zO,zN,zI,zF,zM,zT,zU]at hc67
       have ho:openL D kn≠[]:=fun h=>by
        rw[← opn_all,hDl]at h;rw[h]at hc67;exact hc67 rfl
       obtain⟨y,r0,hyr⟩:=List.exists_cons_of_ne_nil ho;have hpk:=(pick_ok ho).1;have hmin:=min_open hyr;obtain⟨hk0,hjk,hDI2⟩:=round_ok hg.toGrOk hDI hc32 ho;obtain⟨j,hj⟩:∃j,pickL D (openL D kn)=j:=⟨_,rfl⟩
       have hrd:roundD g m ⟨D,kn⟩=⟨relUp g m j (lab D j) (kn.set j true) D g.ls.length,kn.set j true⟩:=by unfold roundD; dsimp only; rw[hj]
       rw[hrd]at hDI2;dsimp only at hk0 hjk hDI2;rw[hj]at hk0 hjk hDI2 hpk hmin;have hjl:j < g.vs.length:=by rw[← hkl]; exact hjk
       have hyl:(opn D kn g.vs.length).map (lab D)=lab D y::r0.map (lab D):=by rw[← hDl,opn_all,hyr]; rfl
       have hdj2:dijk g m (g.vs.length - (r+1)) ⟨relUp g m j (lab D j) (kn.set j true) D g.ls.length,kn.set j true⟩=dijk g m g.vs.length (startD g s):=by
        rw[show g.vs.length - r=(g.vs.length - (r+1))+1 by omega]at hdj;rw[← hdj];show _=if openL D kn=[] then _ else _
        rw[ud ho,hrd]
       have hbj:=hbd.at_ j;have hbd2:=relUp_bd hg (m:=m) (j:=j) (kn:=kn.set j true) hDl hbd hbj g.ls.length;obtain⟨ax,cx,hcj,-⟩:=hR.get (show j < D.length by omega);refine xZ (xN (xL ?_));have hF:=St.freezeRowR (u:=.slice a (opn D kn g.vs.length).length c) (m:=(opn D kn g.vs.length).length) (xs:=(opn D kn g.vs.length).map (lab D)) (css:=cso) (by exact hS.ord [0,1,2,3,4]) (by rw[uR]) (rway_cl hA) (hA);clear hS;obtain⟨I_hoo,hS,hI_hoo,hoo⟩:=hF;replace hG:=hG.mono hI_hoo;replace hR:=hR.mono hI_hoo;replace hoo:RWays I_hoo (.slice a (opn D kn g.vs.length).length c) ((opn D kn g.vs.length).map (lab D)):=RSl.mono hoo (Sub.refl _) (fun _ _ h=>h.mono hI_hoo);have hF:=St.freezeRow (u:=.slice a2 (opn D kn g.vs.length).length c2) (m:=(opn D kn g.vs.length).length) (xs:=opn D kn g.vs.length) natC_len (by exact hS.ord [0,1,2,3]) (rfl);clear hS;obtain⟨I_hao,hS,hI_hao,hao⟩:=hF;replace hG:=hG.mono hI_hao;replace hR:=hR.mono hI_hao;replace hoo:=hoo.mono hI_hao;refine reg (qq hS (qk _) (qe (ql call120 rfl (minW_c _ (lab D y) (r0.map (lab D)) _ _ _ hS.imm hoo hyl)) ?_));rintro _ w_12⟨aM,cM,bM,rfl,hE,hMl⟩;replace hS:=hS.callE hE;replace hG:=hG.mono hE.ext;replace hR:=hR.mono hE.ext;replace hoo:=hoo.mono hE.ext;replace hao:=hao.mono hE.ext;rw[hmin]at hMl ⊢;refine qe (qw (cs:=[.slice _ _ _,.int .i64 _,.bool _,.bool _]) hS JD rfl) ?_;clear hS;rintro _ w_13⟨b14,rfl,hS⟩;refine qe (qj 0 hS QQ rfl rfl rfl (vs:=[.slice _ _ _,.int .i64 _,.bool _,.bool _]) rfl rfl rfl (xP rfl) (cs':=[_,_,_,_]) rfl) ?_;clear hS
       rintro _ w_14⟨rfl,hS⟩;refine QoN (xL ?_);have hF:=hS.freezeAt 0 rfl;clear hS;obtain⟨I_hb14,hS,hI_hb14,hb14⟩:=hF;replace hG:=hG.mono hI_hb14;replace hR:=hR.mono hI_hb14;replace hoo:=hoo.mono hI_hb14;replace hao:=hao.mono hI_hb14;replace hMl:=hMl.mono hI_hb14;refine reg (qq hS (qk _) (qq hS (qk _) (qq hS (jR ml0 (ml rfl ml0)) ?_)));refine qe (ql call122 rfl (indexW_c _ _ (lab D j) b14 aM cM bM _ _ hS.imm hoo hb14 hMl (by rw[QF]; exact⟨j,by rw[← hDl,opn_all]; exact hpk,rfl⟩))) ?_;rintro _ w_15⟨p,rfl,hp,hE⟩;replace hS:=hS.callE hE;replace hG:=hG.mono hE.ext;replace hR:=hR.mono hE.ext;replace hoo:=hoo.mono hE.ext;replace hao:=hao.mono hE.ext;replace hMl:=hMl.mono hE.ext;replace hb14:=hb14.mono hE.ext;have hpj:(opn D kn g.vs.length)[p]? = some j:=by
        rw[Qo]at hp;obtain⟨j',h1,h2⟩:=Option.map_eq_some_iff.1 hp;have h3:=pick_found hg.toGrOk hDI.lb (kn:=kn) (p:=p) (j:=j') ho (by rw[← opn_all,hDl]; exact h1) (by rw[hj]; exact h2);rw[hj]at h3; rw[h1,h3]
       have hpA:=hao.at hpj;have hpl:=(uc.1 hpj).1;have hol:=opn_len D kn g.vs.length;refine qq hS (g_ixI ua xX hao rfl rfl (by omega) (by omega)) (qq hS (qC uj hpA rfl rfl) (qq hS (Qai rfl) (QoR (qq hS (qk _) (qq hS (Qmi rfl) (qq hS (g_ixR 0 Jn QQ rfl rfl rfl (by omega) (by omega)) (qq hS (qF (c':=3) Jb rfl uC rfl rfl rfl) (qe (d_storeRowF 0 3 hR.cl hS (by rw[hR.len,hDl]) hcj uC rfl rfl rfl rfl rfl rfl) ?_))))))));clear hS;rintro _ w_16⟨rfl,hS⟩;refine QoR (qq hS (qb (o':=1) ut rfl uZ rfl rfl rfl) (qq hS (qi 2 Jm rfl rfl rfl) (qq hS (qz rfl uy hG.ls rfl) (qq hS (Qmi rfl) (QoN (uk (loop (fun(x:LkW) σ w=>okS σ [(3,.pointer (some ⟨b3,0,none⟩)),(5,.pointer (some ⟨b5,0,none⟩)),(7,.slice (some ⟨b24,0,none⟩) g.vs.length g.vs.length),(14,.pointer (some ⟨b14,0,none⟩)),(15,.int .i64 j),(39,.int .i64 g.vs.length),(40,.int .i64 r),(81,.slice a1 g.ls.length c1),(82,.int .i64 g.ls.length),(83,.int .i64 x.i)]∧∃I,St [] w0 I0 I w [.row (.slice (some ⟨b24,0,none⟩) g.vs.length g.vs.length) 161 4 g.vs.length x.css.flatten,.cel b5 41 [.int .i64 m.s,.int .i64 m.u,.int .i64 m.r,.int .i64 m.e,.int .i64 m.o],.cel b3 34 [.slice a0 g.vs.length c0,.slice a1 g.ls.length c1]]∧(x.i≤g.ls.length∧RWD I x.css (relUp g m j (lab D j) (kn.set j true) D x.i) (kn.set j true))∧RGr I a0 c0 a1 c1 g∧atI I ⟨b14,0,none⟩ [.slice aM (lab D j).l.length cM,.int .i64 (lab D j).c,.bool (lab D j).is,.bool bM]∧RFl I 1 intC (.slice aM (lab D j).l.length cM) (lab D j).l) (fun x=>g.ls.length - x.i) (⟨0,css.set j (([.slice ax (lab D j).l.length cx,.int .i64 (lab D j).c,.bool (lab D j).is,.bool (knB kn j)]:List Value).set 3 (.bool true))⟩) ?_ ?_)))))))
       ·
        exact⟨⟨rfl,rfl,rfl,rfl,rfl,rfl,rfl,rfl,rfl,rfl,trivial⟩,_,hS.sel [true,true,true],⟨by dsimp only; omega,hR.setKn hcj⟩,hG,hb14,hMl⟩
       ·
        rintro⟨i,csl⟩σ w_l⟨hs,I,hS,⟨hi0,hR⟩,hG,hb14,hMl⟩;dsimp only at hs hS hi0 hR ⊢;rw[← qx hs]; clear hs
        refine QwR (qq hS (g_lss rfl rfl) (QoN (xL (qo rfl ?_ ?_))))
        ·
         intro hc84
         try simp only[zA,zO,zN,zI,zF,zM,zT,zU]at hc84
         obtain⟨k,hki⟩:∃k,g.ls[i]? = some k:=⟨_,xW (by omega)⟩
         obtain⟨v,hvi⟩:∃v,g.vs[j]? = some v:=⟨_,xW hjl⟩
         have hvD:g.vs.getD j 0=v:=by rw[uh,hvi]; rfl
         have hvA:=hG.vs.at hvi;have hkA:=hG.ls.at hki;have hkm:=uf hki;have hkt:=(hg.ends k hkm).2;have hvt:=jt hkt;have hkc:=hg.cost k hkm;have hkc2:=hg.cb k hkm;have hrs:=relUp_succ (m:=m) (j:=j) (w:=lab D j) (kn:=kn.set j true) (D:=D) hki;have hUl:=relUp_len hg.toGrOk (m:=m) (j:=j) (w:=lab D j) (kn:=kn.set j true) hDl i;obtain⟨U,hU⟩:∃U,relUp g m j (lab D j) (kn.set j true) D i=U:=⟨_,rfl⟩
         rw[hU]at hrs hR hUl;unfold relD at hrs;rw[hvD]at hrs;refine xZ (xN (xL (uk (QwR (qq hS (Qmi rfl) (qq hS (g_ixI uy uM hG.ls rfl rfl (by omega) (by omega)) (qq hS (g_ldE (us:=[.int .i64 _,.int .i64 _,.int .i64 _,.int .i64 _,.int .i64 _,.int .i64 _,.int .i64 _,.int .i64 _]) uM Jv hkA rfl rfl rfl) (qe (qw (cs:=[.int .i64 _,.int .i64 _,.int .i64 _,.int .i64 _,.int .i64 _,.int .i64 _,.int .i64 _,.int .i64 _]) hS Qv rfl) ?_))))))));clear hS;rintro _ w_17⟨b17,rfl,hS⟩;refine qq hS (Qai rfl) (qe (qj 0 hS uM rfl rfl rfl (vs:=[.int .i64 _,.int .i64 _,.int .i64 _,.int .i64 _,.int .i64 _,.int .i64 _,.int .i64 _,.int .i64 _]) rfl rfl rfl (xP rfl) (cs':=[_,_,_,_,_,_,_,_]) rfl) ?_);clear hS;rintro _ w_18⟨rfl,hS⟩;refine QoN (xL (xL (draw (.cons 0 .pure (.cons 1 .held (.cons 2 .pure (.cons 3 .held (.cons 4 .pure (.cons 5 .pure (.cons 6 .held (.cons 7 .pure (.cons 8 .pure (.cons 9 .pure (.cons 10 .held (.cons 11 .held (.cons 12 .eff (.cons 13 .pure (.cons 14 .pure .nil))))))))))))))) mixed (by kernel_rfl) hS ?_)));intro w_19 hS;refine sp rfl (qb (o':=0) uI rfl xX rfl rfl rfl) (sh rfl (qi 0 uj rfl rfl rfl) (sp rfl (qb (o':=0) ut rfl uo rfl rfl rfl) (sh rfl (qi 3 uF rfl rfl rfl) (sp rfl (Qmi rfl) (sp rfl (g_ixI ua xX hG.vs rfl rfl (by omega) (by omega)) (sh rfl (qC uj hvA rfl rfl) (sp rfl (g_neq rfl rfl) (sp rfl (Qmb rfl) ?_))))))));refine spu rfl rfl rfl (fun hg=>(qb (o':=3) uI rfl Qe rfl rfl rfl)) ?_;intro u97 hu97 hn97;refine shu rfl rfl rfl (fun hg=>(g_ldO 0 (vs:=[.int .i64 _,.int .i64 _,.int .i64 _,.int .i64 _,.int .i64 _]) Qe QO rfl (hu97 hg) rfl rfl)) ?_
         intro u98 hu98 hn98;refine shu rfl rfl rfl (fun hg=>(g_ldO 2 (vs:=[.int .i64 _,.int .i64 _,.int .i64 _,.int .i64 _,.int .i64 _]) Qe QO rfl rfl rfl rfl)) ?_;intro u99 hu99 hn99;refine scu rfl rfl rfl hS (fun hg=>(ql call124 (ml (hu98 hg) (ml (hu99 hg) ml0)) (fits_c29 k.n m _ _ hS.imm))) ?_;intro w_21 u100 hS hu100 hn100;refine spu rfl rfl rfl (fun hg=>(g_not (hu100 hg))) ?_;intro u101 hu101 hn101;refine sp rfl (g_or rfl rfl (fun hq=>hu101 hq)) (sn (xN (qo rfl ?_ ?_)))
         ·
          intro hc102;clear hu97 hn97 hu98 hn98 hu99 hn99 hu100 hn100 hu101 hn101;have hst:relUp g m j (lab D j) (kn.set j true) D (i+1)=U:=by
           rw[hrs,ud];rintro⟨h1,h2⟩;simp[h1,h2]at hc102
          refine uD (uA (Qw (xN (reg (qq hS (g_add rfl rfl (by omega) (by omega)) (qq hS (Qmi rfl) ?_))))))
          first
           | exact⟨⟨i+1,csl⟩,_,rfl,⟨⟨rfl,rfl,rfl,rfl,rfl,rfl,rfl,rfl,rfl,rfl,trivial⟩,_,hS.sel [false,true,true,true],⟨by dsimp only; omega,by dsimp only; rw[hst]; exact hR⟩,hG,hb14,hMl⟩,by dsimp only; omega⟩
           | exact⟨⟨i+1,csl.set (vIx g k.t) [.slice a115 (extW (lab D j) i k).l.length c115,.int .i64 (extW (lab D j) i k).c,.bool true,.bool false]⟩,_,rfl,⟨⟨rfl,rfl,rfl,rfl,rfl,rfl,rfl,rfl,rfl,rfl,trivial⟩,_,hS.sel [false,true,true,true],⟨by dsimp only; omega,by dsimp only; rw[hrs]; exact hR.setW (by omega) hcc.1 h115⟩,hG,hb14,hMl⟩,by dsimp only; omega⟩
         ·
          intro hc102;clear hu97 hn97 hu98 hn98 hu99 hn99 hu100 hn100 hu101 hn101;have hkv:k.f=v∧fitN k.n m=true:=by simpa using hc102
          rw[ui hkv]at hrs;refine xZ (xN (QwR (qq hS (g_ldO 3 (vs:=[.slice _ _ _,.slice _ _ _]) uv Je rfl rfl rfl rfl) (qq hS (qb (o':=1) uI rfl xX rfl rfl rfl) (qq hS (qi 0 uj rfl rfl rfl) (qe (ql call93 rfl (xb g a0 a1 c0 c1 k.t _ _ hS.imm hG hg.inc hnv)) ?_))))));rintro _ w_22⟨rfl,hE⟩;replace hS:=hS.callE hE;rw[posI_vIx hg.toGrOk hkt];refine qq hS (qk _) (qq hS (Qxi rfl rfl) (qq hS (qt (v:=.bool _) rfl rfl) (qq hS (Qai rfl) (qq hS (Qab rfl) (QoN (meet (fun σ w=>∃I b20 a115 c115,okS σ [(3,.pointer (some ⟨b3,0,none⟩)),(5,.pointer (some ⟨b5,0,none⟩)),(7,.slice (some ⟨b24,0,none⟩) g.vs.length g.vs.length),(14,.pointer (some ⟨b14,0,none⟩)),(15,.int .i64 j),(39,.int .i64 g.vs.length),(40,.int .i64 r),(81,.slice a1 g.ls.length c1),(82,.int .i64 g.ls.length),(83,.int .i64 i),(18,.int .i64 (vIx g k.t:Nat)),(20,.pointer (some ⟨b20,0,none⟩))]∧St [] w0 I0 I w [.cel b20 161 [.slice a115 (extW (lab D j) i k).l.length c115,.int .i64 (extW (lab D j) i k).c,.bool true,.bool false],.row (.slice (some ⟨b24,0,none⟩) g.vs.length g.vs.length) 161 4 g.vs.length csl.flatten,.cel b5 41 [.int .i64 m.s,.int .i64 m.u,.int .i64 m.r,.int .i64 m.e,.int .i64 m.o],.cel b3 34 [.slice a0 g.vs.length c0,.slice a1 g.ls.length c1]]∧(RGr I a0 c0 a1 c1 g∧RWD I csl U (kn.set j true))∧(atI I ⟨b14,0,none⟩ [.slice aM (lab D j).l.length cM,.int .i64 (lab D j).c,.bool (lab D j).is,.bool bM]∧RFl I 1 intC (.slice aM (lab D j).l.length cM) (lab D j).l)∧RFl I 1 intC (.slice a115 (extW (lab D j) i k).l.length c115) (extW (lab D j) i k).l) ?_ ?_))))))
          ·
           refine draw (.cons 0 .pure (.cons 1 .held (.cons 2 .pure (.cons 6 .pure (.cons 7 .held (.cons 8 .pure (.cons 9 .held (.cons 10 .pure (.fork 3 (.fork 4 (.fork 5 (.cons 11 .pure (.cons 12 .eff (.cons 13 .bar .nil))) 12 (.cons 5 .eff (.cons 11 .pure (.cons 13 .bar .nil)))) 12 (.cons 4 .eff (.cons 5 .eff (.cons 11 .pure (.cons 13 .bar .nil))))) 12 (.cons 3 .eff (.cons 4 .eff (.cons 5 .eff (.cons 11 .pure (.cons 13 .bar .nil)))))))))))))) mixed (by kernel_rfl) hS ?_;intro w_23 hS;refine sp rfl (qb (o':=0) Jb rfl uo rfl rfl rfl) (sh rfl (kY (c:=0) uF hb14 rfl rfl) (sp rfl (Qmi rfl) (sp rfl (qb (o':=1) Jb rfl xX rfl rfl rfl) (sh rfl (kY (c:=1) uj hb14 rfl rfl) (sp rfl (qb (o':=2) uI rfl xX rfl rfl rfl) (sh rfl (qi 0 uj rfl rfl rfl) (sp rfl (g_add rfl rfl (by omega) (by omega)) ?_)))))));refine sk ?_ ?_
           ·
            have hS0:=hS;refine se rfl (d_lit (vs:=[.int .i64 _]) (cs:=[.int .i64 _]) hS ua xX QA rfl rfl rfl rfl (fun v hv=>by simp only[uq,ur,or_false]at hv; subst hv; rfl) rfl) ?_;rintro _ w_24⟨b113,rfl,hS⟩;have hF:=hS.freeze1;clear hS;obtain⟨I113,hS,hI113,hb113⟩:=hF;replace hG:=hG.mono hI113;replace hR:=hR.mono hI113;replace hb14:=hb14.mono hI113;replace hMl:=hMl.mono hI113;have h113:=RFl.ofAt qH [(i:Int)] hb113 rfl (by show 1≤maxLen; decide);refine⟨_,_,hS0.le hI113 (xY _),hS,sk ?_ ?_⟩
            ·
             have hS0:=hS;refine se rfl (d_lit (vs:=[.slice _ _ _,.slice _ _ _]) (cs:=[.slice _ _ _,.slice _ _ _]) hS Kl uo Zn rfl rfl rfl rfl (fun v hv=>by simp only[uq,ur,or_false]at hv; rcases hv with rfl | rfl <;> rfl) rfl) ?_;rintro _ w_25⟨b114,rfl,hS⟩;have hF:=hS.freeze1;clear hS;obtain⟨I114,hS,hI114,hb114⟩:=hF;replace hG:=hG.mono hI114;replace hR:=hR.mono hI114;replace hb14:=hb14.mono hI114;replace hMl:=hMl.mono hI114;replace h113:=h113.mono hI114;have h114:RInts _ (.slice (some ⟨b114,0,none⟩) 2 2) [(lab D j).l,[(i:Int)]]:=RSl.ofAt (css:=[[.slice aM (lab D j).l.length cM],[.slice (some ⟨b113,0,none⟩) 1 1]]) hb114 rfl (by simp) (All2.cons ⟨_,_,rfl,hMl⟩ (All2.cons ⟨_,_,rfl,h113⟩ (All2.nil _))) rfl (by show 2≤maxLen; decide);refine⟨_,_,hS0.le hI114 (xY _),hS,sk ?_ ?_⟩
             ·
              have hS0:=hS;refine se rfl (ql call125 rfl (xj _ _ [(lab D j).l,[(i:Int)]] _ _ hS.imm h114 (by show 2≤64; decide) (two_le (by omega)))) ?_;rintro _ w_26⟨I_f,a115,c115,rfl,hE,h115⟩;replace hS:=hS.call hE;replace hG:=hG.mono hE.ext;replace hR:=hR.mono hE.ext;replace hb14:=hb14.mono hE.ext;replace hMl:=hMl.mono hE.ext;replace h113:=h113.mono hE.ext;replace h114:=h114.mono hE.ext;refine⟨_,_,hS0.le hE.ext (xY _),hS,?_⟩;rw[show([(lab D j).l,[(i:Int)]]:List (List Int)).flatten=(extW (lab D j) i k).l from rfl]at h115 ⊢;refine sp rfl (qv (pl:=[(0,1),(1,1),(2,1),(3,1)]) (cs:=[.slice _ _ _,.int .i64 _,.bool _,.bool _]) JD Jb (fun w=>by simp[xX,uo,uC]) (mp (v:=.slice _ _ _) rfl (mp (v:=.int .i64 _) rfl (mp (v:=.bool _) rfl mp0))) rfl) ?_;have hS0:=hS;refine se rfl (qw (cs:=[.slice _ _ _,.int .i64 _,.bool _,.bool _]) hS JD rfl) ?_;rintro _ w_27⟨b20,rfl,hS⟩;refine⟨_,_,hS0.le (Sub.refl _) (ue _ _),hS,sb rfl (qj 0 hS QQ rfl rfl rfl (vs:=[.slice _ _ _,.int .i64 _,.bool _,.bool _]) rfl rfl rfl (xP rfl) (cs':=[_,_,_,_]) rfl) ?_⟩;rintro _ w_28⟨rfl,hS⟩;refine⟨_,_,hS,sn (xN ?_)⟩;exact⟨_,rfl,_,b20,a115,c115,⟨rfl,rfl,rfl,rfl,rfl,rfl,rfl,rfl,rfl,rfl,rfl,rfl,trivial⟩,(hS.sel [true,false,true,true,true]),⟨hG,hR⟩,⟨hb14,hMl⟩,h115⟩
             ·
              have hS0:=hS;refine se rfl (qw (cs:=[.slice _ _ _,.int .i64 _,.bool _,.bool _]) hS JD rfl) ?_;rintro _ w_29⟨b20,rfl,hS⟩;refine⟨_,_,hS0.le (Sub.refl _) (ue _ _),hS,?_⟩;have hS0:=hS;refine se rfl (ql call125 rfl (xj _ _ [(lab D j).l,[(i:Int)]] _ _ hS.imm h114 (by show 2≤64; decide) (two_le (by omega)))) ?_;rintro _ w_30⟨I_f,a115,c115,rfl,hE,h115⟩;replace hS:=hS.call hE;replace hG:=hG.mono hE.ext;replace hR:=hR.mono hE.ext;replace hb14:=hb14.mono hE.ext;replace hMl:=hMl.mono hE.ext;replace h113:=h113.mono hE.ext;replace h114:=h114.mono hE.ext;refine⟨_,_,hS0.le hE.ext (xY _),hS,?_⟩;rw[show([(lab D j).l,[(i:Int)]]:List (List Int)).flatten=(extW (lab D j) i k).l from rfl]at h115 ⊢;refine sp rfl (qv (pl:=[(0,1),(1,1),(2,1),(3,1)]) (cs:=[.slice _ _ _,.int .i64 _,.bool _,.bool _]) JD Jb (fun w=>by simp[xX,uo,uC]) (mp (v:=.slice _ _ _) rfl (mp (v:=.int .i64 _) rfl (mp (v:=.bool _) rfl mp0))) rfl) (sb rfl (qj 0 hS QQ rfl rfl rfl (vs:=[.slice _ _ _,.int .i64 _,.bool _,.bool _]) rfl rfl rfl (xP rfl) (cs':=[_,_,_,_]) rfl) ?_);rintro _ w_31⟨rfl,hS⟩;refine⟨_,_,hS,sn (xN ?_)⟩;exact⟨_,rfl,_,b20,a115,c115,⟨rfl,rfl,rfl,rfl,rfl,rfl,rfl,rfl,rfl,rfl,rfl,rfl,trivial⟩,(hS.sel [true,false,true,true,true]),⟨hG,hR⟩,⟨hb14,hMl⟩,h115⟩
            ·
             have hS0:=hS;refine se rfl (qw (cs:=[.slice _ _ _,.int .i64 _,.bool _,.bool _]) hS JD rfl) ?_;rintro _ w_32⟨b20,rfl,hS⟩;refine⟨_,_,hS0.le (Sub.refl _) (ue _ _),hS,?_⟩;have hS0:=hS;refine se rfl (d_lit (vs:=[.slice _ _ _,.slice _ _ _]) (cs:=[.slice _ _ _,.slice _ _ _]) hS Kl uo Zn rfl rfl rfl rfl (fun v hv=>by simp only[uq,ur,or_false]at hv; rcases hv with rfl | rfl <;> rfl) rfl) ?_;rintro _ w_33⟨b114,rfl,hS⟩;have hF:=hS.freeze1;clear hS;obtain⟨I114,hS,hI114,hb114⟩:=hF;replace hG:=hG.mono hI114;replace hR:=hR.mono hI114;replace hb14:=hb14.mono hI114;replace hMl:=hMl.mono hI114;replace h113:=h113.mono hI114;have h114:RInts _ (.slice (some ⟨b114,0,none⟩) 2 2) [(lab D j).l,[(i:Int)]]:=RSl.ofAt (css:=[[.slice aM (lab D j).l.length cM],[.slice (some ⟨b113,0,none⟩) 1 1]]) hb114 rfl (by simp) (All2.cons ⟨_,_,rfl,hMl⟩ (All2.cons ⟨_,_,rfl,h113⟩ (All2.nil _))) rfl (by show 2≤maxLen; decide);refine⟨_,_,hS0.le hI114 (xY _),hS,?_⟩;have hS0:=hS;refine se rfl (ql call125 rfl (xj _ _ [(lab D j).l,[(i:Int)]] _ _ hS.imm h114 (by show 2≤64; decide) (two_le (by omega)))) ?_;rintro _ w_34⟨I_f,a115,c115,rfl,hE,h115⟩;replace hS:=hS.call hE;replace hG:=hG.mono hE.ext;replace hR:=hR.mono hE.ext;replace hb14:=hb14.mono hE.ext;replace hMl:=hMl.mono hE.ext;replace h113:=h113.mono hE.ext;replace h114:=h114.mono hE.ext;refine⟨_,_,hS0.le hE.ext (xY _),hS,?_⟩;rw[show([(lab D j).l,[(i:Int)]]:List (List Int)).flatten=(extW (lab D j) i k).l from rfl]at h115 ⊢;refine sp rfl (qv (pl:=[(0,1),(1,1),(2,1),(3,1)]) (cs:=[.slice _ _ _,.int .i64 _,.bool _,.bool _]) JD Jb (fun w=>by simp[xX,uo,uC]) (mp (v:=.slice _ _ _) rfl (mp (v:=.int .i64 _) rfl (mp (v:=.bool _) rfl mp0))) rfl) (sb rfl (qj 0 hS QQ rfl rfl rfl (vs:=[.slice _ _ _,.int .i64 _,.bool _,.bool _]) rfl rfl rfl (xP rfl) (cs':=[_,_,_,_]) rfl) ?_)
             rintro _ w_35⟨rfl,hS⟩;refine⟨_,_,hS,sn (xN ?_)⟩;exact⟨_,rfl,_,b20,a115,c115,⟨rfl,rfl,rfl,rfl,rfl,rfl,rfl,rfl,rfl,rfl,rfl,rfl,trivial⟩,(hS.sel [true,false,true,true,true]),⟨hG,hR⟩,⟨hb14,hMl⟩,h115⟩
           ·
            have hS0:=hS;refine se rfl (qw (cs:=[.slice _ _ _,.int .i64 _,.bool _,.bool _]) hS JD rfl) ?_;rintro _ w_36⟨b20,rfl,hS⟩;refine⟨_,_,hS0.le (Sub.refl _) (ue _ _),hS,?_⟩;have hS0:=hS;refine se rfl (d_lit (vs:=[.int .i64 _]) (cs:=[.int .i64 _]) hS ua xX QA rfl rfl rfl rfl (fun v hv=>by simp only[uq,ur,or_false]at hv; subst hv; rfl) rfl) ?_;rintro _ w_37⟨b113,rfl,hS⟩;have hF:=hS.freeze1;clear hS;obtain⟨I113,hS,hI113,hb113⟩:=hF;replace hG:=hG.mono hI113;replace hR:=hR.mono hI113;replace hb14:=hb14.mono hI113;replace hMl:=hMl.mono hI113;have h113:=RFl.ofAt qH [(i:Int)] hb113 rfl (by show 1≤maxLen; decide);refine⟨_,_,hS0.le hI113 (xY _),hS,?_⟩;have hS0:=hS;refine se rfl (d_lit (vs:=[.slice _ _ _,.slice _ _ _]) (cs:=[.slice _ _ _,.slice _ _ _]) hS Kl uo Zn rfl rfl rfl rfl (fun v hv=>by simp only[uq,ur,or_false]at hv; rcases hv with rfl | rfl <;> rfl) rfl) ?_;rintro _ w_38⟨b114,rfl,hS⟩;have hF:=hS.freeze1;clear hS;obtain⟨I114,hS,hI114,hb114⟩:=hF;replace hG:=hG.mono hI114;replace hR:=hR.mono hI114;replace hb14:=hb14.mono hI114;replace hMl:=hMl.mono hI114;replace h113:=h113.mono hI114;have h114:RInts _ (.slice (some ⟨b114,0,none⟩) 2 2) [(lab D j).l,[(i:Int)]]:=RSl.ofAt (css:=[[.slice aM (lab D j).l.length cM],[.slice (some ⟨b113,0,none⟩) 1 1]]) hb114 rfl (by simp) (All2.cons ⟨_,_,rfl,hMl⟩ (All2.cons ⟨_,_,rfl,h113⟩ (All2.nil _))) rfl (by show 2≤maxLen; decide);refine⟨_,_,hS0.le hI114 (xY _),hS,?_⟩;have hS0:=hS;refine se rfl (ql call125 rfl (xj _ _ [(lab D j).l,[(i:Int)]] _ _ hS.imm h114 (by show 2≤64; decide) (two_le (by omega)))) ?_
            rintro _ w_39⟨I_f,a115,c115,rfl,hE,h115⟩;replace hS:=hS.call hE;replace hG:=hG.mono hE.ext;replace hR:=hR.mono hE.ext;replace hb14:=hb14.mono hE.ext;replace hMl:=hMl.mono hE.ext;replace h113:=h113.mono hE.ext;replace h114:=h114.mono hE.ext;refine⟨_,_,hS0.le hE.ext (xY _),hS,?_⟩;rw[show([(lab D j).l,[(i:Int)]]:List (List Int)).flatten=(extW (lab D j) i k).l from rfl]at h115 ⊢;refine sp rfl (qv (pl:=[(0,1),(1,1),(2,1),(3,1)]) (cs:=[.slice _ _ _,.int .i64 _,.bool _,.bool _]) JD Jb (fun w=>by simp[xX,uo,uC]) (mp (v:=.slice _ _ _) rfl (mp (v:=.int .i64 _) rfl (mp (v:=.bool _) rfl mp0))) rfl) (sb rfl (qj 0 hS QQ rfl rfl rfl (vs:=[.slice _ _ _,.int .i64 _,.bool _,.bool _]) rfl rfl rfl (xP rfl) (cs':=[_,_,_,_]) rfl) ?_);rintro _ w_40⟨rfl,hS⟩;refine⟨_,_,hS,sn (xN ?_)⟩;exact⟨_,rfl,_,b20,a115,c115,⟨rfl,rfl,rfl,rfl,rfl,rfl,rfl,rfl,rfl,rfl,rfl,rfl,trivial⟩,(hS.sel [true,false,true,true,true]),⟨hG,hR⟩,⟨hb14,hMl⟩,h115⟩
          ·
           rintro σ w_j⟨I,b20,a115,c115,hs,hS,⟨hG,hR⟩,⟨hb14,hMl⟩,h115⟩;obtain⟨at_,ct,hct,htl⟩:=hR.get (show vIx g k.t < U.length by omega);rw[← qx hs];refine xL (draw (.cons 0 .pure (.cons 1 .pure (.cons 2 .held (.cons 3 .pure (.cons 4 .held (.cons 5 .pure (.cons 6 .pure (.cons 7 .held (.cons 8 .pure (.cons 9 .pure (.cons 10 .held (.cons 11 .held (.cons 12 .eff (.cons 13 .pure (.cons 14 .pure .nil))))))))))))))) mixed (by kernel_rfl) hS ?_);intro w_41 hS;refine sp rfl (qk _) (sp rfl (Qmi rfl) (sh rfl (g_ixR 1 Jn QQ rfl rfl rfl (by omega) (by omega)) (sp rfl (qF (c':=3) Jb rfl uC rfl rfl rfl) (sh rfl (g_ldRowC1 1 (c:=3) hR.cl hct rfl QG rfl rfl) (sp rfl (g_not rfl) (sp rfl (Qmb rfl) (shu rfl rfl rfl (fun hg=>(g_ldO 0 (vs:=[.slice _ _ _,.int .i64 _,.bool _,.bool _]) QQ JR rfl rfl rfl rfl)) ?_)))))));intro u129 hu129 hn129;refine spu rfl rfl rfl (fun hg=>(qk _)) ?_;intro u130 hu130 hn130;refine spu rfl rfl rfl (fun hg=>(Qmi rfl)) ?_;intro u131 hu131 hn131;refine shu rfl rfl rfl (fun hg=>(g_ixR 1 Jn QQ rfl (hu130 hg) (hu131 hg) (by omega) (by omega))) ?_;intro u132 hu132 hn132;refine shu rfl rfl rfl (fun hg=>(vD 1 hR.cl hct QQ JR rfl (hu132 hg))) ?_;intro u133 hu133 hn133;refine scu rfl rfl rfl hS (fun hg=>(ql call121 (ml (hu129 hg) (ml (hu133 hg) ml0)) (cmpW_c (extW (lab D j) i k) (lab U (vIx g k.t)) a115 at_ c115 ct false _ _ _ hS.imm h115 htl))) ?_;intro w_43 u134 hS hu134 hn134;refine spu rfl rfl rfl (fun hg=>(g_lss (hu134 hg) rfl)) ?_;intro u135 hu135 hn135;refine sp rfl (g_and rfl rfl (fun hq=>hu135 hq)) (sn (xN (qo rfl ?_ ?_)))
           ·
            intro hc136;clear hu129 hn129 hu130 hn130 hu131 hn131 hu132 hn132 hu133 hn133 hu134 hn134 hu135 hn135;have hcc:knB (kn.set j true) (vIx g k.t)=false∧cmpW (extW (lab D j) i k) (lab U (vIx g k.t)) < 0:=by simpa using hc136
            rw[ui ⟨hcc.1,(cmpW_lt rfl).1 hcc.2⟩]at hrs;refine reg (qq hS (qk _) (qq hS (Qmi rfl) (qq hS (g_ldO 0 (vs:=[.slice _ _ _,.int .i64 _,.bool _,.bool _]) QQ JR rfl rfl rfl rfl) (qq hS (g_ixR 1 Jn QQ rfl rfl rfl (by omega) (by omega)) (qe (vH 1 hR.cl hS (by rw[hR.len,hUl]) hct QQ rfl rfl (vs:=[.slice a115 (extW (lab D j) i k).l.length c115,.int .i64 (extW (lab D j) i k).c,.bool true,.bool false]) rfl rfl rfl) ?_)))));clear hS;rintro _ w_44⟨rfl,hS⟩;refine qh (Qh (xN (reg (qq hS (g_add rfl rfl (by omega) (by omega)) (qq hS (Qmi rfl) ?_)))))
            first
             | exact⟨⟨i+1,csl⟩,_,rfl,⟨⟨rfl,rfl,rfl,rfl,rfl,rfl,rfl,rfl,rfl,rfl,trivial⟩,_,hS.sel [false,true,true,true],⟨by dsimp only; omega,by dsimp only; rw[hst]; exact hR⟩,hG,hb14,hMl⟩,by dsimp only; omega⟩
             | exact⟨⟨i+1,csl.set (vIx g k.t) [.slice a115 (extW (lab D j) i k).l.length c115,.int .i64 (extW (lab D j) i k).c,.bool true,.bool false]⟩,_,rfl,⟨⟨rfl,rfl,rfl,rfl,rfl,rfl,rfl,rfl,rfl,rfl,trivial⟩,_,hS.sel [false,true,true,true],⟨by dsimp only; omega,by dsimp only; rw[hrs]; exact hR.setW (by omega) hcc.1 h115⟩,hG,hb14,hMl⟩,by dsimp only; omega⟩
           ·
            intro hc136;clear hu129 hn129 hu130 hn130 hu131 hn131 hu132 hn132 hu133 hn133 hu134 hn134 hu135 hn135;have hst:relUp g m j (lab D j) (kn.set j true) D (i+1)=U:=by
             rw[hrs,ud];rintro⟨h1,h2⟩;have h3:=(cmpW_lt (d:=extW (lab D j) i k) rfl).2 h2;simp[h1,h3]at hc136
            refine xZ (Qh (xN (reg (qq hS (g_add rfl rfl (by omega) (by omega)) (qq hS (Qmi rfl) ?_)))))
            first
             | exact⟨⟨i+1,csl⟩,_,rfl,⟨⟨rfl,rfl,rfl,rfl,rfl,rfl,rfl,rfl,rfl,rfl,trivial⟩,_,hS.sel [false,true,true,true],⟨by dsimp only; omega,by dsimp only; rw[hst]; exact hR⟩,hG,hb14,hMl⟩,by dsimp only; omega⟩
             | exact⟨⟨i+1,csl.set (vIx g k.t) [.slice a115 (extW (lab D j) i k).l.length c115,.int .i64 (extW (lab D j) i k).c,.bool true,.bool false]⟩,_,rfl,⟨⟨rfl,rfl,rfl,rfl,rfl,rfl,rfl,rfl,rfl,rfl,trivial⟩,_,hS.sel [false,true,true,true],⟨by dsimp only; omega,by dsimp only; rw[hrs]; exact hR.setW (by omega) hcc.1 h115⟩,hG,hb14,hMl⟩,by dsimp only; omega⟩
        ·
         intro hc84
         try simp only[zA,zO,zN,zI,zF,zM,zT,zU]at hc84
         obtain rfl:i=g.ls.length:=by omega
         refine uD (uA (uA (Qw (Qh (xN (reg (qq hS (g_add rfl rfl (by omega) (by omega)) (qq hS (Qmi rfl) ?_))))))));exact⟨⟨r+1,relUp g m j (lab D j) (kn.set j true) D g.ls.length,kn.set j true,csl⟩,_,rfl,⟨⟨rfl,rfl,rfl,rfl,rfl,trivial⟩,_,hS.sel [true,true,true],⟨by dsimp only; omega,hR,⟨_,hDI2⟩,hbd2,hdj2⟩,hG⟩,by dsimp only; omega⟩
   ·
    intro hc41
    try simp only[zA,zO,zN,zI,zF,zM,zT,zU]at hc41
    obtain rfl:r=g.vs.length:=by omega
    rw[Nat.sub_self]at hdj;have hDw:D=waysP g s m:=congrArg DjL.D hdj;refine uD (uA (uA (Qw (xN (QwR (qq hS (qk _) (qq hS (qy _) (QoN (ub (ret1 results85 (qr rfl) ?_))))))))));obtain⟨I1,hS1,hI1,hd1⟩:=St.freezeRowR (xs:=waysP g s m) (hS.sel [true,false,false]) (by rw[← hDw]; exact hDl.symm) hR.cl (by rw[← hDw]; exact hR.ways);exact⟨I1,_,_,rfl,hS1.nil,RSl.mono hd1 (Inl.Sub.refl _) (fun _ _ h=>h.mono hI1)⟩
end Go.Proofs.YtcajgkfgjpfmaaaGreat
