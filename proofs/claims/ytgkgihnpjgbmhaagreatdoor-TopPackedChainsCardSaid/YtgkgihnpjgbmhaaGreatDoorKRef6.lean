/- The functions of package inlayref06 that look at patches: what they compute. Conditions: numbers within bounds. inlayref06.Symbols: what it computes. Conditions: numbers within bounds. The functions of package inlayref06 that make patches and symbols of descriptions: what they compute. Conditions: numbers within bounds. -/
import Derived.Test.YtgkgihnpjgbmhaaGreatDoorKSmall
import Derived.Test.YtgkgihnpjgbmhaaGreatDoorKCore2
set_option linter.unusedSimpArgs false
set_option linter.unusedVariables false
namespace Go.Proofs.YtgkgihnpjgbmhaaGreatDoor
open Tryz
open Go Go.RowKit Go.Inl
def sameOps (a b:List OpL)(k:Nat):Bool:=((a.zip b).drop k).all fun p=>sameOpS p.1 p.2
def samePR (a b:PatL):Bool:=a.lifted == b.lifted && decide (a.in_=b.in_) && decide (a.out=b.out) && decide (a.ops.length=b.ops.length) && sameOps a.ops b.ops 0
theorem sameOps_step {a b:List OpL}{k:Nat}{x y:OpL}(hx:a[k]? = some x)(hy:b[k]? = some y):sameOps a b k=(sameOpS x y && sameOps a b (k+1)):=by
 have h:(a.zip b)[k]? = some (x,y):=List.getElem?_zip_eq_some.2 ⟨hx,hy⟩;unfold sameOps;rw[jH h]; rfl
theorem sameOps_end {a b:List OpL}{k:Nat}(h:a.length≤k):sameOps a b k=true:=by
 unfold sameOps;rw[uB (by rw[List.length_zip]; omega)]; rfl
set_option maxHeartbeats 1000000 in
theorem sameOp_c (x y : OpL) (ad bd : Option Addr) (m cap mb capb : Nat) (w0 : World) (I0 : Imm) (hI : Sat I0 w0) (hd : RBytes I0 (.slice ad m cap) x.data) (hx : ∀ z ∈ x.data, 0 ≤ z ∧ z ≤ 255) (he : RBytes I0 (.slice bd mb capb) y.data) (hy : ∀ z ∈ y.data, 0 ≤ z ∧ z ≤ 255) :
 Ctr prog 57 [opV x ad m cap,opV y bd mb capb] w0 (fun v w'=>v = .bool (sameOpS x y)∧Ext w0 I0 w' I0):=by
 refine fn (n:=40) func57 rfl rfl rfl ?_;have hS:=St.start hI;refine QwR (qe (d_box (cs:=[.int .i64 _,.int .i64 _,.int .i64 _,.int .u8 _,.slice _ _ _]) hS rfl) ?_);clear hS;rintro _ w_1⟨b_1,rfl,hS⟩;refine qe (d_box (cs:=[.int .i64 _,.int .i64 _,.int .i64 _,.int .u8 _,.slice _ _ _]) hS rfl) ?_;clear hS;rintro _ w_2⟨b_2,rfl,hS⟩;refine qq hS (Qab rfl) (QoR (qq hS (qa (o':=0) vV rfl vM rfl rfl rfl) (qq hS (qd 1 xf rfl rfl rfl) (qq hS (qa (o':=0) vV rfl vM rfl rfl rfl) (qq hS (qd 0 xf rfl rfl rfl) (qq hS (g_eql rfl rfl) (qq hS (Qmb rfl) (qu rfl rfl hS (fun hg=>(qa (o':=1) vV rfl vM rfl rfl rfl)) ?_))))))));intro u11 hu11 hn11;refine qu rfl rfl hS (fun hg=>(qd 1 xf rfl (hu11 hg) rfl)) ?_;intro u12 hu12 hn12;refine qu rfl rfl hS (fun hg=>(qa (o':=1) vV rfl vM rfl rfl rfl)) ?_;intro u13 hu13 hn13;refine qu rfl rfl hS (fun hg=>(qd 0 xf rfl (hu13 hg) rfl)) ?_;intro u14 hu14 hn14;refine qu rfl rfl hS (fun hg=>(g_eql (hu12 hg) (hu14 hg))) ?_;intro u15 hu15 hn15;refine qq hS (g_and rfl rfl (fun hq=>hu15 hq)) (qq hS (Qmb rfl) (qu rfl rfl hS (fun hg=>(qa (o':=2) vV rfl vM rfl rfl rfl)) ?_));intro u18 hu18 hn18;refine qu rfl rfl hS (fun hg=>(qd 1 xf rfl (hu18 hg) rfl)) ?_;intro u19 hu19 hn19;refine qu rfl rfl hS (fun hg=>(qa (o':=2) vV rfl vM rfl rfl rfl)) ?_;intro u20 hu20 hn20;refine qu rfl rfl hS (fun hg=>(qd 0 xf rfl (hu20 hg) rfl)) ?_;intro u21 hu21 hn21;refine qu rfl rfl hS (fun hg=>(g_eql (hu19 hg) (hu21 hg))) ?_;intro u22 hu22 hn22;refine qq hS (g_and rfl rfl (fun hq=>hu22 hq)) (qq hS (Qmb rfl) (qu rfl rfl hS (fun hg=>(qa (o':=3) vV rfl xj rfl rfl rfl)) ?_))
 intro u25 hu25 hn25;refine qu rfl rfl hS (fun hg=>(qd 1 xV rfl (hu25 hg) rfl)) ?_;intro u26 hu26 hn26;refine qu rfl rfl hS (fun hg=>(qa (o':=3) vV rfl xj rfl rfl rfl)) ?_;intro u27 hu27 hn27;refine qu rfl rfl hS (fun hg=>(qd 0 xV rfl (hu27 hg) rfl)) ?_;intro u28 hu28 hn28;refine qu rfl rfl hS (fun hg=>(g_eql (hu26 hg) (hu28 hg))) ?_;intro u29 hu29 hn29;refine qq hS (g_and rfl rfl (fun hq=>hu29 hq)) (qq hS (Qmb rfl) (qu rfl rfl hS (fun hg=>(qa (o':=4) vV rfl xA rfl rfl rfl)) ?_));intro u32 hu32 hn32;refine qu rfl rfl hS (fun hg=>(qd 1 ur rfl (hu32 hg) rfl)) ?_;intro u33 hu33 hn33;refine qu rfl rfl hS (fun hg=>(vw vQ xH Qh hd (hu33 hg))) ?_;intro u34 hu34 hn34;refine qu rfl rfl hS (fun hg=>(qa (o':=4) vV rfl xA rfl rfl rfl)) ?_;intro u35 hu35 hn35;refine qu rfl rfl hS (fun hg=>(qd 0 ur rfl (hu35 hg) rfl)) ?_;intro u36 hu36 hn36;refine qu rfl rfl hS (fun hg=>(vw vQ xH Qh he (hu36 hg))) ?_;intro u37 hu37 hn37;refine qu rfl rfl hS (fun hg=>(g_eqlB hx hy (hu34 hg) (hu37 hg))) ?_;intro u38 hu38 hn38;refine qq hS (g_and rfl rfl (fun hq=>hu38 hq)) (qq hS (Qab rfl) (QoN (vW (ret1 results57 (qh (v:=.bool _) rfl) ?_))));exact⟨rfl,hS.nil⟩
set_option maxHeartbeats 1000000 in
theorem sameR_c (p q : PatL) (ad bd : Option Addr) (m cap mb capb : Nat) (w0 : World) (I0 : Imm) (hI : Sat I0 w0) (hops : ROps I0 (.slice ad m cap) p.ops) (hp : ∀ x ∈ p.ops, ∀ z ∈ x.data, 0 ≤ z ∧ z ≤ 255) (hoq : ROps I0 (.slice bd mb capb) q.ops) (hq : ∀ x ∈ q.ops, ∀ z ∈ x.data, 0 ≤ z ∧ z ≤ 255) :
 Ctr prog 23 [.agg #[.bool p.lifted,.int .i64 p.in_,.int .i64 p.out,.slice ad m cap],.agg #[.bool q.lifted,.int .i64 q.in_,.int .i64 q.out,.slice bd mb capb]] w0 (fun v w'=>v = .bool (samePR p q)∧Ext w0 I0 w' I0):=by
 have hml:=RSl.le hops;simp only[maxLen]at hml;refine fn (n:=53) func23 rfl rfl rfl ?_;have hS:=St.start hI;refine QwR (qe (d_box (cs:=[.bool _,.int .i64 _,.int .i64 _,.slice _ _ _]) hS rfl) ?_);clear hS;rintro _ w_1⟨b2,rfl,hS⟩;refine qe (d_box (cs:=[.bool _,.int .i64 _,.int .i64 _,.slice _ _ _]) hS rfl) ?_;clear hS;rintro _ w_2⟨b3,rfl,hS⟩;refine qq hS (Qab rfl) (QoN (vL (QwR (qq hS (qa (o':=0) vZ rfl xJ rfl rfl rfl) (qq hS (qd 1 uz rfl rfl rfl) (qq hS (qa (o':=0) vZ rfl xJ rfl rfl rfl) (qq hS (qd 0 uz rfl rfl rfl) (qq hS (g_neqb underlying4 rfl rfl) (qq hS (Qmb rfl) (qu rfl rfl hS (fun hg=>(qa (o':=1) vZ rfl vM rfl rfl rfl)) ?_))))))))));intro u12 hu12 hn12;refine qu rfl rfl hS (fun hg=>(qd 1 xf rfl (hu12 hg) rfl)) ?_;intro u13 hu13 hn13;refine qu rfl rfl hS (fun hg=>(qa (o':=1) vZ rfl vM rfl rfl rfl)) ?_;intro u14 hu14 hn14;refine qu rfl rfl hS (fun hg=>(qd 0 xf rfl (hu14 hg) rfl)) ?_;intro u15 hu15 hn15;refine qu rfl rfl hS (fun hg=>(g_neq (hu13 hg) (hu15 hg))) ?_;intro u16 hu16 hn16;refine qq hS (g_or rfl rfl (fun hq=>hu16 hq)) (qq hS (Qmb rfl) (qu rfl rfl hS (fun hg=>(qa (o':=2) vZ rfl vM rfl rfl rfl)) ?_));intro u19 hu19 hn19;refine qu rfl rfl hS (fun hg=>(qd 1 xf rfl (hu19 hg) rfl)) ?_;intro u20 hu20 hn20;refine qu rfl rfl hS (fun hg=>(qa (o':=2) vZ rfl vM rfl rfl rfl)) ?_;intro u21 hu21 hn21;refine qu rfl rfl hS (fun hg=>(qd 0 xf rfl (hu21 hg) rfl)) ?_;intro u22 hu22 hn22;refine qu rfl rfl hS (fun hg=>(g_neq (hu20 hg) (hu22 hg))) ?_;intro u23 hu23 hn23;refine qq hS (g_or rfl rfl (fun hq=>hu23 hq)) (qq hS (Qmb rfl) (qu rfl rfl hS (fun hg=>(qa (o':=3) vZ rfl xL rfl rfl rfl)) ?_))
 intro u26 hu26 hn26;refine qu rfl rfl hS (fun hg=>(qd 1 uH rfl (hu26 hg) rfl)) ?_;intro u27 hu27 hn27;refine qu rfl rfl hS (fun hg=>(qr rfl xN hops (hu27 hg))) ?_;intro u28 hu28 hn28;refine qu rfl rfl hS (fun hg=>(qa (o':=3) vZ rfl xL rfl rfl rfl)) ?_;intro u29 hu29 hn29;refine qu rfl rfl hS (fun hg=>(qd 0 uH rfl (hu29 hg) rfl)) ?_;intro u30 hu30 hn30;refine qu rfl rfl hS (fun hg=>(qr rfl xN hoq (hu30 hg))) ?_;intro u31 hu31 hn31;refine qu rfl rfl hS (fun hg=>(g_neq (hu28 hg) (hu31 hg))) ?_;intro u32 hu32 hn32;refine qq hS (g_or rfl rfl (fun hq=>hu32 hq)) (QoN (qi rfl ?_ ?_))
 ·
  intro hc33;clear hu12 hn12 hu13 hn13 hu14 hn14 hu15 hn15 hu16 hn16 hu19 hn19 hu20 hn20 hu21 hn21 hu22 hn22 hu23 hn23 hu26 hn26 hu27 hn27 hu28 hn28 hu29 hn29 hu30 hn30 hu31 hn31 hu32 hn32;have e:samePR p q=false:=by
   unfold samePR;cases h1:(p.lifted == q.lifted && decide (p.in_=q.in_) && decide (p.out=q.out) && decide (p.ops.length=q.ops.length))
   · rfl
   · exfalso
     simp only[xw,beq_iff_eq,xe]at h1;simp[h1]at hc33
  refine QwR (qq hS (Qab rfl) (QoN (vW (xQ (ret1 results23 (qh (v:=.bool _) rfl) ?_)))));rw[e]; exact⟨rfl,hS.nil⟩
 ·
  intro hc33;clear hu12 hn12 hu13 hn13 hu14 hn14 hu15 hn15 hu16 hn16 hu19 hn19 hu20 hn20 hu21 hn21 hu22 hn22 hu23 hn23 hu26 hn26 hu27 hn27 hu28 hn28 hu29 hn29 hu30 hn30 hu31 hn31 hu32 hn32;have hall:p.lifted=q.lifted∧p.in_=q.in_∧p.out=q.out∧p.ops.length=q.ops.length:=by
   simp at hc33; exact⟨hc33.1.1.1,hc33.1.1.2,hc33.1.2,by omega⟩
  obtain⟨h1,h2,h3,h4⟩:=hall;have e0:samePR p q=sameOps p.ops q.ops 0:=by unfold samePR; simp[h1,h2,h3,h4]
  refine vT (vS (vL (QwR (qq hS (Qai rfl) (QoN (xa (loop (fun(k:Nat) σ w=>okS σ [(2,.pointer (some ⟨b2,0,none⟩)),(3,.pointer (some ⟨b3,0,none⟩)),(5,.int .i64 k)]∧St [] w0 I0 I0 w [.cel b2 26 [.bool p.lifted,.int .i64 p.in_,.int .i64 p.out,.slice ad m cap],.cel b3 26 [.bool q.lifted,.int .i64 q.in_,.int .i64 q.out,.slice bd mb capb]]∧k≤p.ops.length∧sameOps p.ops q.ops 0=sameOps p.ops q.ops k) (fun k=>p.ops.length - k) (0) ?_ ?_)))))))
  ·
   exact⟨⟨rfl,rfl,rfl,trivial⟩,(hS.perm (List.Perm.swap _ _ _)).sel [true,true],by simp,rfl⟩
  ·
   rintro k σ w_l⟨hs,hS,hk0,hgo⟩;rw[← qk hs]; clear hs
   refine vL (QwR (qq hS (Qmi rfl) (qq hS (qa (o':=3) vZ rfl xL rfl rfl rfl) (qq hS (qd 0 uH rfl rfl rfl) (qq hS (qr rfl xN hops rfl) (qq hS (g_lss rfl rfl) (QoN (qi rfl ?_ ?_))))))))
   ·
    intro hc38
    try simp only[zA,zO,zN,zI,zF,zM,zT,zU]at hc38
    obtain⟨x,hx⟩:∃x,p.ops[k]? = some x:=⟨_,vK (by omega)⟩
    have hxm:=vP hx;obtain⟨cs,hcl,hoA,hro⟩:=RSl.at hops hx;obtain⟨adx,mx,capx,rfl,hd⟩:=hro;obtain⟨y,hy⟩:∃y,q.ops[k]? = some y:=⟨_,vK (by omega)⟩
    have hym:=vP hy;obtain⟨cs',hcl',hoB,hro'⟩:=RSl.at hoq hy;obtain⟨ady,my,capy,rfl,he⟩:=hro';refine vT (vS (vL (xa (vL (draw (.cons 0 .pure (.cons 1 .held (.cons 2 .pure (.cons 3 .pure (.cons 4 .held (.cons 5 .pure (.cons 6 .held (.cons 7 .pure (.cons 8 .pure (.cons 9 .held (.cons 10 .eff (.cons 11 .pure .nil)))))))))))) mixed (by kernel_rfl) hS ?_)))));intro w_3 hS;refine sp rfl (qa (o':=3) vZ rfl xL rfl rfl rfl) (sh rfl (qd 0 uH rfl rfl rfl) (sp rfl (Qmi rfl) (sp rfl (g_ixI xN xk hops rfl rfl (by omega) (by omega)) (sh rfl (g_ldE (us:=[.int .i64 _,.int .i64 _,.int .i64 _,.int .u8 _,.slice _ _ _]) xk xT hoA rfl rfl rfl) (sp rfl (qa (o':=3) vZ rfl xL rfl rfl rfl) ?_)))));refine sh rfl (qd 1 uH rfl rfl rfl) (sp rfl (Qmi rfl) (sp rfl (g_ixI xN xk hoq rfl rfl (by omega) (by omega)) (sh rfl (g_ldE (us:=[.int .i64 _,.int .i64 _,.int .i64 _,.int .u8 _,.slice _ _ _]) xk xT hoB rfl rfl rfl) ?_)));have hS0:=hS;refine se rfl (qg call57 rfl (sameOp_c x y adx ady mx capx my capy _ I0 hS.imm hd (hp x hxm) he (hq y hym))) ?_;rintro _ w_4⟨rfl,hE⟩;replace hS:=hS.call hE;refine⟨_,_,hS0.le hE.ext (uh _),hS,sp rfl (g_not rfl) (sn (vS (qi rfl ?_ ?_)))⟩
    ·
     intro hc52;simp only[uG,Qa]at hc52;have e:samePR p q=false:=by rw[e0,hgo,sameOps_step hx hy,hc52]; rfl
     refine QwR (qq hS (Qab rfl) (QoN (vW (uW (xQ (xQ (uW (xQ (ret1 results23 (qh (v:=.bool _) rfl) ?_)))))))));rw[e]; exact⟨rfl,hS.nil⟩
    ·
     intro hc52;simp only[uG,Qa]at hc52;refine vT (xZ (vS (reg (qq hS (Qmi rfl) (qq hS (g_add rfl rfl (by omega) (by omega)) (qq hS (Qai rfl) ?_))))));exact⟨k+1,_,rfl,⟨⟨rfl,rfl,rfl,trivial⟩,hS.sel [true,true],by omega,by rw[hgo,sameOps_step hx hy,hc52]; rfl⟩,by omega⟩
   ·
    intro hc38
    try simp only[zA,zO,zN,zI,zF,zM,zT,zU]at hc38
    have e:samePR p q=true:=by rw[e0,hgo,sameOps_end (by omega)]
    refine xB (xx (xx (ug (vS (QwR (qq hS (Qab rfl) (QoN (vW (ret1 results23 (qh (v:=.bool _) rfl) ?_)))))))));rw[e]; exact⟨rfl,hS.nil⟩
end Go.Proofs.YtgkgihnpjgbmhaaGreatDoor
namespace Go.Proofs.YtgkgihnpjgbmhaaGreatDoor
open Tryz
open Go Go.RowKit Go.Inl
end Go.Proofs.YtgkgihnpjgbmhaaGreatDoor
namespace Go.Proofs.YtgkgihnpjgbmhaaGreatDoor
open Tryz
open Go Go.RowKit Go.Inl
structure Q4 where
 a:Int
 b:Int
 c:Int
 d:Int
def q4C (q:Q4):List Value:=[.int .u8 q.a,.int .u8 q.b,.int .u8 q.c,.int .u8 q.d]
def q4V (q:Q4):Value:=.agg #[.int .u8 q.a,.int .u8 q.b,.int .u8 q.c,.int .u8 q.d]
def Q4.wf (q:Q4):Prop:=(0≤q.a∧q.a≤255)∧(0≤q.b∧q.b≤255)∧(0≤q.c∧q.c≤255)∧(0≤q.d∧q.d≤255)
def kindRaw (q:Q4)(size:Int):Int:=if 1+q.a % 4≤2∧size=0 then 4 else 1+q.a % 4
def fromRaw (q:Q4)(size:Int):Int:=if 1+q.a % 4≤2∧size≠0 then q.b % size else 0
def lenRaw (q:Q4)(size:Int):Int:=if 1+q.a % 4≤2∧size≠0 then 1+q.c % (size - q.b % size) % 5 else 1+q.c % 5
def bRaw (q:Q4)(size:Int):Int:=if kindRaw q size=3 then q.d else 0
def datRaw (q:Q4)(i:Nat):Int:=IntKind.u8.wrap (q.d*((i:Int)+q.a / 4))
def opRaw (q:Q4)(size:Int):OpL :=
 { kind:=kindRaw q size,from_:=fromRaw q size,len:=lenRaw q size,b:=bRaw q size,data:=if kindRaw q size=2∨kindRaw q size=4 then (List.range (lenRaw q size).toNat).map (datRaw q) else [] }
theorem kx {q:Q4}{size:Int}(hq:q.wf)(hs:0≤size):1≤lenRaw q size∧lenRaw q size≤5:=by
 unfold lenRaw;split <;> omega
theorem kindRaw_bd {q:Q4}{size:Int}(hq:q.wf):1≤kindRaw q size∧kindRaw q size≤4:=by
 unfold kindRaw;split <;> omega
theorem fromRaw_bd {q:Q4}{size:Int}(hq:q.wf)(hs:0≤size):0≤fromRaw q size∧fromRaw q size≤size:=by
 unfold fromRaw;split
 · rename_i h
   have h1:=Int.emod_nonneg q.b h.2;have h2:=Int.emod_lt_of_pos q.b (show 0 < size by omega);omega
 · omega
theorem datRaw_bd (q:Q4)(i:Nat):0≤datRaw q i∧datRaw q i≤255:=by
 unfold datRaw;rw[IntKind.wrap_u8];omega
theorem opRaw_wf {q:Q4}{size:Int}(hq:q.wf)(hs:0≤size∧size≤65536):(opRaw q size).wf:=by
 have h1:=kx hq hs.1;have h2:=kindRaw_bd (size:=size) hq;have h3:=fromRaw_bd hq hs.1;obtain⟨⟨a1,a2⟩,⟨b1,b2⟩,⟨c1,c2⟩,⟨d1,d2⟩⟩:=hq;refine⟨⟨by show _≤kindRaw q size; omega,by show kindRaw q size≤_; omega⟩,⟨by show _≤fromRaw q size; omega,by show fromRaw q size≤_; omega⟩,⟨by show _≤lenRaw q size; omega,by show lenRaw q size≤_; omega⟩,?_,?_⟩
 · show 0 ≤ bRaw q size ∧ bRaw q size ≤ 255
   unfold bRaw; split <;> omega
 · intro y hy
   unfold opRaw at hy;dsimp only at hy;split at hy
   · obtain⟨i,_,rfl⟩:=uC.1 hy; exact datRaw_bd q i
   · simp at hy
def sumL : List OpL → Int
 | []=>0
 | x::l=>x.len+sumL l
theorem sumL_snoc : ∀ (l : List OpL) (x : OpL), sumL (l ++ [x]) = sumL l + x.len
 | [],x=>by simp[sumL]
 | y::l,x=>by rw[List.cons_append,sumL,sumL,sumL_snoc l x]; omega
def opsRaw (l:List Q4)(size:Int):List OpL:=(l.take 6).map fun q=>opRaw q size
def madeP (l:List Q4)(size:Int):PatL:=⟨false,size,sumL (opsRaw l size),opsRaw l size⟩
def _root_.Go.Inl.Sym.fit (s:Sym)(size:Int):Prop:=(s.old=true→0≤s.at_∧s.at_ < size)∧(s.old=false→s.at_=0)∧0≤s.b∧s.b≤2
structure RS where
 k:Nat
 css:List (List Value)
 a:Option Addr
 c:Nat
set_option maxHeartbeats 1000000 in
theorem opRaw_c (q : Q4) (size : Int) (w0 : World) (I0 : Imm) (hI : Sat I0 w0) (hq : q.wf) (hs0 : 0 ≤ size) (hs1 : size ≤ 65536) :
 Ctr prog 102 [q4V q,.int .i64 size] w0 (fun v w'=>∃I' ad m cap,v=opV (opRaw q size) ad m cap∧Ext w0 I0 w' I'∧RBytes I' (.slice ad m cap) (opRaw q size).data):=by
 have hlr:=kx hq hs0;obtain⟨⟨qa1,qa2⟩,⟨qb1,qb2⟩,⟨qc1,qc2⟩,⟨qd1,qd2⟩⟩:=hq;refine fn (n:=79) func102 rfl rfl rfl ?_;have hS:=St.start hI;refine QwR (qe (d_box (cs:=[.int .u8 _,.int .u8 _,.int .u8 _,.int .u8 _]) hS rfl) ?_);clear hS;rintro _ w_1⟨b2,rfl,hS⟩;refine qe (qv (cs:=[.int .i64 _,.int .i64 _,.int .i64 _,.int .u8 _,.slice _ _ _]) hS xW rfl) ?_;clear hS;rintro _ w_2⟨b4,rfl,hS⟩;refine QoR (qq hS (qL (o':=0) uZ xj rfl rfl (by decide) (by decide) rfl) (qq hS (qd 1 xV rfl rfl rfl) (qq hS (jI xH ui rfl (by omega) (by omega)) (qq hS (g_rem rfl rfl (by omega) (by omega)) (qq hS (g_add rfl rfl (by omega) (by omega)) (qq hS (qL (o':=2) uZ xj rfl rfl (by decide) (by decide) rfl) ?_))))));refine qq hS (qd 1 xV rfl rfl rfl) (qq hS (jI xH ui rfl (by omega) (by omega)) (qq hS (g_rem rfl rfl (by omega) (by omega)) (qq hS (g_add rfl rfl (by omega) (by omega)) (qq hS (qo (pl:=[(0,1),(1,1),(2,1),(3,1),(4,1)]) (cs:=[.int .i64 _,.int .i64 _,.int .i64 _,.int .u8 _,.slice _ _ _]) xW vV (fun w=>by simp[xA,vM,xj]) (mp (v:=.int .i64 _) rfl (mp (v:=.int .i64 _) rfl mp0)) rfl) ?_))));refine qe (qv (cs:=[.int .i64 _,.int .i64 _,.int .i64 _,.int .u8 _,.slice _ _ _]) hS xW rfl) ?_;clear hS;rintro _ w_3⟨b5,rfl,hS⟩;refine qe (qf 0 hS xk rfl rfl rfl (vs:=[.int .i64 _,.int .i64 _,.int .i64 _,.int .u8 _,.slice _ _ _]) rfl rfl rfl (vJ rfl) (cs':=[_,_,_,_,_]) rfl) ?_;clear hS;rintro _ w_4⟨rfl,hS⟩;refine QoN (meet (fun σ w=>okS σ [(1,.int .i64 size),(2,.pointer (some ⟨b2,0,none⟩)),(4,.pointer (some ⟨b4,0,none⟩)),(5,.pointer (some ⟨b5,0,none⟩))]∧St [] w0 I0 I0 w [.cel b5 57 [.int .i64 (kindRaw q size),.int .i64 (fromRaw q size),.int .i64 (lenRaw q size),.int .u8 0,.slice none 0 0],.cel b4 57 [.int .i64 0,.int .i64 0,.int .i64 0,.int .u8 0,.slice none 0 0],.cel b2 39 [.int .u8 q.a,.int .u8 q.b,.int .u8 q.c,.int .u8 q.d]]) ?_ ?_)
 ·
  refine QwR (qq hS (qa (o':=0) vV rfl vM rfl rfl rfl) (qq hS (qd 0 xf rfl rfl rfl) (qq hS (g_leq rfl rfl) (QoN (qi rfl ?_ ?_)))))
  ·
   intro hc20;simp only[xe,xd]at hc20;refine QwR (qq hS (Qmi rfl) (qq hS (g_eql rfl rfl) (QoN (qi rfl ?_ ?_))))
   ·
    intro hc22;simp only[xe,xd]at hc22;have ek:kindRaw q size=4:=vR (by omega);have ef:fromRaw q size=0:=vO (by omega);have el:lenRaw q size=1+q.c % 5:=vO (by omega);refine reg (qq hS (qa (o':=0) vV rfl vM rfl rfl rfl) (qe (qf 0 hS vM rfl rfl rfl (vs:=[.int .i64 _]) rfl rfl rfl (vJ rfl) (cs':=[_,_,_,_,_]) rfl) ?_));clear hS;rintro _ w_5⟨rfl,hS⟩;refine QoN (⟨_,rfl,⟨rfl,rfl,rfl,rfl,trivial⟩,?_⟩);rw[ek,ef,el];exact hS.sel [true,true,true]
   ·
    intro hc22;simp only[xe,xd]at hc22;have ek:kindRaw q size=1+q.a % 4:=vO (by omega);have ef:fromRaw q size=q.b % size:=vR (by omega);have el:lenRaw q size=1+q.c % (size - q.b % size) % 5:=vR (by omega);have hm1:=Int.emod_nonneg q.b (show size≠0 by omega);have hm2:=Int.emod_lt_of_pos q.b (show 0 < size by omega);have hm3:=Int.emod_nonneg q.c (show size - q.b % size≠0 by omega);have hm4:=Int.emod_lt_of_pos q.c (show 0 < size - q.b % size by omega);refine QwR (qq hS (qL (o':=1) uZ xj rfl rfl (by decide) (by decide) rfl) (qq hS (qd 2 xV rfl rfl rfl) (qq hS (jI xH ui rfl (by omega) (by omega)) (qq hS (Qmi rfl) (qq hS (g_rem rfl rfl (by omega) (by omega)) (qq hS (qa (o':=1) vV rfl vM rfl rfl rfl) (qe (qf 0 hS vM rfl rfl rfl (vs:=[.int .i64 _]) rfl rfl rfl (vJ rfl) (cs':=[_,_,_,_,_]) rfl) ?_)))))));clear hS;rintro _ w_6⟨rfl,hS⟩;refine QoN (reg (qq hS (qL (o':=2) uZ xj rfl rfl (by decide) (by decide) rfl) (qq hS (qd 2 xV rfl rfl rfl) (qq hS (jI xH ui rfl (by omega) (by omega)) (qq hS (Qmi rfl) (qq hS (qa (o':=1) vV rfl vM rfl rfl rfl) (qq hS (qd 0 xf rfl rfl rfl) (qq hS (g_sub rfl rfl (by omega) (by omega)) (qq hS (g_rem rfl rfl (by omega) (by omega)) ?_)))))))));refine qq hS (g_rem rfl rfl (by omega) (by omega)) (qq hS (g_add rfl rfl (by omega) (by omega)) (qq hS (qa (o':=2) vV rfl vM rfl rfl rfl) (qe (qf 0 hS vM rfl rfl rfl (vs:=[.int .i64 _]) rfl rfl rfl (vJ rfl) (cs':=[_,_,_,_,_]) rfl) ?_)));clear hS;rintro _ w_7⟨rfl,hS⟩;refine QoN (⟨_,rfl,⟨rfl,rfl,rfl,rfl,trivial⟩,?_⟩);rw[ek,ef,el]
    exact hS.sel [true,true,true]
  ·
   intro hc20;simp only[xe,xd]at hc20;have ek:kindRaw q size=1+q.a % 4:=vO (by omega);have ef:fromRaw q size=0:=vO (by omega);have el:lenRaw q size=1+q.c % 5:=vO (by omega);refine vT (vS (⟨_,rfl,⟨rfl,rfl,rfl,rfl,trivial⟩,?_⟩));rw[ek,ef,el];exact hS.sel [true,true,true]
 ·
  rintro σ w⟨hs,hS⟩;rw[← qk hs];refine meet (fun σ w=>okS σ [(1,.int .i64 size),(2,.pointer (some ⟨b2,0,none⟩)),(4,.pointer (some ⟨b4,0,none⟩)),(5,.pointer (some ⟨b5,0,none⟩))]∧St [] w0 I0 I0 w [.cel b5 57 [.int .i64 (kindRaw q size),.int .i64 (fromRaw q size),.int .i64 (lenRaw q size),.int .u8 (bRaw q size),.slice none 0 0],.cel b4 57 [.int .i64 0,.int .i64 0,.int .i64 0,.int .u8 0,.slice none 0 0],.cel b2 39 [.int .u8 q.a,.int .u8 q.b,.int .u8 q.c,.int .u8 q.d]]) ?_ ?_
  ·
   refine QwR (qq hS (qa (o':=0) vV rfl vM rfl rfl rfl) (qq hS (qd 0 xf rfl rfl rfl) (qq hS (g_eql rfl rfl) (QoN (qi rfl ?_ ?_)))))
   ·
    intro hc43;simp only[xe,xd]at hc43;have eb:bRaw q size=q.d:=vR hc43;refine reg (qq hS (qL (o':=3) uZ xj rfl rfl (by decide) (by decide) rfl) (qq hS (qd 2 xV rfl rfl rfl) (qq hS (qa (o':=3) vV rfl xj rfl rfl rfl) (qe (qf 0 hS xj rfl rfl rfl (vs:=[.int .u8 _]) rfl rfl rfl (vJ rfl) (cs':=[_,_,_,_,_]) rfl) ?_))));clear hS;rintro _ w_8⟨rfl,hS⟩;refine QoN (⟨_,rfl,⟨rfl,rfl,rfl,rfl,trivial⟩,?_⟩);rw[eb];exact hS.sel [true,true,true]
   ·
    intro hc43;simp only[xe,xd]at hc43;have eb:bRaw q size=0:=vO hc43;refine vT (vS (⟨_,rfl,⟨rfl,rfl,rfl,rfl,trivial⟩,?_⟩));rw[eb];exact hS.sel [true,true,true]
  ·
   rintro σ w⟨hs,hS⟩;rw[← qk hs];refine vL (QwR (qq hS (Qai rfl) (QoN (xa (loop (fun(x:Nat×Option Addr×Nat) σ w=>okS σ [(2,.pointer (some ⟨b2,0,none⟩)),(4,.pointer (some ⟨b4,0,none⟩)),(5,.pointer (some ⟨b5,0,none⟩)),(6,.int .i64 x.1)]∧St [] w0 I0 I0 w [.row (.slice x.2.1 x.1 x.2.2) 5 1 x.1 (flat byteC ((List.range x.1).map (datRaw q))),.cel b5 57 [.int .i64 (kindRaw q size),.int .i64 (fromRaw q size),.int .i64 (lenRaw q size),.int .u8 (bRaw q size),.slice x.2.1 x.1 x.2.2],.cel b4 57 [.int .i64 0,.int .i64 0,.int .i64 0,.int .u8 0,.slice none 0 0],.cel b2 39 [.int .u8 q.a,.int .u8 q.b,.int .u8 q.c,.int .u8 q.d]]∧(x.1:Int)≤lenRaw q size∧(x.1=0∨(kindRaw q size=2∨kindRaw q size=4))) (fun x=>(lenRaw q size).toNat - x.1) ((0,none,0)) ?_ ?_)))))
   ·
    exact⟨⟨rfl,rfl,rfl,rfl,trivial⟩,(hS.sel [true,true,true]).nilRow _ _,by dsimp only; omega,.inl rfl⟩
   ·
    rintro⟨i,a,c⟩σ w_l⟨hs,hS,hi0,hi1⟩;dsimp only at hs hS hi0 hi1 ⊢;rw[← qk hs]; clear hs
    refine vL (QwR (qq hS (Qmi rfl) (qq hS (qa (o':=2) vV rfl vM rfl rfl rfl) (qq hS (qd 1 xf rfl rfl rfl) (qq hS (g_lss rfl rfl) (qq hS (Qmb rfl) (qu rfl rfl hS (fun hg=>(qa (o':=0) vV rfl vM rfl rfl rfl)) ?_)))))));intro u52 hu52 hn52;refine qu rfl rfl hS (fun hg=>(qd 1 xf rfl (hu52 hg) rfl)) ?_;intro u53 hu53 hn53;refine qu rfl rfl hS (fun hg=>(g_eql (hu53 hg) rfl)) ?_;intro u54 hu54 hn54;refine qu rfl rfl hS (fun hg=>(qt (hu54 hg))) ?_;intro u55 hu55 hn55;refine qn rfl hu55 hn55 hS (fun hg=>(qa (o':=0) vV rfl vM rfl rfl rfl)) ?_;intro u56 hu56 hn56;refine qn rfl hu55 hn55 hS (fun hg=>(qd 1 xf rfl (hu56 hg) rfl)) ?_;intro u57 hu57 hn57;refine qn rfl hu55 hn55 hS (fun hg=>(g_eql (hu57 hg) rfl)) ?_;intro u58 hu58 hn58;refine qu rfl rfl hS (fun hg=>(g_or (hu55 hg) rfl (fun hq=>hu58 ⟨hg,hq⟩))) ?_;intro u59 hu59 hn59;refine qq hS (g_and rfl rfl (fun hq=>hu59 hq)) (QoN (qi rfl ?_ ?_))
    ·
     intro hc60;clear hu52 hn52 hu53 hn53 hu54 hn54 hu55 hn55 hu56 hn56 hu57 hn57 hu58 hn58 hu59 hn59;simp only[xw,Bool.and_eq_false_iff,Qm,uv,xe,xd]at hc60;refine vT (vS (vL (xa (reg (qq hS (qa (o':=4) vV rfl xA rfl rfl rfl) (qq hS (qd 1 ur rfl rfl rfl) (qq hS (qL (o':=3) uZ xj rfl rfl (by decide) (by decide) rfl) (qq hS (qd 3 xV rfl rfl rfl) (qq hS (Qmi rfl) (qq hS (qL (o':=0) uZ xj rfl rfl (by decide) (by decide) rfl) (qq hS (qd 3 xV rfl rfl rfl) ?_)))))))))));refine qq hS (jI xH ui rfl (by omega) (by omega)) (qq hS (g_quo rfl rfl (by omega) (by omega) (by omega)) (qq hS (g_add rfl rfl (by omega) (by omega)) (qq hS (g_convb ui xH rfl (by omega) (by omega)) (qq hS (g_mulw rfl rfl) ?_))));refine qe (d_lit (vs:=[.int .u8 _]) (cs:=[.int .u8 _]) hS vQ xj uX rfl rfl rfl rfl (fun v hv=>by simp only[vU,vX,or_false]at hv; subst hv; rfl) rfl) ?_;clear hS;rintro _ w_9⟨b_9,rfl,hS⟩;refine qe (qH 1 0 hS rfl vQ uM rfl rfl rfl rfl rfl rfl rfl rfl (by omega) (by omega)) ?_;clear hS;rintro _ w_10⟨a76,p76,rfl,hS⟩;refine qq hS (qa (o':=4) vV rfl xA rfl rfl rfl) (qe (qf 2 hS xA rfl rfl rfl (vs:=[.slice _ _ _]) rfl rfl rfl (vJ rfl) (cs':=[_,_,_,_,_]) rfl) ?_);clear hS;rintro _ w_11⟨rfl,hS⟩;refine qD (xZ (vS (reg (qq hS (Qmi rfl) (qq hS (g_add rfl rfl (by omega) (by omega)) (qq hS (Qai rfl) ?_))))));refine⟨(i+1,a76,p76),_,rfl,⟨⟨rfl,rfl,rfl,rfl,trivial⟩,?_,by dsimp only; omega,.inr hc60.2⟩,by dsimp only; omega⟩;dsimp only;rw[List.range_succ,ud,ql,xX,List.map_nil,jg];exact hS.sel [false,true,true,true,true]
    ·
     intro hc60;clear hu52 hn52 hu53 hn53 hu54 hn54 hu55 hn55 hu56 hn56 hu57 hn57 hu58 hn58 hu59 hn59;simp only[xw,Bool.and_eq_false_iff,Qm,uv,xe,xd]at hc60;have hdat:(opRaw q size).data=(List.range i).map (datRaw q):=by
      unfold opRaw;dsimp only;split
      · rename_i hk2
        have hi:i=(lenRaw q size).toNat:=by omega
        rw[hi]
      · rename_i hk2
        have hi:i=0:=by omega
        rw[hi]; rfl
     refine xB (xx (xx (ug (vS (QwR (qq hS (g_ldO 1 (vs:=[.int .i64 _,.int .i64 _,.int .i64 _,.int .u8 _,.slice _ _ _]) xk xT rfl rfl rfl rfl) (qe (qf 2 hS xk rfl rfl rfl (vs:=[.int .i64 _,.int .i64 _,.int .i64 _,.int .u8 _,.slice _ _ _]) rfl rfl rfl (vJ rfl) (cs':=[_,_,_,_,_]) rfl) ?_)))))));clear hS;rintro _ w_12⟨rfl,hS⟩;refine QoN (vW (ret1 results102 (qz 2 hS xk xT rfl rfl rfl) ?_));have hS1:=hS.sel [true,false,false,false];obtain⟨I1,hE1,hI1,hd1⟩:=jB qx (xs:=(List.range i).map (datRaw q)) hS1 (by simp);exact⟨I1,a,i,c,rfl,hE1,by rw[hdat]; exact hd1⟩
set_option maxHeartbeats 1000000 in
theorem sized_c (r : Int) (ad : Option Addr) (cap : Nat) (l : List Q4) (size : Int) (w0 : World) (I0 : Imm) (hI : Sat I0 w0) (hl : RFl I0 4 q4C (.slice ad l.length cap) l) (hq : ∀ q ∈ l, q.wf) (hs0 : 0 ≤ size) (hs1 : size ≤ 65536) :
 Ctr prog 52 [.agg #[.int .u8 r,.slice ad l.length cap],.int .i64 size] w0 (fun v w'=>∃I' a m c,v = .agg #[.bool (madeP l size).lifted,.int .i64 (madeP l size).in_,.int .i64 (madeP l size).out,.slice a m c]∧Ext w0 I0 w' I'∧ROps I' (.slice a m c) (madeP l size).ops):=by
 have hll:=RSl.le hl;simp only[maxLen]at hll;refine fn (n:=41) func52 rfl rfl rfl ?_;have hS:=St.start hI;refine QwR (qe (d_box (cs:=[.int .u8 _,.slice _ _ _]) hS rfl) ?_);clear hS;rintro _ w_1⟨b2,rfl,hS⟩;refine qe (qv (cs:=[.bool _,.int .i64 _,.int .i64 _,.slice _ _ _]) hS xt rfl) ?_;clear hS;rintro _ w_2⟨b4,rfl,hS⟩;refine QoR (qq hS (Qmi rfl) (qq hS (qo (pl:=[(0,1),(1,1),(2,1),(3,1)]) (cs:=[.bool _,.int .i64 _,.int .i64 _,.slice _ _ _]) xt vZ (fun w=>by simp[xL,vM,xJ]) (mp (v:=.int .i64 _) rfl mp0) rfl) (qe (qv (cs:=[.bool _,.int .i64 _,.int .i64 _,.slice _ _ _]) hS xt rfl) ?_)));clear hS;rintro _ w_3⟨b5,rfl,hS⟩;refine qe (qf 0 hS vY rfl rfl rfl (vs:=[.bool _,.int .i64 _,.int .i64 _,.slice _ _ _]) rfl rfl rfl (vJ rfl) (cs':=[_,_,_,_]) rfl) ?_;clear hS;rintro _ w_4⟨rfl,hS⟩;refine QoN (vL (QwR (qq hS (Qai rfl) (QoN (xa (loop (fun(x:RS) σ w=>okS σ [(1,.int .i64 size),(2,.pointer (some ⟨b2,0,none⟩)),(4,.pointer (some ⟨b4,0,none⟩)),(5,.pointer (some ⟨b5,0,none⟩)),(6,.int .i64 x.k)]∧∃I,St [] w0 I0 I w [.row (.slice x.a x.k x.c) 57 5 x.k x.css.flatten,.cel b5 26 [.bool false,.int .i64 size,.int .i64 (sumL ((l.take x.k).map fun q=>opRaw q size)),.slice x.a x.k x.c],.cel b4 26 [.bool false,.int .i64 0,.int .i64 0,.slice none 0 0],.cel b2 109 [.int .u8 r,.slice ad l.length cap]]∧x.k≤l.length∧x.k≤6∧(0≤sumL ((l.take x.k).map fun q=>opRaw q size)∧sumL ((l.take x.k).map fun q=>opRaw q size)≤5*(x.k:Int))∧All2 (ROp I) x.css ((l.take x.k).map fun q=>opRaw q size)∧(∀cs∈x.css,cs.length=5)) (fun x=>l.length - x.k) (⟨0,[],none,0⟩) ?_ ?_))))))
 ·
  exact⟨⟨rfl,rfl,rfl,rfl,rfl,trivial⟩,_,(hS.sel [true,true,true]).nilRow _ _,by simp,by simp,by simp[sumL],All2.nil _,by simp⟩
 ·
  rintro⟨k,css,a,c⟩σ w_l⟨hs,I,hS,hk0,hk6,hsb,hall,hcl⟩;dsimp only at hs hS hk0 hk6 hsb hall hcl ⊢;rw[← qk hs]; clear hs
  refine vL (QwR (qq hS (Qmi rfl) (qq hS (qa (o':=1) Qu rfl sizeOf107 rfl rfl rfl) (qq hS (qd 3 isAgg107 rfl rfl rfl) (qq hS (qr rfl underlying107 (hl.mono hS.ext) rfl) (qq hS (g_lss rfl rfl) (qq hS (Qmb rfl) (qu rfl rfl hS (fun hg=>(Qmi rfl)) ?_))))))));intro u16 hu16 hn16;refine qu rfl rfl hS (fun hg=>(g_lss (hu16 hg) rfl)) ?_;intro u17 hu17 hn17;refine qq hS (g_and rfl rfl (fun hq=>hu17 hq)) (QoN (qi rfl ?_ ?_))
  ·
   intro hc18;clear hu16 hn16 hu17 hn17;simp only[xw,Bool.and_eq_false_iff,xe,xd]at hc18;obtain⟨q,hqi⟩:∃q,l[k]? = some q:=⟨_,vK (by omega)⟩
   have hqA:=(hl.mono hS.ext).at hqi;have hqw:=hq q (vP hqi);have hlb:=kx hqw hs0;have hlo:(opRaw q size).len=lenRaw q size:=rfl;have hsn:sumL ((l.take (k+1)).map fun q=>opRaw q size)=sumL ((l.take k).map fun q=>opRaw q size)+lenRaw q size:=by
    rw[qw hqi,ud,xX,List.map_nil,sumL_snoc]; rfl
   refine vT (vS (vL (xa (QwR (qq hS (qa (o':=1) Qu rfl sizeOf107 rfl rfl rfl) (qq hS (qd 3 isAgg107 rfl rfl rfl) (qq hS (Qmi rfl) (qq hS (g_ixI underlying107 sizeOf39 (hl.mono hS.ext) rfl rfl (by omega) (by omega)) (qq hS (g_ldE (us:=[.int .u8 _,.int .u8 _,.int .u8 _,.int .u8 _]) sizeOf39 isAgg39 hqA rfl rfl rfl) ?_)))))))));refine qq hS (Qmi rfl) (qe (qg call102 rfl (opRaw_c q size _ I hS.imm hqw hs0 hs1)) ?_);rintro _ w_5⟨I2,a2,m2,c2,rfl,hE,hd2⟩;replace hS:=hS.callE hE;refine qe (qv (cs:=[.int .i64 _,.int .i64 _,.int .i64 _,.int .u8 _,.slice _ _ _]) hS xW rfl) ?_;clear hS;rintro _ w_6⟨b7,rfl,hS⟩;refine qe (qf 0 hS xk rfl rfl rfl (vs:=[.int .i64 _,.int .i64 _,.int .i64 _,.int .u8 _,.slice _ _ _]) rfl rfl rfl (vJ rfl) (cs':=[_,_,_,_,_]) rfl) ?_;clear hS;rintro _ w_7⟨rfl,hS⟩;refine QoR (qq hS (qa (o':=3) vZ rfl xL rfl rfl rfl) (qq hS (qd 2 uH rfl rfl rfl) (qq hS (g_ldO 0 (vs:=[.int .i64 _,.int .i64 _,.int .i64 _,.int .u8 _,.slice _ _ _]) xk xT rfl rfl rfl rfl) ?_)));refine qe (d_lit (vs:=[.agg #[.int .i64 _,.int .i64 _,.int .i64 _,.int .u8 _,.slice _ _ _]]) (cs:=[.int .i64 _,.int .i64 _,.int .i64 _,.int .u8 _,.slice _ _ _]) hS xN xk xW rfl rfl rfl rfl (fun v hv=>by simp only[vU,vX,or_false]at hv; subst hv; rfl) rfl) ?_;clear hS;rintro _ w_8⟨b_8,rfl,hS⟩;refine qe (qH 2 0 hS rfl xN info57 rfl rfl rfl rfl rfl rfl rfl rfl (by omega) (by omega)) ?_;clear hS;rintro _ w_9⟨a32,p32,rfl,hS⟩;refine qq hS (qa (o':=3) vZ rfl xL rfl rfl rfl) (qe (qf 3 hS xL rfl rfl rfl (vs:=[.slice _ _ _]) rfl rfl rfl (vJ rfl) (cs':=[_,_,_,_]) rfl) ?_)
   clear hS;rintro _ w_10⟨rfl,hS⟩;refine QoN (reg (qq hS (qa (o':=2) vZ rfl vM rfl rfl rfl) (qq hS (qd 3 xf rfl rfl rfl) (qq hS (qa (o':=2) vV rfl vM rfl rfl rfl) (qq hS (qd 1 xf rfl rfl rfl) (qq hS (g_add rfl rfl (by omega) (by omega)) (qq hS (qa (o':=2) vZ rfl vM rfl rfl rfl) (qe (qf 3 hS vM rfl rfl rfl (vs:=[.int .i64 _]) rfl rfl rfl (vJ rfl) (cs':=[_,_,_,_]) rfl) ?_))))))));clear hS;rintro _ w_11⟨rfl,hS⟩;refine qD (xZ (vS (reg (qq hS (Qmi rfl) (qq hS (g_add rfl rfl (by omega) (by omega)) (qq hS (Qai rfl) ?_))))));refine⟨⟨k+1,css++[[.int .i64 (opRaw q size).kind,.int .i64 (opRaw q size).from_,.int .i64 (opRaw q size).len,.int .u8 (opRaw q size).b,.slice a2 m2 c2]],a32,p32⟩,_,rfl,⟨⟨rfl,rfl,rfl,rfl,rfl,trivial⟩,I2,?_,by dsimp only; omega,by dsimp only; omega,by dsimp only; omega,?_,?_⟩,by dsimp only; omega⟩
   · dsimp only
     rw[ux,List.flatten_singleton,hsn];exact hS.sel [false,false,true,true,true,true]
   · dsimp only
     rw[qw hqi,ud,xX,List.map_nil];exact All2.snoc (hall.mono fun _ _ h=>h.mono hE.ext) ⟨_,_,_,rfl,hd2⟩
   · intro cs hcs
     rcases xD.1 hcs with h | h
     · exact hcl cs h
     · simp only[xr]at h; subst h; rfl
  ·
   intro hc18;clear hu16 hn16 hu17 hn17;simp only[xw,Bool.and_eq_false_iff,xe,xd]at hc18;have e:(madeP l size)=⟨false,size,sumL ((l.take k).map fun q=>opRaw q size),(l.take k).map fun q=>opRaw q size⟩:=by
    have h:l.take 6=l.take k:=by
     by_cases h6:k=6
     · rw[h6]
     · rw[ub (by omega),ub (by omega)]
    unfold madeP opsRaw;rw[h]
   refine xB (xx (xx (ug (vS (QwR (qq hS (g_ldO 1 (vs:=[.bool _,.int .i64 _,.int .i64 _,.slice _ _ _]) vY xz rfl rfl rfl rfl) (qe (qf 2 hS vY rfl rfl rfl (vs:=[.bool _,.int .i64 _,.int .i64 _,.slice _ _ _]) rfl rfl rfl (vJ rfl) (cs':=[_,_,_,_]) rfl) ?_)))))));clear hS;rintro _ w_12⟨rfl,hS⟩;refine QoN (vW (ret1 results52 (qz 2 hS vY xz rfl rfl rfl) ?_));obtain⟨I3,hS3,hI3,ho3⟩:=St.freezeRowR (hS.sel [true,false,false,false]) (xs:=(l.take k).map fun q=>opRaw q size) (by rw[xP,xi]; omega) hcl hall;rw[e];exact⟨I3,a,k,c,rfl,hS3,RSl.mono ho3 (Sub.refl _) fun _ _ h=>h.mono hI3⟩
theorem made_c (r : Int) (ad : Option Addr) (cap : Nat) (l : List Q4) (w0 : World) (I0 : Imm) (hI : Sat I0 w0) (hl : RFl I0 4 q4C (.slice ad l.length cap) l) (hq : ∀ q ∈ l, q.wf) (hr0 : 0 ≤ r) (hr1 : r ≤ 255) :
 Ctr prog 51 [.agg #[.int .u8 r,.slice ad l.length cap]] w0 (fun v w'=>∃I' a m c,v = .agg #[.bool (madeP l (r % 13)).lifted,.int .i64 (madeP l (r % 13)).in_,.int .i64 (madeP l (r % 13)).out,.slice a m c]∧Ext w0 I0 w' I'∧ROps I' (.slice a m c) (madeP l (r % 13)).ops):=by
 refine fn (n:=9) func51 rfl rfl rfl ?_;have hS:=St.start hI;refine QwR (qe (d_box (cs:=[.int .u8 _,.slice _ _ _]) hS rfl) ?_);clear hS;rintro _ w_1⟨b_1,rfl,hS⟩;refine qe (qv (cs:=[.bool _,.int .i64 _,.int .i64 _,.slice _ _ _]) hS xt rfl) ?_;clear hS;rintro _ w_2⟨b_2,rfl,hS⟩;refine QoR (qq hS (g_ldO 1 (vs:=[.int .u8 _,.slice _ _ _]) QC isAgg109 rfl rfl rfl rfl) (qq hS (qa (o':=0) Qu rfl xj rfl rfl rfl) (qq hS (qd 1 xV rfl rfl rfl) (qq hS (jI xH ui rfl (by omega) (by omega)) (qq hS (g_rem rfl rfl (by omega) (by omega)) (qe (qg call52 rfl (sized_c r ad cap l (r % 13) _ I0 hS.imm hl hq (by omega) (by omega))) ?_))))));rintro _ w_3⟨I2,a2,m2,c2,rfl,hE,hd2⟩;replace hS:=hS.callE hE;refine qe (qf 0 hS vY rfl rfl rfl (vs:=[.bool _,.int .i64 _,.int .i64 _,.slice _ _ _]) rfl rfl rfl (vJ rfl) (cs':=[_,_,_,_]) rfl) ?_;clear hS;rintro _ w_4⟨rfl,hS⟩;refine QoN (vW (ret1 results51 (qz 0 hS vY xz rfl rfl rfl) ?_));exact⟨I2,a2,m2,c2,rfl,hS.nil,hd2⟩
end Go.Proofs.YtgkgihnpjgbmhaaGreatDoor
