/- Ways of package graph: comparing them, the least of them; slices.Concat of lists of numbers. Conditions: numbers within bounds. -/
import Derived.Test.YtcajgkfgjpfmaaaGreatKGrf
import Derived.Test.YtcajgkfgjpfmaaaGreatKCore4
import Derived.Test.YtcajgkfgjpfmaaaGreatIns
import Derived.Test.YtcajgkfgjpfmaaaGreatKComp
import Derived.Test.YtcajgkfgjpfmaaaGreatKCore2
set_option linter.unusedSimpArgs false
set_option linter.unusedVariables false
namespace Go.Proofs.YtcajgkfgjpfmaaaGreat
open Tryz
open Go Go.RowKit Go.Inl
theorem g_toX {P:Program}{ρ:Operand→Value}{S:World→Prop}{op:Op}{ty:TypeId}{v v':Value}(h:Gives P ρ S op ty v)(e:v=v'):Gives P ρ S op ty v':=by subst e; exact h
theorem g_neqFX {P:Program}{n:Nat}{σ:Nat→Value}{S:World→Prop}{t t' ty:TypeId}{x y:Operand}{k:IntKind}{a b:Int}(hx:ev n σ x = .int k a)(hy:ev n σ y = .int k b)(h:a=b):Gives P (ev n σ) S (.binOp .neq t x y t') ty (.bool false):=g_toX (g_neq hx hy) (by rw[uK h]; rfl)
def RWay (I:Imm)(cs:List Value)(d:WayL):Prop:=∃a c b,cs=[.slice a d.l.length c,.int .i64 d.c,.bool d.is,.bool b]∧RFl I 1 intC (.slice a d.l.length c) d.l
theorem RWay.mono {I J:Imm}{cs:List Value}{d:WayL}(h:RWay I cs d)(hs:Inl.Sub I J):RWay J cs d:=by
 obtain⟨a,c,b,h1,h2⟩:=h;exact⟨a,c,b,h1,h2.mono hs⟩
def RWays (I:Imm)(v:Value)(l:List WayL):Prop:=RSl I 4 (RWay I) v l
theorem RWays.mono {I J:Imm}{v:Value}{l:List WayL}(h:RWays I v l)(hs:Inl.Sub I J):RWays J v l:=RSl.mono h hs fun _ _ h=>h.mono hs
def RIntC (I:Imm)(cs:List Value)(l:List Int):Prop:=∃a c,cs=[.slice a l.length c]∧RFl I 1 intC (.slice a l.length c) l
theorem RIntC.mono {I J:Imm}{cs:List Value}{l:List Int}(h:RIntC I cs l)(hs:Inl.Sub I J):RIntC J cs l:=by
 obtain⟨a,c,h1,h2⟩:=h;exact⟨a,c,h1,h2.mono hs⟩
def RInts (I:Imm)(v:Value)(l:List (List Int)):Prop:=RSl I 1 (RIntC I) v l
theorem RInts.mono {I J:Imm}{v:Value}{l:List (List Int)}(h:RInts I v l)(hs:Inl.Sub I J):RInts J v l:=RSl.mono h hs fun _ _ h=>h.mono hs
theorem flattenI_le {n:Nat}{l:List (List Int)}(h:∀x∈l,x.length≤n):l.flatten.length≤n*l.length:=by
 induction l with
 | nil=>simp
 | cons x l ih =>
   have h1:=h x (by simp);have h2:=ih fun y hy=>h y (by simp[hy])
   simp only[List.flatten_cons,ug,uP,Nat.mul_add,Nat.mul_one];omega
theorem xk : ∀ {a b : List Int} {k : Nat}, k ≤ a.length → k ≤ b.length → (∀ i, i < k → a[i]? = b[i]?) → cmpL a b = cmpL (a.drop k) (b.drop k)
 | _,_,0,_,_,_=>by simp
 | [],_,k+1,h,_,_=>by simp at h
 | _::_,[],k+1,_,h,_=>by simp at h
 | x::a,y::b,k+1,h1,h2,h3=>by
   have e:x=y:=by have:=h3 0 (by omega); simpa using this
   subst e;rw[List.drop_succ_cons,List.drop_succ_cons];show(if x < x then -1 else if x < x then 1 else cmpL a b)=_
   rw[ud (Int.lt_irrefl _),ud (Int.lt_irrefl _)];exact xk (by simpa using h1) (by simpa using h2) fun i hi=>by have:=h3 (i+1) (by omega); simpa using this
theorem ext_stepX {α:Type}{l m:List α}{k:Nat}{x y:α}(h:∀i,i < k→l[i]? = m[i]?)(hx:l[k]? = some x)(hy:m[k]? = some y)(e:x=y):∀i,i < k+1→l[i]? = m[i]? := fun i hi=>by
 rcases Qk.1 hi with g | g
 · exact h i g
 · subst g; rw[hx,hy,e]
theorem zn {α:Type}{l:List α}{k:Nat}{x:α}(h:l[k]? = some x):l.drop k=x::l.drop (k+1):=by
 obtain⟨h1,h2⟩:=uc.1 h;rw[List.drop_eq_getElem_cons h1,h2]
structure MinW where
 k:Nat
 a:Option Addr
 c:Nat
 b:Bool
 M:WayL
theorem cnanX_c (n:Int)(w0:World)(I0:Imm)(hI:Sat I0 w0):Ctr prog 144 [.int .i64 n] w0 (fun v w'=>v = .bool false∧Ext w0 I0 w' I0):=by
 refine fn (n:=6) func144 rfl rfl rfl ?_;have hS:=St.start hI;refine QwR (qq hS (Qab rfl) (QoR (qq hS (Qmi rfl) (qq hS (Qmi rfl) (qq hS (g_neqFX rfl rfl rfl) (qq hS (Qab rfl) (QoN (ub (ret1 results144 (qr (v:=.bool _) rfl) ?_)))))))));exact⟨rfl,hS.nil⟩
theorem cmpI_c (a b:Int)(w0:World)(I0:Imm)(hI:Sat I0 w0):Ctr prog 147 [.int .i64 a,.int .i64 b] w0 (fun v w'=>v = .int .i64 (cmpI a b)∧Ext w0 I0 w' I0):=by
 refine fn (n:=20) func147 rfl rfl rfl ?_;have hS:=St.start hI;refine QwR (qq hS (Qai rfl) (QoR (qq hS (Qmi rfl) (qe (ql call144 rfl (cnanX_c a _ I0 hS.imm)) ?_))));rintro _ w_1⟨rfl,hE⟩;replace hS:=hS.callE hE;refine qq hS (Qab rfl) (QoR (qq hS (Qmi rfl) (qe (ql call144 rfl (cnanX_c b _ I0 hS.imm)) ?_)));rintro _ w_2⟨rfl,hE⟩;replace hS:=hS.callE hE;refine qq hS (Qab rfl) (QoN (xL (QwR (qq hS (Qmb rfl) (QoN (qV (rfl) (xZ (xN (xL (QwR (qq hS (Qmb rfl) (QoN (qV (rfl) (xZ (xN (xL (QwR (qq hS (Qmi rfl) (qq hS (Qmi rfl) (qq hS (g_lss rfl rfl) (QoN (qo rfl ?_ ?_))))))))))))))))))))))
 ·
  intro hc16
  try simp only[zA,zO,zN,zI,zF,zM,zT,zU]at hc16
  have e:cmpI a b = -1:=ui hc16;refine QwR (qq hS (Qai rfl) (QoN (ub (uw (ret1 results147 (qr (v:=.int .i64 _) rfl) ?_)))));exact⟨by rw[e] <;> rfl,hS.nil⟩
 ·
  intro hc16
  try simp only[zA,zO,zN,zI,zF,zM,zT,zU]at hc16
  refine xZ (xN (xL (QwR (qq hS (Qmi rfl) (qq hS (Qmi rfl) (qq hS (g_gtr rfl rfl) (QoN (qo rfl ?_ ?_))))))))
  ·
   intro hc19
   try simp only[zA,zO,zN,zI,zF,zM,zT,zU]at hc19
   have e:cmpI a b=1:=by unfold cmpI; rw[ud hc16,ui hc19]
   refine QwR (qq hS (Qai rfl) (QoN (ub (uw (ret1 results147 (qr (v:=.int .i64 _) rfl) ?_)))));exact⟨by rw[e] <;> rfl,hS.nil⟩
  ·
   intro hc19
   try simp only[zA,zO,zN,zI,zF,zM,zT,zU]at hc19
   have e:cmpI a b=0:=by unfold cmpI; rw[ud hc16,ud hc19]
   refine xZ (xN (QwR (qq hS (Qai rfl) (QoN (ub (ret1 results147 (qr (v:=.int .i64 _) rfl) ?_))))));exact⟨by rw[e] <;> rfl,hS.nil⟩
set_option maxHeartbeats 1000000 in
theorem cmpL_c (ad bd : Option Addr) (cap capb : Nat) (l m : List Int) (w0 : World) (I0 : Imm) (hI : Sat I0 w0) (hl : RFl I0 1 intC (.slice ad l.length cap) l) (hm : RFl I0 1 intC (.slice bd m.length capb) m) :
 Ctr prog 148 [.slice ad l.length cap,.slice bd m.length capb] w0 (fun v w'=>v = .int .i64 (cmpL l m)∧Ext w0 I0 w' I0):=by
 have hle:=RSl.le hl;have hlm:=RSl.le hm;simp only[maxLen]at hle hlm;refine fn (n:=36) func148 rfl rfl rfl ?_;have hS:=St.start hI;refine QwR (qq hS (Qai rfl) (QoN (xL (QwR (qq hS (qk _) (qq hS (qz rfl ua hl rfl) (qq hS (Qmi rfl) (QoN (uk (loop (fun(k:Nat) σ w=>okS σ [(0,.slice ad l.length cap),(1,.slice bd m.length capb),(9,.slice ad l.length cap),(10,.int .i64 l.length),(11,.int .i64 k)]∧St [] w0 I0 I0 w []∧(k≤l.length∧k≤m.length)∧∀i,i < k→l[i]? = m[i]?) (fun k=>l.length - k) (0) ?_ ?_))))))))))
 ·
  exact⟨⟨rfl,rfl,rfl,rfl,rfl,trivial⟩,hS.sel [],by omega,fun i hi=>by omega⟩
 ·
  rintro k σ w_l⟨hs,hS,⟨hk,hkm⟩,hsame⟩;rw[← qx hs]; clear hs
  refine QwR (qq hS (g_lss rfl rfl) (QoN (xL (qo rfl ?_ ?_))))
  ·
   intro hc12
   try simp only[zA,zO,zN,zI,zF,zM,zT,zU]at hc12
   obtain⟨x,hxi⟩:∃x,l[k]? = some x:=⟨_,xW (by omega)⟩
   have hxA:=hl.at hxi;refine xZ (xN (xL (uk (QwR (qq hS (Qmi rfl) (qq hS (g_ixI ua xX hl rfl rfl (by omega) (by omega)) (qq hS (qC uj hxA rfl rfl) (qq hS (Qai rfl) (qq hS (Qai rfl) (QoN (xL (QwR (qq hS (Qmi rfl) (qq hS (qk _) (qq hS (qz rfl ua hm rfl) (qq hS (g_geq rfl rfl) (QoN (qo rfl ?_ ?_))))))))))))))))))
   ·
    intro hc19
    try simp only[zA,zO,zN,zI,zF,zM,zT,zU]at hc19
    have hkm2:k=m.length:=by omega
    have hq:=xk (by omega) hkm hsame;rw[zn hxi,hkm2,List.drop_length]at hq;have e:cmpL l m=1:=hq;refine QwR (qq hS (Qai rfl) (QoN (ub (uw (Qs (uw (uw (Qs (uw (ret1 results148 (qr (v:=.int .i64 _) rfl) ?_))))))))));exact⟨by rw[e] <;> rfl,hS.nil⟩
   ·
    intro hc19
    try simp only[zA,zO,zN,zI,zF,zM,zT,zU]at hc19
    obtain⟨y,hyi⟩:∃y,m[k]? = some y:=⟨_,xW (by omega)⟩
    have hyA:=hm.at hyi;refine xZ (xN (QwR (qq hS (qk _) (qq hS (Qmi rfl) (qq hS (g_ixI ua xX hm rfl rfl (by omega) (by omega)) (qq hS (qC uj hyA rfl rfl) (qq hS (Qai rfl) (QoR (qq hS (Qmi rfl) (qq hS (Qmi rfl) (qe (ql call147 rfl (cmpI_c x y _ I0 hS.imm)) ?_)))))))))));rintro _ w_1⟨rfl,hE⟩;replace hS:=hS.callE hE;refine qq hS (Qai rfl) (QoR (qq hS (Qmi rfl) (qq hS (g_neq rfl rfl) (QoN (qo rfl ?_ ?_)))))
    ·
     intro hc28;simp only[xT,xM,xS,xO]at hc28;have hq:=xk (by omega) hkm hsame;rw[zn hxi,zn hyi]at hq;have e:cmpL l m=cmpI x y:=by
      rw[hq];unfold cmpI at hc28 ⊢;show(if x < y then -1 else if y < x then 1 else cmpL _ _)=_
      split
      · rfl
      · split
        · rfl
        · rename_i h1 h2; rw[ud h1,ud h2]at hc28; exact absurd rfl hc28
     refine QwR (qq hS (Qmi rfl) (qq hS (Qai rfl) (QoN (ub (Qs (uw (uw (Qs (uw (ret1 results148 (qr (v:=.int .i64 _) rfl) ?_))))))))));exact⟨by rw[e] <;> rfl,hS.nil⟩
    ·
     intro hc28;simp only[xT,xM,xS,xO]at hc28;have hst:=ext_stepX hsame hxi hyi (cmpI_z.1 hc28);refine xZ (Qh (xN (reg (qq hS (g_add rfl rfl (by omega) (by omega)) (qq hS (Qmi rfl) ?_)))));exact⟨k+1,_,rfl,⟨⟨rfl,rfl,rfl,rfl,rfl,trivial⟩,hS.sel [],by omega,hst⟩,by omega⟩
  ·
   intro hc12
   try simp only[zA,zO,zN,zI,zF,zM,zT,zU]at hc12
   have hkn:k=l.length:=by omega
   subst hkn;have hq:=xk (uV _) hkm hsame;rw[List.drop_length]at hq;refine uD (uA (uA (Qw (xN (xL (QwR (qq hS (qk _) (qq hS (qz rfl ua hl rfl) (qq hS (qk _) (qq hS (qz rfl ua hm rfl) (qq hS (g_lss rfl rfl) (QoN (qo rfl ?_ ?_)))))))))))))
   ·
    intro hc35
    try simp only[zA,zO,zN,zI,zF,zM,zT,zU]at hc35
    have e:cmpL l m = -1:=by
     rw[hq];cases h:m.drop l.length with
     | nil=>have:=congrArg List.length h; rw[Qj]at this; simp at this; omega
     | cons y r=>rfl
    refine QwR (qq hS (Qai rfl) (QoN (ub (uw (ret1 results148 (qr (v:=.int .i64 _) rfl) ?_)))));exact⟨by rw[e] <;> rfl,hS.nil⟩
   ·
    intro hc35
    try simp only[zA,zO,zN,zI,zF,zM,zT,zU]at hc35
    have e:cmpL l m=0:=by
     rw[hq,QI (by omega)]; rfl
    refine xZ (xN (QwR (qq hS (Qai rfl) (QoN (ub (ret1 results148 (qr (v:=.int .i64 _) rfl) ?_))))));exact⟨by rw[e] <;> rfl,hS.nil⟩
theorem or3_c (x y z : Int) (a : Option Addr) (c : Nat) (w0 : World) (I0 : Imm) (hI : Sat I0 w0) (hl : RFl I0 1 intC (.slice a 3 c) [x, y, z]) :
 Ctr prog 146 [.slice a 3 c] w0 (fun v w'=>v = .int .i64 (orI x (orI y z))∧Ext w0 I0 w' I0):=by
 obtain⟨l,hll⟩:∃l,[x,y,z]=l:=⟨_,rfl⟩
 rw[hll]at hl;have hl3:l.length=3:=by rw[← hll]; rfl
 refine fn (n:=18) func146 rfl rfl rfl ?_;have hS:=St.start hI;refine QwR (qq hS (Qai rfl) (QoR (qq hS (Qai rfl) (QoN (xL (QwR (qq hS (qk _) (qq hS (qz rfl ua hl rfl) (qq hS (Qmi rfl) (QoN (uk (loop (fun(k:Nat) σ w=>okS σ [(3,.int .i64 0),(6,.slice a 3 c),(7,.int .i64 l.length),(8,.int .i64 k)]∧St [] w0 I0 I0 w []∧k≤3∧∀i v,i < k→l[i]? = some v→v=0) (fun k=>3 - k) (0) ?_ ?_))))))))))))
 ·
  exact⟨⟨rfl,rfl,rfl,rfl,trivial⟩,hS.sel [],by omega,fun i v hi=>by omega⟩
 ·
  rintro k σ w_l⟨hs,hS,hk,hzero⟩;rw[← qx hs]; clear hs
  refine QwR (qq hS (g_lss rfl rfl) (QoN (xL (qo rfl ?_ ?_))))
  ·
   intro hc9
   try simp only[zA,zO,zN,zI,zF,zM,zT,zU]at hc9
   obtain⟨u,hui⟩:∃u,l[k]? = some u:=⟨_,xW (by rw[← hll]; simp; omega)⟩
   have huA:=hl.at hui;refine xZ (xN (xL (uk (QwR (qq hS (g_ixI ua xX hl rfl rfl (by omega) (by omega)) (qq hS (qC uj huA rfl rfl) (qq hS (Qai rfl) (QoR (qq hS (Qmi rfl) (qq hS (Qmi rfl) (qq hS (g_neq rfl rfl) (QoN (qo rfl ?_ ?_)))))))))))))
   ·
    intro hc14;simp only[xT,xM,xS,xO]at hc14;have e:orI x (orI y z)=u:=by
     rcases(show k=0∨k=1∨k=2 by omega) with rfl | rfl | rfl
     · rw[← hll]at hui; cases hui; unfold orI; rw[ui hc14]
     · have h0 := hzero 0 x (by omega) (by rw [← hll]; rfl)
       rw[← hll]at hui; cases hui; unfold orI; rw[ud (by simp[h0]),ui hc14]
     · have h0 := hzero 0 x (by omega) (by rw [← hll]; rfl)
       have h1:=hzero 1 y (by omega) (by rw[← hll]; rfl);rw[← hll]at hui; cases hui; unfold orI; rw[ud (by simp[h0]),ud (by simp[h1])]
    refine QwR (qq hS (Qmi rfl) (qq hS (Qai rfl) (QoN (ub (Qs (uw (uw (Qs (uw (ret1 results146 (qr (v:=.int .i64 _) rfl) ?_))))))))));exact⟨by rw[e] <;> rfl,hS.nil⟩
   ·
    intro hc14;simp only[xT,xM,xS,xO]at hc14;have hz2:∀i v,i < k+1→l[i]? = some v→v=0:=fun i v hi hv=>by
     rcases Qk.1 hi with g | g
     · exact hzero i v g hv
     · subst g; rw[hui]at hv; cases hv; exact hc14
    refine xZ (Qh (xN (reg (qq hS (g_add rfl rfl (by omega) (by omega)) (qq hS (Qmi rfl) ?_)))));exact⟨k+1,_,rfl,⟨⟨rfl,rfl,rfl,rfl,trivial⟩,hS.sel [],by omega,hz2⟩,by omega⟩
  ·
   intro hc9
   try simp only[zA,zO,zN,zI,zF,zM,zT,zU]at hc9
   have e:orI x (orI y z)=0:=by
    have h0:=hzero 0 x (by omega) (by rw[← hll]; rfl);have h1:=hzero 1 y (by omega) (by rw[← hll]; rfl);have h2:=hzero 2 z (by omega) (by rw[← hll]; rfl);unfold orI; rw[ud (by simp[h0]),ud (by simp[h1])]; exact h2
   refine uD (uA (uA (Qw (xN (QwR (qq hS (Qmi rfl) (qq hS (Qai rfl) (QoN (ub (ret1 results146 (qr (v:=.int .i64 _) rfl) ?_))))))))));exact⟨by rw[e] <;> rfl,hS.nil⟩
set_option maxHeartbeats 1000000 in
theorem cmpW_c (d e : WayL) (ad ae : Option Addr) (cd ce : Nat) (bd be : Bool) (w0 : World) (I0 : Imm) (hI : Sat I0 w0) (hd : RFl I0 1 intC (.slice ad d.l.length cd) d.l) (he : RFl I0 1 intC (.slice ae e.l.length ce) e.l) :
 Ctr prog 121 [.agg #[.slice ad d.l.length cd,.int .i64 d.c,.bool d.is,.bool bd],.agg #[.slice ae e.l.length ce,.int .i64 e.c,.bool e.is,.bool be]] w0 (fun v w'=>v = .int .i64 (cmpW d e)∧Ext w0 I0 w' I0):=by
 have hld:=RSl.le hd;have hle:=RSl.le he;simp only[maxLen]at hld hle;refine fn (n:=40) func121 rfl rfl rfl ?_;have hS:=St.start hI;refine QwR (qe (d_box (cs:=[.slice _ _ _,.int .i64 _,.bool _,.bool _]) hS rfl) ?_);clear hS;rintro _ w_1⟨b2,rfl,hS⟩;refine qe (d_box (cs:=[.slice _ _ _,.int .i64 _,.bool _,.bool _]) hS rfl) ?_;clear hS;rintro _ w_2⟨b3,rfl,hS⟩;refine qq hS (Qai rfl) (QoN (xL (uk (QwR (qq hS (qb (o':=2) Jb rfl uC rfl rfl rfl) (qq hS (qi 1 QG rfl rfl rfl) (qq hS (qb (o':=2) Jb rfl uC rfl rfl rfl) (qq hS (qi 0 QG rfl rfl rfl) (qq hS (xD JE rfl rfl) (qq hS (Qmb rfl) (qu rfl rfl hS (fun hg=>(qb (o':=2) Jb rfl uC rfl rfl rfl)) ?_)))))))))));intro u12 hu12 hn12;refine qu rfl rfl hS (fun hg=>(qi 1 QG rfl (hu12 hg) rfl)) ?_;intro u13 hu13 hn13;refine qq hS (g_and rfl rfl (fun hq=>hu13 hq)) (qq hS (Qab rfl) (QoN (qo rfl ?_ ?_)))
 ·
  intro hc5;clear hu12 hn12 hu13 hn13;have h5:d.is≠e.is∧d.is=true:=by simpa using hc5
  have eq:cmpW d e = -1:=by unfold cmpW; rw[ui h5.1,ui h5.2]
  refine QwR (qq hS (Qai rfl) (QoN (ub (Qs (uw (ret1 results121 (qr (v:=.int .i64 _) rfl) ?_))))));exact⟨by rw[eq] <;> rfl,Ext.forget hS.nil⟩
 ·
  intro hc5;clear hu12 hn12 hu13 hn13;have h5:¬(d.is≠e.is∧d.is=true):=by simpa using hc5
  refine QwR (qq hS (qb (o':=2) Jb rfl uC rfl rfl rfl) (qq hS (qi 1 QG rfl rfl rfl) (qq hS (qb (o':=2) Jb rfl uC rfl rfl rfl) (qq hS (qi 0 QG rfl rfl rfl) (qq hS (xD JE rfl rfl) (qq hS (Qab rfl) (QoN (qo rfl ?_ ?_))))))))
  ·
   intro hc15;have h15:d.is≠e.is:=by simpa using hc15
   have eq:cmpW d e=1:=by unfold cmpW; rw[ui h15,ud (fun h=>h5 ⟨h15,h⟩)]
   refine QwR (qq hS (Qai rfl) (QoN (ub (Qs (uw (ret1 results121 (qr (v:=.int .i64 _) rfl) ?_))))));exact⟨by rw[eq] <;> rfl,Ext.forget hS.nil⟩
  ·
   intro hc15;have h15:¬d.is≠e.is:=by simpa using hc15
   have eq:cmpW d e=orI (cmpI d.c e.c) (orI (cmpI (d.l.length:Int) (e.l.length:Int)) (cmpL d.l e.l)):=by unfold cmpW; rw[ud h15]
   refine xZ (Qh (xN (xL (draw (.cons 0 .pure (.cons 1 .held (.cons 2 .pure (.cons 3 .held (.cons 5 .pure (.cons 6 .held (.cons 7 .pure (.cons 8 .pure (.cons 9 .held (.cons 10 .pure (.cons 12 .pure (.cons 13 .held (.cons 14 .pure (.cons 15 .held (.cons 4 .eff (.cons 11 .eff (.cons 16 .eff (.cons 17 .eff (.cons 18 .eff (.cons 19 .pure .nil)))))))))))))))))))) mixed (by kernel_rfl) hS ?_))));intro w_3 hS;refine sp rfl (qb (o':=1) Jb rfl xX rfl rfl rfl) (sh rfl (qi 1 uj rfl rfl rfl) (sp rfl (qb (o':=1) Jb rfl xX rfl rfl rfl) (sh rfl (qi 0 uj rfl rfl rfl) (sp rfl (qb (o':=0) Jb rfl uo rfl rfl rfl) (sh rfl (qi 1 uF rfl rfl rfl) (sp rfl (qz rfl ua hd rfl) (sp rfl (qb (o':=0) Jb rfl uo rfl rfl rfl) ?_)))))));refine sh rfl (qi 0 uF rfl rfl rfl) (sp rfl (qz rfl ua he rfl) (sp rfl (qb (o':=0) Jb rfl uo rfl rfl rfl) (sh rfl (qi 1 uF rfl rfl rfl) (sp rfl (qb (o':=0) Jb rfl uo rfl rfl rfl) (sh rfl (qi 0 uF rfl rfl rfl) ?_)))));have hS0:=hS;refine se rfl (ql call147 rfl (cmpI_c d.c e.c _ _ hS.imm)) ?_;rintro _ w_4⟨rfl,hE⟩;replace hS:=hS.call hE;refine⟨_,_,hS0.le hE.ext (xY _),hS,?_⟩;have hS0:=hS;refine se rfl (ql call147 rfl (cmpI_c (d.l.length:Int) (e.l.length:Int) _ _ hS.imm)) ?_;rintro _ w_5⟨rfl,hE⟩;replace hS:=hS.call hE;refine⟨_,_,hS0.le hE.ext (xY _),hS,?_⟩;have hS0:=hS;refine se rfl (ql call148 rfl (cmpL_c ad ae cd ce d.l e.l _ _ hS.imm hd he)) ?_;rintro _ w_6⟨rfl,hE⟩;replace hS:=hS.call hE;refine⟨_,_,hS0.le hE.ext (xY _),hS,?_⟩;have hS0:=hS;refine se rfl (d_lit (vs:=[.int .i64 _,.int .i64 _,.int .i64 _]) (cs:=[.int .i64 _,.int .i64 _,.int .i64 _]) hS ua xX QA rfl rfl rfl rfl (fun v hv=>by simp only[uq,ur,or_false]at hv; rcases hv with rfl | rfl | rfl <;> rfl) rfl) ?_
   rintro _ w_7⟨b38,rfl,hS⟩;have hF:=hS.freeze1;clear hS;obtain⟨I38,hS,hI38,hb38⟩:=hF;replace hd:=hd.mono hI38;replace he:=he.mono hI38;have h38:=RFl.ofAt qH [cmpI d.c e.c,cmpI (d.l.length:Int) (e.l.length:Int),cmpL d.l e.l] hb38 rfl (by show 3≤maxLen; decide);refine⟨_,_,hS0.le hI38 (xY _),hS,?_⟩;have hS0:=hS;refine se rfl (ql call146 rfl (or3_c _ _ _ _ _ _ _ hS.imm h38)) ?_;rintro _ w_8⟨rfl,hE⟩;replace hS:=hS.call hE;refine⟨_,_,hS0.le hE.ext (xY _),hS,sp rfl (Qai rfl) (sn (xN (ub (ret1 results121 (qr (v:=.int .i64 _) rfl) ?_))))⟩;exact⟨by rw[eq] <;> rfl,Ext.forget hS.nil⟩
theorem growI_c (m : Int) (w0 : World) (I0 : Imm) (hI : Sat I0 w0) (hm : 0 ≤ m ∧ m ≤ 1073741824) :
 Ctr prog 150 [.slice none 0 0,.int .i64 m] w0 (fun v w'=>∃a c,v = .slice a 0 c∧St [] w0 I0 I0 w' [.row (.slice a 0 c) 3 1 0 []]):=by
 refine fn (n:=27) func150 rfl rfl rfl ?_;have hS:=St.start hI;refine QwR (qq hS (qy _) (QoN (xL (QwR (qq hS (Qmi rfl) (qq hS (g_lss rfl rfl) (QoN (qV (bF (by omega)) (xZ (xN (xL (QwR (qq hS (Qmi rfl) (qq hS (qk _) (qq hS (g_capS rfl ua rfl) (qq hS (qk _) (qq hS (yW rfl ua rfl) (qq hS (g_sub rfl rfl (by omega) (by omega)) (qq hS (g_sub rfl rfl (by omega) (by omega)) ?_)))))))))))))))))));refine qq hS (Qai rfl) (QoR (qq hS (Qmi rfl) (qq hS (g_gtr rfl rfl) (QoN (qo rfl ?_ ?_)))))
 ·
  intro hc16
  try simp only[zA,zO,zN,zI,zF,zM,zT,zU]at hc16
  refine reg (qq hS (qk _) (qq hS (qk _) (qq hS (g_capS rfl ua rfl) (qq hS (zV (h0:=0) ua xX rfl rfl (by decide) (by decide) (by decide)) (qq hS (Qmi rfl) (qe (d_appendZ hS rfl ua Qg info3 rfl rfl rfl rfl (by omega) (by omega) (by omega)) ?_))))));clear hS;rintro _ w_1⟨b22,c22,rfl,h22,hS⟩;refine qq hS (qk _) (qq hS (yW rfl ua rfl) (qq hS (zV (h0:=0) ua xX rfl rfl (by omega) (by omega) (by omega)) (qq hS (qy _) (QoR (qq hS (qk _) (qq hS (qy _) (QoN (ub (ret1 results150 (qr rfl) ?_)))))))));have hc22:c22≠0:=by omega
  have e:(if c22=0 then some (⟨b22,0,none⟩:Addr) else Option.map (fun(x:Addr)=>x.add (0*1)) (some ⟨b22,0,none⟩))=some ⟨b22,0,none⟩:=by simp[hc22,Addr.add]
  refine⟨some ⟨b22,0,none⟩,c22,?_,hS⟩;show Value.slice (if c22=0 then some (⟨b22,0,none⟩:Addr) else Option.map (fun(x:Addr)=>x.add (0*1)) (some ⟨b22,0,none⟩)) 0 (c22 - 0)=_
  rw[e]; rfl
 ·
  intro hc16
  try simp only[zA,zO,zN,zI,zF,zM,zT,zU]at hc16
  refine xZ (xN (QwR (qq hS (qk _) (qq hS (qy _) (QoN (ub (ret1 results150 (qr rfl) ?_)))))));exact⟨_,_,rfl,hS.nilRow _ _⟩
set_option maxHeartbeats 1000000 in
theorem xj (ad : Option Addr) (cap : Nat) (l : List (List Int)) (w0 : World) (I0 : Imm) (hI : Sat I0 w0) (hl : RInts I0 (.slice ad l.length cap) l) (hb : l.length ≤ 64) (hs : ∀ x ∈ l, x.length ≤ 65536) :
 Ctr prog 125 [.slice ad l.length cap] w0 (fun v w'=>∃I' a c,v = .slice a l.flatten.length c∧Ext w0 I0 w' I'∧RFl I' 1 intC (.slice a l.flatten.length c) l.flatten):=by
 have hsum:∀k,(l.take k).flatten.length≤65536*64:=fun k=>by
  have:=flattenI_le (l:=l.take k) (fun x hx=>hs x (List.mem_of_mem_take hx));have h2:(l.take k).length≤l.length:=by rw[uT]; omega
  omega
 refine fn (n:=36) func125 rfl rfl rfl ?_;have hS:=St.start hI;refine QwR (qq hS (qy _) (QoR (qq hS (Qai rfl) (QoN (xL (QwR (qq hS (qk _) (qq hS (qz rfl Kl hl rfl) (qq hS (Qmi rfl) (QoN (uk (loop (fun(k:Nat) σ w=>okS σ [(0,.slice ad l.length cap),(3,.int .i64 (l.take k).flatten.length),(9,.slice ad l.length cap),(10,.int .i64 l.length),(11,.int .i64 k)]∧St [] w0 I0 I0 w []∧k≤l.length) (fun k=>l.length - k) (0) ?_ ?_))))))))))))
 ·
  exact⟨⟨rfl,rfl,rfl,rfl,rfl,trivial⟩,hS.sel [],by simp⟩
 ·
  rintro k σ w_l⟨hs,hS,hk0⟩;rw[← qx hs]; clear hs
  refine QwR (qq hS (g_lss rfl rfl) (QoN (xL (qo rfl ?_ ?_))))
  ·
   intro hc12
   try simp only[zA,zO,zN,zI,zF,zM,zT,zU]at hc12
   obtain⟨x,hxi⟩:∃x,l[k]? = some x:=⟨_,xW (by omega)⟩
   obtain⟨csx,hclx,hxA,hxc⟩:=RSl.at hl hxi;obtain⟨ax,cx,rfl,hxl⟩:=hxc;have hxs:=hs x (uf hxi);have hsk:=hsum k;have hsk1:=hsum (k+1);refine xZ (xN (xL (uk (QwR (qq hS (g_ixI Kl uo hl rfl rfl (by omega) (by omega)) (qq hS (qC uF hxA rfl rfl) (qq hS (qy _) (QoR (qq hS (Qmi rfl) (qq hS (qk _) (qq hS (qz rfl ua hxl rfl) (qq hS (g_add rfl rfl (by omega) (by omega)) (qq hS (Qai rfl) (QoR (qq hS (Qmi rfl) (qq hS (g_lss rfl rfl) ?_))))))))))))))));refine QoN (qV (bF (by omega)) (xZ (Qh (xN (reg (qq hS (g_add rfl rfl (by omega) (by omega)) (qq hS (Qmi rfl) ?_)))))));have e:(((l.take k).flatten.length:Nat):Int)+x.length=(l.take (k+1)).flatten.length:=by rw[qL hxi,QT,ug,List.flatten_singleton]; omega
   rw[e];exact⟨k+1,_,rfl,⟨⟨rfl,rfl,rfl,rfl,rfl,trivial⟩,hS.sel [],by omega⟩,by omega⟩
  ·
   intro hc12
   try simp only[zA,zO,zN,zI,zF,zM,zT,zU]at hc12
   have hk:k=l.length:=by omega
   subst hk;have hsk:=hsum l.length;refine uD (uA (uA (Qw (xN (QwR (qq hS (Qmi rfl) (qe (ql call150 rfl (growI_c _ _ _ hS.imm (by omega))) ?_)))))));rintro _ w_1⟨a24,c24,rfl,hE⟩;replace hS:=hS.call hE;refine qq hS (qy _) (QoN (xL (QwR (qq hS (qk _) (qq hS (qz rfl Kl hl rfl) (qq hS (Qmi rfl) (QoN (uk (loop (fun(x:Nat×Option Addr×Nat) σ w=>okS σ [(0,.slice ad l.length cap),(6,.slice x.2.1 (l.take x.1).flatten.length x.2.2),(25,.slice ad l.length cap),(26,.int .i64 l.length),(27,.int .i64 x.1)]∧St [] w0 I0 I0 w [.row (.slice x.2.1 (l.take x.1).flatten.length x.2.2) 3 1 (l.take x.1).flatten.length (flat intC (l.take x.1).flatten)]∧x.1≤l.length) (fun x=>l.length - x.1) ((0,a24,c24)) ?_ ?_)))))))))
   ·
    exact⟨⟨rfl,rfl,rfl,rfl,rfl,trivial⟩,hS.sel [true],by simp⟩
   ·
    rintro⟨k,a,c⟩σ w_l⟨hs,hS,hk0⟩;dsimp only at hs hS hk0 ⊢;rw[← qx hs]; clear hs
    refine QwR (qq hS (g_lss rfl rfl) (QoN (xL (qo rfl ?_ ?_))))
    ·
     intro hc28
     try simp only[zA,zO,zN,zI,zF,zM,zT,zU]at hc28
     obtain⟨x,hxi⟩:∃x,l[k]? = some x:=⟨_,xW (by omega)⟩
     obtain⟨csx,hclx,hxA,hxc⟩:=RSl.at hl hxi;obtain⟨ax,cx,rfl,hxl⟩:=hxc;have hxs:=hs x (uf hxi);have hsk:=hsum k;have hsk1:=hsum (k+1);refine xZ (xN (xL (uk (QwR (qq hS (g_ixI Kl uo hl rfl rfl (by omega) (by omega)) (qq hS (qC uF hxA rfl rfl) (qq hS (qy _) (QoN (reg (qq hS (qk _) (qq hS (qk _) (qe (jc 0 hS rfl ua info3 rfl rfl rfl rfl qH (fun _=>rfl) hxl rfl (by omega) (by omega)) ?_))))))))))));clear hS;rintro _ w_2⟨a33,p33,rfl,hS⟩;refine qq hS (qy _) (qh (Qh (xN (reg (qq hS (g_add rfl rfl (by omega) (by omega)) (qq hS (Qmi rfl) ?_))))));have e:(l.take k).flatten++x=(l.take (k+1)).flatten:=by rw[qL hxi,QT,List.flatten_singleton]
     refine⟨(k+1,a33,p33),_,rfl,⟨⟨rfl,?_,rfl,rfl,rfl,trivial⟩,?_,by dsimp only; omega⟩,by dsimp only; omega⟩
     · dsimp only; rw[← e,ug]; rfl
     · dsimp only; rw[← e,ug,qB]; exact hS.sel [true]
    ·
     intro hc28
     try simp only[zA,zO,zN,zI,zF,zM,zT,zU]at hc28
     have hk:k=l.length:=by omega
     subst hk;rw[Qq]at hS;refine uD (uA (uA (Qw (xN (QwR (qq hS (qk _) (qq hS (qy _) (QoN (ub (ret1 results125 (qr rfl) ?_))))))))));obtain⟨I1,hE1,hI1,hd1⟩:=qS qH (xs:=l.flatten) (hS.sel [true]) rfl;exact⟨I1,a,c,by show Value.slice a (l.take l.length).flatten.length c=_; rw[Qq],hE1,hd1⟩
theorem ways1_c (d e : WayL) (b : Nat) (ad ae : Option Addr) (cd ce : Nat) (bd be : Bool) (w0 : World) (I0 : Imm) (hI : Sat I0 w0) (hb : atI I0 ⟨b, 0, none⟩ [.slice ae e.l.length ce, .int .i64 e.c, .bool e.is, .bool be]) (hd : RFl I0 1 intC (.slice ad d.l.length cd) d.l) (he : RFl I0 1 intC (.slice ae e.l.length ce) e.l) :
 Ctr prog 123 [.agg #[.slice ad d.l.length cd,.int .i64 d.c,.bool d.is,.bool bd],.pointer (some ⟨b,0,none⟩)] w0 (fun v w'=>v = .bool (decide (cmpW d e=0))∧Ext w0 I0 w' I0):=by
 refine fn (n:=8) func123 rfl rfl rfl ?_;have hS:=St.start hI;refine QwR (qe (d_box (cs:=[.slice _ _ _,.int .i64 _,.bool _,.bool _]) hS rfl) ?_);clear hS;rintro _ w_1⟨b2,rfl,hS⟩;refine qq hS (Qab rfl) (QoR (qq hS (g_ldO 0 (vs:=[.slice _ _ _,.int .i64 _,.bool _,.bool _]) QQ JR rfl rfl rfl rfl) (qq hS (g_ldB (c:=0) (us:=[.slice _ _ _,.int .i64 _,.bool _,.bool _]) QQ JR hb rfl rfl rfl) (qe (ql call121 rfl (cmpW_c d e ad ae cd ce bd be _ _ hS.imm hd he)) ?_))));rintro _ w_2⟨rfl,hE⟩;replace hS:=hS.callE hE;refine qq hS (g_eql rfl rfl) (qq hS (Qab rfl) (QoN (ub (ret1 results123 (qr (v:=.bool _) rfl) ?_))));exact⟨rfl,hS.nil⟩
set_option maxHeartbeats 1000000 in
theorem indexW_c (vl : Value) (l : List WayL) (e : WayL) (b : Nat) (ae : Option Addr) (ce : Nat) (be : Bool) (w0 : World) (I0 : Imm) (hI : Sat I0 w0) (hl : RWays I0 vl l) (hb : atI I0 ⟨b, 0, none⟩ [.slice ae e.l.length ce, .int .i64 e.c, .bool e.is, .bool be]) (he : RFl I0 1 intC (.slice ae e.l.length ce) e.l) (hm : e ∈ l) :
 Ctr prog 122 [vl,.func (.func 123) #[] #[.pointer (some ⟨b,0,none⟩)]] w0 (fun v w'=>∃r:Nat,v = .int .i64 r∧l[r]? = some e∧Ext w0 I0 w' I0):=by
 have hle:=RSl.le hl;simp only[maxLen]at hle;refine fn (n:=19) func122 rfl rfl rfl ?_;have hS:=St.start hI;refine QwR (qq hS (Qai rfl) (QoN (xL (QwR (qq hS (qk _) (qq hS (qz rfl Jn hl rfl) (qq hS (Qmi rfl) (QoN (uk (loop (fun(k:Nat) σ w=>okS σ [(0,vl),(1,.func (.func 123) #[] #[.pointer (some ⟨b,0,none⟩)]),(7,.int .i64 l.length),(8,.int .i64 k)]∧St [] w0 I0 I0 w []∧k≤l.length∧∀i,i < k→l[i]? ≠ some e) (fun k=>l.length - k) (0) ?_ ?_))))))))))
 ·
  exact⟨⟨rfl,rfl,rfl,rfl,trivial⟩,hS.sel [],by omega,fun i hi=>by omega⟩
 ·
  rintro k σ w_l⟨hs,hS,hk0,hall⟩;rw[← qx hs]; clear hs
  refine QwR (qq hS (g_lss rfl rfl) (QoN (xL (qo rfl ?_ ?_))))
  ·
   intro hc9
   try simp only[zA,zO,zN,zI,zF,zM,zT,zU]at hc9
   obtain⟨x,hxi⟩:∃x,l[k]? = some x:=⟨_,xW (by omega)⟩
   obtain⟨csx,hclx,hxA,hxc⟩:=RSl.at hl hxi;obtain⟨ax,cx,bx,rfl,hxl⟩:=hxc;refine xZ (xN (xL (uk (QwR (qq hS (Qmi rfl) (qq hS (Qai rfl) (QoR (qq hS (qk _) (qq hS (qk _) (qq hS (Qmi rfl) (qq hS (g_ixI Jn QQ hl rfl rfl (by omega) (by omega)) (qq hS (g_ldE (us:=[.slice _ _ _,.int .i64 _,.bool _,.bool _]) QQ JR hxA rfl rfl rfl) (qe (zp call123 rfl rfl (ways1_c x e b ax ae cx ce bx be _ _ hS.imm hb hxl he)) ?_)))))))))))));rintro _ w_1⟨rfl,hE⟩;replace hS:=hS.callE hE;refine QoN (qo rfl ?_ ?_)
   ·
    intro hc16
    try simp only[zA,zO,zN,zI,zF,zM,zT,zU]at hc16
    have hx2:x=e:=cmpW_eq.1 hc16;subst hx2;refine QwR (qq hS (Qmi rfl) (qq hS (Qai rfl) (QoN (ub (Qs (uw (uw (Qs (uw (ret1 results122 (qr (v:=.int .i64 _) rfl) ?_))))))))));exact⟨k,rfl,hxi,hS.nil⟩
   ·
    intro hc16
    try simp only[zA,zO,zN,zI,zF,zM,zT,zU]at hc16
    have hnx:∀i,i < k+1→l[i]? ≠ some e:=fun i hi h=>by
     rcases Qk.1 hi with g | g
     · exact hall i g h
     · subst g; rw[hxi]at h; exact hc16 (cmpW_eq.2 (Option.some.inj h))
    refine xZ (Qh (xN (reg (qq hS (g_add rfl rfl (by omega) (by omega)) (qq hS (Qmi rfl) ?_)))));exact⟨k+1,_,rfl,⟨⟨rfl,rfl,rfl,rfl,trivial⟩,hS.sel [],by omega,hnx⟩,by omega⟩
  ·
   intro hc9
   try simp only[zA,zO,zN,zI,zF,zM,zT,zU]at hc9
   obtain⟨i,hi⟩:=Qm.1 hm;exact absurd hi (hall i (by have:=(uc.1 hi).1; omega))
set_option maxHeartbeats 1000000 in
theorem minW_c (vl : Value) (y : WayL) (r l : List WayL) (w0 : World) (I0 : Imm) (hI : Sat I0 w0) (hl : RWays I0 vl l) (hy : l = y :: r) :
 Ctr prog 120 [vl,.func (.func 121) #[] #[]] w0 (fun v w'=>∃(a:Option Addr) (c:Nat) (b:Bool),v = .agg #[.slice a (minF y r).l.length c,.int .i64 (minF y r).c,.bool (minF y r).is,.bool b]∧Ext w0 I0 w' I0∧RFl I0 1 intC (.slice a (minF y r).l.length c) (minF y r).l):=by
 have hle:=RSl.le hl;simp only[maxLen]at hle;have hln:l.length=r.length+1:=by rw[hy]; rfl
 obtain⟨z,hzi⟩:∃x,l[0]? = some x:=⟨_,xW (by omega)⟩
 obtain⟨csz,hclz,hzA,hzc⟩:=RSl.at hl hzi;obtain⟨az,cz,bz,rfl,hzl⟩:=hzc;have hzy:z=y:=by rw[hy]at hzi; exact(Option.some.inj hzi).symm
 subst hzy;refine fn (n:=33) func120 rfl rfl rfl ?_;have hS:=St.start hI;refine QwR (qe (qw (cs:=[.slice _ _ _,.int .i64 _,.bool _,.bool _]) hS JD rfl) ?_);clear hS;rintro _ w_1⟨b4,rfl,hS⟩;refine QoN (xL (QwR (qq hS (qk _) (qq hS (qz rfl Jn hl rfl) (qq hS (g_lss rfl rfl) (QoN (qV (bF (by omega)) (xZ (xN (QwR (qq hS (qk _) (qq hS (g_ixI Jn QQ hl rfl rfl (by omega) (by omega)) (qq hS (g_ldE (us:=[.slice _ _ _,.int .i64 _,.bool _,.bool _]) QQ JR hzA rfl rfl rfl) (qe (qw (cs:=[.slice _ _ _,.int .i64 _,.bool _,.bool _]) hS JD rfl) ?_))))))))))))));clear hS;rintro _ w_2⟨b5,rfl,hS⟩;refine qe (qj 0 hS QQ rfl rfl rfl (vs:=[.slice _ _ _,.int .i64 _,.bool _,.bool _]) rfl rfl rfl (xP rfl) (cs':=[_,_,_,_]) rfl) ?_;clear hS;rintro _ w_3⟨rfl,hS⟩;refine QoN (xL (QwR (qq hS (Qai rfl) (QoN (uk (loop (fun(x1:MinW) σ w=>okS σ [(0,vl),(1,.func (.func 121) #[] #[]),(4,.pointer (some ⟨b4,0,none⟩)),(5,.pointer (some ⟨b5,0,none⟩)),(6,.int .i64 x1.k)]∧St [] w0 I0 I0 w [.cel b5 161 [.slice x1.a x1.M.l.length x1.c,.int .i64 x1.M.c,.bool x1.M.is,.bool x1.b],.cel b4 161 [.slice none 0 0,.int .i64 0,.bool false,.bool false]]∧(1≤x1.k∧x1.k≤l.length)∧minF z (r.take (x1.k - 1))=x1.M∧RFl I0 1 intC (.slice x1.a x1.M.l.length x1.c) x1.M.l) (fun x1=>l.length - x1.k) (⟨1,az,cz,bz,z⟩) ?_ ?_))))))
 ·
  exact⟨⟨rfl,rfl,rfl,rfl,rfl,trivial⟩,hS.sel [true,true],by dsimp only; omega,rfl,hzl⟩
 ·
  rintro⟨k,aM,cM,bM,M⟩σ w_l⟨hs,hS,hk0,hMe,hMl⟩;dsimp only at hs hS hk0 hMe hMl ⊢;rw[← qx hs]; clear hs
  refine xL (QwR (qq hS (Qmi rfl) (qq hS (qk _) (qq hS (qz rfl Jn hl rfl) (qq hS (g_lss rfl rfl) (QoN (qo rfl ?_ ?_)))))))
  ·
   intro hc17
   try simp only[zA,zO,zN,zI,zF,zM,zT,zU]at hc17
   obtain⟨x,hxi⟩:∃x,l[k]? = some x:=⟨_,xW (by omega)⟩
   obtain⟨csx,hclx,hxA,hxc⟩:=RSl.at hl hxi;obtain⟨ax,cx,bx,rfl,hxl⟩:=hxc;have hrk:r[k - 1]? = some x:=by
    have:=hxi;rw[hy,show k=(k - 1)+1 by omega]at this;simpa using this
   have hms:=minF_snoc z (r.take (k - 1)) x;rw[hMe,← qL hrk,show k - 1+1=k+1 - 1 by omega]at hms;refine xZ (xN (xL (uk (xL (draw (.cons 0 .pure (.cons 1 .pure (.cons 2 .pure (.cons 3 .pure (.cons 4 .held (.cons 5 .held (.cons 6 .eff (.cons 7 .pure .nil)))))))) mixed (by kernel_rfl) hS ?_)))));intro w_4 hS;refine sp rfl (qk _) (sp rfl (qk _) (sp rfl (Qmi rfl) (sp rfl (g_ixI Jn QQ hl rfl rfl (by omega) (by omega)) (sh rfl (g_ldE (us:=[.slice _ _ _,.int .i64 _,.bool _,.bool _]) QQ JR hxA rfl rfl rfl) (sh rfl (g_ldO 0 (vs:=[.slice _ _ _,.int .i64 _,.bool _,.bool _]) QQ JR rfl rfl rfl rfl) ?_)))));have hS0:=hS;refine se rfl (zp call121 rfl rfl (cmpW_c x M ax aM cx cM bx bM _ _ hS.imm hxl hMl)) ?_;rintro _ w_5⟨rfl,hE⟩;replace hS:=hS.call hE;refine⟨_,_,hS0.le hE.ext (xY _),hS,sp rfl (g_lss rfl rfl) (sn (xN (qo rfl ?_ ?_)))⟩
   ·
    intro hc27
    try simp only[zA,zO,zN,zI,zF,zM,zT,zU]at hc27
    rw[ui hc27]at hms;refine reg (qq hS (qk _) (qq hS (Qmi rfl) (qq hS (g_ixI Jn QQ hl rfl rfl (by omega) (by omega)) (qq hS (g_ldE (us:=[.slice _ _ _,.int .i64 _,.bool _,.bool _]) QQ JR hxA rfl rfl rfl) (qe (qj 0 hS QQ rfl rfl rfl (vs:=[.slice _ _ _,.int .i64 _,.bool _,.bool _]) rfl rfl rfl (xP rfl) (cs':=[_,_,_,_]) rfl) ?_)))));clear hS;rintro _ w_6⟨rfl,hS⟩;refine qh (Qh (xN (reg (qq hS (Qmi rfl) (qq hS (g_add rfl rfl (by omega) (by omega)) (qq hS (Qai rfl) ?_))))))
    first
     | exact⟨⟨k+1,ax,cx,bx,x⟩,_,rfl,⟨⟨rfl,rfl,rfl,rfl,rfl,trivial⟩,hS.sel [true,true],by dsimp only; omega,hms,hxl⟩,by dsimp only; omega⟩
     | exact⟨⟨k+1,aM,cM,bM,M⟩,_,rfl,⟨⟨rfl,rfl,rfl,rfl,rfl,trivial⟩,hS.sel [true,true],by dsimp only; omega,hms,hMl⟩,by dsimp only; omega⟩
   ·
    intro hc27
    try simp only[zA,zO,zN,zI,zF,zM,zT,zU]at hc27
    rw[ud hc27]at hms;refine xZ (Qh (xN (reg (qq hS (Qmi rfl) (qq hS (g_add rfl rfl (by omega) (by omega)) (qq hS (Qai rfl) ?_))))))
    first
     | exact⟨⟨k+1,ax,cx,bx,x⟩,_,rfl,⟨⟨rfl,rfl,rfl,rfl,rfl,trivial⟩,hS.sel [true,true],by dsimp only; omega,hms,hxl⟩,by dsimp only; omega⟩
     | exact⟨⟨k+1,aM,cM,bM,M⟩,_,rfl,⟨⟨rfl,rfl,rfl,rfl,rfl,trivial⟩,hS.sel [true,true],by dsimp only; omega,hms,hMl⟩,by dsimp only; omega⟩
  ·
   intro hc17
   try simp only[zA,zO,zN,zI,zF,zM,zT,zU]at hc17
   have hkl:k - 1=r.length:=by omega
   rw[hkl,Qq]at hMe;refine uD (uA (uA (Qw (xN (QwR (qq hS (g_ldO 0 (vs:=[.slice _ _ _,.int .i64 _,.bool _,.bool _]) QQ JR rfl rfl rfl rfl) (qe (qj 1 hS QQ rfl rfl rfl (vs:=[.slice _ _ _,.int .i64 _,.bool _,.bool _]) rfl rfl rfl (xP rfl) (cs':=[_,_,_,_]) rfl) ?_)))))));clear hS;rintro _ w_7⟨rfl,hS⟩;refine QoN (ub (ret1 results120 (qD 1 hS QQ JR rfl rfl rfl) ?_));rw[hMe];exact⟨aM,cM,bM,rfl,hS.nil,hMl⟩
end Go.Proofs.YtcajgkfgjpfmaaaGreat
