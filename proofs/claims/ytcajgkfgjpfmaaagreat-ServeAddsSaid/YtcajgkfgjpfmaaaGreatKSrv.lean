/- Package serve: lists of numbers: slices.Clone, Index, Contains, Insert (with), DeleteFunc; Clip; fits; finding a way in a cache. Conditions: none. Package serve: open versions (slices.DeleteFunc, IndexFunc), and the patches of a way as one. Conditions: a valid graph; places of a way that are there. Package serve: offer, Best: what they compute. Conditions: a valid graph, and a patch for each link. Package serve: Escape, Withdraw, Collect: what they compute. Conditions: a valid graph, and a patch for each link. -/
import Derived.Test.YtcajgkfgjpfmaaaGreatGPath
import Derived.Test.YtcajgkfgjpfmaaaGreatKCore4
import Derived.Test.YtcajgkfgjpfmaaaGreatLayIns
import Derived.Test.YtcajgkfgjpfmaaaGreatKCore2
import Derived.Shelf.Spec.SlicesInsert
import Derived.Shelf.Spec.SlicesInsertGrow
import Derived.Test.YtcajgkfgjpfmaaaGreatKComp
set_option linter.unusedSimpArgs false
set_option linter.unusedVariables false
namespace Go.Proofs.YtcajgkfgjpfmaaaGreat
open Tryz
open Go Go.RowKit Go.Inl
theorem insOk:InsOk prog 81 3:=⟨Any2.slices_Insert_int_shift laysB21,Any2.slices_Insert_int_end_room laysB21,Any2.slices_Insert_int_end_grow laysB21,Any2.slices_Insert_int_grow laysB21⟩
def indexP (l:List Int)(v:Int):Int:=if v∈l then (l.findIdx fun x=>decide (x=v):Nat) else -1
theorem indexP_no {l:List Int}{v:Int}(h:v∉l):indexP l v = -1:=ud h
theorem indexP_at {l:List Int}{v:Int}{k:Nat}(h:l[k]? = some v)(hn:∀i,i < k→l[i]? ≠ some v):indexP l v=k:=by
 unfold indexP;rw[ui (uf h)];congr 1
 obtain⟨h1,h2⟩:=uc.1 h;rw[List.findIdx_eq h1];refine⟨by simpa using h2,fun j hj=>?_⟩;have:=hn j hj;rw[xW (by omega)]at this;simpa using this
theorem indexP_nn (l:List Int)(v:Int):decide (0≤indexP l v)=decide (v∈l):=by
 unfold indexP;by_cases h:v∈l
 · rw[ui h,uK h,uK (by omega)]
 · rw[ud h,uY h]; rfl
theorem take_no {l:List Int}{v:Int}(hn:∀i,i < l.length→l[i]? ≠ some v):v∉l:=fun h=>by
 obtain⟨i,hi⟩:=Qm.1 h;exact hn i (uc.1 hi).1 hi
structure EndL where
 f:Int
 t:Int
 i:Int
 o:Int
def fitsE (a b:EndL):Bool:=(((decide (a.f≠b.f) || decide (a.i=b.i)) && (decide (a.t≠b.t) || decide (a.o=b.o))) && (decide (a.t≠b.f) || decide (a.o=b.i))) && (decide (a.f≠b.t) || decide (a.i=b.o))
theorem srtP_new {l:List Int}{n:Int}(h:l.Pairwise (· < ·))(hn:n∉l):insI l n=l.take (posI l n)++n::l.drop (posI l n):=by
 have hs:=posI_srt h n;exact insI_new (posI_le l n) hn (fun i hi y hy=>(hs.low i y hy).2 hi) (fun y hy=>by
  have:=hs.low _ y hy;omega)
theorem cloneI_o (ad : Option Addr) (cap : Nat) (l : List Int) (w0 : World) (I0 : Imm) (hI : Sat I0 w0) (hl : RFl I0 1 intC (.slice ad l.length cap) l) (hn : l.length ≤ 65536) :
 Ctr prog 82 [.slice ad l.length cap] w0 (fun v w'=>∃a c,v = .slice a l.length c∧St [] w0 I0 I0 w' [.row (.slice a l.length c) 3 1 l.length (flat intC l)]):=by
 refine fn (n:=8) func82 rfl rfl rfl ?_;have hS:=St.start hI;refine QwR (qq hS (qy _) (QoN (xL (QwR (qq hS (qk _) (qq hS (g_eqSliceNilA ua rfl rfl) (QoN (qo rfl ?_ ?_))))))))
 ·
  intro hc4;have hl0:l=[]:=by
   rcases hl with ⟨_,h⟩ | ⟨b,o,c,h1,_⟩
   · exact h
   · simp only [Value.slice.injEq] at h1
     rw[h1.1]at hc4; cases hc4
  subst hl0;refine QwR (qq hS (qy _) (QoN (ub (uw (ret1 results82 (qr rfl) ?_)))));replace hS:=hS.nilRow 3 1;exact⟨none,0,rfl,hS⟩
 ·
  intro hc4;refine xZ (xN (QwR (qe (qN hS ua xX) ?_)));clear hS;rintro _ w_1⟨hS,b5_,rfl⟩;refine qq hS (qk _) (qe (jc 0 hS rfl ua info3 rfl rfl rfl rfl qH (fun _=>rfl) hl rfl (by omega) (by omega)) ?_);clear hS;rintro _ w_2⟨a7,p7,rfl,hS⟩;refine qq hS (qy _) (QoN (ub (ret1 results82 (qr rfl) ?_)));rw[Qz,Qu]at hS;exact⟨a7,p7,by show Value.slice a7 (0+l.length) p7=_; rw[Qu],hS.sel [true]⟩
theorem indexI_c (ad : Option Addr) (cap : Nat) (l : List Int) (v : Int) (w0 : World) (I0 : Imm) (hI : Sat I0 w0) (hl : RFl I0 1 intC (.slice ad l.length cap) l) :
 Ctr prog 79 [.slice ad l.length cap,.int .i64 v] w0 (fun u w'=>u = .int .i64 (indexP l v)∧Ext w0 I0 w' I0):=by
 have hle:=RSl.le hl;simp only[maxLen]at hle;refine fn (n:=19) func79 rfl rfl rfl ?_;have hS:=St.start hI;refine QwR (qq hS (Qai rfl) (QoN (xL (QwR (qq hS (qk _) (qq hS (qz rfl ua hl rfl) (qq hS (Qmi rfl) (QoN (uk (loop (fun(k:Nat) σ w=>okS σ [(0,.slice ad l.length cap),(1,.int .i64 v),(7,.int .i64 l.length),(8,.int .i64 k)]∧St [] w0 I0 I0 w []∧k≤l.length∧∀i,i < k→l[i]? ≠ some v) (fun k=>l.length - k) (0) ?_ ?_))))))))))
 ·
  exact⟨⟨rfl,rfl,rfl,rfl,trivial⟩,hS.sel [],by omega,fun i hi=>by omega⟩
 ·
  rintro k σ w_l⟨hs,hS,hk0,hall⟩;rw[← qx hs]; clear hs
  refine QwR (qq hS (g_lss rfl rfl) (QoN (xL (qo rfl ?_ ?_))))
  ·
   intro hc9
   try simp only[zA,zO,zN,zI,zF,zM,zT,zU]at hc9
   obtain⟨x,hxi⟩:∃x,l[k]? = some x:=⟨_,xW (by omega)⟩
   have hxA:=hl.at hxi;refine xZ (xN (xL (uk (QwR (qq hS (Qmi rfl) (qq hS (Qai rfl) (QoR (qq hS (Qmi rfl) (qq hS (qk _) (qq hS (Qmi rfl) (qq hS (g_ixI ua xX hl rfl rfl (by omega) (by omega)) (qq hS (qC uj hxA rfl rfl) (qq hS (g_eql rfl rfl) (QoN (qo rfl ?_ ?_)))))))))))))))
   ·
    intro hc16
    try simp only[zA,zO,zN,zI,zF,zM,zT,zU]at hc16
    subst hc16;have e:indexP l v=k:=indexP_at hxi hall;refine QwR (qq hS (Qmi rfl) (qq hS (Qai rfl) (QoN (ub (Qs (uw (uw (Qs (uw (ret1 results79 (qr (v:=.int .i64 _) rfl) ?_))))))))));exact⟨by rw[e] <;> rfl,hS.nil⟩
   ·
    intro hc16
    try simp only[zA,zO,zN,zI,zF,zM,zT,zU]at hc16
    have hnx:∀i,i < k+1→l[i]? ≠ some v:=fun i hi h=>by
     rcases Qk.1 hi with g | g
     · exact hall i g h
     · subst g; rw[hxi]at h; exact hc16 (Option.some.inj h).symm
    refine xZ (Qh (xN (reg (qq hS (g_add rfl rfl (by omega) (by omega)) (qq hS (Qmi rfl) ?_)))));exact⟨k+1,_,rfl,⟨⟨rfl,rfl,rfl,rfl,trivial⟩,hS.sel [],by omega,hnx⟩,by omega⟩
  ·
   intro hc9
   try simp only[zA,zO,zN,zI,zF,zM,zT,zU]at hc9
   obtain rfl:k=l.length:=by omega
   have e:indexP l v = -1:=indexP_no (take_no hall);refine uD (uA (uA (Qw (xN (QwR (qq hS (Qai rfl) (QoN (ub (ret1 results79 (qr (v:=.int .i64 _) rfl) ?_)))))))));exact⟨by rw[e] <;> rfl,hS.nil⟩
theorem hasI_c (ad : Option Addr) (cap : Nat) (l : List Int) (v : Int) (w0 : World) (I0 : Imm) (hI : Sat I0 w0) (hl : RFl I0 1 intC (.slice ad l.length cap) l) :
 Ctr prog 49 [.slice ad l.length cap,.int .i64 v] w0 (fun u w'=>u = .bool (decide (v∈l))∧Ext w0 I0 w' I0):=by
 refine fn (n:=9) func49 rfl rfl rfl ?_;have hS:=St.start hI;refine QwR (qq hS (Qab rfl) (QoR (qq hS (qk _) (qq hS (Qmi rfl) (qe (ql call79 rfl (indexI_c ad cap l v _ I0 hS.imm hl)) ?_)))));rintro _ w_1⟨rfl,hE⟩;replace hS:=hS.callE hE;refine qq hS (g_geq rfl rfl) (qq hS (Qab rfl) (QoN (ub (ret1 results49 (qr (v:=.bool _) rfl) ?_))));exact⟨by rw[← indexP_nn] <;> rfl,hS.nil⟩
theorem ke (ad : Option Addr) (cap : Nat) (l : List Int) (n : Int) (w0 : World) (I0 : Imm) (hI : Sat I0 w0) (hl : RFl I0 1 intC (.slice ad l.length cap) l) (hs : l.Pairwise (· < ·)) (hb : l.length ≤ 65535) :
 Ctr prog 50 [.slice ad l.length cap,.int .i64 n] w0 (fun v w'=>∃I' a c,v = .slice a (insI l n).length c∧Ext w0 I0 w' I'∧RFl I' 1 intC (.slice a (insI l n).length c) (insI l n)):=by
 have hpl:=posI_le l n;refine fn (n:=21) func50 rfl rfl rfl ?_;have hS:=St.start hI;refine QwR (qq hS (qy _) (QoR (qq hS (qk _) (qq hS (Qmi rfl) (qe (ql call80 rfl (bsearchP_c ad cap (posI l n) n l _ I0 hS.imm hl (posI_srt hs n) hs (by omega))) ?_)))));rintro _ w_1⟨rfl,hE⟩;replace hS:=hS.callE hE;refine qq hS (qk _) (qq hS (Qxi rfl rfl) (qq hS (qt (v:=.bool _) rfl rfl) (qq hS (Qai rfl) (qq hS (Qab rfl) (QoN (xL (QwR (qq hS (Qmb rfl) (QoN (qo rfl ?_ ?_))))))))))
 ·
  intro hc13
  try simp only[zA,zO,zN,zI,zF,zM,zT,zU]at hc13
  have e:insI l n=l:=vZ hs hc13;refine QwR (qq hS (qk _) (qq hS (qy _) (QoN (ub (uw (ret1 results50 (qr rfl) ?_))))));rw[e];exact⟨_,ad,cap,rfl,hS.nil,hl⟩
 ·
  intro hc13
  try simp only[zA,zO,zN,zI,zF,zM,zT,zU]at hc13
  have e:=srtP_new hs hc13;refine xZ (xN (QwR (qq hS (qk _) (qe (ql call82 rfl (cloneI_o ad cap l _ _ hS.imm hl (by omega))) ?_))));rintro _ w_2⟨a16,c16,rfl,hE⟩;replace hS:=hS.call hE;refine qq hS (Qmi rfl) (qq hS (Qmi rfl) ?_);refine qe (d_lit (vs:=[.int .i64 _]) (cs:=[.int .i64 _]) hS ua xX QA rfl rfl rfl rfl (fun v hv=>by simp only[uq,ur,or_false]at hv; subst hv; rfl) rfl) ?_;clear hS;rintro _ w_3⟨b19,rfl,hS⟩;refine qe (ql call81 rfl (insert_row insOk hS rfl hpl (by omega))) ?_;clear hS;rintro _ w_4⟨a20,c20,rfl,hS⟩;refine qq hS (qy _) (QoN (ub (ret1 results50 (qr rfl) ?_)));have hlen:(insI l n).length=l.length+1:=by rw[e]; exact insI_new_len hpl
  rw[← e,← hlen]at hS;rw[← hlen];obtain⟨I1,hE1,hI1,hd1⟩:=qS qH (xs:=insI l n) (hS.sel [true]) rfl;exact⟨I1,_,_,rfl,hE1,hd1⟩
theorem jw {α : Type} {sz : Nat} {R : List Value → α → Prop} (hsz : sz = 8) (ad : Option Addr) (cap : Nat) (l : List α) (w0 : World) (I0 : Imm) (hI : Sat I0 w0) (hl : RSl I0 sz R (.slice ad l.length cap) l) :
 Ctr prog 62 [.slice ad l.length cap] w0 (fun v w'=>v = .slice ad l.length l.length∧Ext w0 I0 w' I0):=by
 subst hsz;have hle:=RSl.len_cap hl;refine fn (n:=9) func62 rfl rfl rfl ?_;have hS:=St.start hI;refine QwR (qq hS (qy _) (QoR (qq hS (qk _) (qq hS (qk _) (qq hS (qz rfl uy hl rfl) (qq hS (qk _) (qq hS (qz rfl uy hl rfl) (qq hS (g_clip hl uy uM rfl rfl rfl) (qq hS (qy _) (QoN (ub (ret1 results62 (qr rfl) ?_))))))))))));exact⟨rfl,hS.nil⟩
theorem clipP_c {α : Type} {sz : Nat} {R : List Value → α → Prop} (hsz : sz = 4) (ad : Option Addr) (cap : Nat) (l : List α) (w0 : World) (I0 : Imm) (hI : Sat I0 w0) (hl : RSl I0 sz R (.slice ad l.length cap) l) :
 Ctr prog 63 [.slice ad l.length cap] w0 (fun v w'=>v = .slice ad l.length l.length∧Ext w0 I0 w' I0):=by
 subst hsz;have hle:=RSl.len_cap hl;refine fn (n:=9) func63 rfl rfl rfl ?_;have hS:=St.start hI;refine QwR (qq hS (qy _) (QoR (qq hS (qk _) (qq hS (qk _) (qq hS (qz rfl Qf hl rfl) (qq hS (qk _) (qq hS (qz rfl Qf hl rfl) (qq hS (g_clip hl Qf ul rfl rfl rfl) (qq hS (qy _) (QoN (ub (ret1 results63 (qr rfl) ?_))))))))))));exact⟨rfl,hS.nil⟩
set_option maxHeartbeats 1000000 in
theorem fits30_c (a b : LnkL) (p q : PatL) (ap aq : Option Addr) (mp cp mq cq : Nat) (w0 : World) (I0 : Imm) (hI : Sat I0 w0) :
 Ctr prog 61 [.agg #[.int .i64 a.f,.int .i64 a.t,.int .i64 a.c,.int .i64 a.n.s,.int .i64 a.n.u,.int .i64 a.n.r,.int .i64 a.n.e,.int .i64 a.n.o],.agg #[.bool p.lifted,.int .i64 p.in_,.int .i64 p.out,.slice ap mp cp],.agg #[.int .i64 b.f,.int .i64 b.t,.int .i64 b.c,.int .i64 b.n.s,.int .i64 b.n.u,.int .i64 b.n.r,.int .i64 b.n.e,.int .i64 b.n.o],.agg #[.bool q.lifted,.int .i64 q.in_,.int .i64 q.out,.slice aq mq cq]] w0 (fun v w'=>v = .bool (fitsE ⟨a.f,a.t,p.in_,p.out⟩ ⟨b.f,b.t,q.in_,q.out⟩)∧Ext w0 I0 w' I0):=by
 refine fn (n:=63) func61 rfl rfl rfl ?_;have hS:=St.start hI;refine QwR (qe (d_box (cs:=[.int .i64 _,.int .i64 _,.int .i64 _,.int .i64 _,.int .i64 _,.int .i64 _,.int .i64 _,.int .i64 _]) hS rfl) ?_);clear hS;rintro _ w_1⟨b4,rfl,hS⟩;refine qe (d_box (cs:=[.bool _,.int .i64 _,.int .i64 _,.slice _ _ _]) hS rfl) ?_;clear hS;rintro _ w_2⟨b5,rfl,hS⟩;refine qe (d_box (cs:=[.int .i64 _,.int .i64 _,.int .i64 _,.int .i64 _,.int .i64 _,.int .i64 _,.int .i64 _,.int .i64 _]) hS rfl) ?_;clear hS;rintro _ w_3⟨b6,rfl,hS⟩;refine qe (d_box (cs:=[.bool _,.int .i64 _,.int .i64 _,.slice _ _ _]) hS rfl) ?_;clear hS;rintro _ w_4⟨b7,rfl,hS⟩;refine qq hS (Qab rfl) (QoR (qq hS (qb (o':=0) uI rfl xX rfl rfl rfl) (qq hS (qi 3 uj rfl rfl rfl) (qq hS (qb (o':=0) uI rfl xX rfl rfl rfl) (qq hS (qi 1 uj rfl rfl rfl) (qq hS (g_neq rfl rfl) (qq hS (Qmb rfl) (qu rfl rfl hS (fun hg=>(qb (o':=1) uu rfl xX rfl rfl rfl)) ?_))))))));intro u15 hu15 hn15;refine qu rfl rfl hS (fun hg=>(qi 2 uj rfl (hu15 hg) rfl)) ?_;intro u16 hu16 hn16;refine qu rfl rfl hS (fun hg=>(qb (o':=1) uu rfl xX rfl rfl rfl)) ?_;intro u17 hu17 hn17;refine qu rfl rfl hS (fun hg=>(qi 0 uj rfl (hu17 hg) rfl)) ?_;intro u18 hu18 hn18;refine qu rfl rfl hS (fun hg=>(g_eql (hu16 hg) (hu18 hg))) ?_;intro u19 hu19 hn19;refine qq hS (g_or rfl rfl (fun hq=>hu19 hq)) (qq hS (Qmb rfl) (qu rfl rfl hS (fun hg=>(qb (o':=1) uI rfl xX rfl rfl rfl)) ?_));intro u22 hu22 hn22;refine qu rfl rfl hS (fun hg=>(qi 3 uj rfl (hu22 hg) rfl)) ?_;intro u23 hu23 hn23;refine qu rfl rfl hS (fun hg=>(qb (o':=1) uI rfl xX rfl rfl rfl)) ?_
 intro u24 hu24 hn24;refine qu rfl rfl hS (fun hg=>(qi 1 uj rfl (hu24 hg) rfl)) ?_;intro u25 hu25 hn25;refine qu rfl rfl hS (fun hg=>(g_neq (hu23 hg) (hu25 hg))) ?_;intro u26 hu26 hn26;refine qu rfl rfl hS (fun hg=>(qf (hu26 hg))) ?_;intro u27 hu27 hn27;refine qn rfl hu27 hn27 hS (fun hg=>(qb (o':=2) uu rfl xX rfl rfl rfl)) ?_;intro u28 hu28 hn28;refine qn rfl hu27 hn27 hS (fun hg=>(qi 2 uj rfl (hu28 hg) rfl)) ?_;intro u29 hu29 hn29;refine qn rfl hu27 hn27 hS (fun hg=>(qb (o':=2) uu rfl xX rfl rfl rfl)) ?_;intro u30 hu30 hn30;refine qn rfl hu27 hn27 hS (fun hg=>(qi 0 uj rfl (hu30 hg) rfl)) ?_;intro u31 hu31 hn31;refine qn rfl hu27 hn27 hS (fun hg=>(g_eql (hu29 hg) (hu31 hg))) ?_;intro u32 hu32 hn32;refine qu rfl rfl hS (fun hg=>(g_or (hu27 hg) rfl (fun hq=>hu32 ⟨hg,hq⟩))) ?_;intro u33 hu33 hn33;refine qq hS (g_and rfl rfl (fun hq=>hu33 hq)) (qq hS (Qmb rfl) (qu rfl rfl hS (fun hg=>(qb (o':=1) uI rfl xX rfl rfl rfl)) ?_));intro u36 hu36 hn36;refine qu rfl rfl hS (fun hg=>(qi 3 uj rfl (hu36 hg) rfl)) ?_;intro u37 hu37 hn37;refine qu rfl rfl hS (fun hg=>(qb (o':=0) uI rfl xX rfl rfl rfl)) ?_;intro u38 hu38 hn38;refine qu rfl rfl hS (fun hg=>(qi 1 uj rfl (hu38 hg) rfl)) ?_;intro u39 hu39 hn39;refine qu rfl rfl hS (fun hg=>(g_neq (hu37 hg) (hu39 hg))) ?_;intro u40 hu40 hn40;refine qu rfl rfl hS (fun hg=>(qf (hu40 hg))) ?_;intro u41 hu41 hn41;refine qn rfl hu41 hn41 hS (fun hg=>(qb (o':=2) uu rfl xX rfl rfl rfl)) ?_;intro u42 hu42 hn42;refine qn rfl hu41 hn41 hS (fun hg=>(qi 2 uj rfl (hu42 hg) rfl)) ?_
 intro u43 hu43 hn43;refine qn rfl hu41 hn41 hS (fun hg=>(qb (o':=1) uu rfl xX rfl rfl rfl)) ?_;intro u44 hu44 hn44;refine qn rfl hu41 hn41 hS (fun hg=>(qi 0 uj rfl (hu44 hg) rfl)) ?_;intro u45 hu45 hn45;refine qn rfl hu41 hn41 hS (fun hg=>(g_eql (hu43 hg) (hu45 hg))) ?_;intro u46 hu46 hn46;refine qu rfl rfl hS (fun hg=>(g_or (hu41 hg) rfl (fun hq=>hu46 ⟨hg,hq⟩))) ?_;intro u47 hu47 hn47;refine qq hS (g_and rfl rfl (fun hq=>hu47 hq)) (qq hS (Qmb rfl) (qu rfl rfl hS (fun hg=>(qb (o':=0) uI rfl xX rfl rfl rfl)) ?_));intro u50 hu50 hn50;refine qu rfl rfl hS (fun hg=>(qi 3 uj rfl (hu50 hg) rfl)) ?_;intro u51 hu51 hn51;refine qu rfl rfl hS (fun hg=>(qb (o':=1) uI rfl xX rfl rfl rfl)) ?_;intro u52 hu52 hn52;refine qu rfl rfl hS (fun hg=>(qi 1 uj rfl (hu52 hg) rfl)) ?_;intro u53 hu53 hn53;refine qu rfl rfl hS (fun hg=>(g_neq (hu51 hg) (hu53 hg))) ?_;intro u54 hu54 hn54;refine qu rfl rfl hS (fun hg=>(qf (hu54 hg))) ?_;intro u55 hu55 hn55;refine qn rfl hu55 hn55 hS (fun hg=>(qb (o':=1) uu rfl xX rfl rfl rfl)) ?_;intro u56 hu56 hn56;refine qn rfl hu55 hn55 hS (fun hg=>(qi 2 uj rfl (hu56 hg) rfl)) ?_;intro u57 hu57 hn57;refine qn rfl hu55 hn55 hS (fun hg=>(qb (o':=2) uu rfl xX rfl rfl rfl)) ?_;intro u58 hu58 hn58;refine qn rfl hu55 hn55 hS (fun hg=>(qi 0 uj rfl (hu58 hg) rfl)) ?_;intro u59 hu59 hn59;refine qn rfl hu55 hn55 hS (fun hg=>(g_eql (hu57 hg) (hu59 hg))) ?_;intro u60 hu60 hn60;refine qu rfl rfl hS (fun hg=>(g_or (hu55 hg) rfl (fun hq=>hu60 ⟨hg,hq⟩))) ?_;intro u61 hu61 hn61;refine qq hS (g_and rfl rfl (fun hq=>hu61 hq)) (qq hS (Qab rfl) (QoN (ub (ret1 results61 (qr (v:=.bool _) rfl) ?_))))
 exact⟨by unfold fitsE; simp only[ne_eq,decide_not] <;> rfl,hS.nil⟩
end Go.Proofs.YtcajgkfgjpfmaaaGreat
namespace Go.Proofs.YtcajgkfgjpfmaaaGreat
open Tryz
open Go Go.RowKit Go.Inl
def keepG (gone l:List Int):List Int:=l.filter fun v => !decide (v∈gone)
def openP (s:SrvL)(f:Int)(m:NeedL):List Int:=keepG s.gone (reachP s.g f m)
structure DelW where
 i:Nat
 j:Nat
 m:List Int
structure CmW where
 k:Nat
 a:Option Addr
 c:Nat
 css:List (List Value)
theorem intC_cell {l:List Int}{rest:List Value}{k:Nat}{x:Int}(h:l[k]? = some x):(flat intC l++rest)[k]? = some (.int .i64 x):=by
 have hk:=(uc.1 h).1;rw[Qc (by rw[jC]; exact hk),jZ,Qo,h]; rfl
theorem intC_cell1 {l:List Int}{k:Nat}{x:Int}(h:l[k]? = some x):(flat intC l)[k*1+0]? = some (.int .i64 x):=by
 have:=intC_cell (rest:=[]) h;rw[List.append_nil]at this;rw[Nat.mul_one,Nat.add_zero]; exact this
theorem keepG_snoc {gone l:List Int}{j:Nat}{x:Int}(h:l[j]? = some x):keepG gone (l.take (j+1))=if x∈gone then keepG gone (l.take j) else keepG gone (l.take j)++[x]:=by
 unfold keepG;rw[qL h,List.filter_append,List.filter_cons];by_cases hx:x∈gone
 · rw[ui hx,uK hx]; simp
 · rw[ud hx,uY hx]; simp
theorem keepG_none {gone l:List Int}(h:∀(i:Nat) (x:Int),l[i]? = some x→x∉gone):keepG gone l=l:=by
 unfold keepG;rw[List.filter_eq_self];intro x hx;obtain⟨i,hi⟩:=Qm.1 hx;rw[uY (h i x hi)]; rfl
theorem keepG_len (gone l:List Int):(keepG gone l).length≤l.length:=List.length_filter_le ..
theorem vP {g:GrL}{s v:Int}{m:NeedL}:v∈reachP g s m↔∃j,j < g.vs.length∧g.vs[j]? = some v∧(lab (waysP g s m) j).is=true:=by
 unfold reachP reachUp;rw[QF];constructor
 · rintro ⟨j, h1, h2⟩
   rw[List.mem_filter,List.mem_range]at h1;refine⟨j,h1.1,?_,h1.2⟩;rw[uh,xW h1.1]at h2;rw[xW h1.1]; exact congrArg some h2
 · rintro ⟨j, h1, h2, h3⟩
   refine⟨j,?_,?_⟩
   · rw[List.mem_filter,List.mem_range]; exact⟨h1,h3⟩
   · rw[uh,h2]; rfl
theorem reach_self {g:GrL}(hg:GrOk g){s:Int}(m:NeedL)(hs:s∈g.vs):s∈reachP g s m:=by
 obtain⟨ord,h⟩:=zu hg m hs;exact vP.2 ⟨vIx g s,jt hs,kF hs,by rw[h.src]; rfl⟩
theorem vv {ps:List PatL}{way:List Int}{k:Nat}{i:Int}{p:PatL}(h:way[k]? = some i)(hp:ps[i.toNat]? = some p):patsOf ps (way.take (k+1))=patsOf ps (way.take k)++[p]:=by
 unfold patsOf;rw[qL h,Qy,QN,List.map_nil,uh,hp]; rfl
theorem zR {ps:List PatL}(h:∀p∈ps,p.wf)(way:List Int):∀p∈patsOf ps way,p.wf:=fun p hp=>by
 unfold patsOf at hp;rw[QF]at hp;obtain⟨i,_,rfl⟩:=hp;rw[uh];cases e:ps[i.toNat]? with
 | none=>exact⟨⟨by decide,by decide⟩,⟨by decide,by decide⟩,(fun _ h=>by cases h),by decide⟩
 | some q=>exact h q (uf e)
theorem rpat_cl {I:Imm}{css:List (List Value)}{l:List PatL}(h:All2 (RPatC I) css l):∀c∈css,c.length=4:=fun c hc=>by
 obtain⟨j,hj⟩:=Qm.1 hc;have hjl:=(uc.1 hj).1;obtain⟨a,n,b,rfl,_⟩:=h.2 j c _ hj (xW (by rw[← h.1]; exact hjl));rfl
theorem compC_hit {s:SrvL}{way:List Int}{k:Nat}{m:MadeL}(h:s.cache[k]? = some m)(hm:m.way=way)(hn:∀(i:Nat) (x:MadeL),i < k→s.cache[i]? = some x→x.way≠way):compC s way=⟨m.p,true,0⟩:=by
 have h1:s.cache.find? (fun m=>decide (m.way=way))=some m:=by
  rw[List.find?_eq_some_iff_getElem];obtain⟨h2,h3⟩:=uc.1 h;refine⟨uK hm,k,h2,h3,fun j hj=>?_⟩;have:=hn j _ hj (xW (by omega));simpa using this
 unfold compC;rw[h1]
theorem compC_miss {s:SrvL}{way:List Int}(hn:∀(i:Nat) (x:MadeL),s.cache[i]? = some x→x.way≠way):compC s way=⟨(allP (patsOf s.ps way)).1,false,(allP (patsOf s.ps way)).2⟩:=by
 have h1:s.cache.find? (fun m=>decide (m.way=way))=none:=by
  rw[List.find?_eq_none];intro x hx;obtain⟨i,hi⟩:=Qm.1 hx;simpa using hn i x hi
 unfold compC;rw[h1]
theorem open1_c (s : SrvL) (A : SrvA) (bs : Nat) (v : Int) (w0 : World) (I0 : Imm) (hI : Sat I0 w0) (hsv : atI I0 ⟨bs, 0, none⟩ [.slice A.a0 s.g.vs.length A.c0, .slice A.a1 s.g.ls.length A.c1, .slice A.a2 s.ps.length A.c2, .slice A.a3 s.gone.length A.c3, .slice A.a4 s.cache.length A.c4]) (hgo : RFl I0 1 intC (.slice A.a3 s.gone.length A.c3) s.gone) :
 Ctr prog 114 [.int .i64 v,.pointer (some ⟨bs,0,none⟩)] w0 (fun u w'=>u = .bool (decide (v∈s.gone))∧Ext w0 I0 w' I0):=by
 refine fn (n:=8) func114 rfl rfl rfl ?_;have hS:=St.start hI;refine QwR (qq hS (Qab rfl) (QoR (qq hS (qb (o':=3) un rfl uo rfl rfl rfl) (qq hS (kY (c:=3) uF hsv rfl rfl) (qq hS (Qmi rfl) (qe (ql call49 rfl (hasI_c A.a3 A.c3 s.gone v _ I0 hS.imm hgo)) ?_))))));rintro _ w_1⟨rfl,hE⟩;replace hS:=hS.callE hE;refine qq hS (Qab rfl) (QoN (ub (ret1 results114 (qr (v:=.bool _) rfl) ?_)));exact⟨rfl,hS.nil⟩
set_option maxHeartbeats 1000000 in
theorem idxF_c (s : SrvL) (A : SrvA) (bs b c : Nat) (l : List Int) (rest : List Value) (w0 : World) (I0 : Imm) (hI : Sat I0 w0) (hb : w0.heap[b]? = some (.cells (flat intC l ++ rest).toArray 3 (0, 0))) (hn : I0 b = none) (hsv : atI I0 ⟨bs, 0, none⟩ [.slice A.a0 s.g.vs.length A.c0, .slice A.a1 s.g.ls.length A.c1, .slice A.a2 s.ps.length A.c2, .slice A.a3 s.gone.length A.c3, .slice A.a4 s.cache.length A.c4]) (hgo : RFl I0 1 intC (.slice A.a3 s.gone.length A.c3) s.gone) (hnl : l.length ≤ 65536) :
 Ctr prog 140 [.slice (some ⟨b,0,none⟩) l.length c,.func (.func 114) #[] #[.pointer (some ⟨bs,0,none⟩)]] w0 (fun u w'=>∃r:Int,u = .int .i64 r∧St [b] w0 I0 I0 w' [.cel b 3 (flat intC l++rest)]∧((r = -1∧∀(i:Nat) (x:Int),l[i]? = some x→x∉s.gone)∨∃(k:Nat) (x:Int),r=k∧l[k]? = some x∧x∈s.gone∧∀(i:Nat) (y:Int),i < k→l[i]? = some y→y∉s.gone)):=by
 refine fn (n:=19) func140 rfl rfl rfl ?_;have hS:=St.startX hI hb hn;refine QwR (qq hS (Qai rfl) (QoN (xL (QwR (qq hS (qk _) (qq hS (yW rfl ua rfl) (qq hS (Qmi rfl) (QoN (uk (loop (fun(k:Nat) σ w=>okS σ [(0,.slice (some ⟨b,0,none⟩) l.length c),(1,.func (.func 114) #[] #[.pointer (some ⟨bs,0,none⟩)]),(7,.int .i64 l.length),(8,.int .i64 k)]∧St [b] w0 I0 I0 w [.cel b 3 (flat intC l++rest)]∧k≤l.length∧∀(i:Nat) (y:Int),i < k→l[i]? = some y→y∉s.gone) (fun k=>l.length - k) (0) ?_ ?_))))))))))
 ·
  exact⟨⟨rfl,rfl,rfl,rfl,trivial⟩,hS.sel [true],by omega,fun i y hi=>by omega⟩
 ·
  rintro k σ w_l⟨hs,hS,hk0,hall⟩;rw[← qx hs]; clear hs
  refine QwR (qq hS (g_lss rfl rfl) (QoN (xL (qo rfl ?_ ?_))))
  ·
   intro hc9
   try simp only[zA,zO,zN,zI,zF,zM,zT,zU]at hc9
   obtain⟨x,hxi⟩:∃x,l[k]? = some x:=⟨_,xW (by omega)⟩
   refine xZ (xN (xL (uk (QwR (qq hS (Qmi rfl) (qq hS (Qai rfl) (QoR (qq hS (qk _) (qq hS (qk _) (qq hS (Qmi rfl) (qq hS (qM (o:=k) ua xX rfl rfl (by omega) (by omega) (by omega)) (qq hS (qi 0 uj rfl rfl (intC_cell hxi)) (qe (zp call114 rfl rfl (open1_c s A bs x _ _ hS.imm hsv hgo)) ?_)))))))))))));rintro _ w_1⟨rfl,hE⟩;replace hS:=hS.callE hE;refine QoN (qo rfl ?_ ?_)
   ·
    intro hc16
    try simp only[zA,zO,zN,zI,zF,zM,zT,zU]at hc16
    refine QwR (qq hS (Qmi rfl) (qq hS (Qai rfl) (QoN (ub (Qs (uw (uw (Qs (uw (ret1 results140 (qr (v:=.int .i64 _) rfl) ?_))))))))));exact⟨k,rfl,hS.sel [true],.inr ⟨k,x,rfl,hxi,hc16,hall⟩⟩
   ·
    intro hc16
    try simp only[zA,zO,zN,zI,zF,zM,zT,zU]at hc16
    have hnx:∀(i:Nat) (y:Int),i < k+1→l[i]? = some y→y∉s.gone:=fun i y hi h=>by
     rcases Qk.1 hi with g | g
     · exact hall i y g h
     · subst g; rw[hxi]at h; cases h; exact hc16
    refine xZ (Qh (xN (reg (qq hS (g_add rfl rfl (by omega) (by omega)) (qq hS (Qmi rfl) ?_)))));exact⟨k+1,_,rfl,⟨⟨rfl,rfl,rfl,rfl,trivial⟩,hS.sel [true],by omega,hnx⟩,by omega⟩
  ·
   intro hc9
   try simp only[zA,zO,zN,zI,zF,zM,zT,zU]at hc9
   obtain rfl:k=l.length:=by omega
   refine uD (uA (uA (Qw (xN (QwR (qq hS (Qai rfl) (QoN (ub (ret1 results140 (qr (v:=.int .i64 _) rfl) ?_)))))))));exact⟨-1,rfl,hS.sel [true],.inl ⟨rfl,fun i x h=>hall i x (uc.1 h).1 h⟩⟩
set_option maxHeartbeats 1000000 in
theorem delF_c (s : SrvL) (A : SrvA) (bs b c : Nat) (l : List Int) (rest : List Value) (w0 : World) (I0 : Imm) (hI : Sat I0 w0) (hb : w0.heap[b]? = some (.cells (flat intC l ++ rest).toArray 3 (0, 0))) (hn : I0 b = none) (hsv : atI I0 ⟨bs, 0, none⟩ [.slice A.a0 s.g.vs.length A.c0, .slice A.a1 s.g.ls.length A.c1, .slice A.a2 s.ps.length A.c2, .slice A.a3 s.gone.length A.c3, .slice A.a4 s.cache.length A.c4]) (hgo : RFl I0 1 intC (.slice A.a3 s.gone.length A.c3) s.gone) (hnl : l.length ≤ 65536) (hc1 : l.length ≤ c) (hc2 : c ≤ maxLen) (hlc : (flat intC l ++ rest).length = c) :
 Ctr prog 113 [.slice (some ⟨b,0,none⟩) l.length c,.func (.func 114) #[] #[.pointer (some ⟨bs,0,none⟩)]] w0 (fun u w'=>u = .slice (some ⟨b,0,none⟩) (keepG s.gone l).length c∧∃rest',(flat intC (keepG s.gone l)++rest').length=c∧St [b] w0 I0 I0 w' [.cel b 3 (flat intC (keepG s.gone l)++rest')]):=by
 refine fn (n:=42) func113 rfl rfl rfl ?_;have hS:=St.startX hI hb hn;refine QwR (qq hS (qy _) (QoR (qq hS (qk _) (qq hS (qk _) (qe (ql call140 rfl (idxF_c s A bs b c l rest _ _ hS.imm (kr (k:=0) hS rfl) (kq (k:=0) hS rfl) hsv hgo hnl)) ?_)))));rintro _ w_1⟨r,rfl,hE,hr⟩;replace hS:=hS.callXI (k:=0) rfl hE;refine qq hS (Qai rfl) (QoN (xL (QwR (qq hS (Qmi rfl) (qq hS (g_eql rfl rfl) (QoN (qo rfl ?_ ?_)))))))
 ·
  intro hc12
  try simp only[zA,zO,zN,zI,zF,zM,zT,zU]at hc12
  have hno:∀(i:Nat) (x:Int),l[i]? = some x→x∉s.gone:=by
   rcases hr with ⟨_,h⟩ | ⟨k,x,h1,h2,h3,h4⟩
   · exact h
   · omega
  have hke:=keepG_none hno;refine QwR (qq hS (qk _) (qq hS (qy _) (QoN (ub (uw (ret1 results113 (qr rfl) ?_))))));rw[hke];exact⟨rfl,rest,hlc,hS.sel [true]⟩
 ·
  intro hc12
  try simp only[zA,zO,zN,zI,zF,zM,zT,zU]at hc12
  obtain⟨k0,x0,rfl,hx0,hx1,hx2⟩:∃(k:Nat) (x:Int),r=k∧l[k]? = some x∧x∈s.gone∧∀(i:Nat) (y:Int),i < k→l[i]? = some y→y∉s.gone:=by
   rcases hr with ⟨h,_⟩ | h
   · exact absurd h hc12
   · exact h
  have hk0:=(uc.1 hx0).1;have hke:keepG s.gone (l.take (k0+1))=l.take k0:=by
   rw[keepG_snoc hx0,ui hx1,keepG_none];intro i y hy;have h1:=(uc.1 hy).1;rw[uT]at h1;rw[List.getElem?_take,ui (by omega)]at hy;exact hx2 i y (by omega) hy
  refine xZ (xN (xL (xL ?_)));replace hS:=hS.celRow (b:=b) (E:=3) (n:=l.length) (c:=c) (sz:=1) (xs:=flat intC l) (rest:=rest) 0 rfl (by rw[jC,Nat.mul_one]) hc1 hc2 (by rw[Nat.mul_one]; exact hlc);refine reg (qq hS (Qmi rfl) (qq hS (g_add rfl rfl (by omega) (by omega)) (qq hS (Qai rfl) (QoN (uk (loop (fun(x:DelW) σ w=>okS σ [(0,.slice (some ⟨b,0,none⟩) l.length c),(1,.func (.func 114) #[] #[.pointer (some ⟨bs,0,none⟩)]),(5,.int .i64 x.i),(6,.int .i64 x.j)]∧St [b] w0 I0 I0 w [.row (.slice (some ⟨b,0,none⟩) l.length c) 3 1 l.length (flat intC x.m)]∧(x.i < x.j∧x.j≤l.length∧x.m.length=l.length)∧x.m.take x.i=keepG s.gone (l.take x.j)∧x.m.drop x.j=l.drop x.j) (fun x=>l.length - x.j) (⟨k0,k0+1,l⟩) ?_ ?_))))))
  ·
   exact⟨⟨rfl,rfl,rfl,rfl,trivial⟩,hS.sel [true],by dsimp only; omega,hke.symm,rfl⟩
  ·
   rintro⟨i,j,m⟩σ w_l⟨hs,hS,⟨hij,hjn,hml⟩,htk,hdr⟩;dsimp only at hs hS hij hjn hml htk hdr ⊢;rw[← qx hs]; clear hs
   refine xL (QwR (qq hS (Qmi rfl) (qq hS (qk _) (qq hS (xE 0 rfl ua rfl rfl) (qq hS (g_lss rfl rfl) (QoN (qo rfl ?_ ?_)))))))
   ·
    intro hc19
    try simp only[zA,zO,zN,zI,zF,zM,zT,zU]at hc19
    obtain⟨x,hxl⟩:∃x,l[j]? = some x:=⟨_,xW (by omega)⟩
    have hxi:m[j]? = some x:=by
     have h1:(m.drop j)[0]? = (l.drop j)[0]? := by rw[hdr]
     rw[List.getElem?_drop,List.getElem?_drop,Nat.add_zero,hxl]at h1;exact h1
    obtain⟨y,hyi⟩:∃y,m[i]? = some y:=⟨_,xW (by omega)⟩
    have hks:=keepG_snoc (gone:=s.gone) hxl;refine xZ (xN (xL (uk (QwR (qq hS (qk _) (qq hS (Qmi rfl) (qq hS (g_ixR 0 ua xX rfl rfl rfl (by omega) (by omega)) (qq hS (g_ldR1 0 uj rfl rfl (intC_cell1 hxi)) (qq hS (Qai rfl) (QoR (qq hS (qk _) (qq hS (Qmi rfl) (qe (zp call114 rfl rfl (open1_c s A bs x _ _ hS.imm hsv hgo)) ?_)))))))))))));rintro _ w_2⟨rfl,hE⟩;replace hS:=hS.callE hE;refine qq hS (g_not rfl) (QoN (qo rfl ?_ ?_))
    ·
     intro hc29
     try simp only[zA,zO,zN,zI,zF,zM,zT,zU]at hc29
     rw[ud hc29]at hks;have htk2:(m.set i x).take (i+1)=keepG s.gone (l.take (j+1)):=by
      rw[hks,← htk,qL (x:=x) (List.getElem?_set_self (by omega)),List.take_set_of_le (uV i)]
     have hdr2:(m.set i x).drop (j+1)=l.drop (j+1):=by
      rw[List.drop_set_of_lt (by omega)];have:=congrArg (List.drop 1) hdr;rwa [List.drop_drop,List.drop_drop]at this
     refine QwR (qq hS (qk _) (qq hS (Qmi rfl) (qq hS (Qmi rfl) (qq hS (g_ixR 0 ua xX rfl rfl rfl (by omega) (by omega)) (qe (xJ 0 qH x hS hml.symm hyi xX rfl rfl rfl (vs:=[.int .i64 _]) rfl rfl rfl rfl rfl) ?_)))));clear hS;rintro _ w_3⟨rfl,hS⟩;refine QoN (reg (qq hS (Qmi rfl) (qq hS (g_add rfl rfl (by omega) (by omega)) (qq hS (Qai rfl) (qh (Qh (xN (reg (qq hS (Qmi rfl) (qq hS (g_add rfl rfl (by omega) (by omega)) (qq hS (Qai rfl) ?_)))))))))))
     first
      | exact⟨⟨i+1,j+1,m.set i x⟩,_,rfl,⟨⟨rfl,rfl,rfl,rfl,trivial⟩,hS.sel [true],by dsimp only; rw[QU]; omega,htk2,hdr2⟩,by dsimp only; omega⟩
      | exact⟨⟨i,j+1,m⟩,_,rfl,⟨⟨rfl,rfl,rfl,rfl,trivial⟩,hS.sel [true],by dsimp only; omega,htk2,hdr2⟩,by dsimp only; omega⟩
    ·
     intro hc29
     try simp only[zA,zO,zN,zI,zF,zM,zT,zU]at hc29
     rw[ui (by simpa using hc29)]at hks;have htk2:m.take i=keepG s.gone (l.take (j+1)):=by rw[hks,← htk]
     have hdr2:m.drop (j+1)=l.drop (j+1):=by
      have:=congrArg (List.drop 1) hdr;rwa [List.drop_drop,List.drop_drop]at this
     refine xZ (Qh (xN (reg (qq hS (Qmi rfl) (qq hS (g_add rfl rfl (by omega) (by omega)) (qq hS (Qai rfl) ?_))))))
     first
      | exact⟨⟨i+1,j+1,m.set i x⟩,_,rfl,⟨⟨rfl,rfl,rfl,rfl,trivial⟩,hS.sel [true],by dsimp only; rw[QU]; omega,htk2,hdr2⟩,by dsimp only; omega⟩
      | exact⟨⟨i,j+1,m⟩,_,rfl,⟨⟨rfl,rfl,rfl,rfl,trivial⟩,hS.sel [true],by dsimp only; omega,htk2,hdr2⟩,by dsimp only; omega⟩
   ·
    intro hc19
    try simp only[zA,zO,zN,zI,zF,zM,zT,zU]at hc19
    obtain rfl:j=l.length:=by omega
    rw[Qq]at htk;refine uD (uA (uA (Qw (xN (QwR (qq hS (qk _) (qq hS (Qmi rfl) (qq hS (zk (l0:=i) ua xX rfl rfl (by omega) (by omega) (by omega)) (qe (d_clearI 0 hS rfl ua QA rfl hml.symm (by omega) rfl) ?_)))))))));clear hS;rintro _ w_4⟨rfl,hrs,hS⟩;refine QoR (qq hS (qk _) (qq hS (Qmi rfl) (qq hS (g_toX (zV (h0:=i) ua xX rfl rfl (by omega) (by omega) (by omega)) hrs) (qq hS (qy _) (QoN (ub (ret1 results113 (qr rfl) ?_)))))));have hil:(keepG s.gone l).length=i:=by rw[← htk,uT]; omega
    have hSr:=hS.sel [true];rw[htk]at hSr;rcases St.rowCel0 0 hSr rfl with ⟨h,_⟩ | ⟨b1,rest',h1,h2,h3,h4,h5,h6⟩
    · cases h
    · cases h1
      exact⟨by rw[hil] <;> rfl,rest',by rw[Nat.mul_one]at h4; exact h4,h6⟩
theorem sopen_c (s : SrvL) (A : SrvA) (f : Int) (m : NeedL) (w0 : World) (I0 : Imm) (hI : Sat I0 w0) (hs : RSrv I0 A s) (hg : GrB s.g) (hf : f ∈ s.g.vs) :
 Ctr prog 77 [.agg #[.slice A.a0 s.g.vs.length A.c0,.slice A.a1 s.g.ls.length A.c1,.slice A.a2 s.ps.length A.c2,.slice A.a3 s.gone.length A.c3,.slice A.a4 s.cache.length A.c4],.int .i64 f,.agg #[.int .i64 m.s,.int .i64 m.u,.int .i64 m.r,.int .i64 m.e,.int .i64 m.o]] w0 (fun v w'=>∃I' a c,v = .slice a (openP s f m).length c∧Ext w0 I0 w' I'∧RFl I' 1 intC (.slice a (openP s f m).length c) (openP s f m)):=by
 have hnv:=hg.nv;have hrl:=ko s.g f m s.g.vs.length;have hpos:0 < (reachP s.g f m).length:=List.length_pos_of_mem (reach_self hg.toGrOk m hf);refine fn (n:=14) func77 rfl rfl rfl ?_;have hS:=St.start hI;refine QwR (qe (d_box (cs:=[.slice _ _ _,.slice _ _ _,.slice _ _ _,.slice _ _ _,.slice _ _ _]) hS rfl) ?_);clear hS;rintro _ w_1⟨b3,rfl,hS⟩;refine qe (d_box (cs:=[.int .i64 _,.int .i64 _,.int .i64 _,.int .i64 _,.int .i64 _]) hS rfl) ?_;clear hS;rintro _ w_2⟨b5,rfl,hS⟩;refine qq hS (qy _) (QoR (qq hS (qb (o':=0) un rfl uv rfl rfl rfl) (qq hS (g_ldO 1 (vs:=[.slice _ _ _,.slice _ _ _]) uv Je rfl rfl rfl rfl) (qq hS (Qmi rfl) (qq hS (g_ldO 0 (vs:=[.int .i64 _,.int .i64 _,.int .i64 _,.int .i64 _,.int .i64 _]) Qe QO rfl rfl rfl rfl) (qe (ql call54 rfl (reach_c s.g A.a0 A.a1 A.c0 A.c1 f m _ _ hS.imm hs.g hg)) ?_))))));rintro _ w_3⟨a11,c11,rfl,I_f,hE⟩;replace hS:=hS.call hE;replace hs:=hs.mono hE.ext;have hF:=hS.freezeAt 2 rfl;clear hS;obtain⟨I_hsv,hS,hI_hsv,hsv⟩:=hF;replace hs:=hs.mono hI_hsv;refine qq hS (jR ml0 (ml rfl ml0)) ?_;obtain⟨b0,rest,rfl,hn1,hn2,hn3,hn4,hS2⟩:=hS.rowCel 0 rfl hpos;clear hS;have hS:=hS2;clear hS2;refine qe (ql call113 rfl (delF_c s A b3 b0 c11 (reachP s.g f m) rest _ _ hS.imm (kr (k:=0) hS rfl) (kq (k:=0) hS rfl) hsv hs.gone (show(reachUp s.g f m s.g.vs.length).length≤_ by omega) hn1 hn2 (by rw[Nat.mul_one]at hn3; exact hn3))) ?_;rintro _ w_4⟨rfl,rest2,hlc2,hE⟩;replace hS:=hS.callXI (k:=0) rfl hE;refine qq hS (qy _) (QoN (ub (ret1 results77 (qr rfl) ?_)));have hkl:=keepG_len s.gone (reachP s.g f m)
 obtain⟨I1,hE1,hI1,hd1⟩:=qS qH (xs:=keepG s.gone (reachP s.g f m)) ((hS.celRow (n:=(keepG s.gone (reachP s.g f m)).length) (c:=c11) (sz:=1) (xs:=flat intC (keepG s.gone (reachP s.g f m))) (rest:=rest2) 0 rfl (by rw[jC,Nat.mul_one]) (by omega) hn2 (by rw[Nat.mul_one]; exact hlc2)).sel [true,false]) rfl;exact⟨I1,_,_,rfl,hE1,hd1⟩
theorem com1_c (d : MadeL) (a aw : Option Addr) (c cw : Nat) (ap : Option Addr) (mp cp bw : Nat) (way : List Int) (w0 : World) (I0 : Imm) (hI : Sat I0 w0) (hd : RFl I0 1 intC (.slice a d.way.length c) d.way) (hw : atI I0 ⟨bw, 0, none⟩ [.slice aw way.length cw]) (hwl : RFl I0 1 intC (.slice aw way.length cw) way) :
 Ctr prog 141 [.agg #[.slice a d.way.length c,.bool d.p.lifted,.int .i64 d.p.in_,.int .i64 d.p.out,.slice ap mp cp],.pointer (some ⟨bw,0,none⟩)] w0 (fun v w'=>v = .bool (decide (d.way=way))∧Ext w0 I0 w' I0):=by
 refine fn (n:=8) func141 rfl rfl rfl ?_;have hS:=St.start hI;refine QwR (qe (d_box (cs:=[.slice _ _ _,.bool _,.int .i64 _,.int .i64 _,.slice _ _ _]) hS rfl) ?_);clear hS;rintro _ w_1⟨b2,rfl,hS⟩;refine qq hS (Qab rfl) (QoR (qq hS (qb (o':=0) JG rfl uo rfl rfl rfl) (qq hS (qi 0 uF rfl rfl rfl) (qq hS (kY (c:=0) uF hw rfl rfl) (qe (ql call139 rfl (eqI_c a aw c cw d.way way _ _ hS.imm hd hwl)) ?_)))));rintro _ w_2⟨rfl,hE⟩;replace hS:=hS.callE hE;refine qq hS (Qab rfl) (QoN (ub (ret1 results141 (qr (v:=.bool _) rfl) ?_)));exact⟨rfl,hS.nil⟩
set_option maxHeartbeats 1000000 in
theorem idxM_c (vl : Value) (l : List MadeL) (aw : Option Addr) (cw bw : Nat) (way : List Int) (w0 : World) (I0 : Imm) (hI : Sat I0 w0) (hl : RMades I0 vl l) (hw : atI I0 ⟨bw, 0, none⟩ [.slice aw way.length cw]) (hwl : RFl I0 1 intC (.slice aw way.length cw) way) :
 Ctr prog 142 [vl,.func (.func 141) #[] #[.pointer (some ⟨bw,0,none⟩)]] w0 (fun v w'=>∃r:Int,v = .int .i64 r∧Ext w0 I0 w' I0∧((r = -1∧∀(i:Nat) (x:MadeL),l[i]? = some x→x.way≠way)∨∃(k:Nat) (d:MadeL),r=k∧l[k]? = some d∧d.way=way∧∀(i:Nat) (x:MadeL),i < k→l[i]? = some x→x.way≠way)):=by
 have hle:=RSl.le hl;simp only[maxLen]at hle;refine fn (n:=19) func142 rfl rfl rfl ?_;have hS:=St.start hI;refine QwR (qq hS (Qai rfl) (QoN (xL (QwR (qq hS (qk _) (qq hS (qz rfl QK hl rfl) (qq hS (Qmi rfl) (QoN (uk (loop (fun(k:Nat) σ w=>okS σ [(0,vl),(1,.func (.func 141) #[] #[.pointer (some ⟨bw,0,none⟩)]),(7,.int .i64 l.length),(8,.int .i64 k)]∧St [] w0 I0 I0 w []∧k≤l.length∧∀(i:Nat) (x:MadeL),i < k→l[i]? = some x→x.way≠way) (fun k=>l.length - k) (0) ?_ ?_))))))))))
 ·
  exact⟨⟨rfl,rfl,rfl,rfl,trivial⟩,hS.sel [],by omega,fun i y hi=>by omega⟩
 ·
  rintro k σ w_l⟨hs,hS,hk0,hall⟩;rw[← qx hs]; clear hs
  refine QwR (qq hS (g_lss rfl rfl) (QoN (xL (qo rfl ?_ ?_))))
  ·
   intro hc9
   try simp only[zA,zO,zN,zI,zF,zM,zT,zU]at hc9
   obtain⟨d,hdi⟩:∃x,l[k]? = some x:=⟨_,xW (by omega)⟩
   obtain⟨csd,hcld,hxA,hxc⟩:=RSl.at hl hdi;obtain⟨ad,cd,ap,mp,cp,rfl,hxl,hxo⟩:=hxc;refine xZ (xN (xL (uk (QwR (qq hS (Qmi rfl) (qq hS (Qai rfl) (QoR (qq hS (qk _) (qq hS (qk _) (qq hS (Qmi rfl) (qq hS (g_ixI QK JN hl rfl rfl (by omega) (by omega)) (qq hS (g_ldE (us:=[.slice _ _ _,.bool _,.int .i64 _,.int .i64 _,.slice _ _ _]) JN isAgg114 hxA rfl rfl rfl) (qe (zp call141 rfl rfl (com1_c d ad aw cd cw ap mp cp bw way _ _ hS.imm hxl hw hwl)) ?_)))))))))))));rintro _ w_1⟨rfl,hE⟩;replace hS:=hS.callE hE;refine QoN (qo rfl ?_ ?_)
   ·
    intro hc16
    try simp only[zA,zO,zN,zI,zF,zM,zT,zU]at hc16
    refine QwR (qq hS (Qmi rfl) (qq hS (Qai rfl) (QoN (ub (Qs (uw (uw (Qs (uw (ret1 results142 (qr (v:=.int .i64 _) rfl) ?_))))))))));exact⟨k,rfl,hS.nil,.inr ⟨k,d,rfl,hdi,hc16,hall⟩⟩
   ·
    intro hc16
    try simp only[zA,zO,zN,zI,zF,zM,zT,zU]at hc16
    have hnx:∀(i:Nat) (x:MadeL),i < k+1→l[i]? = some x→x.way≠way:=fun i y hi h=>by
     rcases Qk.1 hi with g | g
     · exact hall i y g h
     · subst g; rw[hdi]at h; cases h; exact hc16
    refine xZ (Qh (xN (reg (qq hS (g_add rfl rfl (by omega) (by omega)) (qq hS (Qmi rfl) ?_)))));exact⟨k+1,_,rfl,⟨⟨rfl,rfl,rfl,rfl,trivial⟩,hS.sel [],by omega,hnx⟩,by omega⟩
  ·
   intro hc9
   try simp only[zA,zO,zN,zI,zF,zM,zT,zU]at hc9
   obtain rfl:k=l.length:=by omega
   refine uD (uA (uA (Qw (xN (QwR (qq hS (Qai rfl) (QoN (ub (ret1 results142 (qr (v:=.int .i64 _) rfl) ?_)))))))));exact⟨-1,rfl,hS.nil,.inl ⟨rfl,fun i x h=>hall i x (uc.1 h).1 h⟩⟩
set_option maxHeartbeats 2000000 in
theorem composed_c (s : SrvL) (A : SrvA) (aw : Option Addr) (cw : Nat) (way : List Int) (w0 : World) (I0 : Imm) (hI : Sat I0 w0) (hs : RSrv I0 A s) (hwl : RFl I0 1 intC (.slice aw way.length cw) way) (hwi : ∀ i ∈ way, 0 ≤ i ∧ i < s.ps.length) (hpw : ∀ p ∈ s.ps, p.wf) (hwn : way.length ≤ 65536) (hps : s.ps.length ≤ 65536) (hcl : s.cache.length ≤ 65536) :
 Ctr prog 115 [.agg #[.slice A.a0 s.g.vs.length A.c0,.slice A.a1 s.g.ls.length A.c1,.slice A.a2 s.ps.length A.c2,.slice A.a3 s.gone.length A.c3,.slice A.a4 s.cache.length A.c4],.slice aw way.length cw] w0 (fun v w'=>∃I' a m c,v = .tuple #[.agg #[.bool (compC s way).p.lifted,.int .i64 (compC s way).p.in_,.int .i64 (compC s way).p.out,.slice a m c],.bool (compC s way).known,.int .i64 (compC s way).e]∧Ext w0 I0 w' I'∧ROps I' (.slice a m c) (compC s way).p.ops):=by
 refine fn (n:=49) func115 rfl rfl rfl ?_;have hS:=St.start hI;refine QwR (qe (d_box (cs:=[.slice _ _ _,.slice _ _ _,.slice _ _ _,.slice _ _ _,.slice _ _ _]) hS rfl) ?_);clear hS;rintro _ w_1⟨b2,rfl,hS⟩;refine qe (d_box (cs:=[.slice _ _ _]) hS rfl) ?_;clear hS;rintro _ w_2⟨b3,rfl,hS⟩;refine qe (qw (cs:=[.bool _,.int .i64 _,.int .i64 _,.slice _ _ _]) hS uQ rfl) ?_;clear hS;rintro _ w_3⟨b4,rfl,hS⟩;refine qq hS (Qab rfl) (qq hS (Qai rfl) (QoR ?_));have hF:=hS.freezeAt 1 rfl;clear hS;obtain⟨I_hw,hS,hI_hw,hw⟩:=hF;replace hs:=hs.mono hI_hw;replace hwl:=hwl.mono hI_hw;refine qq hS (jR ml0 (ml rfl ml0)) (qq hS (qy _) (QoN (xL (QwR (qq hS (qb (o':=4) un rfl Jk rfl rfl rfl) (qq hS (qi 1 JJ rfl rfl rfl) (qq hS (qk _) (qe (ql call142 rfl (idxM_c _ s.cache aw cw b3 way _ _ hS.imm hs.cache hw hwl)) ?_))))))));rintro _ w_4⟨r,rfl,hE,hr⟩;replace hS:=hS.callE hE;replace hs:=hs.mono hE.ext;replace hwl:=hwl.mono hE.ext;replace hw:=hw.mono hE.ext;refine qq hS (Qai rfl) (QoR (qq hS (Qmi rfl) (qq hS (g_geq rfl rfl) (QoN (qo rfl ?_ ?_)))))
 ·
  intro hc20
  try simp only[zA,zO,zN,zI,zF,zM,zT,zU]at hc20
  obtain⟨k,d,rfl,hdi,hdw,hdn⟩:∃(k:Nat) (d:MadeL),r=k∧s.cache[k]? = some d∧d.way=way∧∀(i:Nat) (x:MadeL),i < k→s.cache[i]? = some x→x.way≠way:=by
   rcases hr with ⟨h,_⟩ | h
   · omega
   · exact h
  have hkl:=(uc.1 hdi).1;have hcc:=compC_hit hdi hdw hdn;obtain⟨csd,hcld,hdA,hdc⟩:=RSl.at hs.cache hdi;obtain⟨ad,cd,ap,mp,cp,rfl,hdl,hdo⟩:=hdc;refine QwR (qq hS (qb (o':=4) un rfl Jk rfl rfl rfl) (qq hS (qi 1 JJ rfl rfl rfl) (qq hS (Qmi rfl) (qq hS (g_ixI QK JN hs.cache rfl rfl (by omega) (by omega)) (qq hS (qF (c':=1) JG rfl ul rfl rfl rfl) (qq hS (g_ldE (us:=[.bool _,.int .i64 _,.int .i64 _,.slice _ _ _]) ul uO hdA rfl rfl rfl) ?_))))));refine qe (qj 0 hS ul rfl rfl rfl (vs:=[.bool _,.int .i64 _,.int .i64 _,.slice _ _ _]) rfl rfl rfl (xP rfl) (cs':=[_,_,_,_]) rfl) ?_;clear hS;rintro _ w_5⟨rfl,hS⟩;refine qq hS (Qab rfl) (qq hS (Qai rfl) (QoN (ub (uw (ret3 results115 (qD 0 hS ul uO rfl rfl rfl) (qr (v:=.bool _) rfl) (qr (v:=.int .i64 _) rfl) ?_)))));rw[hcc]; exact⟨_,ap,mp,cp,rfl,hS.nil,hdo⟩
 ·
  intro hc20
  try simp only[zA,zO,zN,zI,zF,zM,zT,zU]at hc20
  have hno:∀(i:Nat) (x:MadeL),s.cache[i]? = some x→x.way≠way:=by
   rcases hr with ⟨_,h⟩ | ⟨k,d,h,_⟩
   · exact h
   · omega
  have hcc:=compC_miss hno;refine xZ (xN (QwR (qq hS (qy _) (QoN (xL (QwR (qq hS (kY (c:=0) uF hw rfl rfl) (qq hS (yW rfl ua rfl) (qq hS (Qmi rfl) (QoN (uk ?_)))))))))));replace hS:=hS.nilRow 46 4;refine loop (fun(x:CmW) σ w=>okS σ [(2,.pointer (some ⟨b2,0,none⟩)),(4,.pointer (some ⟨b4,0,none⟩)),(5,.bool false),(9,.slice x.a x.k x.c),(27,.slice aw way.length cw),(28,.int .i64 way.length),(29,.int .i64 x.k)]∧St [] w0 I0 I_hw w [.row (.slice x.a x.k x.c) 46 4 x.k x.css.flatten,.cel b4 46 [.bool false,.int .i64 0,.int .i64 0,.slice none 0 0],.cel b2 38 [.slice A.a0 s.g.vs.length A.c0,.slice A.a1 s.g.ls.length A.c1,.slice A.a2 s.ps.length A.c2,.slice A.a3 s.gone.length A.c3,.slice A.a4 s.cache.length A.c4]]∧x.k≤way.length∧All2 (RPatC I_hw) x.css (patsOf s.ps (way.take x.k))) (fun x=>way.length - x.k) (⟨0,none,0,[]⟩) ?_ ?_
  ·
   exact⟨⟨rfl,rfl,rfl,rfl,rfl,rfl,rfl,trivial⟩,hS.sel [true,true,true],by dsimp only; omega,All2.nil _⟩
  ·
   rintro⟨k,a,c,css⟩σ w_l⟨hs,hS,hk0,hA⟩;dsimp only at hs hS hk0 hA ⊢;rw[← qx hs]; clear hs
   refine QwR (qq hS (g_lss rfl rfl) (QoN (xL (qo rfl ?_ ?_))))
   ·
    intro hc30
    try simp only[zA,zO,zN,zI,zF,zM,zT,zU]at hc30
    obtain⟨i,hii⟩:∃x,way[k]? = some x:=⟨_,xW (by omega)⟩
    obtain⟨hi0,hi1⟩:=hwi i (uf hii);obtain⟨p,hpi⟩:∃p,s.ps[i.toNat]? = some p:=⟨_,xW (by omega)⟩
    obtain⟨csp,hclp,hpA,hpc⟩:=RSl.at hs.ps hpi;obtain⟨ap,mp,cp,rfl,hpo⟩:=hpc;have hsn:=vv hii hpi;refine xZ (xN (xL (uk (QwR (qq hS (g_ixI ua xX hwl rfl rfl (by omega) (by omega)) (qq hS (qC uj (hwl.at hii) rfl rfl) (qq hS (Qai rfl) (QoN (reg (qq hS (qk _) (qq hS (qb (o':=2) un rfl QZ rfl rfl rfl) (qq hS (qi 2 JF rfl rfl rfl) (qq hS (Qmi rfl) (qq hS (g_ixI Qf ul hs.ps rfl rfl (by omega) (by omega)) ?_))))))))))))));refine qq hS (g_ldE (us:=[.bool _,.int .i64 _,.int .i64 _,.slice _ _ _]) ul uO hpA rfl rfl rfl) ?_;refine qe (d_lit (vs:=[.agg #[.bool _,.int .i64 _,.int .i64 _,.slice _ _ _]]) (cs:=[.bool _,.int .i64 _,.int .i64 _,.slice _ _ _]) hS Qf ul uQ rfl rfl rfl rfl (fun v hv=>by simp only[uq,ur,or_false]at hv; subst hv; rfl) rfl) ?_;clear hS;rintro _ w_6⟨b39,rfl,hS⟩;refine qe (qE 1 0 hS rfl Qf info46 rfl rfl rfl rfl rfl rfl rfl rfl (by omega) (by omega)) ?_;clear hS;rintro _ w_7⟨a40,p40,rfl,hS⟩;refine qq hS (qy _) (qh (Qh (xN (reg (qq hS (g_add rfl rfl (by omega) (by omega)) (qq hS (Qmi rfl) ?_))))));exact⟨⟨k+1,a40,p40,css++[[.bool p.lifted,.int .i64 p.in_,.int .i64 p.out,.slice ap mp cp]]⟩,_,rfl,⟨⟨rfl,rfl,rfl,rfl,rfl,rfl,rfl,trivial⟩,by dsimp only; rw[QT]; exact hS.sel [false,true,true,true],by dsimp only; omega,by dsimp only; rw[hsn]; exact hA.snoc ⟨_,_,_,rfl,hpo⟩⟩,by dsimp only; omega⟩
   ·
    intro hc30
    try simp only[zA,zO,zN,zI,zF,zM,zT,zU]at hc30
    obtain rfl:k=way.length:=by omega
    rw[Qq]at hA;refine uD (uA (uA (Qw (xN (xL ?_)))));have hF:=St.freezeRowR (u:=.slice a way.length c) (m:=way.length) (xs:=patsOf s.ps way) (css:=css) (by exact hS.ord [0,1,2]) (by rw[zg]) (rpat_cl hA) (hA);clear hS;obtain⟨I_hl,hS,hI_hl,hl⟩:=hF;replace hs:=hs.mono hI_hl;replace hwl:=hwl.mono hI_hl;replace hw:=hw.mono hI_hl;replace hl:RPats I_hl (.slice a way.length c) (patsOf s.ps way):=RSl.mono hl (Sub.refl _) (fun _ _ h=>h.mono hI_hl);rw[show(Value.slice a way.length c) = .slice a (patsOf s.ps way).length c by rw[zg]]at hl ⊢;refine reg (qq hS (qk _) ?_);refine qe (ql call143 rfl (all_c a c (patsOf s.ps way) _ _ hS.imm hl (zR hpw way) (by rw[zg]; exact hwn))) ?_;rintro _ w_8⟨I_f,a44,m44,c44,rfl,hE,h44⟩;replace hS:=hS.callE hE;replace hs:=hs.mono hE.ext;replace hwl:=hwl.mono hE.ext;replace hw:=hw.mono hE.ext;replace hl:=hl.mono hE.ext;refine qq hS (qk _) (qq hS (qt rfl rfl) (qq hS (Qxi rfl rfl) (qe (qw (cs:=[.bool _,.int .i64 _,.int .i64 _,.slice _ _ _]) hS uQ rfl) ?_)));clear hS;rintro _ w_9⟨b12,rfl,hS⟩;refine qe (qj 0 hS ul rfl rfl rfl (vs:=[.bool _,.int .i64 _,.int .i64 _,.slice _ _ _]) rfl rfl rfl (xP rfl) (cs':=[_,_,_,_]) rfl) ?_;clear hS;rintro _ w_10⟨rfl,hS⟩;refine qq hS (Qai rfl) (QoR (qq hS (g_ldO 0 (vs:=[.bool _,.int .i64 _,.int .i64 _,.slice _ _ _]) ul uO rfl rfl rfl rfl) (qq hS (Qmi rfl) (qe (qj 1 hS ul rfl rfl rfl (vs:=[.bool _,.int .i64 _,.int .i64 _,.slice _ _ _]) rfl rfl rfl (xP rfl) (cs':=[_,_,_,_]) rfl) ?_))));clear hS;rintro _ w_11⟨rfl,hS⟩;refine qq hS (Qab rfl) (qq hS (Qai rfl) (QoN (ub (ret3 results115 (qD 1 hS ul uO rfl rfl rfl) (qr (v:=.bool _) rfl) (qr (v:=.int .i64 _) rfl) ?_))))
    rw[hcc]; exact⟨_,a44,m44,c44,rfl,hS.nil,h44⟩
end Go.Proofs.YtcajgkfgjpfmaaaGreat
namespace Go.Proofs.YtcajgkfgjpfmaaaGreat
open Tryz
open Go Go.RowKit Go.Inl
structure SrvB (s : SrvL) : Prop where
 g:GrB s.g
 pl:s.ps.length=s.g.ls.length
 pw:∀p∈s.ps,p.wf
 cl:s.cache.length≤8
def offerP (s:SrvL)(f t:Int)(m:NeedL):OffR :=
 if (pathP s.g f t m).e≠0 then ⟨s,OffL.none,(pathP s.g f t m).e⟩ else offerW s f (pathP s.g f t m).l (pathP s.g f t m).c
def lastI (l:List Int):Int:=l.getD (l.length - 1) 0
def bestP (s:SrvL)(f:Int)(m:NeedL):OffR :=
 if f∈s.g.vs then if openP s f m=[] then ⟨s,OffL.none,290⟩ else offerP s f (lastI (openP s f m)) m else ⟨s,OffL.none,291⟩
theorem yL {g:GrL}{m:NeedL}{s:Int}:∀(n:Nat) (l:List Int),l.length=n→∀v c,walkW g m s l=some (v,c)→∀i∈l,0≤i∧i < g.ls.length:=by
 refine snocI (p:=fun l=>∀v c,walkW g m s l=some (v,c)→∀i∈l,0≤i∧i < g.ls.length) (fun v c h i hi=>by cases hi) ?_;intro l x ih v c h i hi;obtain⟨d,k,h1,h2,h3,_⟩:=kI h;rcases uX.1 hi with hi | hi
 · exact ih _ _ h1 i hi
 · rw [uL] at hi
   subst hi;have:=(uc.1 h3).1;exact⟨h2,by omega⟩
theorem path_ix {g:GrL}(hg:GrOk g){s t:Int}{m:NeedL}:∀i∈(pathP g s t m).l,0≤i∧i < g.ls.length:=by
 unfold pathP;split
 · rename_i h
   split
   · rename_i h2
     obtain⟨ord,hr⟩:=zu hg m h.1;exact yL _ _ rfl _ _ (hr.opt.real _ _ (kF h.2) h2)
   · intro i hi; cases hi
 · intro i hi; cases hi
theorem path_len {g:GrL}(hg:GrB g)(s t:Int)(m:NeedL):(pathP g s t m).l.length≤16:=by
 unfold pathP;split
 · split
   · exact(ways_bd hg s m _).1
   · exact Nat.zero_le _
 · exact Nat.zero_le _
structure WyW where
 k:Nat
 a:Option Addr
 c:Nat
theorem lnkT_at {g:GrL}{i:Int}{k:LnkL}(h:g.ls[i.toNat]? = some k):lnkT g i=k.t:=by unfold lnkT; rw[h]
theorem rmades_drop {I:Imm}{ad:Option Addr}{cap:Nat}{l:List MadeL}(h:RMades I (.slice ad l.length cap) l){k:Nat}(hk:k≤l.length):∃a c,resl (.slice ad l.length cap) k l.length cap 5 = .slice a (l.drop k).length c∧RMades I (.slice a (l.drop k).length c) (l.drop k):=by
 have h2:=RSl.slL h k hk;refine⟨if cap=k then ad else ad.map (·.add (k*5)),cap - k,?_,?_⟩
 · rw[Qj]; rfl
 · rw[Qj]; exact h2
set_option maxHeartbeats 4000000 in
theorem offer_c (s : SrvL) (A : SrvA) (f t : Int) (m : NeedL) (w0 : World) (I0 : Imm) (hI : Sat I0 w0) (hs : RSrv I0 A s) (hb : SrvB s) :
 Ctr prog 78 [.agg #[.slice A.a0 s.g.vs.length A.c0,.slice A.a1 s.g.ls.length A.c1,.slice A.a2 s.ps.length A.c2,.slice A.a3 s.gone.length A.c3,.slice A.a4 s.cache.length A.c4],.int .i64 f,.int .i64 t,.agg #[.int .i64 m.s,.int .i64 m.u,.int .i64 m.r,.int .i64 m.e,.int .i64 m.o]] w0 (fun v w'=>∃I' A' B,v = .tuple #[.agg #[.slice A'.a0 (offerP s f t m).s.g.vs.length A'.c0,.slice A'.a1 (offerP s f t m).s.g.ls.length A'.c1,.slice A'.a2 (offerP s f t m).s.ps.length A'.c2,.slice A'.a3 (offerP s f t m).s.gone.length A'.c3,.slice A'.a4 (offerP s f t m).s.cache.length A'.c4],.agg #[.slice B.a (offerP s f t m).o.way.length B.c,.bool (offerP s f t m).o.p.lifted,.int .i64 (offerP s f t m).o.p.in_,.int .i64 (offerP s f t m).o.p.out,.slice B.ap B.m B.cp,.int .i64 (offerP s f t m).o.c],.int .i64 (offerP s f t m).e]∧Ext w0 I0 w' I'∧RSrv I' A' (offerP s f t m).s∧ROff I' B (offerP s f t m).o):=by
 have hnl:=hb.g.nl;have hpl:=hb.pl;have hcl:=hb.cl;have hpi:=path_ix hb.g.toGrOk (s:=f) (t:=t) (m:=m);have hpn:=path_len hb.g f t m;obtain⟨P,hP⟩:∃P,pathP s.g f t m=P:=⟨_,rfl⟩
 obtain⟨C,hC⟩:∃C,compC s P.l=C:=⟨_,rfl⟩
 rw[hP]at hpi hpn;refine fn (n:=101) func78 rfl rfl rfl ?_;have hS:=St.start hI;refine QwR (qe (d_box (cs:=[.slice _ _ _,.slice _ _ _,.slice _ _ _,.slice _ _ _,.slice _ _ _]) hS rfl) ?_);clear hS;rintro _ w_1⟨b4,rfl,hS⟩;refine qe (d_box (cs:=[.int .i64 _,.int .i64 _,.int .i64 _,.int .i64 _,.int .i64 _]) hS rfl) ?_;clear hS;rintro _ w_2⟨b7,rfl,hS⟩;refine qe (qw (cs:=[.slice _ _ _,.slice _ _ _,.slice _ _ _,.slice _ _ _,.slice _ _ _]) hS Qd rfl) ?_;clear hS;rintro _ w_3⟨b8,rfl,hS⟩;refine qe (qw (cs:=[.slice _ _ _,.bool _,.int .i64 _,.int .i64 _,.slice _ _ _,.int .i64 _]) hS Jh rfl) ?_;clear hS;rintro _ w_4⟨b9,rfl,hS⟩;refine qq hS (Qai rfl) (QoR (qq hS (qb (o':=0) un rfl uv rfl rfl rfl) (qq hS (g_ldO 3 (vs:=[.slice _ _ _,.slice _ _ _]) uv Je rfl rfl rfl rfl) (qq hS (Qmi rfl) (qq hS (Qmi rfl) (qq hS (g_ldO 2 (vs:=[.int .i64 _,.int .i64 _,.int .i64 _,.int .i64 _,.int .i64 _]) Qe QO rfl rfl rfl rfl) (qe (ql call84 rfl (path_c s.g A.a0 A.a1 A.c0 A.c1 f t m _ _ hS.imm hs.g hb.g)) ?_)))))));rintro _ w_5⟨I_f,a27,c27,rfl,hE,h27⟩;replace hS:=hS.callE hE;replace hs:=hs.mono hE.ext;rw[hP]at h27 ⊢;refine qq hS (qk _) (qq hS (qt rfl rfl) (qq hS (Qxi rfl rfl) (qq hS (Qxi rfl rfl) (qq hS (qy _) (qq hS (Qai rfl) (qq hS (Qai rfl) (QoN (xL (QwR (qq hS (Qmi rfl) (qq hS (g_neq rfl rfl) (QoN (qo rfl ?_ ?_)))))))))))))
 ·
  intro hc32
  try simp only[zA,zO,zN,zI,zF,zM,zT,zU]at hc32
  have hR:offerP s f t m=⟨s,OffL.none,P.e⟩:=by unfold offerP; rw[hP,ui hc32]
  refine QwR (qq hS (g_ldO 3 (vs:=[.slice _ _ _,.slice _ _ _,.slice _ _ _,.slice _ _ _,.slice _ _ _]) um uz rfl rfl rfl rfl) (qq hS (qv (pl:=[(0,1),(1,4),(5,1)]) (cs:=[.slice _ _ _,.bool _,.int .i64 _,.int .i64 _,.slice _ _ _,.int .i64 _]) Jh Qa (fun w=>by simp[xX,uo,ul]) mp0 rfl) ?_));refine qq hS (Qmi rfl) (qe (qj 1 hS um rfl rfl rfl (vs:=[.slice _ _ _,.slice _ _ _,.slice _ _ _,.slice _ _ _,.slice _ _ _]) rfl rfl rfl (xP rfl) (cs':=[_,_,_,_,_]) rfl) ?_);clear hS;rintro _ w_6⟨rfl,hS⟩;refine qe (qj 0 hS uS rfl rfl rfl (vs:=[.slice _ _ _,.bool _,.int .i64 _,.int .i64 _,.slice _ _ _,.int .i64 _]) rfl rfl rfl (xP rfl) (cs':=[_,_,_,_,_,_]) rfl) ?_;clear hS;rintro _ w_7⟨rfl,hS⟩;refine qq hS (Qai rfl) (QoN (ub (uw (ret3 Zk (qD 1 hS um uz rfl rfl rfl) (qD 0 hS uS Jw rfl rfl rfl) (qr (v:=.int .i64 _) rfl) ?_))));rw[hR]; exact⟨_,A,⟨none,0,none,0,0⟩,rfl,hS.nil,hs,⟨RFl.nil,RSl.nilR⟩⟩
 ·
  intro hc32
  try simp only[zA,zO,zN,zI,zF,zM,zT,zU]at hc32
  have hR0:offerP s f t m=offerW s f P.l P.c:=by unfold offerP; rw[hP,ud (fun h=>h hc32)]
  refine xZ (xN (QwR (qq hS (Qmi rfl) ?_)));refine qe (d_lit (vs:=[.int .i64 _]) (cs:=[.int .i64 _]) hS ua xX QA rfl rfl rfl rfl (fun v hv=>by simp only[uq,ur,or_false]at hv; subst hv; rfl) rfl) ?_;clear hS;rintro _ w_8⟨b37,rfl,hS⟩;refine qq hS (Qmi rfl) (qq hS (qv (pl:=[(0,1),(1,4),(5,1)]) (cs:=[.slice _ _ _,.bool _,.int .i64 _,.int .i64 _,.slice _ _ _,.int .i64 _]) Jh Qa (fun w=>by simp[xX,uo,ul]) (mp (v:=.slice _ _ _) rfl (mp (v:=.int .i64 _) rfl mp0)) rfl) (qe (qw (cs:=[.slice _ _ _,.bool _,.int .i64 _,.int .i64 _,.slice _ _ _,.int .i64 _]) hS Jh rfl) ?_));clear hS;rintro _ w_9⟨b14,rfl,hS⟩;refine qe (qj 0 hS uS rfl rfl rfl (vs:=[.slice _ _ _,.bool _,.int .i64 _,.int .i64 _,.slice _ _ _,.int .i64 _]) rfl rfl rfl (xP rfl) (cs':=[_,_,_,_,_,_]) rfl) ?_;clear hS;rintro _ w_10⟨rfl,hS⟩;refine QoN (xL (QwR (qq hS (qk _) (qq hS (qz rfl ua h27 rfl) (qq hS (g_eql rfl rfl) (QoN (qo rfl ?_ ?_)))))))
  ·
   intro hc42
   try simp only[zA,zO,zN,zI,zF,zM,zT,zU]at hc42
   have hl0:P.l=[]:=Ql.1 (by omega);have hR:offerP s f t m=⟨s,⟨[f],PatL.zero,P.c⟩,0⟩:=by rw[hR0]; unfold offerW; rw[ui hl0]
   refine xL (drawS [true,true,false,false,true,true] (.cons 0 .held (.cons 1 .held (.cons 2 .eff (.cons 3 .eff (.cons 4 .pure .nil))))) mixed (by kernel_rfl) hS ?_);intro w_11 hS;refine sh rfl (g_ldO 3 (vs:=[.slice _ _ _,.slice _ _ _,.slice _ _ _,.slice _ _ _,.slice _ _ _]) um uz rfl rfl rfl rfl) (sh rfl (g_ldO 0 (vs:=[.slice _ _ _,.bool _,.int .i64 _,.int .i64 _,.slice _ _ _,.int .i64 _]) uS Jw rfl rfl rfl rfl) ?_);have hS0:=hS;refine se rfl (qj 3 hS um rfl rfl rfl (vs:=[.slice _ _ _,.slice _ _ _,.slice _ _ _,.slice _ _ _,.slice _ _ _]) rfl rfl rfl (xP rfl) (cs':=[_,_,_,_,_]) rfl) ?_;rintro _ w_12⟨rfl,hS⟩;refine⟨_,_,fun _ h=>h,hS.sel [true,true,false,false,true,true],?_⟩;have hS0:=hS;refine se rfl (qj 2 hS uS rfl rfl rfl (vs:=[.slice _ _ _,.bool _,.int .i64 _,.int .i64 _,.slice _ _ _,.int .i64 _]) rfl rfl rfl (xP rfl) (cs':=[_,_,_,_,_,_]) rfl) ?_;rintro _ w_13⟨rfl,hS⟩;refine⟨_,_,fun _ h=>h,hS.sel [true,true,false,false,true,true],sp rfl (Qai rfl) (sn (xN (ub (uw (ret3 Zk (qD 3 hS um uz rfl rfl rfl) (qD 2 hS uS Jw rfl rfl rfl) (qr (v:=.int .i64 _) rfl) ?_)))))⟩;have hF:=(hS.sel [false,true,false,false,false,false]).freezeAt 0 rfl;obtain⟨I1,hS1,hI1,hb1⟩:=hF;have hw1:=RFl.ofAt qH [f] hb1 rfl (by show 1≤maxLen; decide);rw[hR];exact⟨I1,A,⟨some ⟨b37,0,none⟩,1,none,0,0⟩,rfl,hS1.nil,hs.mono hI1,⟨hw1,RSl.nilR⟩⟩
  ·
   intro hc42
   try simp only[zA,zO,zN,zI,zF,zM,zT,zU]at hc42
   have hl0:P.l≠[]:=fun h=>hc42 (by rw[h]; rfl)
   refine xZ (xN (QwR (qq hS (g_ldO 5 (vs:=[.slice _ _ _,.slice _ _ _,.slice _ _ _,.slice _ _ _,.slice _ _ _]) um uz rfl rfl rfl rfl) (qq hS (qk _) ?_))));refine qe (ql call115 rfl (composed_c s A a27 c27 P.l _ _ hS.imm hs h27 (fun i hi=>by have:=hpi i hi; omega) hb.pw (by omega) (by omega) (by omega))) ?_;rintro _ w_14⟨I_f,a48,m48,c48,rfl,hE,h48⟩;replace hS:=hS.callE hE;replace hs:=hs.mono hE.ext;replace h27:=h27.mono hE.ext;rw[hC]at h48 ⊢;refine qq hS (qk _) (qq hS (qt rfl rfl) (qq hS (qt (v:=.bool _) rfl rfl) (qq hS (Qxi rfl rfl) (qe (qw (cs:=[.bool _,.int .i64 _,.int .i64 _,.slice _ _ _]) hS uQ rfl) ?_))));clear hS;rintro _ w_15⟨b15,rfl,hS⟩;refine qe (qj 0 hS ul rfl rfl rfl (vs:=[.bool _,.int .i64 _,.int .i64 _,.slice _ _ _]) rfl rfl rfl (xP rfl) (cs':=[_,_,_,_]) rfl) ?_;clear hS;rintro _ w_16⟨rfl,hS⟩;refine qq hS (Qab rfl) (qq hS (Qai rfl) (QoN (xL (QwR (qq hS (Qmi rfl) (qq hS (g_neq rfl rfl) (QoN (qo rfl ?_ ?_))))))))
   ·
    intro hc53
    try simp only[zA,zO,zN,zI,zF,zM,zT,zU]at hc53
    have hR:offerP s f t m=⟨s,OffL.none,2⟩:=by rw[hR0]; unfold offerW; rw[ud hl0,hC,ui hc53]
    refine QwR (qq hS (g_ldO 6 (vs:=[.slice _ _ _,.slice _ _ _,.slice _ _ _,.slice _ _ _,.slice _ _ _]) um uz rfl rfl rfl rfl) (qq hS (qv (pl:=[(0,1),(1,4),(5,1)]) (cs:=[.slice _ _ _,.bool _,.int .i64 _,.int .i64 _,.slice _ _ _,.int .i64 _]) Jh Qa (fun w=>by simp[xX,uo,ul]) mp0 rfl) ?_));refine qe (qj 4 hS um rfl rfl rfl (vs:=[.slice _ _ _,.slice _ _ _,.slice _ _ _,.slice _ _ _,.slice _ _ _]) rfl rfl rfl (xP rfl) (cs':=[_,_,_,_,_]) rfl) ?_;clear hS;rintro _ w_17⟨rfl,hS⟩;refine qe (qj 3 hS uS rfl rfl rfl (vs:=[.slice _ _ _,.bool _,.int .i64 _,.int .i64 _,.slice _ _ _,.int .i64 _]) rfl rfl rfl (xP rfl) (cs':=[_,_,_,_,_,_]) rfl) ?_;clear hS;rintro _ w_18⟨rfl,hS⟩;refine qq hS (Qai rfl) (QoN (ub (uw (ret3 Zk (qD 4 hS um uz rfl rfl rfl) (qD 3 hS uS Jw rfl rfl rfl) (qr (v:=.int .i64 _) rfl) ?_))));rw[hR]; exact⟨_,A,⟨none,0,none,0,0⟩,rfl,hS.nil,hs,⟨RFl.nil,RSl.nilR⟩⟩
   ·
    intro hc53
    try simp only[zA,zO,zN,zI,zF,zM,zT,zU]at hc53
    have hR1:offerP s f t m=⟨if C.known=true then s else pushC s P.l C.p,⟨f::P.l.map (lnkT s.g),C.p,P.c⟩,0⟩:=by rw[hR0]; unfold offerW; rw[ud hl0,hC,ud (fun h=>h hc53)]
    refine xZ (xN (xL (xL ?_)));replace hS:=hS.celRow (b:=b37) (E:=3) (n:=1) (c:=1) (sz:=1) (xs:=flat intC [f]) (rest:=[]) 2 rfl rfl (by decide) (by decide) rfl;refine reg (qq hS (qk _) (qq hS (qz rfl ua h27 rfl) (qq hS (Qmi rfl) (QoN (uk (loop (fun(x:WyW) σ w=>okS σ [(4,.pointer (some ⟨b4,0,none⟩)),(8,.pointer (some ⟨b8,0,none⟩)),(9,.pointer (some ⟨b9,0,none⟩)),(10,.int .i64 0),(11,.slice a27 P.l.length c27),(14,.pointer (some ⟨b14,0,none⟩)),(15,.pointer (some ⟨b15,0,none⟩)),(16,.bool C.known),(56,.slice a27 P.l.length c27),(57,.int .i64 P.l.length),(58,.int .i64 x.k)]∧St [] w0 I0 I_f w [.cel b15 46 [.bool C.p.lifted,.int .i64 C.p.in_,.int .i64 C.p.out,.slice a48 m48 c48],.cel b14 48 [.slice x.a (x.k+1) x.c,.bool false,.int .i64 0,.int .i64 0,.slice none 0 0,.int .i64 P.c],.row (.slice x.a (x.k+1) x.c) 3 1 (x.k+1) (flat intC (f::((P.l).take x.k).map (lnkT s.g))),.cel b9 48 [.slice none 0 0,.bool false,.int .i64 0,.int .i64 0,.slice none 0 0,.int .i64 0],.cel b8 38 [.slice none 0 0,.slice none 0 0,.slice none 0 0,.slice none 0 0,.slice none 0 0],.cel b4 38 [.slice A.a0 s.g.vs.length A.c0,.slice A.a1 s.g.ls.length A.c1,.slice A.a2 s.ps.length A.c2,.slice A.a3 s.gone.length A.c3,.slice A.a4 s.cache.length A.c4]]∧x.k≤P.l.length) (fun x=>P.l.length - x.k) (⟨0,some ⟨b37,0,none⟩,1⟩) ?_ ?_))))))
    ·
     exact⟨⟨rfl,rfl,rfl,rfl,rfl,rfl,rfl,rfl,rfl,rfl,rfl,trivial⟩,hS.sel [true,true,true,true,true,false,true],by dsimp only; omega⟩
    ·
     rintro⟨k,a,c⟩σ w_l⟨hs,hS,hk0⟩;dsimp only at hs hS hk0 ⊢;rw[← qx hs]; clear hs
     refine QwR (qq hS (g_lss rfl rfl) (QoN (xL (qo rfl ?_ ?_))))
     ·
      intro hc59
      try simp only[zA,zO,zN,zI,zF,zM,zT,zU]at hc59
      obtain⟨i,hii⟩:∃x,P.l[k]? = some x:=⟨_,xW (by omega)⟩
      obtain⟨hi0,hi1⟩:=hpi i (uf hii);obtain⟨q,hqi⟩:∃q,s.g.ls[i.toNat]? = some q:=⟨_,xW (by omega)⟩
      have hkA:=hs.g.ls.at hqi;have hsn:f::(P.l.take (k+1)).map (lnkT s.g)=(f::(P.l.take k).map (lnkT s.g))++[q.t]:=by rw[qL hii,Qy,QN,List.map_nil,lnkT_at hqi]; rfl
      refine xZ (xN (xL (uk (QwR (qq hS (g_ixI ua xX h27 rfl rfl (by omega) (by omega)) (qq hS (qC uj (h27.at hii) rfl rfl) (qq hS (Qai rfl) (QoN (draw (.cons 0 .pure (.cons 1 .held (.cons 2 .pure (.cons 3 .pure (.cons 4 .held (.cons 5 .pure (.cons 6 .pure (.cons 7 .pure (.cons 8 .held (.cons 9 .eff (.cons 10 .bar (.cons 11 .pure (.cons 12 .bar .nil))))))))))))) mixed (by kernel_rfl) hS ?_)))))))));intro w_19 hS;refine sp rfl (qb (o':=0) Qa rfl uo rfl rfl rfl) (sh rfl (qi 1 uF rfl rfl rfl) (sp rfl (qb (o':=0) un rfl uv rfl rfl rfl) (sp rfl (qb (o':=1) ut rfl uZ rfl rfl rfl) (sh rfl (qi 5 Jm rfl rfl rfl) (sp rfl (Qmi rfl) (sp rfl (g_ixI uy uM hs.g.ls rfl rfl (by omega) (by omega)) (sp rfl (qF (c':=1) uI rfl xX rfl rfl rfl) ?_)))))));refine sh rfl (qC uj hkA rfl rfl) ?_;have hS0:=hS;refine se rfl (d_lit (vs:=[.int .i64 _]) (cs:=[.int .i64 _]) hS ua xX QA rfl rfl rfl rfl (fun v hv=>by simp only[uq,ur,or_false]at hv; subst hv; rfl) rfl) ?_;rintro _ w_20⟨b71,rfl,hS⟩;refine⟨_,_,hS0.le (Sub.refl _) (ue _ _),hS,sb rfl (qE 3 0 hS rfl ua info3 rfl rfl rfl rfl rfl rfl rfl rfl (by omega) (by omega)) ?_⟩;rintro _ w_21⟨a72,p72,rfl,hS⟩;refine⟨_,_,hS,sp rfl (qb (o':=0) Qa rfl uo rfl rfl rfl) (sb rfl (qj 2 hS uo rfl rfl rfl (vs:=[.slice _ _ _]) rfl rfl rfl (xP rfl) (cs':=[_,_,_,_,_,_]) rfl) ?_)⟩;rintro _ w_22⟨rfl,hS⟩;refine⟨_,_,hS,sn (Qh (xN (reg (qq hS (g_add rfl rfl (by omega) (by omega)) (qq hS (Qmi rfl) ?_)))))⟩;exact⟨⟨k+1,a72,p72⟩,_,rfl,⟨⟨rfl,rfl,rfl,rfl,rfl,rfl,rfl,rfl,rfl,rfl,rfl,trivial⟩,by dsimp only; rw[hsn,qB]; exact hS.sel [false,true,true,true,true,true,true],by dsimp only; omega⟩,by dsimp only; omega⟩
     ·
      intro hc59
      try simp only[zA,zO,zN,zI,zF,zM,zT,zU]at hc59
      obtain rfl:k=P.l.length:=by omega
      rw[Qq]at hS;refine uD (uA (uA (Qw (xN (QwR (qq hS (g_ldO 0 (vs:=[.bool _,.int .i64 _,.int .i64 _,.slice _ _ _]) ul uO rfl rfl rfl rfl) (qq hS (qb (o':=1) Qa rfl ul rfl rfl rfl) (qe (qj 1 hS ul rfl rfl rfl (vs:=[.bool _,.int .i64 _,.int .i64 _,.slice _ _ _]) rfl rfl rfl (xP rfl) (cs':=[_,_,_,_,_,_]) rfl) ?_))))))));clear hS;rintro _ w_23⟨rfl,hS⟩;refine QoN (xL (QwR (qq hS (Qmb rfl) (qq hS (g_not rfl) (QoN (qo rfl ?_ ?_))))))
      ·
       intro hc78;have hkn:C.known=false:=by simpa using hc78
       have hR:offerP s f t m=⟨pushC s P.l C.p,⟨f::P.l.map (lnkT s.g),C.p,P.c⟩,0⟩:=by rw[hR1,hkn]; rfl
       refine QwR (qq hS (qb (o':=4) un rfl Jk rfl rfl rfl) (qq hS (qi 5 JJ rfl rfl rfl) (qq hS (qz rfl QK hs.cache rfl) (qq hS (Qai rfl) (QoN (xL (draw (.cons 0 .pure (.cons 1 .held (.cons 2 .pure (.cons 3 .pure (.cons 4 .pure (.cons 5 .pure (.cons 6 .held (.cons 7 .pure (.cons 8 .eff (.cons 9 .eff (.cons 10 .pure .nil))))))))))) mixed (by kernel_rfl) hS ?_)))))));intro w_24 hS;refine sp rfl (qb (o':=4) un rfl Jk rfl rfl rfl) (sh rfl (qi 5 JJ rfl rfl rfl) (sp rfl (Qmi rfl) (sp rfl (Qmi rfl) (sp rfl (g_clip hs.cache QK JN rfl rfl rfl) (sp rfl (qk _) (sh rfl (g_ldO 0 (vs:=[.bool _,.int .i64 _,.int .i64 _,.slice _ _ _]) ul uO rfl rfl rfl rfl) (sp rfl (qv (pl:=[(0,1),(1,4)]) (cs:=[.slice _ _ _,.bool _,.int .i64 _,.int .i64 _,.slice _ _ _]) Zi JG (fun w=>by simp[uo,ul]) (mp (v:=.slice _ _ _) rfl (mp (v:=.agg #[.bool _,.int .i64 _,.int .i64 _,.slice _ _ _]) rfl mp0)) rfl) ?_)))))));have hS0:=hS;refine se rfl (d_lit (vs:=[.agg #[.slice _ _ _,.bool _,.int .i64 _,.int .i64 _,.slice _ _ _]]) (cs:=[.slice _ _ _,.bool _,.int .i64 _,.int .i64 _,.slice _ _ _]) hS QK JN Zi rfl rfl rfl rfl (fun v hv=>by simp only[uq,ur,or_false]at hv; subst hv; rfl) rfl) ?_;rintro _ w_25⟨b90,rfl,hS⟩;refine⟨_,_,hS0.le (Sub.refl _) (ue _ _),hS,?_⟩;have hS0:=hS;refine se rfl (qO 0 hS rfl QK info114 rfl rfl (jn hs.cache) rfl rfl rfl rfl rfl (by omega) (by omega)) ?_;rintro _ w_26⟨a91,c91,css,rfl,hA,hcl5,hS⟩;refine⟨_,_,hS0.le (Sub.refl _) (ue _ _),hS,sp rfl (qy _) (sn (xN ?_))⟩;have hF:=St.freezeRowR (u:=.slice a91 (s.cache.length+1) c91) (m:=s.cache.length+1) (xs:=s.cache++([⟨P.l,C.p⟩]:List MadeL)) (css:=css++[[.slice a27 P.l.length c27,.bool C.p.lifted,.int .i64 C.p.in_,.int .i64 C.p.out,.slice a48 m48 c48]]) (by rw[QT]; exact hS.ord [0,1,2,3,4,5,6,7]) (by simp) ((by intro c hc; rcases uX.1 hc with h | h; exact hcl5 c h; rw[uL]at h; subst h; rfl)) ((hA.snoc ⟨_,_,_,_,_,rfl,h27,h48⟩))
       clear hS;obtain⟨I_hca,hS,hI_hca,hca⟩:=hF;replace hs:=hs.mono hI_hca;replace h27:=h27.mono hI_hca;replace h48:=h48.mono hI_hca;replace hca:RMades I_hca (.slice a91 (s.cache.length+1) c91) (s.cache++([⟨P.l,C.p⟩]:List MadeL)):=RSl.mono hca (Sub.refl _) (fun _ _ h=>h.mono hI_hca);rw[show s.cache.length+1=(s.cache++([⟨P.l,C.p⟩]:List MadeL)).length by simp]at hca ⊢;obtain⟨ad,cd,hdv,hdr⟩:=rmades_drop hca (k:=s.cache.length+1 - 8) (by simp; omega);have hll:(s.cache++([⟨P.l,C.p⟩]:List MadeL)).length=s.cache.length+1:=by simp
       refine reg (qq hS (qk _) (qq hS (qk _) (qq hS (qz rfl QK hca rfl) (qq hS (g_sub rfl rfl (by omega) (by omega)) (qq hS (g_max rfl rfl) (qq hS (g_toX (zk (l0:=s.cache.length+1 - 8) QK JN rfl rfl (by omega) (by omega) (by omega)) hdv) (qq hS (qb (o':=4) un rfl Jk rfl rfl rfl) (qe (qj 6 hS Jk rfl rfl rfl (vs:=[.slice _ _ _]) rfl rfl rfl (xP rfl) (cs':=[_,_,_,_,_]) rfl) ?_))))))));clear hS;rintro _ w_27⟨rfl,hS⟩;refine QoN (xL (drawS [true,true,true,true,false,false,true] (.cons 0 .held (.cons 1 .held (.cons 2 .eff (.cons 3 .eff (.cons 4 .pure .nil))))) mixed (by kernel_rfl) hS ?_));intro w_28 hS;refine sh rfl (g_ldO 4 (vs:=[.slice _ _ _,.slice _ _ _,.slice _ _ _,.slice _ _ _,.slice _ _ _]) um uz rfl rfl rfl rfl) (sh rfl (g_ldO 2 (vs:=[.slice _ _ _,.bool _,.int .i64 _,.int .i64 _,.slice _ _ _,.int .i64 _]) uS Jw rfl rfl rfl rfl) ?_);have hS0:=hS;refine se rfl (qj 5 hS um rfl rfl rfl (vs:=[.slice _ _ _,.slice _ _ _,.slice _ _ _,.slice _ _ _,.slice _ _ _]) rfl rfl rfl (xP rfl) (cs':=[_,_,_,_,_]) rfl) ?_;rintro _ w_29⟨rfl,hS⟩;refine⟨_,_,fun _ h=>h,hS.sel [true,true,true,true,false,false,true],?_⟩;have hS0:=hS;refine se rfl (qj 4 hS uS rfl rfl rfl (vs:=[.slice _ _ _,.bool _,.int .i64 _,.int .i64 _,.slice _ _ _,.int .i64 _]) rfl rfl rfl (xP rfl) (cs':=[_,_,_,_,_,_]) rfl) ?_;rintro _ w_30⟨rfl,hS⟩;refine⟨_,_,fun _ h=>h,hS.sel [true,true,true,true,false,false,true],sp rfl (Qai rfl) (sn (xN (ub (ret3 Zk (qD 5 hS um uz rfl rfl rfl) (qD 4 hS uS Jw rfl rfl rfl) (qr (v:=.int .i64 _) rfl) ?_))))⟩
       obtain⟨I1,hS1,hI1,hw1⟩:=St.freezeRow qH (xs:=f::P.l.map (lnkT s.g)) (hS.sel [false,false,false,true,false,false,false]) (by simp);rw[show P.l.length+1=(f::P.l.map (lnkT s.g)).length by simp]at hw1 ⊢;rw[hR];exact⟨I1,{ A with a4:=ad,c4:=cd },⟨a,c,a48,m48,c48⟩,rfl,hS1.nil,⟨hs.g.mono hI1,hs.ps.mono hI1,hs.gone.mono hI1,RMades.mono hdr hI1⟩,⟨hw1,h48.mono hI1⟩⟩
      ·
       intro hc78;have hkn:C.known=true:=by simpa using hc78
       have hR:offerP s f t m=⟨s,⟨f::P.l.map (lnkT s.g),C.p,P.c⟩,0⟩:=by rw[hR1,hkn]; rfl
       refine xZ (xN (xL (drawS [true,true,true,false,false,true] (.cons 0 .held (.cons 1 .held (.cons 2 .eff (.cons 3 .eff (.cons 4 .pure .nil))))) mixed (by kernel_rfl) hS ?_)));intro w_31 hS;refine sh rfl (g_ldO 3 (vs:=[.slice _ _ _,.slice _ _ _,.slice _ _ _,.slice _ _ _,.slice _ _ _]) um uz rfl rfl rfl rfl) (sh rfl (g_ldO 1 (vs:=[.slice _ _ _,.bool _,.int .i64 _,.int .i64 _,.slice _ _ _,.int .i64 _]) uS Jw rfl rfl rfl rfl) ?_);have hS0:=hS;refine se rfl (qj 4 hS um rfl rfl rfl (vs:=[.slice _ _ _,.slice _ _ _,.slice _ _ _,.slice _ _ _,.slice _ _ _]) rfl rfl rfl (xP rfl) (cs':=[_,_,_,_,_]) rfl) ?_;rintro _ w_32⟨rfl,hS⟩;refine⟨_,_,fun _ h=>h,hS.sel [true,true,true,false,false,true],?_⟩;have hS0:=hS;refine se rfl (qj 3 hS uS rfl rfl rfl (vs:=[.slice _ _ _,.bool _,.int .i64 _,.int .i64 _,.slice _ _ _,.int .i64 _]) rfl rfl rfl (xP rfl) (cs':=[_,_,_,_,_,_]) rfl) ?_;rintro _ w_33⟨rfl,hS⟩;refine⟨_,_,fun _ h=>h,hS.sel [true,true,true,false,false,true],sp rfl (Qai rfl) (sn (xN (ub (ret3 Zk (qD 4 hS um uz rfl rfl rfl) (qD 3 hS uS Jw rfl rfl rfl) (qr (v:=.int .i64 _) rfl) ?_))))⟩;obtain⟨I1,hS1,hI1,hw1⟩:=St.freezeRow qH (xs:=f::P.l.map (lnkT s.g)) (hS.sel [false,false,true,false,false,false]) (by simp);rw[show P.l.length+1=(f::P.l.map (lnkT s.g)).length by simp]at hw1 ⊢;rw[hR];exact⟨I1,A,⟨a,c,a48,m48,c48⟩,rfl,hS1.nil,hs.mono hI1,⟨hw1,h48.mono hI1⟩⟩
set_option maxHeartbeats 1000000 in
theorem best_c (s : SrvL) (A : SrvA) (f : Int) (m : NeedL) (w0 : World) (I0 : Imm) (hI : Sat I0 w0) (hs : RSrv I0 A s) (hb : SrvB s) :
 Ctr prog 46 [.agg #[.slice A.a0 s.g.vs.length A.c0,.slice A.a1 s.g.ls.length A.c1,.slice A.a2 s.ps.length A.c2,.slice A.a3 s.gone.length A.c3,.slice A.a4 s.cache.length A.c4],.int .i64 f,.agg #[.int .i64 m.s,.int .i64 m.u,.int .i64 m.r,.int .i64 m.e,.int .i64 m.o]] w0 (fun v w'=>∃I' A' B,v = .tuple #[.agg #[.slice A'.a0 (bestP s f m).s.g.vs.length A'.c0,.slice A'.a1 (bestP s f m).s.g.ls.length A'.c1,.slice A'.a2 (bestP s f m).s.ps.length A'.c2,.slice A'.a3 (bestP s f m).s.gone.length A'.c3,.slice A'.a4 (bestP s f m).s.cache.length A'.c4],.agg #[.slice B.a (bestP s f m).o.way.length B.c,.bool (bestP s f m).o.p.lifted,.int .i64 (bestP s f m).o.p.in_,.int .i64 (bestP s f m).o.p.out,.slice B.ap B.m B.cp,.int .i64 (bestP s f m).o.c],.int .i64 (bestP s f m).e]∧Ext w0 I0 w' I'∧RSrv I' A' (bestP s f m).s∧ROff I' B (bestP s f m).o):=by
 refine fn (n:=40) func46 rfl rfl rfl ?_;have hS:=St.start hI;refine QwR (qe (d_box (cs:=[.slice _ _ _,.slice _ _ _,.slice _ _ _,.slice _ _ _,.slice _ _ _]) hS rfl) ?_);clear hS;rintro _ w_1⟨b3,rfl,hS⟩;refine qe (d_box (cs:=[.int .i64 _,.int .i64 _,.int .i64 _,.int .i64 _,.int .i64 _]) hS rfl) ?_;clear hS;rintro _ w_2⟨b5,rfl,hS⟩;refine qe (qw (cs:=[.slice _ _ _,.slice _ _ _,.slice _ _ _,.slice _ _ _,.slice _ _ _]) hS Qd rfl) ?_;clear hS;rintro _ w_3⟨b6,rfl,hS⟩;refine qe (qw (cs:=[.slice _ _ _,.bool _,.int .i64 _,.int .i64 _,.slice _ _ _,.int .i64 _]) hS Jh rfl) ?_;clear hS;rintro _ w_4⟨b7,rfl,hS⟩;refine qq hS (Qai rfl) (QoN (xL (QwR (qq hS (qb (o':=0) un rfl uv rfl rfl rfl) (qq hS (qb (o':=0) ut rfl uo rfl rfl rfl) (qq hS (qi 3 uF rfl rfl rfl) (qq hS (Qmi rfl) (qe (ql call49 rfl (hasI_c A.a0 A.c0 s.g.vs f _ _ hS.imm hs.g.vs)) ?_))))))));rintro _ w_5⟨rfl,hE⟩;replace hS:=hS.callE hE;refine qq hS (g_not rfl) (QoN (qo rfl ?_ ?_))
 ·
  intro hc15
  try simp only[zA,zO,zN,zI,zF,zM,zT,zU]at hc15
  have hR:bestP s f m=⟨s,OffL.none,291⟩:=ud hc15;refine QwR (qq hS (g_ldO 3 (vs:=[.slice _ _ _,.slice _ _ _,.slice _ _ _,.slice _ _ _,.slice _ _ _]) um uz rfl rfl rfl rfl) (qq hS (qv (pl:=[(0,1),(1,4),(5,1)]) (cs:=[.slice _ _ _,.bool _,.int .i64 _,.int .i64 _,.slice _ _ _,.int .i64 _]) Jh Qa (fun w=>by simp[xX,uo,ul]) mp0 rfl) ?_));refine qe (qj 1 hS um rfl rfl rfl (vs:=[.slice _ _ _,.slice _ _ _,.slice _ _ _,.slice _ _ _,.slice _ _ _]) rfl rfl rfl (xP rfl) (cs':=[_,_,_,_,_]) rfl) ?_;clear hS;rintro _ w_6⟨rfl,hS⟩;refine qe (qj 0 hS uS rfl rfl rfl (vs:=[.slice _ _ _,.bool _,.int .i64 _,.int .i64 _,.slice _ _ _,.int .i64 _]) rfl rfl rfl (xP rfl) (cs':=[_,_,_,_,_,_]) rfl) ?_;clear hS;rintro _ w_7⟨rfl,hS⟩;refine qq hS (Qai rfl) (QoN (ub (uw (ret3 results46 (qD 1 hS um uz rfl rfl rfl) (qD 0 hS uS Jw rfl rfl rfl) (qr (v:=.int .i64 _) rfl) ?_))));rw[hR]; exact⟨_,A,⟨none,0,none,0,0⟩,rfl,hS.nil,hs,⟨RFl.nil,RSl.nilR⟩⟩
 ·
  intro hc15
  try simp only[zA,zO,zN,zI,zF,zM,zT,zU]at hc15
  have hR0:bestP s f m=if openP s f m=[] then ⟨s,OffL.none,290⟩ else offerP s f (lastI (openP s f m)) m:=ui hc15
  refine xZ (xN (QwR (qq hS (g_ldO 3 (vs:=[.slice _ _ _,.slice _ _ _,.slice _ _ _,.slice _ _ _,.slice _ _ _]) um uz rfl rfl rfl rfl) (qq hS (Qmi rfl) (qq hS (g_ldO 2 (vs:=[.int .i64 _,.int .i64 _,.int .i64 _,.int .i64 _,.int .i64 _]) Qe QO rfl rfl rfl rfl) (qe (ql call77 rfl (sopen_c s A f m _ _ hS.imm hs hb.g hc15)) ?_))))));rintro _ w_8⟨I_f,a21,c21,rfl,hE,h21⟩;replace hS:=hS.callE hE;replace hs:=hs.mono hE.ext;refine qq hS (qy _) (QoN (xL (QwR (qq hS (qk _) (qq hS (qz rfl ua h21 rfl) (qq hS (g_eql rfl rfl) (QoN (qo rfl ?_ ?_))))))))
  ·
   intro hc24
   try simp only[zA,zO,zN,zI,zF,zM,zT,zU]at hc24
   have hR:bestP s f m=⟨s,OffL.none,290⟩:=by rw[hR0,ui (Ql.1 (by omega))]
   refine QwR (qq hS (g_ldO 3 (vs:=[.slice _ _ _,.slice _ _ _,.slice _ _ _,.slice _ _ _,.slice _ _ _]) um uz rfl rfl rfl rfl) (qq hS (qv (pl:=[(0,1),(1,4),(5,1)]) (cs:=[.slice _ _ _,.bool _,.int .i64 _,.int .i64 _,.slice _ _ _,.int .i64 _]) Jh Qa (fun w=>by simp[xX,uo,ul]) mp0 rfl) ?_));refine qe (qj 1 hS um rfl rfl rfl (vs:=[.slice _ _ _,.slice _ _ _,.slice _ _ _,.slice _ _ _,.slice _ _ _]) rfl rfl rfl (xP rfl) (cs':=[_,_,_,_,_]) rfl) ?_;clear hS;rintro _ w_9⟨rfl,hS⟩;refine qe (qj 0 hS uS rfl rfl rfl (vs:=[.slice _ _ _,.bool _,.int .i64 _,.int .i64 _,.slice _ _ _,.int .i64 _]) rfl rfl rfl (xP rfl) (cs':=[_,_,_,_,_,_]) rfl) ?_;clear hS;rintro _ w_10⟨rfl,hS⟩;refine qq hS (Qai rfl) (QoN (ub (uw (ret3 results46 (qD 1 hS um uz rfl rfl rfl) (qD 0 hS uS Jw rfl rfl rfl) (qr (v:=.int .i64 _) rfl) ?_))));rw[hR]; exact⟨_,A,⟨none,0,none,0,0⟩,rfl,hS.nil,hs,⟨RFl.nil,RSl.nilR⟩⟩
  ·
   intro hc24
   try simp only[zA,zO,zN,zI,zF,zM,zT,zU]at hc24
   have hne:openP s f m≠[]:=fun h=>hc24 (by rw[h]; rfl)
   have hR:bestP s f m=offerP s f (lastI (openP s f m)) m:=by rw[hR0,ud hne]
   have hpos:=List.length_pos_iff.2 hne;have hll:(openP s f m).length≤65536:=Nat.le_trans (keepG_len _ _) (Nat.le_trans (ko _ _ _ _) (by have:=hb.g.nv; omega));have hlA:atI I_f (elA (.slice a21 (openP s f m).length c21) ((openP s f m).length - 1) 1 0) (intC (lastI (openP s f m))):=h21.at (by unfold lastI; rw[uh,xW (by omega)]; rfl);have hix:(((openP s f m).length:Int) - 1).toNat=(openP s f m).length - 1:=by omega
   rw[← hix]at hlA;refine xZ (xN (xL (drawS [false,false,true,true] (.cons 0 .held (.cons 1 .pure (.cons 2 .pure (.cons 3 .pure (.cons 4 .pure (.cons 5 .pure (.cons 6 .pure (.cons 7 .held (.cons 8 .held (.cons 9 .eff (.cons 10 .pure (.cons 11 .pure (.cons 12 .pure (.cons 13 .eff (.cons 14 .eff (.cons 15 .pure .nil)))))))))))))))) mixed (by kernel_rfl) hS ?_)));intro w_11 hS;refine sh rfl (g_ldO 1 (vs:=[.slice _ _ _,.slice _ _ _,.slice _ _ _,.slice _ _ _,.slice _ _ _]) um uz rfl rfl rfl rfl) (sp rfl (Qmi rfl) (sp rfl (qk _) (sp rfl (qk _) (sp rfl (qz rfl ua h21 rfl) (sp rfl (g_sub rfl rfl (by omega) (by omega)) (sp rfl (g_ixI ua xX h21 rfl rfl (by omega) (by omega)) ?_))))));refine sh rfl (qC uj hlA rfl rfl) (sh rfl (g_ldO 0 (vs:=[.int .i64 _,.int .i64 _,.int .i64 _,.int .i64 _,.int .i64 _]) Qe QO rfl rfl rfl rfl) ?_);have hS0:=hS;refine se rfl (ql call78 rfl (offer_c s A f (lastI (openP s f m)) m _ _ hS.imm hs hb)) ?_;rintro _ w_12⟨I_f,A2,B2,rfl,hE,hs2,ho2⟩;replace hS:=hS.call hE;replace hs:=hs.mono hE.ext;replace h21:=h21.mono hE.ext;refine⟨_,_,(hS0.sel [false,false,true,true]).le hE.ext (xY _),hS.sel [false,false,true,true],sp rfl (qt rfl rfl) (sp rfl (qt rfl rfl) (sp rfl (Qxi rfl rfl) ?_))⟩;have hS0:=hS;refine se rfl (qj 1 hS um rfl rfl rfl (vs:=[.slice _ _ _,.slice _ _ _,.slice _ _ _,.slice _ _ _,.slice _ _ _]) rfl rfl rfl (xP rfl) (cs':=[_,_,_,_,_]) rfl) ?_;rintro _ w_13⟨rfl,hS⟩;refine⟨_,_,fun _ h=>h,hS.sel [false,false,true,true],?_⟩;have hS0:=hS;refine se rfl (qj 0 hS uS rfl rfl rfl (vs:=[.slice _ _ _,.bool _,.int .i64 _,.int .i64 _,.slice _ _ _,.int .i64 _]) rfl rfl rfl (xP rfl) (cs':=[_,_,_,_,_,_]) rfl) ?_
   rintro _ w_14⟨rfl,hS⟩;refine⟨_,_,fun _ h=>h,hS.sel [false,false,true,true],sp rfl (Qai rfl) (sn (xN (ub (ret3 results46 (qD 1 hS um uz rfl rfl rfl) (qD 0 hS uS Jw rfl rfl rfl) (qr (v:=.int .i64 _) rfl) ?_))))⟩;rw[hR]; exact⟨_,A2,B2,rfl,hS.nil,hs2,ho2⟩
end Go.Proofs.YtcajgkfgjpfmaaaGreat
namespace Go.Proofs.YtcajgkfgjpfmaaaGreat
open Tryz
open Go Go.RowKit Go.Inl
structure EscA where
 to:Int
 least:Int
def escF (s:SrvL)(f:Int)(m:NeedL)(e:EscA)(v:Int):EscA:=if (pathP s.g f v m).e=0∧(e.to < 0∨(pathP s.g f v m).c≤e.least) then ⟨v,(pathP s.g f v m).c⟩ else e
def escUp (s:SrvL)(f:Int)(m:NeedL)(k:Nat):EscA:=((openP s f m).take k).foldl (escF s f m) ⟨-1,0⟩
theorem escUp_succ {s:SrvL}{f v:Int}{m:NeedL}{k:Nat}(h:(openP s f m)[k]? = some v):escUp s f m (k+1)=escF s f m (escUp s f m k) v:=by
 unfold escUp;rw[qL h,List.foldl_append]; rfl
def escP (s:SrvL)(f:Int)(m:NeedL):OffR :=
 if f ∈ s.g.vs then
  if f ∈ s.gone then
   if (escUp s f m (openP s f m).length).to < 0 then ⟨s,OffL.none,290⟩ else offerP s f (escUp s f m (openP s f m).length).to m
  else ⟨s,OffL.none,1⟩
 else ⟨s,OffL.none,291⟩
structure WdR where
 s:SrvL
 e:Int
def withdrawP (s:SrvL)(v:Int):WdR:=if v∈s.g.vs then ⟨{ s with gone:=insI s.gone v },0⟩ else ⟨s,291⟩
def unlim:NeedL:=⟨1000000,1000000,1000000,1000000,1000000⟩
def insAll (V l:List Int):List Int:=l.foldl insI V
def colV (s:SrvL)(l:List Int):List Int:=l.foldl (fun V v=>insAll V (reachP s.g v unlim)) []
structure LnkP where
 l:LnkL
 p:PatL
def zipLP : List LnkL → List PatL → List LnkP
 | l::a,p::b=>⟨l,p⟩::zipLP a b
 | _,_=>[]
def keepZ (V:List Int)(z:List LnkP):List LnkP:=z.filter fun x=>decide (x.l.f∈V) && decide (x.l.t∈V)
def inG (V l:List Int):List Int:=l.filter fun v=>decide (v∈V)
def collectP (s:SrvL)(l:List Int):SrvL:=⟨⟨colV s l,(keepZ (colV s l) (zipLP s.g.ls s.ps)).map (·.l)⟩,(keepZ (colV s l) (zipLP s.g.ls s.ps)).map (·.p),inG (colV s l) s.gone,[]⟩
theorem zq : ∀ {a : List LnkL} {b : List PatL} {i : Nat} {l : LnkL} {p : PatL}, a[i]? = some l → b[i]? = some p → (zipLP a b)[i]? = some ⟨l, p⟩
 | [],_,i,l,p,h,_=>by simp at h
 | _::_,[],i,l,p,_,h=>by simp at h
 | x::a,y::b,0,l,p,h1,h2=>by simp at h1 h2; subst h1 h2; rfl
 | x::a,y::b,i+1,l,p,h1,h2=>by
   show(zipLP a b)[i]? = _
   exact zq (by simpa using h1) (by simpa using h2)
theorem zb : ∀ {a : List LnkL} {b : List PatL}, b.length = a.length → (zipLP a b).length = a.length
 | [],[],_=>rfl
 | [],_::_,h=>by simp at h
 | _::_,[],h=>by simp at h
 | x::a,y::b,h=>by
   show(zipLP a b).length+1=a.length+1
   rw[zb (by simpa using h)]
theorem keepZ_snoc {V:List Int}{z:List LnkP}{k:Nat}{x:LnkP}(h:z[k]? = some x):keepZ V (z.take (k+1))=if (decide (x.l.f∈V) && decide (x.l.t∈V))=true then keepZ V (z.take k)++[x] else keepZ V (z.take k):=by
 unfold keepZ;rw[qL h,List.filter_append,List.filter_cons];cases h2:(decide (x.l.f∈V) && decide (x.l.t∈V)) <;> simp
theorem keepZ_len (V:List Int)(z:List LnkP):(keepZ V z).length≤z.length:=List.length_filter_le ..
theorem inG_snoc {V l:List Int}{k:Nat}{x:Int}(h:l[k]? = some x):inG V (l.take (k+1))=if x∈V then inG V (l.take k)++[x] else inG V (l.take k):=by
 unfold inG;rw[qL h,List.filter_append,List.filter_cons];by_cases h2:x∈V
 · rw[ui h2,uK h2]; simp
 · rw[ud h2,uY h2]; simp
theorem inG_len (V l:List Int):(inG V l).length≤l.length:=List.length_filter_le ..
theorem insAll_snoc {V l:List Int}{k:Nat}{x:Int}(h:l[k]? = some x):insAll V (l.take (k+1))=insI (insAll V (l.take k)) x:=by
 unfold insAll;rw[qL h,List.foldl_append]; rfl
theorem colV_snoc {s:SrvL}{l:List Int}{k:Nat}{x:Int}(h:l[k]? = some x):colV s (l.take (k+1))=insAll (colV s (l.take k)) (reachP s.g x unlim):=by
 unfold colV;rw[qL h,List.foldl_append]; rfl
theorem St.unX {b:Nat}{w0 w:World}{I0 I:Imm}{T:TypeId}{cs:List Value}(h:St [b] w0 I0 I w [.cel b T cs])(hb:w0.heap[b]? = some (.cells cs.toArray T (0,0))):Ext w0 I0 w I :=
 ⟨h.os,h.tape,h.output,h.size,fun k hk _=>by
   by_cases e:k=b
   · subst e; exact(h.hold (.cel k T cs) (by simp):w.heap[k]? = _).trans hb.symm
   · exact h.block k hk (by simpa using e),h.imm,h.old,h.ext,by simp,by simp,by simp⟩
structure ColW where
 k:Nat
 V:List Int
 a:Option Addr
 c:Nat
structure ClW where
 k:Nat
 al:Option Addr
 cl:Nat
 ap:Option Addr
 cp:Nat
 css:List (List Value)
set_option maxHeartbeats 2000000 in
theorem escape_c (s : SrvL) (A : SrvA) (f : Int) (m : NeedL) (w0 : World) (I0 : Imm) (hI : Sat I0 w0) (hs : RSrv I0 A s) (hb : SrvB s) :
 Ctr prog 53 [.agg #[.slice A.a0 s.g.vs.length A.c0,.slice A.a1 s.g.ls.length A.c1,.slice A.a2 s.ps.length A.c2,.slice A.a3 s.gone.length A.c3,.slice A.a4 s.cache.length A.c4],.int .i64 f,.agg #[.int .i64 m.s,.int .i64 m.u,.int .i64 m.r,.int .i64 m.e,.int .i64 m.o]] w0 (fun v w'=>∃I' B,v = .tuple #[.agg #[.slice B.a (escP s f m).o.way.length B.c,.bool (escP s f m).o.p.lifted,.int .i64 (escP s f m).o.p.in_,.int .i64 (escP s f m).o.p.out,.slice B.ap B.m B.cp,.int .i64 (escP s f m).o.c],.int .i64 (escP s f m).e]∧Ext w0 I0 w' I'∧ROff I' B (escP s f m).o):=by
 have hol:(openP s f m).length≤65536:=Nat.le_trans (keepG_len _ _) (Nat.le_trans (ko _ _ _ _) (by have:=hb.g.nv; omega));refine fn (n:=80) func53 rfl rfl rfl ?_;have hS:=St.start hI;refine QwR (qe (d_box (cs:=[.slice _ _ _,.slice _ _ _,.slice _ _ _,.slice _ _ _,.slice _ _ _]) hS rfl) ?_);clear hS;rintro _ w_1⟨b3,rfl,hS⟩;refine qe (d_box (cs:=[.int .i64 _,.int .i64 _,.int .i64 _,.int .i64 _,.int .i64 _]) hS rfl) ?_;clear hS;rintro _ w_2⟨b5,rfl,hS⟩;refine qe (qw (cs:=[.slice _ _ _,.bool _,.int .i64 _,.int .i64 _,.slice _ _ _,.int .i64 _]) hS Jh rfl) ?_;clear hS;rintro _ w_3⟨b6,rfl,hS⟩;refine qq hS (Qai rfl) (QoN (xL (uk (QwR (qq hS (qb (o':=0) un rfl uv rfl rfl rfl) (qq hS (qb (o':=0) ut rfl uo rfl rfl rfl) (qq hS (qi 2 uF rfl rfl rfl) (qq hS (Qmi rfl) (qe (ql call49 rfl (hasI_c A.a0 A.c0 s.g.vs f _ _ hS.imm hs.g.vs)) ?_)))))))));rintro _ w_4⟨rfl,hE⟩;replace hS:=hS.callE hE;refine qq hS (g_not rfl) (qq hS (Qab rfl) (QoN (qo rfl ?_ ?_)))
 ·
  intro hc18
  try simp only[zA,zO,zN,zI,zF,zM,zT,zU]at hc18
  have hR:escP s f m=⟨s,OffL.none,291⟩:=ud hc18;refine QwR (qq hS (qv (pl:=[(0,1),(1,4),(5,1)]) (cs:=[.slice _ _ _,.bool _,.int .i64 _,.int .i64 _,.slice _ _ _,.int .i64 _]) Jh Qa (fun w=>by simp[xX,uo,ul]) mp0 rfl) (qe (qj 0 hS uS rfl rfl rfl (vs:=[.slice _ _ _,.bool _,.int .i64 _,.int .i64 _,.slice _ _ _,.int .i64 _]) rfl rfl rfl (xP rfl) (cs':=[_,_,_,_,_,_]) rfl) ?_));clear hS;rintro _ w_5⟨rfl,hS⟩;refine qq hS (Qai rfl) (QoN (ub (Qs (uw (ret2 results53 (qD 0 hS uS Jw rfl rfl rfl) (qr (v:=.int .i64 _) rfl) ?_)))));rw[hR]; exact⟨_,⟨none,0,none,0,0⟩,rfl,hS.nil,⟨RFl.nil,RSl.nilR⟩⟩
 ·
  intro hc18
  try simp only[zA,zO,zN,zI,zF,zM,zT,zU]at hc18
  refine QwR (qq hS (qb (o':=3) un rfl uo rfl rfl rfl) (qq hS (qi 2 uF rfl rfl rfl) (qq hS (Qmi rfl) (qe (ql call49 rfl (hasI_c A.a3 A.c3 s.gone f _ _ hS.imm hs.gone)) ?_))));rintro _ w_6⟨rfl,hE⟩;replace hS:=hS.callE hE;refine qq hS (g_not rfl) (qq hS (Qab rfl) (QoN (qo rfl ?_ ?_)))
  ·
   intro hc26
   try simp only[zA,zO,zN,zI,zF,zM,zT,zU]at hc26
   have hR:escP s f m=⟨s,OffL.none,1⟩:=by unfold escP; rw[ui hc18,ud hc26]
   refine QwR (qq hS (qv (pl:=[(0,1),(1,4),(5,1)]) (cs:=[.slice _ _ _,.bool _,.int .i64 _,.int .i64 _,.slice _ _ _,.int .i64 _]) Jh Qa (fun w=>by simp[xX,uo,ul]) mp0 rfl) (qe (qj 0 hS uS rfl rfl rfl (vs:=[.slice _ _ _,.bool _,.int .i64 _,.int .i64 _,.slice _ _ _,.int .i64 _]) rfl rfl rfl (xP rfl) (cs':=[_,_,_,_,_,_]) rfl) ?_));clear hS;rintro _ w_7⟨rfl,hS⟩;refine qq hS (Qai rfl) (QoN (ub (Qs (uw (ret2 results53 (qD 0 hS uS Jw rfl rfl rfl) (qr (v:=.int .i64 _) rfl) ?_)))));rw[hR]; exact⟨_,⟨none,0,none,0,0⟩,rfl,hS.nil,⟨RFl.nil,RSl.nilR⟩⟩
  ·
   intro hc26
   try simp only[zA,zO,zN,zI,zF,zM,zT,zU]at hc26
   have hR0:escP s f m=if (escUp s f m (openP s f m).length).to < 0 then ⟨s,OffL.none,290⟩ else offerP s f (escUp s f m (openP s f m).length).to m:=by unfold escP; rw[ui hc18,ui hc26]
   refine xZ (Qh (xN (QwR (qq hS (Qai rfl) (qq hS (Qai rfl) (QoN (xL (QwR (qq hS (g_ldO 2 (vs:=[.slice _ _ _,.slice _ _ _,.slice _ _ _,.slice _ _ _,.slice _ _ _]) um uz rfl rfl rfl rfl) (qq hS (Qmi rfl) (qq hS (g_ldO 1 (vs:=[.int .i64 _,.int .i64 _,.int .i64 _,.int .i64 _,.int .i64 _]) Qe QO rfl rfl rfl rfl) ?_)))))))))));refine qe (ql call77 rfl (sopen_c s A f m _ _ hS.imm hs hb.g hc18)) ?_;rintro _ w_8⟨I_f,a36,c36,rfl,hE,h36⟩;replace hS:=hS.callE hE;replace hs:=hs.mono hE.ext;refine qq hS (qz rfl ua h36 rfl) (qq hS (Qmi rfl) (QoN (uk (loop (fun(k:Nat) σ w=>okS σ [(1,.int .i64 f),(3,.pointer (some ⟨b3,0,none⟩)),(5,.pointer (some ⟨b5,0,none⟩)),(6,.pointer (some ⟨b6,0,none⟩)),(8,.int .i64 (escUp s f m k).to),(9,.int .i64 (escUp s f m k).least),(36,.slice a36 (openP s f m).length c36),(37,.int .i64 (openP s f m).length),(38,.int .i64 k)]∧∃I,St [] w0 I0 I w [.cel b6 48 [.slice none 0 0,.bool false,.int .i64 0,.int .i64 0,.slice none 0 0,.int .i64 0],.cel b5 41 [.int .i64 m.s,.int .i64 m.u,.int .i64 m.r,.int .i64 m.e,.int .i64 m.o],.cel b3 38 [.slice A.a0 s.g.vs.length A.c0,.slice A.a1 s.g.ls.length A.c1,.slice A.a2 s.ps.length A.c2,.slice A.a3 s.gone.length A.c3,.slice A.a4 s.cache.length A.c4]]∧k≤(openP s f m).length∧RSrv I A s∧RFl I 1 intC (.slice a36 (openP s f m).length c36) (openP s f m)) (fun k=>(openP s f m).length - k) (0) ?_ ?_))))
   ·
    exact⟨⟨rfl,rfl,rfl,rfl,rfl,rfl,rfl,rfl,rfl,trivial⟩,_,hS.sel [true,true,true],by omega,hs,h36⟩
   ·
    rintro k σ w_l⟨hs,I,hS,hk0,hsv,h36⟩;rw[← qx hs]; clear hs
    have hs:=hsv;clear hsv;refine QwR (qq hS (g_lss rfl rfl) (QoN (xL (qo rfl ?_ ?_))))
    ·
     intro hc39
     try simp only[zA,zO,zN,zI,zF,zM,zT,zU]at hc39
     obtain⟨v,hvi⟩:∃v,(openP s f m)[k]? = some v:=⟨_,xW (by omega)⟩
     have hes:=escUp_succ hvi;unfold escF at hes;refine xZ (xN (xL (uk (QwR (qq hS (g_ixI ua xX h36 rfl rfl (by omega) (by omega)) (qq hS (qC uj (h36.at hvi) rfl rfl) (qq hS (Qai rfl) (QoR (qq hS (qb (o':=0) un rfl uv rfl rfl rfl) (qq hS (g_ldO 2 (vs:=[.slice _ _ _,.slice _ _ _]) uv Je rfl rfl rfl rfl) (qq hS (Qmi rfl) (qq hS (Qmi rfl) ?_))))))))))));refine qq hS (g_ldO 1 (vs:=[.int .i64 _,.int .i64 _,.int .i64 _,.int .i64 _,.int .i64 _]) Qe QO rfl rfl rfl rfl) (qe (ql call84 rfl (path_c s.g A.a0 A.a1 A.c0 A.c1 f v m _ _ hS.imm hs.g hb.g)) ?_);rintro _ w_9⟨I_f,a48,c48,rfl,hE,h48⟩;replace hS:=hS.callE hE;replace hs:=hs.mono hE.ext;replace h36:=h36.mono hE.ext;refine qq hS (qk _) (qq hS (qt rfl rfl) (qq hS (Qxi rfl rfl) (qq hS (Qxi rfl rfl) (qq hS (qy _) (qq hS (Qai rfl) (qq hS (Qai rfl) (QoR (qq hS (Qmi rfl) (qq hS (g_eql rfl rfl) (qq hS (Qmb rfl) (qu rfl rfl hS (fun hg=>(Qmi rfl)) ?_)))))))))));intro u55 hu55 hn55;refine qu rfl rfl hS (fun hg=>(g_lss (hu55 hg) rfl)) ?_;intro u56 hu56 hn56;refine qu rfl rfl hS (fun hg=>(qf (hu56 hg))) ?_;intro u57 hu57 hn57;refine qn rfl hu57 hn57 hS (fun hg=>(Qmi rfl)) ?_;intro u58 hu58 hn58;refine qn rfl hu57 hn57 hS (fun hg=>(Qmi rfl)) ?_;intro u59 hu59 hn59;refine qn rfl hu57 hn57 hS (fun hg=>(g_leq (hu58 hg) (hu59 hg))) ?_;intro u60 hu60 hn60;refine qu rfl rfl hS (fun hg=>(g_or (hu57 hg) rfl (fun hq=>hu60 ⟨hg,hq⟩))) ?_;intro u61 hu61 hn61;refine qq hS (g_and rfl rfl (fun hq=>hu61 hq)) (QoN (qo rfl ?_ ?_))
     ·
      intro hc62;clear hu55 hn55 hu56 hn56 hu57 hn57 hu58 hn58 hu59 hn59 hu60 hn60 hu61 hn61;rw[ui (by simpa using hc62)]at hes;refine reg (qq hS (Qmi rfl) (qq hS (Qmi rfl) (qq hS (Qai rfl) (qq hS (Qai rfl) (qh (Qh (xN (reg (qq hS (g_add rfl rfl (by omega) (by omega)) (qq hS (Qmi rfl) ?_))))))))));exact⟨k+1,_,rfl,⟨by rw[hes]; exact⟨rfl,rfl,rfl,rfl,rfl,rfl,rfl,rfl,rfl,trivial⟩,_,hS.sel [true,true,true],by omega,hs,h36⟩,by omega⟩
     ·
      intro hc62;clear hu55 hn55 hu56 hn56 hu57 hn57 hu58 hn58 hu59 hn59 hu60 hn60 hu61 hn61;rw[ud (by simpa using hc62)]at hes;refine xZ (Qh (xN (reg (qq hS (g_add rfl rfl (by omega) (by omega)) (qq hS (Qmi rfl) ?_)))));exact⟨k+1,_,rfl,⟨by rw[hes]; exact⟨rfl,rfl,rfl,rfl,rfl,rfl,rfl,rfl,rfl,trivial⟩,_,hS.sel [true,true,true],by omega,hs,h36⟩,by omega⟩
    ·
     intro hc39
     try simp only[zA,zO,zN,zI,zF,zM,zT,zU]at hc39
     obtain rfl:k=(openP s f m).length:=by omega
     refine uD (uA (uA (Qw (xN (xL (QwR (qq hS (Qmi rfl) (qq hS (g_lss rfl rfl) (QoN (qo rfl ?_ ?_))))))))))
     ·
      intro hc67
      try simp only[zA,zO,zN,zI,zF,zM,zT,zU]at hc67
      have hR:escP s f m=⟨s,OffL.none,290⟩:=by rw[hR0,ui hc67]
      refine QwR (qq hS (qv (pl:=[(0,1),(1,4),(5,1)]) (cs:=[.slice _ _ _,.bool _,.int .i64 _,.int .i64 _,.slice _ _ _,.int .i64 _]) Jh Qa (fun w=>by simp[xX,uo,ul]) mp0 rfl) (qe (qj 0 hS uS rfl rfl rfl (vs:=[.slice _ _ _,.bool _,.int .i64 _,.int .i64 _,.slice _ _ _,.int .i64 _]) rfl rfl rfl (xP rfl) (cs':=[_,_,_,_,_,_]) rfl) ?_));clear hS;rintro _ w_10⟨rfl,hS⟩;refine qq hS (Qai rfl) (QoN (ub (uw (ret2 results53 (qD 0 hS uS Jw rfl rfl rfl) (qr (v:=.int .i64 _) rfl) ?_))));rw[hR]; exact⟨_,⟨none,0,none,0,0⟩,rfl,hS.nil,⟨RFl.nil,RSl.nilR⟩⟩
     ·
      intro hc67
      try simp only[zA,zO,zN,zI,zF,zM,zT,zU]at hc67
      have hR:escP s f m=offerP s f (escUp s f m (openP s f m).length).to m:=by rw[hR0,ud (by omega)]
      refine xZ (xN (QwR (qq hS (g_ldO 2 (vs:=[.slice _ _ _,.slice _ _ _,.slice _ _ _,.slice _ _ _,.slice _ _ _]) um uz rfl rfl rfl rfl) (qq hS (Qmi rfl) (qq hS (Qmi rfl) (qq hS (g_ldO 1 (vs:=[.int .i64 _,.int .i64 _,.int .i64 _,.int .i64 _,.int .i64 _]) Qe QO rfl rfl rfl rfl) (qe (ql call78 rfl (offer_c s A f (escUp s f m (openP s f m).length).to m _ _ hS.imm hs hb)) ?_)))))));rintro _ w_11⟨I_f,A2,B2,rfl,hE,hs2,ho2⟩;replace hS:=hS.callE hE;replace hs:=hs.mono hE.ext;replace h36:=h36.mono hE.ext;refine qq hS (qk _) (qq hS (qt rfl rfl) (qq hS (qt rfl rfl) (qq hS (Qxi rfl rfl) (qe (qw (cs:=[.slice _ _ _,.slice _ _ _,.slice _ _ _,.slice _ _ _,.slice _ _ _]) hS Qd rfl) ?_))));clear hS;rintro _ w_12⟨b15,rfl,hS⟩;refine qe (qw (cs:=[.slice _ _ _,.bool _,.int .i64 _,.int .i64 _,.slice _ _ _,.int .i64 _]) hS Jh rfl) ?_;clear hS;rintro _ w_13⟨b16,rfl,hS⟩;refine qe (qj 1 hS um rfl rfl rfl (vs:=[.slice _ _ _,.slice _ _ _,.slice _ _ _,.slice _ _ _,.slice _ _ _]) rfl rfl rfl (xP rfl) (cs':=[_,_,_,_,_]) rfl) ?_;clear hS;rintro _ w_14⟨rfl,hS⟩;refine qe (qj 0 hS uS rfl rfl rfl (vs:=[.slice _ _ _,.bool _,.int .i64 _,.int .i64 _,.slice _ _ _,.int .i64 _]) rfl rfl rfl (xP rfl) (cs':=[_,_,_,_,_,_]) rfl) ?_;clear hS;rintro _ w_15⟨rfl,hS⟩;refine qq hS (Qai rfl) (QoR (qq hS (g_ldO 0 (vs:=[.slice _ _ _,.bool _,.int .i64 _,.int .i64 _,.slice _ _ _,.int .i64 _]) uS Jw rfl rfl rfl rfl) (qq hS (Qmi rfl) (qe (qj 2 hS uS rfl rfl rfl (vs:=[.slice _ _ _,.bool _,.int .i64 _,.int .i64 _,.slice _ _ _,.int .i64 _]) rfl rfl rfl (xP rfl) (cs':=[_,_,_,_,_,_]) rfl) ?_))))
      clear hS;rintro _ w_16⟨rfl,hS⟩;refine qq hS (Qai rfl) (QoN (ub (ret2 results53 (qD 2 hS uS Jw rfl rfl rfl) (qr (v:=.int .i64 _) rfl) ?_)));rw[hR]; exact⟨_,B2,rfl,hS.nil,ho2⟩
theorem withdraw_c (s : SrvL) (A : SrvA) (n : Int) (w0 : World) (I0 : Imm) (hI : Sat I0 w0) (hs : RSrv I0 A s) (hgs : s.gone.Pairwise (· < ·)) (hgl : s.gone.length ≤ 65535) :
 Ctr prog 17 [.agg #[.slice A.a0 s.g.vs.length A.c0,.slice A.a1 s.g.ls.length A.c1,.slice A.a2 s.ps.length A.c2,.slice A.a3 s.gone.length A.c3,.slice A.a4 s.cache.length A.c4],.int .i64 n] w0 (fun v w'=>∃I' A',v = .tuple #[.agg #[.slice A'.a0 (withdrawP s n).s.g.vs.length A'.c0,.slice A'.a1 (withdrawP s n).s.g.ls.length A'.c1,.slice A'.a2 (withdrawP s n).s.ps.length A'.c2,.slice A'.a3 (withdrawP s n).s.gone.length A'.c3,.slice A'.a4 (withdrawP s n).s.cache.length A'.c4],.int .i64 (withdrawP s n).e]∧Ext w0 I0 w' I'∧RSrv I' A' (withdrawP s n).s):=by
 refine fn (n:=19) func17 rfl rfl rfl ?_;have hS:=St.start hI;refine QwR (qe (d_box (cs:=[.slice _ _ _,.slice _ _ _,.slice _ _ _,.slice _ _ _,.slice _ _ _]) hS rfl) ?_);clear hS;rintro _ w_1⟨b2,rfl,hS⟩;refine qe (qw (cs:=[.slice _ _ _,.slice _ _ _,.slice _ _ _,.slice _ _ _,.slice _ _ _]) hS Qd rfl) ?_;clear hS;rintro _ w_2⟨b4,rfl,hS⟩;refine qq hS (Qai rfl) (QoN (xL (QwR (qq hS (qb (o':=0) un rfl uv rfl rfl rfl) (qq hS (qb (o':=0) ut rfl uo rfl rfl rfl) (qq hS (qi 1 uF rfl rfl rfl) (qq hS (Qmi rfl) (qe (ql call49 rfl (hasI_c A.a0 A.c0 s.g.vs n _ _ hS.imm hs.g.vs)) ?_))))))));rintro _ w_3⟨rfl,hE⟩;replace hS:=hS.callE hE;refine qq hS (g_not rfl) (QoN (qo rfl ?_ ?_))
 ·
  intro hc11
  try simp only[zA,zO,zN,zI,zF,zM,zT,zU]at hc11
  have hR:withdrawP s n=⟨s,291⟩:=ud hc11;refine QwR (qq hS (g_ldO 1 (vs:=[.slice _ _ _,.slice _ _ _,.slice _ _ _,.slice _ _ _,.slice _ _ _]) um uz rfl rfl rfl rfl) (qe (qj 0 hS um rfl rfl rfl (vs:=[.slice _ _ _,.slice _ _ _,.slice _ _ _,.slice _ _ _,.slice _ _ _]) rfl rfl rfl (xP rfl) (cs':=[_,_,_,_,_]) rfl) ?_));clear hS;rintro _ w_4⟨rfl,hS⟩;refine qq hS (Qai rfl) (QoN (ub (uw (ret2 results17 (qD 0 hS um uz rfl rfl rfl) (qr (v:=.int .i64 _) rfl) ?_))));rw[hR]; exact⟨_,A,rfl,hS.nil,hs⟩
 ·
  intro hc11
  try simp only[zA,zO,zN,zI,zF,zM,zT,zU]at hc11
  have hR:withdrawP s n=⟨{ s with gone:=insI s.gone n },0⟩:=ui hc11;refine xZ (xN (QwR (qq hS (qb (o':=3) un rfl uo rfl rfl rfl) (qq hS (qi 1 uF rfl rfl rfl) (qq hS (Qmi rfl) (qe (ql Ka rfl (ke A.a3 A.c3 s.gone n _ _ hS.imm hs.gone hgs hgl)) ?_))))));rintro _ w_5⟨I_f,a16,c16,rfl,hE,h16⟩;replace hS:=hS.callE hE;replace hs:=hs.mono hE.ext;refine qq hS (qb (o':=3) un rfl uo rfl rfl rfl) (qe (qj 1 hS uo rfl rfl rfl (vs:=[.slice _ _ _]) rfl rfl rfl (xP rfl) (cs':=[_,_,_,_,_]) rfl) ?_);clear hS;rintro _ w_6⟨rfl,hS⟩;refine QoR (qq hS (g_ldO 1 (vs:=[.slice _ _ _,.slice _ _ _,.slice _ _ _,.slice _ _ _,.slice _ _ _]) um uz rfl rfl rfl rfl) (qe (qj 0 hS um rfl rfl rfl (vs:=[.slice _ _ _,.slice _ _ _,.slice _ _ _,.slice _ _ _,.slice _ _ _]) rfl rfl rfl (xP rfl) (cs':=[_,_,_,_,_]) rfl) ?_));clear hS;rintro _ w_7⟨rfl,hS⟩;refine qq hS (Qai rfl) (QoN (ub (ret2 results17 (qD 0 hS um uz rfl rfl rfl) (qr (v:=.int .i64 _) rfl) ?_)));rw[hR]; exact⟨_,{ A with a3:=a16,c3:=c16 },rfl,hS.nil,⟨hs.g,hs.ps,h16,hs.cache⟩⟩
theorem kept_c (V : List Int) (av : Option Addr) (cv b : Nat) (v : Int) (v1 v2 v3 v4 : Value) (w0 : World) (I0 : Imm) (hI : Sat I0 w0) (hb : w0.heap[b]? = some (.cells [.slice av V.length cv, v1, v2, v3, v4].toArray 38 (0, 0))) (hn : I0 b = none) (hV : RFl I0 1 intC (.slice av V.length cv) V) :
 Ctr prog 55 [.int .i64 v,.pointer (some ⟨b,0,none⟩)] w0 (fun u w'=>u = .bool (decide (v∈V))∧Ext w0 I0 w' I0):=by
 refine fn (n:=9) func55 rfl rfl rfl ?_;have hS:=St.startX hI hb hn;refine QwR (qq hS (Qab rfl) (QoR (qq hS (qb (o':=0) un rfl uv rfl rfl rfl) (qq hS (qb (o':=0) ut rfl uo rfl rfl rfl) (qq hS (qi 0 uF rfl rfl rfl) (qq hS (Qmi rfl) (qe (ql call49 rfl (hasI_c av cv V v _ _ hS.imm hV)) ?_)))))));rintro _ w_1⟨rfl,hE⟩;replace hS:=hS.callE hE;refine qq hS (Qab rfl) (QoN (ub (ret1 results55 (qr (v:=.bool _) rfl) ?_)));exact⟨rfl,St.unX (hS.sel [true]) hb⟩
set_option maxHeartbeats 4000000 in
theorem collect_c (s : SrvL) (A : SrvA) (ai : Option Addr) (ci : Nat) (l : List Int) (w0 : World) (I0 : Imm) (hI : Sat I0 w0) (hs : RSrv I0 A s) (hb : SrvB s) (hl : RFl I0 1 intC (.slice ai l.length ci) l) (hln : l.length ≤ 1000) (hgn : s.gone.length ≤ 65535) :
 Ctr prog 23 [.agg #[.slice A.a0 s.g.vs.length A.c0,.slice A.a1 s.g.ls.length A.c1,.slice A.a2 s.ps.length A.c2,.slice A.a3 s.gone.length A.c3,.slice A.a4 s.cache.length A.c4],.slice ai l.length ci] w0 (fun v w'=>∃I' A',v = .agg #[.slice A'.a0 (collectP s l).g.vs.length A'.c0,.slice A'.a1 (collectP s l).g.ls.length A'.c1,.slice A'.a2 (collectP s l).ps.length A'.c2,.slice A'.a3 (collectP s l).gone.length A'.c3,.slice A'.a4 (collectP s l).cache.length A'.c4]∧Ext w0 I0 w' I'∧RSrv I' A' (collectP s l)):=by
 have hnl:=hb.g.nl;have hpl:=hb.pl;have hnv:=hb.g.nv;have hzl:=zb hpl;refine fn (n:=99) func23 rfl rfl rfl ?_;have hS:=St.start hI;refine QwR (qe (d_box (cs:=[.slice _ _ _,.slice _ _ _,.slice _ _ _,.slice _ _ _,.slice _ _ _]) hS rfl) ?_);clear hS;rintro _ w_1⟨b2,rfl,hS⟩;refine qe (qw (cs:=[.slice _ _ _,.slice _ _ _,.slice _ _ _,.slice _ _ _,.slice _ _ _]) hS Qd rfl) ?_;clear hS;rintro _ w_2⟨b4,rfl,hS⟩;refine QoR (qq hS (qv (pl:=[(0,1),(1,1),(2,1),(3,1),(4,1)]) (cs:=[.int .i64 _,.int .i64 _,.int .i64 _,.int .i64 _,.int .i64 _]) Jt QL (fun w=>by simp[xX]) (mp (v:=.int .i64 _) rfl (mp (v:=.int .i64 _) rfl (mp (v:=.int .i64 _) rfl (mp (v:=.int .i64 _) rfl (mp (v:=.int .i64 _) rfl mp0))))) rfl) ?_);refine qe (qw (cs:=[.int .i64 _,.int .i64 _,.int .i64 _,.int .i64 _,.int .i64 _]) hS Jt rfl) ?_;clear hS;rintro _ w_3⟨b5,rfl,hS⟩;refine qe (qj 0 hS Qe rfl rfl rfl (vs:=[.int .i64 _,.int .i64 _,.int .i64 _,.int .i64 _,.int .i64 _]) rfl rfl rfl (xP rfl) (cs':=[_,_,_,_,_]) rfl) ?_;clear hS;rintro _ w_4⟨rfl,hS⟩;refine QoR (qe (qw (cs:=[.slice _ _ _,.slice _ _ _,.slice _ _ _,.slice _ _ _,.slice _ _ _]) hS Qd rfl) ?_);clear hS;rintro _ w_5⟨b6,rfl,hS⟩;refine QoN (xL (QwR (qq hS (qk _) (qq hS (qz rfl ua hl rfl) (qq hS (Qmi rfl) (QoN (uk (loop (fun(x:ColW) σ w=>okS σ [(2,.pointer (some ⟨b2,0,none⟩)),(4,.pointer (some ⟨b4,0,none⟩)),(5,.pointer (some ⟨b5,0,none⟩)),(6,.pointer (some ⟨b6,0,none⟩)),(17,.slice ai l.length ci),(18,.int .i64 l.length),(19,.int .i64 x.k)]∧∃I,St [] w0 I0 I w [.cel b6 38 [.slice x.a x.V.length x.c,.slice none 0 0,.slice none 0 0,.slice none 0 0,.slice none 0 0],.cel b5 41 [.int .i64 1000000,.int .i64 1000000,.int .i64 1000000,.int .i64 1000000,.int .i64 1000000],.cel b4 38 [.slice none 0 0,.slice none 0 0,.slice none 0 0,.slice none 0 0,.slice none 0 0],.cel b2 38 [.slice A.a0 s.g.vs.length A.c0,.slice A.a1 s.g.ls.length A.c1,.slice A.a2 s.ps.length A.c2,.slice A.a3 s.gone.length A.c3,.slice A.a4 s.cache.length A.c4]]∧(x.k≤l.length∧x.V=colV s (l.take x.k)∧x.V.Pairwise (· < ·)∧x.V.length≤16*x.k)∧RSrv I A s∧RFl I 1 intC (.slice ai l.length ci) l∧RFl I 1 intC (.slice x.a x.V.length x.c) x.V) (fun x=>l.length - x.k) (⟨0,[],none,0⟩) ?_ ?_))))))))
 ·
  exact⟨⟨rfl,rfl,rfl,rfl,rfl,rfl,rfl,trivial⟩,_,hS.sel [true,true,true,true],⟨by dsimp only; omega,rfl,List.Pairwise.nil,uV _⟩,hs,hl,RFl.nil⟩
 ·
  rintro⟨k,V,a,c⟩σ w_l⟨hs,I,hS,⟨hk0,hVe,hVi,hVl⟩,hsv,hl,hV⟩;dsimp only at hs hS hk0 hVe hVi hVl hV ⊢;rw[← qx hs]; clear hs
  have hs:=hsv;clear hsv;refine QwR (qq hS (g_lss rfl rfl) (QoN (xL (qo rfl ?_ ?_))))
  ·
   intro hc20
   try simp only[zA,zO,zN,zI,zF,zM,zT,zU]at hc20
   obtain⟨v,hvi⟩:∃v,l[k]? = some v:=⟨_,xW (by omega)⟩
   have hrl:=ko s.g v unlim s.g.vs.length;have hcs:=colV_snoc (s:=s) hvi;refine xZ (xN (xL (uk (QwR (qq hS (g_ixI ua xX hl rfl rfl (by omega) (by omega)) (qq hS (qC uj (hl.at hvi) rfl rfl) (qq hS (Qai rfl) (QoR (qq hS (qb (o':=0) un rfl uv rfl rfl rfl) (qq hS (g_ldO 3 (vs:=[.slice _ _ _,.slice _ _ _]) uv Je rfl rfl rfl rfl) (qq hS (Qmi rfl) (qq hS (g_ldO 1 (vs:=[.int .i64 _,.int .i64 _,.int .i64 _,.int .i64 _,.int .i64 _]) Qe QO rfl rfl rfl rfl) ?_))))))))))));refine qe (ql call54 rfl (reach_c s.g A.a0 A.a1 A.c0 A.c1 v unlim _ _ hS.imm hs.g hb.g)) ?_;rintro _ w_6⟨a27,c27,rfl,I_f,hE⟩;replace hS:=hS.call hE;replace hs:=hs.mono hE.ext;replace hl:=hl.mono hE.ext;replace hV:=hV.mono hE.ext;have hF:=St.freezeRow (u:=.slice a27 (reachP s.g v unlim).length c27) (m:=(reachP s.g v unlim).length) (xs:=reachP s.g v unlim) qH (by exact hS.ord [0,1,2,3,4]) (rfl);clear hS;obtain⟨I_hrv,hS,hI_hrv,hrv⟩:=hF;replace hs:=hs.mono hI_hrv;replace hl:=hl.mono hI_hrv;replace hV:=hV.mono hI_hrv;refine qq hS (qz rfl ua hrv rfl) (qq hS (Qmi rfl) (QoN (uk ?_)));have hrl2:(reachP s.g v unlim).length≤16:=Nat.le_trans hrl hnv;refine loop (fun(x:ColW) σ w=>okS σ [(2,.pointer (some ⟨b2,0,none⟩)),(4,.pointer (some ⟨b4,0,none⟩)),(5,.pointer (some ⟨b5,0,none⟩)),(6,.pointer (some ⟨b6,0,none⟩)),(17,.slice ai l.length ci),(18,.int .i64 l.length),(19,.int .i64 k),(27,.slice a27 (reachP s.g v unlim).length c27),(28,.int .i64 (reachP s.g v unlim).length),(29,.int .i64 x.k)]∧∃I,St [] w0 I0 I w [.cel b6 38 [.slice x.a x.V.length x.c,.slice none 0 0,.slice none 0 0,.slice none 0 0,.slice none 0 0],.cel b5 41 [.int .i64 1000000,.int .i64 1000000,.int .i64 1000000,.int .i64 1000000,.int .i64 1000000],.cel b4 38 [.slice none 0 0,.slice none 0 0,.slice none 0 0,.slice none 0 0,.slice none 0 0],.cel b2 38 [.slice A.a0 s.g.vs.length A.c0,.slice A.a1 s.g.ls.length A.c1,.slice A.a2 s.ps.length A.c2,.slice A.a3 s.gone.length A.c3,.slice A.a4 s.cache.length A.c4]]∧(x.k≤(reachP s.g v unlim).length∧x.V=insAll V ((reachP s.g v unlim).take x.k)∧x.V.Pairwise (· < ·)∧x.V.length≤16*k+x.k)∧RSrv I A s∧RFl I 1 intC (.slice ai l.length ci) l∧RFl I 1 intC (.slice x.a x.V.length x.c) x.V∧RFl I 1 intC (.slice a27 (reachP s.g v unlim).length c27) (reachP s.g v unlim)) (fun x=>(reachP s.g v unlim).length - x.k) (⟨0,V,a,c⟩) ?_ ?_
   ·
    exact⟨⟨rfl,rfl,rfl,rfl,rfl,rfl,rfl,rfl,rfl,rfl,trivial⟩,_,hS.sel [true,true,true,true],⟨by dsimp only; omega,rfl,hVi,by dsimp only; omega⟩,hs,hl,hV,hrv⟩
   ·
    rintro⟨j,W,a,c⟩σ w_l⟨hs,I,hS,⟨hj0,hWe,hW,hWl⟩,hsv,hl,hV,hrv⟩;dsimp only at hs hS hj0 hWe hW hWl hV ⊢;rw[← qx hs]; clear hs
    have hs:=hsv;clear hsv;refine QwR (qq hS (g_lss rfl rfl) (QoN (xL (qo rfl ?_ ?_))))
    ·
     intro hc30
     try simp only[zA,zO,zN,zI,zF,zM,zT,zU]at hc30
     obtain⟨u,hui⟩:∃u,(reachP s.g v unlim)[j]? = some u:=⟨_,xW (by omega)⟩
     have his:=insAll_snoc (V:=V) hui;rw[← hWe]at his;have hwn:=kv u W;refine xZ (xN (xL (uk (QwR (qq hS (g_ixI ua xX hrv rfl rfl (by omega) (by omega)) (qq hS (qC uj (hrv.at hui) rfl rfl) (qq hS (Qai rfl) (QoN (reg (qq hS (qb (o':=0) un rfl uv rfl rfl rfl) (qq hS (qb (o':=0) ut rfl uo rfl rfl rfl) (qq hS (qi 0 uF rfl rfl rfl) (qq hS (Qmi rfl) (qe (ql Ka rfl (ke a c W u _ _ hS.imm hV hW (by omega))) ?_))))))))))))));rintro _ w_7⟨I_f,a37,c37,rfl,hE,h37⟩;replace hS:=hS.callE hE;replace hs:=hs.mono hE.ext;replace hl:=hl.mono hE.ext;replace hV:=hV.mono hE.ext;replace hrv:=hrv.mono hE.ext;refine qq hS (qb (o':=0) un rfl uv rfl rfl rfl) (qq hS (qb (o':=0) ut rfl uo rfl rfl rfl) (qe (qj 0 hS uo rfl rfl rfl (vs:=[.slice _ _ _]) rfl rfl rfl (xP rfl) (cs':=[_,_,_,_,_]) rfl) ?_));clear hS;rintro _ w_8⟨rfl,hS⟩;refine qh (Qh (xN (reg (qq hS (g_add rfl rfl (by omega) (by omega)) (qq hS (Qmi rfl) ?_)))));exact⟨⟨j+1,insI W u,a37,c37⟩,_,rfl,⟨⟨rfl,rfl,rfl,rfl,rfl,rfl,rfl,rfl,rfl,rfl,trivial⟩,_,hS.sel [true,true,true,true],⟨by dsimp only; omega,his.symm,jb hW,by dsimp only; omega⟩,hs,hl,h37,hrv⟩,by dsimp only; omega⟩
    ·
     intro hc30
     try simp only[zA,zO,zN,zI,zF,zM,zT,zU]at hc30
     obtain rfl:j=(reachP s.g v unlim).length:=by omega
     rw[Qq]at hWe;refine uD (uA (uA (Qw (Qh (xN (reg (qq hS (g_add rfl rfl (by omega) (by omega)) (qq hS (Qmi rfl) ?_))))))));exact⟨⟨k+1,W,a,c⟩,_,rfl,⟨⟨rfl,rfl,rfl,rfl,rfl,rfl,rfl,trivial⟩,_,hS.sel [true,true,true,true],⟨by dsimp only; omega,by dsimp only; rw[hWe,hVe,hcs],hW,by dsimp only; omega⟩,hs,hl,hV⟩,by dsimp only; omega⟩
  ·
   intro hc20
   try simp only[zA,zO,zN,zI,zF,zM,zT,zU]at hc20
   obtain rfl:k=l.length:=by omega
   rw[Qq]at hVe;refine uD (uA (uA (Qw (xN (QwR (qq hS (jR ml0 (ml rfl ml0)) (qq hS (qy _) (QoN (xL (QwR (qq hS (qb (o':=0) un rfl uv rfl rfl rfl) (qq hS (qb (o':=1) ut rfl uZ rfl rfl rfl) (qq hS (qi 3 Jm rfl rfl rfl) (qq hS (qz rfl uy hs.g.ls rfl) (qq hS (Qmi rfl) (QoN (uk ?_)))))))))))))))));replace hS:=(hS.nilRow 60 8).nilRow 46 4;refine loop (fun(x:ClW) σ w=>okS σ [(2,.pointer (some ⟨b2,0,none⟩)),(4,.pointer (some ⟨b4,0,none⟩)),(5,.pointer (some ⟨b5,0,none⟩)),(6,.pointer (some ⟨b6,0,none⟩)),(11,.func (.func 55) #[] #[.pointer (some ⟨b6,0,none⟩)]),(45,.slice A.a1 s.g.ls.length A.c1),(46,.int .i64 s.g.ls.length),(47,.int .i64 x.k)]∧St [] w0 I0 I w [.row (.slice x.ap (keepZ V ((zipLP s.g.ls s.ps).take x.k)).length x.cp) 46 4 (keepZ V ((zipLP s.g.ls s.ps).take x.k)).length x.css.flatten,.row (.slice x.al (keepZ V ((zipLP s.g.ls s.ps).take x.k)).length x.cl) 60 8 (keepZ V ((zipLP s.g.ls s.ps).take x.k)).length (flat lnkC ((keepZ V ((zipLP s.g.ls s.ps).take x.k)).map (·.l))),.cel b6 38 [.slice a V.length c,.slice x.al (keepZ V ((zipLP s.g.ls s.ps).take x.k)).length x.cl,.slice x.ap (keepZ V ((zipLP s.g.ls s.ps).take x.k)).length x.cp,.slice none 0 0,.slice none 0 0],.cel b5 41 [.int .i64 1000000,.int .i64 1000000,.int .i64 1000000,.int .i64 1000000,.int .i64 1000000],.cel b4 38 [.slice none 0 0,.slice none 0 0,.slice none 0 0,.slice none 0 0,.slice none 0 0],.cel b2 38 [.slice A.a0 s.g.vs.length A.c0,.slice A.a1 s.g.ls.length A.c1,.slice A.a2 s.ps.length A.c2,.slice A.a3 s.gone.length A.c3,.slice A.a4 s.cache.length A.c4]]∧x.k≤s.g.ls.length∧All2 (RPatC I) x.css ((keepZ V ((zipLP s.g.ls s.ps).take x.k)).map (·.p))) (fun x=>s.g.ls.length - x.k) (⟨0,none,0,none,0,[]⟩) ?_ ?_
   ·
    exact⟨⟨rfl,rfl,rfl,rfl,rfl,rfl,rfl,rfl,trivial⟩,hS,by dsimp only; omega,All2.nil _⟩
   ·
    rintro⟨k,al,cl,ap,cp,css⟩σ w_l⟨hs,hS,hk0,hA⟩;dsimp only at hs hS hk0 hA ⊢;rw[← qx hs]; clear hs
    refine QwR (qq hS (g_lss rfl rfl) (QoN (xL (qo rfl ?_ ?_))))
    ·
     intro hc48
     try simp only[zA,zO,zN,zI,zF,zM,zT,zU]at hc48
     obtain⟨q,hqi⟩:∃q,s.g.ls[k]? = some q:=⟨_,xW (by omega)⟩
     obtain⟨p,hpi⟩:∃p,s.ps[k]? = some p:=⟨_,xW (by omega)⟩
     have hkA:=hs.g.ls.at hqi;obtain⟨csp,hclp,hpA,hpc⟩:=RSl.at hs.ps hpi;obtain⟨pa,pm,pc,rfl,hpo⟩:=hpc;have hks:=keepZ_snoc (V:=V) (zq hqi hpi);have hkl:=keepZ_len V ((zipLP s.g.ls s.ps).take k);rw[uT]at hkl;refine xZ (xN (xL (uk (QwR (qq hS (Qmi rfl) (qq hS (g_ixI uy uM hs.g.ls rfl rfl (by omega) (by omega)) (qq hS (g_ldE (us:=[.int .i64 _,.int .i64 _,.int .i64 _,.int .i64 _,.int .i64 _,.int .i64 _,.int .i64 _,.int .i64 _]) uM Jv hkA rfl rfl rfl) (qe (qw (cs:=[.int .i64 _,.int .i64 _,.int .i64 _,.int .i64 _,.int .i64 _,.int .i64 _,.int .i64 _,.int .i64 _]) hS Qv rfl) ?_))))))));clear hS;rintro _ w_9⟨b13,rfl,hS⟩;refine qq hS (Qai rfl) (qe (qj 0 hS uM rfl rfl rfl (vs:=[.int .i64 _,.int .i64 _,.int .i64 _,.int .i64 _,.int .i64 _,.int .i64 _,.int .i64 _,.int .i64 _]) rfl rfl rfl (xP rfl) (cs':=[_,_,_,_,_,_,_,_]) rfl) ?_);clear hS;rintro _ w_10⟨rfl,hS⟩;refine QoR (qq hS (qk _) (qq hS (qb (o':=0) uI rfl xX rfl rfl rfl) (qq hS (qi 0 uj rfl rfl rfl) (qe (zp call55 rfl rfl (kept_c V a c b6 q.f _ _ _ _ _ _ hS.imm (kr (k:=3) hS rfl) (kq (k:=3) hS rfl) hV)) ?_))));rintro _ w_11⟨rfl,hE⟩;replace hS:=hS.callE hE;refine qq hS (Qmb rfl) (qu rfl rfl hS (fun hg=>(qk _)) ?_);intro u57 hu57 hn57;refine qu rfl rfl hS (fun hg=>(qb (o':=1) uI rfl xX rfl rfl rfl)) ?_;intro u58 hu58 hn58;refine qu rfl rfl hS (fun hg=>(qi 0 uj rfl (hu58 hg) rfl)) ?_;intro u59 hu59 hn59;refine cvu rfl rfl hS (fun hg=>(zp call55 (hu57 hg) (mlc (ml (hu59 hg) ml0) rfl) (kept_c V a c b6 q.t _ _ _ _ _ _ hS.imm (kr (k:=3) hS rfl) (kq (k:=3) hS rfl) hV))) ?_
     intro w_13 u60 hS hu60 hn60;refine qq hS (g_and rfl rfl (fun hq=>hu60 hq)) (QoN (qo rfl ?_ ?_))
     ·
      intro hc61;clear hu57 hn57 hu58 hn58 hu59 hn59 hu60 hn60;rw[ui hc61]at hks;refine QwR (qq hS (qb (o':=0) un rfl uv rfl rfl rfl) (qq hS (qb (o':=1) ut rfl uZ rfl rfl rfl) (qq hS (qi 3 Jm rfl rfl rfl) (qq hS (g_ldO 0 (vs:=[.int .i64 _,.int .i64 _,.int .i64 _,.int .i64 _,.int .i64 _,.int .i64 _,.int .i64 _,.int .i64 _]) uM Jv rfl rfl rfl rfl) ?_))));refine qe (d_lit (vs:=[.agg #[.int .i64 _,.int .i64 _,.int .i64 _,.int .i64 _,.int .i64 _,.int .i64 _,.int .i64 _,.int .i64 _]]) (cs:=[.int .i64 _,.int .i64 _,.int .i64 _,.int .i64 _,.int .i64 _,.int .i64 _,.int .i64 _,.int .i64 _]) hS uy uM Qv rfl rfl rfl rfl (fun v hv=>by simp only[uq,ur,or_false]at hv; subst hv; rfl) rfl) ?_;clear hS;rintro _ w_14⟨b66,rfl,hS⟩;refine qe (qE 3 0 hS rfl uy info60 rfl rfl rfl rfl rfl rfl rfl rfl (by omega) (by omega)) ?_;clear hS;rintro _ w_15⟨a67,p67,rfl,hS⟩;refine qq hS (qb (o':=0) un rfl uv rfl rfl rfl) (qq hS (qb (o':=1) ut rfl uZ rfl rfl rfl) (qe (qj 4 hS uZ rfl rfl rfl (vs:=[.slice _ _ _]) rfl rfl rfl (xP rfl) (cs':=[_,_,_,_,_]) rfl) ?_));clear hS;rintro _ w_16⟨rfl,hS⟩;refine QoN (draw (.cons 0 .pure (.cons 1 .held (.cons 2 .pure (.cons 3 .held (.cons 4 .pure (.cons 5 .pure (.cons 6 .held (.cons 7 .eff (.cons 8 .bar (.cons 9 .pure (.cons 10 .bar .nil))))))))))) mixed (by kernel_rfl) hS ?_);intro w_17 hS;refine sp rfl (qb (o':=2) un rfl QZ rfl rfl rfl) (sh rfl (qi 4 JF rfl rfl rfl) (sp rfl (qb (o':=2) un rfl QZ rfl rfl rfl) (sh rfl (qi 7 JF rfl rfl rfl) (sp rfl (Qmi rfl) (sp rfl (g_ixI Qf ul hs.ps rfl rfl (by omega) (by omega)) (sh rfl (g_ldE (us:=[.bool _,.int .i64 _,.int .i64 _,.slice _ _ _]) ul uO hpA rfl rfl rfl) ?_))))))
      have hS0:=hS;refine se rfl (d_lit (vs:=[.agg #[.bool _,.int .i64 _,.int .i64 _,.slice _ _ _]]) (cs:=[.bool _,.int .i64 _,.int .i64 _,.slice _ _ _]) hS Qf ul uQ rfl rfl rfl rfl (fun v hv=>by simp only[uq,ur,or_false]at hv; subst hv; rfl) rfl) ?_;rintro _ w_18⟨b77,rfl,hS⟩;refine⟨_,_,hS0.le (Sub.refl _) (ue _ _),hS,sb rfl (qE 3 0 hS rfl Qf info46 rfl rfl rfl rfl rfl rfl rfl rfl (by omega) (by omega)) ?_⟩;rintro _ w_19⟨a78,p78,rfl,hS⟩;refine⟨_,_,hS,sp rfl (qb (o':=2) un rfl QZ rfl rfl rfl) (sb rfl (qj 5 hS QZ rfl rfl rfl (vs:=[.slice _ _ _]) rfl rfl rfl (xP rfl) (cs':=[_,_,_,_,_]) rfl) ?_)⟩;rintro _ w_20⟨rfl,hS⟩;refine⟨_,_,hS,sn (Qh (xN (reg (qq hS (g_add rfl rfl (by omega) (by omega)) (qq hS (Qmi rfl) ?_)))))⟩
      first
       | exact⟨⟨k+1,al,cl,ap,cp,css⟩,_,rfl,⟨⟨rfl,rfl,rfl,rfl,rfl,rfl,rfl,rfl,trivial⟩,by dsimp only; rw[hks]; exact hS.sel [false,false,false,true,true,true,true,true,true],by dsimp only; omega,by dsimp only; rw[hks]; exact hA⟩,by dsimp only; omega⟩
       | exact⟨⟨k+1,a67,p67,a78,p78,css++[[.bool p.lifted,.int .i64 p.in_,.int .i64 p.out,.slice pa pm pc]]⟩,_,rfl,⟨⟨rfl,rfl,rfl,rfl,rfl,rfl,rfl,rfl,trivial⟩,by dsimp only; rw[hks,ug,Qy,qB,QT]; exact hS.sel [false,false,false,true,true,true,true,true,true],by dsimp only; omega,by dsimp only; rw[hks,Qy]; exact hA.snoc ⟨_,_,_,rfl,hpo⟩⟩,by dsimp only; omega⟩
     ·
      intro hc61;clear hu57 hn57 hu58 hn58 hu59 hn59 hu60 hn60;rw[ud (by rw[hc61]; exact Bool.false_ne_true)]at hks;refine xZ (Qh (xN (reg (qq hS (g_add rfl rfl (by omega) (by omega)) (qq hS (Qmi rfl) ?_)))))
      first
       | exact⟨⟨k+1,al,cl,ap,cp,css⟩,_,rfl,⟨⟨rfl,rfl,rfl,rfl,rfl,rfl,rfl,rfl,trivial⟩,by dsimp only; rw[hks]; exact hS.sel [false,true,true,true,true,true,true],by dsimp only; omega,by dsimp only; rw[hks]; exact hA⟩,by dsimp only; omega⟩
       | exact⟨⟨k+1,a67,p67,a78,p78,css++[[.bool p.lifted,.int .i64 p.in_,.int .i64 p.out,.slice pa pm pc]]⟩,_,rfl,⟨⟨rfl,rfl,rfl,rfl,rfl,rfl,rfl,rfl,trivial⟩,by dsimp only; rw[hks,ug,Qy,qB,QT]; exact hS.sel [false,true,true,true,true,true,true],by dsimp only; omega,by dsimp only; rw[hks,Qy]; exact hA.snoc ⟨_,_,_,rfl,hpo⟩⟩,by dsimp only; omega⟩
    ·
     intro hc48
     try simp only[zA,zO,zN,zI,zF,zM,zT,zU]at hc48
     obtain rfl:k=s.g.ls.length:=by omega
     rw[QJ (show(zipLP s.g.ls s.ps).length≤s.g.ls.length by omega)]at hS hA;refine uD (uA (uA (Qw (xN (xL (QwR (qq hS (qb (o':=3) un rfl uo rfl rfl rfl) (qq hS (qi 5 uF rfl rfl rfl) (qq hS (qz rfl ua hs.gone rfl) (qq hS (Qmi rfl) (QoN (uk ?_))))))))))));replace hS:=hS.nilRow 3 1;refine loop (fun(x:RcW) σ w=>okS σ [(2,.pointer (some ⟨b2,0,none⟩)),(4,.pointer (some ⟨b4,0,none⟩)),(5,.pointer (some ⟨b5,0,none⟩)),(6,.pointer (some ⟨b6,0,none⟩)),(11,.func (.func 55) #[] #[.pointer (some ⟨b6,0,none⟩)]),(82,.slice A.a3 s.gone.length A.c3),(83,.int .i64 s.gone.length),(84,.int .i64 x.k)]∧St [] w0 I0 I w [.row (.slice x.a (inG V (s.gone.take x.k)).length x.c) 3 1 (inG V (s.gone.take x.k)).length (flat intC (inG V (s.gone.take x.k))),.row (.slice ap (keepZ V (zipLP s.g.ls s.ps)).length cp) 46 4 (keepZ V (zipLP s.g.ls s.ps)).length css.flatten,.row (.slice al (keepZ V (zipLP s.g.ls s.ps)).length cl) 60 8 (keepZ V (zipLP s.g.ls s.ps)).length (flat lnkC ((keepZ V (zipLP s.g.ls s.ps)).map (·.l))),.cel b6 38 [.slice a V.length c,.slice al (keepZ V (zipLP s.g.ls s.ps)).length cl,.slice ap (keepZ V (zipLP s.g.ls s.ps)).length cp,.slice x.a (inG V (s.gone.take x.k)).length x.c,.slice none 0 0],.cel b5 41 [.int .i64 1000000,.int .i64 1000000,.int .i64 1000000,.int .i64 1000000,.int .i64 1000000],.cel b4 38 [.slice none 0 0,.slice none 0 0,.slice none 0 0,.slice none 0 0,.slice none 0 0],.cel b2 38 [.slice A.a0 s.g.vs.length A.c0,.slice A.a1 s.g.ls.length A.c1,.slice A.a2 s.ps.length A.c2,.slice A.a3 s.gone.length A.c3,.slice A.a4 s.cache.length A.c4]]∧x.k≤s.gone.length) (fun x=>s.gone.length - x.k) (⟨0,none,0⟩) ?_ ?_
     ·
      exact⟨⟨rfl,rfl,rfl,rfl,rfl,rfl,rfl,rfl,trivial⟩,hS,by dsimp only; omega⟩
     ·
      rintro⟨j,ag,cg⟩σ w_l⟨hs,hS,hj0⟩;dsimp only at hs hS hj0 ⊢;rw[← qx hs]; clear hs
      refine QwR (qq hS (g_lss rfl rfl) (QoN (xL (qo rfl ?_ ?_))))
      ·
       intro hc85
       try simp only[zA,zO,zN,zI,zF,zM,zT,zU]at hc85
       obtain⟨v,hvi⟩:∃v,s.gone[j]? = some v:=⟨_,xW (by omega)⟩
       have hgs:=inG_snoc (V:=V) hvi;have hgl:=inG_len V (s.gone.take j);rw[uT]at hgl;refine xZ (xN (xL (uk (QwR (qq hS (g_ixI ua xX hs.gone rfl rfl (by omega) (by omega)) (qq hS (qC uj (hs.gone.at hvi) rfl rfl) (qq hS (Qai rfl) (QoR (qq hS (qk _) (qq hS (Qmi rfl) (qe (zp call55 rfl rfl (kept_c V a c b6 v _ _ _ _ _ _ hS.imm (kr (k:=3) hS rfl) (kq (k:=3) hS rfl) hV)) ?_)))))))))));rintro _ w_21⟨rfl,hE⟩;replace hS:=hS.callE hE;refine QoN (qo rfl ?_ ?_)
       ·
        intro hc90
        try simp only[zA,zO,zN,zI,zF,zM,zT,zU]at hc90
        rw[ui hc90]at hgs;refine reg (qq hS (qb (o':=3) un rfl uo rfl rfl rfl) (qq hS (qi 3 uF rfl rfl rfl) (qq hS (Qmi rfl) ?_)));refine qe (d_lit (vs:=[.int .i64 _]) (cs:=[.int .i64 _]) hS ua xX QA rfl rfl rfl rfl (fun v hv=>by simp only[uq,ur,or_false]at hv; subst hv; rfl) rfl) ?_;clear hS;rintro _ w_22⟨b94,rfl,hS⟩;refine qe (qE 1 0 hS rfl ua info3 rfl rfl rfl rfl rfl rfl rfl rfl (by omega) (by omega)) ?_;clear hS;rintro _ w_23⟨a95,p95,rfl,hS⟩;refine qq hS (qb (o':=3) un rfl uo rfl rfl rfl) (qe (qj 4 hS uo rfl rfl rfl (vs:=[.slice _ _ _]) rfl rfl rfl (xP rfl) (cs':=[_,_,_,_,_]) rfl) ?_);clear hS;rintro _ w_24⟨rfl,hS⟩;refine qh (Qh (xN (reg (qq hS (g_add rfl rfl (by omega) (by omega)) (qq hS (Qmi rfl) ?_)))))
        first
         | exact⟨⟨j+1,ag,cg⟩,_,rfl,⟨⟨rfl,rfl,rfl,rfl,rfl,rfl,rfl,rfl,trivial⟩,by dsimp only; rw[hgs]; exact hS.sel [false,true,true,true,true,true,true,true],by dsimp only; omega⟩,by dsimp only; omega⟩
         | exact⟨⟨j+1,a95,p95⟩,_,rfl,⟨⟨rfl,rfl,rfl,rfl,rfl,rfl,rfl,rfl,trivial⟩,by dsimp only; rw[hgs,ug,qB]; exact hS.sel [false,true,true,true,true,true,true,true],by dsimp only; omega⟩,by dsimp only; omega⟩
       ·
        intro hc90
        try simp only[zA,zO,zN,zI,zF,zM,zT,zU]at hc90
        rw[ud hc90]at hgs;refine xZ (Qh (xN (reg (qq hS (g_add rfl rfl (by omega) (by omega)) (qq hS (Qmi rfl) ?_)))))
        first
         | exact⟨⟨j+1,ag,cg⟩,_,rfl,⟨⟨rfl,rfl,rfl,rfl,rfl,rfl,rfl,rfl,trivial⟩,by dsimp only; rw[hgs]; exact hS.sel [true,true,true,true,true,true,true],by dsimp only; omega⟩,by dsimp only; omega⟩
         | exact⟨⟨j+1,a95,p95⟩,_,rfl,⟨⟨rfl,rfl,rfl,rfl,rfl,rfl,rfl,rfl,trivial⟩,by dsimp only; rw[hgs,ug,qB]; exact hS.sel [true,true,true,true,true,true,true],by dsimp only; omega⟩,by dsimp only; omega⟩
      ·
       intro hc85
       try simp only[zA,zO,zN,zI,zF,zM,zT,zU]at hc85
       obtain rfl:j=s.gone.length:=by omega
       rw[Qq]at hS;refine uD (uA (uA (Qw (xN (QwR (qq hS (g_ldO 3 (vs:=[.slice _ _ _,.slice _ _ _,.slice _ _ _,.slice _ _ _,.slice _ _ _]) um uz rfl rfl rfl rfl) (qe (qj 5 hS um rfl rfl rfl (vs:=[.slice _ _ _,.slice _ _ _,.slice _ _ _,.slice _ _ _,.slice _ _ _]) rfl rfl rfl (xP rfl) (cs':=[_,_,_,_,_]) rfl) ?_)))))));clear hS;rintro _ w_25⟨rfl,hS⟩;refine QoN (ub (ret1 results23 (qD 5 hS um uz rfl rfl rfl) ?_));obtain⟨I1,hS1,hI1,hd1⟩:=St.freezeRow qH (xs:=inG V s.gone) (hS.sel [true,true,true,false,false,false,false]) rfl;obtain⟨I2,hS2,hI2,hd2⟩:=St.freezeRowR (xs:=(keepZ V (zipLP s.g.ls s.ps)).map (·.p)) hS1 (by rw[uR]) (rpat_cl hA) (All2.mono hA fun _ _ h=>h.mono hI1);obtain⟨I3,hS3,hI3,hd3⟩:=St.freezeRow qK (xs:=(keepZ V (zipLP s.g.ls s.ps)).map (·.l)) hS2 (by rw[uR]);have hR:collectP s l=⟨⟨V,(keepZ V (zipLP s.g.ls s.ps)).map (·.l)⟩,(keepZ V (zipLP s.g.ls s.ps)).map (·.p),inG V s.gone,[]⟩:=by unfold collectP; rw[← hVe]
       rw[hR];rw[show(keepZ V (zipLP s.g.ls s.ps)).length=((keepZ V (zipLP s.g.ls s.ps)).map (·.l)).length by rw[uR]]at hd3;rw[show(keepZ V (zipLP s.g.ls s.ps)).length=((keepZ V (zipLP s.g.ls s.ps)).map (·.p)).length by rw[uR]]at hd2;refine⟨I3,⟨a,c,al,cl,ap,cp,ag,cg,none,0⟩,?_,hS3.nil,⟨⟨((hV.mono hI1).mono hI2).mono hI3,hd3⟩,?_,(hd1.mono hI2).mono hI3,RSl.nilR⟩⟩
       · dsimp only; rw[uR,uR]; rfl
       · exact RSl.mono hd2 hI3 fun _ _ h=>(h.mono hI2).mono hI3
end Go.Proofs.YtcajgkfgjpfmaaaGreat
