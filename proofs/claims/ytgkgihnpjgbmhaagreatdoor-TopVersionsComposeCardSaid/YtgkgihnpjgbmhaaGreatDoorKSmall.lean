/- The small functions of package normal: what they compute. Conditions: symbols and prices within bounds. The functions of package patch that check patches and make symbols of them: what they compute. Conditions: numbers within bounds. patch.Check and patch.Symbols: what they compute. Conditions: numbers within bounds. normal.table fills the table of places. Conditions: at most 65536 right symbols. normal.Cheapest and normal.Form: what they compute. Conditions: numbers within bounds. normal.Form and normal.Same: what they compute. Conditions: numbers within bounds. -/
import Derived.Test.YtgkgihnpjgbmhaaGreatDoorSq
import Derived.Test.YtgkgihnpjgbmhaaGreatDoorFacts
import Derived.Test.YtgkgihnpjgbmhaaGreatDoorKCore2
import Derived.KernelRfl
import Derived.Test.YtgkgihnpjgbmhaaGreatDoorTabB
set_option linter.unusedSimpArgs false
set_option linter.unusedVariables false
namespace Go.Proofs.YtgkgihnpjgbmhaaGreatDoor
open Tryz
open Go Go.RowKit Go.Inl
theorem eqlSym {n:Nat}{σ:Nat→Value}{S:World→Prop}{ty t':TypeId}{x y:Operand}(a b:Sym)(hx:ev n σ x=symV a)(hy:ev n σ y=symV b):Gives prog (ev n σ) S (.binOp .eql 80 x y t') ty (.bool (symEq a b)):=fun w _=>by
 have hg:(eqGuard .eql 80 x y (symV a) (symV b)).run prog w = .ok () w:=by simp[eqGuard,symV,go_sem,eqGuardType80]
 have hb:(binOp .eql 80 (symV a) (symV b)).run prog w = .ok (.bool (symEq a b)) w:=by
  simp[symV,go_sem,symEq]
  by_cases h1:a.old=b.old <;> by_cases h2:a.at_=b.at_ <;> by_cases h3:a.b=b.b <;> simp[h1,h2,h3]
 simp only[execOp,hx,hy,Sem.run_bind,hg,Result.andThen_ok,hb]; rfl
theorem less_c (p q:Pr)(w:World)(I:Imm)(hI:Sat I w):Ctr prog 132 [prV p,prV q] w (fun v w'=>v = .bool (p.less q)∧Ext w I w' I):=by
 refine fn (n:=24) func132 rfl rfl rfl ?_;have hS:=St.start hI;refine QwR (qe (d_box (cs:=[.int .i64 _,.int .i64 _]) hS rfl) ?_);clear hS;rintro _ w_1⟨b_1,rfl,hS⟩;refine qe (d_box (cs:=[.int .i64 _,.int .i64 _]) hS rfl) ?_;clear hS;rintro _ w_2⟨b_2,rfl,hS⟩;refine qq hS (Qab rfl) (QoR (qq hS (qa (o':=0) uy rfl vF rfl rfl rfl) (qq hS (qd 1 vV rfl rfl rfl) (qq hS (qa (o':=0) uy rfl vF rfl rfl rfl) (qq hS (qd 0 vV rfl rfl rfl) (qq hS (g_lss rfl rfl) (qq hS (Qmb rfl) (qu rfl rfl hS (fun hg=>(qa (o':=0) uy rfl vF rfl rfl rfl)) ?_))))))));intro u11 hu11 hn11;refine qu rfl rfl hS (fun hg=>(qd 1 vV rfl (hu11 hg) rfl)) ?_;intro u12 hu12 hn12;refine qu rfl rfl hS (fun hg=>(qa (o':=0) uy rfl vF rfl rfl rfl)) ?_;intro u13 hu13 hn13;refine qu rfl rfl hS (fun hg=>(qd 0 vV rfl (hu13 hg) rfl)) ?_;intro u14 hu14 hn14;refine qu rfl rfl hS (fun hg=>(g_eql (hu12 hg) (hu14 hg))) ?_;intro u15 hu15 hn15;refine qu rfl rfl hS (fun hg=>(qs (hu15 hg))) ?_;intro u16 hu16 hn16;refine qn rfl hu16 hn16 hS (fun hg=>(qa (o':=1) uy rfl vF rfl rfl rfl)) ?_;intro u17 hu17 hn17;refine qn rfl hu16 hn16 hS (fun hg=>(qd 1 vV rfl (hu17 hg) rfl)) ?_;intro u18 hu18 hn18;refine qn rfl hu16 hn16 hS (fun hg=>(qa (o':=1) uy rfl vF rfl rfl rfl)) ?_;intro u19 hu19 hn19;refine qn rfl hu16 hn16 hS (fun hg=>(qd 0 vV rfl (hu19 hg) rfl)) ?_;intro u20 hu20 hn20;refine qn rfl hu16 hn16 hS (fun hg=>(g_lss (hu18 hg) (hu20 hg))) ?_;intro u21 hu21 hn21;refine qu rfl rfl hS (fun hg=>(g_and (hu16 hg) rfl (fun hq=>hu21 ⟨hg,hq⟩))) ?_;intro u22 hu22 hn22
 refine qq hS (g_or rfl rfl (fun hq=>hu22 hq)) (qq hS (Qab rfl) (QoN (vM (ret1 results132 (qh (v:=.bool _) rfl) ?_))));exact⟨rfl,hS.nil⟩
theorem zX (p : Pr) (c o : Int) (w : World) (I : Imm) (hI : Sat I w) (h1 : p.ok 1000000000) (h3 : 0 ≤ c ∧ c ≤ 100) (h4 : 0 ≤ o ∧ o ≤ 100) :
 Ctr prog 107 [prV p,.int .i64 c,.int .i64 o] w (fun v w'=>v=prV (p.plus c o)∧Ext w I w' I):=by
 obtain⟨g1,g2,g3,g4⟩:=h1;refine fn (n:=16) func107 rfl rfl rfl ?_;have hS:=St.start hI;refine QwR (qe (d_box (cs:=[.int .i64 _,.int .i64 _]) hS rfl) ?_);clear hS;rintro _ w_1⟨b_1,rfl,hS⟩;refine qe (qv (cs:=[.int .i64 _,.int .i64 _]) hS Qa rfl) ?_;clear hS;rintro _ w_2⟨b_2,rfl,hS⟩;refine QoR (qq hS (qa (o':=0) uy rfl vF rfl rfl rfl) (qq hS (qd 1 vV rfl rfl rfl) (qq hS (Qmi rfl) (qq hS (g_add rfl rfl (by omega) (by omega)) (qq hS (qa (o':=1) uy rfl vF rfl rfl rfl) (qq hS (qd 1 vV rfl rfl rfl) (qq hS (Qmi rfl) (qq hS (g_add rfl rfl (by omega) (by omega)) (qq hS (qt (pl:=[(0,1),(1,1)]) (cs:=[.int .i64 _,.int .i64 _]) Qa uy (fun w=>by simp[vF]) (mp (v:=.int .i64 _) rfl (mp (v:=.int .i64 _) rfl mp0)) rfl) ?_)))))))));refine qe (qf 0 hS xG rfl rfl rfl (vs:=[.int .i64 _,.int .i64 _]) rfl rfl rfl (vB rfl) (cs':=[_,_]) rfl) ?_;clear hS;rintro _ w_3⟨rfl,hS⟩;refine QoN (vM (ret1 results107 (qD 0 hS xG un rfl rfl rfl) ?_));exact⟨rfl,hS.nil⟩
theorem goesOn_c (a b:Sym)(w:World)(I:Imm)(hI:Sat I w)(h1:a.ok):Ctr prog 109 [symV a,symV b] w (fun v w'=>v = .bool (goesOn a b)∧Ext w I w' I):=by
 obtain⟨g1,g2,g3,g4⟩:=h1;refine fn (n:=19) func109 rfl rfl rfl ?_;have hS:=St.start hI;refine QwR (qe (d_box (cs:=[.bool _,.int .i64 _,.int .u8 _]) hS rfl) ?_);clear hS;rintro _ w_1⟨b_1,rfl,hS⟩;refine qe (d_box (cs:=[.bool _,.int .i64 _,.int .u8 _]) hS rfl) ?_;clear hS;rintro _ w_2⟨b_2,rfl,hS⟩;refine qq hS (Qab rfl) (QoR (qq hS (qa (o':=0) xe rfl xE rfl rfl rfl) (qq hS (qd 1 ut rfl rfl rfl) (qq hS (Qmb rfl) (qu rfl rfl hS (fun hg=>(qa (o':=0) xe rfl xE rfl rfl rfl)) ?_)))));intro u8 hu8 hn8;refine qu rfl rfl hS (fun hg=>(qd 0 ut rfl (hu8 hg) rfl)) ?_;intro u9 hu9 hn9;refine qq hS (g_and rfl rfl (fun hq=>hu9 hq)) (qq hS (Qmb rfl) (qu rfl rfl hS (fun hg=>(qa (o':=1) xe rfl vF rfl rfl rfl)) ?_));intro u12 hu12 hn12;refine qu rfl rfl hS (fun hg=>(qd 0 vV rfl (hu12 hg) rfl)) ?_;intro u13 hu13 hn13;refine qu rfl rfl hS (fun hg=>(qa (o':=1) xe rfl vF rfl rfl rfl)) ?_;intro u14 hu14 hn14;refine qu rfl rfl hS (fun hg=>(qd 1 vV rfl (hu14 hg) rfl)) ?_;intro u15 hu15 hn15;refine qu rfl rfl hS (fun hg=>(g_add (hu15 hg) rfl (by omega) (by omega))) ?_;intro u16 hu16 hn16;refine qu rfl rfl hS (fun hg=>(g_eql (hu13 hg) (hu16 hg))) ?_;intro u17 hu17 hn17;refine qq hS (g_and rfl rfl (fun hq=>hu17 hq)) (qq hS (Qab rfl) (QoN (vM (ret1 results109 (qh (v:=.bool _) rfl) ?_))));exact⟨rfl,hS.nil⟩
theorem open_c (rest : Pl) (more : Pr) (n : Int) (on : Bool) (w : World) (I : Imm) (hI : Sat I w) (h1 : rest.best.ok 1000000000) (h2 : more.ok 1000000000) (h3 : 0 ≤ n ∧ n ≤ 1000000000) :
 Ctr prog 108 [plV rest,prV more,.int .i64 n,.bool on] w (fun v w'=>v = .tuple #[prV (openS rest more n on).1,.int .i64 (openS rest more n on).2]∧Ext w I w' I):=by
 refine fn (n:=28) func108 rfl rfl rfl ?_;have hS:=St.start hI;refine QwR (qe (d_box (cs:=[.int .i64 _,.int .i64 _,.int .i64 _,.int .i64 _,.int .i64 _,.int .i64 _,.int .i64 _,.int .i64 _,.int .i64 _,.int .i64 _,.int .i64 _,.int .i64 _]) hS rfl) ?_);clear hS;rintro _ w_1⟨b_1,rfl,hS⟩;refine qe (d_box (cs:=[.int .i64 _,.int .i64 _]) hS rfl) ?_;clear hS;rintro _ w_2⟨b_2,rfl,hS⟩;refine qe (qv (cs:=[.int .i64 _,.int .i64 _]) hS Qa rfl) ?_;clear hS;rintro _ w_3⟨b_3,rfl,hS⟩;refine qq hS (Qai rfl) (QoR (qq hS (qa (o':=0) xr rfl xG rfl rfl rfl) (qq hS (g_ldO 2 (vs:=[.int .i64 _,.int .i64 _]) xG un rfl rfl rfl rfl) (qe (qg call107 rfl (zX rest.best 1 0 _ I hS.imm h1 (by omega) (by omega))) ?_))));rintro _ w_4⟨rfl,hE⟩;replace hS:=hS.callE hE;refine qe (qv (cs:=[.int .i64 _,.int .i64 _]) hS Qa rfl) ?_;clear hS;rintro _ w_5⟨b_5,rfl,hS⟩;refine qe (qf 0 hS xG rfl rfl rfl (vs:=[.int .i64 _,.int .i64 _]) rfl rfl rfl (vB rfl) (cs':=[_,_]) rfl) ?_;clear hS;rintro _ w_6⟨rfl,hS⟩;refine QoN (vD (QwR (qq hS (g_ldO 2 (vs:=[.int .i64 _,.int .i64 _]) xG un rfl rfl rfl rfl) (qe (qg call107 rfl (zX more 1 0 _ I hS.imm h2 (by omega) (by omega))) ?_))));rintro _ w_7⟨rfl,hE⟩;replace hS:=hS.callE hE;refine qe (qv (cs:=[.int .i64 _,.int .i64 _]) hS Qa rfl) ?_;clear hS;rintro _ w_8⟨b_8,rfl,hS⟩;refine qe (qf 0 hS xG rfl rfl rfl (vs:=[.int .i64 _,.int .i64 _]) rfl rfl rfl (vB rfl) (cs':=[_,_]) rfl) ?_;clear hS;rintro _ w_9⟨rfl,hS⟩;refine QoR (qq hS (Qmb rfl) (qq hS (Qmb rfl) (qu rfl rfl hS (fun hg=>(g_ldO 1 (vs:=[.int .i64 _,.int .i64 _]) xG un rfl rfl rfl rfl)) ?_)))
 intro u19 hu19 hn19;refine qu rfl rfl hS (fun hg=>(g_ldO 0 (vs:=[.int .i64 _,.int .i64 _]) xG un rfl rfl rfl rfl)) ?_;intro u20 hu20 hn20;refine cvu rfl rfl hS (fun hg=>(qg call132 (ml (hu19 hg) (ml (hu20 hg) ml0)) (less_c (rest.best.plus 1 0) (more.plus 1 0) _ I hS.imm))) ?_;intro w_11 u21 hS hu21 hn21;refine qu rfl rfl hS (fun hg=>(g_not (hu21 hg))) ?_;intro u22 hu22 hn22;refine qq hS (g_and rfl rfl (fun hq=>hu22 hq)) (QoN (qj rfl ?_ ?_))
 ·
  intro hc23;clear hu19 hn19 hu20 hn20 hu21 hn21 hu22 hn22;have e:openS rest more n on=(more.plus 1 0,n+1):=vJ hc23;refine QwR (qq hS (g_ldO 0 (vs:=[.int .i64 _,.int .i64 _]) xG un rfl rfl rfl rfl) (qq hS (Qmi rfl) (qq hS (g_add rfl rfl (by omega) (by omega)) (qe (qf 2 hS xG rfl rfl rfl (vs:=[.int .i64 _,.int .i64 _]) rfl rfl rfl (vB rfl) (cs':=[_,_]) rfl) ?_))));clear hS;rintro _ w_12⟨rfl,hS⟩;refine qq hS (Qai rfl) (QoN (vM (xF (ret2 results108 (qD 2 hS xG un rfl rfl rfl) (qh (v:=.int .i64 _) rfl) ?_))));rw[e]; exact⟨rfl,hS.nil⟩
 ·
  intro hc23;clear hu19 hn19 hu20 hn20 hu21 hn21 hu22 hn22;have e:openS rest more n on=(rest.best.plus 1 0,1):=vG (by rw[hc23]; decide);refine vL (vK (QwR (qq hS (g_ldO 1 (vs:=[.int .i64 _,.int .i64 _]) xG un rfl rfl rfl rfl) (qe (qf 2 hS xG rfl rfl rfl (vs:=[.int .i64 _,.int .i64 _]) rfl rfl rfl (vB rfl) (cs':=[_,_]) rfl) ?_))));clear hS;rintro _ w_13⟨rfl,hS⟩;refine qq hS (Qai rfl) (QoN (vM (ret2 results108 (qD 2 hS xG un rfl rfl rfl) (qh (v:=.int .i64 _) rfl) ?_)));rw[e]; exact⟨rfl,hS.nil⟩
theorem runs_c (s next : Sym) (after : Pl) (last : Bool) (w : World) (I : Imm) (hI : Sat I w) (h1 : s.ok) (h2 : 0 ≤ after.copyRun ∧ after.copyRun ≤ 1000000) (h3 : 0 ≤ after.equalRun ∧ after.equalRun ≤ 1000000) :
 Ctr prog 105 [symV s,symV next,plV after,.bool last] w (fun v w'=>v = .tuple #[.int .i64 (runsS s next after last).1,.int .i64 (runsS s next after last).2]∧Ext w I w' I):=by
 refine fn (n:=46) func105 rfl rfl rfl ?_;have hS:=St.start hI;refine QwR (qe (d_box (cs:=[.bool _,.int .i64 _,.int .u8 _]) hS rfl) ?_);clear hS;rintro _ w_1⟨b_1,rfl,hS⟩;refine qe (d_box (cs:=[.bool _,.int .i64 _,.int .u8 _]) hS rfl) ?_;clear hS;rintro _ w_2⟨b_2,rfl,hS⟩;refine qe (d_box (cs:=[.int .i64 _,.int .i64 _,.int .i64 _,.int .i64 _,.int .i64 _,.int .i64 _,.int .i64 _,.int .i64 _,.int .i64 _,.int .i64 _,.int .i64 _,.int .i64 _]) hS rfl) ?_;clear hS;rintro _ w_3⟨b_3,rfl,hS⟩;refine qq hS (Qai rfl) (qq hS (Qai rfl) (QoR (qq hS (Qai rfl) (qq hS (Qai rfl) (QoN (vD (QwR (qq hS (qa (o':=0) xe rfl xE rfl rfl rfl) (qq hS (qd 2 ut rfl rfl rfl) (qq hS (Qmb rfl) (qu rfl rfl hS (fun hg=>(qa (o':=2) xe rfl xd rfl rfl rfl)) ?_)))))))))));intro u15 hu15 hn15;refine qu rfl rfl hS (fun hg=>(qd 2 xR rfl (hu15 hg) rfl)) ?_;intro u16 hu16 hn16;refine qu rfl rfl hS (fun hg=>(g_eql (hu16 hg) rfl)) ?_;intro u17 hu17 hn17;refine qq hS (g_and rfl rfl (fun hq=>hu17 hq)) (QoN (qj rfl ?_ ?_))
 ·
  intro hc18;clear hu15 hn15 hu16 hn16 hu17 hn17;refine QwR (qq hS (Qai rfl) (QoR (qq hS (Qmb rfl) (qq hS (g_not rfl) (qq hS (Qmb rfl) (qu rfl rfl hS (fun hg=>(g_ldO 2 (vs:=[.bool _,.int .i64 _,.int .u8 _]) xt ud rfl rfl rfl rfl)) ?_))))));intro u22 hu22 hn22;refine qu rfl rfl hS (fun hg=>(g_ldO 1 (vs:=[.bool _,.int .i64 _,.int .u8 _]) xt ud rfl rfl rfl rfl)) ?_;intro u23 hu23 hn23;refine cvu rfl rfl hS (fun hg=>(qg call109 (ml (hu22 hg) (ml (hu23 hg) ml0)) (goesOn_c s next _ I hS.imm h1))) ?_;intro w_5 u24 hS hu24 hn24;refine qq hS (g_and rfl rfl (fun hq=>hu24 hq)) (QoN (qj rfl ?_ ?_))
  ·
   intro hc25;clear hu22 hn22 hu23 hn23 hu24 hn24;refine reg (qq hS (Qmi rfl) (qq hS (qa (o':=10) xr rfl vF rfl rfl rfl) (qq hS (qd 0 vV rfl rfl rfl) (qq hS (g_add rfl rfl (by omega) (by omega)) (qq hS (Qai rfl) (QoN (vD (QwR (qq hS (qa (o':=0) xe rfl xE rfl rfl rfl) (qq hS (qd 2 ut rfl rfl rfl) (qq hS (g_not rfl) (QoN (qj rfl ?_ ?_)))))))))))))
   ·
    intro hc32;refine QwR (qq hS (Qai rfl) (QoR (qq hS (Qmb rfl) (qq hS (g_not rfl) (qq hS (Qmb rfl) (qu rfl rfl hS (fun hg=>(g_ldO 2 (vs:=[.bool _,.int .i64 _,.int .u8 _]) xt ud rfl rfl rfl rfl)) ?_))))));intro u36 hu36 hn36;refine qu rfl rfl hS (fun hg=>(g_ldO 1 (vs:=[.bool _,.int .i64 _,.int .u8 _]) xt ud rfl rfl rfl rfl)) ?_;intro u37 hu37 hn37;refine qu rfl rfl hS (fun hg=>(eqlSym s next (hu36 hg) (hu37 hg))) ?_;intro u38 hu38 hn38;refine qq hS (g_and rfl rfl (fun hq=>hu38 hq)) (QoN (qj rfl ?_ ?_))
    ·
     intro hc39;clear hu36 hn36 hu37 hn37 hu38 hn38;refine reg (qq hS (Qmi rfl) (qq hS (qa (o':=11) xr rfl vF rfl rfl rfl) (qq hS (qd 0 vV rfl rfl rfl) (qq hS (g_add rfl rfl (by omega) (by omega)) (qq hS (Qai rfl) (QoR (qq hS (Qmi rfl) (qq hS (Qmi rfl) (qq hS (Qai rfl) (qq hS (Qai rfl) (QoN (vM (ret2 uQ (qh (v:=.int .i64 _) rfl) (qh (v:=.int .i64 _) rfl) ?_)))))))))))));refine⟨?_,hS.nil⟩; simp only[runsS]; simp_all
    ·
     intro hc39;clear hu36 hn36 hu37 hn37 hu38 hn38;refine vL (vK (QwR (qq hS (Qmi rfl) (qq hS (Qmi rfl) (qq hS (Qai rfl) (qq hS (Qai rfl) (QoN (vM (ret2 uQ (qh (v:=.int .i64 _) rfl) (qh (v:=.int .i64 _) rfl) ?_)))))))));refine⟨?_,hS.nil⟩; simp only[runsS]; simp_all
   ·
    intro hc32;refine vL (vK (QwR (qq hS (Qmi rfl) (qq hS (Qmi rfl) (qq hS (Qai rfl) (qq hS (Qai rfl) (QoN (vM (ret2 uQ (qh (v:=.int .i64 _) rfl) (qh (v:=.int .i64 _) rfl) ?_)))))))));refine⟨?_,hS.nil⟩; simp only[runsS]; simp_all
  ·
   intro hc25;clear hu22 hn22 hu23 hn23 hu24 hn24;refine vL (vK (vD (QwR (qq hS (qa (o':=0) xe rfl xE rfl rfl rfl) (qq hS (qd 2 ut rfl rfl rfl) (qq hS (g_not rfl) (QoN (qj rfl ?_ ?_))))))))
   ·
    intro hc32;refine QwR (qq hS (Qai rfl) (QoR (qq hS (Qmb rfl) (qq hS (g_not rfl) (qq hS (Qmb rfl) (qu rfl rfl hS (fun hg=>(g_ldO 2 (vs:=[.bool _,.int .i64 _,.int .u8 _]) xt ud rfl rfl rfl rfl)) ?_))))));intro u36 hu36 hn36;refine qu rfl rfl hS (fun hg=>(g_ldO 1 (vs:=[.bool _,.int .i64 _,.int .u8 _]) xt ud rfl rfl rfl rfl)) ?_;intro u37 hu37 hn37;refine qu rfl rfl hS (fun hg=>(eqlSym s next (hu36 hg) (hu37 hg))) ?_;intro u38 hu38 hn38;refine qq hS (g_and rfl rfl (fun hq=>hu38 hq)) (QoN (qj rfl ?_ ?_))
    ·
     intro hc39;clear hu36 hn36 hu37 hn37 hu38 hn38;refine reg (qq hS (Qmi rfl) (qq hS (qa (o':=11) xr rfl vF rfl rfl rfl) (qq hS (qd 0 vV rfl rfl rfl) (qq hS (g_add rfl rfl (by omega) (by omega)) (qq hS (Qai rfl) (QoR (qq hS (Qmi rfl) (qq hS (Qmi rfl) (qq hS (Qai rfl) (qq hS (Qai rfl) (QoN (vM (ret2 uQ (qh (v:=.int .i64 _) rfl) (qh (v:=.int .i64 _) rfl) ?_)))))))))))));refine⟨?_,hS.nil⟩; simp only[runsS]; simp_all
    ·
     intro hc39;clear hu36 hn36 hu37 hn37 hu38 hn38;refine vL (vK (QwR (qq hS (Qmi rfl) (qq hS (Qmi rfl) (qq hS (Qai rfl) (qq hS (Qai rfl) (QoN (vM (ret2 uQ (qh (v:=.int .i64 _) rfl) (qh (v:=.int .i64 _) rfl) ?_)))))))));refine⟨?_,hS.nil⟩; simp only[runsS]; simp_all
   ·
    intro hc32;refine vL (vK (QwR (qq hS (Qmi rfl) (qq hS (Qmi rfl) (qq hS (Qai rfl) (qq hS (Qai rfl) (QoN (vM (ret2 uQ (qh (v:=.int .i64 _) rfl) (qh (v:=.int .i64 _) rfl) ?_)))))))));refine⟨?_,hS.nil⟩; simp only[runsS]; simp_all
 ·
  intro hc18;clear hu15 hn15 hu16 hn16 hu17 hn17;refine vL (vK (vD (QwR (qq hS (qa (o':=0) xe rfl xE rfl rfl rfl) (qq hS (qd 2 ut rfl rfl rfl) (qq hS (g_not rfl) (QoN (qj rfl ?_ ?_))))))))
  ·
   intro hc32;refine QwR (qq hS (Qai rfl) (QoR (qq hS (Qmb rfl) (qq hS (g_not rfl) (qq hS (Qmb rfl) (qu rfl rfl hS (fun hg=>(g_ldO 2 (vs:=[.bool _,.int .i64 _,.int .u8 _]) xt ud rfl rfl rfl rfl)) ?_))))));intro u36 hu36 hn36;refine qu rfl rfl hS (fun hg=>(g_ldO 1 (vs:=[.bool _,.int .i64 _,.int .u8 _]) xt ud rfl rfl rfl rfl)) ?_;intro u37 hu37 hn37;refine qu rfl rfl hS (fun hg=>(eqlSym s next (hu36 hg) (hu37 hg))) ?_;intro u38 hu38 hn38;refine qq hS (g_and rfl rfl (fun hq=>hu38 hq)) (QoN (qj rfl ?_ ?_))
   ·
    intro hc39;clear hu36 hn36 hu37 hn37 hu38 hn38;refine reg (qq hS (Qmi rfl) (qq hS (qa (o':=11) xr rfl vF rfl rfl rfl) (qq hS (qd 0 vV rfl rfl rfl) (qq hS (g_add rfl rfl (by omega) (by omega)) (qq hS (Qai rfl) (QoR (qq hS (Qmi rfl) (qq hS (Qmi rfl) (qq hS (Qai rfl) (qq hS (Qai rfl) (QoN (vM (ret2 uQ (qh (v:=.int .i64 _) rfl) (qh (v:=.int .i64 _) rfl) ?_)))))))))))));refine⟨?_,hS.nil⟩; simp only[runsS]; simp_all
   ·
    intro hc39;clear hu36 hn36 hu37 hn37 hu38 hn38;refine vL (vK (QwR (qq hS (Qmi rfl) (qq hS (Qmi rfl) (qq hS (Qai rfl) (qq hS (Qai rfl) (QoN (vM (ret2 uQ (qh (v:=.int .i64 _) rfl) (qh (v:=.int .i64 _) rfl) ?_)))))))));refine⟨?_,hS.nil⟩; simp only[runsS]; simp_all
  ·
   intro hc32;refine vL (vK (QwR (qq hS (Qmi rfl) (qq hS (Qmi rfl) (qq hS (Qai rfl) (qq hS (Qai rfl) (QoN (vM (ret2 uQ (qh (v:=.int .i64 _) rfl) (qh (v:=.int .i64 _) rfl) ?_)))))))));refine⟨?_,hS.nil⟩; simp only[runsS]; simp_all
theorem try_c (b o : Nat) (T : TypeId) (pre post : List Value) (ho : o = pre.length) (p : Pl) (k len : Int) (c : Pr) (w : World) (I : Imm) (hI : Sat I w) (hb : w.heap[b]? = some (.cells (pre ++ (plC p ++ post)).toArray T (0, 0))) (hn : I b = none) :
 Ctr prog 106 [.pointer (some ⟨b,o,none⟩),.int .i64 k,.int .i64 len,prV c] w (fun v w'=>v = .tuple #[]∧St [b] w I I w' [.cel b T (pre++(plC (tryS p k len c)++post))]):=by
 refine fn (n:=33) func106 rfl rfl rfl ?_;have hS:=St.startX hI hb hn;refine QwR (qe (d_box (cs:=[.int .i64 _,.int .i64 _]) hS rfl) ?_);clear hS;rintro _ w_1⟨b_1,rfl,hS⟩;refine QoN (vD (draw (.cons 0 .pure (.cons 1 .pure (.cons 2 .pure (.cons 3 .held (.cons 4 .pure (.cons 5 .pure (.cons 6 .held (.cons 7 .pure (.cons 8 .pure (.cons 9 .pure (.cons 10 .held (.cons 11 .eff (.cons 12 .pure .nil))))))))))))) mixed (by kernel_rfl) hS ?_));intro w_2 hS;refine sp rfl (qb _) (sp rfl (qi rfl) (sp rfl (qa (o':=o+2) xr rfl vF rfl rfl rfl) (sh rfl (kU 1 (c:=2) vV rfl ho rfl rfl) (sp rfl (g_eql rfl rfl) (sp rfl (Qmb rfl) (shu rfl rfl rfl (fun hg=>(g_ldO 0 (vs:=[.int .i64 _,.int .i64 _]) xG un rfl rfl rfl rfl)) ?_))))));intro u14 hu14 hn14;refine spu rfl rfl rfl (fun hg=>(qb _)) ?_;intro u15 hu15 hn15;refine spu rfl rfl rfl (fun hg=>(qi (hu15 hg))) ?_;intro u16 hu16 hn16;refine spu rfl rfl rfl (fun hg=>(qa (o':=o+0) xr rfl xG rfl (hu16 hg) rfl)) ?_;intro u17 hu17 hn17;refine shu rfl rfl rfl (fun hg=>(g_ldF 1 (c:=0) (vs:=[.int .i64 _,.int .i64 _]) xG un rfl ho (hu17 hg) rfl rfl)) ?_;intro u18 hu18 hn18;refine scu rfl rfl rfl hS (fun hg=>(qg call132 (ml (hu14 hg) (ml (hu18 hg) ml0)) (less_c c p.best _ I hS.imm))) ?_;intro w_4 u19 hS hu19 hn19;refine sp rfl (g_or rfl rfl (fun hq=>hu19 hq)) (sn (vK (qj rfl ?_ ?_)))
 ·
  intro hc20;clear hu14 hn14 hu15 hn15 hu16 hn16 hu17 hn17 hu18 hn18 hu19 hn19;have e:tryS p k len c={ p with kind:=k,length:=len,best:=c }:=vJ hc20;refine drawS [true,false] (.cons 0 .pure (.cons 1 .pure (.cons 2 .pure (.cons 3 .pure (.cons 4 .pure (.cons 5 .held (.cons 6 .pure (.cons 7 .pure (.cons 8 .eff (.cons 9 .pure (.cons 10 .pure (.cons 11 .eff (.cons 12 .pure (.cons 13 .pure (.cons 14 .eff .nil))))))))))))))) mixed (by kernel_rfl) hS ?_;intro w_5 hS;refine sp rfl (qb _) (sp rfl (qb _) (sp rfl (qb _) (sp rfl (Qmi rfl) (sp rfl (Qmi rfl) (sh rfl (g_ldO 0 (vs:=[.int .i64 _,.int .i64 _]) xG un rfl rfl rfl rfl) (sp rfl (qi rfl) (sp rfl (qa (o':=o+2) xr rfl vF rfl rfl rfl) ?_)))))));have hS0:=hS;refine se rfl (jv 1 (c:=2) hS vF rfl ho rfl rfl (vs:=[.int .i64 _]) rfl rfl rfl (vB rfl) (row':=[_,_,_,_,_,_,_,_,_,_,_,_]) rfl) ?_;rintro _ w_6⟨rfl,hS⟩;refine⟨_,_,fun _ h=>h,hS.sel [true,false],sp rfl (qi rfl) (sp rfl (qa (o':=o+3) xr rfl vF rfl rfl rfl) ?_)⟩;have hS0:=hS;refine se rfl (jv 1 (c:=3) hS vF rfl ho rfl rfl (vs:=[.int .i64 _]) rfl rfl rfl (vB rfl) (row':=[_,_,_,_,_,_,_,_,_,_,_,_]) rfl) ?_;rintro _ w_7⟨rfl,hS⟩;refine⟨_,_,fun _ h=>h,hS.sel [true,false],sp rfl (qi rfl) (sp rfl (qa (o':=o+0) xr rfl xG rfl rfl rfl) ?_)⟩;have hS0:=hS;refine se rfl (jv 1 (c:=0) hS xG rfl ho rfl rfl (vs:=[.int .i64 _,.int .i64 _]) rfl rfl rfl (vB rfl) (row':=[_,_,_,_,_,_,_,_,_,_,_,_]) rfl) ?_;rintro _ w_8⟨rfl,hS⟩;refine⟨_,_,fun _ h=>h,hS.sel [true,false],sn (end0 results106  ?_)⟩;rw[e]; exact⟨rfl,hS.sel [false,true]⟩
 ·
  intro hc20;clear hu14 hn14 hu15 hn15 hu16 hn16 hu17 hn17 hu18 hn18 hu19 hn19;have e:tryS p k len c=p:=vG (by rw[hc20]; decide);refine vL (end0 results106  ?_);rw[e]; exact⟨rfl,hS.sel [false,true]⟩
end Go.Proofs.YtgkgihnpjgbmhaaGreatDoor
namespace Go.Proofs.YtgkgihnpjgbmhaaGreatDoor
open Tryz
open Go Go.RowKit Go.Inl
abbrev opV (x:OpL)(ad:Option Addr)(m cap:Nat):Value:=.agg #[.int .i64 x.kind,.int .i64 x.from_,.int .i64 x.len,.int .u8 x.b,.slice ad m cap]
def ofV (x:OpL)(v:Value):Value :=
 if x.kind=1 then .iface 157 v else if x.kind=2 then .iface 158 v else if x.kind=3 then .iface 159 v
 else if x.kind=4 then .iface 160 v else .iface 162 (.agg #[])
theorem inside_c (x : OpL) (ad : Option Addr) (m cap : Nat) (n : Int) (w0 : World) (I0 : Imm) (hI : Sat I0 w0) (hd : RBytes I0 (.slice ad m cap) x.data) (hx : x.wf) (hn : Mid n) :
 Ctr prog 177 [opV x ad m cap,.int .i64 n] w0 (fun v w'=>v = .bool (insideP x n)∧Ext w0 I0 w' I0):=by
 obtain⟨⟨k1,k2⟩,⟨f1,f2⟩,⟨l1,l2⟩,⟨b1,b2⟩,hdat⟩:=hx;obtain⟨n1,n2⟩:=hn;refine fn (n:=17) func177 rfl rfl rfl ?_;have hS:=St.start hI;refine QwR (qe (d_box (cs:=[.int .i64 _,.int .i64 _,.int .i64 _,.int .u8 _,.slice _ _ _]) hS rfl) ?_);clear hS;rintro _ w_1⟨b_1,rfl,hS⟩;refine qq hS (Qab rfl) (QoR (qq hS (qa (o':=1) vO rfl vF rfl rfl rfl) (qq hS (qd 0 vV rfl rfl rfl) (qq hS (g_geq rfl rfl) (qq hS (Qmb rfl) (qu rfl rfl hS (fun hg=>(qa (o':=1) vO rfl vF rfl rfl rfl)) ?_))))));intro u9 hu9 hn9;refine qu rfl rfl hS (fun hg=>(qd 0 vV rfl (hu9 hg) rfl)) ?_;intro u10 hu10 hn10;refine qu rfl rfl hS (fun hg=>(Qmi rfl)) ?_;intro u11 hu11 hn11;refine qu rfl rfl hS (fun hg=>(qa (o':=2) vO rfl vF rfl rfl rfl)) ?_;intro u12 hu12 hn12;refine qu rfl rfl hS (fun hg=>(qd 0 vV rfl (hu12 hg) rfl)) ?_;intro u13 hu13 hn13;refine qu rfl rfl hS (fun hg=>(g_sub (hu11 hg) (hu13 hg) (by omega) (by omega))) ?_;intro u14 hu14 hn14;refine qu rfl rfl hS (fun hg=>(g_leq (hu10 hg) (hu14 hg))) ?_;intro u15 hu15 hn15;refine qq hS (g_and rfl rfl (fun hq=>hu15 hq)) (qq hS (Qab rfl) (QoN (vM (ret1 results177 (qh (v:=.bool _) rfl) ?_))));exact⟨rfl,hS.nil⟩
theorem copying_right (x : OpL) (ad : Option Addr) (m cap : Nat) (n : Int) (w0 : World) (I0 : Imm) (hI : Sat I0 w0) (hd : RBytes I0 (.slice ad m cap) x.data) (hx : x.wf) (hn : Mid n) :
 Ctr prog 175 [opV x ad m cap,.int .i64 n] w0 (fun v w'=>v = .bool (insideP x n && decide (x.b=0) && decide ((x.data.length:Int)=0))∧Ext w0 I0 w' I0):=by
 refine fn (n:=19) func175 rfl rfl rfl ?_;have hS:=St.start hI;refine QwR (qe (d_box (cs:=[.int .i64 _,.int .i64 _,.int .i64 _,.int .u8 _,.slice _ _ _]) hS rfl) ?_);clear hS;rintro _ w_1⟨b_1,rfl,hS⟩;refine qq hS (Qab rfl) (QoR (qq hS (g_ldO 0 (vs:=[.int .i64 _,.int .i64 _,.int .i64 _,.int .u8 _,.slice _ _ _]) sizeOf157 isAgg157 rfl rfl rfl rfl) (qq hS (Qmi rfl) (qe (qg call177 rfl (inside_c x ad m cap n _ I0 hS.imm hd hx hn)) ?_))));rintro _ w_2⟨rfl,hE⟩;replace hS:=hS.callE hE;refine qq hS (Qmb rfl) (qu rfl rfl hS (fun hg=>(qa (o':=3) Qj rfl xd rfl rfl rfl)) ?_);intro u9 hu9 hn9;refine qu rfl rfl hS (fun hg=>(qd 0 xR rfl (hu9 hg) rfl)) ?_;intro u10 hu10 hn10;refine qu rfl rfl hS (fun hg=>(g_eql (hu10 hg) rfl)) ?_;intro u11 hu11 hn11;refine qq hS (g_and rfl rfl (fun hq=>hu11 hq)) (qq hS (Qmb rfl) (qu rfl rfl hS (fun hg=>(qa (o':=4) Qj rfl xj rfl rfl rfl)) ?_));intro u14 hu14 hn14;refine qu rfl rfl hS (fun hg=>(qd 0 ub rfl (hu14 hg) rfl)) ?_;intro u15 hu15 hn15;refine qu rfl rfl hS (fun hg=>(qo rfl vH hd (hu15 hg))) ?_;intro u16 hu16 hn16;refine qu rfl rfl hS (fun hg=>(g_eql (hu16 hg) rfl)) ?_;intro u17 hu17 hn17;refine qq hS (g_and rfl rfl (fun hq=>hu17 hq)) (qq hS (Qab rfl) (QoN (vM (ret1 results175 (qh (v:=.bool _) rfl) ?_))));exact⟨rfl,hS.nil⟩
theorem differing_right (x : OpL) (ad : Option Addr) (m cap : Nat) (n : Int) (w0 : World) (I0 : Imm) (hI : Sat I0 w0) (hd : RBytes I0 (.slice ad m cap) x.data) (hx : x.wf) (hn : Mid n) :
 Ctr prog 179 [opV x ad m cap,.int .i64 n] w0 (fun v w'=>v = .bool (insideP x n && decide (x.b=0) && decide ((x.data.length:Int)=x.len))∧Ext w0 I0 w' I0):=by
 refine fn (n:=21) func179 rfl rfl rfl ?_;have hS:=St.start hI;refine QwR (qe (d_box (cs:=[.int .i64 _,.int .i64 _,.int .i64 _,.int .u8 _,.slice _ _ _]) hS rfl) ?_);clear hS;rintro _ w_1⟨b_1,rfl,hS⟩;refine qq hS (Qab rfl) (QoR (qq hS (g_ldO 0 (vs:=[.int .i64 _,.int .i64 _,.int .i64 _,.int .u8 _,.slice _ _ _]) sizeOf158 isAgg158 rfl rfl rfl rfl) (qq hS (Qmi rfl) (qe (qg call177 rfl (inside_c x ad m cap n _ I0 hS.imm hd hx hn)) ?_))));rintro _ w_2⟨rfl,hE⟩;replace hS:=hS.callE hE;refine qq hS (Qmb rfl) (qu rfl rfl hS (fun hg=>(qa (o':=3) uO rfl xd rfl rfl rfl)) ?_);intro u9 hu9 hn9;refine qu rfl rfl hS (fun hg=>(qd 0 xR rfl (hu9 hg) rfl)) ?_;intro u10 hu10 hn10;refine qu rfl rfl hS (fun hg=>(g_eql (hu10 hg) rfl)) ?_;intro u11 hu11 hn11;refine qq hS (g_and rfl rfl (fun hq=>hu11 hq)) (qq hS (Qmb rfl) (qu rfl rfl hS (fun hg=>(qa (o':=4) uO rfl xj rfl rfl rfl)) ?_));intro u14 hu14 hn14;refine qu rfl rfl hS (fun hg=>(qd 0 ub rfl (hu14 hg) rfl)) ?_;intro u15 hu15 hn15;refine qu rfl rfl hS (fun hg=>(qo rfl vH hd (hu15 hg))) ?_;intro u16 hu16 hn16;refine qu rfl rfl hS (fun hg=>(qa (o':=2) uO rfl vF rfl rfl rfl)) ?_;intro u17 hu17 hn17;refine qu rfl rfl hS (fun hg=>(qd 0 vV rfl (hu17 hg) rfl)) ?_;intro u18 hu18 hn18;refine qu rfl rfl hS (fun hg=>(g_eql (hu16 hg) (hu18 hg))) ?_;intro u19 hu19 hn19;refine qq hS (g_and rfl rfl (fun hq=>hu19 hq)) (qq hS (Qab rfl) (QoN (vM (ret1 results179 (qh (v:=.bool _) rfl) ?_))));exact⟨rfl,hS.nil⟩
theorem running_right (x : OpL) (ad : Option Addr) (m cap : Nat) (n : Int) (w0 : World) (I0 : Imm) (hI : Sat I0 w0) (hd : RBytes I0 (.slice ad m cap) x.data) (hx : x.wf) (hn : Mid n) :
 Ctr prog 182 [opV x ad m cap,.int .i64 n] w0 (fun v w'=>v = .bool (decide (x.from_=0) && decide ((x.data.length:Int)=0))∧Ext w0 I0 w' I0):=by
 refine fn (n:=14) func182 rfl rfl rfl ?_;have hS:=St.start hI;refine QwR (qe (d_box (cs:=[.int .i64 _,.int .i64 _,.int .i64 _,.int .u8 _,.slice _ _ _]) hS rfl) ?_);clear hS;rintro _ w_1⟨b_1,rfl,hS⟩;refine qq hS (Qab rfl) (QoR (qq hS (qa (o':=1) Qk rfl vF rfl rfl rfl) (qq hS (qd 0 vV rfl rfl rfl) (qq hS (g_eql rfl rfl) (qq hS (Qmb rfl) (qu rfl rfl hS (fun hg=>(qa (o':=4) Qk rfl xj rfl rfl rfl)) ?_))))));intro u9 hu9 hn9;refine qu rfl rfl hS (fun hg=>(qd 0 ub rfl (hu9 hg) rfl)) ?_;intro u10 hu10 hn10;refine qu rfl rfl hS (fun hg=>(qo rfl vH hd (hu10 hg))) ?_;intro u11 hu11 hn11;refine qu rfl rfl hS (fun hg=>(g_eql (hu11 hg) rfl)) ?_;intro u12 hu12 hn12;refine qq hS (g_and rfl rfl (fun hq=>hu12 hq)) (qq hS (Qab rfl) (QoN (vM (ret1 results182 (qh (v:=.bool _) rfl) ?_))));exact⟨rfl,hS.nil⟩
theorem literal_right (x : OpL) (ad : Option Addr) (m cap : Nat) (n : Int) (w0 : World) (I0 : Imm) (hI : Sat I0 w0) (hd : RBytes I0 (.slice ad m cap) x.data) (hx : x.wf) (hn : Mid n) :
 Ctr prog 185 [opV x ad m cap,.int .i64 n] w0 (fun v w'=>v = .bool (decide (x.from_=0) && decide (x.b=0) && decide ((x.data.length:Int)=x.len))∧Ext w0 I0 w' I0):=by
 refine fn (n:=21) func185 rfl rfl rfl ?_;have hS:=St.start hI;refine QwR (qe (d_box (cs:=[.int .i64 _,.int .i64 _,.int .i64 _,.int .u8 _,.slice _ _ _]) hS rfl) ?_);clear hS;rintro _ w_1⟨b_1,rfl,hS⟩;refine qq hS (Qab rfl) (QoR (qq hS (qa (o':=1) uP rfl vF rfl rfl rfl) (qq hS (qd 0 vV rfl rfl rfl) (qq hS (g_eql rfl rfl) (qq hS (Qmb rfl) (qu rfl rfl hS (fun hg=>(qa (o':=3) uP rfl xd rfl rfl rfl)) ?_))))));intro u9 hu9 hn9;refine qu rfl rfl hS (fun hg=>(qd 0 xR rfl (hu9 hg) rfl)) ?_;intro u10 hu10 hn10;refine qu rfl rfl hS (fun hg=>(g_eql (hu10 hg) rfl)) ?_;intro u11 hu11 hn11;refine qq hS (g_and rfl rfl (fun hq=>hu11 hq)) (qq hS (Qmb rfl) (qu rfl rfl hS (fun hg=>(qa (o':=4) uP rfl xj rfl rfl rfl)) ?_));intro u14 hu14 hn14;refine qu rfl rfl hS (fun hg=>(qd 0 ub rfl (hu14 hg) rfl)) ?_;intro u15 hu15 hn15;refine qu rfl rfl hS (fun hg=>(qo rfl vH hd (hu15 hg))) ?_;intro u16 hu16 hn16;refine qu rfl rfl hS (fun hg=>(qa (o':=2) uP rfl vF rfl rfl rfl)) ?_;intro u17 hu17 hn17;refine qu rfl rfl hS (fun hg=>(qd 0 vV rfl (hu17 hg) rfl)) ?_;intro u18 hu18 hn18;refine qu rfl rfl hS (fun hg=>(g_eql (hu16 hg) (hu18 hg))) ?_;intro u19 hu19 hn19;refine qq hS (g_and rfl rfl (fun hq=>hu19 hq)) (qq hS (Qab rfl) (QoN (vM (ret1 results185 (qh (v:=.bool _) rfl) ?_))));exact⟨rfl,hS.nil⟩
theorem copying_symbol (x : OpL) (ad : Option Addr) (m cap : Nat) (n : Int) (w0 : World) (I0 : Imm) (hI : Sat I0 w0) (hd : RBytes I0 (.slice ad m cap) x.data) (hx : x.wf) (hn : Mid n) :
 Ctr prog 176 [opV x ad m cap,.int .i64 n] w0 (fun v w'=>v=symV ⟨true,x.from_+n,0⟩∧Ext w0 I0 w' I0):=by
 obtain⟨⟨k1,k2⟩,⟨f1,f2⟩,⟨l1,l2⟩,⟨b1,b2⟩,hdat⟩:=hx;obtain⟨n1,n2⟩:=hn;refine fn (n:=10) func176 rfl rfl rfl ?_;have hS:=St.start hI;refine QwR (qe (d_box (cs:=[.int .i64 _,.int .i64 _,.int .i64 _,.int .u8 _,.slice _ _ _]) hS rfl) ?_);clear hS;rintro _ w_1⟨b_1,rfl,hS⟩;refine qe (qv (cs:=[.bool _,.int .i64 _,.int .u8 _]) hS xU rfl) ?_;clear hS;rintro _ w_2⟨b_2,rfl,hS⟩;refine QoR (qq hS (qa (o':=1) Qj rfl vF rfl rfl rfl) (qq hS (qd 1 vV rfl rfl rfl) (qq hS (Qmi rfl) (qq hS (g_add rfl rfl (by omega) (by omega)) (qq hS (qt (pl:=[(0,1),(1,1),(2,1)]) (cs:=[.bool _,.int .i64 _,.int .u8 _]) xU xe (fun w=>by simp[vF,xE,xd]) (mp (v:=.bool _) rfl (mp (v:=.int .i64 _) rfl mp0)) rfl) ?_)))));refine qe (qf 0 hS xt rfl rfl rfl (vs:=[.bool _,.int .i64 _,.int .u8 _]) rfl rfl rfl (vB rfl) (cs':=[_,_,_]) rfl) ?_;clear hS;rintro _ w_3⟨rfl,hS⟩;refine QoN (vM (ret1 results176 (qD 0 hS xt ud rfl rfl rfl) ?_));exact⟨rfl,hS.nil⟩
theorem differing_symbol (x : OpL) (ad : Option Addr) (m cap : Nat) (n : Int) (w0 : World) (I0 : Imm) (hI : Sat I0 w0) (hd : RBytes I0 (.slice ad m cap) x.data) (hx : x.wf) (hn : Mid n) (h0 : 0 ≤ n) (h1 : n < x.data.length) :
 Ctr prog 180 [opV x ad m cap,.int .i64 n] w0 (fun v w'=>v=symV ⟨true,x.from_+n,x.data.getD n.toNat 0⟩∧Ext w0 I0 w' I0):=by
 obtain⟨⟨k1,k2⟩,⟨f1,f2⟩,⟨l1,l2⟩,⟨b1,b2⟩,hdat⟩:=hx;obtain⟨n1,n2⟩:=hn;obtain⟨y,hy⟩:∃y,x.data[n.toNat]? = some y:=⟨_,vC (by omega)⟩
 have hya:=hd.at hy;have hyd:x.data.getD n.toNat 0=y:=by rw[vQ,hy]; rfl
 rw[hyd];refine fn (n:=15) func180 rfl rfl rfl ?_;have hS:=St.start hI;refine QwR (qe (d_box (cs:=[.int .i64 _,.int .i64 _,.int .i64 _,.int .u8 _,.slice _ _ _]) hS rfl) ?_);clear hS;rintro _ w_1⟨b_1,rfl,hS⟩;refine qe (qv (cs:=[.bool _,.int .i64 _,.int .u8 _]) hS xU rfl) ?_;clear hS;rintro _ w_2⟨b_2,rfl,hS⟩;refine QoN (vD (draw (.cons 0 .pure (.cons 1 .held (.cons 2 .pure (.cons 3 .pure (.cons 4 .pure (.cons 5 .held (.cons 6 .pure (.cons 7 .pure (.cons 8 .held (.cons 9 .pure (.cons 10 .bar .nil))))))))))) mixed (by kernel_rfl) hS ?_));intro w_3 hS;refine sp rfl (qa (o':=1) uO rfl vF rfl rfl rfl) (sh rfl (qd 1 vV rfl rfl rfl) (sp rfl (Qmi rfl) (sp rfl (g_add rfl rfl (by omega) (by omega)) (sp rfl (qa (o':=4) uO rfl xj rfl rfl rfl) (sh rfl (qd 1 ub rfl rfl rfl) (sp rfl (Qmi rfl) (sp rfl (g_ixI vH xd hd rfl rfl (by omega) (by omega)) (sh rfl (qJ xR hya rfl rfl) ?_))))))));refine sp rfl (qt (pl:=[(0,1),(1,1),(2,1)]) (cs:=[.bool _,.int .i64 _,.int .u8 _]) xU xe (fun w=>by simp[vF,xE,xd]) (mp (v:=.bool _) rfl (mp (v:=.int .i64 _) rfl (mp (v:=.int .u8 _) rfl mp0))) rfl) (sb rfl (qf 0 hS xt rfl rfl rfl (vs:=[.bool _,.int .i64 _,.int .u8 _]) rfl rfl rfl (vB rfl) (cs':=[_,_,_]) rfl) ?_);rintro _ w_4⟨rfl,hS⟩;refine⟨_,_,hS,sn (vK (vM (ret1 results180 (qD 0 hS xt ud rfl rfl rfl) ?_)))⟩;exact⟨rfl,hS.nil⟩
theorem running_symbol (x : OpL) (ad : Option Addr) (m cap : Nat) (n : Int) (w0 : World) (I0 : Imm) (hI : Sat I0 w0) (hd : RBytes I0 (.slice ad m cap) x.data) (hx : x.wf) (hn : Mid n) :
 Ctr prog 183 [opV x ad m cap,.int .i64 n] w0 (fun v w'=>v=symV ⟨false,0,x.b⟩∧Ext w0 I0 w' I0):=by
 obtain⟨⟨k1,k2⟩,⟨f1,f2⟩,⟨l1,l2⟩,⟨b1,b2⟩,hdat⟩:=hx;obtain⟨n1,n2⟩:=hn;refine fn (n:=8) func183 rfl rfl rfl ?_;have hS:=St.start hI;refine QwR (qe (d_box (cs:=[.int .i64 _,.int .i64 _,.int .i64 _,.int .u8 _,.slice _ _ _]) hS rfl) ?_);clear hS;rintro _ w_1⟨b_1,rfl,hS⟩;refine qe (qv (cs:=[.bool _,.int .i64 _,.int .u8 _]) hS xU rfl) ?_;clear hS;rintro _ w_2⟨b_2,rfl,hS⟩;refine QoR (qq hS (qa (o':=3) Qk rfl xd rfl rfl rfl) (qq hS (qd 1 xR rfl rfl rfl) (qq hS (qt (pl:=[(0,1),(1,1),(2,1)]) (cs:=[.bool _,.int .i64 _,.int .u8 _]) xU xe (fun w=>by simp[vF,xE,xd]) (mp (v:=.int .u8 _) rfl mp0) rfl) (qe (qf 0 hS xt rfl rfl rfl (vs:=[.bool _,.int .i64 _,.int .u8 _]) rfl rfl rfl (vB rfl) (cs':=[_,_,_]) rfl) ?_))));clear hS;rintro _ w_3⟨rfl,hS⟩;refine QoN (vM (ret1 results183 (qD 0 hS xt ud rfl rfl rfl) ?_));exact⟨rfl,hS.nil⟩
theorem literal_symbol (x : OpL) (ad : Option Addr) (m cap : Nat) (n : Int) (w0 : World) (I0 : Imm) (hI : Sat I0 w0) (hd : RBytes I0 (.slice ad m cap) x.data) (hx : x.wf) (hn : Mid n) (h0 : 0 ≤ n) (h1 : n < x.data.length) :
 Ctr prog 186 [opV x ad m cap,.int .i64 n] w0 (fun v w'=>v=symV ⟨false,0,x.data.getD n.toNat 0⟩∧Ext w0 I0 w' I0):=by
 obtain⟨⟨k1,k2⟩,⟨f1,f2⟩,⟨l1,l2⟩,⟨b1,b2⟩,hdat⟩:=hx;obtain⟨n1,n2⟩:=hn;obtain⟨y,hy⟩:∃y,x.data[n.toNat]? = some y:=⟨_,vC (by omega)⟩
 have hya:=hd.at hy;have hyd:x.data.getD n.toNat 0=y:=by rw[vQ,hy]; rfl
 rw[hyd];refine fn (n:=11) func186 rfl rfl rfl ?_;have hS:=St.start hI;refine QwR (qe (d_box (cs:=[.int .i64 _,.int .i64 _,.int .i64 _,.int .u8 _,.slice _ _ _]) hS rfl) ?_);clear hS;rintro _ w_1⟨b_1,rfl,hS⟩;refine qe (qv (cs:=[.bool _,.int .i64 _,.int .u8 _]) hS xU rfl) ?_;clear hS;rintro _ w_2⟨b_2,rfl,hS⟩;refine QoR (qq hS (qa (o':=4) uP rfl xj rfl rfl rfl) (qq hS (qd 1 ub rfl rfl rfl) (qq hS (Qmi rfl) (qq hS (g_ixI vH xd hd rfl rfl (by omega) (by omega)) (qq hS (qJ xR hya rfl rfl) (qq hS (qt (pl:=[(0,1),(1,1),(2,1)]) (cs:=[.bool _,.int .i64 _,.int .u8 _]) xU xe (fun w=>by simp[vF,xE,xd]) (mp (v:=.int .u8 _) rfl mp0) rfl) ?_))))));refine qe (qf 0 hS xt rfl rfl rfl (vs:=[.bool _,.int .i64 _,.int .u8 _]) rfl rfl rfl (vB rfl) (cs':=[_,_,_]) rfl) ?_;clear hS;rintro _ w_3⟨rfl,hS⟩;refine QoN (vM (ret1 results186 (qD 0 hS xt ud rfl rfl rfl) ?_));exact⟨rfl,hS.nil⟩
theorem copying_cost (x : OpL) (ad : Option Addr) (m cap : Nat) (w0 : World) (I0 : Imm) (hI : Sat I0 w0) (hd : RBytes I0 (.slice ad m cap) x.data) (hx : x.wf) :
 Ctr prog 174 [opV x ad m cap] w0 (fun v w'=>v = .int .i64 (4)∧Ext w0 I0 w' I0):=by
 obtain⟨⟨k1,k2⟩,⟨f1,f2⟩,⟨l1,l2⟩,⟨b1,b2⟩,hdat⟩:=hx;refine fn (n:=3) func174 rfl rfl rfl ?_;have hS:=St.start hI;refine QwR (qe (d_box (cs:=[.int .i64 _,.int .i64 _,.int .i64 _,.int .u8 _,.slice _ _ _]) hS rfl) ?_);clear hS;rintro _ w_1⟨b_1,rfl,hS⟩;refine qq hS (Qai rfl) (QoR (qq hS (Qai rfl) (QoN (vM (ret1 results174 (qh (v:=.int .i64 _) rfl) ?_)))));exact⟨rfl,hS.nil⟩
theorem differing_cost (x : OpL) (ad : Option Addr) (m cap : Nat) (w0 : World) (I0 : Imm) (hI : Sat I0 w0) (hd : RBytes I0 (.slice ad m cap) x.data) (hx : x.wf) :
 Ctr prog 178 [opV x ad m cap] w0 (fun v w'=>v = .int .i64 (4+x.len)∧Ext w0 I0 w' I0):=by
 obtain⟨⟨k1,k2⟩,⟨f1,f2⟩,⟨l1,l2⟩,⟨b1,b2⟩,hdat⟩:=hx;refine fn (n:=6) func178 rfl rfl rfl ?_;have hS:=St.start hI;refine QwR (qe (d_box (cs:=[.int .i64 _,.int .i64 _,.int .i64 _,.int .u8 _,.slice _ _ _]) hS rfl) ?_);clear hS;rintro _ w_1⟨b_1,rfl,hS⟩;refine qq hS (Qai rfl) (QoR (qq hS (qa (o':=2) uO rfl vF rfl rfl rfl) (qq hS (qd 0 vV rfl rfl rfl) (qq hS (g_add rfl rfl (by omega) (by omega)) (qq hS (Qai rfl) (QoN (vM (ret1 results178 (qh (v:=.int .i64 _) rfl) ?_))))))));exact⟨rfl,hS.nil⟩
theorem running_cost (x : OpL) (ad : Option Addr) (m cap : Nat) (w0 : World) (I0 : Imm) (hI : Sat I0 w0) (hd : RBytes I0 (.slice ad m cap) x.data) (hx : x.wf) :
 Ctr prog 181 [opV x ad m cap] w0 (fun v w'=>v = .int .i64 (4)∧Ext w0 I0 w' I0):=by
 obtain⟨⟨k1,k2⟩,⟨f1,f2⟩,⟨l1,l2⟩,⟨b1,b2⟩,hdat⟩:=hx;refine fn (n:=3) func181 rfl rfl rfl ?_;have hS:=St.start hI;refine QwR (qe (d_box (cs:=[.int .i64 _,.int .i64 _,.int .i64 _,.int .u8 _,.slice _ _ _]) hS rfl) ?_);clear hS;rintro _ w_1⟨b_1,rfl,hS⟩;refine qq hS (Qai rfl) (QoR (qq hS (Qai rfl) (QoN (vM (ret1 results181 (qh (v:=.int .i64 _) rfl) ?_)))));exact⟨rfl,hS.nil⟩
theorem literal_cost (x : OpL) (ad : Option Addr) (m cap : Nat) (w0 : World) (I0 : Imm) (hI : Sat I0 w0) (hd : RBytes I0 (.slice ad m cap) x.data) (hx : x.wf) :
 Ctr prog 184 [opV x ad m cap] w0 (fun v w'=>v = .int .i64 (2+x.len)∧Ext w0 I0 w' I0):=by
 obtain⟨⟨k1,k2⟩,⟨f1,f2⟩,⟨l1,l2⟩,⟨b1,b2⟩,hdat⟩:=hx;refine fn (n:=6) func184 rfl rfl rfl ?_;have hS:=St.start hI;refine QwR (qe (d_box (cs:=[.int .i64 _,.int .i64 _,.int .i64 _,.int .u8 _,.slice _ _ _]) hS rfl) ?_);clear hS;rintro _ w_1⟨b_1,rfl,hS⟩;refine qq hS (Qai rfl) (QoR (qq hS (qa (o':=2) uP rfl vF rfl rfl rfl) (qq hS (qd 0 vV rfl rfl rfl) (qq hS (g_add rfl rfl (by omega) (by omega)) (qq hS (Qai rfl) (QoN (vM (ret1 results184 (qh (v:=.int .i64 _) rfl) ?_))))))));exact⟨rfl,hS.nil⟩
theorem unknown_right (n:Int)(w0:World)(I0:Imm)(hI:Sat I0 w0):Ctr prog 188 [.agg #[],.int .i64 n] w0 (fun v w'=>v = .bool false∧Ext w0 I0 w' I0):=by
 refine fn (n:=5) func188 rfl rfl rfl ?_;have hS:=St.start hI;refine QwR (qe (d_box (cs:=[]) hS rfl) ?_);clear hS;rintro _ w_1⟨b_1,rfl,hS⟩;refine qq hS (Qab rfl) (QoR (qq hS (Qab rfl) (QoN (vM (ret1 results188 (qh (v:=.bool _) rfl) ?_)))));exact⟨rfl,hS.nil⟩
theorem unknown_cost (w0:World)(I0:Imm)(hI:Sat I0 w0):Ctr prog 187 [.agg #[]] w0 (fun v w'=>v = .int .i64 0∧Ext w0 I0 w' I0):=by
 refine fn (n:=3) func187 rfl rfl rfl ?_;have hS:=St.start hI;refine QwR (qe (d_box (cs:=[]) hS rfl) ?_);clear hS;rintro _ w_1⟨b_1,rfl,hS⟩;refine qq hS (Qai rfl) (QoR (qq hS (Qai rfl) (QoN (vM (ret1 results187 (qh (v:=.int .i64 _) rfl) ?_)))));exact⟨rfl,hS.nil⟩
theorem of_c (x : OpL) (ad : Option Addr) (m cap : Nat) (w0 : World) (I0 : Imm) (hI : Sat I0 w0) (hd : RBytes I0 (.slice ad m cap) x.data) (hx : x.wf) :
 Ctr prog 37 [opV x ad m cap] w0 (fun v w'=>v=ofV x (opV x ad m cap)∧Ext w0 I0 w' I0):=by
 refine fn (n:=23) func37 rfl rfl rfl ?_;have hS:=St.start hI;refine QwR (qe (d_box (cs:=[.int .i64 _,.int .i64 _,.int .i64 _,.int .u8 _,.slice _ _ _]) hS rfl) ?_);clear hS;rintro _ w_1⟨b_1,rfl,hS⟩;refine qq hS (qc _) (QoN (vD (QwR (qq hS (qa (o':=0) vO rfl vF rfl rfl rfl) (qq hS (qd 0 vV rfl rfl rfl) (QoN (vS (QwR (qq hS (g_eql rfl rfl) (qq hS (Qab rfl) (QoN (qj rfl ?_ ?_))))))))))))
 ·
  intro hc5;simp only[vU,vW]at hc5;refine QwR (qq hS (g_ldO 0 (vs:=[.int .i64 _,.int .i64 _,.int .i64 _,.int .u8 _,.slice _ _ _]) xb xJ rfl rfl rfl rfl) (qq hS (jt Qj rfl) (qq hS (qc _) (QoN (vM (uJ (xF (ret1 Qo (qh rfl) ?_))))))));refine⟨?_,hS.nil⟩; unfold ofV; first | (rw[vJ hc5]; rfl) | (rw[vG hc5,vJ hc9]; rfl) | (rw[vG hc5,vG hc9,vJ hc13]; rfl) | (rw[vG hc5,vG hc9,vG hc13,vJ hc17]; rfl) | (rw[vG hc5,vG hc9,vG hc13,vG hc17]; rfl)
 ·
  intro hc5;simp only[vU,vW]at hc5;refine QwR (qq hS (g_eql rfl rfl) (qq hS (Qab rfl) (QoN (qj rfl ?_ ?_))))
  ·
   intro hc9;simp only[vU,vW]at hc9;refine QwR (qq hS (g_ldO 0 (vs:=[.int .i64 _,.int .i64 _,.int .i64 _,.int .u8 _,.slice _ _ _]) xb xJ rfl rfl rfl rfl) (qq hS (jt uO rfl) (qq hS (qc _) (QoN (vM (uJ (xF (ret1 Qo (qh rfl) ?_))))))));refine⟨?_,hS.nil⟩; unfold ofV; first | (rw[vJ hc5]; rfl) | (rw[vG hc5,vJ hc9]; rfl) | (rw[vG hc5,vG hc9,vJ hc13]; rfl) | (rw[vG hc5,vG hc9,vG hc13,vJ hc17]; rfl) | (rw[vG hc5,vG hc9,vG hc13,vG hc17]; rfl)
  ·
   intro hc9;simp only[vU,vW]at hc9;refine QwR (qq hS (g_eql rfl rfl) (qq hS (Qab rfl) (QoN (qj rfl ?_ ?_))))
   ·
    intro hc13;simp only[vU,vW]at hc13;refine QwR (qq hS (g_ldO 0 (vs:=[.int .i64 _,.int .i64 _,.int .i64 _,.int .u8 _,.slice _ _ _]) xb xJ rfl rfl rfl rfl) (qq hS (jt Qk rfl) (qq hS (qc _) (QoN (vM (uJ (xF (ret1 Qo (qh rfl) ?_))))))));refine⟨?_,hS.nil⟩; unfold ofV; first | (rw[vJ hc5]; rfl) | (rw[vG hc5,vJ hc9]; rfl) | (rw[vG hc5,vG hc9,vJ hc13]; rfl) | (rw[vG hc5,vG hc9,vG hc13,vJ hc17]; rfl) | (rw[vG hc5,vG hc9,vG hc13,vG hc17]; rfl)
   ·
    intro hc13;simp only[vU,vW]at hc13;refine QwR (qq hS (g_eql rfl rfl) (qq hS (Qab rfl) (QoN (qj rfl ?_ ?_))))
    ·
     intro hc17;simp only[vU,vW]at hc17;refine QwR (qq hS (g_ldO 0 (vs:=[.int .i64 _,.int .i64 _,.int .i64 _,.int .u8 _,.slice _ _ _]) xb xJ rfl rfl rfl rfl) (qq hS (jt uP rfl) (qq hS (qc _) (QoN (vM (uJ (xF (ret1 Qo (qh rfl) ?_))))))));refine⟨?_,hS.nil⟩; unfold ofV; first | (rw[vJ hc5]; rfl) | (rw[vG hc5,vJ hc9]; rfl) | (rw[vG hc5,vG hc9,vJ hc13]; rfl) | (rw[vG hc5,vG hc9,vG hc13,vJ hc17]; rfl) | (rw[vG hc5,vG hc9,vG hc13,vG hc17]; rfl)
    ·
     intro hc17;simp only[vU,vW]at hc17;refine vL (xO (vK (QwR (qq hS (qt (pl:=[]) (cs:=[]) zeroValue162 underlying162 (fun w=>by simp[]) mp0 rfl) (qq hS (jt underlying162 rfl) (qq hS (qc _) (QoN (vM (ret1 Qo (qh rfl) ?_)))))))));refine⟨?_,hS.nil⟩; unfold ofV; first | (rw[vJ hc5]; rfl) | (rw[vG hc5,vJ hc9]; rfl) | (rw[vG hc5,vG hc9,vJ hc13]; rfl) | (rw[vG hc5,vG hc9,vG hc13,vJ hc17]; rfl) | (rw[vG hc5,vG hc9,vG hc13,vG hc17]; rfl)
end Go.Proofs.YtgkgihnpjgbmhaaGreatDoor
namespace Go.Proofs.YtgkgihnpjgbmhaaGreatDoor
open Tryz
open Go Go.RowKit Go.Inl
theorem m_copying_right (v : Value) (w : World) : (method (prog.types.size + Made.depth) 157 v "inlay/patch.right").run prog w = .ok (175, v) w := by kernel_rfl
theorem m_differing_right (v : Value) (w : World) : (method (prog.types.size + Made.depth) 158 v "inlay/patch.right").run prog w = .ok (179, v) w := by kernel_rfl
theorem m_running_right (v : Value) (w : World) : (method (prog.types.size + Made.depth) 159 v "inlay/patch.right").run prog w = .ok (182, v) w := by kernel_rfl
theorem m_literal_right (v : Value) (w : World) : (method (prog.types.size + Made.depth) 160 v "inlay/patch.right").run prog w = .ok (185, v) w := by kernel_rfl
theorem m_unknownOne_right (v : Value) (w : World) : (method (prog.types.size + Made.depth) 162 v "inlay/patch.right").run prog w = .ok (188, v) w := by kernel_rfl
theorem m_copying_symbol (v : Value) (w : World) : (method (prog.types.size + Made.depth) 157 v "inlay/patch.symbol").run prog w = .ok (176, v) w := by kernel_rfl
theorem m_differing_symbol (v : Value) (w : World) : (method (prog.types.size + Made.depth) 158 v "inlay/patch.symbol").run prog w = .ok (180, v) w := by kernel_rfl
theorem m_running_symbol (v : Value) (w : World) : (method (prog.types.size + Made.depth) 159 v "inlay/patch.symbol").run prog w = .ok (183, v) w := by kernel_rfl
theorem m_literal_symbol (v : Value) (w : World) : (method (prog.types.size + Made.depth) 160 v "inlay/patch.symbol").run prog w = .ok (186, v) w := by kernel_rfl
theorem does_right {n : Nat} {σ : Nat → Value} {ty : TypeId} {aT : Array TypeId} {r y : Operand} {w : World} {I : Imm} (x : OpL) (ad : Option Addr) (m cap : Nat) (size : Int) (hI : Sat I w) (hd : RBytes I (.slice ad m cap) x.data) (hx : x.wf) (hn : Mid size) (hr : ev n σ r = ofV x (opV x ad m cap)) (hy : ev n σ y = .int .i64 size) :
 Does prog (ev n σ) (.call { callee := .invoke r "inlay/patch.right", args := [y].toArray, argTypes := aT }) ty w (fun v w' => v = .bool (rightP x size) ∧ Ext w I w' I) := by
 unfold ofV at hr;unfold rightP;have ha:List.map (ev n σ) [y]=[.int .i64 size]:=ml hy ml0;by_cases h1:x.kind=1
 · rw [vJ h1] at hr ⊢
   exact qP hr (m_copying_right _) call175 ha (copying_right x ad m cap size w I hI hd hx hn)
 rw[vG h1]at hr ⊢;by_cases h2:x.kind=2
 · rw [vJ h2] at hr ⊢
   exact qP hr (m_differing_right _) call179 ha (differing_right x ad m cap size w I hI hd hx hn)
 rw[vG h2]at hr ⊢;by_cases h3:x.kind=3
 · rw [vJ h3] at hr ⊢
   exact qP hr (m_running_right _) call182 ha (running_right x ad m cap size w I hI hd hx hn)
 rw[vG h3]at hr ⊢;by_cases h4:x.kind=4
 · rw [vJ h4] at hr ⊢
   exact qP hr (m_literal_right _) call185 ha (literal_right x ad m cap size w I hI hd hx hn)
 rw[vG h4]at hr ⊢;exact qP hr (m_unknownOne_right _) call188 ha (unknown_right size w I hI)
theorem does_symbol {n : Nat} {σ : Nat → Value} {ty : TypeId} {aT : Array TypeId} {r y : Operand} {w : World} {I : Imm} (x : OpL) (ad : Option Addr) (m cap : Nat) (i : Int) (hI : Sat I w) (hd : RBytes I (.slice ad m cap) x.data) (hx : x.wf) (hn : Mid i) (h0 : 0 ≤ i) (hlt : i < x.len) {size : Int} (hok : rightP x size = true) (hr : ev n σ r = ofV x (opV x ad m cap)) (hy : ev n σ y = .int .i64 i) :
 Does prog (ev n σ) (.call { callee := .invoke r "inlay/patch.symbol", args := [y].toArray, argTypes := aT }) ty w (fun v w' => v = symV (symS x i) ∧ Ext w I w' I) := by
 unfold ofV at hr;unfold symS;unfold rightP at hok;have ha:List.map (ev n σ) [y]=[.int .i64 i]:=ml hy ml0;by_cases h1:x.kind=1
 · rw [vJ h1] at hr ⊢
   exact qP hr (m_copying_symbol _) call176 ha (copying_symbol x ad m cap i w I hI hd hx hn)
 rw[vG h1]at hr hok ⊢;by_cases h2:x.kind=2
 · rw [vJ h2] at hr hok ⊢
   simp only[xf,vU]at hok;exact qP hr (m_differing_symbol _) call180 ha (differing_symbol x ad m cap i w I hI hd hx hn h0 (by omega))
 rw[vG h2]at hr hok ⊢;by_cases h3:x.kind=3
 · rw [vJ h3] at hr ⊢
   exact qP hr (m_running_symbol _) call183 ha (running_symbol x ad m cap i w I hI hd hx hn)
 rw[vG h3]at hr hok ⊢;by_cases h4:x.kind=4
 · rw [vJ h4] at hr hok ⊢
   simp only[xf,vU]at hok;exact qP hr (m_literal_symbol _) call186 ha (literal_symbol x ad m cap i w I hI hd hx hn h0 (by omega))
 rw[vG h4]at hok;cases hok
set_option maxHeartbeats 1000000 in
theorem check_c (p : PatL) (ad : Option Addr) (m cap : Nat) (w0 : World) (I0 : Imm) (hI : Sat I0 w0) (hops : ROps I0 (.slice ad m cap) p.ops) (hp : p.wf) :
 Ctr prog 44 [.agg #[.bool p.lifted,.int .i64 p.in_,.int .i64 p.out,.slice ad m cap]] w0 (fun v w'=>v = .tuple #[.int .i64 (checkP p).1,.int .i64 (checkP p).2]∧Ext w0 I0 w' I0):=by
 refine fn (n:=68) func44 rfl rfl rfl ?_;have hS:=St.start hI;refine QwR (qe (d_box (cs:=[.bool _,.int .i64 _,.int .i64 _,.slice _ _ _]) hS rfl) ?_);clear hS;rintro _ w_1⟨b1,rfl,hS⟩;refine qq hS (Qai rfl) (qq hS (Qai rfl) (QoN (vD (QwR (qq hS (qa (o':=1) vT rfl vF rfl rfl rfl) (qq hS (qd 0 vV rfl rfl rfl) (qq hS (qa (o':=2) vT rfl vF rfl rfl rfl) (qq hS (qd 0 vV rfl rfl rfl) (qq hS (g_min rfl rfl) (qq hS (g_lss rfl rfl) (qq hS (Qmb rfl) (qu rfl rfl hS (fun hg=>(qa (o':=1) vT rfl vF rfl rfl rfl)) ?_))))))))))));intro u14 hu14 hn14;refine qu rfl rfl hS (fun hg=>(qd 0 vV rfl (hu14 hg) rfl)) ?_;intro u15 hu15 hn15;refine qu rfl rfl hS (fun hg=>(qa (o':=2) vT rfl vF rfl rfl rfl)) ?_;intro u16 hu16 hn16;refine qu rfl rfl hS (fun hg=>(qd 0 vV rfl (hu16 hg) rfl)) ?_;intro u17 hu17 hn17;refine qu rfl rfl hS (fun hg=>(g_max (hu15 hg) (hu17 hg))) ?_;intro u18 hu18 hn18;refine qu rfl rfl hS (fun hg=>(g_gtr (hu18 hg) rfl)) ?_;intro u19 hu19 hn19;refine qq hS (g_or rfl rfl (fun hq=>hu19 hq)) (qq hS (Qmb rfl) (qu rfl rfl hS (fun hg=>(qa (o':=3) vT rfl xD rfl rfl rfl)) ?_));intro u22 hu22 hn22;refine qu rfl rfl hS (fun hg=>(qd 0 um rfl (hu22 hg) rfl)) ?_;intro u23 hu23 hn23;refine qu rfl rfl hS (fun hg=>(qo rfl xz hops (hu23 hg))) ?_;intro u24 hu24 hn24;refine qu rfl rfl hS (fun hg=>(g_gtr (hu24 hg) rfl)) ?_;intro u25 hu25 hn25;refine qq hS (g_or rfl rfl (fun hq=>hu25 hq)) (QoN (qj rfl ?_ ?_))
 ·
  intro hc26;clear hu14 hn14 hu15 hn15 hu16 hn16 hu17 hn17 hu18 hn18 hu19 hn19 hu22 hn22 hu23 hn23 hu24 hn24 hu25 hn25;have e:checkP p=(-1,60):=by unfold checkP; rw[vJ]; exact hc26
  refine QwR (qq hS (Qai rfl) (qq hS (Qai rfl) (QoN (vM (xF (ret2 results44 (qh (v:=.int .i64 _) rfl) (qh (v:=.int .i64 _) rfl) ?_))))));rw[e]; exact⟨rfl,hS.nil⟩
 ·
  intro hc26;clear hu14 hn14 hu15 hn15 hu16 hn16 hu17 hn17 hu18 hn18 hu19 hn19 hu22 hn22 hu23 hn23 hu24 hn24 hu25 hn25;have hbad:badP p=false:=hc26;have e0:checkP p=checkGo p.in_ p.ops p.out 0:=by unfold checkP; rw[vG (by rw[hbad]; decide)]
  have hb:=hbad;simp only[badP,ue,vW]at hb;obtain⟨⟨hb1,hb2⟩,hb3⟩:=hb;have hb4:0≤p.in_∧0≤p.out∧p.in_≤65536∧p.out≤65536:=by split at hb1 <;> split at hb2 <;> omega
  obtain⟨hb5,hb6,hb7,hb8⟩:=hb4;refine vL (vK (QwR (qq hS (qa (o':=2) vT rfl vF rfl rfl rfl) (qq hS (qd 0 vV rfl rfl rfl) (qq hS (Qai rfl) (QoN (vD (QwR (qq hS (qa (o':=3) vT rfl xD rfl rfl rfl) (qq hS (qd 0 um rfl rfl rfl) (qq hS (qo rfl xz hops rfl) (qq hS (Qmi rfl) (QoN (vS (loop (fun(x:Nat×Int) σ w=>okS σ [(1,.pointer (some ⟨b1,0,none⟩)),(4,.int .i64 x.2),(30,.slice ad m cap),(31,.int .i64 p.ops.length),(32,.int .i64 x.1)]∧St [] w0 I0 I0 w [.cel b1 26 [.bool p.lifted,.int .i64 p.in_,.int .i64 p.out,.slice ad m cap]]∧x.1≤p.ops.length∧0≤x.2∧x.2≤65536∧checkGo p.in_ (p.ops.drop x.1) x.2 x.1=checkGo p.in_ p.ops p.out 0) (fun x=>p.ops.length - x.1) ((0,p.out)) ?_ ?_)))))))))))))))
  ·
   exact⟨⟨rfl,rfl,rfl,rfl,rfl,trivial⟩,hS.sel [true],by simp,hb6,hb8,rfl⟩
  ·
   rintro⟨k,left⟩σ w_l⟨hs,hS,hk0,hl0,hl1,hgo⟩;dsimp only at hs hS hk0 hl0 hl1 hgo ⊢;rw[← qk hs]; clear hs
   refine QwR (qq hS (g_lss rfl rfl) (QoN (vD (qj rfl ?_ ?_))))
   ·
    intro hc33
    try simp only[zA,zO,zN,zI,zF,zM,zT,zU]at hc33
    obtain⟨x,hx⟩:∃x,p.ops[k]? = some x:=⟨_,vC (by omega)⟩
    have hxw:=hp.ops x (vI hx);obtain⟨lx1,lx2⟩:=hxw.len;obtain⟨cs,hcl,hoA,hro⟩:=RSl.at hops hx;obtain⟨adx,mx,capx,rfl,hd⟩:=hro;rw[jT hx]at hgo;refine vL (vK (vD (vS (QwR (qq hS (Qmi rfl) (qq hS (g_ixI xz xb hops rfl rfl (by omega) (by omega)) (qq hS (g_ldE (us:=[.int .i64 _,.int .i64 _,.int .i64 _,.int .u8 _,.slice _ _ _]) xb xJ hoA rfl rfl rfl) (qe (qv (cs:=[.int .i64 _,.int .i64 _,.int .i64 _,.int .u8 _,.slice _ _ _]) hS xY rfl) ?_))))))));clear hS;rintro _ w_2⟨b_2,rfl,hS⟩;refine qq hS (Qai rfl) (qe (qf 0 hS xb rfl rfl rfl (vs:=[.int .i64 _,.int .i64 _,.int .i64 _,.int .u8 _,.slice _ _ _]) rfl rfl rfl (vB rfl) (cs':=[_,_,_,_,_]) rfl) ?_);clear hS;rintro _ w_3⟨rfl,hS⟩;refine QoN (vD (vD (draw (.cons 0 .pure (.cons 1 .held (.cons 2 .pure (.cons 3 .pure (.cons 4 .pure (.cons 5 .held (.cons 6 .pure (.cons 7 .pure (.cons 8 .pure (.cons 9 .pure (.cons 10 .held (.cons 12 .pure (.cons 13 .held (.cons 11 .eff (.cons 14 .eff (.cons 15 .pure (.cons 16 .pure .nil))))))))))))))))) mixed (by kernel_rfl) hS ?_)));intro w_4 hS;refine sp rfl (qa (o':=2) vO rfl vF rfl rfl rfl) (sh rfl (qd 0 vV rfl rfl rfl) (sp rfl (g_lss rfl rfl) (sp rfl (Qmb rfl) (spu rfl rfl rfl (fun hg=>(qa (o':=2) vO rfl vF rfl rfl rfl)) ?_))));intro u41 hu41 hn41;refine shu rfl rfl rfl (fun hg=>(qd 0 vV rfl (hu41 hg) rfl)) ?_;intro u42 hu42 hn42;refine spu rfl rfl rfl (fun hg=>(Qmi rfl)) ?_;intro u43 hu43 hn43;refine spu rfl rfl rfl (fun hg=>(g_gtr (hu42 hg) (hu43 hg))) ?_;intro u44 hu44 hn44;refine sp rfl (g_or rfl rfl (fun hq=>hu44 hq)) (sp rfl (Qmb rfl) (shu rfl rfl rfl (fun hg=>(g_ldO 0 (vs:=[.int .i64 _,.int .i64 _,.int .i64 _,.int .u8 _,.slice _ _ _]) xb xJ rfl rfl rfl rfl)) ?_))
    intro u47 hu47 hn47;refine spu rfl rfl rfl (fun hg=>(qa (o':=1) vT rfl vF rfl rfl rfl)) ?_;intro u49 hu49 hn49;refine shu rfl rfl rfl (fun hg=>(qd 1 vV rfl (hu49 hg) rfl)) ?_;intro u50 hu50 hn50;refine scu rfl rfl rfl hS (fun hg=>(qg call37 (ml (hu47 hg) ml0) (of_c x adx mx capx _ I0 hS.imm hd hxw))) ?_;intro w_6 u48 hS hu48 hn48;refine scu rfl rfl rfl hS (fun hg=>(does_right x adx mx capx p.in_ hS.imm hd hxw hp.in_ (hu48 hg) (hu50 hg))) ?_;intro w_8 u51 hS hu51 hn51;refine spu rfl rfl rfl (fun hg=>(g_not (hu51 hg))) ?_;intro u52 hu52 hn52;refine sp rfl (g_or rfl rfl (fun hq=>hu52 hq)) (sn (vK (qj rfl ?_ ?_)))
    ·
     intro hc53;clear hu41 hn41 hu42 hn42 hu43 hn43 hu44 hn44 hu47 hn47 hu49 hn49 hu50 hn50 hu48 hn48 hu51 hn51 hu52 hn52;have e:checkP p=(↑k,60):=by rw[e0,← hgo,checkGo_bad hc53]
     refine QwR (qq hS (Qmi rfl) (qq hS (Qai rfl) (qq hS (Qai rfl) (QoN (vM (xF (uJ (xF (xF (uJ (xF (ret2 results44 (qh (v:=.int .i64 _) rfl) (qh (v:=.int .i64 _) rfl) ?_))))))))))));rw[e]; exact⟨rfl,hS.nil⟩
    ·
     intro hc53;clear hu41 hn41 hu42 hn42 hu43 hn43 hu44 hn44 hu47 hn47 hu49 hn49 hu50 hn50 hu48 hn48 hu51 hn51 hu52 hn52;rw[kJ hc53]at hgo;simp only[ue,vW]at hc53;obtain⟨⟨hc1,hc2⟩,hc3⟩:=hc53;refine vL (vK (reg (qq hS (Qmi rfl) (qq hS (qa (o':=2) vO rfl vF rfl rfl rfl) (qq hS (qd 0 vV rfl rfl rfl) (qq hS (g_sub rfl rfl (by omega) (by omega)) (qq hS (Qai rfl) (qB (xO (vK (reg (qq hS (g_add rfl rfl (by omega) (by omega)) (qq hS (Qmi rfl) ?_)))))))))))));exact⟨(k+1,left - x.len),_,rfl,⟨⟨rfl,rfl,rfl,rfl,rfl,trivial⟩,hS.sel [false,true],by dsimp only; omega,by dsimp only; omega,by dsimp only; omega,hgo⟩,by dsimp only; omega⟩
   ·
    intro hc33
    try simp only[zA,zO,zN,zI,zF,zM,zT,zU]at hc33
    have hk:k=p.ops.length:=by omega
    subst hk;rw[List.drop_length]at hgo;refine xm (xh (xh (ua (vK (vD (QwR (qq hS (Qmi rfl) (qq hS (g_gtr rfl rfl) (QoN (qj rfl ?_ ?_))))))))))
    ·
     intro hc61
     try simp only[zA,zO,zN,zI,zF,zM,zT,zU]at hc61
     have e:checkP p=(↑p.ops.length,60):=by rw[e0,← hgo,checkGo,vJ hc61]
     refine QwR (qq hS (qa (o':=3) vT rfl xD rfl rfl rfl) (qq hS (qd 0 um rfl rfl rfl) (qq hS (qo rfl xz hops rfl) (qq hS (Qai rfl) (qq hS (Qai rfl) (QoN (vM (xF (ret2 results44 (qh (v:=.int .i64 _) rfl) (qh (v:=.int .i64 _) rfl) ?_)))))))));rw[e]; exact⟨rfl,hS.nil⟩
    ·
     intro hc61
     try simp only[zA,zO,zN,zI,zF,zM,zT,zU]at hc61
     have e:checkP p=(↑p.ops.length,0):=by rw[e0,← hgo,checkGo,vG hc61]
     refine vL (vK (QwR (qq hS (qa (o':=3) vT rfl xD rfl rfl rfl) (qq hS (qd 0 um rfl rfl rfl) (qq hS (qo rfl xz hops rfl) (qq hS (Qai rfl) (qq hS (Qai rfl) (QoN (vM (ret2 results44 (qh (v:=.int .i64 _) rfl) (qh (v:=.int .i64 _) rfl) ?_))))))))));rw[e]; exact⟨rfl,hS.nil⟩
set_option maxHeartbeats 1000000 in
theorem symbols_o (p : PatL) (ad : Option Addr) (m cap : Nat) (w0 : World) (I0 : Imm) (hI : Sat I0 w0) (hops : ROps I0 (.slice ad m cap) p.ops) (hp : p.wf) :
 Ctr prog 27 [.agg #[.bool p.lifted,.int .i64 p.in_,.int .i64 p.out,.slice ad m cap]] w0 (fun v w'=>∃a c,v = .tuple #[.slice a (symbolsP p).1.length c,.int .i64 (symbolsP p).2]∧St [] w0 I0 I0 w' [.row (.slice a (symbolsP p).1.length c) 80 3 (symbolsP p).1.length (flat symC (symbolsP p).1)]):=by
 refine fn (n:=45) func27 rfl rfl rfl ?_;have hS:=St.start hI;refine QwR (qe (d_box (cs:=[.bool _,.int .i64 _,.int .i64 _,.slice _ _ _]) hS rfl) ?_);clear hS;rintro _ w_1⟨b1,rfl,hS⟩;refine qq hS (qc _) (qq hS (Qai rfl) (QoN (vD (QwR (qq hS (g_ldO 0 (vs:=[.bool _,.int .i64 _,.int .i64 _,.slice _ _ _]) vZ xy rfl rfl rfl rfl) (qe (qg call44 rfl (check_c p ad m cap _ I0 hS.imm hops hp)) ?_))))));rintro _ w_2⟨rfl,hE⟩;replace hS:=hS.callE hE;refine qq hS (qb _) (qq hS (Qxi rfl rfl) (qq hS (Qxi rfl rfl) (qq hS (Qai rfl) (qq hS (Qai rfl) (QoR (qq hS (Qmi rfl) (qq hS (g_neq rfl rfl) (QoN (qj rfl ?_ ?_)))))))))
 ·
  intro hc17
  try simp only[zA,zO,zN,zI,zF,zM,zT,zU]at hc17
  have e:symbolsP p=([],(checkP p).2):=by unfold symbolsP; rw[vG hc17]
  refine QwR (qq hS (Qmi rfl) (qq hS (qc _) (qq hS (Qai rfl) (QoN (vM (xF (ret2 results27 (qh rfl) (qh (v:=.int .i64 _) rfl) ?_)))))));rw[e]; exact⟨none,0,rfl,hS.nil.nilRow _ _⟩
 ·
  intro hc17
  try simp only[zA,zO,zN,zI,zF,zM,zT,zU]at hc17
  have e:symbolsP p=(symsOf p.ops,0):=by unfold symbolsP; rw[vJ hc17]
  obtain⟨hk1,hk2,hk3,hk4,hk5,hk6,hk7⟩:=qM hc17;refine vL (vK (QwR (qq hS (qa (o':=2) vT rfl vF rfl rfl rfl) (qq hS (qd 0 vV rfl rfl rfl) (qe (yu hS xo info80 rfl rfl (by omega) (by omega) (by omega)) ?_)))));clear hS;rintro _ w_3⟨a21,p21,rfl,hS⟩;refine qq hS (qc _) (QoN (vD (QwR (qq hS (qa (o':=3) vT rfl xD rfl rfl rfl) (qq hS (qd 1 um rfl rfl rfl) (qq hS (qo rfl xz hops rfl) (qq hS (Qmi rfl) (QoN (vS (loop (fun(x:Nat×Option Addr×Nat) σ w=>okS σ [(6,.slice x.2.1 (symsOf (p.ops.take x.1)).length x.2.2),(23,.slice ad m cap),(24,.int .i64 p.ops.length),(25,.int .i64 x.1)]∧St [] w0 I0 I0 w [.row (.slice x.2.1 (symsOf (p.ops.take x.1)).length x.2.2) 80 3 (symsOf (p.ops.take x.1)).length (flat symC (symsOf (p.ops.take x.1)))]∧x.1≤p.ops.length) (fun x=>p.ops.length - x.1) ((0,a21,p21)) ?_ ?_))))))))))
  ·
   exact⟨⟨rfl,rfl,rfl,rfl,trivial⟩,hS.sel [true,false],by simp⟩
  ·
   rintro⟨k,a,c⟩σ w_l⟨hs,hS,hk0⟩;dsimp only at hs hS hk0 ⊢;rw[← qk hs]; clear hs
   refine QwR (qq hS (g_lss rfl rfl) (QoN (vD (qj rfl ?_ ?_))))
   ·
    intro hc26
    try simp only[zA,zO,zN,zI,zF,zM,zT,zU]at hc26
    obtain⟨x,hx⟩:∃x,p.ops[k]? = some x:=⟨_,vC (by omega)⟩
    have hxw:=hp.ops x (vI hx);have hxr:=hk1 x (vI hx);obtain⟨lx1,lx2⟩:=hxw.len;obtain⟨cs,hcl,hoA,hro⟩:=RSl.at hops hx;obtain⟨adx,mx,capx,rfl,hd⟩:=hro;have hlx:=symsOf_take_le p.ops (k+1);have hly:=congrArg List.length (symsOf_snoc hx);rw[vE,xM,List.length_range]at hly;refine vL (vK (vD (vS (QwR (qq hS (g_ixI xz xb hops rfl rfl (by omega) (by omega)) (qq hS (g_ldE (us:=[.int .i64 _,.int .i64 _,.int .i64 _,.int .u8 _,.slice _ _ _]) xb xJ hoA rfl rfl rfl) (qe (qv (cs:=[.int .i64 _,.int .i64 _,.int .i64 _,.int .u8 _,.slice _ _ _]) hS xY rfl) ?_)))))));clear hS;rintro _ w_4⟨b_4,rfl,hS⟩;refine qe (qf 0 hS xb rfl rfl rfl (vs:=[.int .i64 _,.int .i64 _,.int .i64 _,.int .u8 _,.slice _ _ _]) rfl rfl rfl (vB rfl) (cs':=[_,_,_,_,_]) rfl) ?_;clear hS;rintro _ w_5⟨rfl,hS⟩;refine QoR (qq hS (g_ldO 0 (vs:=[.int .i64 _,.int .i64 _,.int .i64 _,.int .u8 _,.slice _ _ _]) xb xJ rfl rfl rfl rfl) (qe (qg call37 rfl (of_c x adx mx capx _ I0 hS.imm hd hxw)) ?_));rintro _ w_6⟨rfl,hE⟩;replace hS:=hS.callE hE;refine qq hS (qc _) (QoR (qq hS (qa (o':=2) vO rfl vF rfl rfl rfl) (qq hS (qd 0 vV rfl rfl rfl) (qq hS (Qmi rfl) (QoN (vS (loop (fun(x_:Nat×Option Addr×Nat) σ w=>okS σ [(6,.slice x_.2.1 (symsOf (p.ops.take k)++(List.range x_.1).map (fun(i:Nat)=>symS x (i:Int))).length x_.2.2),(23,.slice ad m cap),(24,.int .i64 p.ops.length),(25,.int .i64 k),(9,ofV x (opV x adx mx capx)),(32,.int .i64 x.len),(33,.int .i64 x_.1)]∧St [] w0 I0 I0 w [.row (.slice x_.2.1 (symsOf (p.ops.take k)++(List.range x_.1).map (fun(i:Nat)=>symS x (i:Int))).length x_.2.2) 80 3 (symsOf (p.ops.take k)++(List.range x_.1).map (fun(i:Nat)=>symS x (i:Int))).length (flat symC (symsOf (p.ops.take k)++(List.range x_.1).map (fun(i:Nat)=>symS x (i:Int))))]∧(x_.1:Int)≤x.len) (fun x_=>x.len.toNat - x_.1) ((0,a,c)) ?_ ?_)))))))
    ·
     have h0:symsOf (p.ops.take k)++(List.range 0).map (fun(i:Nat)=>symS x (i:Int))=symsOf (p.ops.take k):=by simp
     refine⟨⟨by dsimp only; rw[h0]; rfl,rfl,rfl,rfl,rfl,rfl,rfl,trivial⟩,?_,by dsimp only; omega⟩;dsimp only;rw[h0];exact hS.sel [false,true]
    ·
     rintro⟨i,a,c⟩σ w_l⟨hs,hS,hi0⟩;dsimp only at hs hS hi0 ⊢;rw[← qk hs]; clear hs
     refine QwR (qq hS (g_lss rfl rfl) (QoN (vD (qj rfl ?_ ?_))))
     ·
      intro hc34
      try simp only[zA,zO,zN,zI,zF,zM,zT,zU]at hc34
      have hlz:(symsOf (p.ops.take k)++(List.range i).map (fun(i:Nat)=>symS x (i:Int))).length=(symsOf (p.ops.take k)).length+i:=by simp
      have hln:(symsOf (p.ops.take k)++(List.range (i+1)).map (fun(i:Nat)=>symS x (i:Int))).length=(symsOf (p.ops.take k)++(List.range i).map (fun(i:Nat)=>symS x (i:Int))).length+1:=by rw[range_snoc,vE]; rfl
      refine vL (vK (vD (vS (QwR (qq hS (Qmi rfl) (qq hS (Qai rfl) (QoN (reg (qq hS (qb _) (qq hS (qb _) (qq hS (Qmi rfl) (qe (does_symbol x adx mx capx i hS.imm hd hxw ⟨by omega,by omega⟩ (by omega) (by omega) hxr.2 rfl rfl) ?_))))))))))));rintro _ w_7⟨rfl,hE⟩;replace hS:=hS.callE hE;refine qe (d_lit (vs:=[.agg #[.bool _,.int .i64 _,.int .u8 _]]) (cs:=[.bool _,.int .i64 _,.int .u8 _]) hS xo xt xU rfl rfl rfl rfl (fun v hv=>by simp only[vN,vP,or_false]at hv; subst hv; rfl) rfl) ?_;clear hS;rintro _ w_8⟨b_8,rfl,hS⟩;refine qe (qV 1 0 hS rfl xo info80 rfl rfl rfl rfl rfl rfl rfl rfl (by omega) (by omega)) ?_;clear hS;rintro _ w_9⟨a41,p41,rfl,hS⟩;refine qq hS (qc _) (qB (xO (vK (reg (qq hS (g_add rfl rfl (by omega) (by omega)) (qq hS (Qmi rfl) ?_))))));refine⟨(i+1,a41,p41),_,rfl,⟨⟨by dsimp only; rw[hln]; rfl,rfl,rfl,rfl,rfl,rfl,rfl,trivial⟩,?_,by dsimp only; omega⟩,by dsimp only; omega⟩;dsimp only;rw[hln,range_snoc,ql,ju];exact hS.sel [false,true]
     ·
      intro hc34
      try simp only[zA,zO,zN,zI,zF,zM,zT,zU]at hc34
      have hi:i=x.len.toNat:=by omega
      subst hi;rw[symsOf_snoc hx]at hS ⊢;refine xm (xh (xh (ua (xO (vK (reg (qq hS (g_add rfl rfl (by omega) (by omega)) (qq hS (Qmi rfl) ?_))))))));exact⟨(k+1,a,c),_,rfl,⟨⟨rfl,rfl,rfl,rfl,trivial⟩,hS.sel [true],by dsimp only; omega⟩,by dsimp only; omega⟩
   ·
    intro hc26
    try simp only[zA,zO,zN,zI,zF,zM,zT,zU]at hc26
    have hk:k=p.ops.length:=by omega
    subst hk;rw[xB]at hS ⊢;refine xm (xh (xh (ua (vK (QwR (qq hS (qb _) (qq hS (qc _) (qq hS (Qai rfl) (QoN (vM (ret2 results27 (qh rfl) (qh (v:=.int .i64 _) rfl) ?_)))))))))));rw[e]; exact⟨a,c,rfl,hS.sel [true]⟩
end Go.Proofs.YtgkgihnpjgbmhaaGreatDoor
namespace Go.Proofs.YtgkgihnpjgbmhaaGreatDoor
open Tryz
open Go Go.RowKit Go.Inl
set_option maxHeartbeats 1000000 in
theorem table_c (vl : Value) (l : List Sym) (w0 : World) (I0 : Imm) (hI : Sat I0 w0) (hl : RSyms I0 vl l) (hok : ∀ s ∈ l, s.ok) (hn : l.length ≤ 65536) :
 Ctr prog 65 [vl] w0 (fun v w'=>∃b,v = .slice (some ⟨b,0,none⟩) (l.length+1) (l.length+1)∧St [] w0 I0 I0 w' [.cel b 137 (flat plC (tab l))]):=by
 refine fn (n:=168) func65 rfl rfl rfl ?_;have hS:=St.start hI;refine QwR (qq hS (qc _) (QoR (qq hS (qb _) (qq hS (qo rfl xo hl rfl) (qq hS (g_add rfl rfl (by omega) (by omega)) (qe (i_make hS uE info137 rfl rfl (by omega) (by omega) (by omega) (by omega)) ?_))))));clear hS;rintro _ w_1⟨bt,rfl,hS⟩;refine qq hS (qc _) (QoN (vD (QwR (qq hS (qb _) (qq hS (qo rfl xo hl rfl) (qq hS (g_sub rfl rfl (by omega) (by omega)) (qq hS (Qai rfl) (QoN (vS (loop (fun(i:Int) σ w=>okS σ [(0,vl),(3,.slice (some ⟨bt,0,none⟩) (l.length+1) (l.length+1)),(4,.int .i64 i)]∧St [] w0 I0 I0 w [.cel bt 137 (flat plC (List.replicate (i+1).toNat Pl.zero++tab (l.drop (i+1).toNat)))]∧-1≤i∧i < l.length) (fun i=>(i+1).toNat) ((l.length:Int) - 1) ?_ ?_))))))))))
 ·
  refine⟨⟨rfl,rfl,rfl,trivial⟩,?_,by omega,by omega⟩;have h1:=madeCells_flat kD (by decide) (l.length+1) Pl.zero;have h2:(l.length:Int) - 1+1=l.length:=by omega
  rw[h2,Int.toNat_natCast,List.drop_length,show tab []=[Pl.zero] from rfl,← List.replicate_succ',← h1];exact hS.sel [true]
 ·
  rintro i σ w_l⟨hs,hS,hi0,hi1⟩;rw[← qk hs]; clear hs
  refine vD (QwR (qq hS (Qmi rfl) (qq hS (g_geq rfl rfl) (QoN (qj rfl ?_ ?_)))))
  ·
   intro hc18
   try simp only[zA,zO,zN,zI,zF,zM,zT,zU]at hc18
   have hm:(i+1).toNat=i.toNat+1:=by omega
   obtain⟨s,hsi⟩:∃s,l[i.toNat]? = some s:=⟨_,vC (by omega)⟩
   have hsA:=hl.at hsi;have hsok:=hok s (vI hsi);have hdl:(l.drop (i.toNat+1)).length=l.length - (i.toNat+1):=by simp
   have htl:=jx (l.drop (i.toNat+1));obtain⟨nx,hnx⟩:∃nx,nx=(l.drop (i.toNat+1)).headD s:=⟨_,rfl⟩
   obtain⟨lst,hlst⟩:∃b,b=decide (i=(l.length:Int) - 1):=⟨_,rfl⟩
   have hle:lst=(l.drop (i.toNat+1)).isEmpty:=by rw[hlst,Bool.eq_iff_iff]; simp; omega
   obtain⟨rest,hrest0⟩:∃p,(tab (l.drop (i.toNat+1)))[0]? = some p:=⟨_,vC (by omega)⟩
   have hrh:(tab (l.drop (i.toNat+1))).headD Pl.zero=rest:=by rw[List.headD_eq_head?_getD,List.head?_eq_getElem?,hrest0]; rfl
   have hrg:=jX (l.drop (i.toNat+1)) 0 rest hrest0;obtain⟨pre,hpreq⟩:∃p,p=flat plC (List.replicate i.toNat Pl.zero):=⟨_,rfl⟩
   have hpl:pre.length=i.toNat*12:=by rw[hpreq,qT kD]; simp
   have hpre:i.toNat*12=pre.length:=hpl.symm;replace hS:St [] w0 I0 I0 w_l [.cel bt 137 (pre++(plC Pl.zero++flat plC (tab (l.drop (i.toNat+1)))))]:=by rw[hm,focus_row,← hpreq]at hS; exact hS
   refine vL (vK (vD (vS (QwR (qq hS (qb _) (qq hS (Qmi rfl) (qq hS (g_ixI xo xt hl rfl rfl (by omega) (by omega)) (qq hS (g_ldE (us:=[.bool _,.int .i64 _,.int .u8 _]) xt ud hsA rfl rfl rfl) (qq hS (Qmi rfl) (qq hS (qb _) (qq hS (qo rfl xo hl rfl) (qq hS (g_sub rfl rfl (by omega) (by omega)) ?_))))))))))));refine qq hS (g_eql rfl rfl) (qe (qv (cs:=[.bool _,.int .i64 _,.int .u8 _]) hS xU rfl) ?_);clear hS;rintro _ w_2⟨b5,rfl,hS⟩;refine qe (qf 0 hS xt rfl rfl rfl (vs:=[.bool _,.int .i64 _,.int .u8 _]) rfl rfl rfl (vB rfl) (cs':=[_,_,_]) rfl) ?_;clear hS;rintro _ w_3⟨rfl,hS⟩;refine qq hS (Qab rfl) (QoR (qq hS (g_ldO 0 (vs:=[.bool _,.int .i64 _,.int .u8 _]) xt ud rfl rfl rfl rfl) (qe (qv (cs:=[.bool _,.int .i64 _,.int .u8 _]) hS xU rfl) ?_)));clear hS;rintro _ w_4⟨b7,rfl,hS⟩;refine qe (qf 0 hS xt rfl rfl rfl (vs:=[.bool _,.int .i64 _,.int .u8 _]) rfl rfl rfl (vB rfl) (cs':=[_,_,_]) rfl) ?_;clear hS;rintro _ w_5⟨rfl,hS⟩;refine QoN (meet (fun σ w=>okS σ [(0,vl),(3,.slice (some ⟨bt,0,none⟩) (l.length+1) (l.length+1)),(4,.int .i64 i),(5,.pointer (some ⟨b5,0,none⟩)),(6,.bool lst),(7,.pointer (some ⟨b7,0,none⟩))]∧St [] w0 I0 I0 w [.cel b7 80 (symC nx),.cel b5 80 (symC s),.cel bt 137 (pre++(plC Pl.zero++flat plC (tab (l.drop (i.toNat+1)))))]) ?_ ?_)
   ·
    refine QwR (qq hS (Qmb rfl) (qq hS (g_not rfl) (QoN (qj rfl ?_ ?_))))
    ·
     intro hc32;have hlt:i.toNat+1 < l.length:=by
      have:lst=false:=by rw[hlst]; simpa using hc32
      rw[this]at hle;have:=hle.symm;simp at this
      omega
     have hnA:=hl.at (i:=(i+1).toNat) (x:=nx) (by rw[hm,hnx,List.headD_eq_head?_getD,List.head?_drop]; rw[vC hlt]; rfl);refine reg (qq hS (qb _) (qq hS (Qmi rfl) (qq hS (g_add rfl rfl (by omega) (by omega)) (qq hS (g_ixI xo xt hl rfl rfl (by omega) (by omega)) (qq hS (g_ldE (us:=[.bool _,.int .i64 _,.int .u8 _]) xt ud hnA rfl rfl rfl) (qe (qf 0 hS xt rfl rfl rfl (vs:=[.bool _,.int .i64 _,.int .u8 _]) rfl rfl rfl (vB rfl) (cs':=[_,_,_]) rfl) ?_))))));clear hS;rintro _ w_6⟨rfl,hS⟩;refine QoN ?_;exact⟨_,rfl,⟨rfl,rfl,rfl,rfl,by subst hlst; rfl,rfl,trivial⟩,hS.sel [true,true,true]⟩
    ·
     intro hc32;have hns:nx=s:=by
      have:lst=true:=by rw[hlst]; simpa using hc32
      rw[this]at hle;rw[hnx];have h2:=List.isEmpty_iff.1 hle.symm;rw[h2]; rfl
     subst hns;refine vL (vK ?_);exact⟨_,rfl,⟨rfl,rfl,rfl,rfl,by subst hlst; rfl,rfl,trivial⟩,hS.sel [true,true,true]⟩
   ·
    rintro σ w⟨hs,hS⟩;rw[← qk hs];refine vD (draw (.cons 0 .pure (.cons 1 .pure (.cons 2 .pure (.cons 3 .pure (.cons 4 .pure (.cons 5 .pure (.cons 6 .pure (.cons 7 .held (.cons 8 .eff (.cons 9 .pure (.cons 10 .bar .nil))))))))))) mixed (by kernel_rfl) hS ?_);intro w_7 hS;refine sp rfl (qb _) (sp rfl (Qmi rfl) (sp rfl (jl (o:=i.toNat*12) uE uD rfl rfl (by omega) (by omega) (by omega)) (sp rfl (qb _) (sp rfl (Qmi rfl) (sp rfl (g_add rfl rfl (by omega) (by omega)) (sp rfl (jl (o:=(i.toNat+1)*12) uE uD rfl rfl (by omega) (by omega) (by omega)) (sh rfl (g_ldL 2 (vs:=plC rest) uD isAgg137 rfl rfl (fun j v hv=>yH hpl rfl hrest0 rfl hv) rfl) ?_)))))));have hS0:=hS;refine se rfl (qv (cs:=[.int .i64 _,.int .i64 _,.int .i64 _,.int .i64 _,.int .i64 _,.int .i64 _,.int .i64 _,.int .i64 _,.int .i64 _,.int .i64 _,.int .i64 _,.int .i64 _]) hS zeroValue137 rfl) ?_;rintro _ w_8⟨b9,rfl,hS⟩;refine⟨_,_,hS0.le (Sub.refl _) (xQ _ _),hS,sp rfl (qc _) (sb rfl (qf 0 hS uD rfl rfl rfl (vs:=[.int .i64 _,.int .i64 _,.int .i64 _,.int .i64 _,.int .i64 _,.int .i64 _,.int .i64 _,.int .i64 _,.int .i64 _,.int .i64 _,.int .i64 _,.int .i64 _]) rfl rfl rfl (vB rfl) (cs':=[_,_,_,_,_,_,_,_,_,_,_,_]) rfl) ?_)⟩;rintro _ w_9⟨rfl,hS⟩;refine⟨_,_,hS,sn (vK (vD ?_))⟩;obtain⟨p1,hp1⟩:∃p,p=pl1 s nx rest lst (tab (l.drop (i.toNat+1))):=⟨_,rfl⟩
    obtain⟨hrb1,hrb2,hrb3,hrb4,hrb5,hrb6⟩:=yY (s:=s) (next:=nx) (rest:=rest) (last:=lst) (n:=(l.drop (i.toNat+1)).length+1) (by have:=hrg; simpa using this) (by omega);refine reg (qq hS (qb _) (qq hS (qb _) (qq hS (g_ldO 2 (vs:=[.bool _,.int .i64 _,.int .u8 _]) xt ud rfl rfl rfl rfl) (qq hS (g_ldO 1 (vs:=[.bool _,.int .i64 _,.int .u8 _]) xt ud rfl rfl rfl rfl) (qq hS (g_ldO 0 (vs:=[.int .i64 _,.int .i64 _,.int .i64 _,.int .i64 _,.int .i64 _,.int .i64 _,.int .i64 _,.int .i64 _,.int .i64 _,.int .i64 _,.int .i64 _,.int .i64 _]) uD isAgg137 rfl rfl rfl rfl) ?_)))));refine qq hS (Qmb rfl) ?_;refine qe (qg call105 rfl (runs_c s nx rest lst _ I0 hS.imm hsok ⟨hrg.c0,by have:=hrg.c1; omega⟩ ⟨hrg.e0,by have:=hrg.e1; omega⟩)) ?_;rintro _ w_10⟨rfl,hE⟩;replace hS:=hS.callE hE;refine qq hS (qb _) (qq hS (Qxi rfl rfl) (qq hS (Qxi rfl rfl) (qq hS (qi rfl) (qq hS (qa (o':=i.toNat*12+10) xr rfl vF rfl rfl rfl) (qe (jv 3 (c:=10) hS vF rfl hpre rfl rfl (vs:=[.int .i64 _]) rfl rfl rfl (vB rfl) (row':=[_,_,_,_,_,_,_,_,_,_,_,_]) rfl) ?_)))));clear hS;rintro _ w_11⟨rfl,hS⟩;refine qq hS (qi rfl) (qq hS (qa (o':=i.toNat*12+11) xr rfl vF rfl rfl rfl) (qe (jv 3 (c:=11) hS vF rfl hpre rfl rfl (vs:=[.int .i64 _]) rfl rfl rfl (vB rfl) (row':=[_,_,_,_,_,_,_,_,_,_,_,_]) rfl) ?_));clear hS;rintro _ w_12⟨rfl,hS⟩;refine QoN (meet (fun σ w=>okS σ [(0,vl),(3,.slice (some ⟨bt,0,none⟩) (l.length+1) (l.length+1)),(4,.int .i64 i),(5,.pointer (some ⟨b5,0,none⟩)),(6,.bool lst),(7,.pointer (some ⟨b7,0,none⟩)),(8,.pointer (some ⟨bt,i.toNat*12,none⟩)),(9,.pointer (some ⟨b9,0,none⟩))]∧St [] w0 I0 I0 w [.cel b9 137 (plC rest),.cel b7 80 (symC nx),.cel b5 80 (symC s),.cel bt 137 (pre++(plC p1++flat plC (tab (l.drop (i.toNat+1)))))]) ?_ ?_)
    ·
     refine QwR (qq hS (qb _) (qq hS (qi rfl) (qq hS (qa (o':=i.toNat*12+10) xr rfl vF rfl rfl rfl) (qq hS (kU 3 (c:=10) vV rfl hpre rfl rfl) (qq hS (g_gtr rfl rfl) (QoN (qj rfl ?_ ?_)))))))
     ·
      intro hc64
      try simp only[zA,zO,zN,zI,zF,zM,zT,zU]at hc64
      obtain⟨pk,hpk⟩:∃p,(tab (l.drop (i.toNat+1)))[(runsS s nx rest lst).1.toNat - 1]? = some p:=⟨_,vC (by omega)⟩
      have hpkg:=jX (l.drop (i.toNat+1)) _ pk hpk;have hp1':p1=tryS { Pl.zero with copyRun:=(runsS s nx rest lst).1,equalRun:=(runsS s nx rest lst).2 } 1 (runsS s nx rest lst).1 (pk.best.plus 4 1):=by
       rw[hp1,pl1,vJ hc64,nthBest_eq (p:=pk)];rw[show((runsS s nx rest lst).1 - 1).toNat=(runsS s nx rest lst).1.toNat - 1 by omega]; exact hpk
      refine draw (.cons 0 .pure (.cons 1 .pure (.cons 2 .pure (.cons 3 .pure (.cons 4 .held (.cons 5 .pure (.cons 6 .pure (.cons 7 .pure (.cons 8 .pure (.cons 9 .pure (.cons 10 .held (.cons 11 .pure (.cons 12 .pure (.cons 13 .pure (.cons 14 .held (.cons 15 .eff (.cons 16 .bar .nil))))))))))))))))) mixed (by kernel_rfl) hS ?_;intro w_13 hS;refine sp rfl (qb _) (sp rfl (qb _) (sp rfl (qi rfl) (sp rfl (qa (o':=i.toNat*12+10) xr rfl vF rfl rfl rfl) (sh rfl (kU 3 (c:=10) vV rfl hpre rfl rfl) (sp rfl (qb _) (sp rfl (Qmi rfl) (sp rfl (qb _) (sp rfl (qi rfl) (sp rfl (qa (o':=i.toNat*12+10) xr rfl vF rfl rfl rfl) (sh rfl (kU 3 (c:=10) vV rfl hpre rfl rfl) ?_))))))))));refine sp rfl (g_add rfl rfl (by omega) (by omega)) (sp rfl (jl (o:=(i.toNat+(runsS s nx rest lst).1.toNat)*12) uE uD rfl rfl (by omega) (by omega) (by omega)) (sp rfl (qa (o':=(i.toNat+(runsS s nx rest lst).1.toNat)*12) xr rfl xG rfl rfl rfl) (sh rfl (g_ldL 3 (vs:=[.int .i64 pk.best.cost,.int .i64 pk.best.ops]) xG un rfl rfl (fun j v hv=>yH hpl rfl hpk (by omega) (plC_best j v hv)) rfl) ?_)));have hS0:=hS;refine se rfl (qg call107 rfl (zX pk.best 4 1 _ I0 hS.imm (Pr.ok_mono hpkg.best (by omega)) (by omega) (by omega))) ?_;rintro _ w_14⟨rfl,hE⟩;replace hS:=hS.call hE;refine⟨_,_,hS0.le hE.ext (xK _),hS,sb rfl (qg call106 rfl (try_c bt (i.toNat*12) _ pre _ hpre ({ Pl.zero with copyRun:=(runsS s nx rest lst).1,equalRun:=(runsS s nx rest lst).2 }) 1 (runsS s nx rest lst).1 (pk.best.plus 4 1) _ I0 hS.imm (qA (k:=3) hS rfl) (qz (k:=3) hS rfl))) ?_⟩
      rintro _ w_15⟨rfl,hE⟩;replace hS:=hS.callX (k:=3) rfl hE;refine⟨_,_,hS,sn (vK ?_)⟩;subst hp1'; exact⟨_,rfl,⟨rfl,rfl,rfl,rfl,rfl,rfl,rfl,rfl,trivial⟩,hS.sel [true,true,true,true]⟩
     ·
      intro hc64
      try simp only[zA,zO,zN,zI,zF,zM,zT,zU]at hc64
      have hp1':p1={ Pl.zero with copyRun:=(runsS s nx rest lst).1,equalRun:=(runsS s nx rest lst).2 }:=by rw[hp1,pl1,vG hc64]
      refine vL (vK ?_);subst hp1'; exact⟨_,rfl,⟨rfl,rfl,rfl,rfl,rfl,rfl,rfl,rfl,trivial⟩,hS.sel [true,true,true,true]⟩
    ·
     rintro σ w⟨hs,hS⟩;have hpe0:p1.equalRun=(runsS s nx rest lst).2:=by rw[hp1,pl1_equal]
     rw[← qk hs];refine vD (QwR (qq hS (qa (o':=0) xe rfl xE rfl rfl rfl) (qq hS (qd 2 ut rfl rfl rfl) (QoN (qj rfl ?_ ?_)))))
     ·
      intro hc83
      try simp only[zA,zO,zN,zI,zF,zM,zT,zU]at hc83
      have hob:=zg (on := !lst && goesOn s nx) (n:=(l.drop (i.toNat+1)).length+1) (Pr.ok_mono hrg.best (by omega)) (Pr.ok_mono hrg.diff (by omega)) hrg.d0 (by have:=hrg.d1; omega);refine vD (draw (.cons 0 .pure (.cons 1 .pure (.cons 2 .held (.cons 3 .pure (.cons 4 .held (.cons 5 .pure (.cons 6 .held (.cons 7 .pure (.cons 8 .pure (.cons 9 .pure (.cons 10 .held (.cons 11 .held (.cons 12 .eff (.cons 13 .pure (.cons 14 .eff (.cons 15 .pure (.cons 16 .pure (.cons 17 .pure (.cons 18 .pure (.cons 19 .pure (.cons 20 .bar (.cons 21 .pure (.cons 22 .pure (.cons 23 .bar .nil)))))))))))))))))))))))) mixed (by kernel_rfl) hS ?_);intro w_16 hS;refine sp rfl (qb _) (sp rfl (qb _) (sh rfl (g_ldO 0 (vs:=[.int .i64 _,.int .i64 _,.int .i64 _,.int .i64 _,.int .i64 _,.int .i64 _,.int .i64 _,.int .i64 _,.int .i64 _,.int .i64 _,.int .i64 _,.int .i64 _]) uD isAgg137 rfl rfl rfl rfl) (sp rfl (qa (o':=4) xr rfl xG rfl rfl rfl) (sh rfl (g_ldO 0 (vs:=[.int .i64 _,.int .i64 _]) xG un rfl rfl rfl rfl) ?_))));refine sp rfl (qa (o':=6) xr rfl vF rfl rfl rfl) (sh rfl (qd 0 vV rfl rfl rfl) (sp rfl (Qmb rfl) (sp rfl (g_not rfl) (sp rfl (Qmb rfl) (shu rfl rfl rfl (fun hg=>(g_ldO 2 (vs:=[.bool _,.int .i64 _,.int .u8 _]) xt ud rfl rfl rfl rfl)) ?_)))));intro u95 hu95 hn95;refine shu rfl rfl rfl (fun hg=>(g_ldO 1 (vs:=[.bool _,.int .i64 _,.int .u8 _]) xt ud rfl rfl rfl rfl)) ?_;intro u96 hu96 hn96;refine scu rfl rfl rfl hS (fun hg=>(qg call109 (ml (hu95 hg) (ml (hu96 hg) ml0)) (goesOn_c s nx _ I0 hS.imm hsok))) ?_;intro w_18 u97 hS hu97 hn97
      refine sp rfl (g_and rfl rfl (fun hq=>hu97 hq)) ?_;have hS0:=hS;refine se rfl (qg call108 rfl (open_c rest rest.diff rest.diffLen (!lst && goesOn s nx) _ I0 hS.imm (Pr.ok_mono hrg.best (by omega)) (Pr.ok_mono hrg.diff (by omega)) ⟨hrg.d0,by have:=hrg.d1; omega⟩)) ?_;rintro _ w_19⟨rfl,hE⟩;replace hS:=hS.call hE;refine⟨_,_,hS0.le hE.ext (xK _),hS,sp rfl (qb _) (sp rfl (qm rfl rfl) (sp rfl (Qxi rfl rfl) (sp rfl (qi rfl) (sp rfl (qa (o':=i.toNat*12+4) xr rfl xG rfl rfl rfl) (sb rfl (jv 3 (c:=4) hS xG rfl hpre rfl rfl (vs:=[.int .i64 _,.int .i64 _]) rfl rfl rfl (vB rfl) (row':=[_,_,_,_,_,_,_,_,_,_,_,_]) rfl) ?_)))))⟩;rintro _ w_20⟨rfl,hS⟩;refine⟨_,_,hS,sp rfl (qi rfl) (sp rfl (qa (o':=i.toNat*12+6) xr rfl vF rfl rfl rfl) (sb rfl (jv 3 (c:=6) hS vF rfl hpre rfl rfl (vs:=[.int .i64 _]) rfl rfl rfl (vB rfl) (row':=[_,_,_,_,_,_,_,_,_,_,_,_]) rfl) ?_))⟩;rintro _ w_21⟨rfl,hS⟩;refine⟨_,_,hS,sn (vK (vD (draw (.cons 0 .pure (.cons 1 .pure (.cons 2 .pure (.cons 3 .pure (.cons 4 .held (.cons 5 .pure (.cons 6 .pure (.cons 7 .pure (.cons 8 .held (.cons 9 .eff (.cons 10 .bar .nil))))))))))) mixed (by kernel_rfl) hS ?_)))⟩;intro w_22 hS;refine sp rfl (qb _) (sp rfl (qb _) (sp rfl (qi rfl) (sp rfl (qa (o':=i.toNat*12+6) xr rfl vF rfl rfl rfl) (sh rfl (kU 3 (c:=6) vV rfl hpre rfl rfl) (sp rfl (qb _) (sp rfl (qi rfl) (sp rfl (qa (o':=i.toNat*12+4) xr rfl xG rfl rfl rfl) (sh rfl (g_ldF 3 (c:=4) (vs:=[.int .i64 _,.int .i64 _]) xG un rfl hpre rfl rfl rfl) ?_))))))));have hS0:=hS;refine se rfl (qg call107 rfl (zX (openS rest rest.diff rest.diffLen (!lst && goesOn s nx)).1 4 1 _ I0 hS.imm (Pr.ok_mono hob.1 (by omega)) (by omega) (by omega))) ?_
      rintro _ w_23⟨rfl,hE⟩;replace hS:=hS.call hE;refine⟨_,_,hS0.le hE.ext (xK _),hS,sb rfl (qg call106 rfl (try_c bt (i.toNat*12) _ pre _ hpre ({ p1 with diff:=(openS rest rest.diff rest.diffLen (!lst && goesOn s nx)).1,diffLen:=(openS rest rest.diff rest.diffLen (!lst && goesOn s nx)).2 }) 2 (openS rest rest.diff rest.diffLen (!lst && goesOn s nx)).2 ((openS rest rest.diff rest.diffLen (!lst && goesOn s nx)).1.plus 4 1) _ I0 hS.imm (qA (k:=3) hS rfl) (qz (k:=3) hS rfl))) ?_⟩;rintro _ w_24⟨rfl,hE⟩;replace hS:=hS.callX (k:=3) rfl hE;refine⟨_,_,hS,sn (vK (xm (xh (ua (vK (reg (qq hS (Qmi rfl) (qq hS (g_sub rfl rfl (by omega) (by omega)) (qq hS (Qai rfl) (⟨i - 1,_,rfl,⟨⟨rfl,rfl,rfl,trivial⟩,?_,by omega,by omega⟩,by omega⟩))))))))))⟩;rw[show(i - 1+1).toNat=i.toNat by omega,← unfocus hsi (p:=mkPl s nx lst (tab (l.drop (i.toNat+1)))) (by rw[hnx,hle]),← hpreq]
      first
       | rw[yJ hc83 hrh hp1]; exact hS.sel [false,false,false,true]
       | rw[yK hc83 hrh hp1 hp2']; exact hS.sel [false,false,false,true]
     ·
      intro hc83
      try simp only[zA,zO,zN,zI,zF,zM,zT,zU]at hc83
      have hob:=zg (on := !lst && !nx.old) (n:=(l.drop (i.toNat+1)).length+1) (Pr.ok_mono hrg.best (by omega)) (Pr.ok_mono hrg.lit (by omega)) hrg.l0 (by have:=hrg.l1; omega);have hpe1:=hrb5 hc83;obtain⟨pe,hpe⟩:∃p,(tab (l.drop (i.toNat+1)))[p1.equalRun.toNat - 1]? = some p:=⟨_,vC (by omega)⟩
      have hpeg:=jX (l.drop (i.toNat+1)) _ pe hpe;obtain⟨p2,hp2⟩:∃p,p=tryS p1 3 p1.equalRun (pe.best.plus 4 1):=⟨_,rfl⟩
      have hp2':p2=tryS p1 3 p1.equalRun ((nthBest (tab (l.drop (i.toNat+1))) p1.equalRun).plus 4 1):=by
       rw[hp2,nthBest_eq (p:=pe)];rw[show(p1.equalRun - 1).toNat=p1.equalRun.toNat - 1 by omega]; exact hpe
      refine vL (vK (vD (draw (.cons 0 .pure (.cons 1 .pure (.cons 2 .pure (.cons 3 .pure (.cons 4 .held (.cons 5 .pure (.cons 6 .pure (.cons 7 .pure (.cons 8 .pure (.cons 9 .pure (.cons 10 .held (.cons 11 .pure (.cons 12 .pure (.cons 13 .pure (.cons 14 .held (.cons 15 .eff (.cons 16 .bar .nil))))))))))))))))) mixed (by kernel_rfl) hS ?_)));intro w_25 hS;refine sp rfl (qb _) (sp rfl (qb _) (sp rfl (qi rfl) (sp rfl (qa (o':=i.toNat*12+11) xr rfl vF rfl rfl rfl) (sh rfl (kU 3 (c:=11) vV rfl hpre rfl rfl) (sp rfl (qb _) (sp rfl (Qmi rfl) (sp rfl (qb _) (sp rfl (qi rfl) (sp rfl (qa (o':=i.toNat*12+11) xr rfl vF rfl rfl rfl) (sh rfl (kU 3 (c:=11) vV rfl hpre rfl rfl) ?_))))))))));refine sp rfl (g_add rfl rfl (by omega) (by omega)) (sp rfl (jl (o:=(i.toNat+p1.equalRun.toNat)*12) uE uD rfl rfl (by omega) (by omega) (by omega)) (sp rfl (qa (o':=(i.toNat+p1.equalRun.toNat)*12) xr rfl xG rfl rfl rfl) (sh rfl (g_ldL 3 (vs:=[.int .i64 pe.best.cost,.int .i64 pe.best.ops]) xG un rfl rfl (fun j v hv=>yH hpl rfl hpe (by omega) (plC_best j v hv)) rfl) ?_)));have hS0:=hS;refine se rfl (qg call107 rfl (zX pe.best 4 1 _ I0 hS.imm (Pr.ok_mono hpeg.best (by omega)) (by omega) (by omega))) ?_;rintro _ w_26⟨rfl,hE⟩;replace hS:=hS.call hE;refine⟨_,_,hS0.le hE.ext (xK _),hS,sb rfl (qg call106 rfl (try_c bt (i.toNat*12) _ pre _ hpre (p1) 3 p1.equalRun (pe.best.plus 4 1) _ I0 hS.imm (qA (k:=3) hS rfl) (qz (k:=3) hS rfl))) ?_⟩;rintro _ w_27⟨rfl,hE⟩;replace hS:=hS.callX (k:=3) rfl hE;refine⟨_,_,hS,sn (vK (vD ?_))⟩
      rw[← hp2]at hS;refine reg (qq hS (qb _) (qq hS (qb _) (qq hS (g_ldO 0 (vs:=[.int .i64 _,.int .i64 _,.int .i64 _,.int .i64 _,.int .i64 _,.int .i64 _,.int .i64 _,.int .i64 _,.int .i64 _,.int .i64 _,.int .i64 _,.int .i64 _]) uD isAgg137 rfl rfl rfl rfl) (qq hS (qa (o':=7) xr rfl xG rfl rfl rfl) (qq hS (g_ldO 0 (vs:=[.int .i64 _,.int .i64 _]) xG un rfl rfl rfl rfl) ?_)))));refine qq hS (qa (o':=9) xr rfl vF rfl rfl rfl) (qq hS (qd 0 vV rfl rfl rfl) (qq hS (Qmb rfl) (qq hS (g_not rfl) (qq hS (Qmb rfl) (qu rfl rfl hS (fun hg=>(qa (o':=0) xe rfl xE rfl rfl rfl)) ?_)))));intro u145 hu145 hn145;refine qu rfl rfl hS (fun hg=>(qd 1 ut rfl (hu145 hg) rfl)) ?_;intro u146 hu146 hn146;refine qu rfl rfl hS (fun hg=>(g_not (hu146 hg))) ?_;intro u147 hu147 hn147;refine qq hS (g_and rfl rfl (fun hq=>hu147 hq)) ?_;refine qe (qg call108 rfl (open_c rest rest.lit rest.litLen (!lst && !nx.old) _ I0 hS.imm (Pr.ok_mono hrg.best (by omega)) (Pr.ok_mono hrg.lit (by omega)) ⟨hrg.l0,by have:=hrg.l1; omega⟩)) ?_;rintro _ w_28⟨rfl,hE⟩;replace hS:=hS.callE hE;refine qq hS (qb _) (qq hS (qm rfl rfl) (qq hS (Qxi rfl rfl) (qq hS (qi rfl) (qq hS (qa (o':=i.toNat*12+7) xr rfl xG rfl rfl rfl) (qe (jv 3 (c:=7) hS xG rfl hpre rfl rfl (vs:=[.int .i64 _,.int .i64 _]) rfl rfl rfl (vB rfl) (row':=[_,_,_,_,_,_,_,_,_,_,_,_]) rfl) ?_)))));clear hS;rintro _ w_29⟨rfl,hS⟩;refine qq hS (qi rfl) (qq hS (qa (o':=i.toNat*12+9) xr rfl vF rfl rfl rfl) (qe (jv 3 (c:=9) hS vF rfl hpre rfl rfl (vs:=[.int .i64 _]) rfl rfl rfl (vB rfl) (row':=[_,_,_,_,_,_,_,_,_,_,_,_]) rfl) ?_))
      clear hS;rintro _ w_30⟨rfl,hS⟩;refine QoN (draw (.cons 0 .pure (.cons 1 .pure (.cons 2 .pure (.cons 3 .pure (.cons 4 .held (.cons 5 .pure (.cons 6 .pure (.cons 7 .pure (.cons 8 .held (.cons 9 .eff (.cons 10 .bar .nil))))))))))) mixed (by kernel_rfl) hS ?_);intro w_31 hS;refine sp rfl (qb _) (sp rfl (qb _) (sp rfl (qi rfl) (sp rfl (qa (o':=i.toNat*12+9) xr rfl vF rfl rfl rfl) (sh rfl (kU 3 (c:=9) vV rfl hpre rfl rfl) (sp rfl (qb _) (sp rfl (qi rfl) (sp rfl (qa (o':=i.toNat*12+7) xr rfl xG rfl rfl rfl) (sh rfl (g_ldF 3 (c:=7) (vs:=[.int .i64 _,.int .i64 _]) xG un rfl hpre rfl rfl rfl) ?_))))))));have hS0:=hS;refine se rfl (qg call107 rfl (zX (openS rest rest.lit rest.litLen (!lst && !nx.old)).1 2 1 _ I0 hS.imm (Pr.ok_mono hob.1 (by omega)) (by omega) (by omega))) ?_;rintro _ w_32⟨rfl,hE⟩;replace hS:=hS.call hE;refine⟨_,_,hS0.le hE.ext (xK _),hS,sb rfl (qg call106 rfl (try_c bt (i.toNat*12) _ pre _ hpre ({ p2 with lit:=(openS rest rest.lit rest.litLen (!lst && !nx.old)).1,litLen:=(openS rest rest.lit rest.litLen (!lst && !nx.old)).2 }) 4 (openS rest rest.lit rest.litLen (!lst && !nx.old)).2 ((openS rest rest.lit rest.litLen (!lst && !nx.old)).1.plus 2 1) _ I0 hS.imm (qA (k:=3) hS rfl) (qz (k:=3) hS rfl))) ?_⟩;rintro _ w_33⟨rfl,hE⟩;replace hS:=hS.callX (k:=3) rfl hE;refine⟨_,_,hS,sn (xO (vK (reg (qq hS (Qmi rfl) (qq hS (g_sub rfl rfl (by omega) (by omega)) (qq hS (Qai rfl) (⟨i - 1,_,rfl,⟨⟨rfl,rfl,rfl,trivial⟩,?_,by omega,by omega⟩,by omega⟩)))))))⟩;rw[show(i - 1+1).toNat=i.toNat by omega,← unfocus hsi (p:=mkPl s nx lst (tab (l.drop (i.toNat+1)))) (by rw[hnx,hle]),← hpreq]
      first
       | rw[yJ hc83 hrh hp1]; exact hS.sel [false,false,false,true]
       | rw[yK hc83 hrh hp1 hp2']; exact hS.sel [false,false,false,true]
  ·
   intro hc18
   try simp only[zA,zO,zN,zI,zF,zM,zT,zU]at hc18
   have hi:i = -1:=by omega
   subst hi;refine xm (xh (xh (ua (vK (QwR (qq hS (qb _) (qq hS (qc _) (QoN (vM (ret1 results65 (qh rfl) ⟨bt,rfl,?_⟩))))))))));simp at hS
   exact hS.sel [true]
end Go.Proofs.YtgkgihnpjgbmhaaGreatDoor
namespace Go.Proofs.YtgkgihnpjgbmhaaGreatDoor
open Tryz
open Go Go.RowKit Go.Inl
structure LS where
 i:Nat
 f:Nat
 done:List OpL
 css:List (List Value)
 a:Option Addr
 c:Nat
theorem strange_c (s : Sym) (size : Int) (b : Nat) (w0 : World) (I0 : Imm) (hI : Sat I0 w0) (hb : atI I0 ⟨b, 0, none⟩ [.int .i64 size]) :
 Ctr prog 63 [symV s,.pointer (some ⟨b,0,none⟩)] w0 (fun v w'=>v = .bool (strange size s)∧Ext w0 I0 w' I0):=by
 refine fn (n:=27) func63 rfl rfl rfl ?_;have hS:=St.start hI;refine QwR (qe (d_box (cs:=[.bool _,.int .i64 _,.int .u8 _]) hS rfl) ?_);clear hS;rintro _ w_1⟨b_1,rfl,hS⟩;refine qq hS (Qab rfl) (QoR (qq hS (qa (o':=0) xe rfl xE rfl rfl rfl) (qq hS (qd 0 ut rfl rfl rfl) (qq hS (Qmb rfl) (qu rfl rfl hS (fun hg=>(qa (o':=1) xe rfl vF rfl rfl rfl)) ?_)))));intro u7 hu7 hn7;refine qu rfl rfl hS (fun hg=>(qd 0 vV rfl (hu7 hg) rfl)) ?_;intro u8 hu8 hn8;refine qu rfl rfl hS (fun hg=>(g_lss (hu8 hg) rfl)) ?_;intro u9 hu9 hn9;refine qu rfl rfl hS (fun hg=>(qs (hu9 hg))) ?_;intro u10 hu10 hn10;refine qn rfl hu10 hn10 hS (fun hg=>(qa (o':=1) xe rfl vF rfl rfl rfl)) ?_;intro u11 hu11 hn11;refine qn rfl hu10 hn10 hS (fun hg=>(qd 0 vV rfl (hu11 hg) rfl)) ?_;intro u12 hu12 hn12;refine qn rfl hu10 hn10 hS (fun hg=>(vn (c:=0) vV hb rfl rfl)) ?_;intro u13 hu13 hn13;refine qn rfl hu10 hn10 hS (fun hg=>(g_geq (hu12 hg) (hu13 hg))) ?_;intro u14 hu14 hn14;refine qu rfl rfl hS (fun hg=>(g_or (hu10 hg) rfl (fun hq=>hu14 ⟨hg,hq⟩))) ?_;intro u15 hu15 hn15;refine qq hS (g_and rfl rfl (fun hq=>hu15 hq)) (qq hS (Qmb rfl) (qu rfl rfl hS (fun hg=>(qa (o':=0) xe rfl xE rfl rfl rfl)) ?_));intro u18 hu18 hn18;refine qu rfl rfl hS (fun hg=>(qd 0 ut rfl (hu18 hg) rfl)) ?_;intro u19 hu19 hn19;refine qu rfl rfl hS (fun hg=>(g_not (hu19 hg))) ?_;intro u20 hu20 hn20;refine qu rfl rfl hS (fun hg=>(qs (hu20 hg))) ?_;intro u21 hu21 hn21;refine qn rfl hu21 hn21 hS (fun hg=>(qa (o':=1) xe rfl vF rfl rfl rfl)) ?_;intro u22 hu22 hn22
 refine qn rfl hu21 hn21 hS (fun hg=>(qd 0 vV rfl (hu22 hg) rfl)) ?_;intro u23 hu23 hn23;refine qn rfl hu21 hn21 hS (fun hg=>(g_neq (hu23 hg) rfl)) ?_;intro u24 hu24 hn24;refine qu rfl rfl hS (fun hg=>(g_and (hu21 hg) rfl (fun hq=>hu24 ⟨hg,hq⟩))) ?_;intro u25 hu25 hn25;refine qq hS (g_or rfl rfl (fun hq=>hu25 hq)) (qq hS (Qab rfl) (QoN (vM (ret1 results63 (qh (v:=.bool _) rfl) ?_))));exact⟨rfl,hS.nil⟩
set_option maxHeartbeats 1000000 in
theorem indexFunc_c (vl : Value) (l : List Sym) (g : FuncId) (caps : List Value) (q : Sym → Bool) (w0 : World) (I0 : Imm) (hI : Sat I0 w0) (hl : RSyms I0 vl l) (hcg : ∀ args w, (callFunc g args).run prog w = .ok (.enter g args) w)
 (hq:∀s w,Sat I0 w→Ctr prog g (symV s::caps) w (fun v w'=>v = .bool (q s)∧Ext w I0 w' I0)) :
 Ctr prog 104 [vl,.func (.func g) #[] caps.toArray] w0 (fun v w'=>∃r:Int,v = .int .i64 r∧(0≤r↔l.any q=true)∧Ext w0 I0 w' I0):=by
 have hle:=RSl.le hl;simp only[maxLen]at hle;refine fn (n:=19) func104 rfl rfl rfl ?_;have hS:=St.start hI;refine QwR (qq hS (Qai rfl) (QoN (vD (QwR (qq hS (qb _) (qq hS (qo rfl xo hl rfl) (qq hS (Qmi rfl) (QoN (vS (loop (fun(k:Nat) σ w=>okS σ [(0,vl),(1,.func (.func g) #[] caps.toArray),(7,.int .i64 l.length),(8,.int .i64 k)]∧St [] w0 I0 I0 w []∧k≤l.length∧∀y∈l.take k,q y=false) (fun k=>l.length - k) (0) ?_ ?_))))))))))
 ·
  exact⟨⟨rfl,rfl,rfl,rfl,trivial⟩,hS.sel [],by simp,by simp⟩
 ·
  rintro k σ w_l⟨hs,hS,hk0,hall⟩;rw[← qk hs]; clear hs
  refine QwR (qq hS (g_lss rfl rfl) (QoN (vD (qj rfl ?_ ?_))))
  ·
   intro hc9
   try simp only[zA,zO,zN,zI,zF,zM,zT,zU]at hc9
   obtain⟨s,hsi⟩:∃s,l[k]? = some s:=⟨_,vC (by omega)⟩
   have hsA:=hl.at hsi;refine vL (vK (vD (vS (QwR (qq hS (Qmi rfl) (qq hS (Qai rfl) (QoR (qq hS (qb _) (qq hS (qb _) (qq hS (Qmi rfl) (qq hS (g_ixI xo xt hl rfl rfl (by omega) (by omega)) (qq hS (g_ldE (us:=[.bool _,.int .i64 _,.int .u8 _]) xt ud hsA rfl rfl rfl) (qe (yy hcg rfl rfl (hq s _ hS.imm)) ?_)))))))))))));rintro _ w_1⟨rfl,hE⟩;replace hS:=hS.callE hE;refine QoN (qj rfl ?_ ?_)
   ·
    intro hc16;have hany:l.any q=true:=List.any_eq_true.2 ⟨s,vI hsi,hc16⟩;refine QwR (qq hS (Qmi rfl) (qq hS (Qai rfl) (QoN (vM (uJ (xF (xF (uJ (xF (ret1 results104 (qh (v:=.int .i64 _) rfl) ?_))))))))))
    first | exact⟨_,rfl,by rw[hany]; simp,hS.nil⟩ | exact⟨_,rfl,by rw[hany]; simp; omega,hS.nil⟩
   ·
    intro hc16;refine vL (xO (vK (reg (qq hS (g_add rfl rfl (by omega) (by omega)) (qq hS (Qmi rfl) ?_)))));exact⟨k+1,_,rfl,⟨⟨rfl,rfl,rfl,rfl,trivial⟩,hS.sel [],by omega,kA hsi hall hc16⟩,by omega⟩
  ·
   intro hc9
   try simp only[zA,zO,zN,zI,zF,zM,zT,zU]at hc9
   have hk:k=l.length:=by omega
   subst hk;rw[xB]at hall;have hany:l.any q=false:=by simpa using hall
   refine xm (xh (xh (ua (vK (QwR (qq hS (Qai rfl) (QoN (vM (ret1 results104 (qh (v:=.int .i64 _) rfl) ?_)))))))))
   first | exact⟨_,rfl,by rw[hany]; simp,hS.nil⟩ | exact⟨_,rfl,by rw[hany]; simp; omega,hS.nil⟩
theorem containsFunc_c (vl : Value) (l : List Sym) (g : FuncId) (caps : List Value) (q : Sym → Bool) (w0 : World) (I0 : Imm) (hI : Sat I0 w0) (hl : RSyms I0 vl l) (hcg : ∀ args w, (callFunc g args).run prog w = .ok (.enter g args) w)
 (hq:∀s w,Sat I0 w→Ctr prog g (symV s::caps) w (fun v w'=>v = .bool (q s)∧Ext w I0 w' I0)) :
 Ctr prog 64 [vl,.func (.func g) #[] caps.toArray] w0 (fun v w'=>v = .bool (l.any q)∧Ext w0 I0 w' I0):=by
 refine fn (n:=9) func64 rfl rfl rfl ?_;have hS:=St.start hI;refine QwR (qq hS (Qab rfl) (QoR (qq hS (qb _) (qq hS (qb _) (qe (qg call104 rfl (indexFunc_c vl l g caps q _ I0 hS.imm hl hcg hq)) ?_)))));rintro _ w_1⟨r,rfl,hr,hE⟩;replace hS:=hS.callE hE;refine qq hS (g_geq rfl rfl) (qq hS (Qab rfl) (QoN (vM (ret1 results64 (qh (v:=.bool _) rfl) ⟨?_,hS.nil⟩))));congr 1
 rw[Bool.eq_iff_iff,decide_eq_true_iff]; exact hr
set_option maxHeartbeats 1000000 in
theorem operation_c (kind : Int) (vl : Value) (l : List Sym) (w0 : World) (I0 : Imm) (hI : Sat I0 w0) (hl : RSyms I0 vl l) (hk : Mid kind) (hne : 0 < l.length) (hn : l.length ≤ 65536) :
 Ctr prog 66 [.int .i64 kind,vl] w0 (fun v w'=>∃I' ad m cap,v=opV (opS kind l) ad m cap∧Ext w0 I0 w' I'∧RBytes I' (.slice ad m cap) (opS kind l).data):=by
 obtain⟨s0,hs0⟩:∃s,l[0]? = some s:=⟨_,vC hne⟩
 have hs0A:=hl.at hs0;have hhd:l.headD ⟨false,0,0⟩=s0:=by rw[List.headD_eq_head?_getD,List.head?_eq_getElem?,hs0]; rfl
 refine fn (n:=49) func66 rfl rfl rfl ?_;have hS:=St.start hI;refine QwR (qe (qv (cs:=[.int .i64 _,.int .i64 _,.int .i64 _,.int .u8 _,.slice _ _ _]) hS xY rfl) ?_);clear hS;rintro _ w_1⟨b4,rfl,hS⟩;refine QoR (qq hS (Qmi rfl) (qq hS (qb _) (qq hS (qo rfl xo hl rfl) (qq hS (qt (pl:=[(0,1),(1,1),(2,1),(3,1),(4,1)]) (cs:=[.int .i64 _,.int .i64 _,.int .i64 _,.int .u8 _,.slice _ _ _]) xY vO (fun w=>by simp[xj,vF,xd]) (mp (v:=.int .i64 _) rfl (mp (v:=.int .i64 _) rfl mp0)) rfl) ?_))));refine qe (qv (cs:=[.int .i64 _,.int .i64 _,.int .i64 _,.int .u8 _,.slice _ _ _]) hS xY rfl) ?_;clear hS;rintro _ w_2⟨b5,rfl,hS⟩;refine qe (qf 0 hS xb rfl rfl rfl (vs:=[.int .i64 _,.int .i64 _,.int .i64 _,.int .u8 _,.slice _ _ _]) rfl rfl rfl (vB rfl) (cs':=[_,_,_,_,_]) rfl) ?_;clear hS;rintro _ w_3⟨rfl,hS⟩;refine QoN (meet (fun σ w=>okS σ [(0,.int .i64 kind),(1,vl),(4,.pointer (some ⟨b4,0,none⟩)),(5,.pointer (some ⟨b5,0,none⟩))]∧St [] w0 I0 I0 w [.cel b5 57 [.int .i64 kind,.int .i64 (if kind=1∨kind=2 then (l.headD ⟨false,0,0⟩).at_ else 0),.int .i64 l.length,.int .u8 (if kind=3 then (l.headD ⟨false,0,0⟩).b else 0),.slice none 0 0],.cel b4 57 [.int .i64 0,.int .i64 0,.int .i64 0,.int .u8 0,.slice none 0 0]]) ?_ ?_)
 ·
  refine QwR (qq hS (Qmi rfl) (QoN (vS (meet (fun σ w=>okS σ [(0,.int .i64 kind),(1,vl),(4,.pointer (some ⟨b4,0,none⟩)),(5,.pointer (some ⟨b5,0,none⟩)),(12,.int .i64 kind),(13,.bool (decide (kind=1∨kind=2)))]∧St [] w0 I0 I0 w [.cel b5 57 [.int .i64 kind,.int .i64 0,.int .i64 l.length,.int .u8 0,.slice none 0 0],.cel b4 57 [.int .i64 0,.int .i64 0,.int .i64 0,.int .u8 0,.slice none 0 0]]) ?_ ?_))))
  ·
   refine QwR (qq hS (g_eql rfl rfl) (qq hS (Qab rfl) (QoN (qj rfl ?_ ?_))))
   ·
    intro hc13;simp only[vU,vW]at hc13;refine vL (vK ?_);exact⟨_,rfl,⟨rfl,rfl,rfl,rfl,rfl,by show Value.bool _=Value.bool _; congr 1; simp[hc13],trivial⟩,hS.sel [true,true]⟩
   ·
    intro hc13;simp only[vU,vW]at hc13;refine reg (qq hS (g_eql rfl rfl) (qq hS (Qab rfl) (QoN ?_)));exact⟨_,rfl,⟨rfl,rfl,rfl,rfl,rfl,by show Value.bool _=Value.bool _; congr 1; simp[hc13],trivial⟩,hS.sel [true,true]⟩
  ·
   rintro σ w⟨hs,hS⟩;rw[← qk hs];refine qj rfl ?_ ?_
   ·
    intro hc13_2;simp only[vU,vW]at hc13_2;have hfr:(if kind=1∨kind=2 then (l.headD ⟨false,0,0⟩).at_ else 0)=s0.at_:=by rw[vJ hc13_2,hhd]
    have hbb:(if kind=3 then (l.headD ⟨false,0,0⟩).b else 0)=0:=vG (by omega);refine reg (qq hS (qb _) (qq hS (g_ixI xo xt hl rfl rfl (by omega) (by omega)) (qq hS (qw (c':=1) xe rfl vF rfl rfl rfl) (qq hS (qJ vV hs0A rfl rfl) (qq hS (qa (o':=1) vO rfl vF rfl rfl rfl) (qe (qf 0 hS vF rfl rfl rfl (vs:=[.int .i64 _]) rfl rfl rfl (vB rfl) (cs':=[_,_,_,_,_]) rfl) ?_))))));clear hS;rintro _ w_4⟨rfl,hS⟩;refine qB (xO (vK (⟨_,rfl,⟨rfl,rfl,rfl,rfl,trivial⟩,?_⟩)));rw[hfr,hbb];exact hS.sel [true,true]
   ·
    intro hc13_2;simp only[vU,vW]at hc13_2;refine QwR (qq hS (g_eql rfl rfl) (qq hS (Qab rfl) (QoN (qj rfl ?_ ?_))))
    ·
     intro hc21;simp only[vU,vW]at hc21;have hfr:(if kind=1∨kind=2 then (l.headD ⟨false,0,0⟩).at_ else 0)=0:=vG (by omega);have hbb:(if kind=3 then (l.headD ⟨false,0,0⟩).b else 0)=s0.b:=by rw[vJ hc21,hhd]
     refine reg (qq hS (qb _) (qq hS (g_ixI xo xt hl rfl rfl (by omega) (by omega)) (qq hS (qw (c':=2) xe rfl xd rfl rfl rfl) (qq hS (qJ xR hs0A rfl rfl) (qq hS (qa (o':=3) vO rfl xd rfl rfl rfl) (qe (qf 0 hS xd rfl rfl rfl (vs:=[.int .u8 _]) rfl rfl rfl (vB rfl) (cs':=[_,_,_,_,_]) rfl) ?_))))));clear hS;rintro _ w_5⟨rfl,hS⟩;refine qB (xO (vK (⟨_,rfl,⟨rfl,rfl,rfl,rfl,trivial⟩,?_⟩)));rw[hfr,hbb];exact hS.sel [true,true]
    ·
     intro hc21;simp only[vU,vW]at hc21;have hfr:(if kind=1∨kind=2 then (l.headD ⟨false,0,0⟩).at_ else 0)=0:=vG (by omega);have hbb:(if kind=3 then (l.headD ⟨false,0,0⟩).b else 0)=0:=vG hc21;refine vL (xO (vK (⟨_,rfl,⟨rfl,rfl,rfl,rfl,trivial⟩,?_⟩)));rw[hfr,hbb];exact hS.sel [true,true]
 ·
  rintro σ w⟨hs,hS⟩;rw[← qk hs];refine vD (QwR (qq hS (Qmi rfl) (qq hS (g_eql rfl rfl) (qq hS (Qmb rfl) (qu rfl rfl hS (fun hg=>(Qmi rfl)) ?_)))));intro u31 hu31 hn31;refine qu rfl rfl hS (fun hg=>(g_eql (hu31 hg) rfl)) ?_;intro u32 hu32 hn32;refine qq hS (g_or rfl rfl (fun hq=>hu32 hq)) (QoN (qj rfl ?_ ?_))
  ·
   intro hc33;clear hu31 hn31 hu32 hn32
   try simp only[zA,zO,zN,zI,zF,zM,zT,zU]at hc33
   have hdat:(opS kind l).data=l.map (·.b):=by unfold opS; rw[vJ hc33]
   refine QwR (qq hS (qb _) (qq hS (qo rfl xo hl rfl) (qq hS (Qmi rfl) (QoN (vS (loop (fun(x:Nat×Option Addr×Nat) σ w=>okS σ [(34,vl),(35,.int .i64 l.length),(36,.int .i64 x.1),(4,.pointer (some ⟨b4,0,none⟩)),(5,.pointer (some ⟨b5,0,none⟩))]∧St [] w0 I0 I0 w [.row (.slice x.2.1 x.1 x.2.2) 5 1 x.1 (flat byteC ((l.take x.1).map (·.b))),.cel b5 57 [.int .i64 kind,.int .i64 (if kind=1∨kind=2 then (l.headD ⟨false,0,0⟩).at_ else 0),.int .i64 l.length,.int .u8 (if kind=3 then (l.headD ⟨false,0,0⟩).b else 0),.slice x.2.1 x.1 x.2.2],.cel b4 57 [.int .i64 0,.int .i64 0,.int .i64 0,.int .u8 0,.slice none 0 0]]∧x.1≤l.length) (fun x=>l.length - x.1) ((0,none,0)) ?_ ?_))))))
   ·
    exact⟨⟨rfl,rfl,rfl,rfl,rfl,trivial⟩,(hS.sel [true,true]).nilRow _ _,by simp⟩
   ·
    rintro⟨k,a,c⟩σ w_l⟨hs,hS,hk0⟩;dsimp only at hs hS hk0 ⊢;rw[← qk hs]; clear hs
    refine QwR (qq hS (g_lss rfl rfl) (QoN (vD (qj rfl ?_ ?_))))
    ·
     intro hc37
     try simp only[zA,zO,zN,zI,zF,zM,zT,zU]at hc37
     obtain⟨s,hsi⟩:∃s,l[k]? = some s:=⟨_,vC (by omega)⟩
     have hsA:=hl.at hsi;refine vL (vK (vD (vS (QwR (qq hS (g_ixI xo xt hl rfl rfl (by omega) (by omega)) (qq hS (g_ldE (us:=[.bool _,.int .i64 _,.int .u8 _]) xt ud hsA rfl rfl rfl) (qe (qv (cs:=[.bool _,.int .i64 _,.int .u8 _]) hS xU rfl) ?_)))))));clear hS;rintro _ w_6⟨b7,rfl,hS⟩;refine qe (qf 0 hS xt rfl rfl rfl (vs:=[.bool _,.int .i64 _,.int .u8 _]) rfl rfl rfl (vB rfl) (cs':=[_,_,_]) rfl) ?_;clear hS;rintro _ w_7⟨rfl,hS⟩;refine QoN (reg (qq hS (qa (o':=4) vO rfl xj rfl rfl rfl) (qq hS (qd 2 ub rfl rfl rfl) (qq hS (qa (o':=2) xe rfl xd rfl rfl rfl) (qq hS (qd 0 xR rfl rfl rfl) ?_)))));refine qe (d_lit (vs:=[.int .u8 _]) (cs:=[.int .u8 _]) hS vH xd uR rfl rfl rfl rfl (fun v hv=>by simp only[vN,vP,or_false]at hv; subst hv; rfl) rfl) ?_;clear hS;rintro _ w_8⟨b_8,rfl,hS⟩;refine qe (qV 2 0 hS rfl vH uH rfl rfl rfl rfl rfl rfl rfl rfl (by omega) (by omega)) ?_;clear hS;rintro _ w_9⟨a45,p45,rfl,hS⟩;refine qq hS (qa (o':=4) vO rfl xj rfl rfl rfl) (qe (qf 3 hS xj rfl rfl rfl (vs:=[.slice _ _ _]) rfl rfl rfl (vB rfl) (cs':=[_,_,_,_,_]) rfl) ?_);clear hS;rintro _ w_10⟨rfl,hS⟩;refine qB (xO (vK (reg (qq hS (g_add rfl rfl (by omega) (by omega)) (qq hS (Qmi rfl) ?_)))));refine⟨(k+1,a45,p45),_,rfl,⟨⟨rfl,rfl,rfl,rfl,rfl,trivial⟩,?_,by dsimp only; omega⟩,by dsimp only; omega⟩;dsimp only;rw[qy hsi,uf,ql,xS,List.map_nil,ju];exact hS.sel [false,false,true,true,true]
    ·
     intro hc37
     try simp only[zA,zO,zN,zI,zF,zM,zT,zU]at hc37
     have hk':k=l.length:=by omega
     subst hk';rw[xB]at hS;refine xm (xh (xh (ua (vK (QwR (qq hS (g_ldO 1 (vs:=[.int .i64 _,.int .i64 _,.int .i64 _,.int .u8 _,.slice _ _ _]) xb xJ rfl rfl rfl rfl) (qe (qf 2 hS xb rfl rfl rfl (vs:=[.int .i64 _,.int .i64 _,.int .i64 _,.int .u8 _,.slice _ _ _]) rfl rfl rfl (vB rfl) (cs':=[_,_,_,_,_]) rfl) ?_)))))));clear hS;rintro _ w_11⟨rfl,hS⟩;refine QoN (vM (ret1 results66 (qD 2 hS xb xJ rfl rfl rfl) ?_));have hS1:=hS.sel [true,false,false];obtain⟨I1,hE1,hI1,hd1⟩:=kd qx (xs:=l.map (·.b)) hS1 (by simp);exact⟨I1,a,l.length,c,rfl,hE1,by rw[hdat]; exact hd1⟩
  ·
   intro hc33;clear hu31 hn31 hu32 hn32
   try simp only[zA,zO,zN,zI,zF,zM,zT,zU]at hc33
   have hdat:(opS kind l).data=[]:=by show(if kind=2∨kind=4 then _ else _)=_; rw[vG (by omega)]
   refine vL (vK (QwR (qq hS (g_ldO 0 (vs:=[.int .i64 _,.int .i64 _,.int .i64 _,.int .u8 _,.slice _ _ _]) xb xJ rfl rfl rfl rfl) (qe (qf 1 hS xb rfl rfl rfl (vs:=[.int .i64 _,.int .i64 _,.int .i64 _,.int .u8 _,.slice _ _ _]) rfl rfl rfl (vB rfl) (cs':=[_,_,_,_,_]) rfl) ?_))));clear hS;rintro _ w_12⟨rfl,hS⟩;refine QoN (vM (ret1 results66 (qD 1 hS xb xJ rfl rfl rfl) ?_));exact⟨I0,none,0,0,rfl,hS.nil,by rw[hdat]; exact RFl.nil⟩
set_option maxHeartbeats 2000000 in
theorem cheapest_c (ad : Option Addr) (cap : Nat) (l : List Sym) (size : Int) (w0 : World) (I0 : Imm) (hI : Sat I0 w0) (hl : RSyms I0 (.slice ad l.length cap) l) (hw : ∀ s ∈ l, s.wf) :
 Ctr prog 29 [.slice ad l.length cap,.int .i64 size] w0 (fun v w'=>∃I' a m c,v = .tuple #[.agg #[.bool (cheapP l size).1.lifted,.int .i64 (cheapP l size).1.in_,.int .i64 (cheapP l size).1.out,.slice a m c],.int .i64 (cheapP l size).2]∧Ext w0 I0 w' I'∧ROps I' (.slice a m c) (cheapP l size).1.ops):=by
 have hll:=RSl.le hl;simp only[maxLen]at hll;have hlc:l.length≤cap:=by
  rcases hl with ⟨h1,h2⟩ | ⟨_,_,_,h1,h2,_⟩
  · rw[h2]; simp
  · cases h1; exact h2
 refine fn (n:=77) func29 rfl rfl rfl ?_;have hS:=St.start hI;refine QwR (qe (d_box (cs:=[.int .i64 _]) hS rfl) ?_);clear hS;rintro _ w_1⟨b3,rfl,hS⟩;refine qe (qv (cs:=[.bool _,.int .i64 _,.int .i64 _,.slice _ _ _]) hS xw rfl) ?_;clear hS;rintro _ w_2⟨b4,rfl,hS⟩;refine qq hS (Qai rfl) (QoN (vD ?_));obtain⟨I1,hS,hI1,hb3⟩:=hS.freezeAt 1 rfl;replace hS:St [] w0 I0 I1 _ [.cel b4 26 [.bool false,.int .i64 0,.int .i64 0,.slice none 0 0]]:=hS;refine reg (qq hS (g_makeFuncL ml0 (ml rfl ml0)) (qq hS (qc _) (QoN (vD (QwR (qq hS (vn (c:=0) vV hb3 rfl rfl) (qq hS (g_lss rfl rfl) (qq hS (Qmb rfl) (qu rfl rfl hS (fun hg=>(vn (c:=0) vV hb3 rfl rfl)) ?_)))))))));intro u15 hu15 hn15;refine qu rfl rfl hS (fun hg=>(g_gtr (hu15 hg) rfl)) ?_;intro u16 hu16 hn16;refine qq hS (g_or rfl rfl (fun hq=>hu16 hq)) (qq hS (Qmb rfl) (qu rfl rfl hS (fun hg=>(qb _)) ?_));intro u19 hu19 hn19;refine qu rfl rfl hS (fun hg=>(qo rfl xo hl (hu19 hg))) ?_;intro u20 hu20 hn20;refine qu rfl rfl hS (fun hg=>(g_gtr (hu20 hg) rfl)) ?_;intro u21 hu21 hn21;refine qq hS (g_or rfl rfl (fun hq=>hu21 hq)) (qq hS (Qmb rfl) (qu rfl rfl hS (fun hg=>(qb _)) ?_));intro u24 hu24 hn24;refine qu rfl rfl hS (fun hg=>(qb _)) ?_;intro u25 hu25 hn25;refine cvu rfl rfl hS (fun hg=>(qg call64 (ml (hu24 hg) (ml (hu25 hg) ml0)) (containsFunc_c _ l 63 [.pointer (some ⟨b3,0,none⟩)] (strange size) _ I1 hS.imm (hl.mono hI1) call63 (fun s w hIw=>strange_c s size b3 w I1 hIw hb3)))) ?_;intro w_4 u26 hS hu26 hn26;refine qq hS (g_or rfl rfl (fun hq=>hu26 hq)) (QoN (qj rfl ?_ ?_))
 ·
  intro hc27;clear hu15 hn15 hu16 hn16 hu19 hn19 hu20 hn20 hu21 hn21 hu24 hn24 hu25 hn25 hu26 hn26;have e:cheapP l size=(PatL.zero,60):=by unfold cheapP; rw[vJ hc27]
  refine QwR (qq hS (qt (pl:=[(0,1),(1,1),(2,1),(3,1)]) (cs:=[.bool _,.int .i64 _,.int .i64 _,.slice _ _ _]) xw vT (fun w=>by simp[xD,vF,xE]) mp0 rfl) (qe (qf 0 hS vZ rfl rfl rfl (vs:=[.bool _,.int .i64 _,.int .i64 _,.slice _ _ _]) rfl rfl rfl (vB rfl) (cs':=[_,_,_,_]) rfl) ?_));clear hS;rintro _ w_5⟨rfl,hS⟩;refine qq hS (Qai rfl) (QoN (vM (xF (ret2 results29 (qD 0 hS vZ xy rfl rfl rfl) (qh (v:=.int .i64 _) rfl) ?_))));rw[e]; exact⟨I0,none,0,0,rfl,hS.nil.back,RSl.nilR⟩
 ·
  intro hc27;clear hu15 hn15 hu16 hn16 hu19 hn19 hu20 hn20 hu21 hn21 hu24 hn24 hu25 hn25 hu26 hn26;have hbad:=hc27;simp only[ue,vW]at hc27;obtain⟨⟨⟨hn0,hn1⟩,hn2⟩,hany⟩:=hc27;have hok:∀s∈l,s.ok:=by
   intro s hs;have h1:=hw s hs;have h2:strange size s=false:=by
    cases h:strange size s with
    | false=>rfl
    | true=>have:=List.any_eq_true.2 ⟨s,hs,h⟩; rw[hany]at this; cases this
   unfold strange at h2;obtain⟨k1,k2,k3,k4⟩:=h1;refine⟨?_,?_,k3,k4⟩ <;> cases ho:s.old <;> simp[ho]at h2 <;> omega
  have htl:=jx l;obtain⟨p0,hp0⟩:∃p,(tab l)[0]? = some p:=⟨_,vC (by omega)⟩
  have hph:(tab l).headD Pl.zero=p0:=by rw[List.headD_eq_head?_getD,List.head?_eq_getElem?,hp0]; rfl
  have hb0:=qG kD (tab l) 0 p0 hp0 1 _ rfl;refine vL (vK (QwR (qq hS (vn (c:=0) vV hb3 rfl rfl) (qq hS (qb _) (qq hS (qo rfl xo hl rfl) (qq hS (qt (pl:=[(0,1),(1,1),(2,1),(3,1)]) (cs:=[.bool _,.int .i64 _,.int .i64 _,.slice _ _ _]) xw vT (fun w=>by simp[xD,vF,xE]) (mp (v:=.int .i64 _) rfl (mp (v:=.int .i64 _) rfl mp0)) rfl) ?_))))));refine qe (qv (cs:=[.bool _,.int .i64 _,.int .i64 _,.slice _ _ _]) hS xw rfl) ?_;clear hS;rintro _ w_6⟨b7,rfl,hS⟩;refine qe (qf 0 hS vZ rfl rfl rfl (vs:=[.bool _,.int .i64 _,.int .i64 _,.slice _ _ _]) rfl rfl rfl (vB rfl) (cs':=[_,_,_,_]) rfl) ?_;clear hS;rintro _ w_7⟨rfl,hS⟩;refine QoR (qq hS (qb _) (qe (qg call65 rfl (table_c _ l _ I1 hS.imm (hl.mono hI1) hok (by omega))) ?_));rintro _ w_8⟨bt,rfl,hE⟩;replace hS:=hS.call hE;refine qq hS (qc _) (QoN (vD (QwR (qq hS (qb _) (qq hS (jJ uE uD rfl rfl (by omega) (by omega)) (qq hS (qa (o':=0) xr rfl xG rfl rfl rfl) (qq hS (qa (o':=1) uy rfl vF rfl rfl rfl) (qq hS (qd 0 vV rfl rfl hb0) (qq hS (g_gtr rfl rfl) (QoN (qj rfl ?_ ?_)))))))))))
  ·
   intro hc40
   try simp only[zA,zO,zN,zI,zF,zM,zT,zU]at hc40
   have e:cheapP l size=(PatL.zero,2):=by unfold cheapP; rw[vG (by rw[hbad]; decide),hph,vJ hc40]
   refine QwR (qq hS (qt (pl:=[(0,1),(1,1),(2,1),(3,1)]) (cs:=[.bool _,.int .i64 _,.int .i64 _,.slice _ _ _]) xw vT (fun w=>by simp[xD,vF,xE]) mp0 rfl) (qe (qf 2 hS vZ rfl rfl rfl (vs:=[.bool _,.int .i64 _,.int .i64 _,.slice _ _ _]) rfl rfl rfl (vB rfl) (cs':=[_,_,_,_]) rfl) ?_));clear hS;rintro _ w_9⟨rfl,hS⟩;refine qq hS (Qai rfl) (QoN (vM (xF (ret2 results29 (qD 2 hS vZ xy rfl rfl rfl) (qh (v:=.int .i64 _) rfl) ?_))));rw[e]; exact⟨I0,none,0,0,rfl,hS.nil.back,RSl.nilR⟩
  ·
   intro hc40
   try simp only[zA,zO,zN,zI,zF,zM,zT,zU]at hc40
   have e:cheapP l size=(⟨false,size,l.length,opsT (tab l) l (l.length+1) 0⟩,0):=by unfold cheapP; rw[vG (by rw[hbad]; decide),hph,vG hc40]
   refine vL (vK (vD (QwR (qq hS (Qai rfl) (QoN (vS (loop (fun(x:LS) σ w=>okS σ [(0,.slice ad l.length cap),(4,.pointer (some ⟨b4,0,none⟩)),(7,.pointer (some ⟨b7,0,none⟩)),(8,.slice (some ⟨bt,0,none⟩) (l.length+1) (l.length+1)),(9,.int .i64 x.i)]∧∃I,St [] w0 I0 I w [.row (.slice x.a x.done.length x.c) 57 5 x.done.length x.css.flatten,.cel b7 26 [.bool false,.int .i64 size,.int .i64 l.length,.slice x.a x.done.length x.c],.cel bt 137 (flat plC (tab l)),.cel b4 26 [.bool false,.int .i64 0,.int .i64 0,.slice none 0 0]]∧x.i≤l.length∧x.done++opsT (tab l) l x.f x.i=opsT (tab l) l (l.length+1) 0∧l.length - x.i < x.f∧All2 (ROp I) x.css x.done∧(∀cs∈x.css,cs.length=5)∧x.done.length≤x.i) (fun x=>l.length - x.i) (⟨0,l.length+1,[],[],none,0⟩) ?_ ?_)))))))
   ·
    exact⟨⟨rfl,rfl,rfl,rfl,rfl,trivial⟩,_,(hS.perm (List.Perm.swap _ _ _) |>.sel [true,true,true]).nilRow _ _,by simp,by simp,by simp,All2.nil _,by simp,by simp⟩
   ·
    rintro⟨i,f,done,css,a,c⟩σ w_l⟨hs,I,hS,hi0,hdone,hf0,hall,hcl,hdl⟩;dsimp only at hs hS hi0 hdone hf0 hall hcl hdl ⊢;rw[← qk hs]; clear hs
    refine vD (QwR (qq hS (Qmi rfl) (qq hS (qb _) (qq hS (qo rfl xo hl rfl) (qq hS (g_lss rfl rfl) (QoN (qj rfl ?_ ?_)))))))
    ·
     intro hc45
     try simp only[zA,zO,zN,zI,zF,zM,zT,zU]at hc45
     obtain⟨pi,hpi⟩:∃p,(tab l)[i]? = some p:=⟨_,vC (by omega)⟩
     have hpg:=jX l i pi hpi;have hpp:=tab_pos l i pi hpi (by omega);have hpl1:=hpg.n1;have hkm:Mid pi.kind:=yA l i pi hpi;obtain⟨f',hf'⟩:∃f',f=f'+1:=⟨f - 1,by omega⟩
     subst hf';rw[zY (by omega) hpi]at hdone;refine vL (vK (vD (vS (QwR (qq hS (Qmi rfl) (qq hS (qb _) (qq hS (Qmi rfl) (qq hS (jl (o:=i*12) uE uD rfl rfl (by omega) (by omega) rfl) (qq hS (qa (o':=i*12+3) xr rfl vF rfl rfl rfl) (qq hS (qd 2 vV rfl rfl (qG kD _ i pi hpi 3 _ rfl)) (qq hS (g_add rfl rfl (by omega) (by omega)) (qq hS (Qai rfl) (QoN ?_)))))))))))));refine draw (.cons 0 .pure (.cons 1 .held (.cons 2 .pure (.cons 3 .pure (.cons 4 .pure (.cons 5 .pure (.cons 6 .held (.cons 7 .pure (.cons 8 .pure (.cons 9 .pure (.cons 10 .pure (.cons 11 .pure (.cons 12 .eff (.cons 13 .eff (.cons 14 .bar (.cons 15 .pure (.cons 16 .bar .nil))))))))))))))))) mixed (by kernel_rfl) hS ?_;intro w_10 hS;refine sp rfl (qa (o':=3) vT rfl xD rfl rfl rfl) (sh rfl (qd 1 um rfl rfl rfl) (sp rfl (qb _) (sp rfl (Qmi rfl) (sp rfl (jl (o:=i*12) uE uD rfl rfl (by omega) (by omega) rfl) (sp rfl (qa (o':=i*12+2) xr rfl vF rfl rfl rfl) (sh rfl (qd 2 vV rfl rfl (qG kD _ i pi hpi 2 _ rfl)) (sp rfl (qb _) ?_)))))));refine sp rfl (Qmi rfl) (sp rfl (Qmi rfl) (sp rfl (Qmi rfl) (sp rfl (g_slice3N (l0:=i) (h0:=i+pi.length.toNat) (m0:=i+pi.length.toNat) xo xt rfl rfl rfl rfl (by omega) (by omega) (by omega) (by omega) (by omega) (by omega) (by omega)) ?_)));have hS0:=hS;refine se rfl (qg call66 rfl (operation_c pi.kind _ _ _ I hS.imm ((hl.mono hS.ext).resl i (i+pi.length.toNat) (by omega) (by omega)) hkm (by rw[ug,xc]; omega) (by rw[ug,xc]; omega))) ?_;rintro _ w_11⟨I2,a2,m2,c2,rfl,hE,hd2⟩;replace hS:=hS.call hE;refine⟨_,_,hS0.le hE.ext (xK _),hS,?_⟩
     have hS0:=hS;refine se rfl (d_lit (vs:=[.agg #[.int .i64 _,.int .i64 _,.int .i64 _,.int .u8 _,.slice _ _ _]]) (cs:=[.int .i64 _,.int .i64 _,.int .i64 _,.int .u8 _,.slice _ _ _]) hS xz xb xY rfl rfl rfl rfl (fun v hv=>by simp only[vN,vP,or_false]at hv; subst hv; rfl) rfl) ?_;rintro _ w_12⟨b_12,rfl,hS⟩;refine⟨_,_,hS0.le (Sub.refl _) (xQ _ _),hS,sb rfl (qV 1 0 hS rfl xz info57 rfl rfl rfl rfl rfl rfl rfl rfl (by omega) (by omega)) ?_⟩;rintro _ w_13⟨a74,p74,rfl,hS⟩;refine⟨_,_,hS,sp rfl (qa (o':=3) vT rfl xD rfl rfl rfl) (sb rfl (qf 2 hS xD rfl rfl rfl (vs:=[.slice _ _ _]) rfl rfl rfl (vB rfl) (cs':=[_,_,_,_]) rfl) ?_)⟩;rintro _ w_14⟨rfl,hS⟩;refine⟨_,_,hS,sn (xO (vK (reg (qq hS (Qmi rfl) (qq hS (qb _) (qq hS (Qmi rfl) (qq hS (jl (o:=i*12) uE uD rfl rfl (by omega) (by omega) rfl) (qq hS (qa (o':=i*12+3) xr rfl vF rfl rfl rfl) (qq hS (qd 3 vV rfl rfl (qG kD _ i pi hpi 3 _ rfl)) (qq hS (g_add rfl rfl (by omega) (by omega)) ?_))))))))))⟩;refine qq hS (Qai rfl) ?_;refine ⟨⟨i + pi.length.toNat, f', done ++ [opS pi.kind ((l.take (i + pi.length.toNat)).drop i)], css ++ [_], a74, p74⟩, _, rfl, ⟨⟨rfl, rfl, rfl, rfl, by show Value.int .i64 (↑i + pi.length) = Value.int .i64 _; congr 1; dsimp only; omega, trivial⟩, _, ?_, by dsimp only; omega, by dsimp only; rw [xa]; exact hdone, by dsimp only; omega,
      All2.snoc (hall.mono fun _ _ h=>h.mono hE.ext) ⟨_,_,_,rfl,hd2⟩,?_,by dsimp only; simp; omega⟩,by dsimp only; omega⟩
     · dsimp only
       rw[Qb,List.flatten_singleton,vE];exact hS.sel [false,true,true,true,true]
     · intro cs hcs
       rcases xA.1 hcs with h | h
       · exact hcl cs h
       · simp only[xi]at h; subst h; rfl
    ·
     intro hc45
     try simp only[zA,zO,zN,zI,zF,zM,zT,zU]at hc45
     rw[zB (by omega),List.append_nil]at hdone;refine xm (xh (xh (ua (vK (QwR (qq hS (g_ldO 1 (vs:=[.bool _,.int .i64 _,.int .i64 _,.slice _ _ _]) vZ xy rfl rfl rfl rfl) (qe (qf 3 hS vZ rfl rfl rfl (vs:=[.bool _,.int .i64 _,.int .i64 _,.slice _ _ _]) rfl rfl rfl (vB rfl) (cs':=[_,_,_,_]) rfl) ?_)))))));clear hS;rintro _ w_15⟨rfl,hS⟩;refine qq hS (Qai rfl) (QoN (vM (ret2 results29 (qD 3 hS vZ xy rfl rfl rfl) (qh (v:=.int .i64 _) rfl) ?_)));obtain⟨I3,hS3,hI3,ho3⟩:=St.freezeRowR (hS.sel [true,false,false,false]) rfl hcl hall;rw[e,← hdone];exact⟨I3,a,done.length,c,rfl,hS3,RSl.mono ho3 (Sub.refl _) fun _ _ h=>h.mono hI3⟩
end Go.Proofs.YtgkgihnpjgbmhaaGreatDoor
namespace Go.Proofs.YtgkgihnpjgbmhaaGreatDoor
open Tryz
open Go Go.RowKit Go.Inl
theorem jP {p:PatL}(hp:p.wf):∀s∈(symbolsP p).1,s.wf:=by
 intro s hs;unfold symbolsP at hs;split at hs
 · rename_i h
   obtain⟨h1,h2,h3,h4,h5,h6,h7⟩:=qM h;simp only[symsOf,List.mem_flatMap,symsOp,uI,List.mem_range]at hs;obtain⟨x,hx,i,hi,rfl⟩:=hs;obtain⟨l1,l2⟩:=h1 x hx;have hw:=hp.ops x hx;obtain⟨⟨k1,k2⟩,⟨f1,f2⟩,⟨q1,q2⟩,⟨b1,b2⟩,hdat⟩:=hw;have hd:0≤x.data.getD i 0∧x.data.getD i 0≤255:=by
    rw[vQ];cases e:x.data[i]? with
    | none=>simp
    | some y=>exact hdat y (vI e)
   unfold rightP insideP at l2;unfold symS;split at l2
   · rename_i hk; simp only[xf,vU]at l2; rw[vJ hk]; exact⟨by dsimp only; omega,by dsimp only; omega,by dsimp only; omega,by dsimp only; omega⟩
   · rename_i hk; rw [vG hk]
     split at l2
     · rename_i hk; simp only[xf,vU]at l2; rw[vJ hk]; exact⟨by dsimp only; omega,by dsimp only; omega,hd.1,hd.2⟩
     · rename_i hk; rw [vG hk]
       split at l2
       · rename_i hk; rw[vJ hk]; exact⟨by dsimp only; omega,by dsimp only; omega,b1,b2⟩
       · rename_i hk; rw [vG hk]
         split at l2
         · rename_i hk; rw[vJ hk]; exact⟨by dsimp only; omega,by dsimp only; omega,hd.1,hd.2⟩
         · cases l2
 · simp at hs
theorem symbols_c (p : PatL) (ad : Option Addr) (m cap : Nat) (w0 : World) (I0 : Imm) (hI : Sat I0 w0) (hops : ROps I0 (.slice ad m cap) p.ops) (hp : p.wf) :
 Ctr prog 27 [.agg #[.bool p.lifted,.int .i64 p.in_,.int .i64 p.out,.slice ad m cap]] w0 (fun v w'=>∃I' a c,v = .tuple #[.slice a (symbolsP p).1.length c,.int .i64 (symbolsP p).2]∧Ext w0 I0 w' I'∧RSyms I' (.slice a (symbolsP p).1.length c) (symbolsP p).1) :=
 (symbols_o p ad m cap w0 I0 hI hops hp).mono fun v w' ⟨a,c,hv,hS⟩=>by
   obtain⟨I1,hE,_,hr⟩:=kd jF hS rfl;exact⟨I1,a,c,hv,hE,hr⟩
end Go.Proofs.YtgkgihnpjgbmhaaGreatDoor
