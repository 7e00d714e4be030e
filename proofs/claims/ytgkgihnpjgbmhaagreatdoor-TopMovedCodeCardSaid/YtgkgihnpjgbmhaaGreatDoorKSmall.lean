/- The small functions of package normal: what they compute. Conditions: symbols and prices within bounds. The functions of package patch that check patches and make symbols of them: what they compute. Conditions: numbers within bounds. patch.Check and patch.Symbols: what they compute. Conditions: numbers within bounds. normal.table fills the table of places. Conditions: at most 65536 right symbols. normal.Cheapest and normal.Form: what they compute. Conditions: numbers within bounds. normal.Form and normal.Same: what they compute. Conditions: numbers within bounds. -/
import Derived.Test.YtgkgihnpjgbmhaaGreatDoorFacts
import Derived.Test.YtgkgihnpjgbmhaaGreatDoorKCore2
import Derived.KernelRfl
import Derived.Test.YtgkgihnpjgbmhaaGreatDoorTabB
set_option linter.unusedSimpArgs false
set_option linter.unusedVariables false
namespace Go.Proofs.YtgkgihnpjgbmhaaGreatDoor
open Tryz
open Go Go.RowKit Go.Inl
theorem eqlSym {n:Nat}{σ:Nat→Value}{S:World→Prop}{ty t':TypeId}{x y:Operand}(a b:Sym)(hx:ev n σ x=symV a)(hy:ev n σ y=symV b):Gives prog (ev n σ) S (.binOp .eql 80 x y t') ty (.bool (symEq a b)):=fun w _=>by
 have hg:(eqGuard .eql 80 x y (symV a) (symV b)).run prog w = .ok () w:=by simp[eqGuard,symV,go_sem,eqGuardType80]
 have hb:(binOp .eql 80 (symV a) (symV b)).run prog w = .ok (.bool (symEq a b)) w:=by
  simp[symV,go_sem,symEq]
  by_cases h1:a.old=b.old <;> by_cases h2:a.at_=b.at_ <;> by_cases h3:a.b=b.b <;> simp[h1,h2,h3]
 simp only[execOp,hx,hy,Sem.run_bind,hg,Result.andThen_ok,hb]; rfl
theorem less_c (p q:Pr)(w:World)(I:Imm)(hI:Sat I w):Ctr prog 132 [prV p,prV q] w (fun v w'=>v = .bool (p.less q)∧Ext w I w' I):=by
 refine fn (n:=24) func132 rfl rfl rfl ?_;have Z:=St.start hI;refine QwR (qe (d_box (cs:=[.ig _,.ig _]) Z rfl) ?_);clear Z;rintro _ w_1⟨b_1,rfl,Z⟩;refine qe (d_box (cs:=[.ig _,.ig _]) Z rfl) ?_;clear Z;rintro _ w_2⟨b_2,rfl,Z⟩;refine qq Z (Qab rfl) (QoR (qq Z (qa (o':=0) QY rfl xK rfl rfl rfl) (qq Z (qc 1 xW rfl rfl rfl) (qq Z (qa (o':=0) QY rfl xK rfl rfl rfl) (qq Z (qc 0 xW rfl rfl rfl) (qq Z (g_lss rfl rfl) (qq Z (Qmb rfl) (qu rfl rfl Z (fun hg=>(qa (o':=0) QY rfl xK rfl rfl rfl)) ?_))))))));intro u11 hu11 hn11;refine qu rfl rfl Z (fun hg=>(qc 1 xW rfl (hu11 hg) rfl)) ?_;intro u12 hu12 hn12;refine qu rfl rfl Z (fun hg=>(qa (o':=0) QY rfl xK rfl rfl rfl)) ?_;intro u13 hu13 hn13;refine qu rfl rfl Z (fun hg=>(qc 0 xW rfl (hu13 hg) rfl)) ?_;intro u14 hu14 hn14;refine qu rfl rfl Z (fun hg=>(g_eql (hu12 hg) (hu14 hg))) ?_;intro u15 hu15 hn15;refine qu rfl rfl Z (fun hg=>(qx (hu15 hg))) ?_;intro u16 hu16 hn16;refine qn rfl hu16 hn16 Z (fun hg=>(qa (o':=1) QY rfl xK rfl rfl rfl)) ?_;intro u17 hu17 hn17;refine qn rfl hu16 hn16 Z (fun hg=>(qc 1 xW rfl (hu17 hg) rfl)) ?_;intro u18 hu18 hn18;refine qn rfl hu16 hn16 Z (fun hg=>(qa (o':=1) QY rfl xK rfl rfl rfl)) ?_;intro u19 hu19 hn19;refine qn rfl hu16 hn16 Z (fun hg=>(qc 0 xW rfl (hu19 hg) rfl)) ?_;intro u20 hu20 hn20;refine qn rfl hu16 hn16 Z (fun hg=>(g_lss (hu18 hg) (hu20 hg))) ?_;intro u21 hu21 hn21;refine qu rfl rfl Z (fun hg=>(g_and (hu16 hg) rfl (fun hq=>hu21 ⟨hg,hq⟩))) ?_;intro u22 hu22 hn22;refine qq Z (g_or rfl rfl (fun hq=>hu22 hq)) (qq Z (Qab rfl) (QoN (xO (ret1 results132 (qg (v:=.bool _) rfl) ?_))))
 exact⟨rfl,Z.nil⟩
theorem vK (p : Pr) (c o : Int) (w : World) (I : Imm) (hI : Sat I w) (h1 : p.ok 1000000000) (h3 : 0 ≤ c ∧ c ≤ 100) (h4 : 0 ≤ o ∧ o ≤ 100) :
 Ctr prog 107 [prV p,.ig c,.ig o] w (fun v w'=>v=prV (p.plus c o)∧Ext w I w' I):=by
 obtain⟨g1,g2,g3,g4⟩:=h1;refine fn (n:=16) func107 rfl rfl rfl ?_;have Z:=St.start hI;refine QwR (qe (d_box (cs:=[.ig _,.ig _]) Z rfl) ?_);clear Z;rintro _ w_1⟨b_1,rfl,Z⟩;refine qe (qr (cs:=[.ig _,.ig _]) Z JM rfl) ?_;clear Z;rintro _ w_2⟨b_2,rfl,Z⟩;refine QoR (qq Z (qa (o':=0) QY rfl xK rfl rfl rfl) (qq Z (qc 1 xW rfl rfl rfl) (qq Z (Qmi rfl) (qq Z (g_add rfl rfl (by omega) (by omega)) (qq Z (qa (o':=1) QY rfl xK rfl rfl rfl) (qq Z (qc 1 xW rfl rfl rfl) (qq Z (Qmi rfl) (qq Z (g_add rfl rfl (by omega) (by omega)) (qq Z (qs (pl:=[(0,1),(1,1)]) (cs:=[.ig _,.ig _]) JM QY (fun w=>by simp[xK]) (mp (v:=.ig _) rfl (mp (v:=.ig _) rfl mp0)) rfl) ?_)))))))));refine qe (qf 0 Z Qh rfl rfl rfl (vs:=[.ig _,.ig _]) rfl rfl rfl (xH rfl) (cs':=[_,_]) rfl) ?_;clear Z;rintro _ w_3⟨rfl,Z⟩;refine QoN (xO (ret1 results107 (qw 0 Z Qh QQ rfl rfl rfl) ?_));exact⟨rfl,Z.nil⟩
theorem goesOn_c (a b:Sym)(w:World)(I:Imm)(hI:Sat I w)(h1:a.ok):Ctr prog 109 [symV a,symV b] w (fun v w'=>v = .bool (goesOn a b)∧Ext w I w' I):=by
 obtain⟨g1,g2,g3,g4⟩:=h1;refine fn (n:=19) func109 rfl rfl rfl ?_;have Z:=St.start hI;refine QwR (qe (d_box (cs:=[.bool _,.ig _,.bg _]) Z rfl) ?_);clear Z;rintro _ w_1⟨b_1,rfl,Z⟩;refine qe (d_box (cs:=[.bool _,.ig _,.bg _]) Z rfl) ?_;clear Z;rintro _ w_2⟨b_2,rfl,Z⟩;refine qq Z (Qab rfl) (QoR (qq Z (qa (o':=0) uF rfl uy rfl rfl rfl) (qq Z (qc 1 QA rfl rfl rfl) (qq Z (Qmb rfl) (qu rfl rfl Z (fun hg=>(qa (o':=0) uF rfl uy rfl rfl rfl)) ?_)))));intro u8 hu8 hn8;refine qu rfl rfl Z (fun hg=>(qc 0 QA rfl (hu8 hg) rfl)) ?_;intro u9 hu9 hn9;refine qq Z (g_and rfl rfl (fun hq=>hu9 hq)) (qq Z (Qmb rfl) (qu rfl rfl Z (fun hg=>(qa (o':=1) uF rfl xK rfl rfl rfl)) ?_));intro u12 hu12 hn12;refine qu rfl rfl Z (fun hg=>(qc 0 xW rfl (hu12 hg) rfl)) ?_;intro u13 hu13 hn13;refine qu rfl rfl Z (fun hg=>(qa (o':=1) uF rfl xK rfl rfl rfl)) ?_;intro u14 hu14 hn14;refine qu rfl rfl Z (fun hg=>(qc 1 xW rfl (hu14 hg) rfl)) ?_;intro u15 hu15 hn15;refine qu rfl rfl Z (fun hg=>(g_add (hu15 hg) rfl (by omega) (by omega))) ?_;intro u16 hu16 hn16;refine qu rfl rfl Z (fun hg=>(g_eql (hu13 hg) (hu16 hg))) ?_;intro u17 hu17 hn17;refine qq Z (g_and rfl rfl (fun hq=>hu17 hq)) (qq Z (Qab rfl) (QoN (xO (ret1 results109 (qg (v:=.bool _) rfl) ?_))));exact⟨rfl,Z.nil⟩
theorem open_c (rest : Pl) (more : Pr) (n : Int) (on : Bool) (w : World) (I : Imm) (hI : Sat I w) (h1 : rest.best.ok 1000000000) (h2 : more.ok 1000000000) (h3 : 0 ≤ n ∧ n ≤ 1000000000) :
 Ctr prog 108 [plV rest,prV more,.ig n,.bool on] w (fun v w'=>v = .tuple #[prV (openS rest more n on).1,.ig (openS rest more n on).2]∧Ext w I w' I):=by
 refine fn (n:=28) func108 rfl rfl rfl ?_;have Z:=St.start hI;refine QwR (qe (d_box (cs:=[.ig _,.ig _,.ig _,.ig _,.ig _,.ig _,.ig _,.ig _,.ig _,.ig _,.ig _,.ig _]) Z rfl) ?_);clear Z;rintro _ w_1⟨b_1,rfl,Z⟩;refine qe (d_box (cs:=[.ig _,.ig _]) Z rfl) ?_;clear Z;rintro _ w_2⟨b_2,rfl,Z⟩;refine qe (qr (cs:=[.ig _,.ig _]) Z JM rfl) ?_;clear Z;rintro _ w_3⟨b_3,rfl,Z⟩;refine qq Z (Qai rfl) (QoR (qq Z (qa (o':=0) uP rfl Qh rfl rfl rfl) (qq Z (g_ldO 2 (vs:=[.ig _,.ig _]) Qh QQ rfl rfl rfl rfl) (qe (qi call107 rfl (vK rest.best 1 0 _ I Z.imm h1 (by omega) (by omega))) ?_))));rintro _ w_4⟨rfl,hE⟩;replace Z:=Z.callE hE;refine qe (qr (cs:=[.ig _,.ig _]) Z JM rfl) ?_;clear Z;rintro _ w_5⟨b_5,rfl,Z⟩;refine qe (qf 0 Z Qh rfl rfl rfl (vs:=[.ig _,.ig _]) rfl rfl rfl (xH rfl) (cs':=[_,_]) rfl) ?_;clear Z;rintro _ w_6⟨rfl,Z⟩;refine QoN (xJ (QwR (qq Z (g_ldO 2 (vs:=[.ig _,.ig _]) Qh QQ rfl rfl rfl rfl) (qe (qi call107 rfl (vK more 1 0 _ I Z.imm h2 (by omega) (by omega))) ?_))));rintro _ w_7⟨rfl,hE⟩;replace Z:=Z.callE hE;refine qe (qr (cs:=[.ig _,.ig _]) Z JM rfl) ?_;clear Z;rintro _ w_8⟨b_8,rfl,Z⟩;refine qe (qf 0 Z Qh rfl rfl rfl (vs:=[.ig _,.ig _]) rfl rfl rfl (xH rfl) (cs':=[_,_]) rfl) ?_;clear Z;rintro _ w_9⟨rfl,Z⟩;refine QoR (qq Z (Qmb rfl) (qq Z (Qmb rfl) (qu rfl rfl Z (fun hg=>(g_ldO 1 (vs:=[.ig _,.ig _]) Qh QQ rfl rfl rfl rfl)) ?_)));intro u19 hu19 hn19;refine qu rfl rfl Z (fun hg=>(g_ldO 0 (vs:=[.ig _,.ig _]) Qh QQ rfl rfl rfl rfl)) ?_;intro u20 hu20 hn20;refine cvu rfl rfl Z (fun hg=>(qi call132 (ml (hu19 hg) (ml (hu20 hg) ml0)) (less_c (rest.best.plus 1 0) (more.plus 1 0) _ I Z.imm))) ?_
 intro w_11 u21 Z hu21 hn21;refine qu rfl rfl Z (fun hg=>(g_not (hu21 hg))) ?_;intro u22 hu22 hn22;refine qq Z (g_and rfl rfl (fun hq=>hu22 hq)) (QoN (qh rfl ?_ ?_))
 ·
  intro hc23;clear hu19 hn19 hu20 hn20 hu21 hn21 hu22 hn22;have e:openS rest more n on=(more.plus 1 0,n+1):=xS hc23;refine QwR (qq Z (g_ldO 0 (vs:=[.ig _,.ig _]) Qh QQ rfl rfl rfl rfl) (qq Z (Qmi rfl) (qq Z (g_add rfl rfl (by omega) (by omega)) (qe (qf 2 Z Qh rfl rfl rfl (vs:=[.ig _,.ig _]) rfl rfl rfl (xH rfl) (cs':=[_,_]) rfl) ?_))));clear Z;rintro _ w_12⟨rfl,Z⟩;refine qq Z (Qai rfl) (QoN (xO (ul (ret2 results108 (qw 2 Z Qh QQ rfl rfl rfl) (qg (v:=.ig _) rfl) ?_))));rw[e]; exact⟨rfl,Z.nil⟩
 ·
  intro hc23;clear hu19 hn19 hu20 hn20 hu21 hn21 hu22 hn22;have e:openS rest more n on=(rest.best.plus 1 0,1):=xP (by rw[hc23]; decide);refine xM (xL (QwR (qq Z (g_ldO 1 (vs:=[.ig _,.ig _]) Qh QQ rfl rfl rfl rfl) (qe (qf 2 Z Qh rfl rfl rfl (vs:=[.ig _,.ig _]) rfl rfl rfl (xH rfl) (cs':=[_,_]) rfl) ?_))));clear Z;rintro _ w_13⟨rfl,Z⟩;refine qq Z (Qai rfl) (QoN (xO (ret2 results108 (qw 2 Z Qh QQ rfl rfl rfl) (qg (v:=.ig _) rfl) ?_)));rw[e]; exact⟨rfl,Z.nil⟩
theorem runs_c (s next : Sym) (after : Pl) (last : Bool) (w : World) (I : Imm) (hI : Sat I w) (h1 : s.ok) (h2 : 0 ≤ after.copyRun ∧ after.copyRun ≤ 1000000) (h3 : 0 ≤ after.equalRun ∧ after.equalRun ≤ 1000000) :
 Ctr prog 105 [symV s,symV next,plV after,.bool last] w (fun v w'=>v = .tuple #[.ig (runsS s next after last).1,.ig (runsS s next after last).2]∧Ext w I w' I):=by
 refine fn (n:=46) func105 rfl rfl rfl ?_;have Z:=St.start hI;refine QwR (qe (d_box (cs:=[.bool _,.ig _,.bg _]) Z rfl) ?_);clear Z;rintro _ w_1⟨b_1,rfl,Z⟩;refine qe (d_box (cs:=[.bool _,.ig _,.bg _]) Z rfl) ?_;clear Z;rintro _ w_2⟨b_2,rfl,Z⟩;refine qe (d_box (cs:=[.ig _,.ig _,.ig _,.ig _,.ig _,.ig _,.ig _,.ig _,.ig _,.ig _,.ig _,.ig _]) Z rfl) ?_;clear Z;rintro _ w_3⟨b_3,rfl,Z⟩;refine qq Z (Qai rfl) (qq Z (Qai rfl) (QoR (qq Z (Qai rfl) (qq Z (Qai rfl) (QoN (xJ (QwR (qq Z (qa (o':=0) uF rfl uy rfl rfl rfl) (qq Z (qc 2 QA rfl rfl rfl) (qq Z (Qmb rfl) (qu rfl rfl Z (fun hg=>(qa (o':=2) uF rfl un rfl rfl rfl)) ?_)))))))))));intro u15 hu15 hn15;refine qu rfl rfl Z (fun hg=>(qc 2 uZ rfl (hu15 hg) rfl)) ?_;intro u16 hu16 hn16;refine qu rfl rfl Z (fun hg=>(g_eql (hu16 hg) rfl)) ?_;intro u17 hu17 hn17;refine qq Z (g_and rfl rfl (fun hq=>hu17 hq)) (QoN (qh rfl ?_ ?_))
 ·
  intro hc18;clear hu15 hn15 hu16 hn16 hu17 hn17;refine QwR (qq Z (Qai rfl) (QoR (qq Z (Qmb rfl) (qq Z (g_not rfl) (qq Z (Qmb rfl) (qu rfl rfl Z (fun hg=>(g_ldO 2 (vs:=[.bool _,.ig _,.bg _]) uQ QJ rfl rfl rfl rfl)) ?_))))));intro u22 hu22 hn22;refine qu rfl rfl Z (fun hg=>(g_ldO 1 (vs:=[.bool _,.ig _,.bg _]) uQ QJ rfl rfl rfl rfl)) ?_;intro u23 hu23 hn23;refine cvu rfl rfl Z (fun hg=>(qi call109 (ml (hu22 hg) (ml (hu23 hg) ml0)) (goesOn_c s next _ I Z.imm h1))) ?_;intro w_5 u24 Z hu24 hn24;refine qq Z (g_and rfl rfl (fun hq=>hu24 hq)) (QoN (qh rfl ?_ ?_))
  ·
   intro hc25;clear hu22 hn22 hu23 hn23 hu24 hn24;refine reg (qq Z (Qmi rfl) (qq Z (qa (o':=10) uP rfl xK rfl rfl rfl) (qq Z (qc 0 xW rfl rfl rfl) (qq Z (g_add rfl rfl (by omega) (by omega)) (qq Z (Qai rfl) (QoN (xJ (QwR (qq Z (qa (o':=0) uF rfl uy rfl rfl rfl) (qq Z (qc 2 QA rfl rfl rfl) (qq Z (g_not rfl) (QoN (qh rfl ?_ ?_)))))))))))))
   ·
    intro hc32;refine QwR (qq Z (Qai rfl) (QoR (qq Z (Qmb rfl) (qq Z (g_not rfl) (qq Z (Qmb rfl) (qu rfl rfl Z (fun hg=>(g_ldO 2 (vs:=[.bool _,.ig _,.bg _]) uQ QJ rfl rfl rfl rfl)) ?_))))));intro u36 hu36 hn36;refine qu rfl rfl Z (fun hg=>(g_ldO 1 (vs:=[.bool _,.ig _,.bg _]) uQ QJ rfl rfl rfl rfl)) ?_;intro u37 hu37 hn37;refine qu rfl rfl Z (fun hg=>(eqlSym s next (hu36 hg) (hu37 hg))) ?_;intro u38 hu38 hn38;refine qq Z (g_and rfl rfl (fun hq=>hu38 hq)) (QoN (qh rfl ?_ ?_))
    ·
     intro hc39;clear hu36 hn36 hu37 hn37 hu38 hn38;refine reg (qq Z (Qmi rfl) (qq Z (qa (o':=11) uP rfl xK rfl rfl rfl) (qq Z (qc 0 xW rfl rfl rfl) (qq Z (g_add rfl rfl (by omega) (by omega)) (qq Z (Qai rfl) (QoR (qq Z (Qmi rfl) (qq Z (Qmi rfl) (qq Z (Qai rfl) (qq Z (Qai rfl) (QoN (xO (ret2 Js (qg (v:=.ig _) rfl) (qg (v:=.ig _) rfl) ?_)))))))))))));refine⟨?_,Z.nil⟩; simp only[runsS]; simp_all
    ·
     intro hc39;clear hu36 hn36 hu37 hn37 hu38 hn38;refine xM (xL (QwR (qq Z (Qmi rfl) (qq Z (Qmi rfl) (qq Z (Qai rfl) (qq Z (Qai rfl) (QoN (xO (ret2 Js (qg (v:=.ig _) rfl) (qg (v:=.ig _) rfl) ?_)))))))));refine⟨?_,Z.nil⟩; simp only[runsS]; simp_all
   ·
    intro hc32;refine xM (xL (QwR (qq Z (Qmi rfl) (qq Z (Qmi rfl) (qq Z (Qai rfl) (qq Z (Qai rfl) (QoN (xO (ret2 Js (qg (v:=.ig _) rfl) (qg (v:=.ig _) rfl) ?_)))))))));refine⟨?_,Z.nil⟩; simp only[runsS]; simp_all
  ·
   intro hc25;clear hu22 hn22 hu23 hn23 hu24 hn24;refine xM (xL (xJ (QwR (qq Z (qa (o':=0) uF rfl uy rfl rfl rfl) (qq Z (qc 2 QA rfl rfl rfl) (qq Z (g_not rfl) (QoN (qh rfl ?_ ?_))))))))
   ·
    intro hc32;refine QwR (qq Z (Qai rfl) (QoR (qq Z (Qmb rfl) (qq Z (g_not rfl) (qq Z (Qmb rfl) (qu rfl rfl Z (fun hg=>(g_ldO 2 (vs:=[.bool _,.ig _,.bg _]) uQ QJ rfl rfl rfl rfl)) ?_))))));intro u36 hu36 hn36;refine qu rfl rfl Z (fun hg=>(g_ldO 1 (vs:=[.bool _,.ig _,.bg _]) uQ QJ rfl rfl rfl rfl)) ?_;intro u37 hu37 hn37;refine qu rfl rfl Z (fun hg=>(eqlSym s next (hu36 hg) (hu37 hg))) ?_;intro u38 hu38 hn38;refine qq Z (g_and rfl rfl (fun hq=>hu38 hq)) (QoN (qh rfl ?_ ?_))
    ·
     intro hc39;clear hu36 hn36 hu37 hn37 hu38 hn38;refine reg (qq Z (Qmi rfl) (qq Z (qa (o':=11) uP rfl xK rfl rfl rfl) (qq Z (qc 0 xW rfl rfl rfl) (qq Z (g_add rfl rfl (by omega) (by omega)) (qq Z (Qai rfl) (QoR (qq Z (Qmi rfl) (qq Z (Qmi rfl) (qq Z (Qai rfl) (qq Z (Qai rfl) (QoN (xO (ret2 Js (qg (v:=.ig _) rfl) (qg (v:=.ig _) rfl) ?_)))))))))))));refine⟨?_,Z.nil⟩; simp only[runsS]; simp_all
    ·
     intro hc39;clear hu36 hn36 hu37 hn37 hu38 hn38;refine xM (xL (QwR (qq Z (Qmi rfl) (qq Z (Qmi rfl) (qq Z (Qai rfl) (qq Z (Qai rfl) (QoN (xO (ret2 Js (qg (v:=.ig _) rfl) (qg (v:=.ig _) rfl) ?_)))))))));refine⟨?_,Z.nil⟩; simp only[runsS]; simp_all
   ·
    intro hc32;refine xM (xL (QwR (qq Z (Qmi rfl) (qq Z (Qmi rfl) (qq Z (Qai rfl) (qq Z (Qai rfl) (QoN (xO (ret2 Js (qg (v:=.ig _) rfl) (qg (v:=.ig _) rfl) ?_)))))))));refine⟨?_,Z.nil⟩; simp only[runsS]; simp_all
 ·
  intro hc18;clear hu15 hn15 hu16 hn16 hu17 hn17;refine xM (xL (xJ (QwR (qq Z (qa (o':=0) uF rfl uy rfl rfl rfl) (qq Z (qc 2 QA rfl rfl rfl) (qq Z (g_not rfl) (QoN (qh rfl ?_ ?_))))))))
  ·
   intro hc32;refine QwR (qq Z (Qai rfl) (QoR (qq Z (Qmb rfl) (qq Z (g_not rfl) (qq Z (Qmb rfl) (qu rfl rfl Z (fun hg=>(g_ldO 2 (vs:=[.bool _,.ig _,.bg _]) uQ QJ rfl rfl rfl rfl)) ?_))))));intro u36 hu36 hn36;refine qu rfl rfl Z (fun hg=>(g_ldO 1 (vs:=[.bool _,.ig _,.bg _]) uQ QJ rfl rfl rfl rfl)) ?_;intro u37 hu37 hn37;refine qu rfl rfl Z (fun hg=>(eqlSym s next (hu36 hg) (hu37 hg))) ?_;intro u38 hu38 hn38;refine qq Z (g_and rfl rfl (fun hq=>hu38 hq)) (QoN (qh rfl ?_ ?_))
   ·
    intro hc39;clear hu36 hn36 hu37 hn37 hu38 hn38;refine reg (qq Z (Qmi rfl) (qq Z (qa (o':=11) uP rfl xK rfl rfl rfl) (qq Z (qc 0 xW rfl rfl rfl) (qq Z (g_add rfl rfl (by omega) (by omega)) (qq Z (Qai rfl) (QoR (qq Z (Qmi rfl) (qq Z (Qmi rfl) (qq Z (Qai rfl) (qq Z (Qai rfl) (QoN (xO (ret2 Js (qg (v:=.ig _) rfl) (qg (v:=.ig _) rfl) ?_)))))))))))));refine⟨?_,Z.nil⟩; simp only[runsS]; simp_all
   ·
    intro hc39;clear hu36 hn36 hu37 hn37 hu38 hn38;refine xM (xL (QwR (qq Z (Qmi rfl) (qq Z (Qmi rfl) (qq Z (Qai rfl) (qq Z (Qai rfl) (QoN (xO (ret2 Js (qg (v:=.ig _) rfl) (qg (v:=.ig _) rfl) ?_)))))))));refine⟨?_,Z.nil⟩; simp only[runsS]; simp_all
  ·
   intro hc32;refine xM (xL (QwR (qq Z (Qmi rfl) (qq Z (Qmi rfl) (qq Z (Qai rfl) (qq Z (Qai rfl) (QoN (xO (ret2 Js (qg (v:=.ig _) rfl) (qg (v:=.ig _) rfl) ?_)))))))));refine⟨?_,Z.nil⟩; simp only[runsS]; simp_all
theorem try_c (b o : Nat) (T : TypeId) (pre post : List Value) (ho : o = pre.length) (p : Pl) (k len : Int) (c : Pr) (w : World) (I : Imm) (hI : Sat I w) (hb : w.heap[b]? = some (.cells (pre ++ (plC p ++ post)).toArray T (0, 0))) (hn : I b = none) :
 Ctr prog 106 [.pointer (some ⟨b,o,none⟩),.ig k,.ig len,prV c] w (fun v w'=>v = .tuple #[]∧St [b] w I I w' [.cel b T (pre++(plC (tryS p k len c)++post))]):=by
 refine fn (n:=33) func106 rfl rfl rfl ?_;have Z:=St.startX hI hb hn;refine QwR (qe (d_box (cs:=[.ig _,.ig _]) Z rfl) ?_);clear Z;rintro _ w_1⟨b_1,rfl,Z⟩;refine QoN (xJ (draw (.pg 0 (.pg 1 (.pg 2 (.hg 3 (.pg 4 (.pg 5 (.hg 6 (.pg 7 (.pg 8 (.pg 9 (.hg 10 (.cons 11 .eff (.pg 12 .nil))))))))))))) mixed (by kernel_rfl) Z ?_));intro w_2 Z;refine sp rfl (qb _) (sp rfl (qm rfl) (sp rfl (qa (o':=o+2) uP rfl xK rfl rfl rfl) (sh rfl (yk 1 (c:=2) xW rfl ho rfl rfl) (sp rfl (g_eql rfl rfl) (sp rfl (Qmb rfl) (shu rfl rfl rfl (fun hg=>(g_ldO 0 (vs:=[.ig _,.ig _]) Qh QQ rfl rfl rfl rfl)) ?_))))));intro u14 hu14 hn14;refine spu rfl rfl rfl (fun hg=>(qb _)) ?_;intro u15 hu15 hn15;refine spu rfl rfl rfl (fun hg=>(qm (hu15 hg))) ?_;intro u16 hu16 hn16;refine spu rfl rfl rfl (fun hg=>(qa (o':=o+0) uP rfl Qh rfl (hu16 hg) rfl)) ?_;intro u17 hu17 hn17;refine shu rfl rfl rfl (fun hg=>(g_ldF 1 (c:=0) (vs:=[.ig _,.ig _]) Qh QQ rfl ho (hu17 hg) rfl rfl)) ?_;intro u18 hu18 hn18;refine scu rfl rfl rfl Z (fun hg=>(qi call132 (ml (hu14 hg) (ml (hu18 hg) ml0)) (less_c c p.best _ I Z.imm))) ?_;intro w_4 u19 Z hu19 hn19;refine sp rfl (g_or rfl rfl (fun hq=>hu19 hq)) (sn (xL (qh rfl ?_ ?_)))
 ·
  intro hc20;clear hu14 hn14 hu15 hn15 hu16 hn16 hu17 hn17 hu18 hn18 hu19 hn19;have e:tryS p k len c={ p with kind:=k,length:=len,best:=c }:=xS hc20;refine drawS [true,false] (.pg 0 (.pg 1 (.pg 2 (.pg 3 (.pg 4 (.hg 5 (.pg 6 (.pg 7 (.cons 8 .eff (.pg 9 (.pg 10 (.cons 11 .eff (.pg 12 (.pg 13 (.cons 14 .eff .nil))))))))))))))) mixed (by kernel_rfl) Z ?_;intro w_5 Z;refine sp rfl (qb _) (sp rfl (qb _) (sp rfl (qb _) (sp rfl (Qmi rfl) (sp rfl (Qmi rfl) (sh rfl (g_ldO 0 (vs:=[.ig _,.ig _]) Qh QQ rfl rfl rfl rfl) (sp rfl (qm rfl) (sp rfl (qa (o':=o+2) uP rfl xK rfl rfl rfl) ?_)))))));have hS0:=Z;refine se rfl (jQ 1 (c:=2) Z xK rfl ho rfl rfl (vs:=[.ig _]) rfl rfl rfl (xH rfl) (row':=[_,_,_,_,_,_,_,_,_,_,_,_]) rfl) ?_;rintro _ w_6⟨rfl,Z⟩;refine⟨_,_,fun _ h=>h,Z.sel [true,false],sp rfl (qm rfl) (sp rfl (qa (o':=o+3) uP rfl xK rfl rfl rfl) ?_)⟩;have hS0:=Z;refine se rfl (jQ 1 (c:=3) Z xK rfl ho rfl rfl (vs:=[.ig _]) rfl rfl rfl (xH rfl) (row':=[_,_,_,_,_,_,_,_,_,_,_,_]) rfl) ?_;rintro _ w_7⟨rfl,Z⟩;refine⟨_,_,fun _ h=>h,Z.sel [true,false],sp rfl (qm rfl) (sp rfl (qa (o':=o+0) uP rfl Qh rfl rfl rfl) ?_)⟩;have hS0:=Z;refine se rfl (jQ 1 (c:=0) Z Qh rfl ho rfl rfl (vs:=[.ig _,.ig _]) rfl rfl rfl (xH rfl) (row':=[_,_,_,_,_,_,_,_,_,_,_,_]) rfl) ?_;rintro _ w_8⟨rfl,Z⟩;refine⟨_,_,fun _ h=>h,Z.sel [true,false],sn (end0 results106  ?_)⟩;rw[e]; exact⟨rfl,Z.sel [false,true]⟩
 ·
  intro hc20;clear hu14 hn14 hu15 hn15 hu16 hn16 hu17 hn17 hu18 hn18 hu19 hn19;have e:tryS p k len c=p:=xP (by rw[hc20]; decide);refine xM (end0 results106  ?_);rw[e]; exact⟨rfl,Z.sel [false,true]⟩
end Go.Proofs.YtgkgihnpjgbmhaaGreatDoor
namespace Go.Proofs.YtgkgihnpjgbmhaaGreatDoor
open Tryz
open Go Go.RowKit Go.Inl
abbrev opV (x:OpL)(ad:Option Addr)(m cap:Nat):Value:=.agg #[.ig x.kind,.ig x.from_,.ig x.len,.bg x.b,.sg ad m cap]
def ofV (x:OpL)(v:Value):Value :=
 if x.kind=1 then .iface 157 v else if x.kind=2 then .iface 158 v else if x.kind=3 then .iface 159 v
 else if x.kind=4 then .iface 160 v else .iface 162 (.agg #[])
theorem inside_c (x : OpL) (ad : Option Addr) (m cap : Nat) (n : Int) (w0 : World) (I0 : Imm) (hI : Sat I0 w0) (hd : RBytes I0 (.sg ad m cap) x.data) (hx : x.wf) (hn : Mid n) :
 Ctr prog 177 [opV x ad m cap,.ig n] w0 (fun v w'=>v = .bool (insideP x n)∧Ext w0 I0 w' I0):=by
 obtain⟨⟨k1,k2⟩,⟨f1,f2⟩,⟨l1,l2⟩,⟨b1,b2⟩,hdat⟩:=hx;obtain⟨n1,n2⟩:=hn;refine fn (n:=17) func177 rfl rfl rfl ?_;have Z:=St.start hI;refine QwR (qe (d_box (cs:=[.ig _,.ig _,.ig _,.bg _,.sg _ _ _]) Z rfl) ?_);clear Z;rintro _ w_1⟨b_1,rfl,Z⟩;refine qq Z (Qab rfl) (QoR (qq Z (qa (o':=1) uj rfl xK rfl rfl rfl) (qq Z (qc 0 xW rfl rfl rfl) (qq Z (g_geq rfl rfl) (qq Z (Qmb rfl) (qu rfl rfl Z (fun hg=>(qa (o':=1) uj rfl xK rfl rfl rfl)) ?_))))));intro u9 hu9 hn9;refine qu rfl rfl Z (fun hg=>(qc 0 xW rfl (hu9 hg) rfl)) ?_;intro u10 hu10 hn10;refine qu rfl rfl Z (fun hg=>(Qmi rfl)) ?_;intro u11 hu11 hn11;refine qu rfl rfl Z (fun hg=>(qa (o':=2) uj rfl xK rfl rfl rfl)) ?_;intro u12 hu12 hn12;refine qu rfl rfl Z (fun hg=>(qc 0 xW rfl (hu12 hg) rfl)) ?_;intro u13 hu13 hn13;refine qu rfl rfl Z (fun hg=>(g_sub (hu11 hg) (hu13 hg) (by omega) (by omega))) ?_;intro u14 hu14 hn14;refine qu rfl rfl Z (fun hg=>(g_leq (hu10 hg) (hu14 hg))) ?_;intro u15 hu15 hn15;refine qq Z (g_and rfl rfl (fun hq=>hu15 hq)) (qq Z (Qab rfl) (QoN (xO (ret1 results177 (qg (v:=.bool _) rfl) ?_))));exact⟨rfl,Z.nil⟩
theorem copying_right (x : OpL) (ad : Option Addr) (m cap : Nat) (n : Int) (w0 : World) (I0 : Imm) (hI : Sat I0 w0) (hd : RBytes I0 (.sg ad m cap) x.data) (hx : x.wf) (hn : Mid n) :
 Ctr prog 175 [opV x ad m cap,.ig n] w0 (fun v w'=>v = .bool (insideP x n && decide (x.b=0) && decide ((x.data.length:Int)=0))∧Ext w0 I0 w' I0):=by
 refine fn (n:=19) func175 rfl rfl rfl ?_;have Z:=St.start hI;refine QwR (qe (d_box (cs:=[.ig _,.ig _,.ig _,.bg _,.sg _ _ _]) Z rfl) ?_);clear Z;rintro _ w_1⟨b_1,rfl,Z⟩;refine qq Z (Qab rfl) (QoR (qq Z (g_ldO 0 (vs:=[.ig _,.ig _,.ig _,.bg _,.sg _ _ _]) sizeOf157 isAgg157 rfl rfl rfl rfl) (qq Z (Qmi rfl) (qe (qi call177 rfl (inside_c x ad m cap n _ I0 Z.imm hd hx hn)) ?_))));rintro _ w_2⟨rfl,hE⟩;replace Z:=Z.callE hE;refine qq Z (Qmb rfl) (qu rfl rfl Z (fun hg=>(qa (o':=3) JW rfl un rfl rfl rfl)) ?_);intro u9 hu9 hn9;refine qu rfl rfl Z (fun hg=>(qc 0 uZ rfl (hu9 hg) rfl)) ?_;intro u10 hu10 hn10;refine qu rfl rfl Z (fun hg=>(g_eql (hu10 hg) rfl)) ?_;intro u11 hu11 hn11;refine qq Z (g_and rfl rfl (fun hq=>hu11 hq)) (qq Z (Qmb rfl) (qu rfl rfl Z (fun hg=>(qa (o':=4) JW rfl uI rfl rfl rfl)) ?_));intro u14 hu14 hn14;refine qu rfl rfl Z (fun hg=>(qc 0 Qx rfl (hu14 hg) rfl)) ?_;intro u15 hu15 hn15;refine qu rfl rfl Z (fun hg=>(qo rfl xQ hd (hu15 hg))) ?_;intro u16 hu16 hn16;refine qu rfl rfl Z (fun hg=>(g_eql (hu16 hg) rfl)) ?_;intro u17 hu17 hn17;refine qq Z (g_and rfl rfl (fun hq=>hu17 hq)) (qq Z (Qab rfl) (QoN (xO (ret1 results175 (qg (v:=.bool _) rfl) ?_))));exact⟨rfl,Z.nil⟩
theorem differing_right (x : OpL) (ad : Option Addr) (m cap : Nat) (n : Int) (w0 : World) (I0 : Imm) (hI : Sat I0 w0) (hd : RBytes I0 (.sg ad m cap) x.data) (hx : x.wf) (hn : Mid n) :
 Ctr prog 179 [opV x ad m cap,.ig n] w0 (fun v w'=>v = .bool (insideP x n && decide (x.b=0) && decide ((x.data.length:Int)=x.len))∧Ext w0 I0 w' I0):=by
 refine fn (n:=21) func179 rfl rfl rfl ?_;have Z:=St.start hI;refine QwR (qe (d_box (cs:=[.ig _,.ig _,.ig _,.bg _,.sg _ _ _]) Z rfl) ?_);clear Z;rintro _ w_1⟨b_1,rfl,Z⟩;refine qq Z (Qab rfl) (QoR (qq Z (g_ldO 0 (vs:=[.ig _,.ig _,.ig _,.bg _,.sg _ _ _]) sizeOf158 isAgg158 rfl rfl rfl rfl) (qq Z (Qmi rfl) (qe (qi call177 rfl (inside_c x ad m cap n _ I0 Z.imm hd hx hn)) ?_))));rintro _ w_2⟨rfl,hE⟩;replace Z:=Z.callE hE;refine qq Z (Qmb rfl) (qu rfl rfl Z (fun hg=>(qa (o':=3) Jp rfl un rfl rfl rfl)) ?_);intro u9 hu9 hn9;refine qu rfl rfl Z (fun hg=>(qc 0 uZ rfl (hu9 hg) rfl)) ?_;intro u10 hu10 hn10;refine qu rfl rfl Z (fun hg=>(g_eql (hu10 hg) rfl)) ?_;intro u11 hu11 hn11;refine qq Z (g_and rfl rfl (fun hq=>hu11 hq)) (qq Z (Qmb rfl) (qu rfl rfl Z (fun hg=>(qa (o':=4) Jp rfl uI rfl rfl rfl)) ?_));intro u14 hu14 hn14;refine qu rfl rfl Z (fun hg=>(qc 0 Qx rfl (hu14 hg) rfl)) ?_;intro u15 hu15 hn15;refine qu rfl rfl Z (fun hg=>(qo rfl xQ hd (hu15 hg))) ?_;intro u16 hu16 hn16;refine qu rfl rfl Z (fun hg=>(qa (o':=2) Jp rfl xK rfl rfl rfl)) ?_;intro u17 hu17 hn17;refine qu rfl rfl Z (fun hg=>(qc 0 xW rfl (hu17 hg) rfl)) ?_;intro u18 hu18 hn18;refine qu rfl rfl Z (fun hg=>(g_eql (hu16 hg) (hu18 hg))) ?_;intro u19 hu19 hn19;refine qq Z (g_and rfl rfl (fun hq=>hu19 hq)) (qq Z (Qab rfl) (QoN (xO (ret1 results179 (qg (v:=.bool _) rfl) ?_))));exact⟨rfl,Z.nil⟩
theorem running_right (x : OpL) (ad : Option Addr) (m cap : Nat) (n : Int) (w0 : World) (I0 : Imm) (hI : Sat I0 w0) (hd : RBytes I0 (.sg ad m cap) x.data) (hx : x.wf) (hn : Mid n) :
 Ctr prog 182 [opV x ad m cap,.ig n] w0 (fun v w'=>v = .bool (decide (x.from_=0) && decide ((x.data.length:Int)=0))∧Ext w0 I0 w' I0):=by
 refine fn (n:=14) func182 rfl rfl rfl ?_;have Z:=St.start hI;refine QwR (qe (d_box (cs:=[.ig _,.ig _,.ig _,.bg _,.sg _ _ _]) Z rfl) ?_);clear Z;rintro _ w_1⟨b_1,rfl,Z⟩;refine qq Z (Qab rfl) (QoR (qq Z (qa (o':=1) JX rfl xK rfl rfl rfl) (qq Z (qc 0 xW rfl rfl rfl) (qq Z (g_eql rfl rfl) (qq Z (Qmb rfl) (qu rfl rfl Z (fun hg=>(qa (o':=4) JX rfl uI rfl rfl rfl)) ?_))))));intro u9 hu9 hn9;refine qu rfl rfl Z (fun hg=>(qc 0 Qx rfl (hu9 hg) rfl)) ?_;intro u10 hu10 hn10;refine qu rfl rfl Z (fun hg=>(qo rfl xQ hd (hu10 hg))) ?_;intro u11 hu11 hn11;refine qu rfl rfl Z (fun hg=>(g_eql (hu11 hg) rfl)) ?_;intro u12 hu12 hn12;refine qq Z (g_and rfl rfl (fun hq=>hu12 hq)) (qq Z (Qab rfl) (QoN (xO (ret1 results182 (qg (v:=.bool _) rfl) ?_))));exact⟨rfl,Z.nil⟩
theorem literal_right (x : OpL) (ad : Option Addr) (m cap : Nat) (n : Int) (w0 : World) (I0 : Imm) (hI : Sat I0 w0) (hd : RBytes I0 (.sg ad m cap) x.data) (hx : x.wf) (hn : Mid n) :
 Ctr prog 185 [opV x ad m cap,.ig n] w0 (fun v w'=>v = .bool (decide (x.from_=0) && decide (x.b=0) && decide ((x.data.length:Int)=x.len))∧Ext w0 I0 w' I0):=by
 refine fn (n:=21) func185 rfl rfl rfl ?_;have Z:=St.start hI;refine QwR (qe (d_box (cs:=[.ig _,.ig _,.ig _,.bg _,.sg _ _ _]) Z rfl) ?_);clear Z;rintro _ w_1⟨b_1,rfl,Z⟩;refine qq Z (Qab rfl) (QoR (qq Z (qa (o':=1) Jq rfl xK rfl rfl rfl) (qq Z (qc 0 xW rfl rfl rfl) (qq Z (g_eql rfl rfl) (qq Z (Qmb rfl) (qu rfl rfl Z (fun hg=>(qa (o':=3) Jq rfl un rfl rfl rfl)) ?_))))));intro u9 hu9 hn9;refine qu rfl rfl Z (fun hg=>(qc 0 uZ rfl (hu9 hg) rfl)) ?_;intro u10 hu10 hn10;refine qu rfl rfl Z (fun hg=>(g_eql (hu10 hg) rfl)) ?_;intro u11 hu11 hn11;refine qq Z (g_and rfl rfl (fun hq=>hu11 hq)) (qq Z (Qmb rfl) (qu rfl rfl Z (fun hg=>(qa (o':=4) Jq rfl uI rfl rfl rfl)) ?_));intro u14 hu14 hn14;refine qu rfl rfl Z (fun hg=>(qc 0 Qx rfl (hu14 hg) rfl)) ?_;intro u15 hu15 hn15;refine qu rfl rfl Z (fun hg=>(qo rfl xQ hd (hu15 hg))) ?_;intro u16 hu16 hn16;refine qu rfl rfl Z (fun hg=>(qa (o':=2) Jq rfl xK rfl rfl rfl)) ?_;intro u17 hu17 hn17;refine qu rfl rfl Z (fun hg=>(qc 0 xW rfl (hu17 hg) rfl)) ?_;intro u18 hu18 hn18;refine qu rfl rfl Z (fun hg=>(g_eql (hu16 hg) (hu18 hg))) ?_;intro u19 hu19 hn19;refine qq Z (g_and rfl rfl (fun hq=>hu19 hq)) (qq Z (Qab rfl) (QoN (xO (ret1 results185 (qg (v:=.bool _) rfl) ?_))));exact⟨rfl,Z.nil⟩
theorem copying_symbol (x : OpL) (ad : Option Addr) (m cap : Nat) (n : Int) (w0 : World) (I0 : Imm) (hI : Sat I0 w0) (hd : RBytes I0 (.sg ad m cap) x.data) (hx : x.wf) (hn : Mid n) :
 Ctr prog 176 [opV x ad m cap,.ig n] w0 (fun v w'=>v=symV ⟨true,x.from_+n,0⟩∧Ext w0 I0 w' I0):=by
 obtain⟨⟨k1,k2⟩,⟨f1,f2⟩,⟨l1,l2⟩,⟨b1,b2⟩,hdat⟩:=hx;obtain⟨n1,n2⟩:=hn;refine fn (n:=10) func176 rfl rfl rfl ?_;have Z:=St.start hI;refine QwR (qe (d_box (cs:=[.ig _,.ig _,.ig _,.bg _,.sg _ _ _]) Z rfl) ?_);clear Z;rintro _ w_1⟨b_1,rfl,Z⟩;refine qe (qr (cs:=[.bool _,.ig _,.bg _]) Z QD rfl) ?_;clear Z;rintro _ w_2⟨b_2,rfl,Z⟩;refine QoR (qq Z (qa (o':=1) JW rfl xK rfl rfl rfl) (qq Z (qc 1 xW rfl rfl rfl) (qq Z (Qmi rfl) (qq Z (g_add rfl rfl (by omega) (by omega)) (qq Z (qs (pl:=[(0,1),(1,1),(2,1)]) (cs:=[.bool _,.ig _,.bg _]) QD uF (fun w=>by simp[xK,uy,un]) (mp (v:=.bool _) rfl (mp (v:=.ig _) rfl mp0)) rfl) ?_)))));refine qe (qf 0 Z uQ rfl rfl rfl (vs:=[.bool _,.ig _,.bg _]) rfl rfl rfl (xH rfl) (cs':=[_,_,_]) rfl) ?_;clear Z;rintro _ w_3⟨rfl,Z⟩;refine QoN (xO (ret1 results176 (qw 0 Z uQ QJ rfl rfl rfl) ?_));exact⟨rfl,Z.nil⟩
theorem differing_symbol (x : OpL) (ad : Option Addr) (m cap : Nat) (n : Int) (w0 : World) (I0 : Imm) (hI : Sat I0 w0) (hd : RBytes I0 (.sg ad m cap) x.data) (hx : x.wf) (hn : Mid n) (h0 : 0 ≤ n) (h1 : n < x.data.length) :
 Ctr prog 180 [opV x ad m cap,.ig n] w0 (fun v w'=>v=symV ⟨true,x.from_+n,x.data.getD n.toNat 0⟩∧Ext w0 I0 w' I0):=by
 obtain⟨⟨k1,k2⟩,⟨f1,f2⟩,⟨l1,l2⟩,⟨b1,b2⟩,hdat⟩:=hx;obtain⟨n1,n2⟩:=hn;obtain⟨y,hy⟩:∃y,x.data[n.toNat]? = some y:=⟨_,xI (by omega)⟩
 have hya:=hd.at hy;have hyd:x.data.getD n.toNat 0=y:=by rw[xT,hy]; rfl
 rw[hyd];refine fn (n:=15) func180 rfl rfl rfl ?_;have Z:=St.start hI;refine QwR (qe (d_box (cs:=[.ig _,.ig _,.ig _,.bg _,.sg _ _ _]) Z rfl) ?_);clear Z;rintro _ w_1⟨b_1,rfl,Z⟩;refine qe (qr (cs:=[.bool _,.ig _,.bg _]) Z QD rfl) ?_;clear Z;rintro _ w_2⟨b_2,rfl,Z⟩;refine QoN (xJ (draw (.pg 0 (.hg 1 (.pg 2 (.pg 3 (.pg 4 (.hg 5 (.pg 6 (.pg 7 (.hg 8 (.pg 9 (.cons 10 .bar .nil))))))))))) mixed (by kernel_rfl) Z ?_));intro w_3 Z;refine sp rfl (qa (o':=1) Jp rfl xK rfl rfl rfl) (sh rfl (qc 1 xW rfl rfl rfl) (sp rfl (Qmi rfl) (sp rfl (g_add rfl rfl (by omega) (by omega)) (sp rfl (qa (o':=4) Jp rfl uI rfl rfl rfl) (sh rfl (qc 1 Qx rfl rfl rfl) (sp rfl (Qmi rfl) (sp rfl (g_ixI xQ un hd rfl rfl (by omega) (by omega)) (sh rfl (qt uZ hya rfl rfl) ?_))))))));refine sp rfl (qs (pl:=[(0,1),(1,1),(2,1)]) (cs:=[.bool _,.ig _,.bg _]) QD uF (fun w=>by simp[xK,uy,un]) (mp (v:=.bool _) rfl (mp (v:=.ig _) rfl (mp (v:=.bg _) rfl mp0))) rfl) (sb rfl (qf 0 Z uQ rfl rfl rfl (vs:=[.bool _,.ig _,.bg _]) rfl rfl rfl (xH rfl) (cs':=[_,_,_]) rfl) ?_);rintro _ w_4⟨rfl,Z⟩;refine⟨_,_,Z,sn (xL (xO (ret1 results180 (qw 0 Z uQ QJ rfl rfl rfl) ?_)))⟩;exact⟨rfl,Z.nil⟩
theorem running_symbol (x : OpL) (ad : Option Addr) (m cap : Nat) (n : Int) (w0 : World) (I0 : Imm) (hI : Sat I0 w0) (hd : RBytes I0 (.sg ad m cap) x.data) (hx : x.wf) (hn : Mid n) :
 Ctr prog 183 [opV x ad m cap,.ig n] w0 (fun v w'=>v=symV ⟨false,0,x.b⟩∧Ext w0 I0 w' I0):=by
 obtain⟨⟨k1,k2⟩,⟨f1,f2⟩,⟨l1,l2⟩,⟨b1,b2⟩,hdat⟩:=hx;obtain⟨n1,n2⟩:=hn;refine fn (n:=8) func183 rfl rfl rfl ?_;have Z:=St.start hI;refine QwR (qe (d_box (cs:=[.ig _,.ig _,.ig _,.bg _,.sg _ _ _]) Z rfl) ?_);clear Z;rintro _ w_1⟨b_1,rfl,Z⟩;refine qe (qr (cs:=[.bool _,.ig _,.bg _]) Z QD rfl) ?_;clear Z;rintro _ w_2⟨b_2,rfl,Z⟩;refine QoR (qq Z (qa (o':=3) JX rfl un rfl rfl rfl) (qq Z (qc 1 uZ rfl rfl rfl) (qq Z (qs (pl:=[(0,1),(1,1),(2,1)]) (cs:=[.bool _,.ig _,.bg _]) QD uF (fun w=>by simp[xK,uy,un]) (mp (v:=.bg _) rfl mp0) rfl) (qe (qf 0 Z uQ rfl rfl rfl (vs:=[.bool _,.ig _,.bg _]) rfl rfl rfl (xH rfl) (cs':=[_,_,_]) rfl) ?_))));clear Z;rintro _ w_3⟨rfl,Z⟩;refine QoN (xO (ret1 results183 (qw 0 Z uQ QJ rfl rfl rfl) ?_));exact⟨rfl,Z.nil⟩
theorem literal_symbol (x : OpL) (ad : Option Addr) (m cap : Nat) (n : Int) (w0 : World) (I0 : Imm) (hI : Sat I0 w0) (hd : RBytes I0 (.sg ad m cap) x.data) (hx : x.wf) (hn : Mid n) (h0 : 0 ≤ n) (h1 : n < x.data.length) :
 Ctr prog 186 [opV x ad m cap,.ig n] w0 (fun v w'=>v=symV ⟨false,0,x.data.getD n.toNat 0⟩∧Ext w0 I0 w' I0):=by
 obtain⟨⟨k1,k2⟩,⟨f1,f2⟩,⟨l1,l2⟩,⟨b1,b2⟩,hdat⟩:=hx;obtain⟨n1,n2⟩:=hn;obtain⟨y,hy⟩:∃y,x.data[n.toNat]? = some y:=⟨_,xI (by omega)⟩
 have hya:=hd.at hy;have hyd:x.data.getD n.toNat 0=y:=by rw[xT,hy]; rfl
 rw[hyd];refine fn (n:=11) func186 rfl rfl rfl ?_;have Z:=St.start hI;refine QwR (qe (d_box (cs:=[.ig _,.ig _,.ig _,.bg _,.sg _ _ _]) Z rfl) ?_);clear Z;rintro _ w_1⟨b_1,rfl,Z⟩;refine qe (qr (cs:=[.bool _,.ig _,.bg _]) Z QD rfl) ?_;clear Z;rintro _ w_2⟨b_2,rfl,Z⟩;refine QoR (qq Z (qa (o':=4) Jq rfl uI rfl rfl rfl) (qq Z (qc 1 Qx rfl rfl rfl) (qq Z (Qmi rfl) (qq Z (g_ixI xQ un hd rfl rfl (by omega) (by omega)) (qq Z (qt uZ hya rfl rfl) (qq Z (qs (pl:=[(0,1),(1,1),(2,1)]) (cs:=[.bool _,.ig _,.bg _]) QD uF (fun w=>by simp[xK,uy,un]) (mp (v:=.bg _) rfl mp0) rfl) ?_))))));refine qe (qf 0 Z uQ rfl rfl rfl (vs:=[.bool _,.ig _,.bg _]) rfl rfl rfl (xH rfl) (cs':=[_,_,_]) rfl) ?_;clear Z;rintro _ w_3⟨rfl,Z⟩;refine QoN (xO (ret1 results186 (qw 0 Z uQ QJ rfl rfl rfl) ?_));exact⟨rfl,Z.nil⟩
theorem copying_cost (x : OpL) (ad : Option Addr) (m cap : Nat) (w0 : World) (I0 : Imm) (hI : Sat I0 w0) (hd : RBytes I0 (.sg ad m cap) x.data) (hx : x.wf) :
 Ctr prog 174 [opV x ad m cap] w0 (fun v w'=>v = .ig (4)∧Ext w0 I0 w' I0):=by
 obtain⟨⟨k1,k2⟩,⟨f1,f2⟩,⟨l1,l2⟩,⟨b1,b2⟩,hdat⟩:=hx;refine fn (n:=3) func174 rfl rfl rfl ?_;have Z:=St.start hI;refine QwR (qe (d_box (cs:=[.ig _,.ig _,.ig _,.bg _,.sg _ _ _]) Z rfl) ?_);clear Z;rintro _ w_1⟨b_1,rfl,Z⟩;refine qq Z (Qai rfl) (QoR (qq Z (Qai rfl) (QoN (xO (ret1 results174 (qg (v:=.ig _) rfl) ?_)))));exact⟨rfl,Z.nil⟩
theorem differing_cost (x : OpL) (ad : Option Addr) (m cap : Nat) (w0 : World) (I0 : Imm) (hI : Sat I0 w0) (hd : RBytes I0 (.sg ad m cap) x.data) (hx : x.wf) :
 Ctr prog 178 [opV x ad m cap] w0 (fun v w'=>v = .ig (4+x.len)∧Ext w0 I0 w' I0):=by
 obtain⟨⟨k1,k2⟩,⟨f1,f2⟩,⟨l1,l2⟩,⟨b1,b2⟩,hdat⟩:=hx;refine fn (n:=6) func178 rfl rfl rfl ?_;have Z:=St.start hI;refine QwR (qe (d_box (cs:=[.ig _,.ig _,.ig _,.bg _,.sg _ _ _]) Z rfl) ?_);clear Z;rintro _ w_1⟨b_1,rfl,Z⟩;refine qq Z (Qai rfl) (QoR (qq Z (qa (o':=2) Jp rfl xK rfl rfl rfl) (qq Z (qc 0 xW rfl rfl rfl) (qq Z (g_add rfl rfl (by omega) (by omega)) (qq Z (Qai rfl) (QoN (xO (ret1 results178 (qg (v:=.ig _) rfl) ?_))))))));exact⟨rfl,Z.nil⟩
theorem running_cost (x : OpL) (ad : Option Addr) (m cap : Nat) (w0 : World) (I0 : Imm) (hI : Sat I0 w0) (hd : RBytes I0 (.sg ad m cap) x.data) (hx : x.wf) :
 Ctr prog 181 [opV x ad m cap] w0 (fun v w'=>v = .ig (4)∧Ext w0 I0 w' I0):=by
 obtain⟨⟨k1,k2⟩,⟨f1,f2⟩,⟨l1,l2⟩,⟨b1,b2⟩,hdat⟩:=hx;refine fn (n:=3) func181 rfl rfl rfl ?_;have Z:=St.start hI;refine QwR (qe (d_box (cs:=[.ig _,.ig _,.ig _,.bg _,.sg _ _ _]) Z rfl) ?_);clear Z;rintro _ w_1⟨b_1,rfl,Z⟩;refine qq Z (Qai rfl) (QoR (qq Z (Qai rfl) (QoN (xO (ret1 results181 (qg (v:=.ig _) rfl) ?_)))));exact⟨rfl,Z.nil⟩
theorem literal_cost (x : OpL) (ad : Option Addr) (m cap : Nat) (w0 : World) (I0 : Imm) (hI : Sat I0 w0) (hd : RBytes I0 (.sg ad m cap) x.data) (hx : x.wf) :
 Ctr prog 184 [opV x ad m cap] w0 (fun v w'=>v = .ig (2+x.len)∧Ext w0 I0 w' I0):=by
 obtain⟨⟨k1,k2⟩,⟨f1,f2⟩,⟨l1,l2⟩,⟨b1,b2⟩,hdat⟩:=hx;refine fn (n:=6) func184 rfl rfl rfl ?_;have Z:=St.start hI;refine QwR (qe (d_box (cs:=[.ig _,.ig _,.ig _,.bg _,.sg _ _ _]) Z rfl) ?_);clear Z;rintro _ w_1⟨b_1,rfl,Z⟩;refine qq Z (Qai rfl) (QoR (qq Z (qa (o':=2) Jq rfl xK rfl rfl rfl) (qq Z (qc 0 xW rfl rfl rfl) (qq Z (g_add rfl rfl (by omega) (by omega)) (qq Z (Qai rfl) (QoN (xO (ret1 results184 (qg (v:=.ig _) rfl) ?_))))))));exact⟨rfl,Z.nil⟩
theorem unknown_right (n:Int)(w0:World)(I0:Imm)(hI:Sat I0 w0):Ctr prog 188 [.agg #[],.ig n] w0 (fun v w'=>v = .bool false∧Ext w0 I0 w' I0):=by
 refine fn (n:=5) func188 rfl rfl rfl ?_;have Z:=St.start hI;refine QwR (qe (d_box (cs:=[]) Z rfl) ?_);clear Z;rintro _ w_1⟨b_1,rfl,Z⟩;refine qq Z (Qab rfl) (QoR (qq Z (Qab rfl) (QoN (xO (ret1 results188 (qg (v:=.bool _) rfl) ?_)))));exact⟨rfl,Z.nil⟩
theorem unknown_cost (w0:World)(I0:Imm)(hI:Sat I0 w0):Ctr prog 187 [.agg #[]] w0 (fun v w'=>v = .ig 0∧Ext w0 I0 w' I0):=by
 refine fn (n:=3) func187 rfl rfl rfl ?_;have Z:=St.start hI;refine QwR (qe (d_box (cs:=[]) Z rfl) ?_);clear Z;rintro _ w_1⟨b_1,rfl,Z⟩;refine qq Z (Qai rfl) (QoR (qq Z (Qai rfl) (QoN (xO (ret1 results187 (qg (v:=.ig _) rfl) ?_)))));exact⟨rfl,Z.nil⟩
theorem of_c (x : OpL) (ad : Option Addr) (m cap : Nat) (w0 : World) (I0 : Imm) (hI : Sat I0 w0) (hd : RBytes I0 (.sg ad m cap) x.data) (hx : x.wf) :
 Ctr prog 37 [opV x ad m cap] w0 (fun v w'=>v=ofV x (opV x ad m cap)∧Ext w0 I0 w' I0):=by
 refine fn (n:=23) func37 rfl rfl rfl ?_;have Z:=St.start hI;refine QwR (qe (d_box (cs:=[.ig _,.ig _,.ig _,.bg _,.sg _ _ _]) Z rfl) ?_);clear Z;rintro _ w_1⟨b_1,rfl,Z⟩;refine qq Z (qd _) (QoN (xJ (QwR (qq Z (qa (o':=0) uj rfl xK rfl rfl rfl) (qq Z (qc 0 xW rfl rfl rfl) (QoN (xU (QwR (qq Z (g_eql rfl rfl) (qq Z (Qab rfl) (QoN (qh rfl ?_ ?_))))))))))))
 ·
  intro hc5;simp only[ua,xZ]at hc5;refine QwR (qq Z (g_ldO 0 (vs:=[.ig _,.ig _,.ig _,.bg _,.sg _ _ _]) uz Qo rfl rfl rfl rfl) (qq Z (jO JW rfl) (qq Z (qd _) (QoN (xO (Qq (ul (ret1 Ki (qg rfl) ?_))))))));refine⟨?_,Z.nil⟩; unfold ofV; first | (rw[xS hc5]; rfl) | (rw[xP hc5,xS hc9]; rfl) | (rw[xP hc5,xP hc9,xS hc13]; rfl) | (rw[xP hc5,xP hc9,xP hc13,xS hc17]; rfl) | (rw[xP hc5,xP hc9,xP hc13,xP hc17]; rfl)
 ·
  intro hc5;simp only[ua,xZ]at hc5;refine QwR (qq Z (g_eql rfl rfl) (qq Z (Qab rfl) (QoN (qh rfl ?_ ?_))))
  ·
   intro hc9;simp only[ua,xZ]at hc9;refine QwR (qq Z (g_ldO 0 (vs:=[.ig _,.ig _,.ig _,.bg _,.sg _ _ _]) uz Qo rfl rfl rfl rfl) (qq Z (jO Jp rfl) (qq Z (qd _) (QoN (xO (Qq (ul (ret1 Ki (qg rfl) ?_))))))));refine⟨?_,Z.nil⟩; unfold ofV; first | (rw[xS hc5]; rfl) | (rw[xP hc5,xS hc9]; rfl) | (rw[xP hc5,xP hc9,xS hc13]; rfl) | (rw[xP hc5,xP hc9,xP hc13,xS hc17]; rfl) | (rw[xP hc5,xP hc9,xP hc13,xP hc17]; rfl)
  ·
   intro hc9;simp only[ua,xZ]at hc9;refine QwR (qq Z (g_eql rfl rfl) (qq Z (Qab rfl) (QoN (qh rfl ?_ ?_))))
   ·
    intro hc13;simp only[ua,xZ]at hc13;refine QwR (qq Z (g_ldO 0 (vs:=[.ig _,.ig _,.ig _,.bg _,.sg _ _ _]) uz Qo rfl rfl rfl rfl) (qq Z (jO JX rfl) (qq Z (qd _) (QoN (xO (Qq (ul (ret1 Ki (qg rfl) ?_))))))));refine⟨?_,Z.nil⟩; unfold ofV; first | (rw[xS hc5]; rfl) | (rw[xP hc5,xS hc9]; rfl) | (rw[xP hc5,xP hc9,xS hc13]; rfl) | (rw[xP hc5,xP hc9,xP hc13,xS hc17]; rfl) | (rw[xP hc5,xP hc9,xP hc13,xP hc17]; rfl)
   ·
    intro hc13;simp only[ua,xZ]at hc13;refine QwR (qq Z (g_eql rfl rfl) (qq Z (Qab rfl) (QoN (qh rfl ?_ ?_))))
    ·
     intro hc17;simp only[ua,xZ]at hc17;refine QwR (qq Z (g_ldO 0 (vs:=[.ig _,.ig _,.ig _,.bg _,.sg _ _ _]) uz Qo rfl rfl rfl rfl) (qq Z (jO Jq rfl) (qq Z (qd _) (QoN (xO (Qq (ul (ret1 Ki (qg rfl) ?_))))))));refine⟨?_,Z.nil⟩; unfold ofV; first | (rw[xS hc5]; rfl) | (rw[xP hc5,xS hc9]; rfl) | (rw[xP hc5,xP hc9,xS hc13]; rfl) | (rw[xP hc5,xP hc9,xP hc13,xS hc17]; rfl) | (rw[xP hc5,xP hc9,xP hc13,xP hc17]; rfl)
    ·
     intro hc17;simp only[ua,xZ]at hc17;refine xM (uM (xL (QwR (qq Z (qs (pl:=[]) (cs:=[]) zeroValue162 underlying162 (fun w=>by simp[]) mp0 rfl) (qq Z (jO underlying162 rfl) (qq Z (qd _) (QoN (xO (ret1 Ki (qg rfl) ?_)))))))));refine⟨?_,Z.nil⟩; unfold ofV; first | (rw[xS hc5]; rfl) | (rw[xP hc5,xS hc9]; rfl) | (rw[xP hc5,xP hc9,xS hc13]; rfl) | (rw[xP hc5,xP hc9,xP hc13,xS hc17]; rfl) | (rw[xP hc5,xP hc9,xP hc13,xP hc17]; rfl)
end Go.Proofs.YtgkgihnpjgbmhaaGreatDoor
namespace Go.Proofs.YtgkgihnpjgbmhaaGreatDoor
open Tryz
open Go Go.RowKit Go.Inl
theorem m_copying_right (v : Value) (w : World) : (method (prog.types.size + Made.depth) 157 v "inlay/patch.right").run prog w = .ok (175, v) w := by kernel_rfl
theorem m_differing_right (v : Value) (w : World) : (method (prog.types.size + Made.depth) 158 v "inlay/patch.right").run prog w = .ok (179, v) w := by kernel_rfl
theorem m_running_right (v : Value) (w : World) : (method (prog.types.size + Made.depth) 159 v "inlay/patch.right").run prog w = .ok (182, v) w := by kernel_rfl
theorem m_literal_right (v : Value) (w : World) : (method (prog.types.size + Made.depth) 160 v "inlay/patch.right").run prog w = .ok (185, v) w := by kernel_rfl
theorem m_unknownOne_right (v : Value) (w : World) : (method (prog.types.size + Made.depth) 162 v "inlay/patch.right").run prog w = .ok (188, v) w := by kernel_rfl
theorem m_copying_symbol (v : Value) (w : World) : (method (prog.types.size + Made.depth) 157 v "inlay/patch.symbol").run prog w = .ok (176, v) w := by kernel_rfl
theorem m_differing_symbol (v : Value) (w : World) : (method (prog.types.size + Made.depth) 158 v "inlay/patch.symbol").run prog w = .ok (180, v) w := by kernel_rfl
theorem m_running_symbol (v : Value) (w : World) : (method (prog.types.size + Made.depth) 159 v "inlay/patch.symbol").run prog w = .ok (183, v) w := by kernel_rfl
theorem m_literal_symbol (v : Value) (w : World) : (method (prog.types.size + Made.depth) 160 v "inlay/patch.symbol").run prog w = .ok (186, v) w := by kernel_rfl
theorem does_right {n : Nat} {σ : Nat → Value} {ty : TypeId} {aT : Array TypeId} {r y : Operand} {w : World} {I : Imm} (x : OpL) (ad : Option Addr) (m cap : Nat) (size : Int) (hI : Sat I w) (hd : RBytes I (.sg ad m cap) x.data) (hx : x.wf) (hn : Mid size) (hr : ev n σ r = ofV x (opV x ad m cap)) (hy : ev n σ y = .ig size) :
 Does prog (ev n σ) (.call { callee := .invoke r "inlay/patch.right", args := [y].toArray, argTypes := aT }) ty w (fun v w' => v = .bool (rightP x size) ∧ Ext w I w' I) := by
 unfold ofV at hr;unfold rightP;have ha:List.map (ev n σ) [y]=[.ig size]:=ml hy ml0;by_cases h1:x.kind=1
 · rw [xS h1] at hr ⊢
   exact jc hr (m_copying_right _) call175 ha (copying_right x ad m cap size w I hI hd hx hn)
 rw[xP h1]at hr ⊢;by_cases h2:x.kind=2
 · rw [xS h2] at hr ⊢
   exact jc hr (m_differing_right _) call179 ha (differing_right x ad m cap size w I hI hd hx hn)
 rw[xP h2]at hr ⊢;by_cases h3:x.kind=3
 · rw [xS h3] at hr ⊢
   exact jc hr (m_running_right _) call182 ha (running_right x ad m cap size w I hI hd hx hn)
 rw[xP h3]at hr ⊢;by_cases h4:x.kind=4
 · rw [xS h4] at hr ⊢
   exact jc hr (m_literal_right _) call185 ha (literal_right x ad m cap size w I hI hd hx hn)
 rw[xP h4]at hr ⊢;exact jc hr (m_unknownOne_right _) call188 ha (unknown_right size w I hI)
theorem does_symbol {n : Nat} {σ : Nat → Value} {ty : TypeId} {aT : Array TypeId} {r y : Operand} {w : World} {I : Imm} (x : OpL) (ad : Option Addr) (m cap : Nat) (i : Int) (hI : Sat I w) (hd : RBytes I (.sg ad m cap) x.data) (hx : x.wf) (hn : Mid i) (h0 : 0 ≤ i) (hlt : i < x.len) {size : Int} (hok : rightP x size = true) (hr : ev n σ r = ofV x (opV x ad m cap)) (hy : ev n σ y = .ig i) :
 Does prog (ev n σ) (.call { callee := .invoke r "inlay/patch.symbol", args := [y].toArray, argTypes := aT }) ty w (fun v w' => v = symV (symS x i) ∧ Ext w I w' I) := by
 unfold ofV at hr;unfold symS;unfold rightP at hok;have ha:List.map (ev n σ) [y]=[.ig i]:=ml hy ml0;by_cases h1:x.kind=1
 · rw [xS h1] at hr ⊢
   exact jc hr (m_copying_symbol _) call176 ha (copying_symbol x ad m cap i w I hI hd hx hn)
 rw[xP h1]at hr hok ⊢;by_cases h2:x.kind=2
 · rw [xS h2] at hr hok ⊢
   simp only[uC,ua]at hok;exact jc hr (m_differing_symbol _) call180 ha (differing_symbol x ad m cap i w I hI hd hx hn h0 (by omega))
 rw[xP h2]at hr hok ⊢;by_cases h3:x.kind=3
 · rw [xS h3] at hr ⊢
   exact jc hr (m_running_symbol _) call183 ha (running_symbol x ad m cap i w I hI hd hx hn)
 rw[xP h3]at hr hok ⊢;by_cases h4:x.kind=4
 · rw [xS h4] at hr hok ⊢
   simp only[uC,ua]at hok;exact jc hr (m_literal_symbol _) call186 ha (literal_symbol x ad m cap i w I hI hd hx hn h0 (by omega))
 rw[xP h4]at hok;cases hok
set_option maxHeartbeats 1000000 in
theorem check_c (p : PatL) (ad : Option Addr) (m cap : Nat) (w0 : World) (I0 : Imm) (hI : Sat I0 w0) (hops : ROps I0 (.sg ad m cap) p.ops) (hp : p.wf) :
 Ctr prog 44 [.agg #[.bool p.lifted,.ig p.in_,.ig p.out,.sg ad m cap]] w0 (fun v w'=>v = .tuple #[.ig (checkP p).1,.ig (checkP p).2]∧Ext w0 I0 w' I0):=by
 refine fn (n:=68) func44 rfl rfl rfl ?_;have Z:=St.start hI;refine QwR (qe (d_box (cs:=[.bool _,.ig _,.ig _,.sg _ _ _]) Z rfl) ?_);clear Z;rintro _ w_1⟨b1,rfl,Z⟩;refine qq Z (Qai rfl) (qq Z (Qai rfl) (QoN (xJ (QwR (qq Z (qa (o':=1) uk rfl xK rfl rfl rfl) (qq Z (qc 0 xW rfl rfl rfl) (qq Z (qa (o':=2) uk rfl xK rfl rfl rfl) (qq Z (qc 0 xW rfl rfl rfl) (qq Z (g_min rfl rfl) (qq Z (g_lss rfl rfl) (qq Z (Qmb rfl) (qu rfl rfl Z (fun hg=>(qa (o':=1) uk rfl xK rfl rfl rfl)) ?_))))))))))));intro u14 hu14 hn14;refine qu rfl rfl Z (fun hg=>(qc 0 xW rfl (hu14 hg) rfl)) ?_;intro u15 hu15 hn15;refine qu rfl rfl Z (fun hg=>(qa (o':=2) uk rfl xK rfl rfl rfl)) ?_;intro u16 hu16 hn16;refine qu rfl rfl Z (fun hg=>(qc 0 xW rfl (hu16 hg) rfl)) ?_;intro u17 hu17 hn17;refine qu rfl rfl Z (fun hg=>(g_max (hu15 hg) (hu17 hg))) ?_;intro u18 hu18 hn18;refine qu rfl rfl Z (fun hg=>(g_gtr (hu18 hg) rfl)) ?_;intro u19 hu19 hn19;refine qq Z (g_or rfl rfl (fun hq=>hu19 hq)) (qq Z (Qmb rfl) (qu rfl rfl Z (fun hg=>(qa (o':=3) uk rfl Qm rfl rfl rfl)) ?_));intro u22 hu22 hn22;refine qu rfl rfl Z (fun hg=>(qc 0 Jo rfl (hu22 hg) rfl)) ?_;intro u23 hu23 hn23;refine qu rfl rfl Z (fun hg=>(qo rfl Qn hops (hu23 hg))) ?_;intro u24 hu24 hn24;refine qu rfl rfl Z (fun hg=>(g_gtr (hu24 hg) rfl)) ?_;intro u25 hu25 hn25;refine qq Z (g_or rfl rfl (fun hq=>hu25 hq)) (QoN (qh rfl ?_ ?_))
 ·
  intro hc26;clear hu14 hn14 hu15 hn15 hu16 hn16 hu17 hn17 hu18 hn18 hu19 hn19 hu22 hn22 hu23 hn23 hu24 hn24 hu25 hn25;have e:checkP p=(-1,60):=by unfold checkP; rw[xS]; exact hc26
  refine QwR (qq Z (Qai rfl) (qq Z (Qai rfl) (QoN (xO (ul (ret2 results44 (qg (v:=.ig _) rfl) (qg (v:=.ig _) rfl) ?_))))));rw[e]; exact⟨rfl,Z.nil⟩
 ·
  intro hc26;clear hu14 hn14 hu15 hn15 hu16 hn16 hu17 hn17 hu18 hn18 hu19 hn19 hu22 hn22 hu23 hn23 hu24 hn24 hu25 hn25;have hbad:badP p=false:=hc26;have e0:checkP p=checkGo p.in_ p.ops p.out 0:=by unfold checkP; rw[xP (by rw[hbad]; decide)]
  have hb:=hbad;simp only[badP,QF,xZ]at hb;obtain⟨⟨hb1,hb2⟩,hb3⟩:=hb;have hb4:0≤p.in_∧0≤p.out∧p.in_≤65536∧p.out≤65536:=by split at hb1 <;> split at hb2 <;> omega
  obtain⟨hb5,hb6,hb7,hb8⟩:=hb4;refine xM (xL (QwR (qq Z (qa (o':=2) uk rfl xK rfl rfl rfl) (qq Z (qc 0 xW rfl rfl rfl) (qq Z (Qai rfl) (QoN (xJ (QwR (qq Z (qa (o':=3) uk rfl Qm rfl rfl rfl) (qq Z (qc 0 Jo rfl rfl rfl) (qq Z (qo rfl Qn hops rfl) (qq Z (Qmi rfl) (QoN (xU (loop (fun(x:Nat×Int) σ w=>okS σ [(1,.zg b1),(4,.ig x.2),(30,.sg ad m cap),(31,.ig p.ops.length),(32,.ig x.1)]∧St [] w0 I0 I0 w [.cel b1 26 [.bool p.lifted,.ig p.in_,.ig p.out,.sg ad m cap]]∧x.1≤p.ops.length∧0≤x.2∧x.2≤65536∧checkGo p.in_ (p.ops.drop x.1) x.2 x.1=checkGo p.in_ p.ops p.out 0) (fun x=>p.ops.length - x.1) ((0,p.out)) ?_ ?_)))))))))))))))
  ·
   exact⟨⟨rfl,rfl,rfl,rfl,rfl,trivial⟩,Z.sel [true],by simp,hb6,hb8,rfl⟩
  ·
   rintro⟨k,left⟩σ w_l⟨hs,Z,hk0,hl0,hl1,hgo⟩;dsimp only at hs Z hk0 hl0 hl1 hgo ⊢;rw[← qj hs]; clear hs
   refine QwR (qq Z (g_lss rfl rfl) (QoN (xJ (qh rfl ?_ ?_))))
   ·
    intro hc33
    try simp only[zA,zO,zN,zI,zF,zM,zT,zU]at hc33
    obtain⟨x,hx⟩:∃x,p.ops[k]? = some x:=⟨_,xI (by omega)⟩
    have hxw:=hp.ops x (xR hx);obtain⟨lx1,lx2⟩:=hxw.len;obtain⟨cs,hcl,hoA,hro⟩:=RSl.at hops hx;obtain⟨adx,mx,capx,rfl,hd⟩:=hro;rw[zx hx]at hgo;refine xM (xL (xJ (xU (QwR (qq Z (Qmi rfl) (qq Z (g_ixI Qn uz hops rfl rfl (by omega) (by omega)) (qq Z (g_ldE (us:=[.ig _,.ig _,.ig _,.bg _,.sg _ _ _]) uz Qo hoA rfl rfl rfl) (qe (qr (cs:=[.ig _,.ig _,.ig _,.bg _,.sg _ _ _]) Z QE rfl) ?_))))))));clear Z;rintro _ w_2⟨b_2,rfl,Z⟩;refine qq Z (Qai rfl) (qe (qf 0 Z uz rfl rfl rfl (vs:=[.ig _,.ig _,.ig _,.bg _,.sg _ _ _]) rfl rfl rfl (xH rfl) (cs':=[_,_,_,_,_]) rfl) ?_);clear Z;rintro _ w_3⟨rfl,Z⟩;refine QoN (xJ (xJ (draw (.pg 0 (.hg 1 (.pg 2 (.pg 3 (.pg 4 (.hg 5 (.pg 6 (.pg 7 (.pg 8 (.pg 9 (.hg 10 (.pg 12 (.hg 13 (.cons 11 .eff (.cons 14 .eff (.pg 15 (.pg 16 .nil))))))))))))))))) mixed (by kernel_rfl) Z ?_)));intro w_4 Z;refine sp rfl (qa (o':=2) uj rfl xK rfl rfl rfl) (sh rfl (qc 0 xW rfl rfl rfl) (sp rfl (g_lss rfl rfl) (sp rfl (Qmb rfl) (spu rfl rfl rfl (fun hg=>(qa (o':=2) uj rfl xK rfl rfl rfl)) ?_))));intro u41 hu41 hn41;refine shu rfl rfl rfl (fun hg=>(qc 0 xW rfl (hu41 hg) rfl)) ?_;intro u42 hu42 hn42;refine spu rfl rfl rfl (fun hg=>(Qmi rfl)) ?_;intro u43 hu43 hn43;refine spu rfl rfl rfl (fun hg=>(g_gtr (hu42 hg) (hu43 hg))) ?_;intro u44 hu44 hn44;refine sp rfl (g_or rfl rfl (fun hq=>hu44 hq)) (sp rfl (Qmb rfl) (shu rfl rfl rfl (fun hg=>(g_ldO 0 (vs:=[.ig _,.ig _,.ig _,.bg _,.sg _ _ _]) uz Qo rfl rfl rfl rfl)) ?_));intro u47 hu47 hn47;refine spu rfl rfl rfl (fun hg=>(qa (o':=1) uk rfl xK rfl rfl rfl)) ?_
    intro u49 hu49 hn49;refine shu rfl rfl rfl (fun hg=>(qc 1 xW rfl (hu49 hg) rfl)) ?_;intro u50 hu50 hn50;refine scu rfl rfl rfl Z (fun hg=>(qi call37 (ml (hu47 hg) ml0) (of_c x adx mx capx _ I0 Z.imm hd hxw))) ?_;intro w_6 u48 Z hu48 hn48;refine scu rfl rfl rfl Z (fun hg=>(does_right x adx mx capx p.in_ Z.imm hd hxw hp.in_ (hu48 hg) (hu50 hg))) ?_;intro w_8 u51 Z hu51 hn51;refine spu rfl rfl rfl (fun hg=>(g_not (hu51 hg))) ?_;intro u52 hu52 hn52;refine sp rfl (g_or rfl rfl (fun hq=>hu52 hq)) (sn (xL (qh rfl ?_ ?_)))
    ·
     intro hc53;clear hu41 hn41 hu42 hn42 hu43 hn43 hu44 hn44 hu47 hn47 hu49 hn49 hu50 hn50 hu48 hn48 hu51 hn51 hu52 hn52;have e:checkP p=(↑k,60):=by rw[e0,← hgo,checkGo_bad hc53]
     refine QwR (qq Z (Qmi rfl) (qq Z (Qai rfl) (qq Z (Qai rfl) (QoN (xO (ul (Qq (ul (ul (Qq (ul (ret2 results44 (qg (v:=.ig _) rfl) (qg (v:=.ig _) rfl) ?_))))))))))));rw[e]; exact⟨rfl,Z.nil⟩
    ·
     intro hc53;clear hu41 hn41 hu42 hn42 hu43 hn43 hu44 hn44 hu47 hn47 hu49 hn49 hu50 hn50 hu48 hn48 hu51 hn51 hu52 hn52;rw[zY hc53]at hgo;simp only[QF,xZ]at hc53;obtain⟨⟨hc1,hc2⟩,hc3⟩:=hc53;refine xM (xL (reg (qq Z (Qmi rfl) (qq Z (qa (o':=2) uj rfl xK rfl rfl rfl) (qq Z (qc 0 xW rfl rfl rfl) (qq Z (g_sub rfl rfl (by omega) (by omega)) (qq Z (Qai rfl) (qy (uM (xL (reg (qq Z (g_add rfl rfl (by omega) (by omega)) (qq Z (Qmi rfl) ?_)))))))))))));exact⟨(k+1,left - x.len),_,rfl,⟨⟨rfl,rfl,rfl,rfl,rfl,trivial⟩,Z.sel [false,true],by dsimp only; omega,by dsimp only; omega,by dsimp only; omega,hgo⟩,by dsimp only; omega⟩
   ·
    intro hc33
    try simp only[zA,zO,zN,zI,zF,zM,zT,zU]at hc33
    have hk:k=p.ops.length:=by omega
    subst hk;rw[List.drop_length]at hgo;refine ur (um (um (Qi (xL (xJ (QwR (qq Z (Qmi rfl) (qq Z (g_gtr rfl rfl) (QoN (qh rfl ?_ ?_))))))))))
    ·
     intro hc61
     try simp only[zA,zO,zN,zI,zF,zM,zT,zU]at hc61
     have e:checkP p=(↑p.ops.length,60):=by rw[e0,← hgo,checkGo,xS hc61]
     refine QwR (qq Z (qa (o':=3) uk rfl Qm rfl rfl rfl) (qq Z (qc 0 Jo rfl rfl rfl) (qq Z (qo rfl Qn hops rfl) (qq Z (Qai rfl) (qq Z (Qai rfl) (QoN (xO (ul (ret2 results44 (qg (v:=.ig _) rfl) (qg (v:=.ig _) rfl) ?_)))))))));rw[e]; exact⟨rfl,Z.nil⟩
    ·
     intro hc61
     try simp only[zA,zO,zN,zI,zF,zM,zT,zU]at hc61
     have e:checkP p=(↑p.ops.length,0):=by rw[e0,← hgo,checkGo,xP hc61]
     refine xM (xL (QwR (qq Z (qa (o':=3) uk rfl Qm rfl rfl rfl) (qq Z (qc 0 Jo rfl rfl rfl) (qq Z (qo rfl Qn hops rfl) (qq Z (Qai rfl) (qq Z (Qai rfl) (QoN (xO (ret2 results44 (qg (v:=.ig _) rfl) (qg (v:=.ig _) rfl) ?_))))))))));rw[e]; exact⟨rfl,Z.nil⟩
set_option maxHeartbeats 1000000 in
theorem symbols_o (p : PatL) (ad : Option Addr) (m cap : Nat) (w0 : World) (I0 : Imm) (hI : Sat I0 w0) (hops : ROps I0 (.sg ad m cap) p.ops) (hp : p.wf) :
 Ctr prog 27 [.agg #[.bool p.lifted,.ig p.in_,.ig p.out,.sg ad m cap]] w0 (fun v w'=>∃a c,v = .tuple #[.slice a (symbolsP p).1.length c,.ig (symbolsP p).2]∧St [] w0 I0 I0 w' [.row (.slice a (symbolsP p).1.length c) 80 3 (symbolsP p).1.length (flat symC (symbolsP p).1)]):=by
 refine fn (n:=45) func27 rfl rfl rfl ?_;have Z:=St.start hI;refine QwR (qe (d_box (cs:=[.bool _,.ig _,.ig _,.sg _ _ _]) Z rfl) ?_);clear Z;rintro _ w_1⟨b1,rfl,Z⟩;refine qq Z (qd _) (qq Z (Qai rfl) (QoN (xJ (QwR (qq Z (g_ldO 0 (vs:=[.bool _,.ig _,.ig _,.sg _ _ _]) ug uO rfl rfl rfl rfl) (qe (qi call44 rfl (check_c p ad m cap _ I0 Z.imm hops hp)) ?_))))));rintro _ w_2⟨rfl,hE⟩;replace Z:=Z.callE hE;refine qq Z (qb _) (qq Z (Qxi rfl rfl) (qq Z (Qxi rfl rfl) (qq Z (Qai rfl) (qq Z (Qai rfl) (QoR (qq Z (Qmi rfl) (qq Z (g_neq rfl rfl) (QoN (qh rfl ?_ ?_)))))))))
 ·
  intro hc17
  try simp only[zA,zO,zN,zI,zF,zM,zT,zU]at hc17
  have e:symbolsP p=([],(checkP p).2):=by unfold symbolsP; rw[xP hc17]
  refine QwR (qq Z (Qmi rfl) (qq Z (qd _) (qq Z (Qai rfl) (QoN (xO (ul (ret2 results27 (qg rfl) (qg (v:=.ig _) rfl) ?_)))))));rw[e]; exact⟨none,0,rfl,Z.nil.nilRow _ _⟩
 ·
  intro hc17
  try simp only[zA,zO,zN,zI,zF,zM,zT,zU]at hc17
  have e:symbolsP p=(symsOf p.ops,0):=by unfold symbolsP; rw[xS hc17]
  obtain⟨hk1,hk2,hk3,hk4,hk5,hk6,hk7⟩:=ja hc17;refine xM (xL (QwR (qq Z (qa (o':=2) uk rfl xK rfl rfl rfl) (qq Z (qc 0 xW rfl rfl rfl) (qe (xo Z uN info80 rfl rfl (by omega) (by omega) (by omega)) ?_)))));clear Z;rintro _ w_3⟨a21,p21,rfl,Z⟩;refine qq Z (qd _) (QoN (xJ (QwR (qq Z (qa (o':=3) uk rfl Qm rfl rfl rfl) (qq Z (qc 1 Jo rfl rfl rfl) (qq Z (qo rfl Qn hops rfl) (qq Z (Qmi rfl) (QoN (xU (loop (fun(x:Nat×Option Addr×Nat) σ w=>okS σ [(6,.slice x.2.1 (symsOf (p.ops.take x.1)).length x.2.2),(23,.sg ad m cap),(24,.ig p.ops.length),(25,.ig x.1)]∧St [] w0 I0 I0 w [.row (.slice x.2.1 (symsOf (p.ops.take x.1)).length x.2.2) 80 3 (symsOf (p.ops.take x.1)).length (flat symC (symsOf (p.ops.take x.1)))]∧x.1≤p.ops.length) (fun x=>p.ops.length - x.1) ((0,a21,p21)) ?_ ?_))))))))))
  ·
   exact⟨⟨rfl,rfl,rfl,rfl,trivial⟩,Z.sel [true,false],by simp⟩
  ·
   rintro⟨k,a,c⟩σ w_l⟨hs,Z,hk0⟩;dsimp only at hs Z hk0 ⊢;rw[← qj hs]; clear hs
   refine QwR (qq Z (g_lss rfl rfl) (QoN (xJ (qh rfl ?_ ?_))))
   ·
    intro hc26
    try simp only[zA,zO,zN,zI,zF,zM,zT,zU]at hc26
    obtain⟨x,hx⟩:∃x,p.ops[k]? = some x:=⟨_,xI (by omega)⟩
    have hxw:=hp.ops x (xR hx);have hxr:=hk1 x (xR hx);obtain⟨lx1,lx2⟩:=hxw.len;obtain⟨cs,hcl,hoA,hro⟩:=RSl.at hops hx;obtain⟨adx,mx,capx,rfl,hd⟩:=hro;have hlx:=symsOf_take_le p.ops (k+1);have hly:=congrArg List.length (symsOf_snoc hx);rw[xN,Qb,List.length_range]at hly;refine xM (xL (xJ (xU (QwR (qq Z (g_ixI Qn uz hops rfl rfl (by omega) (by omega)) (qq Z (g_ldE (us:=[.ig _,.ig _,.ig _,.bg _,.sg _ _ _]) uz Qo hoA rfl rfl rfl) (qe (qr (cs:=[.ig _,.ig _,.ig _,.bg _,.sg _ _ _]) Z QE rfl) ?_)))))));clear Z;rintro _ w_4⟨b_4,rfl,Z⟩;refine qe (qf 0 Z uz rfl rfl rfl (vs:=[.ig _,.ig _,.ig _,.bg _,.sg _ _ _]) rfl rfl rfl (xH rfl) (cs':=[_,_,_,_,_]) rfl) ?_;clear Z;rintro _ w_5⟨rfl,Z⟩;refine QoR (qq Z (g_ldO 0 (vs:=[.ig _,.ig _,.ig _,.bg _,.sg _ _ _]) uz Qo rfl rfl rfl rfl) (qe (qi call37 rfl (of_c x adx mx capx _ I0 Z.imm hd hxw)) ?_));rintro _ w_6⟨rfl,hE⟩;replace Z:=Z.callE hE;refine qq Z (qd _) (QoR (qq Z (qa (o':=2) uj rfl xK rfl rfl rfl) (qq Z (qc 0 xW rfl rfl rfl) (qq Z (Qmi rfl) (QoN (xU (loop (fun(x_:Nat×Option Addr×Nat) σ w=>okS σ [(6,.slice x_.2.1 (symsOf (p.ops.take k)++(List.range x_.1).map (fun(i:Nat)=>symS x (i:Int))).length x_.2.2),(23,.sg ad m cap),(24,.ig p.ops.length),(25,.ig k),(9,ofV x (opV x adx mx capx)),(32,.ig x.len),(33,.ig x_.1)]∧St [] w0 I0 I0 w [.row (.slice x_.2.1 (symsOf (p.ops.take k)++(List.range x_.1).map (fun(i:Nat)=>symS x (i:Int))).length x_.2.2) 80 3 (symsOf (p.ops.take k)++(List.range x_.1).map (fun(i:Nat)=>symS x (i:Int))).length (flat symC (symsOf (p.ops.take k)++(List.range x_.1).map (fun(i:Nat)=>symS x (i:Int))))]∧(x_.1:Int)≤x.len) (fun x_=>x.len.toNat - x_.1) ((0,a,c)) ?_ ?_)))))))
    ·
     have h0:symsOf (p.ops.take k)++(List.range 0).map (fun(i:Nat)=>symS x (i:Int))=symsOf (p.ops.take k):=by simp
     refine⟨⟨by dsimp only; rw[h0]; rfl,rfl,rfl,rfl,rfl,rfl,rfl,trivial⟩,?_,by dsimp only; omega⟩;dsimp only;rw[h0];exact Z.sel [false,true]
    ·
     rintro⟨i,a,c⟩σ w_l⟨hs,Z,hi0⟩;dsimp only at hs Z hi0 ⊢;rw[← qj hs]; clear hs
     refine QwR (qq Z (g_lss rfl rfl) (QoN (xJ (qh rfl ?_ ?_))))
     ·
      intro hc34
      try simp only[zA,zO,zN,zI,zF,zM,zT,zU]at hc34
      have hlz:(symsOf (p.ops.take k)++(List.range i).map (fun(i:Nat)=>symS x (i:Int))).length=(symsOf (p.ops.take k)).length+i:=by simp
      have hln:(symsOf (p.ops.take k)++(List.range (i+1)).map (fun(i:Nat)=>symS x (i:Int))).length=(symsOf (p.ops.take k)++(List.range i).map (fun(i:Nat)=>symS x (i:Int))).length+1:=by rw[range_snoc,xN]; rfl
      refine xM (xL (xJ (xU (QwR (qq Z (Qmi rfl) (qq Z (Qai rfl) (QoN (reg (qq Z (qb _) (qq Z (qb _) (qq Z (Qmi rfl) (qe (does_symbol x adx mx capx i Z.imm hd hxw ⟨by omega,by omega⟩ (by omega) (by omega) hxr.2 rfl rfl) ?_))))))))))));rintro _ w_7⟨rfl,hE⟩;replace Z:=Z.callE hE;refine qe (d_lit (vs:=[.agg #[.bool _,.ig _,.bg _]]) (cs:=[.bool _,.ig _,.bg _]) Z uN uQ QD rfl rfl rfl rfl (fun v hv=>by simp only[xV,xY,or_false]at hv; subst hv; rfl) rfl) ?_;clear Z;rintro _ w_8⟨b_8,rfl,Z⟩;refine qe (qB 1 0 Z rfl uN info80 rfl rfl rfl rfl rfl rfl rfl rfl (by omega) (by omega)) ?_;clear Z;rintro _ w_9⟨a41,p41,rfl,Z⟩;refine qq Z (qd _) (qy (uM (xL (reg (qq Z (g_add rfl rfl (by omega) (by omega)) (qq Z (Qmi rfl) ?_))))));refine⟨(i+1,a41,p41),_,rfl,⟨⟨by dsimp only; rw[hln]; rfl,rfl,rfl,rfl,rfl,rfl,rfl,trivial⟩,?_,by dsimp only; omega⟩,by dsimp only; omega⟩;dsimp only;rw[hln,range_snoc,ql,qS];exact Z.sel [false,true]
     ·
      intro hc34
      try simp only[zA,zO,zN,zI,zF,zM,zT,zU]at hc34
      have hi:i=x.len.toNat:=by omega
      subst hi;rw[symsOf_snoc hx]at Z ⊢;refine ur (um (um (Qi (uM (xL (reg (qq Z (g_add rfl rfl (by omega) (by omega)) (qq Z (Qmi rfl) ?_))))))));exact⟨(k+1,a,c),_,rfl,⟨⟨rfl,rfl,rfl,rfl,trivial⟩,Z.sel [true],by dsimp only; omega⟩,by dsimp only; omega⟩
   ·
    intro hc26
    try simp only[zA,zO,zN,zI,zF,zM,zT,zU]at hc26
    have hk:k=p.ops.length:=by omega
    subst hk;rw[uL]at Z ⊢;refine ur (um (um (Qi (xL (QwR (qq Z (qb _) (qq Z (qd _) (qq Z (Qai rfl) (QoN (xO (ret2 results27 (qg rfl) (qg (v:=.ig _) rfl) ?_)))))))))));rw[e]; exact⟨a,c,rfl,Z.sel [true]⟩
end Go.Proofs.YtgkgihnpjgbmhaaGreatDoor
namespace Go.Proofs.YtgkgihnpjgbmhaaGreatDoor
open Tryz
open Go Go.RowKit Go.Inl
set_option maxHeartbeats 1000000 in
theorem table_c (vl : Value) (l : List Sym) (w0 : World) (I0 : Imm) (hI : Sat I0 w0) (hl : RSyms I0 vl l) (hok : ∀ s ∈ l, s.ok) (hn : l.length ≤ 65536) :
 Ctr prog 65 [vl] w0 (fun v w'=>∃b,v = .sg (some ⟨b,0,none⟩) (l.length+1) (l.length+1)∧St [] w0 I0 I0 w' [.cel b 137 (flat plC (tab l))]):=by
 refine fn (n:=168) func65 rfl rfl rfl ?_;have Z:=St.start hI;refine QwR (qq Z (qd _) (QoR (qq Z (qb _) (qq Z (qo rfl uN hl rfl) (qq Z (g_add rfl rfl (by omega) (by omega)) (qe (i_make Z Jf info137 rfl rfl (by omega) (by omega) (by omega) (by omega)) ?_))))));clear Z;rintro _ w_1⟨bt,rfl,Z⟩;refine qq Z (qd _) (QoN (xJ (QwR (qq Z (qb _) (qq Z (qo rfl uN hl rfl) (qq Z (g_sub rfl rfl (by omega) (by omega)) (qq Z (Qai rfl) (QoN (xU (loop (fun(i:Int) σ w=>okS σ [(0,vl),(3,.sg (some ⟨bt,0,none⟩) (l.length+1) (l.length+1)),(4,.ig i)]∧St [] w0 I0 I0 w [.cel bt 137 (flat plC (List.replicate (i+1).toNat Pl.zero++tab (l.drop (i+1).toNat)))]∧-1≤i∧i < l.length) (fun i=>(i+1).toNat) ((l.length:Int) - 1) ?_ ?_))))))))))
 ·
  refine⟨⟨rfl,rfl,rfl,trivial⟩,?_,by omega,by omega⟩;have h1:=madeCells_flat zE (by decide) (l.length+1) Pl.zero;have h2:(l.length:Int) - 1+1=l.length:=by omega
  rw[h2,Int.toNat_natCast,List.drop_length,show tab []=[Pl.zero] from rfl,← List.replicate_succ',← h1];exact Z.sel [true]
 ·
  rintro i σ w_l⟨hs,Z,hi0,hi1⟩;rw[← qj hs]; clear hs
  refine xJ (QwR (qq Z (Qmi rfl) (qq Z (g_geq rfl rfl) (QoN (qh rfl ?_ ?_)))))
  ·
   intro hc18
   try simp only[zA,zO,zN,zI,zF,zM,zT,zU]at hc18
   have hm:(i+1).toNat=i.toNat+1:=by omega
   obtain⟨s,hsi⟩:∃s,l[i.toNat]? = some s:=⟨_,xI (by omega)⟩
   have hsA:=hl.at hsi;have hsok:=hok s (xR hsi);have hdl:(l.drop (i.toNat+1)).length=l.length - (i.toNat+1):=by simp
   have htl:=jW (l.drop (i.toNat+1));obtain⟨nx,hnx⟩:∃nx,nx=(l.drop (i.toNat+1)).headD s:=⟨_,rfl⟩
   obtain⟨lst,hlst⟩:∃b,b=decide (i=(l.length:Int) - 1):=⟨_,rfl⟩
   have hle:lst=(l.drop (i.toNat+1)).isEmpty:=by rw[hlst,Bool.eq_iff_iff]; simp; omega
   obtain⟨rest,hrest0⟩:∃p,(tab (l.drop (i.toNat+1)))[0]? = some p:=⟨_,xI (by omega)⟩
   have hrh:(tab (l.drop (i.toNat+1))).headD Pl.zero=rest:=by rw[List.headD_eq_head?_getD,List.head?_eq_getElem?,hrest0]; rfl
   have hrg:=kN (l.drop (i.toNat+1)) 0 rest hrest0;obtain⟨pre,hpreq⟩:∃p,p=flat plC (List.replicate i.toNat Pl.zero):=⟨_,rfl⟩
   have hpl:pre.length=i.toNat*12:=by rw[hpreq,qU zE]; simp
   have hpre:i.toNat*12=pre.length:=hpl.symm;replace Z:St [] w0 I0 I0 w_l [.cel bt 137 (pre++(plC Pl.zero++flat plC (tab (l.drop (i.toNat+1)))))]:=by rw[hm,focus_row,← hpreq]at Z; exact Z
   refine xM (xL (xJ (xU (QwR (qq Z (qb _) (qq Z (Qmi rfl) (qq Z (g_ixI uN uQ hl rfl rfl (by omega) (by omega)) (qq Z (g_ldE (us:=[.bool _,.ig _,.bg _]) uQ QJ hsA rfl rfl rfl) (qq Z (Qmi rfl) (qq Z (qb _) (qq Z (qo rfl uN hl rfl) (qq Z (g_sub rfl rfl (by omega) (by omega)) (qq Z (g_eql rfl rfl) ?_)))))))))))));refine qe (qr (cs:=[.bool _,.ig _,.bg _]) Z QD rfl) ?_;clear Z;rintro _ w_2⟨b5,rfl,Z⟩;refine qe (qf 0 Z uQ rfl rfl rfl (vs:=[.bool _,.ig _,.bg _]) rfl rfl rfl (xH rfl) (cs':=[_,_,_]) rfl) ?_;clear Z;rintro _ w_3⟨rfl,Z⟩;refine qq Z (Qab rfl) (QoR (qq Z (g_ldO 0 (vs:=[.bool _,.ig _,.bg _]) uQ QJ rfl rfl rfl rfl) (qe (qr (cs:=[.bool _,.ig _,.bg _]) Z QD rfl) ?_)));clear Z;rintro _ w_4⟨b7,rfl,Z⟩;refine qe (qf 0 Z uQ rfl rfl rfl (vs:=[.bool _,.ig _,.bg _]) rfl rfl rfl (xH rfl) (cs':=[_,_,_]) rfl) ?_;clear Z;rintro _ w_5⟨rfl,Z⟩;refine QoN (meet (fun σ w=>okS σ [(0,vl),(3,.sg (some ⟨bt,0,none⟩) (l.length+1) (l.length+1)),(4,.ig i),(5,.zg b5),(6,.bool lst),(7,.zg b7)]∧St [] w0 I0 I0 w [.cel b7 80 (symC nx),.cel b5 80 (symC s),.cel bt 137 (pre++(plC Pl.zero++flat plC (tab (l.drop (i.toNat+1)))))]) ?_ ?_)
   ·
    refine QwR (qq Z (Qmb rfl) (qq Z (g_not rfl) (QoN (qh rfl ?_ ?_))))
    ·
     intro hc32;have hlt:i.toNat+1 < l.length:=by
      have:lst=false:=by rw[hlst]; simpa using hc32
      rw[this]at hle;have:=hle.symm;simp at this
      omega
     have hnA:=hl.at (i:=(i+1).toNat) (x:=nx) (by rw[hm,hnx,List.headD_eq_head?_getD,List.head?_drop]; rw[xI hlt]; rfl);refine reg (qq Z (qb _) (qq Z (Qmi rfl) (qq Z (g_add rfl rfl (by omega) (by omega)) (qq Z (g_ixI uN uQ hl rfl rfl (by omega) (by omega)) (qq Z (g_ldE (us:=[.bool _,.ig _,.bg _]) uQ QJ hnA rfl rfl rfl) (qe (qf 0 Z uQ rfl rfl rfl (vs:=[.bool _,.ig _,.bg _]) rfl rfl rfl (xH rfl) (cs':=[_,_,_]) rfl) ?_))))));clear Z;rintro _ w_6⟨rfl,Z⟩;refine QoN ?_;exact⟨_,rfl,⟨rfl,rfl,rfl,rfl,by subst hlst; rfl,rfl,trivial⟩,Z.sel [true,true,true]⟩
    ·
     intro hc32;have hns:nx=s:=by
      have:lst=true:=by rw[hlst]; simpa using hc32
      rw[this]at hle;rw[hnx];have h2:=List.isEmpty_iff.1 hle.symm;rw[h2]; rfl
     subst hns;refine xM (xL ?_);exact⟨_,rfl,⟨rfl,rfl,rfl,rfl,by subst hlst; rfl,rfl,trivial⟩,Z.sel [true,true,true]⟩
   ·
    rintro σ w⟨hs,Z⟩;rw[← qj hs];refine xJ (draw (.pg 0 (.pg 1 (.pg 2 (.pg 3 (.pg 4 (.pg 5 (.pg 6 (.hg 7 (.cons 8 .eff (.pg 9 (.cons 10 .bar .nil))))))))))) mixed (by kernel_rfl) Z ?_);intro w_7 Z;refine sp rfl (qb _) (sp rfl (Qmi rfl) (sp rfl (jH (o:=i.toNat*12) Jf Jd rfl rfl (by omega) (by omega) (by omega)) (sp rfl (qb _) (sp rfl (Qmi rfl) (sp rfl (g_add rfl rfl (by omega) (by omega)) (sp rfl (jH (o:=(i.toNat+1)*12) Jf Jd rfl rfl (by omega) (by omega) (by omega)) (sh rfl (g_ldL 2 (vs:=plC rest) Jd isAgg137 rfl rfl (fun j v hv=>xG hpl rfl hrest0 rfl hv) rfl) ?_)))))));have hS0:=Z;refine se rfl (qr (cs:=[.ig _,.ig _,.ig _,.ig _,.ig _,.ig _,.ig _,.ig _,.ig _,.ig _,.ig _,.ig _]) Z zeroValue137 rfl) ?_;rintro _ w_8⟨b9,rfl,Z⟩;refine⟨_,_,hS0.le (Sub.refl _) (uq _ _),Z,sp rfl (qd _) (sb rfl (qf 0 Z Jd rfl rfl rfl (vs:=[.ig _,.ig _,.ig _,.ig _,.ig _,.ig _,.ig _,.ig _,.ig _,.ig _,.ig _,.ig _]) rfl rfl rfl (xH rfl) (cs':=[_,_,_,_,_,_,_,_,_,_,_,_]) rfl) ?_)⟩;rintro _ w_9⟨rfl,Z⟩;refine⟨_,_,Z,sn (xL (xJ ?_))⟩;obtain⟨p1,hp1⟩:∃p,p=pl1 s nx rest lst (tab (l.drop (i.toNat+1))):=⟨_,rfl⟩
    obtain⟨hrb1,hrb2,hrb3,hrb4,hrb5,hrb6⟩:=runs_bd (s:=s) (next:=nx) (rest:=rest) (last:=lst) (n:=(l.drop (i.toNat+1)).length+1) (by have:=hrg; simpa using this) (by omega);refine reg (qq Z (qb _) (qq Z (qb _) (qq Z (g_ldO 2 (vs:=[.bool _,.ig _,.bg _]) uQ QJ rfl rfl rfl rfl) (qq Z (g_ldO 1 (vs:=[.bool _,.ig _,.bg _]) uQ QJ rfl rfl rfl rfl) (qq Z (g_ldO 0 (vs:=[.ig _,.ig _,.ig _,.ig _,.ig _,.ig _,.ig _,.ig _,.ig _,.ig _,.ig _,.ig _]) Jd isAgg137 rfl rfl rfl rfl) ?_)))));refine qq Z (Qmb rfl) ?_;refine qe (qi call105 rfl (runs_c s nx rest lst _ I0 Z.imm hsok ⟨hrg.c0,by have:=hrg.c1; omega⟩ ⟨hrg.e0,by have:=hrg.e1; omega⟩)) ?_;rintro _ w_10⟨rfl,hE⟩;replace Z:=Z.callE hE;refine qq Z (qb _) (qq Z (Qxi rfl rfl) (qq Z (Qxi rfl rfl) (qq Z (qm rfl) (qq Z (qa (o':=i.toNat*12+10) uP rfl xK rfl rfl rfl) (qe (jQ 3 (c:=10) Z xK rfl hpre rfl rfl (vs:=[.ig _]) rfl rfl rfl (xH rfl) (row':=[_,_,_,_,_,_,_,_,_,_,_,_]) rfl) ?_)))));clear Z;rintro _ w_11⟨rfl,Z⟩;refine qq Z (qm rfl) (qq Z (qa (o':=i.toNat*12+11) uP rfl xK rfl rfl rfl) (qe (jQ 3 (c:=11) Z xK rfl hpre rfl rfl (vs:=[.ig _]) rfl rfl rfl (xH rfl) (row':=[_,_,_,_,_,_,_,_,_,_,_,_]) rfl) ?_));clear Z;rintro _ w_12⟨rfl,Z⟩;refine QoN (meet (fun σ w=>okS σ [(0,vl),(3,.sg (some ⟨bt,0,none⟩) (l.length+1) (l.length+1)),(4,.ig i),(5,.zg b5),(6,.bool lst),(7,.zg b7),(8,.pointer (some ⟨bt,i.toNat*12,none⟩)),(9,.zg b9)]∧St [] w0 I0 I0 w [.cel b9 137 (plC rest),.cel b7 80 (symC nx),.cel b5 80 (symC s),.cel bt 137 (pre++(plC p1++flat plC (tab (l.drop (i.toNat+1)))))]) ?_ ?_)
    ·
     refine QwR (qq Z (qb _) (qq Z (qm rfl) (qq Z (qa (o':=i.toNat*12+10) uP rfl xK rfl rfl rfl) (qq Z (yk 3 (c:=10) xW rfl hpre rfl rfl) (qq Z (g_gtr rfl rfl) (QoN (qh rfl ?_ ?_)))))))
     ·
      intro hc64
      try simp only[zA,zO,zN,zI,zF,zM,zT,zU]at hc64
      obtain⟨pk,hpk⟩:∃p,(tab (l.drop (i.toNat+1)))[(runsS s nx rest lst).1.toNat - 1]? = some p:=⟨_,xI (by omega)⟩
      have hpkg:=kN (l.drop (i.toNat+1)) _ pk hpk;have hp1':p1=tryS { Pl.zero with copyRun:=(runsS s nx rest lst).1,equalRun:=(runsS s nx rest lst).2 } 1 (runsS s nx rest lst).1 (pk.best.plus 4 1):=by
       rw[hp1,pl1,xS hc64,nthBest_eq (p:=pk)];rw[show((runsS s nx rest lst).1 - 1).toNat=(runsS s nx rest lst).1.toNat - 1 by omega]; exact hpk
      refine draw (.pg 0 (.pg 1 (.pg 2 (.pg 3 (.hg 4 (.pg 5 (.pg 6 (.pg 7 (.pg 8 (.pg 9 (.hg 10 (.pg 11 (.pg 12 (.pg 13 (.hg 14 (.cons 15 .eff (.cons 16 .bar .nil))))))))))))))))) mixed (by kernel_rfl) Z ?_;intro w_13 Z;refine sp rfl (qb _) (sp rfl (qb _) (sp rfl (qm rfl) (sp rfl (qa (o':=i.toNat*12+10) uP rfl xK rfl rfl rfl) (sh rfl (yk 3 (c:=10) xW rfl hpre rfl rfl) (sp rfl (qb _) (sp rfl (Qmi rfl) (sp rfl (qb _) (sp rfl (qm rfl) (sp rfl (qa (o':=i.toNat*12+10) uP rfl xK rfl rfl rfl) (sh rfl (yk 3 (c:=10) xW rfl hpre rfl rfl) ?_))))))))));refine sp rfl (g_add rfl rfl (by omega) (by omega)) (sp rfl (jH (o:=(i.toNat+(runsS s nx rest lst).1.toNat)*12) Jf Jd rfl rfl (by omega) (by omega) (by omega)) (sp rfl (qa (o':=(i.toNat+(runsS s nx rest lst).1.toNat)*12) uP rfl Qh rfl rfl rfl) (sh rfl (g_ldL 3 (vs:=[.ig pk.best.cost,.ig pk.best.ops]) Qh QQ rfl rfl (fun j v hv=>xG hpl rfl hpk (by omega) (plC_best j v hv)) rfl) ?_)));have hS0:=Z;refine se rfl (qi call107 rfl (vK pk.best 4 1 _ I0 Z.imm (Pr.ok_mono hpkg.best (by omega)) (by omega) (by omega))) ?_;rintro _ w_14⟨rfl,hE⟩;replace Z:=Z.call hE;refine⟨_,_,hS0.le hE.ext (uu _),Z,sb rfl (qi call106 rfl (try_c bt (i.toNat*12) _ pre _ hpre ({ Pl.zero with copyRun:=(runsS s nx rest lst).1,equalRun:=(runsS s nx rest lst).2 }) 1 (runsS s nx rest lst).1 (pk.best.plus 4 1) _ I0 Z.imm (qG (k:=3) Z rfl) (qF (k:=3) Z rfl))) ?_⟩;rintro _ w_15⟨rfl,hE⟩;replace Z:=Z.callX (k:=3) rfl hE;refine⟨_,_,Z,sn (xL ?_)⟩;subst hp1'; exact⟨_,rfl,⟨rfl,rfl,rfl,rfl,rfl,rfl,rfl,rfl,trivial⟩,Z.sel [true,true,true,true]⟩
     ·
      intro hc64
      try simp only[zA,zO,zN,zI,zF,zM,zT,zU]at hc64
      have hp1':p1={ Pl.zero with copyRun:=(runsS s nx rest lst).1,equalRun:=(runsS s nx rest lst).2 }:=by rw[hp1,pl1,xP hc64]
      refine xM (xL ?_);subst hp1'; exact⟨_,rfl,⟨rfl,rfl,rfl,rfl,rfl,rfl,rfl,rfl,trivial⟩,Z.sel [true,true,true,true]⟩
    ·
     rintro σ w⟨hs,Z⟩;have hpe0:p1.equalRun=(runsS s nx rest lst).2:=by rw[hp1,pl1_equal]
     rw[← qj hs];refine xJ (QwR (qq Z (qa (o':=0) uF rfl uy rfl rfl rfl) (qq Z (qc 2 QA rfl rfl rfl) (QoN (qh rfl ?_ ?_)))))
     ·
      intro hc83
      try simp only[zA,zO,zN,zI,zF,zM,zT,zU]at hc83
      have hob:=yB (on := !lst && goesOn s nx) (n:=(l.drop (i.toNat+1)).length+1) (Pr.ok_mono hrg.best (by omega)) (Pr.ok_mono hrg.diff (by omega)) hrg.d0 (by have:=hrg.d1; omega);refine xJ (draw (.pg 0 (.pg 1 (.hg 2 (.pg 3 (.hg 4 (.pg 5 (.hg 6 (.pg 7 (.pg 8 (.pg 9 (.hg 10 (.hg 11 (.cons 12 .eff (.pg 13 (.cons 14 .eff (.pg 15 (.pg 16 (.pg 17 (.pg 18 (.pg 19 (.cons 20 .bar (.pg 21 (.pg 22 (.cons 23 .bar .nil)))))))))))))))))))))))) mixed (by kernel_rfl) Z ?_);intro w_16 Z;refine sp rfl (qb _) (sp rfl (qb _) (sh rfl (g_ldO 0 (vs:=[.ig _,.ig _,.ig _,.ig _,.ig _,.ig _,.ig _,.ig _,.ig _,.ig _,.ig _,.ig _]) Jd isAgg137 rfl rfl rfl rfl) (sp rfl (qa (o':=4) uP rfl Qh rfl rfl rfl) (sh rfl (g_ldO 0 (vs:=[.ig _,.ig _]) Qh QQ rfl rfl rfl rfl) (sp rfl (qa (o':=6) uP rfl xK rfl rfl rfl) ?_)))));refine sh rfl (qc 0 xW rfl rfl rfl) (sp rfl (Qmb rfl) (sp rfl (g_not rfl) (sp rfl (Qmb rfl) (shu rfl rfl rfl (fun hg=>(g_ldO 2 (vs:=[.bool _,.ig _,.bg _]) uQ QJ rfl rfl rfl rfl)) ?_))));intro u95 hu95 hn95;refine shu rfl rfl rfl (fun hg=>(g_ldO 1 (vs:=[.bool _,.ig _,.bg _]) uQ QJ rfl rfl rfl rfl)) ?_;intro u96 hu96 hn96;refine scu rfl rfl rfl Z (fun hg=>(qi call109 (ml (hu95 hg) (ml (hu96 hg) ml0)) (goesOn_c s nx _ I0 Z.imm hsok))) ?_;intro w_18 u97 Z hu97 hn97;refine sp rfl (g_and rfl rfl (fun hq=>hu97 hq)) ?_;have hS0:=Z;refine se rfl (qi call108 rfl (open_c rest rest.diff rest.diffLen (!lst && goesOn s nx) _ I0 Z.imm (Pr.ok_mono hrg.best (by omega)) (Pr.ok_mono hrg.diff (by omega)) ⟨hrg.d0,by have:=hrg.d1; omega⟩)) ?_
      rintro _ w_19⟨rfl,hE⟩;replace Z:=Z.call hE;refine⟨_,_,hS0.le hE.ext (uu _),Z,sp rfl (qb _) (sp rfl (qk rfl rfl) (sp rfl (Qxi rfl rfl) (sp rfl (qm rfl) (sp rfl (qa (o':=i.toNat*12+4) uP rfl Qh rfl rfl rfl) (sb rfl (jQ 3 (c:=4) Z Qh rfl hpre rfl rfl (vs:=[.ig _,.ig _]) rfl rfl rfl (xH rfl) (row':=[_,_,_,_,_,_,_,_,_,_,_,_]) rfl) ?_)))))⟩;rintro _ w_20⟨rfl,Z⟩;refine⟨_,_,Z,sp rfl (qm rfl) (sp rfl (qa (o':=i.toNat*12+6) uP rfl xK rfl rfl rfl) (sb rfl (jQ 3 (c:=6) Z xK rfl hpre rfl rfl (vs:=[.ig _]) rfl rfl rfl (xH rfl) (row':=[_,_,_,_,_,_,_,_,_,_,_,_]) rfl) ?_))⟩;rintro _ w_21⟨rfl,Z⟩;refine⟨_,_,Z,sn (xL (xJ (draw (.pg 0 (.pg 1 (.pg 2 (.pg 3 (.hg 4 (.pg 5 (.pg 6 (.pg 7 (.hg 8 (.cons 9 .eff (.cons 10 .bar .nil))))))))))) mixed (by kernel_rfl) Z ?_)))⟩;intro w_22 Z;refine sp rfl (qb _) (sp rfl (qb _) (sp rfl (qm rfl) (sp rfl (qa (o':=i.toNat*12+6) uP rfl xK rfl rfl rfl) (sh rfl (yk 3 (c:=6) xW rfl hpre rfl rfl) (sp rfl (qb _) (sp rfl (qm rfl) (sp rfl (qa (o':=i.toNat*12+4) uP rfl Qh rfl rfl rfl) (sh rfl (g_ldF 3 (c:=4) (vs:=[.ig _,.ig _]) Qh QQ rfl hpre rfl rfl rfl) ?_))))))));have hS0:=Z;refine se rfl (qi call107 rfl (vK (openS rest rest.diff rest.diffLen (!lst && goesOn s nx)).1 4 1 _ I0 Z.imm (Pr.ok_mono hob.1 (by omega)) (by omega) (by omega))) ?_;rintro _ w_23⟨rfl,hE⟩;replace Z:=Z.call hE;refine⟨_,_,hS0.le hE.ext (uu _),Z,sb rfl (qi call106 rfl (try_c bt (i.toNat*12) _ pre _ hpre ({ p1 with diff:=(openS rest rest.diff rest.diffLen (!lst && goesOn s nx)).1,diffLen:=(openS rest rest.diff rest.diffLen (!lst && goesOn s nx)).2 }) 2 (openS rest rest.diff rest.diffLen (!lst && goesOn s nx)).2 ((openS rest rest.diff rest.diffLen (!lst && goesOn s nx)).1.plus 4 1) _ I0 Z.imm (qG (k:=3) Z rfl) (qF (k:=3) Z rfl))) ?_⟩
      rintro _ w_24⟨rfl,hE⟩;replace Z:=Z.callX (k:=3) rfl hE;refine⟨_,_,Z,sn (xL (ur (um (Qi (xL (reg (qq Z (Qmi rfl) (qq Z (g_sub rfl rfl (by omega) (by omega)) (qq Z (Qai rfl) (⟨i - 1,_,rfl,⟨⟨rfl,rfl,rfl,trivial⟩,?_,by omega,by omega⟩,by omega⟩))))))))))⟩;rw[show(i - 1+1).toNat=i.toNat by omega,← unfocus hsi (p:=mkPl s nx lst (tab (l.drop (i.toNat+1)))) (by rw[hnx,hle]),← hpreq]
      first
       | rw[mkPl_t hc83 hrh hp1]; exact Z.sel [false,false,false,true]
       | rw[mkPl_f hc83 hrh hp1 hp2']; exact Z.sel [false,false,false,true]
     ·
      intro hc83
      try simp only[zA,zO,zN,zI,zF,zM,zT,zU]at hc83
      have hob:=yB (on := !lst && !nx.old) (n:=(l.drop (i.toNat+1)).length+1) (Pr.ok_mono hrg.best (by omega)) (Pr.ok_mono hrg.lit (by omega)) hrg.l0 (by have:=hrg.l1; omega);have hpe1:=hrb5 hc83;obtain⟨pe,hpe⟩:∃p,(tab (l.drop (i.toNat+1)))[p1.equalRun.toNat - 1]? = some p:=⟨_,xI (by omega)⟩
      have hpeg:=kN (l.drop (i.toNat+1)) _ pe hpe;obtain⟨p2,hp2⟩:∃p,p=tryS p1 3 p1.equalRun (pe.best.plus 4 1):=⟨_,rfl⟩
      have hp2':p2=tryS p1 3 p1.equalRun ((nthBest (tab (l.drop (i.toNat+1))) p1.equalRun).plus 4 1):=by
       rw[hp2,nthBest_eq (p:=pe)];rw[show(p1.equalRun - 1).toNat=p1.equalRun.toNat - 1 by omega]; exact hpe
      refine xM (xL (xJ (draw (.pg 0 (.pg 1 (.pg 2 (.pg 3 (.hg 4 (.pg 5 (.pg 6 (.pg 7 (.pg 8 (.pg 9 (.hg 10 (.pg 11 (.pg 12 (.pg 13 (.hg 14 (.cons 15 .eff (.cons 16 .bar .nil))))))))))))))))) mixed (by kernel_rfl) Z ?_)));intro w_25 Z;refine sp rfl (qb _) (sp rfl (qb _) (sp rfl (qm rfl) (sp rfl (qa (o':=i.toNat*12+11) uP rfl xK rfl rfl rfl) (sh rfl (yk 3 (c:=11) xW rfl hpre rfl rfl) (sp rfl (qb _) (sp rfl (Qmi rfl) (sp rfl (qb _) (sp rfl (qm rfl) (sp rfl (qa (o':=i.toNat*12+11) uP rfl xK rfl rfl rfl) (sh rfl (yk 3 (c:=11) xW rfl hpre rfl rfl) ?_))))))))));refine sp rfl (g_add rfl rfl (by omega) (by omega)) (sp rfl (jH (o:=(i.toNat+p1.equalRun.toNat)*12) Jf Jd rfl rfl (by omega) (by omega) (by omega)) (sp rfl (qa (o':=(i.toNat+p1.equalRun.toNat)*12) uP rfl Qh rfl rfl rfl) (sh rfl (g_ldL 3 (vs:=[.ig pe.best.cost,.ig pe.best.ops]) Qh QQ rfl rfl (fun j v hv=>xG hpl rfl hpe (by omega) (plC_best j v hv)) rfl) ?_)));have hS0:=Z;refine se rfl (qi call107 rfl (vK pe.best 4 1 _ I0 Z.imm (Pr.ok_mono hpeg.best (by omega)) (by omega) (by omega))) ?_;rintro _ w_26⟨rfl,hE⟩;replace Z:=Z.call hE;refine⟨_,_,hS0.le hE.ext (uu _),Z,sb rfl (qi call106 rfl (try_c bt (i.toNat*12) _ pre _ hpre (p1) 3 p1.equalRun (pe.best.plus 4 1) _ I0 Z.imm (qG (k:=3) Z rfl) (qF (k:=3) Z rfl))) ?_⟩;rintro _ w_27⟨rfl,hE⟩;replace Z:=Z.callX (k:=3) rfl hE;refine⟨_,_,Z,sn (xL (xJ ?_))⟩;rw[← hp2]at Z;refine reg (qq Z (qb _) (qq Z (qb _) (qq Z (g_ldO 0 (vs:=[.ig _,.ig _,.ig _,.ig _,.ig _,.ig _,.ig _,.ig _,.ig _,.ig _,.ig _,.ig _]) Jd isAgg137 rfl rfl rfl rfl) (qq Z (qa (o':=7) uP rfl Qh rfl rfl rfl) (qq Z (g_ldO 0 (vs:=[.ig _,.ig _]) Qh QQ rfl rfl rfl rfl) (qq Z (qa (o':=9) uP rfl xK rfl rfl rfl) ?_))))))
      refine qq Z (qc 0 xW rfl rfl rfl) (qq Z (Qmb rfl) (qq Z (g_not rfl) (qq Z (Qmb rfl) (qu rfl rfl Z (fun hg=>(qa (o':=0) uF rfl uy rfl rfl rfl)) ?_))));intro u145 hu145 hn145;refine qu rfl rfl Z (fun hg=>(qc 1 QA rfl (hu145 hg) rfl)) ?_;intro u146 hu146 hn146;refine qu rfl rfl Z (fun hg=>(g_not (hu146 hg))) ?_;intro u147 hu147 hn147;refine qq Z (g_and rfl rfl (fun hq=>hu147 hq)) ?_;refine qe (qi call108 rfl (open_c rest rest.lit rest.litLen (!lst && !nx.old) _ I0 Z.imm (Pr.ok_mono hrg.best (by omega)) (Pr.ok_mono hrg.lit (by omega)) ⟨hrg.l0,by have:=hrg.l1; omega⟩)) ?_;rintro _ w_28⟨rfl,hE⟩;replace Z:=Z.callE hE;refine qq Z (qb _) (qq Z (qk rfl rfl) (qq Z (Qxi rfl rfl) (qq Z (qm rfl) (qq Z (qa (o':=i.toNat*12+7) uP rfl Qh rfl rfl rfl) (qe (jQ 3 (c:=7) Z Qh rfl hpre rfl rfl (vs:=[.ig _,.ig _]) rfl rfl rfl (xH rfl) (row':=[_,_,_,_,_,_,_,_,_,_,_,_]) rfl) ?_)))));clear Z;rintro _ w_29⟨rfl,Z⟩;refine qq Z (qm rfl) (qq Z (qa (o':=i.toNat*12+9) uP rfl xK rfl rfl rfl) (qe (jQ 3 (c:=9) Z xK rfl hpre rfl rfl (vs:=[.ig _]) rfl rfl rfl (xH rfl) (row':=[_,_,_,_,_,_,_,_,_,_,_,_]) rfl) ?_));clear Z;rintro _ w_30⟨rfl,Z⟩;refine QoN (draw (.pg 0 (.pg 1 (.pg 2 (.pg 3 (.hg 4 (.pg 5 (.pg 6 (.pg 7 (.hg 8 (.cons 9 .eff (.cons 10 .bar .nil))))))))))) mixed (by kernel_rfl) Z ?_);intro w_31 Z;refine sp rfl (qb _) (sp rfl (qb _) (sp rfl (qm rfl) (sp rfl (qa (o':=i.toNat*12+9) uP rfl xK rfl rfl rfl) (sh rfl (yk 3 (c:=9) xW rfl hpre rfl rfl) (sp rfl (qb _) (sp rfl (qm rfl) (sp rfl (qa (o':=i.toNat*12+7) uP rfl Qh rfl rfl rfl) (sh rfl (g_ldF 3 (c:=7) (vs:=[.ig _,.ig _]) Qh QQ rfl hpre rfl rfl rfl) ?_))))))))
      have hS0:=Z;refine se rfl (qi call107 rfl (vK (openS rest rest.lit rest.litLen (!lst && !nx.old)).1 2 1 _ I0 Z.imm (Pr.ok_mono hob.1 (by omega)) (by omega) (by omega))) ?_;rintro _ w_32⟨rfl,hE⟩;replace Z:=Z.call hE;refine⟨_,_,hS0.le hE.ext (uu _),Z,sb rfl (qi call106 rfl (try_c bt (i.toNat*12) _ pre _ hpre ({ p2 with lit:=(openS rest rest.lit rest.litLen (!lst && !nx.old)).1,litLen:=(openS rest rest.lit rest.litLen (!lst && !nx.old)).2 }) 4 (openS rest rest.lit rest.litLen (!lst && !nx.old)).2 ((openS rest rest.lit rest.litLen (!lst && !nx.old)).1.plus 2 1) _ I0 Z.imm (qG (k:=3) Z rfl) (qF (k:=3) Z rfl))) ?_⟩;rintro _ w_33⟨rfl,hE⟩;replace Z:=Z.callX (k:=3) rfl hE;refine⟨_,_,Z,sn (uM (xL (reg (qq Z (Qmi rfl) (qq Z (g_sub rfl rfl (by omega) (by omega)) (qq Z (Qai rfl) (⟨i - 1,_,rfl,⟨⟨rfl,rfl,rfl,trivial⟩,?_,by omega,by omega⟩,by omega⟩)))))))⟩;rw[show(i - 1+1).toNat=i.toNat by omega,← unfocus hsi (p:=mkPl s nx lst (tab (l.drop (i.toNat+1)))) (by rw[hnx,hle]),← hpreq]
      first
       | rw[mkPl_t hc83 hrh hp1]; exact Z.sel [false,false,false,true]
       | rw[mkPl_f hc83 hrh hp1 hp2']; exact Z.sel [false,false,false,true]
  ·
   intro hc18
   try simp only[zA,zO,zN,zI,zF,zM,zT,zU]at hc18
   have hi:i = -1:=by omega
   subst hi;refine ur (um (um (Qi (xL (QwR (qq Z (qb _) (qq Z (qd _) (QoN (xO (ret1 results65 (qg rfl) ⟨bt,rfl,?_⟩))))))))));simp at Z
   exact Z.sel [true]
end Go.Proofs.YtgkgihnpjgbmhaaGreatDoor
namespace Go.Proofs.YtgkgihnpjgbmhaaGreatDoor
open Tryz
open Go Go.RowKit Go.Inl
structure LS where
 i:Nat
 f:Nat
 done:List OpL
 css:List (List Value)
 a:Option Addr
 c:Nat
theorem strange_c (s : Sym) (size : Int) (b : Nat) (w0 : World) (I0 : Imm) (hI : Sat I0 w0) (hb : atI I0 ⟨b, 0, none⟩ [.ig size]) :
 Ctr prog 63 [symV s,.zg b] w0 (fun v w'=>v = .bool (strange size s)∧Ext w0 I0 w' I0):=by
 refine fn (n:=27) func63 rfl rfl rfl ?_;have Z:=St.start hI;refine QwR (qe (d_box (cs:=[.bool _,.ig _,.bg _]) Z rfl) ?_);clear Z;rintro _ w_1⟨b_1,rfl,Z⟩;refine qq Z (Qab rfl) (QoR (qq Z (qa (o':=0) uF rfl uy rfl rfl rfl) (qq Z (qc 0 QA rfl rfl rfl) (qq Z (Qmb rfl) (qu rfl rfl Z (fun hg=>(qa (o':=1) uF rfl xK rfl rfl rfl)) ?_)))));intro u7 hu7 hn7;refine qu rfl rfl Z (fun hg=>(qc 0 xW rfl (hu7 hg) rfl)) ?_;intro u8 hu8 hn8;refine qu rfl rfl Z (fun hg=>(g_lss (hu8 hg) rfl)) ?_;intro u9 hu9 hn9;refine qu rfl rfl Z (fun hg=>(qx (hu9 hg))) ?_;intro u10 hu10 hn10;refine qn rfl hu10 hn10 Z (fun hg=>(qa (o':=1) uF rfl xK rfl rfl rfl)) ?_;intro u11 hu11 hn11;refine qn rfl hu10 hn10 Z (fun hg=>(qc 0 xW rfl (hu11 hg) rfl)) ?_;intro u12 hu12 hn12;refine qn rfl hu10 hn10 Z (fun hg=>(jG (c:=0) xW hb rfl rfl)) ?_;intro u13 hu13 hn13;refine qn rfl hu10 hn10 Z (fun hg=>(g_geq (hu12 hg) (hu13 hg))) ?_;intro u14 hu14 hn14;refine qu rfl rfl Z (fun hg=>(g_or (hu10 hg) rfl (fun hq=>hu14 ⟨hg,hq⟩))) ?_;intro u15 hu15 hn15;refine qq Z (g_and rfl rfl (fun hq=>hu15 hq)) (qq Z (Qmb rfl) (qu rfl rfl Z (fun hg=>(qa (o':=0) uF rfl uy rfl rfl rfl)) ?_));intro u18 hu18 hn18;refine qu rfl rfl Z (fun hg=>(qc 0 QA rfl (hu18 hg) rfl)) ?_;intro u19 hu19 hn19;refine qu rfl rfl Z (fun hg=>(g_not (hu19 hg))) ?_;intro u20 hu20 hn20;refine qu rfl rfl Z (fun hg=>(qx (hu20 hg))) ?_;intro u21 hu21 hn21;refine qn rfl hu21 hn21 Z (fun hg=>(qa (o':=1) uF rfl xK rfl rfl rfl)) ?_;intro u22 hu22 hn22;refine qn rfl hu21 hn21 Z (fun hg=>(qc 0 xW rfl (hu22 hg) rfl)) ?_
 intro u23 hu23 hn23;refine qn rfl hu21 hn21 Z (fun hg=>(g_neq (hu23 hg) rfl)) ?_;intro u24 hu24 hn24;refine qu rfl rfl Z (fun hg=>(g_and (hu21 hg) rfl (fun hq=>hu24 ⟨hg,hq⟩))) ?_;intro u25 hu25 hn25;refine qq Z (g_or rfl rfl (fun hq=>hu25 hq)) (qq Z (Qab rfl) (QoN (xO (ret1 results63 (qg (v:=.bool _) rfl) ?_))));exact⟨rfl,Z.nil⟩
set_option maxHeartbeats 1000000 in
theorem indexFunc_c (vl : Value) (l : List Sym) (g : FuncId) (caps : List Value) (q : Sym → Bool) (w0 : World) (I0 : Imm) (hI : Sat I0 w0) (hl : RSyms I0 vl l) (hcg : ∀ args w, (callFunc g args).run prog w = .ok (.enter g args) w)
 (hq:∀s w,Sat I0 w→Ctr prog g (symV s::caps) w (fun v w'=>v = .bool (q s)∧Ext w I0 w' I0)) :
 Ctr prog 104 [vl,.func (.func g) #[] caps.toArray] w0 (fun v w'=>∃r:Int,v = .ig r∧(0≤r↔l.any q=true)∧Ext w0 I0 w' I0):=by
 have hle:=RSl.le hl;simp only[maxLen]at hle;refine fn (n:=19) func104 rfl rfl rfl ?_;have Z:=St.start hI;refine QwR (qq Z (Qai rfl) (QoN (xJ (QwR (qq Z (qb _) (qq Z (qo rfl uN hl rfl) (qq Z (Qmi rfl) (QoN (xU (loop (fun(k:Nat) σ w=>okS σ [(0,vl),(1,.func (.func g) #[] caps.toArray),(7,.ig l.length),(8,.ig k)]∧St [] w0 I0 I0 w []∧k≤l.length∧∀y∈l.take k,q y=false) (fun k=>l.length - k) (0) ?_ ?_))))))))))
 ·
  exact⟨⟨rfl,rfl,rfl,rfl,trivial⟩,Z.sel [],by simp,by simp⟩
 ·
  rintro k σ w_l⟨hs,Z,hk0,hall⟩;rw[← qj hs]; clear hs
  refine QwR (qq Z (g_lss rfl rfl) (QoN (xJ (qh rfl ?_ ?_))))
  ·
   intro hc9
   try simp only[zA,zO,zN,zI,zF,zM,zT,zU]at hc9
   obtain⟨s,hsi⟩:∃s,l[k]? = some s:=⟨_,xI (by omega)⟩
   have hsA:=hl.at hsi;refine xM (xL (xJ (xU (QwR (qq Z (Qmi rfl) (qq Z (Qai rfl) (QoR (qq Z (qb _) (qq Z (qb _) (qq Z (Qmi rfl) (qq Z (g_ixI uN uQ hl rfl rfl (by omega) (by omega)) (qq Z (g_ldE (us:=[.bool _,.ig _,.bg _]) uQ QJ hsA rfl rfl rfl) (qe (zb hcg rfl rfl (hq s _ Z.imm)) ?_)))))))))))));rintro _ w_1⟨rfl,hE⟩;replace Z:=Z.callE hE;refine QoN (qh rfl ?_ ?_)
   ·
    intro hc16;have hany:l.any q=true:=List.any_eq_true.2 ⟨s,xR hsi,hc16⟩;refine QwR (qq Z (Qmi rfl) (qq Z (Qai rfl) (QoN (xO (Qq (ul (ul (Qq (ul (ret1 results104 (qg (v:=.ig _) rfl) ?_))))))))))
    first | exact⟨_,rfl,by rw[hany]; simp,Z.nil⟩ | exact⟨_,rfl,by rw[hany]; simp; omega,Z.nil⟩
   ·
    intro hc16;refine xM (uM (xL (reg (qq Z (g_add rfl rfl (by omega) (by omega)) (qq Z (Qmi rfl) ?_)))));exact⟨k+1,_,rfl,⟨⟨rfl,rfl,rfl,rfl,trivial⟩,Z.sel [],by omega,zB hsi hall hc16⟩,by omega⟩
  ·
   intro hc9
   try simp only[zA,zO,zN,zI,zF,zM,zT,zU]at hc9
   have hk:k=l.length:=by omega
   subst hk;rw[uL]at hall;have hany:l.any q=false:=by simpa using hall
   refine ur (um (um (Qi (xL (QwR (qq Z (Qai rfl) (QoN (xO (ret1 results104 (qg (v:=.ig _) rfl) ?_)))))))))
   first | exact⟨_,rfl,by rw[hany]; simp,Z.nil⟩ | exact⟨_,rfl,by rw[hany]; simp; omega,Z.nil⟩
theorem containsFunc_c (vl : Value) (l : List Sym) (g : FuncId) (caps : List Value) (q : Sym → Bool) (w0 : World) (I0 : Imm) (hI : Sat I0 w0) (hl : RSyms I0 vl l) (hcg : ∀ args w, (callFunc g args).run prog w = .ok (.enter g args) w)
 (hq:∀s w,Sat I0 w→Ctr prog g (symV s::caps) w (fun v w'=>v = .bool (q s)∧Ext w I0 w' I0)) :
 Ctr prog 64 [vl,.func (.func g) #[] caps.toArray] w0 (fun v w'=>v = .bool (l.any q)∧Ext w0 I0 w' I0):=by
 refine fn (n:=9) func64 rfl rfl rfl ?_;have Z:=St.start hI;refine QwR (qq Z (Qab rfl) (QoR (qq Z (qb _) (qq Z (qb _) (qe (qi call104 rfl (indexFunc_c vl l g caps q _ I0 Z.imm hl hcg hq)) ?_)))));rintro _ w_1⟨r,rfl,hr,hE⟩;replace Z:=Z.callE hE;refine qq Z (g_geq rfl rfl) (qq Z (Qab rfl) (QoN (xO (ret1 results64 (qg (v:=.bool _) rfl) ⟨?_,Z.nil⟩))));congr 1
 rw[Bool.eq_iff_iff,decide_eq_true_iff]; exact hr
set_option maxHeartbeats 1000000 in
theorem operation_c (kind : Int) (vl : Value) (l : List Sym) (w0 : World) (I0 : Imm) (hI : Sat I0 w0) (hl : RSyms I0 vl l) (hk : Mid kind) (hne : 0 < l.length) (hn : l.length ≤ 65536) :
 Ctr prog 66 [.ig kind,vl] w0 (fun v w'=>∃I' ad m cap,v=opV (opS kind l) ad m cap∧Ext w0 I0 w' I'∧RBytes I' (.sg ad m cap) (opS kind l).data):=by
 obtain⟨s0,hs0⟩:∃s,l[0]? = some s:=⟨_,xI hne⟩
 have hs0A:=hl.at hs0;have hhd:l.headD ⟨false,0,0⟩=s0:=by rw[List.headD_eq_head?_getD,List.head?_eq_getElem?,hs0]; rfl
 refine fn (n:=49) func66 rfl rfl rfl ?_;have Z:=St.start hI;refine QwR (qe (qr (cs:=[.ig _,.ig _,.ig _,.bg _,.sg _ _ _]) Z QE rfl) ?_);clear Z;rintro _ w_1⟨b4,rfl,Z⟩;refine QoR (qq Z (Qmi rfl) (qq Z (qb _) (qq Z (qo rfl uN hl rfl) (qq Z (qs (pl:=[(0,1),(1,1),(2,1),(3,1),(4,1)]) (cs:=[.ig _,.ig _,.ig _,.bg _,.sg _ _ _]) QE uj (fun w=>by simp[uI,xK,un]) (mp (v:=.ig _) rfl (mp (v:=.ig _) rfl mp0)) rfl) (qe (qr (cs:=[.ig _,.ig _,.ig _,.bg _,.sg _ _ _]) Z QE rfl) ?_)))));clear Z;rintro _ w_2⟨b5,rfl,Z⟩;refine qe (qf 0 Z uz rfl rfl rfl (vs:=[.ig _,.ig _,.ig _,.bg _,.sg _ _ _]) rfl rfl rfl (xH rfl) (cs':=[_,_,_,_,_]) rfl) ?_;clear Z;rintro _ w_3⟨rfl,Z⟩;refine QoN (meet (fun σ w=>okS σ [(0,.ig kind),(1,vl),(4,.zg b4),(5,.zg b5)]∧St [] w0 I0 I0 w [.cel b5 57 [.ig kind,.ig (if kind=1∨kind=2 then (l.headD ⟨false,0,0⟩).at_ else 0),.ig l.length,.bg (if kind=3 then (l.headD ⟨false,0,0⟩).b else 0),.sg none 0 0],.cel b4 57 [.ig 0,.ig 0,.ig 0,.bg 0,.sg none 0 0]]) ?_ ?_)
 ·
  refine QwR (qq Z (Qmi rfl) (QoN (xU (meet (fun σ w=>okS σ [(0,.ig kind),(1,vl),(4,.zg b4),(5,.zg b5),(12,.ig kind),(13,.bool (decide (kind=1∨kind=2)))]∧St [] w0 I0 I0 w [.cel b5 57 [.ig kind,.ig 0,.ig l.length,.bg 0,.sg none 0 0],.cel b4 57 [.ig 0,.ig 0,.ig 0,.bg 0,.sg none 0 0]]) ?_ ?_))))
  ·
   refine QwR (qq Z (g_eql rfl rfl) (qq Z (Qab rfl) (QoN (qh rfl ?_ ?_))))
   ·
    intro hc13;simp only[ua,xZ]at hc13;refine xM (xL ?_);exact⟨_,rfl,⟨rfl,rfl,rfl,rfl,rfl,by show Value.bool _=Value.bool _; congr 1; simp[hc13],trivial⟩,Z.sel [true,true]⟩
   ·
    intro hc13;simp only[ua,xZ]at hc13;refine reg (qq Z (g_eql rfl rfl) (qq Z (Qab rfl) (QoN ?_)));exact⟨_,rfl,⟨rfl,rfl,rfl,rfl,rfl,by show Value.bool _=Value.bool _; congr 1; simp[hc13],trivial⟩,Z.sel [true,true]⟩
  ·
   rintro σ w⟨hs,Z⟩;rw[← qj hs];refine qh rfl ?_ ?_
   ·
    intro hc13_2;simp only[ua,xZ]at hc13_2;have hfr:(if kind=1∨kind=2 then (l.headD ⟨false,0,0⟩).at_ else 0)=s0.at_:=by rw[xS hc13_2,hhd]
    have hbb:(if kind=3 then (l.headD ⟨false,0,0⟩).b else 0)=0:=xP (by omega);refine reg (qq Z (qb _) (qq Z (g_ixI uN uQ hl rfl rfl (by omega) (by omega)) (qq Z (qE (c':=1) uF rfl xK rfl rfl rfl) (qq Z (qt xW hs0A rfl rfl) (qq Z (qa (o':=1) uj rfl xK rfl rfl rfl) (qe (qf 0 Z xK rfl rfl rfl (vs:=[.ig _]) rfl rfl rfl (xH rfl) (cs':=[_,_,_,_,_]) rfl) ?_))))));clear Z;rintro _ w_4⟨rfl,Z⟩;refine qy (uM (xL (⟨_,rfl,⟨rfl,rfl,rfl,rfl,trivial⟩,?_⟩)));rw[hfr,hbb];exact Z.sel [true,true]
   ·
    intro hc13_2;simp only[ua,xZ]at hc13_2;refine QwR (qq Z (g_eql rfl rfl) (qq Z (Qab rfl) (QoN (qh rfl ?_ ?_))))
    ·
     intro hc21;simp only[ua,xZ]at hc21;have hfr:(if kind=1∨kind=2 then (l.headD ⟨false,0,0⟩).at_ else 0)=0:=xP (by omega);have hbb:(if kind=3 then (l.headD ⟨false,0,0⟩).b else 0)=s0.b:=by rw[xS hc21,hhd]
     refine reg (qq Z (qb _) (qq Z (g_ixI uN uQ hl rfl rfl (by omega) (by omega)) (qq Z (qE (c':=2) uF rfl un rfl rfl rfl) (qq Z (qt uZ hs0A rfl rfl) (qq Z (qa (o':=3) uj rfl un rfl rfl rfl) (qe (qf 0 Z un rfl rfl rfl (vs:=[.bg _]) rfl rfl rfl (xH rfl) (cs':=[_,_,_,_,_]) rfl) ?_))))));clear Z;rintro _ w_5⟨rfl,Z⟩;refine qy (uM (xL (⟨_,rfl,⟨rfl,rfl,rfl,rfl,trivial⟩,?_⟩)));rw[hfr,hbb];exact Z.sel [true,true]
    ·
     intro hc21;simp only[ua,xZ]at hc21;have hfr:(if kind=1∨kind=2 then (l.headD ⟨false,0,0⟩).at_ else 0)=0:=xP (by omega);have hbb:(if kind=3 then (l.headD ⟨false,0,0⟩).b else 0)=0:=xP hc21;refine xM (uM (xL (⟨_,rfl,⟨rfl,rfl,rfl,rfl,trivial⟩,?_⟩)));rw[hfr,hbb];exact Z.sel [true,true]
 ·
  rintro σ w⟨hs,Z⟩;rw[← qj hs];refine xJ (QwR (qq Z (Qmi rfl) (qq Z (g_eql rfl rfl) (qq Z (Qmb rfl) (qu rfl rfl Z (fun hg=>(Qmi rfl)) ?_)))));intro u31 hu31 hn31;refine qu rfl rfl Z (fun hg=>(g_eql (hu31 hg) rfl)) ?_;intro u32 hu32 hn32;refine qq Z (g_or rfl rfl (fun hq=>hu32 hq)) (QoN (qh rfl ?_ ?_))
  ·
   intro hc33;clear hu31 hn31 hu32 hn32
   try simp only[zA,zO,zN,zI,zF,zM,zT,zU]at hc33
   have hdat:(opS kind l).data=l.map (·.b):=by unfold opS; rw[xS hc33]
   refine QwR (qq Z (qb _) (qq Z (qo rfl uN hl rfl) (qq Z (Qmi rfl) (QoN (xU (loop (fun(x:Nat×Option Addr×Nat) σ w=>okS σ [(34,vl),(35,.ig l.length),(36,.ig x.1),(4,.zg b4),(5,.zg b5)]∧St [] w0 I0 I0 w [.row (.sg x.2.1 x.1 x.2.2) 5 1 x.1 (flat byteC ((l.take x.1).map (·.b))),.cel b5 57 [.ig kind,.ig (if kind=1∨kind=2 then (l.headD ⟨false,0,0⟩).at_ else 0),.ig l.length,.bg (if kind=3 then (l.headD ⟨false,0,0⟩).b else 0),.sg x.2.1 x.1 x.2.2],.cel b4 57 [.ig 0,.ig 0,.ig 0,.bg 0,.sg none 0 0]]∧x.1≤l.length) (fun x=>l.length - x.1) ((0,none,0)) ?_ ?_))))))
   ·
    exact⟨⟨rfl,rfl,rfl,rfl,rfl,trivial⟩,(Z.sel [true,true]).nilRow _ _,by simp⟩
   ·
    rintro⟨k,a,c⟩σ w_l⟨hs,Z,hk0⟩;dsimp only at hs Z hk0 ⊢;rw[← qj hs]; clear hs
    refine QwR (qq Z (g_lss rfl rfl) (QoN (xJ (qh rfl ?_ ?_))))
    ·
     intro hc37
     try simp only[zA,zO,zN,zI,zF,zM,zT,zU]at hc37
     obtain⟨s,hsi⟩:∃s,l[k]? = some s:=⟨_,xI (by omega)⟩
     have hsA:=hl.at hsi;refine xM (xL (xJ (xU (QwR (qq Z (g_ixI uN uQ hl rfl rfl (by omega) (by omega)) (qq Z (g_ldE (us:=[.bool _,.ig _,.bg _]) uQ QJ hsA rfl rfl rfl) (qe (qr (cs:=[.bool _,.ig _,.bg _]) Z QD rfl) ?_)))))));clear Z;rintro _ w_6⟨b7,rfl,Z⟩;refine qe (qf 0 Z uQ rfl rfl rfl (vs:=[.bool _,.ig _,.bg _]) rfl rfl rfl (xH rfl) (cs':=[_,_,_]) rfl) ?_;clear Z;rintro _ w_7⟨rfl,Z⟩;refine QoN (reg (qq Z (qa (o':=4) uj rfl uI rfl rfl rfl) (qq Z (qc 2 Qx rfl rfl rfl) (qq Z (qa (o':=2) uF rfl un rfl rfl rfl) (qq Z (qc 0 uZ rfl rfl rfl) ?_)))));refine qe (d_lit (vs:=[.bg _]) (cs:=[.bg _]) Z xQ un QZ rfl rfl rfl rfl (fun v hv=>by simp only[xV,xY,or_false]at hv; subst hv; rfl) rfl) ?_;clear Z;rintro _ w_8⟨b_8,rfl,Z⟩;refine qe (qB 2 0 Z rfl xQ QP rfl rfl rfl rfl rfl rfl rfl rfl (by omega) (by omega)) ?_;clear Z;rintro _ w_9⟨a45,p45,rfl,Z⟩;refine qq Z (qa (o':=4) uj rfl uI rfl rfl rfl) (qe (qf 3 Z uI rfl rfl rfl (vs:=[.sg _ _ _]) rfl rfl rfl (xH rfl) (cs':=[_,_,_,_,_]) rfl) ?_);clear Z;rintro _ w_10⟨rfl,Z⟩;refine qy (uM (xL (reg (qq Z (g_add rfl rfl (by omega) (by omega)) (qq Z (Qmi rfl) ?_)))));refine⟨(k+1,a45,p45),_,rfl,⟨⟨rfl,rfl,rfl,rfl,rfl,trivial⟩,?_,by dsimp only; omega⟩,by dsimp only; omega⟩;dsimp only;rw[qz hsi,Qp,ql,Qt,List.map_nil,qS];exact Z.sel [false,false,true,true,true]
    ·
     intro hc37
     try simp only[zA,zO,zN,zI,zF,zM,zT,zU]at hc37
     have hk':k=l.length:=by omega
     subst hk';rw[uL]at Z;refine ur (um (um (Qi (xL (QwR (qq Z (g_ldO 1 (vs:=[.ig _,.ig _,.ig _,.bg _,.sg _ _ _]) uz Qo rfl rfl rfl rfl) (qe (qf 2 Z uz rfl rfl rfl (vs:=[.ig _,.ig _,.ig _,.bg _,.sg _ _ _]) rfl rfl rfl (xH rfl) (cs':=[_,_,_,_,_]) rfl) ?_)))))));clear Z;rintro _ w_11⟨rfl,Z⟩;refine QoN (xO (ret1 results66 (qw 2 Z uz Qo rfl rfl rfl) ?_));have hS1:=Z.sel [true,false,false];obtain⟨I1,hE1,hI1,hd1⟩:=jf qA (xs:=l.map (·.b)) hS1 (by simp);exact⟨I1,a,l.length,c,rfl,hE1,by rw[hdat]; exact hd1⟩
  ·
   intro hc33;clear hu31 hn31 hu32 hn32
   try simp only[zA,zO,zN,zI,zF,zM,zT,zU]at hc33
   have hdat:(opS kind l).data=[]:=by show(if kind=2∨kind=4 then _ else _)=_; rw[xP (by omega)]
   refine xM (xL (QwR (qq Z (g_ldO 0 (vs:=[.ig _,.ig _,.ig _,.bg _,.sg _ _ _]) uz Qo rfl rfl rfl rfl) (qe (qf 1 Z uz rfl rfl rfl (vs:=[.ig _,.ig _,.ig _,.bg _,.sg _ _ _]) rfl rfl rfl (xH rfl) (cs':=[_,_,_,_,_]) rfl) ?_))));clear Z;rintro _ w_12⟨rfl,Z⟩;refine QoN (xO (ret1 results66 (qw 1 Z uz Qo rfl rfl rfl) ?_));exact⟨I0,none,0,0,rfl,Z.nil,by rw[hdat]; exact RFl.nil⟩
set_option maxHeartbeats 2000000 in
theorem cheapest_c (ad : Option Addr) (cap : Nat) (l : List Sym) (size : Int) (w0 : World) (I0 : Imm) (hI : Sat I0 w0) (hl : RSyms I0 (.sg ad l.length cap) l) (hw : ∀ s ∈ l, s.wf) :
 Ctr prog 29 [.sg ad l.length cap,.ig size] w0 (fun v w'=>∃I' a m c,v = .tuple #[.agg #[.bool (cheapP l size).1.lifted,.ig (cheapP l size).1.in_,.ig (cheapP l size).1.out,.sg a m c],.ig (cheapP l size).2]∧Ext w0 I0 w' I'∧ROps I' (.sg a m c) (cheapP l size).1.ops):=by
 have hll:=RSl.le hl;simp only[maxLen]at hll;have hlc:l.length≤cap:=by
  rcases hl with ⟨h1,h2⟩ | ⟨_,_,_,h1,h2,_⟩
  · rw[h2]; simp
  · cases h1; exact h2
 refine fn (n:=77) func29 rfl rfl rfl ?_;have Z:=St.start hI;refine QwR (qe (d_box (cs:=[.ig _]) Z rfl) ?_);clear Z;rintro _ w_1⟨b3,rfl,Z⟩;refine qe (qr (cs:=[.bool _,.ig _,.ig _,.sg _ _ _]) Z uK rfl) ?_;clear Z;rintro _ w_2⟨b4,rfl,Z⟩;refine qq Z (Qai rfl) (QoN (xJ ?_));obtain⟨I1,Z,hI1,hb3⟩:=Z.freezeAt 1 rfl;replace Z:St [] w0 I0 I1 _ [.cel b4 26 [.bool false,.ig 0,.ig 0,.sg none 0 0]]:=Z;refine reg (qq Z (jP ml0 (ml rfl ml0)) (qq Z (qd _) (QoN (xJ (QwR (qq Z (jG (c:=0) xW hb3 rfl rfl) (qq Z (g_lss rfl rfl) (qq Z (Qmb rfl) (qu rfl rfl Z (fun hg=>(jG (c:=0) xW hb3 rfl rfl)) ?_)))))))));intro u15 hu15 hn15;refine qu rfl rfl Z (fun hg=>(g_gtr (hu15 hg) rfl)) ?_;intro u16 hu16 hn16;refine qq Z (g_or rfl rfl (fun hq=>hu16 hq)) (qq Z (Qmb rfl) (qu rfl rfl Z (fun hg=>(qb _)) ?_));intro u19 hu19 hn19;refine qu rfl rfl Z (fun hg=>(qo rfl uN hl (hu19 hg))) ?_;intro u20 hu20 hn20;refine qu rfl rfl Z (fun hg=>(g_gtr (hu20 hg) rfl)) ?_;intro u21 hu21 hn21;refine qq Z (g_or rfl rfl (fun hq=>hu21 hq)) (qq Z (Qmb rfl) (qu rfl rfl Z (fun hg=>(qb _)) ?_));intro u24 hu24 hn24;refine qu rfl rfl Z (fun hg=>(qb _)) ?_;intro u25 hu25 hn25;refine cvu rfl rfl Z (fun hg=>(qi call64 (ml (hu24 hg) (ml (hu25 hg) ml0)) (containsFunc_c _ l 63 [.zg b3] (strange size) _ I1 Z.imm (hl.mono hI1) call63 (fun s w hIw=>strange_c s size b3 w I1 hIw hb3)))) ?_;intro w_4 u26 Z hu26 hn26;refine qq Z (g_or rfl rfl (fun hq=>hu26 hq)) (QoN (qh rfl ?_ ?_))
 ·
  intro hc27;clear hu15 hn15 hu16 hn16 hu19 hn19 hu20 hn20 hu21 hn21 hu24 hn24 hu25 hn25 hu26 hn26;have e:cheapP l size=(PatL.zero,60):=by unfold cheapP; rw[xS hc27]
  refine QwR (qq Z (qs (pl:=[(0,1),(1,1),(2,1),(3,1)]) (cs:=[.bool _,.ig _,.ig _,.sg _ _ _]) uK uk (fun w=>by simp[Qm,xK,uy]) mp0 rfl) (qe (qf 0 Z ug rfl rfl rfl (vs:=[.bool _,.ig _,.ig _,.sg _ _ _]) rfl rfl rfl (xH rfl) (cs':=[_,_,_,_]) rfl) ?_));clear Z;rintro _ w_5⟨rfl,Z⟩;refine qq Z (Qai rfl) (QoN (xO (ul (ret2 results29 (qw 0 Z ug uO rfl rfl rfl) (qg (v:=.ig _) rfl) ?_))));rw[e]; exact⟨I0,none,0,0,rfl,Z.nil.back,RSl.nilR⟩
 ·
  intro hc27;clear hu15 hn15 hu16 hn16 hu19 hn19 hu20 hn20 hu21 hn21 hu24 hn24 hu25 hn25 hu26 hn26;have hbad:=hc27;simp only[QF,xZ]at hc27;obtain⟨⟨⟨hn0,hn1⟩,hn2⟩,hany⟩:=hc27;have hok:∀s∈l,s.ok:=by
   intro s hs;have h1:=hw s hs;have h2:strange size s=false:=by
    cases h:strange size s with
    | false=>rfl
    | true=>have:=List.any_eq_true.2 ⟨s,hs,h⟩; rw[hany]at this; cases this
   unfold strange at h2;obtain⟨k1,k2,k3,k4⟩:=h1;refine⟨?_,?_,k3,k4⟩ <;> cases ho:s.old <;> simp[ho]at h2 <;> omega
  have htl:=jW l;obtain⟨p0,hp0⟩:∃p,(tab l)[0]? = some p:=⟨_,xI (by omega)⟩
  have hph:(tab l).headD Pl.zero=p0:=by rw[List.headD_eq_head?_getD,List.head?_eq_getElem?,hp0]; rfl
  have hb0:=qN zE (tab l) 0 p0 hp0 1 _ rfl;refine xM (xL (QwR (qq Z (jG (c:=0) xW hb3 rfl rfl) (qq Z (qb _) (qq Z (qo rfl uN hl rfl) (qq Z (qs (pl:=[(0,1),(1,1),(2,1),(3,1)]) (cs:=[.bool _,.ig _,.ig _,.sg _ _ _]) uK uk (fun w=>by simp[Qm,xK,uy]) (mp (v:=.ig _) rfl (mp (v:=.ig _) rfl mp0)) rfl) (qe (qr (cs:=[.bool _,.ig _,.ig _,.sg _ _ _]) Z uK rfl) ?_)))))));clear Z;rintro _ w_6⟨b7,rfl,Z⟩;refine qe (qf 0 Z ug rfl rfl rfl (vs:=[.bool _,.ig _,.ig _,.sg _ _ _]) rfl rfl rfl (xH rfl) (cs':=[_,_,_,_]) rfl) ?_;clear Z;rintro _ w_7⟨rfl,Z⟩;refine QoR (qq Z (qb _) (qe (qi call65 rfl (table_c _ l _ I1 Z.imm (hl.mono hI1) hok (by omega))) ?_));rintro _ w_8⟨bt,rfl,hE⟩;replace Z:=Z.call hE;refine qq Z (qd _) (QoN (xJ (QwR (qq Z (qb _) (qq Z (kB Jf Jd rfl rfl (by omega) (by omega)) (qq Z (qa (o':=0) uP rfl Qh rfl rfl rfl) (qq Z (qa (o':=1) QY rfl xK rfl rfl rfl) (qq Z (qc 0 xW rfl rfl hb0) (qq Z (g_gtr rfl rfl) (QoN (qh rfl ?_ ?_)))))))))))
  ·
   intro hc40
   try simp only[zA,zO,zN,zI,zF,zM,zT,zU]at hc40
   have e:cheapP l size=(PatL.zero,2):=by unfold cheapP; rw[xP (by rw[hbad]; decide),hph,xS hc40]
   refine QwR (qq Z (qs (pl:=[(0,1),(1,1),(2,1),(3,1)]) (cs:=[.bool _,.ig _,.ig _,.sg _ _ _]) uK uk (fun w=>by simp[Qm,xK,uy]) mp0 rfl) (qe (qf 2 Z ug rfl rfl rfl (vs:=[.bool _,.ig _,.ig _,.sg _ _ _]) rfl rfl rfl (xH rfl) (cs':=[_,_,_,_]) rfl) ?_));clear Z;rintro _ w_9⟨rfl,Z⟩;refine qq Z (Qai rfl) (QoN (xO (ul (ret2 results29 (qw 2 Z ug uO rfl rfl rfl) (qg (v:=.ig _) rfl) ?_))));rw[e]; exact⟨I0,none,0,0,rfl,Z.nil.back,RSl.nilR⟩
  ·
   intro hc40
   try simp only[zA,zO,zN,zI,zF,zM,zT,zU]at hc40
   have e:cheapP l size=(⟨false,size,l.length,opsT (tab l) l (l.length+1) 0⟩,0):=by unfold cheapP; rw[xP (by rw[hbad]; decide),hph,xP hc40]
   refine xM (xL (xJ (QwR (qq Z (Qai rfl) (QoN (xU (loop (fun(x:LS) σ w=>okS σ [(0,.sg ad l.length cap),(4,.zg b4),(7,.zg b7),(8,.sg (some ⟨bt,0,none⟩) (l.length+1) (l.length+1)),(9,.ig x.i)]∧∃I,St [] w0 I0 I w [.row (.sg x.a x.done.length x.c) 57 5 x.done.length x.css.flatten,.cel b7 26 [.bool false,.ig size,.ig l.length,.sg x.a x.done.length x.c],.cel bt 137 (flat plC (tab l)),.cel b4 26 [.bool false,.ig 0,.ig 0,.sg none 0 0]]∧x.i≤l.length∧x.done++opsT (tab l) l x.f x.i=opsT (tab l) l (l.length+1) 0∧l.length - x.i < x.f∧All2 (ROp I) x.css x.done∧(∀cs∈x.css,cs.length=5)∧x.done.length≤x.i) (fun x=>l.length - x.i) (⟨0,l.length+1,[],[],none,0⟩) ?_ ?_)))))))
   ·
    exact⟨⟨rfl,rfl,rfl,rfl,rfl,trivial⟩,_,(Z.perm (List.Perm.swap _ _ _) |>.sel [true,true,true]).nilRow _ _,by simp,by simp,by simp,All2.nil _,by simp,by simp⟩
   ·
    rintro⟨i,f,done,css,a,c⟩σ w_l⟨hs,I,Z,hi0,hdone,hf0,hall,hcl,hdl⟩;dsimp only at hs Z hi0 hdone hf0 hall hcl hdl ⊢;rw[← qj hs]; clear hs
    refine xJ (QwR (qq Z (Qmi rfl) (qq Z (qb _) (qq Z (qo rfl uN hl rfl) (qq Z (g_lss rfl rfl) (QoN (qh rfl ?_ ?_)))))))
    ·
     intro hc45
     try simp only[zA,zO,zN,zI,zF,zM,zT,zU]at hc45
     obtain⟨pi,hpi⟩:∃p,(tab l)[i]? = some p:=⟨_,xI (by omega)⟩
     have hpg:=kN l i pi hpi;have hpp:=tab_pos l i pi hpi (by omega);have hpl1:=hpg.n1;have hkm:Mid pi.kind:=xA l i pi hpi;obtain⟨f',hf'⟩:∃f',f=f'+1:=⟨f - 1,by omega⟩
     subst hf';rw[vL (by omega) hpi]at hdone;refine xM (xL (xJ (xU (QwR (qq Z (Qmi rfl) (qq Z (qb _) (qq Z (Qmi rfl) (qq Z (jH (o:=i*12) Jf Jd rfl rfl (by omega) (by omega) rfl) (qq Z (qa (o':=i*12+3) uP rfl xK rfl rfl rfl) (qq Z (qc 2 xW rfl rfl (qN zE _ i pi hpi 3 _ rfl)) (qq Z (g_add rfl rfl (by omega) (by omega)) (qq Z (Qai rfl) (QoN ?_)))))))))))));refine draw (.pg 0 (.hg 1 (.pg 2 (.pg 3 (.pg 4 (.pg 5 (.hg 6 (.pg 7 (.pg 8 (.pg 9 (.pg 10 (.pg 11 (.cons 12 .eff (.cons 13 .eff (.cons 14 .bar (.pg 15 (.cons 16 .bar .nil))))))))))))))))) mixed (by kernel_rfl) Z ?_;intro w_10 Z;refine sp rfl (qa (o':=3) uk rfl Qm rfl rfl rfl) (sh rfl (qc 1 Jo rfl rfl rfl) (sp rfl (qb _) (sp rfl (Qmi rfl) (sp rfl (jH (o:=i*12) Jf Jd rfl rfl (by omega) (by omega) rfl) (sp rfl (qa (o':=i*12+2) uP rfl xK rfl rfl rfl) (sh rfl (qc 2 xW rfl rfl (qN zE _ i pi hpi 2 _ rfl)) (sp rfl (qb _) ?_)))))));refine sp rfl (Qmi rfl) (sp rfl (Qmi rfl) (sp rfl (Qmi rfl) (sp rfl (g_slice3N (l0:=i) (h0:=i+pi.length.toNat) (m0:=i+pi.length.toNat) uN uQ rfl rfl rfl rfl (by omega) (by omega) (by omega) (by omega) (by omega) (by omega) (by omega)) ?_)));have hS0:=Z;refine se rfl (qi call66 rfl (operation_c pi.kind _ _ _ I Z.imm ((hl.mono Z.ext).resl i (i+pi.length.toNat) (by omega) (by omega)) hkm (by rw[Qj,uo]; omega) (by rw[Qj,uo]; omega))) ?_;rintro _ w_11⟨I2,a2,m2,c2,rfl,hE,hd2⟩;replace Z:=Z.call hE;refine⟨_,_,hS0.le hE.ext (uu _),Z,?_⟩;have hS0:=Z;refine se rfl (d_lit (vs:=[.agg #[.ig _,.ig _,.ig _,.bg _,.sg _ _ _]]) (cs:=[.ig _,.ig _,.ig _,.bg _,.sg _ _ _]) Z Qn uz QE rfl rfl rfl rfl (fun v hv=>by simp only[xV,xY,or_false]at hv; subst hv; rfl) rfl) ?_
     rintro _ w_12⟨b_12,rfl,Z⟩;refine⟨_,_,hS0.le (Sub.refl _) (uq _ _),Z,sb rfl (qB 1 0 Z rfl Qn info57 rfl rfl rfl rfl rfl rfl rfl rfl (by omega) (by omega)) ?_⟩;rintro _ w_13⟨a74,p74,rfl,Z⟩;refine⟨_,_,Z,sp rfl (qa (o':=3) uk rfl Qm rfl rfl rfl) (sb rfl (qf 2 Z Qm rfl rfl rfl (vs:=[.sg _ _ _]) rfl rfl rfl (xH rfl) (cs':=[_,_,_,_]) rfl) ?_)⟩;rintro _ w_14⟨rfl,Z⟩;refine⟨_,_,Z,sn (uM (xL (reg (qq Z (Qmi rfl) (qq Z (qb _) (qq Z (Qmi rfl) (qq Z (jH (o:=i*12) Jf Jd rfl rfl (by omega) (by omega) rfl) (qq Z (qa (o':=i*12+3) uP rfl xK rfl rfl rfl) (qq Z (qc 3 xW rfl rfl (qN zE _ i pi hpi 3 _ rfl)) (qq Z (g_add rfl rfl (by omega) (by omega)) (qq Z (Qai rfl) ?_)))))))))))⟩;refine ⟨⟨i + pi.length.toNat, f', done ++ [opS pi.kind ((l.take (i + pi.length.toNat)).drop i)], css ++ [_], a74, p74⟩, _, rfl, ⟨⟨rfl, rfl, rfl, rfl, by show Value.int .i64 (↑i + pi.length) = Value.int .i64 _; congr 1; dsimp only; omega, trivial⟩, _, ?_, by dsimp only; omega, by dsimp only; rw [uh]; exact hdone, by dsimp only; omega,
      All2.snoc (hall.mono fun _ _ h=>h.mono hE.ext) ⟨_,_,_,rfl,hd2⟩,?_,by dsimp only; simp; omega⟩,by dsimp only; omega⟩
     · dsimp only
       rw[JO,List.flatten_singleton,xN];exact Z.sel [false,true,true,true,true]
     · intro cs hcs
       rcases uJ.1 hcs with h | h
       · exact hcl cs h
       · simp only[uG]at h; subst h; rfl
    ·
     intro hc45
     try simp only[zA,zO,zN,zI,zF,zM,zT,zU]at hc45
     rw[vm (by omega),List.append_nil]at hdone;refine ur (um (um (Qi (xL (QwR (qq Z (g_ldO 1 (vs:=[.bool _,.ig _,.ig _,.sg _ _ _]) ug uO rfl rfl rfl rfl) (qe (qf 3 Z ug rfl rfl rfl (vs:=[.bool _,.ig _,.ig _,.sg _ _ _]) rfl rfl rfl (xH rfl) (cs':=[_,_,_,_]) rfl) ?_)))))));clear Z;rintro _ w_15⟨rfl,Z⟩;refine qq Z (Qai rfl) (QoN (xO (ret2 results29 (qw 3 Z ug uO rfl rfl rfl) (qg (v:=.ig _) rfl) ?_)));obtain⟨I3,hS3,hI3,ho3⟩:=St.freezeRowR (Z.sel [true,false,false,false]) rfl hcl hall;rw[e,← hdone];exact⟨I3,a,done.length,c,rfl,hS3,RSl.mono ho3 (Sub.refl _) fun _ _ h=>h.mono hI3⟩
end Go.Proofs.YtgkgihnpjgbmhaaGreatDoor
namespace Go.Proofs.YtgkgihnpjgbmhaaGreatDoor
open Tryz
open Go Go.RowKit Go.Inl
theorem kd {p:PatL}(hp:p.wf):∀s∈(symbolsP p).1,s.wf:=by
 intro s hs;unfold symbolsP at hs;split at hs
 · rename_i h
   obtain⟨h1,h2,h3,h4,h5,h6,h7⟩:=ja h;simp only[symsOf,List.mem_flatMap,symsOp,Qu,List.mem_range]at hs;obtain⟨x,hx,i,hi,rfl⟩:=hs;obtain⟨l1,l2⟩:=h1 x hx;have hw:=hp.ops x hx;obtain⟨⟨k1,k2⟩,⟨f1,f2⟩,⟨q1,q2⟩,⟨b1,b2⟩,hdat⟩:=hw;have hd:0≤x.data.getD i 0∧x.data.getD i 0≤255:=by
    rw[xT];cases e:x.data[i]? with
    | none=>simp
    | some y=>exact hdat y (xR e)
   unfold rightP insideP at l2;unfold symS;split at l2
   · rename_i hk; simp only[uC,ua]at l2; rw[xS hk]; exact⟨by dsimp only; omega,by dsimp only; omega,by dsimp only; omega,by dsimp only; omega⟩
   · rename_i hk; rw [xP hk]
     split at l2
     · rename_i hk; simp only[uC,ua]at l2; rw[xS hk]; exact⟨by dsimp only; omega,by dsimp only; omega,hd.1,hd.2⟩
     · rename_i hk; rw [xP hk]
       split at l2
       · rename_i hk; rw[xS hk]; exact⟨by dsimp only; omega,by dsimp only; omega,b1,b2⟩
       · rename_i hk; rw [xP hk]
         split at l2
         · rename_i hk; rw[xS hk]; exact⟨by dsimp only; omega,by dsimp only; omega,hd.1,hd.2⟩
         · cases l2
 · simp at hs
theorem symbols_c (p : PatL) (ad : Option Addr) (m cap : Nat) (w0 : World) (I0 : Imm) (hI : Sat I0 w0) (hops : ROps I0 (.sg ad m cap) p.ops) (hp : p.wf) :
 Ctr prog 27 [.agg #[.bool p.lifted,.ig p.in_,.ig p.out,.sg ad m cap]] w0 (fun v w'=>∃I' a c,v = .tuple #[.slice a (symbolsP p).1.length c,.ig (symbolsP p).2]∧Ext w0 I0 w' I'∧RSyms I' (.slice a (symbolsP p).1.length c) (symbolsP p).1) :=
 (symbols_o p ad m cap w0 I0 hI hops hp).mono fun v w' ⟨a,c,hv,Z⟩=>by
   obtain⟨I1,hE,_,hr⟩:=jf kw Z rfl;exact⟨I1,a,c,hv,hE,hr⟩
end Go.Proofs.YtgkgihnpjgbmhaaGreatDoor
