/- Package pack: an operation is read. Conditions: it is a right one. -/
import Derived.Test.YtgkgihnpjgbmhaaGreatDoorRead14
set_option linter.unusedSimpArgs false
set_option linter.unusedVariables false
namespace Go.Proofs.YtgkgihnpjgbmhaaGreatDoor
open Tryz
open Go Go.RowKit Go.Inl
structure OpS (x : OpL) : Prop where
 b:x.kind≠3→x.b=0
 from_:3≤x.kind→x.from_=0
 none:x.kind≠2→x.kind≠4→x.data=[]
 some:x.kind=2∨x.kind=4→(x.data.length:Int)=x.len
theorem opS_of {x:OpL}{n:Int}(h:rightP x n=true):OpS x:=by
 unfold rightP at h;split at h
 · simp only [insideP, xf, vU] at h
   exact⟨fun _=>h.1.2,fun _=>by omega,fun _ _=>uk.1 (by omega),fun _=>by omega⟩
 · split at h
   · simp only [insideP, xf, vU] at h
     exact⟨fun _=>h.1.2,fun _=>by omega,fun _ _=>by omega,fun _=>h.2⟩
   · split at h
     · simp only [xf, vU] at h
       exact⟨fun _=>by omega,fun _=>h.1,fun _ _=>uk.1 (by omega),fun _=>by omega⟩
     · split at h
       · simp only [xf, vU] at h
         exact⟨fun _=>h.1.2,fun _=>h.1.1,fun _ _=>by omega,fun _=>h.2⟩
       · cases h
theorem qX {x:OpL}{k f l b:Int}{v:Value}(h1:k=x.kind)(h2:f=x.from_)(h3:l=x.len)(h4:b=x.b):Value.agg #[.int .i64 k,.int .i64 f,.int .i64 l,.int .u8 b,v] = .agg #[.int .i64 x.kind,.int .i64 x.from_,.int .i64 x.len,.int .u8 x.b,v]:=by subst h1 h2 h3 h4; rfl
theorem kE (w:Nat)(a:Int):numsB w [a]=numB w a:=by show numB w a++[]=_; rw[List.append_nil]
theorem numsB_2 (w:Nat)(a b:Int):numsB w [a,b]=numB w a++numB w b:=by show numB w a++(numB w b++[])=_; rw[List.append_nil]
theorem ol_1 {x:OpL}(h:x.kind=1∨x.kind=2)(r:List Int):opB x++r=numB 1 x.kind++(numB 3 x.from_++(numB 3 x.len++r)):=by unfold opB; rw[vJ h,kE,numsB_2]; simp only[xa]
theorem ol_3 {x:OpL}(h:x.kind=3)(r:List Int):opB x++r=numB 1 x.kind++(numB 3 x.len++(numB 1 x.b++r)):=by unfold opB; rw[vG (by omega),vJ h,kE,kE,kE]; simp only[xa]
theorem ol_4 {x:OpL}(h:x.kind=4)(r:List Int):opB x++r=numB 1 x.kind++(numB 3 x.len++r):=by unfold opB; rw[vG (by omega),vG (by omega),kE,kE]; simp only[xa]
set_option maxHeartbeats 1000000 in
theorem op_c (x : OpL) (hG : OpG x) (hsh : OpS x) (rest1 rest2 : List Int) (hr1 : Byt rest1) (lb db : Nat) (la da : Option Addr) (lc dc : Nat) (XX : List Nat) (w0 : World) (I0 : Imm) (hl : RBytes I0 (.slice la (opB x ++ rest1).length lc) (opB x ++ rest1)) (hd : RBytes I0 (.slice da (x.data ++ rest2).length dc) (x.data ++ rest2)) (hS0 : St XX w0 I0 I0 w0 [.cel lb 186 [.slice la (opB x ++ rest1).length lc], .cel db 186 [.slice da (x.data ++ rest2).length dc]]) :
 Ctr prog 101 [.pointer (some ⟨lb,0,none⟩),.pointer (some ⟨db,0,none⟩)] w0 (fun v w'=>∃I' a m c a1 c1 a2 c2,v=opV x a m c∧St XX w0 I0 I' w' [.cel lb 186 [.slice a1 rest1.length c1],.cel db 186 [.slice a2 rest2.length c2]]∧RBytes I' (.slice a m c) x.data∧RBytes I0 (.slice a1 rest1.length c1) rest1∧RBytes I0 (.slice a2 rest2.length c2) rest2):=by
 obtain⟨⟨g1,g2⟩,⟨g3,g4⟩,⟨g5,g6⟩,⟨g7,g8⟩,g9,g10⟩:=hG;have hsb:=hsh.b;have hsf:=hsh.from_;obtain⟨t1,ht1⟩:∃t,opB x++rest1=numB 1 x.kind++t:=⟨_,by unfold opB; rw[kE,xa]⟩
 have hbt:Byt t1:=fun y hy=>(je (opB_byt x) hr1) y (by rw[ht1]; exact List.mem_append_right _ hy)
 refine fn (n:=47) func101 rfl rfl rfl ?_;have hS:=hS0;refine QwR (qe (qv (cs:=[.int .i64 _,.int .i64 _,.int .i64 _,.int .u8 _,.slice _ _ _]) hS xY rfl) ?_);clear hS;rintro _ w_1⟨b4,rfl,hS⟩;refine QoR (qq hS (qb _) (qe (qg uF rfl (num_c lb _ _ _ 1 x.kind (t1) _ _ hS.imm (qA hS (k:=1) rfl) (qz hS (k:=1) rfl) hl ht1 (by decide) (kZ (by omega)) hbt)) ?_));rintro _ w_2⟨aL,cL,rfl,hE,hsL⟩;replace hS:=hS.callX (k:=1) rfl hE;refine qq hS (qt (pl:=[(0,1),(1,1),(2,1),(3,1),(4,1)]) (cs:=[.int .i64 _,.int .i64 _,.int .i64 _,.int .u8 _,.slice _ _ _]) xY vO (fun w=>by simp[xj,vF,xd]) (mp (v:=.int .i64 _) rfl mp0) rfl) (qe (qv (cs:=[.int .i64 _,.int .i64 _,.int .i64 _,.int .u8 _,.slice _ _ _]) hS xY rfl) ?_);clear hS;rintro _ w_3⟨b5,rfl,hS⟩;refine qe (qf 0 hS xb rfl rfl rfl (vs:=[.int .i64 _,.int .i64 _,.int .i64 _,.int .u8 _,.slice _ _ _]) rfl rfl rfl (vB rfl) (cs':=[_,_,_,_,_]) rfl) ?_;clear hS;rintro _ w_4⟨rfl,hS⟩;refine QoN (vD (QwR (qq hS (qa (o':=0) vO rfl vF rfl rfl rfl) (qq hS (qd 0 vV rfl rfl rfl) (QoN (vS (vD (QwR (qq hS (g_eql rfl rfl) (qq hS (Qab rfl) (QoN (qj rfl ?_ ?_))))))))))))
 ·
  intro hc14
  try simp only[zA,zO,zN,zI,zF,zM,zT,zU]at hc14
  refine vL (vK (qj rfl ?_ ?_))
  ·
   intro hc14_2
   try simp only[zA,zO,zN,zI,zF,zM,zT,zU]at hc14_2
   have hk:x.kind=1∨x.kind=2:=by omega
   have ht2:=List.append_cancel_left (ht1.symm.trans (ol_1 hk rest1));refine reg (qq hS (qb _) (qe (qg uF rfl (num_c lb _ _ _ 3 x.from_ (numB 3 x.len++rest1) _ _ hS.imm (qA hS (k:=2) rfl) (qz hS (k:=2) rfl) hsL ht2 (by decide) (qU (by omega)) (je (qZ _ _) hr1))) ?_));rintro _ w_5⟨aL,cL,rfl,hE,hsL⟩;replace hS:=hS.callX (k:=2) rfl hE;refine qq hS (qb _) (qe (qg uF rfl (num_c lb _ _ _ 3 x.len (rest1) _ _ hS.imm (qA hS (k:=2) rfl) (qz hS (k:=2) rfl) hsL rfl (by decide) (qU (by omega)) hr1)) ?_);rintro _ w_6⟨aL,cL,rfl,hE,hsL⟩;replace hS:=hS.callX (k:=2) rfl hE;refine qq hS (qa (o':=1) vO rfl vF rfl rfl rfl) (qe (qf 0 hS vF rfl rfl rfl (vs:=[.int .i64 _]) rfl rfl rfl (vB rfl) (cs':=[_,_,_,_,_]) rfl) ?_);clear hS;rintro _ w_7⟨rfl,hS⟩;refine qq hS (qa (o':=2) vO rfl vF rfl rfl rfl) (qe (qf 0 hS vF rfl rfl rfl (vs:=[.int .i64 _]) rfl rfl rfl (vB rfl) (cs':=[_,_,_,_,_]) rfl) ?_);clear hS;rintro _ w_8⟨rfl,hS⟩;refine qB (xO (vK (vD (QwR (qq hS (qa (o':=0) vO rfl vF rfl rfl rfl) (qq hS (qd 0 vV rfl rfl rfl) (qq hS (g_eql rfl rfl) (qq hS (Qmb rfl) (qu rfl rfl hS (fun hg=>(qa (o':=0) vO rfl vF rfl rfl rfl)) ?_)))))))));intro u36 hu36 hn36;refine qu rfl rfl hS (fun hg=>(qd 0 vV rfl (hu36 hg) rfl)) ?_;intro u37 hu37 hn37;refine qu rfl rfl hS (fun hg=>(g_eql (hu37 hg) rfl)) ?_;intro u38 hu38 hn38;refine qq hS (g_or rfl rfl (fun hq=>hu38 hq)) (QoN (qj rfl ?_ ?_))
   ·
    intro hc39;clear hu36 hn36 hu37 hn37 hu38 hn38
    try simp only[zA,zO,zN,zI,zF,zM,zT,zU]at hc39
    have hk24:x.kind=2∨x.kind=4:=by first | exact hc39 | omega
    have hdl:=hsh.some hk24;refine reg (qq hS (qb _) (qq hS (qa (o':=2) vO rfl vF rfl rfl rfl) (qq hS (qd 0 vV rfl rfl rfl) (qe (qg uZ rfl (jM db _ _ _ x.data rest2 x.len _ _ hS.imm (qA hS (k:=3) rfl) (qz hS (k:=3) rfl) hd rfl hdl.symm)) ?_))));rintro _ w_9⟨a43,c43,a2_,c2_,rfl,hE,h43,hd2⟩;replace hS:=hS.callX (k:=3) rfl hE;refine qe (qg call131 rfl (zk _ _ x.data _ _ hS.imm h43 (by omega) (by omega))) ?_;rintro _ w_10⟨I_f,a44,c44,rfl,hE,h44⟩;replace hS:=hS.callE hE;refine qq hS (qa (o':=4) vO rfl xj rfl rfl rfl) (qe (qf 0 hS xj rfl rfl rfl (vs:=[.slice _ _ _]) rfl rfl rfl (vB rfl) (cs':=[_,_,_,_,_]) rfl) ?_);clear hS;rintro _ w_11⟨rfl,hS⟩;refine QoR (qq hS (g_ldO 0 (vs:=[.int .i64 _,.int .i64 _,.int .i64 _,.int .u8 _,.slice _ _ _]) xb xJ rfl rfl rfl rfl) (qe (qf 1 hS xb rfl rfl rfl (vs:=[.int .i64 _,.int .i64 _,.int .i64 _,.int .u8 _,.slice _ _ _]) rfl rfl rfl (vB rfl) (cs':=[_,_,_,_,_]) rfl) ?_));clear hS;rintro _ w_12⟨rfl,hS⟩;refine QoN (vM (ret1 uA (qD 1 hS xb xJ rfl rfl rfl) ?_))
    first
     | exact⟨_,a44,x.data.length,c44,aL,cL,a2_,c2_,qX (by omega) (by omega) (by omega) (by omega),hS.sel [false,false,true,true],h44,hsL,hd2⟩
     | (have hde : x.data ++ rest2 = rest2 := by rw [hdn]; rfl
        rw[hde]at hS hd;exact⟨_,none,0,0,aL,cL,da,dc,qX (by omega) (by omega) (by omega) (by omega),hS.sel [false,false,true,true],(by rw[hdn]; exact RFl.nil),hsL,hd⟩)
   ·
    intro hc39;clear hu36 hn36 hu37 hn37 hu38 hn38
    try simp only[zA,zO,zN,zI,zF,zM,zT,zU]at hc39
    have hdn:=hsh.none (by omega) (by omega);refine vL (vK (QwR (qq hS (g_ldO 0 (vs:=[.int .i64 _,.int .i64 _,.int .i64 _,.int .u8 _,.slice _ _ _]) xb xJ rfl rfl rfl rfl) (qe (qf 1 hS xb rfl rfl rfl (vs:=[.int .i64 _,.int .i64 _,.int .i64 _,.int .u8 _,.slice _ _ _]) rfl rfl rfl (vB rfl) (cs':=[_,_,_,_,_]) rfl) ?_))));clear hS;rintro _ w_13⟨rfl,hS⟩;refine QoN (vM (ret1 uA (qD 1 hS xb xJ rfl rfl rfl) ?_))
    first
     | exact⟨_,a44,x.data.length,c44,aL,cL,a2_,c2_,qX (by omega) (by omega) (by omega) (by omega),hS.sel [false,false,true,true],h44,hsL,hd2⟩
     | (have hde : x.data ++ rest2 = rest2 := by rw [hdn]; rfl
        rw[hde]at hS hd;exact⟨_,none,0,0,aL,cL,da,dc,qX (by omega) (by omega) (by omega) (by omega),hS.sel [false,false,true,true],(by rw[hdn]; exact RFl.nil),hsL,hd⟩)
  ·
   intro hc14_2
   try simp only[zA,zO,zN,zI,zF,zM,zT,zU]at hc14_2
   refine QwR (qq hS (g_eql rfl rfl) (qq hS (Qab rfl) (QoN (qj rfl ?_ ?_))))
   ·
    intro hc23
    try simp only[zA,zO,zN,zI,zF,zM,zT,zU]at hc23
    have hk:x.kind=3:=by omega
    have ht2:=List.append_cancel_left (ht1.symm.trans (ol_3 hk rest1));have hcb:IntKind.u8.wrap x.b=x.b:=by rw[IntKind.wrap_u8]; omega
    refine reg (qq hS (qb _) (qe (qg uF rfl (num_c lb _ _ _ 3 x.len (numB 1 x.b++rest1) _ _ hS.imm (qA hS (k:=2) rfl) (qz hS (k:=2) rfl) hsL ht2 (by decide) (qU (by omega)) (je (qZ _ _) hr1))) ?_));rintro _ w_14⟨aL,cL,rfl,hE,hsL⟩;replace hS:=hS.callX (k:=2) rfl hE;refine qq hS (qb _) (qe (qg uF rfl (num_c lb _ _ _ 1 x.b (rest1) _ _ hS.imm (qA hS (k:=2) rfl) (qz hS (k:=2) rfl) hsL rfl (by decide) (kZ (by omega)) hr1)) ?_);rintro _ w_15⟨aL,cL,rfl,hE,hsL⟩;replace hS:=hS.callX (k:=2) rfl hE;refine qq hS (jm uv xI rfl hcb) (qq hS (qa (o':=2) vO rfl vF rfl rfl rfl) (qe (qf 0 hS vF rfl rfl rfl (vs:=[.int .i64 _]) rfl rfl rfl (vB rfl) (cs':=[_,_,_,_,_]) rfl) ?_));clear hS;rintro _ w_16⟨rfl,hS⟩;refine qq hS (qa (o':=3) vO rfl xd rfl rfl rfl) (qe (qf 0 hS xd rfl rfl rfl (vs:=[.int .u8 _]) rfl rfl rfl (vB rfl) (cs':=[_,_,_,_,_]) rfl) ?_);clear hS;rintro _ w_17⟨rfl,hS⟩;refine qB (xO (vK (vD (QwR (qq hS (qa (o':=0) vO rfl vF rfl rfl rfl) (qq hS (qd 0 vV rfl rfl rfl) (qq hS (g_eql rfl rfl) (qq hS (Qmb rfl) (qu rfl rfl hS (fun hg=>(qa (o':=0) vO rfl vF rfl rfl rfl)) ?_)))))))));intro u36 hu36 hn36;refine qu rfl rfl hS (fun hg=>(qd 0 vV rfl (hu36 hg) rfl)) ?_;intro u37 hu37 hn37;refine qu rfl rfl hS (fun hg=>(g_eql (hu37 hg) rfl)) ?_;intro u38 hu38 hn38;refine qq hS (g_or rfl rfl (fun hq=>hu38 hq)) (QoN (qj rfl ?_ ?_))
    ·
     intro hc39;clear hu36 hn36 hu37 hn37 hu38 hn38
     try simp only[zA,zO,zN,zI,zF,zM,zT,zU]at hc39
     have hk24:x.kind=2∨x.kind=4:=by first | exact hc39 | omega
     have hdl:=hsh.some hk24;refine reg (qq hS (qb _) (qq hS (qa (o':=2) vO rfl vF rfl rfl rfl) (qq hS (qd 0 vV rfl rfl rfl) (qe (qg uZ rfl (jM db _ _ _ x.data rest2 x.len _ _ hS.imm (qA hS (k:=3) rfl) (qz hS (k:=3) rfl) hd rfl hdl.symm)) ?_))));rintro _ w_18⟨a43,c43,a2_,c2_,rfl,hE,h43,hd2⟩;replace hS:=hS.callX (k:=3) rfl hE;refine qe (qg call131 rfl (zk _ _ x.data _ _ hS.imm h43 (by omega) (by omega))) ?_;rintro _ w_19⟨I_f,a44,c44,rfl,hE,h44⟩;replace hS:=hS.callE hE;refine qq hS (qa (o':=4) vO rfl xj rfl rfl rfl) (qe (qf 0 hS xj rfl rfl rfl (vs:=[.slice _ _ _]) rfl rfl rfl (vB rfl) (cs':=[_,_,_,_,_]) rfl) ?_);clear hS;rintro _ w_20⟨rfl,hS⟩;refine QoR (qq hS (g_ldO 0 (vs:=[.int .i64 _,.int .i64 _,.int .i64 _,.int .u8 _,.slice _ _ _]) xb xJ rfl rfl rfl rfl) (qe (qf 1 hS xb rfl rfl rfl (vs:=[.int .i64 _,.int .i64 _,.int .i64 _,.int .u8 _,.slice _ _ _]) rfl rfl rfl (vB rfl) (cs':=[_,_,_,_,_]) rfl) ?_));clear hS;rintro _ w_21⟨rfl,hS⟩;refine QoN (vM (ret1 uA (qD 1 hS xb xJ rfl rfl rfl) ?_))
     first
      | exact⟨_,a44,x.data.length,c44,aL,cL,a2_,c2_,qX (by omega) (by omega) (by omega) (by omega),hS.sel [false,false,true,true],h44,hsL,hd2⟩
      | (have hde : x.data ++ rest2 = rest2 := by rw [hdn]; rfl
         rw[hde]at hS hd;exact⟨_,none,0,0,aL,cL,da,dc,qX (by omega) (by omega) (by omega) (by omega),hS.sel [false,false,true,true],(by rw[hdn]; exact RFl.nil),hsL,hd⟩)
    ·
     intro hc39;clear hu36 hn36 hu37 hn37 hu38 hn38
     try simp only[zA,zO,zN,zI,zF,zM,zT,zU]at hc39
     have hdn:=hsh.none (by omega) (by omega);refine vL (vK (QwR (qq hS (g_ldO 0 (vs:=[.int .i64 _,.int .i64 _,.int .i64 _,.int .u8 _,.slice _ _ _]) xb xJ rfl rfl rfl rfl) (qe (qf 1 hS xb rfl rfl rfl (vs:=[.int .i64 _,.int .i64 _,.int .i64 _,.int .u8 _,.slice _ _ _]) rfl rfl rfl (vB rfl) (cs':=[_,_,_,_,_]) rfl) ?_))));clear hS;rintro _ w_22⟨rfl,hS⟩;refine QoN (vM (ret1 uA (qD 1 hS xb xJ rfl rfl rfl) ?_))
     first
      | exact⟨_,a44,x.data.length,c44,aL,cL,a2_,c2_,qX (by omega) (by omega) (by omega) (by omega),hS.sel [false,false,true,true],h44,hsL,hd2⟩
      | (have hde : x.data ++ rest2 = rest2 := by rw [hdn]; rfl
         rw[hde]at hS hd;exact⟨_,none,0,0,aL,cL,da,dc,qX (by omega) (by omega) (by omega) (by omega),hS.sel [false,false,true,true],(by rw[hdn]; exact RFl.nil),hsL,hd⟩)
   ·
    intro hc23
    try simp only[zA,zO,zN,zI,zF,zM,zT,zU]at hc23
    have hk:x.kind=4:=by omega
    have ht2:=List.append_cancel_left (ht1.symm.trans (ol_4 hk rest1));refine reg (qq hS (qb _) (qe (qg uF rfl (num_c lb _ _ _ 3 x.len (rest1) _ _ hS.imm (qA hS (k:=2) rfl) (qz hS (k:=2) rfl) hsL ht2 (by decide) (qU (by omega)) hr1)) ?_));rintro _ w_23⟨aL,cL,rfl,hE,hsL⟩;replace hS:=hS.callX (k:=2) rfl hE;refine qq hS (qa (o':=2) vO rfl vF rfl rfl rfl) (qe (qf 0 hS vF rfl rfl rfl (vs:=[.int .i64 _]) rfl rfl rfl (vB rfl) (cs':=[_,_,_,_,_]) rfl) ?_);clear hS;rintro _ w_24⟨rfl,hS⟩;refine qB (xO (vK (vD (QwR (qq hS (qa (o':=0) vO rfl vF rfl rfl rfl) (qq hS (qd 0 vV rfl rfl rfl) (qq hS (g_eql rfl rfl) (qq hS (Qmb rfl) (qu rfl rfl hS (fun hg=>(qa (o':=0) vO rfl vF rfl rfl rfl)) ?_)))))))));intro u36 hu36 hn36;refine qu rfl rfl hS (fun hg=>(qd 0 vV rfl (hu36 hg) rfl)) ?_;intro u37 hu37 hn37;refine qu rfl rfl hS (fun hg=>(g_eql (hu37 hg) rfl)) ?_;intro u38 hu38 hn38;refine qq hS (g_or rfl rfl (fun hq=>hu38 hq)) (QoN (qj rfl ?_ ?_))
    ·
     intro hc39;clear hu36 hn36 hu37 hn37 hu38 hn38
     try simp only[zA,zO,zN,zI,zF,zM,zT,zU]at hc39
     have hk24:x.kind=2∨x.kind=4:=by first | exact hc39 | omega
     have hdl:=hsh.some hk24;refine reg (qq hS (qb _) (qq hS (qa (o':=2) vO rfl vF rfl rfl rfl) (qq hS (qd 0 vV rfl rfl rfl) (qe (qg uZ rfl (jM db _ _ _ x.data rest2 x.len _ _ hS.imm (qA hS (k:=3) rfl) (qz hS (k:=3) rfl) hd rfl hdl.symm)) ?_))));rintro _ w_25⟨a43,c43,a2_,c2_,rfl,hE,h43,hd2⟩;replace hS:=hS.callX (k:=3) rfl hE;refine qe (qg call131 rfl (zk _ _ x.data _ _ hS.imm h43 (by omega) (by omega))) ?_;rintro _ w_26⟨I_f,a44,c44,rfl,hE,h44⟩;replace hS:=hS.callE hE;refine qq hS (qa (o':=4) vO rfl xj rfl rfl rfl) (qe (qf 0 hS xj rfl rfl rfl (vs:=[.slice _ _ _]) rfl rfl rfl (vB rfl) (cs':=[_,_,_,_,_]) rfl) ?_);clear hS;rintro _ w_27⟨rfl,hS⟩;refine QoR (qq hS (g_ldO 0 (vs:=[.int .i64 _,.int .i64 _,.int .i64 _,.int .u8 _,.slice _ _ _]) xb xJ rfl rfl rfl rfl) (qe (qf 1 hS xb rfl rfl rfl (vs:=[.int .i64 _,.int .i64 _,.int .i64 _,.int .u8 _,.slice _ _ _]) rfl rfl rfl (vB rfl) (cs':=[_,_,_,_,_]) rfl) ?_));clear hS;rintro _ w_28⟨rfl,hS⟩;refine QoN (vM (ret1 uA (qD 1 hS xb xJ rfl rfl rfl) ?_))
     first
      | exact⟨_,a44,x.data.length,c44,aL,cL,a2_,c2_,qX (by omega) (by omega) (by omega) (by omega),hS.sel [false,false,true,true],h44,hsL,hd2⟩
      | (have hde : x.data ++ rest2 = rest2 := by rw [hdn]; rfl
         rw[hde]at hS hd;exact⟨_,none,0,0,aL,cL,da,dc,qX (by omega) (by omega) (by omega) (by omega),hS.sel [false,false,true,true],(by rw[hdn]; exact RFl.nil),hsL,hd⟩)
    ·
     intro hc39;clear hu36 hn36 hu37 hn37 hu38 hn38
     try simp only[zA,zO,zN,zI,zF,zM,zT,zU]at hc39
     have hdn:=hsh.none (by omega) (by omega);refine vL (vK (QwR (qq hS (g_ldO 0 (vs:=[.int .i64 _,.int .i64 _,.int .i64 _,.int .u8 _,.slice _ _ _]) xb xJ rfl rfl rfl rfl) (qe (qf 1 hS xb rfl rfl rfl (vs:=[.int .i64 _,.int .i64 _,.int .i64 _,.int .u8 _,.slice _ _ _]) rfl rfl rfl (vB rfl) (cs':=[_,_,_,_,_]) rfl) ?_))));clear hS;rintro _ w_29⟨rfl,hS⟩;refine QoN (vM (ret1 uA (qD 1 hS xb xJ rfl rfl rfl) ?_))
     first
      | exact⟨_,a44,x.data.length,c44,aL,cL,a2_,c2_,qX (by omega) (by omega) (by omega) (by omega),hS.sel [false,false,true,true],h44,hsL,hd2⟩
      | (have hde : x.data ++ rest2 = rest2 := by rw [hdn]; rfl
         rw[hde]at hS hd;exact⟨_,none,0,0,aL,cL,da,dc,qX (by omega) (by omega) (by omega) (by omega),hS.sel [false,false,true,true],(by rw[hdn]; exact RFl.nil),hsL,hd⟩)
 ·
  intro hc14
  try simp only[zA,zO,zN,zI,zF,zM,zT,zU]at hc14
  refine reg (qq hS (g_eql rfl rfl) (qq hS (Qab rfl) (QoN (qj rfl ?_ ?_))))
  ·
   intro hc14_2
   try simp only[zA,zO,zN,zI,zF,zM,zT,zU]at hc14_2
   have hk:x.kind=1∨x.kind=2:=by omega
   have ht2:=List.append_cancel_left (ht1.symm.trans (ol_1 hk rest1));refine reg (qq hS (qb _) (qe (qg uF rfl (num_c lb _ _ _ 3 x.from_ (numB 3 x.len++rest1) _ _ hS.imm (qA hS (k:=2) rfl) (qz hS (k:=2) rfl) hsL ht2 (by decide) (qU (by omega)) (je (qZ _ _) hr1))) ?_));rintro _ w_30⟨aL,cL,rfl,hE,hsL⟩;replace hS:=hS.callX (k:=2) rfl hE;refine qq hS (qb _) (qe (qg uF rfl (num_c lb _ _ _ 3 x.len (rest1) _ _ hS.imm (qA hS (k:=2) rfl) (qz hS (k:=2) rfl) hsL rfl (by decide) (qU (by omega)) hr1)) ?_);rintro _ w_31⟨aL,cL,rfl,hE,hsL⟩;replace hS:=hS.callX (k:=2) rfl hE;refine qq hS (qa (o':=1) vO rfl vF rfl rfl rfl) (qe (qf 0 hS vF rfl rfl rfl (vs:=[.int .i64 _]) rfl rfl rfl (vB rfl) (cs':=[_,_,_,_,_]) rfl) ?_);clear hS;rintro _ w_32⟨rfl,hS⟩;refine qq hS (qa (o':=2) vO rfl vF rfl rfl rfl) (qe (qf 0 hS vF rfl rfl rfl (vs:=[.int .i64 _]) rfl rfl rfl (vB rfl) (cs':=[_,_,_,_,_]) rfl) ?_);clear hS;rintro _ w_33⟨rfl,hS⟩;refine qB (xO (vK (vD (QwR (qq hS (qa (o':=0) vO rfl vF rfl rfl rfl) (qq hS (qd 0 vV rfl rfl rfl) (qq hS (g_eql rfl rfl) (qq hS (Qmb rfl) (qu rfl rfl hS (fun hg=>(qa (o':=0) vO rfl vF rfl rfl rfl)) ?_)))))))));intro u36 hu36 hn36;refine qu rfl rfl hS (fun hg=>(qd 0 vV rfl (hu36 hg) rfl)) ?_;intro u37 hu37 hn37;refine qu rfl rfl hS (fun hg=>(g_eql (hu37 hg) rfl)) ?_;intro u38 hu38 hn38;refine qq hS (g_or rfl rfl (fun hq=>hu38 hq)) (QoN (qj rfl ?_ ?_))
   ·
    intro hc39;clear hu36 hn36 hu37 hn37 hu38 hn38
    try simp only[zA,zO,zN,zI,zF,zM,zT,zU]at hc39
    have hk24:x.kind=2∨x.kind=4:=by first | exact hc39 | omega
    have hdl:=hsh.some hk24;refine reg (qq hS (qb _) (qq hS (qa (o':=2) vO rfl vF rfl rfl rfl) (qq hS (qd 0 vV rfl rfl rfl) (qe (qg uZ rfl (jM db _ _ _ x.data rest2 x.len _ _ hS.imm (qA hS (k:=3) rfl) (qz hS (k:=3) rfl) hd rfl hdl.symm)) ?_))));rintro _ w_34⟨a43,c43,a2_,c2_,rfl,hE,h43,hd2⟩;replace hS:=hS.callX (k:=3) rfl hE;refine qe (qg call131 rfl (zk _ _ x.data _ _ hS.imm h43 (by omega) (by omega))) ?_;rintro _ w_35⟨I_f,a44,c44,rfl,hE,h44⟩;replace hS:=hS.callE hE;refine qq hS (qa (o':=4) vO rfl xj rfl rfl rfl) (qe (qf 0 hS xj rfl rfl rfl (vs:=[.slice _ _ _]) rfl rfl rfl (vB rfl) (cs':=[_,_,_,_,_]) rfl) ?_);clear hS;rintro _ w_36⟨rfl,hS⟩;refine QoR (qq hS (g_ldO 0 (vs:=[.int .i64 _,.int .i64 _,.int .i64 _,.int .u8 _,.slice _ _ _]) xb xJ rfl rfl rfl rfl) (qe (qf 1 hS xb rfl rfl rfl (vs:=[.int .i64 _,.int .i64 _,.int .i64 _,.int .u8 _,.slice _ _ _]) rfl rfl rfl (vB rfl) (cs':=[_,_,_,_,_]) rfl) ?_));clear hS;rintro _ w_37⟨rfl,hS⟩;refine QoN (vM (ret1 uA (qD 1 hS xb xJ rfl rfl rfl) ?_))
    first
     | exact⟨_,a44,x.data.length,c44,aL,cL,a2_,c2_,qX (by omega) (by omega) (by omega) (by omega),hS.sel [false,false,true,true],h44,hsL,hd2⟩
     | (have hde : x.data ++ rest2 = rest2 := by rw [hdn]; rfl
        rw[hde]at hS hd;exact⟨_,none,0,0,aL,cL,da,dc,qX (by omega) (by omega) (by omega) (by omega),hS.sel [false,false,true,true],(by rw[hdn]; exact RFl.nil),hsL,hd⟩)
   ·
    intro hc39;clear hu36 hn36 hu37 hn37 hu38 hn38
    try simp only[zA,zO,zN,zI,zF,zM,zT,zU]at hc39
    have hdn:=hsh.none (by omega) (by omega);refine vL (vK (QwR (qq hS (g_ldO 0 (vs:=[.int .i64 _,.int .i64 _,.int .i64 _,.int .u8 _,.slice _ _ _]) xb xJ rfl rfl rfl rfl) (qe (qf 1 hS xb rfl rfl rfl (vs:=[.int .i64 _,.int .i64 _,.int .i64 _,.int .u8 _,.slice _ _ _]) rfl rfl rfl (vB rfl) (cs':=[_,_,_,_,_]) rfl) ?_))));clear hS;rintro _ w_38⟨rfl,hS⟩;refine QoN (vM (ret1 uA (qD 1 hS xb xJ rfl rfl rfl) ?_))
    first
     | exact⟨_,a44,x.data.length,c44,aL,cL,a2_,c2_,qX (by omega) (by omega) (by omega) (by omega),hS.sel [false,false,true,true],h44,hsL,hd2⟩
     | (have hde : x.data ++ rest2 = rest2 := by rw [hdn]; rfl
        rw[hde]at hS hd;exact⟨_,none,0,0,aL,cL,da,dc,qX (by omega) (by omega) (by omega) (by omega),hS.sel [false,false,true,true],(by rw[hdn]; exact RFl.nil),hsL,hd⟩)
  ·
   intro hc14_2
   try simp only[zA,zO,zN,zI,zF,zM,zT,zU]at hc14_2
   refine QwR (qq hS (g_eql rfl rfl) (qq hS (Qab rfl) (QoN (qj rfl ?_ ?_))))
   ·
    intro hc23
    try simp only[zA,zO,zN,zI,zF,zM,zT,zU]at hc23
    have hk:x.kind=3:=by omega
    have ht2:=List.append_cancel_left (ht1.symm.trans (ol_3 hk rest1));have hcb:IntKind.u8.wrap x.b=x.b:=by rw[IntKind.wrap_u8]; omega
    refine reg (qq hS (qb _) (qe (qg uF rfl (num_c lb _ _ _ 3 x.len (numB 1 x.b++rest1) _ _ hS.imm (qA hS (k:=2) rfl) (qz hS (k:=2) rfl) hsL ht2 (by decide) (qU (by omega)) (je (qZ _ _) hr1))) ?_));rintro _ w_39⟨aL,cL,rfl,hE,hsL⟩;replace hS:=hS.callX (k:=2) rfl hE;refine qq hS (qb _) (qe (qg uF rfl (num_c lb _ _ _ 1 x.b (rest1) _ _ hS.imm (qA hS (k:=2) rfl) (qz hS (k:=2) rfl) hsL rfl (by decide) (kZ (by omega)) hr1)) ?_);rintro _ w_40⟨aL,cL,rfl,hE,hsL⟩;replace hS:=hS.callX (k:=2) rfl hE;refine qq hS (jm uv xI rfl hcb) (qq hS (qa (o':=2) vO rfl vF rfl rfl rfl) (qe (qf 0 hS vF rfl rfl rfl (vs:=[.int .i64 _]) rfl rfl rfl (vB rfl) (cs':=[_,_,_,_,_]) rfl) ?_));clear hS;rintro _ w_41⟨rfl,hS⟩;refine qq hS (qa (o':=3) vO rfl xd rfl rfl rfl) (qe (qf 0 hS xd rfl rfl rfl (vs:=[.int .u8 _]) rfl rfl rfl (vB rfl) (cs':=[_,_,_,_,_]) rfl) ?_);clear hS;rintro _ w_42⟨rfl,hS⟩;refine qB (xO (vK (vD (QwR (qq hS (qa (o':=0) vO rfl vF rfl rfl rfl) (qq hS (qd 0 vV rfl rfl rfl) (qq hS (g_eql rfl rfl) (qq hS (Qmb rfl) (qu rfl rfl hS (fun hg=>(qa (o':=0) vO rfl vF rfl rfl rfl)) ?_)))))))));intro u36 hu36 hn36;refine qu rfl rfl hS (fun hg=>(qd 0 vV rfl (hu36 hg) rfl)) ?_;intro u37 hu37 hn37;refine qu rfl rfl hS (fun hg=>(g_eql (hu37 hg) rfl)) ?_;intro u38 hu38 hn38;refine qq hS (g_or rfl rfl (fun hq=>hu38 hq)) (QoN (qj rfl ?_ ?_))
    ·
     intro hc39;clear hu36 hn36 hu37 hn37 hu38 hn38
     try simp only[zA,zO,zN,zI,zF,zM,zT,zU]at hc39
     have hk24:x.kind=2∨x.kind=4:=by first | exact hc39 | omega
     have hdl:=hsh.some hk24;refine reg (qq hS (qb _) (qq hS (qa (o':=2) vO rfl vF rfl rfl rfl) (qq hS (qd 0 vV rfl rfl rfl) (qe (qg uZ rfl (jM db _ _ _ x.data rest2 x.len _ _ hS.imm (qA hS (k:=3) rfl) (qz hS (k:=3) rfl) hd rfl hdl.symm)) ?_))));rintro _ w_43⟨a43,c43,a2_,c2_,rfl,hE,h43,hd2⟩;replace hS:=hS.callX (k:=3) rfl hE;refine qe (qg call131 rfl (zk _ _ x.data _ _ hS.imm h43 (by omega) (by omega))) ?_;rintro _ w_44⟨I_f,a44,c44,rfl,hE,h44⟩;replace hS:=hS.callE hE;refine qq hS (qa (o':=4) vO rfl xj rfl rfl rfl) (qe (qf 0 hS xj rfl rfl rfl (vs:=[.slice _ _ _]) rfl rfl rfl (vB rfl) (cs':=[_,_,_,_,_]) rfl) ?_);clear hS;rintro _ w_45⟨rfl,hS⟩;refine QoR (qq hS (g_ldO 0 (vs:=[.int .i64 _,.int .i64 _,.int .i64 _,.int .u8 _,.slice _ _ _]) xb xJ rfl rfl rfl rfl) (qe (qf 1 hS xb rfl rfl rfl (vs:=[.int .i64 _,.int .i64 _,.int .i64 _,.int .u8 _,.slice _ _ _]) rfl rfl rfl (vB rfl) (cs':=[_,_,_,_,_]) rfl) ?_));clear hS;rintro _ w_46⟨rfl,hS⟩;refine QoN (vM (ret1 uA (qD 1 hS xb xJ rfl rfl rfl) ?_))
     first
      | exact⟨_,a44,x.data.length,c44,aL,cL,a2_,c2_,qX (by omega) (by omega) (by omega) (by omega),hS.sel [false,false,true,true],h44,hsL,hd2⟩
      | (have hde : x.data ++ rest2 = rest2 := by rw [hdn]; rfl
         rw[hde]at hS hd;exact⟨_,none,0,0,aL,cL,da,dc,qX (by omega) (by omega) (by omega) (by omega),hS.sel [false,false,true,true],(by rw[hdn]; exact RFl.nil),hsL,hd⟩)
    ·
     intro hc39;clear hu36 hn36 hu37 hn37 hu38 hn38
     try simp only[zA,zO,zN,zI,zF,zM,zT,zU]at hc39
     have hdn:=hsh.none (by omega) (by omega);refine vL (vK (QwR (qq hS (g_ldO 0 (vs:=[.int .i64 _,.int .i64 _,.int .i64 _,.int .u8 _,.slice _ _ _]) xb xJ rfl rfl rfl rfl) (qe (qf 1 hS xb rfl rfl rfl (vs:=[.int .i64 _,.int .i64 _,.int .i64 _,.int .u8 _,.slice _ _ _]) rfl rfl rfl (vB rfl) (cs':=[_,_,_,_,_]) rfl) ?_))));clear hS;rintro _ w_47⟨rfl,hS⟩;refine QoN (vM (ret1 uA (qD 1 hS xb xJ rfl rfl rfl) ?_))
     first
      | exact⟨_,a44,x.data.length,c44,aL,cL,a2_,c2_,qX (by omega) (by omega) (by omega) (by omega),hS.sel [false,false,true,true],h44,hsL,hd2⟩
      | (have hde : x.data ++ rest2 = rest2 := by rw [hdn]; rfl
         rw[hde]at hS hd;exact⟨_,none,0,0,aL,cL,da,dc,qX (by omega) (by omega) (by omega) (by omega),hS.sel [false,false,true,true],(by rw[hdn]; exact RFl.nil),hsL,hd⟩)
   ·
    intro hc23
    try simp only[zA,zO,zN,zI,zF,zM,zT,zU]at hc23
    have hk:x.kind=4:=by omega
    have ht2:=List.append_cancel_left (ht1.symm.trans (ol_4 hk rest1));refine reg (qq hS (qb _) (qe (qg uF rfl (num_c lb _ _ _ 3 x.len (rest1) _ _ hS.imm (qA hS (k:=2) rfl) (qz hS (k:=2) rfl) hsL ht2 (by decide) (qU (by omega)) hr1)) ?_));rintro _ w_48⟨aL,cL,rfl,hE,hsL⟩;replace hS:=hS.callX (k:=2) rfl hE;refine qq hS (qa (o':=2) vO rfl vF rfl rfl rfl) (qe (qf 0 hS vF rfl rfl rfl (vs:=[.int .i64 _]) rfl rfl rfl (vB rfl) (cs':=[_,_,_,_,_]) rfl) ?_);clear hS;rintro _ w_49⟨rfl,hS⟩;refine qB (xO (vK (vD (QwR (qq hS (qa (o':=0) vO rfl vF rfl rfl rfl) (qq hS (qd 0 vV rfl rfl rfl) (qq hS (g_eql rfl rfl) (qq hS (Qmb rfl) (qu rfl rfl hS (fun hg=>(qa (o':=0) vO rfl vF rfl rfl rfl)) ?_)))))))));intro u36 hu36 hn36;refine qu rfl rfl hS (fun hg=>(qd 0 vV rfl (hu36 hg) rfl)) ?_;intro u37 hu37 hn37;refine qu rfl rfl hS (fun hg=>(g_eql (hu37 hg) rfl)) ?_;intro u38 hu38 hn38;refine qq hS (g_or rfl rfl (fun hq=>hu38 hq)) (QoN (qj rfl ?_ ?_))
    ·
     intro hc39;clear hu36 hn36 hu37 hn37 hu38 hn38
     try simp only[zA,zO,zN,zI,zF,zM,zT,zU]at hc39
     have hk24:x.kind=2∨x.kind=4:=by first | exact hc39 | omega
     have hdl:=hsh.some hk24;refine reg (qq hS (qb _) (qq hS (qa (o':=2) vO rfl vF rfl rfl rfl) (qq hS (qd 0 vV rfl rfl rfl) (qe (qg uZ rfl (jM db _ _ _ x.data rest2 x.len _ _ hS.imm (qA hS (k:=3) rfl) (qz hS (k:=3) rfl) hd rfl hdl.symm)) ?_))));rintro _ w_50⟨a43,c43,a2_,c2_,rfl,hE,h43,hd2⟩;replace hS:=hS.callX (k:=3) rfl hE;refine qe (qg call131 rfl (zk _ _ x.data _ _ hS.imm h43 (by omega) (by omega))) ?_;rintro _ w_51⟨I_f,a44,c44,rfl,hE,h44⟩;replace hS:=hS.callE hE;refine qq hS (qa (o':=4) vO rfl xj rfl rfl rfl) (qe (qf 0 hS xj rfl rfl rfl (vs:=[.slice _ _ _]) rfl rfl rfl (vB rfl) (cs':=[_,_,_,_,_]) rfl) ?_);clear hS;rintro _ w_52⟨rfl,hS⟩;refine QoR (qq hS (g_ldO 0 (vs:=[.int .i64 _,.int .i64 _,.int .i64 _,.int .u8 _,.slice _ _ _]) xb xJ rfl rfl rfl rfl) (qe (qf 1 hS xb rfl rfl rfl (vs:=[.int .i64 _,.int .i64 _,.int .i64 _,.int .u8 _,.slice _ _ _]) rfl rfl rfl (vB rfl) (cs':=[_,_,_,_,_]) rfl) ?_));clear hS;rintro _ w_53⟨rfl,hS⟩;refine QoN (vM (ret1 uA (qD 1 hS xb xJ rfl rfl rfl) ?_))
     first
      | exact⟨_,a44,x.data.length,c44,aL,cL,a2_,c2_,qX (by omega) (by omega) (by omega) (by omega),hS.sel [false,false,true,true],h44,hsL,hd2⟩
      | (have hde : x.data ++ rest2 = rest2 := by rw [hdn]; rfl
         rw[hde]at hS hd;exact⟨_,none,0,0,aL,cL,da,dc,qX (by omega) (by omega) (by omega) (by omega),hS.sel [false,false,true,true],(by rw[hdn]; exact RFl.nil),hsL,hd⟩)
    ·
     intro hc39;clear hu36 hn36 hu37 hn37 hu38 hn38
     try simp only[zA,zO,zN,zI,zF,zM,zT,zU]at hc39
     have hdn:=hsh.none (by omega) (by omega);refine vL (vK (QwR (qq hS (g_ldO 0 (vs:=[.int .i64 _,.int .i64 _,.int .i64 _,.int .u8 _,.slice _ _ _]) xb xJ rfl rfl rfl rfl) (qe (qf 1 hS xb rfl rfl rfl (vs:=[.int .i64 _,.int .i64 _,.int .i64 _,.int .u8 _,.slice _ _ _]) rfl rfl rfl (vB rfl) (cs':=[_,_,_,_,_]) rfl) ?_))));clear hS;rintro _ w_54⟨rfl,hS⟩;refine QoN (vM (ret1 uA (qD 1 hS xb xJ rfl rfl rfl) ?_))
     first
      | exact⟨_,a44,x.data.length,c44,aL,cL,a2_,c2_,qX (by omega) (by omega) (by omega) (by omega),hS.sel [false,false,true,true],h44,hsL,hd2⟩
      | (have hde : x.data ++ rest2 = rest2 := by rw [hdn]; rfl
         rw[hde]at hS hd;exact⟨_,none,0,0,aL,cL,da,dc,qX (by omega) (by omega) (by omega) (by omega),hS.sel [false,false,true,true],(by rw[hdn]; exact RFl.nil),hsL,hd⟩)
end Go.Proofs.YtgkgihnpjgbmhaaGreatDoor
