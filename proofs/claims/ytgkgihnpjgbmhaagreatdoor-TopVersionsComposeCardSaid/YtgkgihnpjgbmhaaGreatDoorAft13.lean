/- The model of the coder with a table for each byte before. Conditions: none. -/
import Derived.Test.YtgkgihnpjgbmhaaGreatDoorEnc13
import Derived.Test.YtgkgihnpjgbmhaaGreatDoorKCore3
set_option linter.unusedSimpArgs false
set_option linter.unusedVariables false
namespace Go.Proofs.YtgkgihnpjgbmhaaGreatDoor
open Tryz
open Go Go.RowKit Go.Inl
def aftC (r:Nat)(last:Int):List Value:=[.map (some r),.int .u8 last]
theorem St.startO {w:World}{I:Imm}{b:Nat}{o:Obj}(h:Sat I w)(hb:w.heap[b]? = some o)(hn:I b=none):St [b] w I I w [.obj b o] :=
 ⟨rfl,rfl,rfl,vX _,fun _ _ _=>rfl,h,fun _ _=>rfl,Sub.refl _,by
   intro r hr; simp only[xi]at hr; subst hr; exact hb,by
   intro r hr c hc; simp only[xi]at hr; subst hr; simp only[Res.foot,xi]at hc; subst hc; exact⟨hn,.inr (by simp)⟩,by simp[Res.foot]⟩
theorem g_eqT13 {P:Program}{n:Nat}{σ:Nat→Value}{S:World→Prop}{t t' ty:TypeId}{x y:Operand}{k:IntKind}{a b:Int}(hx:ev n σ x = .int k a)(hy:ev n σ y = .int k b)(h:a=b):Gives P (ev n σ) S (.binOp .eql t x y t') ty (.bool true):=by
 have:=g_eql (P:=P) (S:=S) (t:=t) (t':=t') (ty:=ty) hx hy;rwa [ur h]at this
theorem St.freezeB {w0 w:World}{I0 I:Imm}{L:List Res}{b:Nat}{T:TypeId}{cs:List Value}(h:St [] w0 I0 I w (.cel b T cs::L)):∃I',St [] w0 I0 I' w L∧Inl.Sub I I'∧I' b=some (.cells cs.toArray T (0,0)):=by
 have hh:w.heap[b]? = some (.cells cs.toArray T (0,0)):=h.hold _ (List.mem_cons_self ..);obtain⟨h2,h3,h4⟩:=h.freeze;exact⟨_,h2,h3,by rw[h4 b (by simp[Res.foot]),hh]⟩
set_option maxRecDepth 20000 in
set_option maxHeartbeats 1000000 in
theorem now_c (b r : Nat) (l : List (Int × Nat)) (last : Int) (w0 : World) (I0 : Imm) (hI : Sat I0 w0) (hb : I0 b = some (.cells (aftC r last).toArray 230 (0, 0))) (hm : w0.heap[r]? = some (mapOB l)) (hn : I0 r = none) :
 Ctr prog 197 [.pointer (some ⟨b,0,none⟩)] w0 (fun v w'=>∃c,v = .pointer (some ⟨c,0,none⟩)∧((lookIB l last=some c∧St [r] w0 I0 I0 w' [.obj r (mapOB l)])∨(lookIB l last=none∧St [r] w0 I0 I0 w' [.cel c 226 (adC adOne),.obj r (mapOB (l++[(last,c)]))]))):=by
 refine fn (n:=32) func197 rfl rfl rfl ?_;have hS:St [r] w0 I0 I0 w0 [.obj r (mapOB l)]:=St.startO hI hm hn;refine QwR (qq hS (qc _) (QoN (vD (draw (.cons 0 .pure (.cons 1 .pure (.cons 2 .pure (.cons 3 .held (.cons 4 .pure (.cons 5 .pure (.cons 6 .pure (.cons 7 .held (.cons 8 .held (.cons 9 .pure (.cons 10 .pure (.cons 11 .pure (.cons 12 .pure (.cons 13 .pure .nil)))))))))))))) mixed (by kernel_rfl) hS ?_))));intro w_1 hS;refine sp rfl (qb _) (sp rfl (qi rfl) (sp rfl (qa (o':=0) uT rfl sizeOf228 rfl rfl rfl) (sh rfl (kG isAgg228 (atCell hb) rfl (show(aftC r last)[0]? = _ from rfl)) (sp rfl (qb _) (sp rfl (qi rfl) (sp rfl (qa (o':=1) uT rfl xd rfl rfl rfl) (sh rfl (kG xR (atCell hb) rfl (show(aftC r last)[1]? = _ from rfl)) ?_)))))));refine sh rfl (g_lookOB 0 underlying228 xI zeroValue224 rfl rfl rfl) (sp rfl (qb _) (sp rfl (qm rfl rfl) (sp rfl (qm (v:=.bool _) rfl rfl) (sp rfl (qc _) (sp rfl (Qab rfl) (sn (vK (vD (QwR (qq hS (Qmb rfl) (qq hS (g_not rfl) (QoN (qj rfl ?_ ?_)))))))))))))
 ·
  intro hc18;have hnone:lookIB l last=none:=by
   cases h:lookIB l last with
   | none=>rfl
   | some c=>rw[h]at hc18; cases hc18
  refine QwR (qe (qg call125 rfl (ones_c _ _ hS.imm)) ?_);rintro _ w_2⟨rfl,hE⟩;replace hS:=hS.callE hE;refine qq hS (qt (pl:=[(0,256),(256,1)]) (cs:=adC adOne) zeroValue226 uc (fun w=>by simp[uM,uL]) (mp (v:=.agg (u32s adOne.c).toArray) rfl (mp (v:=.int .u64 256) rfl mp0)) (by kernel_rfl)) (qe (d_box (cs:=adC adOne) hS rfl) ?_);clear hS;rintro _ w_3⟨bt,rfl,hS⟩;refine qq hS (qc _) (QoN (draw (.cons 0 .pure (.cons 1 .pure (.cons 2 .pure (.cons 3 .held (.cons 4 .pure (.cons 5 .pure (.cons 6 .pure (.cons 7 .held (.cons 8 .pure (.cons 9 .bar .nil)))))))))) mixed (by kernel_rfl) hS ?_));intro w_4 hS;refine sp rfl (qb _) (sp rfl (qi rfl) (sp rfl (qa (o':=0) uT rfl sizeOf228 rfl rfl rfl) (sh rfl (kG isAgg228 (atCell hb) rfl (show(aftC r last)[0]? = _ from rfl)) (sp rfl (qb _) (sp rfl (qi rfl) (sp rfl (qa (o':=1) uT rfl xd rfl rfl rfl) (sh rfl (kG xR (atCell hb) rfl (show(aftC r last)[1]? = _ from rfl)) ?_)))))));refine sp rfl (qb _) (sb rfl (d_mapPutB 1 hS underlying228 xI rfl rfl rfl rfl hnone) ?_);rintro _ w_5⟨rfl,hS⟩;refine⟨_,_,hS,sn (vK (QwR (qq hS (qb _) (qq hS (qc _) (QoN (vM (ret1 results197 (qh rfl) ?_)))))))⟩;exact⟨_,rfl,.inr ⟨hnone,hS⟩⟩
 ·
  intro hc18;obtain⟨c,hsome⟩:∃c,lookIB l last=some c:=by
   cases h:lookIB l last with
   | none=>rw[h]at hc18; cases hc18
   | some c=>exact⟨c,rfl⟩
  refine vL (vK (QwR (qq hS (qb _) (qq hS (qc _) (QoN (vM (ret1 results197 (qh rfl) ?_)))))));rw[hsome];exact⟨_,rfl,Or.inl ⟨rfl,hS⟩⟩
theorem Chg.trans {F F1:List Nat}{w w1 w2:World}{I I1 I2:Imm}(h:Chg F w I w1 I1)(k:Chg F1 w1 I1 w2 I2)(hF:∀d∈F1,d∈F∨w.heap.size≤d):Chg F w I w2 I2 :=
 ⟨k.os.trans h.os, k.tape.trans h.tape, k.output.trans h.output, Nat.le_trans h.size k.size,
  fun d hd hn=>(k.block d (Nat.lt_of_lt_of_le hd h.size) fun hm=>(hF d hm).elim hn fun e=>by omega).trans (h.block d hd hn),k.imm,
  fun d hd hn=>(k.keep d (Nat.lt_of_lt_of_le hd h.size) fun hm=>(hF d hm).elim hn fun e=>by omega).trans (h.keep d hd hn)⟩
theorem Chg.ext {F:List Nat}{w w1 w2:World}{I I1 I2:Imm}(h:Chg F w I w1 I1)(k:Ext w1 I1 w2 I2):Chg F w I w2 I2:=h.trans (Chg.ofExt k) fun d hd=>by simp at hd
theorem Chg.wide {F F':List Nat}{w w1:World}{I I1:Imm}(h:Chg F w I w1 I1)(hF:∀d∈F,d∈F'):Chg F' w I w1 I1:=⟨h.os,h.tape,h.output,h.size,fun d hd hn=>h.block d hd fun hm=>hn (hF d hm),h.imm,fun d hd hn=>h.keep d hd fun hm=>hn (hF d hm)⟩
structure H2 (I : Imm) (b r : Nat) (l : List (Int × Nat)) (T : Int → Ad) (last : Int) (F : List Nat) : Prop where
 box:I b=some (.cells (aftC r last).toArray 230 (0,0))
 map:I r=some (mapOB l)
 tab:∀k c,lookIB l k=some c→RAd I c (T k)∧c∈F
 non:∀k,lookIB l k=none→T k=adOne
 inj:∀k k' c,lookIB l k=some c→lookIB l k'=some c→k=k'
 foot:∀c∈F,(I c).isSome=true
 inb:b∈F
 inr:r∈F
theorem H2.br {I:Imm}{b r:Nat}{l:List (Int×Nat)}{T:Int→Ad}{last:Int}{F:List Nat}(h:H2 I b r l T last F):b≠r:=fun e=>by
 have h1:=h.box;rw[e,h.map]at h1;unfold mapOB at h1;cases h1
theorem H2.cb {I:Imm}{b r:Nat}{l:List (Int×Nat)}{T:Int→Ad}{last:Int}{F:List Nat}(h:H2 I b r l T last F){k:Int}{c:Nat}(hc:lookIB l k=some c):c≠b:=fun e=>by
 have h1:=(h.tab k c hc).1.hold;rw[e,h.box]at h1;injection h1 with h1
 injection h1 with _ h1
 revert h1
 decide
theorem H2.cr {I:Imm}{b r:Nat}{l:List (Int×Nat)}{T:Int→Ad}{last:Int}{F:List Nat}(h:H2 I b r l T last F){k:Int}{c:Nat}(hc:lookIB l k=some c):c≠r:=fun e=>by
 have h1:=(h.tab k c hc).1.hold;rw[e,h.map]at h1;unfold mapOB at h1;cases h1
theorem H2.setTab {I : Imm} {b r : Nat} {l : List (Int × Nat)} {T : Int → Ad} {last : Int} {F : List Nat} (h : H2 I b r l T last F) {q : Int} {c : Nat} (hc : lookIB l q = some c) (A : Ad) :
 H2 (fun d=>if d=c then some (.cells (adC A).toArray 226 (0,0)) else I d) b r l (fun k=>if k=q then A else T k) last F where
 box:=by rw[vG (h.cb hc).symm]; exact h.box
 map:=by rw[vG (h.cr hc).symm]; exact h.map
 tab:=fun k d hd=>by
  refine⟨⟨?_⟩,(h.tab k d hd).2⟩;by_cases e:k=q
  · subst e
    obtain rfl:d=c:=Option.some.inj (hd.symm.trans hc);rw[vJ rfl,vJ rfl]
  · rw [vG e, vG (fun (e2 : d = c) => e (h.inj k q c (by rw [← e2]; exact hd) hc))]
    exact(h.tab k d hd).1.hold
 non:=fun k hk=>by rw[vG fun e=>by rw[e,hc]at hk; cases hk]; exact h.non k hk
 inj:=h.inj
 foot:=fun d hd=>by
  by_cases e:d=c
  · rw[vJ e]; rfl
  · rw[vG e]; exact h.foot d hd
 inb:=h.inb
 inr:=h.inr
theorem H2.setLast {I : Imm} {b r : Nat} {l : List (Int × Nat)} {T : Int → Ad} {last : Int} {F : List Nat} (h : H2 I b r l T last F) (x : Int) :
 H2 (fun d=>if d=b then some (.cells (aftC r x).toArray 230 (0,0)) else I d) b r l T x F where
 box:=vJ rfl
 map:=by rw[vG h.br.symm]; exact h.map
 tab:=fun k d hd=>⟨⟨by rw[vG (h.cb hd)]; exact(h.tab k d hd).1.hold⟩,(h.tab k d hd).2⟩
 non:=h.non
 inj:=h.inj
 foot:=fun d hd=>by
  by_cases e:d=b
  · rw[vJ e]; rfl
  · rw[vG e]; exact h.foot d hd
 inb:=h.inb
 inr:=h.inr
theorem now2_c {b r : Nat} {l : List (Int × Nat)} {T : Int → Ad} {last : Int} {F : List Nat} (w0 : World) (I0 : Imm) (hI : Sat I0 w0) (h : H2 I0 b r l T last F) :
 Ctr prog 197 [.pointer (some ⟨b,0,none⟩)] w0 (fun v w'=>∃c I' F' l',v = .pointer (some ⟨c,0,none⟩)∧Chg F w0 I0 w' I'∧H2 I' b r l' T last F'∧lookIB l' last=some c∧∀d∈F',d∈F∨w0.heap.size≤d):=by
 refine(now_c b r l last w0 _ (yp hI r) (by rw[vG h.br]; exact h.box) (hI r _ h.map) (vJ rfl)).mono ?_;rintro v w' ⟨c,rfl,⟨hs,hS⟩ | ⟨hn,hS⟩⟩
 · refine ⟨c, I0, F, l, rfl, ⟨hS.os, hS.tape, hS.output, hS.size, fun k hk hm => hS.block k hk fun e => hm (by rw [xi] at e; subst e; exact h.inr), fun d o hd => ?_, fun _ _ _ => rfl⟩, h, hs, fun d hd => .inl hd⟩
   by_cases e:d=r
   · subst e
     rw[h.map]at hd;obtain rfl:=Option.some.inj hd;exact hS.hold _ (xi.2 rfl)
   · exact hS.imm d o (by rw[vG e]; exact hd)
 · have hcr:c≠r:=fun e=>by
    have:=hS.nodup;subst e;simp[Res.foot]at this
   have hcn:=hS.new (.cel c 226 (adC adOne)) (List.mem_cons_self ..) c (by simp[Res.foot]);have hcs:w0.heap.size≤c:=hcn.2.elim id fun e=>absurd (xi.1 e) hcr
   have hlt:∀d,(I0 d).isSome=true→d < w0.heap.size:=fun d hd=>by
    obtain⟨o,ho⟩:=Option.isSome_iff_exists.1 hd;exact zm hI ho
   have hbl:=hlt b (h.foot b h.inb);have hrl:=hlt r (h.foot r h.inr);have hdc:∀k d,lookIB l k=some d→d < w0.heap.size:=fun k d hd=>hlt d (h.foot d (h.tab k d hd).2)
   refine ⟨c, fun d => if d = r then some (mapOB (l ++ [(last, c)])) else if d = c then some (.cells (adC adOne).toArray 226 (0, 0)) else I0 d, c :: F, l ++ [(last, c)], rfl,
    ⟨hS.os,hS.tape,hS.output,hS.size,fun k hk hm=>hS.block k hk fun e=>hm (by rw[xi]at e; subst e; exact h.inr),fun d o hd=>?_,fun d hd hn=>?_⟩,⟨?_,vJ rfl,fun k d hd=>?_,fun k hk=>?_,fun k k' d hd hd'=>?_,fun d hd=>?_,List.mem_cons_of_mem _ h.inb,List.mem_cons_of_mem _ h.inr⟩,?_,fun d hd=>?_⟩
   · by_cases e : d = r
     · subst e
       rw[vJ rfl]at hd;obtain rfl:=Option.some.inj hd;exact hS.hold _ (List.mem_cons_of_mem _ (xi.2 rfl))
     · rw [vG e] at hd
       by_cases e2:d=c
       · subst e2
         rw[vJ rfl]at hd;obtain rfl:=Option.some.inj hd;exact hS.hold _ (List.mem_cons_self ..)
       · rw [vG e2] at hd
         exact hS.imm d o (by rw[vG e]; exact hd)
   · rw[vG (fun(e:d=r)=>hn (by rw[e]; exact h.inr)),vG (by omega)]
   · rw[vG h.br,vG (by omega)]; exact h.box
   · rw [jI] at hd
     cases hk:lookIB l k with
     | some e =>
       rw[hk]at hd;obtain rfl:=Option.some.inj hd;refine⟨⟨?_⟩,List.mem_cons_of_mem _ (h.tab k e hk).2⟩;rw[vG (h.cr hk),vG (by have:=hdc k e hk; omega)];exact(h.tab k e hk).1.hold
     | none =>
       rw[hk]at hd;dsimp only at hd;split at hd
       · obtain rfl := Option.some.inj hd
         refine⟨⟨?_⟩,List.mem_cons_self ..⟩;rw[vG hcr,vJ rfl,h.non k hk]
       · cases hd
   · rw [jI] at hk
     cases hk2:lookIB l k with
     | some e=>rw[hk2]at hk; cases hk
     | none=>exact h.non k hk2
   · rw [jI] at hd hd'
     cases hk:lookIB l k with
     | some e =>
       rw[hk]at hd;obtain rfl:=Option.some.inj hd;cases hk':lookIB l k' with
       | some e' =>
         rw[hk']at hd';obtain rfl:=Option.some.inj hd';exact h.inj k k' _ hk hk'
       | none =>
         rw[hk']at hd';dsimp only at hd';split at hd'
         · obtain rfl := Option.some.inj hd'
           have:=hdc k _ hk;omega
         · cases hd'
     | none =>
       rw[hk]at hd;dsimp only at hd;split at hd
       case isFalse=>cases hd
       obtain rfl:=Option.some.inj hd;cases hk':lookIB l k' with
       | some e' =>
         rw[hk']at hd';obtain rfl:=Option.some.inj hd';have:=hdc k' _ hk';omega
       | none =>
         rw[hk']at hd';dsimp only at hd';split at hd'
         · rename_i e1 e2; exact e1.trans e2.symm
         · cases hd'
   · by_cases e : d = r
     · rw[vJ e]; rfl
     · rw [vG e]
       by_cases e2:d=c
       · rw[vJ e2]; rfl
       · rw[vG e2]; exact h.foot d ((vN.1 hd).resolve_left e2)
   · rw[jI,hn]; exact vJ rfl
   · rcases vN.1 hd with e | e
     · exact .inr (e▸hcs)
     · exact .inl e
set_option maxHeartbeats 1000000 in
theorem counts2_c {b r : Nat} {l : List (Int × Nat)} {T : Int → Ad} {last : Int} {F : List Nat} (hA : AdOk (T last)) (w0 : World) (I0 : Imm) (hI : Sat I0 w0) (h : H2 I0 b r l T last F) :
 Ctr prog 195 [.pointer (some ⟨b,0,none⟩)] w0 (fun v w'=>∃c I' F' l',v = .tuple #[.pointer (some ⟨c,0,none⟩),.int .u64 (T last).t]∧Chg F w0 I0 w' I'∧H2 I' b r l' T last F'∧RAd I' c (T last)∧∀d∈F',d∈F∨w0.heap.size≤d):=by
 refine fn (n:=9) func195 rfl rfl rfl ?_;have hS:=St.start hI;refine QwR (qq hS (qc _) (qq hS (qr (v:=.int .u64 _) rfl) (QoR (qq hS (qb _) (qe (qg call197 rfl (now2_c _ _ hS.imm h)) ?_)))));rintro _ w_1⟨c,I1,F1,l1,rfl,hC,hH,hc,hF⟩;replace hS:=St.start hC.imm;refine qe (qg call193 rfl (adcounts_c c (T last) hA _ _ hS.imm (hH.tab _ _ hc).1)) ?_;rintro _ w_2⟨rfl,hE⟩;replace hS:=hS.callE hE;refine qq hS (qm rfl rfl) (qq hS (qm (v:=.int .u64 _) rfl rfl) (qq hS (qc _) (qq hS (qr (v:=.int .u64 _) rfl) (QoN (vM (ret2 results195 (qh rfl) (qh (v:=.int .u64 _) rfl) ?_))))));exact⟨c,I1,F1,l1,rfl,hC.ext hS.nil,hH,(hH.tab _ _ hc).1,hF⟩
set_option maxHeartbeats 1000000 in
theorem saw2_c {b r : Nat} {l : List (Int × Nat)} {T : Int → Ad} {last : Int} {F : List Nat} (x : Nat) (hx : x < 256) (hA : AdOk (T last)) (w0 : World) (I0 : Imm) (hI : Sat I0 w0) (h : H2 I0 b r l T last F) :
 Ctr prog 196 [.pointer (some ⟨b,0,none⟩),.int .u8 x] w0 (fun v w'=>∃I' F' l',v = .tuple #[]∧Chg F w0 I0 w' I'∧H2 I' b r l' (fun k=>if k=last then sawA (T last) x else T k) x F'∧∀d∈F',d∈F∨w0.heap.size≤d):=by
 refine fn (n:=12) func196 rfl rfl rfl ?_;have hS:=St.start hI;refine QwR (qq hS (qb _) (qe (qg call197 rfl (now2_c _ _ hS.imm h)) ?_));rintro _ w_1⟨c,I1,F1,l1,rfl,hC,hH,hc,hF⟩;replace hS:=St.start hC.imm;refine qq hS (qs (v:=.int .u8 _) rfl) (qe (qg call194 rfl (saw_c c (T last) x hx hA _ _ (yp hS.imm c) (hS.imm c _ (hH.tab _ _ hc).1.hold) (vJ rfl))) ?_);rintro _ w_2⟨rfl,hE⟩;have hC2:=Chg.ofOwn hC.imm (zm hC.imm (hH.tab _ _ hc).1.hold) hE;have hH2:=hH.setTab hc (sawA (T last) x);have hC3:=hC.trans hC2 (fun d hd=>hF d (by rw[xi]at hd; subst hd; exact(hH.tab _ _ hc).2));replace hS:=St.startX (yp hC2.imm b) (hC2.imm b _ hH2.box) (vJ rfl);refine QoN (reg (qq hS (qb _) (qq hS (qs (v:=.int .u8 _) rfl) (qq hS (qi rfl) (qq hS (qa (o':=1) uT rfl xd rfl rfl rfl) (qe (qf 0 hS xd rfl rfl rfl (vs:=[.int .u8 _]) rfl rfl rfl (vB rfl) (cs':=[_,_]) rfl) ?_))))));clear hS;rintro _ w_3⟨rfl,hS⟩;refine qB (end0 results196  ?_);have hC4:=Chg.ofOwn hC2.imm (zm hC2.imm hH2.box) hS;exact⟨_,F1,l1,rfl,hC3.trans hC4 (fun d hd=>hF d (by rw[xi]at hd; subst hd; exact hH2.inb)),hH2.setLast x,hF⟩
theorem m_af_counts (v : Value) (w : World) : (method (prog.types.size + Made.depth) 227 v "inlay/coder.counts").run prog w = .ok (195, v) w := by kernel_rfl
theorem m_af_saw (v : Value) (w : World) : (method (prog.types.size + Made.depth) 227 v "inlay/coder.saw").run prog w = .ok (196, v) w := by kernel_rfl
def mdl2:Mdl:=⟨(Int→Ad)×Int,fun s=>s.1 s.2,fun s x=>(fun k=>if k=s.2 then sawA (s.1 s.2) x else s.1 k,x),fun s=>∀k,AdOk (s.1 k),fun I v s F=>∃b r l,v = .iface 227 (.pointer (some ⟨b,0,none⟩))∧H2 I b r l s.1 s.2 F⟩
theorem vf : MdlOk mdl2 where
 tab:=fun s h=>h s.2
 nxt:=fun s x h hx k=>by
  show AdOk (if k=s.2 then sawA (s.1 s.2) x else s.1 k)
  split
  · exact sawA_ok (h s.2) hx
  · exact h k
 foot:=fun I v s F ⟨b,r,l,_,h⟩ c hc=>h.foot c hc
 iface:=fun I v s F ⟨b,r,l,h1,_⟩=>⟨_,_,h1⟩
 counts:=fun I v s F hI ⟨b,r,l,h1,h2⟩ hi hr=>by
  refine(qP (hr.trans h1) (m_af_counts _) call195 ml0 (counts2_c (hi s.2) _ I hI h2)).mono ?_;rintro u w' ⟨c,I',F',l',rfl,hC,hH,hR,hF⟩;exact⟨I',F',c,rfl,hC,⟨b,r,l',h1,hH⟩,hR,hF⟩
 saw:=fun I v s F x hx hI ⟨b,r,l,h1,h2⟩ hi hr hy=>by
  refine(qP (hr.trans h1) (m_af_saw _) call196 (ml hy ml0) (saw2_c x hx (hi s.2) _ I hI h2)).mono ?_;rintro u w' ⟨I',F',l',rfl,hC,hH,hF⟩;exact⟨I',F',rfl,hC,⟨b,r,l',h1,hH⟩,hF⟩
set_option maxRecDepth 20000 in
set_option maxHeartbeats 1000000 in
theorem begin1_c (w0 : World) (I0 : Imm) (hI : Sat I0 w0) :
 Ctr prog 94 [.int .i64 1] w0 (fun v w'=>∃I' F,Ext w0 I0 w' I'∧(mdl1).holds I' v (adOne) F∧∀c∈F,w0.heap.size≤c):=by
 refine fn (n:=22) func94 rfl rfl rfl ?_;have hS:=St.start hI;refine QwR (qq hS (qc _) (QoN (vD (QwR (qq hS (Qmi rfl) (QoN (vS (QwR (qq hS (yv rfl rfl (by omega)) (qq hS (Qab rfl) (QoN (jf (rfl) (QwR (qq hS (g_eqT13 rfl rfl rfl) (qq hS (Qab rfl) (QoN (yf (rfl) (QwR (qe (qg call125 rfl (ones_c _ _ hS.imm)) ?_)))))))))))))))))));rintro _ w_1⟨rfl,hE⟩;replace hS:=hS.callE hE;refine qq hS (qt (pl:=[(0,256),(256,1)]) (cs:=adC adOne) zeroValue226 uc (fun w=>by simp[uM,uL]) (mp (v:=.agg (u32s adOne.c).toArray) rfl (mp (v:=.int .u64 256) rfl mp0)) (by kernel_rfl)) (qe (d_box (cs:=adC adOne) hS rfl) ?_);clear hS;rintro _ w_2⟨bt,rfl,hS⟩;refine qq hS (jt underlying224 rfl) (qq hS (qc _) (QoN (vM (uJ (xF (ret1 results94 (qh rfl) ?_))))));obtain⟨I1,hS1,_,hb⟩:=St.freezeB hS;exact⟨I1,[bt],hS1,⟨bt,rfl,⟨hb⟩,rfl⟩,fun c hc=>by rw[xi]at hc; subst hc; exact(hS.new _ (List.mem_cons_self ..) c (by simp[Res.foot])).2.elim id fun h=>by simp at h⟩
set_option maxRecDepth 20000 in
set_option maxHeartbeats 1000000 in
theorem begin2_c (w0 : World) (I0 : Imm) (hI : Sat I0 w0) :
 Ctr prog 94 [.int .i64 2] w0 (fun v w'=>∃I' F,Ext w0 I0 w' I'∧(mdl2).holds I' v ((fun _=>adOne,0)) F∧∀c∈F,w0.heap.size≤c):=by
 refine fn (n:=22) func94 rfl rfl rfl ?_;have hS:=St.start hI;refine QwR (qq hS (qc _) (QoN (vD (QwR (qq hS (Qmi rfl) (QoN (vS (QwR (qq hS (yv rfl rfl (by omega)) (qq hS (Qab rfl) (QoN (jf (rfl) (QwR (qq hS (yv rfl rfl (by omega)) (qq hS (Qab rfl) (QoN (jf (rfl) (QwR (qq hS (g_eqT13 rfl rfl rfl) (qq hS (Qab rfl) (QoN (yf (rfl) (QwR (qe (d_makeMapB hS) ?_))))))))))))))))))))))));clear hS;rintro _ w_1⟨bm,rfl,hS⟩;refine qq hS (qt (pl:=[(0,1),(1,1)]) (cs:=[_,.int .u8 _]) zeroValue230 uT (fun w=>by simp[sizeOf228,xd]) (mp rfl mp0) rfl) (qe (d_box (cs:=aftC bm 0) hS rfl) ?_);clear hS;rintro _ w_2⟨bt,rfl,hS⟩;refine qq hS (jt underlying227 rfl) (qq hS (qc _) (QoN (vM (uJ (xF (ret1 results94 (qh rfl) ?_))))));have hnb:=(hS.new (.cel bt 230 (aftC bm 0)) (List.mem_cons_self ..) bt (by simp[Res.foot])).2.elim id fun h=>by simp at h
 have hnm:=(hS.new (.obj bm (mapOB [])) (List.mem_cons_of_mem _ (List.mem_cons_self ..)) bm (by simp[Res.foot])).2.elim id fun h=>by simp at h
 obtain⟨I1,hS1,_,hb⟩:=St.freezeB hS;obtain⟨I2,hS2,hs2,hm⟩:=hS1.freezeO;have hft:∀c∈[bt,bm],(I2 c).isSome=true:=fun c hc=>by
  rcases vN.1 hc with e | e
  · rw[e,hs2 _ _ hb]; rfl
  · rw[xi.1 e,hm]; rfl
 have hnw:∀c∈[bt,bm],w0.heap.size≤c:=fun c hc=>by
  rcases vN.1 hc with e | e
  · rw[e]; exact hnb
  · rw[xi.1 e]; exact hnm
 exact⟨I2,[bt,bm],hS2,⟨bt,bm,[],rfl,⟨hs2 _ _ hb,hm,fun k c hc=>(by cases hc),fun k _=>rfl,fun k k' c hc=>(by cases hc),hft,List.mem_cons_self ..,List.mem_cons_of_mem _ (List.mem_cons_self ..)⟩⟩,hnw⟩
end Go.Proofs.YtgkgihnpjgbmhaaGreatDoor
