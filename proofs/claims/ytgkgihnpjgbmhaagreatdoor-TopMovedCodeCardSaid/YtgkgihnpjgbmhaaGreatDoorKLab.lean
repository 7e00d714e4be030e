/- Package label: links of code, an iterator; the number of a label. Conditions: words are words. label.Lift: what it computes. Conditions: bytes are bytes. label.Lower: what it computes. Conditions: words are words, labels within bounds. label.Form: what it computes. Conditions: words are words, labels within bounds. label.Read: what it computes. Conditions: bytes are bytes. -/
import Derived.Test.YtgkgihnpjgbmhaaGreatDoorSl3
import Derived.Test.YtgkgihnpjgbmhaaGreatDoorKSo
import Derived.Test.YtgkgihnpjgbmhaaGreatDoorKCore3
set_option linter.unusedSimpArgs false
set_option linter.unusedVariables false
namespace Go.Proofs.YtgkgihnpjgbmhaaGreatDoor
open Tryz
open Go Go.RowKit Go.Inl
theorem jV {l:List Int}{i:Nat}{x d:Int}(h:l[i]? = some x):l.getD i d=x:=by rw[xT,h]; rfl
theorem two_mask (op:Int):(2:Int) ^ fieldM op - 1=if op=5∨op=6 then 16777215 else 65535:=by unfold fieldM; split <;> rfl
theorem dec_at (ws : List Int) (k : Nat) (y : Int) (w0 : World) (I0 : Imm) (hI : Sat I0 w0) (h : ws[k]? = some y) (hy : 0 ≤ y ∧ y < 4294967296) (hk : k ≤ 1073741824) :
 Ctr prog 111 [.wg y,.ig (4*(k:Int))] w0 (fun v w'=>v=instV (instAt ws k)∧Ext w0 I0 w' I0):=by
 unfold instAt;rw[jV h];exact vW y (4*(k:Int)) w0 I0 hI hy.1 hy.2 (by omega) (by omega)
theorem linked_c (x : InstL) (len : Int) (w0 : World) (I0 : Imm) (hI : Sat I0 w0) :
 Ctr prog 112 [instV x,.ig len] w0 (fun v w'=>v = .bool (linkedP x len)∧Ext w0 I0 w' I0):=by
 refine fn (n:=21) func112 rfl rfl rfl ?_;have Z:=St.start hI;refine QwR (qe (d_box (cs:=[.ig _,.ig _,.ig _,.ig _,.ig _]) Z rfl) ?_);clear Z;rintro _ w_1⟨b2,rfl,Z⟩;refine qq Z (Qab rfl) (QoN (xJ (QwR (qq Z (qa (o':=0) ue rfl xK rfl rfl rfl) (qq Z (qc 0 xW rfl rfl rfl) (QoN (xU (xJ (QwR (qq Z (g_eql rfl rfl) (qq Z (Qab rfl) (QoN (qh rfl ?_ ?_)))))))))))))
 ·
  intro hc7
  try simp only[zA,zO,zN,zI,zF,zM,zT,zU]at hc7
  refine xM (xL (qh rfl ?_ ?_))
  ·
   intro hc7_4
   try simp only[zA,zO,zN,zI,zF,zM,zT,zU]at hc7_4
   refine QwR (qq Z (qa (o':=4) ue rfl xK rfl rfl rfl) (qq Z (qc 0 xW rfl rfl rfl) (qq Z (g_geq rfl rfl) (qq Z (Qmb rfl) (qu rfl rfl Z (fun hg=>(qa (o':=4) ue rfl xK rfl rfl rfl)) ?_)))));intro u16 hu16 hn16;refine qu rfl rfl Z (fun hg=>(qc 0 xW rfl (hu16 hg) rfl)) ?_;intro u17 hu17 hn17;refine qu rfl rfl Z (fun hg=>(Qmi rfl)) ?_;intro u18 hu18 hn18;refine qu rfl rfl Z (fun hg=>(g_lss (hu17 hg) (hu18 hg))) ?_;intro u19 hu19 hn19;refine qq Z (g_and rfl rfl (fun hq=>hu19 hq)) (qq Z (Qab rfl) (QoN (xO (Qq (ul (ret1 Jw (qg (v:=.bool _) rfl) ⟨?_,Z.nil⟩))))));unfold linkedP
   first
    | (rw[uH (show 5≤x.op∧x.op≤8 by omega)]; rfl)
    | (rw[uw (show ¬(5≤x.op∧x.op≤8) by omega)]; rfl)
    | (exfalso; omega)
  ·
   intro hc7_4
   try simp only[zA,zO,zN,zI,zF,zM,zT,zU]at hc7_4
   refine xM (uM (xL (QwR (qq Z (Qab rfl) (QoN (xO (ret1 Jw (qg (v:=.bool _) rfl) ⟨?_,Z.nil⟩)))))));unfold linkedP
   first
    | (rw[uH (show 5≤x.op∧x.op≤8 by omega)]; rfl)
    | (rw[uw (show ¬(5≤x.op∧x.op≤8) by omega)]; rfl)
    | (exfalso; omega)
 ·
  intro hc7
  try simp only[zA,zO,zN,zI,zF,zM,zT,zU]at hc7
  refine QwR (qq Z (g_eql rfl rfl) (qq Z (Qab rfl) (QoN (qh rfl ?_ ?_))))
  ·
   intro hc7_2
   try simp only[zA,zO,zN,zI,zF,zM,zT,zU]at hc7_2
   refine xM (xL (qh rfl ?_ ?_))
   ·
    intro hc7_4
    try simp only[zA,zO,zN,zI,zF,zM,zT,zU]at hc7_4
    refine QwR (qq Z (qa (o':=4) ue rfl xK rfl rfl rfl) (qq Z (qc 0 xW rfl rfl rfl) (qq Z (g_geq rfl rfl) (qq Z (Qmb rfl) (qu rfl rfl Z (fun hg=>(qa (o':=4) ue rfl xK rfl rfl rfl)) ?_)))));intro u16 hu16 hn16;refine qu rfl rfl Z (fun hg=>(qc 0 xW rfl (hu16 hg) rfl)) ?_;intro u17 hu17 hn17;refine qu rfl rfl Z (fun hg=>(Qmi rfl)) ?_;intro u18 hu18 hn18;refine qu rfl rfl Z (fun hg=>(g_lss (hu17 hg) (hu18 hg))) ?_;intro u19 hu19 hn19;refine qq Z (g_and rfl rfl (fun hq=>hu19 hq)) (qq Z (Qab rfl) (QoN (xO (Qq (ul (ret1 Jw (qg (v:=.bool _) rfl) ⟨?_,Z.nil⟩))))));unfold linkedP
    first
     | (rw[uH (show 5≤x.op∧x.op≤8 by omega)]; rfl)
     | (rw[uw (show ¬(5≤x.op∧x.op≤8) by omega)]; rfl)
     | (exfalso; omega)
   ·
    intro hc7_4
    try simp only[zA,zO,zN,zI,zF,zM,zT,zU]at hc7_4
    refine xM (uM (xL (QwR (qq Z (Qab rfl) (QoN (xO (ret1 Jw (qg (v:=.bool _) rfl) ⟨?_,Z.nil⟩)))))));unfold linkedP
    first
     | (rw[uH (show 5≤x.op∧x.op≤8 by omega)]; rfl)
     | (rw[uw (show ¬(5≤x.op∧x.op≤8) by omega)]; rfl)
     | (exfalso; omega)
  ·
   intro hc7_2
   try simp only[zA,zO,zN,zI,zF,zM,zT,zU]at hc7_2
   refine QwR (qq Z (g_eql rfl rfl) (qq Z (Qab rfl) (QoN (qh rfl ?_ ?_))))
   ·
    intro hc7_3
    try simp only[zA,zO,zN,zI,zF,zM,zT,zU]at hc7_3
    refine xM (xL (qh rfl ?_ ?_))
    ·
     intro hc7_4
     try simp only[zA,zO,zN,zI,zF,zM,zT,zU]at hc7_4
     refine QwR (qq Z (qa (o':=4) ue rfl xK rfl rfl rfl) (qq Z (qc 0 xW rfl rfl rfl) (qq Z (g_geq rfl rfl) (qq Z (Qmb rfl) (qu rfl rfl Z (fun hg=>(qa (o':=4) ue rfl xK rfl rfl rfl)) ?_)))));intro u16 hu16 hn16;refine qu rfl rfl Z (fun hg=>(qc 0 xW rfl (hu16 hg) rfl)) ?_;intro u17 hu17 hn17;refine qu rfl rfl Z (fun hg=>(Qmi rfl)) ?_;intro u18 hu18 hn18;refine qu rfl rfl Z (fun hg=>(g_lss (hu17 hg) (hu18 hg))) ?_;intro u19 hu19 hn19;refine qq Z (g_and rfl rfl (fun hq=>hu19 hq)) (qq Z (Qab rfl) (QoN (xO (Qq (ul (ret1 Jw (qg (v:=.bool _) rfl) ⟨?_,Z.nil⟩))))));unfold linkedP
     first
      | (rw[uH (show 5≤x.op∧x.op≤8 by omega)]; rfl)
      | (rw[uw (show ¬(5≤x.op∧x.op≤8) by omega)]; rfl)
      | (exfalso; omega)
    ·
     intro hc7_4
     try simp only[zA,zO,zN,zI,zF,zM,zT,zU]at hc7_4
     refine xM (uM (xL (QwR (qq Z (Qab rfl) (QoN (xO (ret1 Jw (qg (v:=.bool _) rfl) ⟨?_,Z.nil⟩)))))));unfold linkedP
     first
      | (rw[uH (show 5≤x.op∧x.op≤8 by omega)]; rfl)
      | (rw[uw (show ¬(5≤x.op∧x.op≤8) by omega)]; rfl)
      | (exfalso; omega)
   ·
    intro hc7_3
    try simp only[zA,zO,zN,zI,zF,zM,zT,zU]at hc7_3
    refine reg (qq Z (g_eql rfl rfl) (qq Z (Qab rfl) (QoN (qh rfl ?_ ?_))))
    ·
     intro hc7_4
     try simp only[zA,zO,zN,zI,zF,zM,zT,zU]at hc7_4
     refine QwR (qq Z (qa (o':=4) ue rfl xK rfl rfl rfl) (qq Z (qc 0 xW rfl rfl rfl) (qq Z (g_geq rfl rfl) (qq Z (Qmb rfl) (qu rfl rfl Z (fun hg=>(qa (o':=4) ue rfl xK rfl rfl rfl)) ?_)))));intro u16 hu16 hn16;refine qu rfl rfl Z (fun hg=>(qc 0 xW rfl (hu16 hg) rfl)) ?_;intro u17 hu17 hn17;refine qu rfl rfl Z (fun hg=>(Qmi rfl)) ?_;intro u18 hu18 hn18;refine qu rfl rfl Z (fun hg=>(g_lss (hu17 hg) (hu18 hg))) ?_;intro u19 hu19 hn19;refine qq Z (g_and rfl rfl (fun hq=>hu19 hq)) (qq Z (Qab rfl) (QoN (xO (Qq (ul (ret1 Jw (qg (v:=.bool _) rfl) ⟨?_,Z.nil⟩))))));unfold linkedP
     first
      | (rw[uH (show 5≤x.op∧x.op≤8 by omega)]; rfl)
      | (rw[uw (show ¬(5≤x.op∧x.op≤8) by omega)]; rfl)
      | (exfalso; omega)
    ·
     intro hc7_4
     try simp only[zA,zO,zN,zI,zF,zM,zT,zU]at hc7_4
     refine xM (uM (xL (QwR (qq Z (Qab rfl) (QoN (xO (ret1 Jw (qg (v:=.bool _) rfl) ⟨?_,Z.nil⟩)))))));unfold linkedP
     first
      | (rw[uH (show 5≤x.op∧x.op≤8 by omega)]; rfl)
      | (rw[uw (show ¬(5≤x.op∧x.op≤8) by omega)]; rfl)
      | (exfalso; omega)
theorem field_c (op:Int)(w0:World)(I0:Imm)(hI:Sat I0 w0):Ctr prog 73 [.ig op] w0 (fun v w'=>v = .wg (2 ^ fieldM op - 1)∧Ext w0 I0 w' I0):=by
 refine fn (n:=9) func73 rfl rfl rfl ?_;have Z:=St.start hI;refine QwR (qq Z (Qaw rfl) (QoN (xJ (QwR (qq Z (Qmi rfl) (qq Z (g_eql rfl rfl) (qq Z (Qmb rfl) (qu rfl rfl Z (fun hg=>(Qmi rfl)) ?_))))))));intro u6 hu6 hn6;refine qu rfl rfl Z (fun hg=>(g_eql (hu6 hg) rfl)) ?_;intro u7 hu7 hn7;refine qq Z (g_or rfl rfl (fun hq=>hu7 hq)) (QoN (qh rfl ?_ ?_))
 ·
  intro hc8;clear hu6 hn6 hu7 hn7
  try simp only[zA,zO,zN,zI,zF,zM,zT,zU]at hc8
  have e:(2:Int) ^ fieldM op - 1=16777215:=by rw[two_mask,xS hc8]
  refine QwR (qq Z (Qaw rfl) (QoN (xO (ul (ret1 results73 (qg (v:=.wg _) rfl) ?_)))));exact⟨by rw[e],Z.nil⟩
 ·
  intro hc8;clear hu6 hn6 hu7 hn7
  try simp only[zA,zO,zN,zI,zF,zM,zT,zU]at hc8
  have e:(2:Int) ^ fieldM op - 1=65535:=by rw[two_mask,xP (by omega)]
  refine xM (xL (QwR (qq Z (Qaw rfl) (QoN (xO (ret1 results73 (qg (v:=.wg _) rfl) ?_))))));exact⟨by rw[e],Z.nil⟩
theorem links_c (ad : Option Addr) (m cap : Nat) (w0 : World) (I0 : Imm) (hI : Sat I0 w0) :
 Ctr prog 68 [.sg ad m cap] w0 (fun v w'=>∃I' b,v = .func (.func 110) #[] [.zg b].toArray∧Ext w0 I0 w' I'∧atI I' ⟨b,0,none⟩ [.sg ad m cap]):=by
 refine fn (n:=4) func68 rfl rfl rfl ?_;have Z:=St.start hI;refine QwR (qe (d_box (cs:=[.sg _ _ _]) Z rfl) ?_);clear Z;rintro _ w_1⟨b1,rfl,Z⟩;refine qq Z (qd _) (QoR (qq Z (jP ml0 (ml rfl ml0)) (qq Z (qd _) (QoN (xO (ret1 results68 (qg rfl) ?_))))));obtain⟨I2,hS2,hI2,hb1⟩:=Z.freeze1;exact⟨I2,b1,rfl,hS2,hb1⟩
set_option maxHeartbeats 1000000 in
theorem links1_it (ws : List Int) (b cap : Nat) (ad : Option Addr) (I0 : Imm) (hb : atI I0 ⟨b, 0, none⟩ [.sg ad ws.length cap]) (hl : RFl I0 1 u32C (.sg ad ws.length cap) ws) (hw : Wrds ws) (hn : ws.length ≤ 1073741824) :
 IterC prog 110 [.zg b] (lkA ws (lks ws)) (lks ws).length I0:=by
 intro lp J Jx w1 I1 hst hyc hsat hsub hJ0;replace hb:=hb.mono hsub;replace hl:=hl.mono hsub;refine fn (n:=30) func110 rfl rfl rfl ?_;have Z:=St.start hsat;refine QwR (qq Z (jG (c:=0) Qy hb rfl rfl) (qq Z (qo rfl ui hl rfl) (qq Z (Qmi rfl) (QoN (xU (loop (fun(k:Nat) σ w=>okS σ [(0,.func (.yield lp) #[] #[]),(1,.zg b),(6,.sg ad ws.length cap),(7,.ig ws.length),(8,.ig k)]∧∃I,St [] w I I w []∧k≤ws.length∧Inl.Sub I1 I∧J (plc k (lnk ws)).length I w) (fun k=>ws.length - k) (0) ?_ ?_))))))
 ·
  exact⟨⟨rfl,rfl,rfl,rfl,rfl,trivial⟩,_,St.start Z.imm,by simp,Inl.Sub.refl _,hJ0⟩
 ·
  rintro k σ w_l⟨hs,I,Z,hk0,hsub1,hJ⟩;rw[← qj hs]; clear hs
  refine QwR (qq Z (g_lss rfl rfl) (QoN (xJ (qh rfl ?_ ?_))))
  ·
   intro hc9
   try simp only[zA,zO,zN,zI,zF,zM,zT,zU]at hc9
   obtain⟨y,hyi⟩:∃y,ws[k]? = some y:=⟨_,xI (by omega)⟩
   have hkl:k < ws.length:=by omega
   have hyA:=(hl.mono hsub1).at hyi;have hyb:=hw y (xR hyi);have hyI:decI y (4*(k:Int))=instAt ws k:=by unfold instAt; rw[jV hyi]
   refine xM (xL (xJ (xU (QwR (qq Z (Qmi rfl) (qq Z (g_ixI ui uV (hl.mono hsub1) rfl rfl (by omega) (by omega)) (qq Z (qt QH hyA rfl rfl) (qq Z (Qai rfl) (qq Z (Qaw rfl) (QoR (qq Z (Qmw rfl) (qq Z (Qmi rfl) (qq Z (g_mul rfl rfl (by omega) (by omega)) (qe (qi call111 rfl (dec_at ws k y _ I Z.imm hyi hyb (by omega))) ?_))))))))))))));rintro _ w_1⟨rfl,hE⟩;replace Z:=Z.callE hE;refine qe (qr (cs:=[.ig _,.ig _,.ig _,.ig _,.ig _]) Z Qr rfl) ?_;clear Z;rintro _ w_2⟨b5,rfl,Z⟩;refine qe (qf 0 Z uD rfl rfl rfl (vs:=[.ig _,.ig _,.ig _,.ig _,.ig _]) rfl rfl rfl (xH rfl) (cs':=[_,_,_,_,_]) rfl) ?_;clear Z;rintro _ w_3⟨rfl,Z⟩;refine QoR (qq Z (g_ldO 0 (vs:=[.ig _,.ig _,.ig _,.ig _,.ig _]) uD Ql rfl rfl rfl rfl) (qq Z (jG (c:=0) Qy (hb.mono hsub1) rfl rfl) (qq Z (yj rfl ui rfl) (qq Z (g_mul rfl rfl (by omega) (by omega)) (qe (qi call112 rfl (linked_c (instAt ws k) (4*(ws.length:Int)) _ I Z.imm)) ?_)))));rintro _ w_4⟨rfl,hE⟩;replace Z:=Z.callE hE;refine qq Z (Qmb rfl) (qu rfl rfl Z (fun hg=>(qb _)) ?_);intro u23 hu23 hn23;refine qu rfl rfl Z (fun hg=>(Qmi rfl)) ?_;intro u24 hu24 hn24;refine qu rfl rfl Z (fun hg=>(g_ldO 0 (vs:=[.ig _,.ig _,.ig _,.ig _,.ig _]) uD Ql rfl rfl rfl rfl)) ?_;intro u25 hu25 hn25;refine gvu rfl rfl (fun hg=>(d_yieldC (hu23 hg) (Eq.trans (ml (hu24 hg) (ml (hu25 hg) ml0)) (lkA_at (plc_at hg hkl)).symm) hyc (plc_lt hg hkl) Z.imm (hst _ _ _ _ _ hJ Z.nil))) ?_;rintro w26 u26 hor;have hx:∃I2 bb,St [] w26 I2 I2 w26 []∧Inl.Sub I I2∧(lnk ws k=true→u26 = .bool bb)∧(lnk ws k=true→bb=true→J (plc (k+1) (lnk ws)).length I2 w26)∧(lnk ws k=true→bb=false→Jx (plc k (lnk ws)).length I2 w26)∧(lnk ws k=false→J (plc (k+1) (lnk ws)).length I2 w26):=by
    rcases hor with ⟨hg,bb,I2,h1,h2,h3,h4,h5⟩ | ⟨hg,h1,h2⟩
    · replace hg : lnk ws k = true := hg
      refine⟨I2,bb,St.start h2,h3,fun _=>h1,fun h e=>?_,fun _=>h5,fun h=>by rw[hg]at h; cases h⟩;rw[plc_one h]; exact h4 e
    · subst h2
      replace hg:¬lnk ws k=true:=hg;refine⟨I,true,St.start Z.imm,Inl.Sub.refl _,fun h=>absurd h hg,fun h=>absurd h hg,fun h=>absurd h hg,fun h=>?_⟩;rw[plc_none h]; exact hst _ _ _ _ _ hJ Z.nil
   clear Z hor;obtain⟨I2,bb,Z,hsub2,hu26,hyt,hyf,hyn⟩:=hx;refine qu rfl rfl Z (fun hg=>(g_not (hu26 hg))) ?_;intro u27 hu27 hn27;refine qq Z (g_and rfl rfl (fun hq=>hu27 hq)) (QoN (qh rfl ?_ ?_))
   ·
    intro hc28;clear hu23 hn23 hu24 hn24 hu25 hn25 hu26 hu27 hn27;simp only[uC,uS]at hc28;have hc1:lnk ws k=true:=hc28.1;have hfin:=hyf hc1 hc28.2;refine xO (Qq (ul (ul (Qq (ret0 results110  ?_)))));exact⟨_,Z.imm,hsub1.trans hsub2,.inr ⟨(plc k (lnk ws)).length,plc_lt hc1 hkl,hfin⟩⟩
   ·
    intro hc28;clear hu23 hn23 hu24 hn24 hu25 hn25 hu26 hu27 hn27;have hJ2:J (plc (k+1) (lnk ws)).length I2 w26:=by
     cases hf:lnk ws k with
     | true =>
       have hf':linkedP (instAt ws k) (4*(ws.length:Int))=true:=hf;rw[hf',Bool.true_and]at hc28;exact hyt hf (by simpa using hc28)
     | false=>exact hyn hf
    refine xM (uM (xL (reg (qq Z (g_add rfl rfl (by omega) (by omega)) (qq Z (Qmi rfl) ?_)))));exact⟨k+1,_,rfl,⟨⟨rfl,rfl,rfl,rfl,rfl,trivial⟩,_,Z.sel [],by omega,hsub1.trans hsub2,hJ2⟩,by omega⟩
  ·
   intro hc9
   try simp only[zA,zO,zN,zI,zF,zM,zT,zU]at hc9
   have hk:k=ws.length:=by omega
   subst hk;refine ur (um (um (Qi (end0 results110  ?_))));exact⟨_,Z.imm,hsub1,.inl hJ⟩
theorem find_c (ad : Option Addr) (cap i b : Nat) (n : Int) (l : List Int) (w0 : World) (I0 : Imm) (hI : Sat I0 w0) (hb : atI I0 ⟨b, 0, none⟩ [.sg ad l.length cap]) (hl : RFl I0 1 intC (.sg ad l.length cap) l) (hs : SrtAt l n i) (hbig : l.length ≤ 65536) :
 Ctr prog 71 [.ig n,.zg b] w0 (fun v w'=>v = .wg i∧Ext w0 I0 w' I0):=by
 have hil:=(xX.1 hs.at_).1;refine fn (n:=14) func71 rfl rfl rfl ?_;have Z:=St.start hI;refine QwR (qq Z (Qaw rfl) (QoR (qq Z (jG (c:=0) Qz hb rfl rfl) (qq Z (Qmi rfl) (qe (qi call72 rfl (bsearch_c ad cap i n l _ I0 Z.imm hl hs (by omega))) ?_)))));rintro _ w_1⟨rfl,hE⟩;replace Z:=Z.callE hE;refine qq Z (qb _) (qq Z (Qxi rfl rfl) (qq Z (qk (v:=.bool _) rfl rfl) (qq Z (Qai rfl) (qq Z (Qab rfl) (QoR (qq Z (Qmi rfl) ?_))))));refine qq Z (qH (c:=(i:Int)) ut uv rfl (by rw[IntKind.wrap_u32]; omega)) ?_;refine qq Z (Qaw rfl) (QoN (xO (ret1 results71 (qg (v:=.wg _) rfl) ?_)));exact⟨rfl,Z.nil⟩
end Go.Proofs.YtgkgihnpjgbmhaaGreatDoor
namespace Go.Proofs.YtgkgihnpjgbmhaaGreatDoor
open Tryz
open Go Go.RowKit Go.Inl
theorem tgts_at {ws:List Int}{k i:Nat}(h:(lks ws)[k]? = some i):(tgts ws)[k]? = some (instAt ws i).n:=by unfold tgts; rw[uW,h]; rfl
theorem tgts_all (ws:List Int):(tgts ws).take (lks ws).length=tgts ws:=QC (by unfold tgts; rw[Qb]; exact uc _)
theorem tgts_eqlen (ws:List Int):(tgts ws).length=(lks ws).length:=by unfold tgts; rw[Qb]
theorem word_mod {y:Int}{m:Nat}(h:0≤y):0≤y % 2 ^ m∧y % 2 ^ m≤y∧(y - y % 2 ^ m) % 2 ^ m=0:=by
 have h2:(0:Int) < 2 ^ m:=by have:=Nat.one_le_two_pow (n:=m); exact_mod_cast this
 have h3:=Int.emod_add_mul_ediv y (2 ^ m);have h4:0≤2 ^ m*(y / 2 ^ m):=Int.mul_nonneg (by omega) (Int.ediv_nonneg h (by omega));refine⟨Int.emod_nonneg _ (by omega),by omega,?_⟩;exact Int.emod_eq_zero_of_dvd ⟨y / 2 ^ m,by omega⟩
set_option maxHeartbeats 2000000 in
theorem lift_c (ad : Option Addr) (cap n : Nat) (b : List Int) (w0 : World) (I0 : Imm) (hI : Sat I0 w0) (hl : RBytes I0 (.sg ad b.length cap) b) (hb : Byts b) (hn : b.length = 4 * n) (hn1 : n ≤ 16384) :
 Ctr prog 30 [.sg ad b.length cap] w0 (fun v w' => ∃ I' a0 c0 a1 c1 a2 c2, v = .tuple #[.agg #[.sg a0 n c0, .sg a1 n c1, .slice a2 (labelsP (wordsN b n)).length c2], .ig 0] ∧ Ext w0 I0 w' I' ∧
  RFl I' 1 u32C (.sg a0 n c0) (liftP (wordsN b n)).words∧RFl I' 1 boolC (.sg a1 n c1) (liftP (wordsN b n)).marks∧RFl I' 1 intC (.slice a2 (labelsP (wordsN b n)).length c2) (liftP (wordsN b n)).labels):=by
 have hwl:=jE b n;have hwr:=kW hb n;have hwn:(((wordsN b n).length:Nat):Int)=n:=by rw[hwl]
 have hll:=lks_len (wordsN b n);have hlen:=jv (wordsN b n);rw[hwl]at hll hlen;refine fnM (n:=78) func30 rfl rfl rfl ?_;have Z:=St.start hI;refine QwR (qe (qr (cs:=[.sg _ _ _,.sg _ _ _,.sg _ _ _]) Z uY rfl) ?_);clear Z;rintro _ w_1⟨b2,rfl,Z⟩;refine qq Z (Qai rfl) (QoR (qq Z (qb _) (qe (qi call67 rfl (words_c ad cap n b _ _ Z.imm hl hb hn (by omega))) ?_)));rintro _ w_2⟨I_f,a15,c15,rfl,hE,h15⟩;replace Z:=Z.callE hE;replace hl:=hl.mono hE.ext;refine qq Z (qb _) (qq Z (qk rfl rfl) (qq Z (Qxi rfl rfl) (qe (qr (cs:=[.sg _ _ _]) Z zeroValue67 rfl) ?_)));clear Z;rintro _ w_3⟨b4,rfl,Z⟩;refine qe (qf 0 Z uT rfl rfl rfl (vs:=[.sg _ _ _]) rfl rfl rfl (xH rfl) (cs':=[_]) rfl) ?_;clear Z;rintro _ w_4⟨rfl,Z⟩;refine qq Z (Qai rfl) (QoN (xJ (QwR (qq Z (Qmi rfl) (qq Z (g_neqF rfl rfl rfl) (qq Z (Qmb rfl) (qqs rfl rfl Z (qb _) (qqs rfl rfl Z (qo rfl xQ hl rfl) (qqs rfl rfl Z (g_toV (g_gtr rfl rfl) (congrArg Value.bool (uw (show ¬(65536:Int) < (b.length:Int) by omega)))) (qq Z (g_or (b:=false) rfl rfl (fun _=>rfl)) ?_))))))))));refine QoN (qV (rfl) (xM (xL (QwR (qe (qr (cs:=[.sg _ _ _]) Z zeroValue69 rfl) ?_)))));clear Z;rintro _ w_5⟨b6,rfl,Z⟩;refine QoN (xJ (QwR (qq Z (qc 1 Qy rfl rfl rfl) (qe (qi call68 rfl (links_c _ _ _ _ _ Z.imm)) ?_))));rintro _ w_6⟨I_f,b27,rfl,hE,h27⟩;replace Z:=Z.callE hE;replace hl:=hl.mono hE.ext;replace h15:=h15.mono hE.ext;refine QoN (xU ?_);replace Z:=Z.nilRow 3 1;refine range_wp (N:=(lks (wordsN b n)).length) (arg:=lkA (wordsN b n) (lks (wordsN b n))) (fun k I L=>RFl I 1 u32C (.sg a15 n c15) (wordsN b n)∧∃a c,L=[.row (.sg a k c) 3 1 k (flat intC ((tgts (wordsN b n)).take k)),.cel b6 69 [.sg a k c],.cel b4 67 [.sg a15 n c15],.cel b2 71 [.sg none 0 0,.sg none 0 0,.sg none 0 0]]) (fun k c I L=>False) Z rfl call110 (links1_it (wordsN b n) b27 c15 a15 _ (by rw[hwl]; exact h27) (by rw[hwl]; exact h15) hwr (by omega)) (fun _=>rfl) ?_ (⟨h15,none,0,rfl⟩) ?_ ?_ ?_
 ·
  rintro k I I' L⟨h1,h⟩hs;exact⟨h1.mono hs,h⟩
 ·
  rintro k l D oR oB I1 w1 L1 X1 hk⟨h15,a,c,rfl⟩Z;obtain⟨i,hi⟩:∃i,(lks (wordsN b n))[k]? = some i:=⟨_,xI hk⟩
  rw[lkA_at hi];have htk:=tgts_at hi;show Code.wpIn _ _ _ _ _ (act _ [] (upd (upd _ 28 _) 29 _)) _
  refine reg (qe (qr (cs:=[.ig _,.ig _,.ig _,.ig _,.ig _]) Z Qr rfl) ?_);clear Z;rintro _ w_7⟨b8,rfl,Z⟩;refine qe (qf 0 Z uD rfl rfl rfl (vs:=[.ig _,.ig _,.ig _,.ig _,.ig _]) rfl rfl rfl (xH rfl) (cs':=[_,_,_,_,_]) rfl) ?_;clear Z;rintro _ w_8⟨rfl,Z⟩;refine qy (xL ⟨_,_,_,rfl,(Z.ord [1,2,0,3,4,5,6]),?_⟩);intro w_b Z;refine xU (reg (qq Z (qc 4 Qz rfl rfl rfl) (qq Z (qa (o':=4) ue rfl xK rfl rfl rfl) (qq Z (qc 2 xW rfl rfl rfl) ?_))));refine qe (d_lit (vs:=[.ig _]) (cs:=[.ig _]) Z uf xK Qe rfl rfl rfl rfl (fun v hv=>by simp only[xV,xY,or_false]at hv; subst hv; rfl) rfl) ?_;clear Z;rintro _ w_9⟨b33,rfl,Z⟩;refine qe (qB 4 0 Z rfl uf JL rfl rfl rfl rfl rfl rfl rfl rfl (by omega) (by omega)) ?_;clear Z;rintro _ w_10⟨a34,p34,rfl,Z⟩;refine qe (qf 5 Z uE rfl rfl rfl (vs:=[.sg _ _ _]) rfl rfl rfl (xH rfl) (cs':=[_]) rfl) ?_;clear Z;rintro _ w_11⟨rfl,Z⟩;refine qy (uM ⟨_,_,(Z.sel [false,true,true,false,true,true,true,true]),h15,a34,p34,?_⟩);rw[qz htk,ql,qS]; rfl
 ·
  rintro D0 I1 w1 L1⟨h15,a,c,rfl⟩Z;rw[tgts_all]at Z;refine uM (xL (QwR (qq Z (qc 2 Qz rfl rfl rfl) (qe (qi call69 rfl (sort_row 1 sortOk Z rfl (by rw[tgts_eqlen]) (by omega))) ?_))));clear Z;rintro _ w_12⟨rfl,Z⟩;refine QoR (qq Z (qc 2 Qz rfl rfl rfl) (qe (qi call70 rfl (show Ctr _ _ _ _ (fun v w'=>v = .slice a (labelsP (wordsN b n)).length c∧St _ _ _ _ w' (List.set _ 1 (.row (.slice a (labelsP (wordsN b n)).length c) 3 1 (labelsP (wordsN b n)).length (flat intC (labelsP (wordsN b n)))))) from compact_row 1 compOk Z rfl (by rw[List.length_mergeSort,tgts_eqlen]) (by omega))) ?_));clear Z;rintro _ w_13⟨rfl,Z⟩;refine qe (qf 2 Z uE rfl rfl rfl (vs:=[.sg _ _ _]) rfl rfl rfl (xH rfl) (cs':=[_]) rfl) ?_;clear Z;rintro _ w_14⟨rfl,Z⟩;refine QoN (xJ ?_);have hF:=St.freezeRow (u:=.slice a (labelsP (wordsN b n)).length c) (m:=(labelsP (wordsN b n)).length) (xs:=labelsP (wordsN b n)) qM (by exact Z.ord [1,0,2,3,4]) (rfl);clear Z;obtain⟨I_hlab,Z,hI_hlab,hlab⟩:=hF;replace h15:=h15.mono hI_hlab;have hF:=Z.freezeAt 1 rfl;clear Z;obtain⟨I_h6,Z,hI_h6,h6⟩:=hF;replace h15:=h15.mono hI_h6;replace hlab:=hlab.mono hI_h6;refine reg (qq Z (jP ml0 (ml rfl ml0)) (qe (qr (cs:=[_]) Z zeroValue147 rfl) ?_));clear Z;rintro _ w_15⟨b9,rfl,Z⟩;refine qe (qf 0 Z sizeOf147 rfl rfl rfl (vs:=[_]) rfl rfl rfl (xH rfl) (cs':=[_]) rfl) ?_;clear Z;rintro _ w_16⟨rfl,Z⟩;refine QoN (meet (fun σ w=>∃I b42 b45 b9 b10,okS σ [(2,.zg b2),(4,.zg b4),(6,.zg b6),(9,.zg b9),(10,.zg b10)]∧St [] w0 I0 I w [.obj D0 (.deferred (some [])),.cel b10 71 [.sg (some ⟨b42,0,none⟩) n n,.sg (some ⟨b45,0,none⟩) n n,.slice a (labelsP (wordsN b n)).length c],.cel b9 147 [.func (.func 71) #[] #[.zg b6]],.cel b4 67 [.sg a15 n c15],.cel b2 71 [.sg none 0 0,.sg none 0 0,.sg none 0 0],.cel b42 88 (flat u32C (List.replicate n 0)),.cel b45 4 (flat boolC (List.replicate n false))]∧(RFl I 1 u32C (.sg a15 n c15) (wordsN b n)∧atI I ⟨b6,0,none⟩ [.slice a (labelsP (wordsN b n)).length c]∧RFl I 1 intC (.slice a (labelsP (wordsN b n)).length c) (labelsP (wordsN b n)))) ?_ ?_)
  ·
   refine draw (.hg 0 (.pg 1 (.hg 3 (.pg 4 (.hg 6 (.fork3 2 (.fork 5 (.pg 7 (.cons 8 .eff (.cons 9 .bar .nil))) 8 (.cons 5 .eff (.pg 7 (.cons 9 .bar .nil)))) 5 (.fork 2 (.pg 7 (.cons 8 .eff (.cons 9 .bar .nil))) 8 (.cons 2 .eff (.pg 7 (.cons 9 .bar .nil)))) 8 (.fork 2 (.cons 5 .eff (.pg 7 (.cons 9 .bar .nil))) 5 (.cons 2 .eff (.pg 7 (.cons 9 .bar .nil)))))))))) mixed (by kernel_rfl) Z ?_;intro w_17 Z;refine sh rfl (qc 2 Qy rfl rfl rfl) (sp rfl (qo rfl ui h15 rfl) (sh rfl (qc 2 Qy rfl rfl rfl) (sp rfl (qo rfl ui h15 rfl) (sh rfl (jG (c:=0) Qz h6 rfl rfl) (sk3 ?_ ?_ ?_)))))
   ·
    have hS0:=Z;refine se rfl (jS qW 0 n Z ui Jr rfl rfl rfl rfl hwn (by omega) rfl) ?_;rintro _ w_18⟨b42,rfl,Z⟩;refine⟨_,_,hS0.le (Sub.refl _) (uq _ _),Z,sk ?_ ?_⟩
    ·
     have hS0:=Z;refine se rfl (jS jk false n Z uR Kb rfl rfl rfl rfl hwn (by omega) rfl) ?_;rintro _ w_19⟨b45,rfl,Z⟩;refine⟨_,_,hS0.le (Sub.refl _) (uq _ _),Z,sp rfl (qs (pl:=[(0,1),(1,1),(2,1)]) (cs:=[.sg _ _ _,.sg _ _ _,.sg _ _ _]) uY ub (fun w=>by simp[uT,Qf,uE]) (mp rfl (mp rfl (mp rfl mp0))) rfl) ?_⟩;have hS0:=Z;refine se rfl (qr (cs:=[.sg _ _ _,.sg _ _ _,.sg _ _ _]) Z uY rfl) ?_;rintro _ w_20⟨b10,rfl,Z⟩;refine⟨_,_,hS0.le (Sub.refl _) (uq _ _),Z,sb rfl (qf 0 Z uU rfl rfl rfl (vs:=[.sg _ _ _,.sg _ _ _,.sg _ _ _]) rfl rfl rfl (xH rfl) (cs':=[_,_,_]) rfl) ?_⟩;rintro _ w_21⟨rfl,Z⟩;refine⟨_,_,Z,sn (xL ?_)⟩;exact⟨_,rfl,_,b42,b45,b9,b10,⟨rfl,rfl,rfl,rfl,rfl,trivial⟩,(Z.ord [4,0,3,5,6,2,1]),h15,h6,hlab⟩
    ·
     have hS0:=Z;refine se rfl (qr (cs:=[.sg _ _ _,.sg _ _ _,.sg _ _ _]) Z uY rfl) ?_;rintro _ w_22⟨b10,rfl,Z⟩;refine⟨_,_,hS0.le (Sub.refl _) (uq _ _),Z,?_⟩;have hS0:=Z;refine se rfl (jS jk false n Z uR Kb rfl rfl rfl rfl hwn (by omega) rfl) ?_;rintro _ w_23⟨b45,rfl,Z⟩;refine⟨_,_,hS0.le (Sub.refl _) (uq _ _),Z,sp rfl (qs (pl:=[(0,1),(1,1),(2,1)]) (cs:=[.sg _ _ _,.sg _ _ _,.sg _ _ _]) uY ub (fun w=>by simp[uT,Qf,uE]) (mp rfl (mp rfl (mp rfl mp0))) rfl) (sb rfl (qf 1 Z uU rfl rfl rfl (vs:=[.sg _ _ _,.sg _ _ _,.sg _ _ _]) rfl rfl rfl (xH rfl) (cs':=[_,_,_]) rfl) ?_)⟩;rintro _ w_24⟨rfl,Z⟩;refine⟨_,_,Z,sn (xL ?_)⟩;exact⟨_,rfl,_,b42,b45,b9,b10,⟨rfl,rfl,rfl,rfl,rfl,trivial⟩,(Z.ord [4,1,3,5,6,2,0]),h15,h6,hlab⟩
   ·
    have hS0:=Z;refine se rfl (jS jk false n Z uR Kb rfl rfl rfl rfl hwn (by omega) rfl) ?_;rintro _ w_25⟨b45,rfl,Z⟩;refine⟨_,_,hS0.le (Sub.refl _) (uq _ _),Z,sk ?_ ?_⟩
    ·
     have hS0:=Z;refine se rfl (jS qW 0 n Z ui Jr rfl rfl rfl rfl hwn (by omega) rfl) ?_;rintro _ w_26⟨b42,rfl,Z⟩;refine⟨_,_,hS0.le (Sub.refl _) (uq _ _),Z,sp rfl (qs (pl:=[(0,1),(1,1),(2,1)]) (cs:=[.sg _ _ _,.sg _ _ _,.sg _ _ _]) uY ub (fun w=>by simp[uT,Qf,uE]) (mp rfl (mp rfl (mp rfl mp0))) rfl) ?_⟩;have hS0:=Z;refine se rfl (qr (cs:=[.sg _ _ _,.sg _ _ _,.sg _ _ _]) Z uY rfl) ?_;rintro _ w_27⟨b10,rfl,Z⟩;refine⟨_,_,hS0.le (Sub.refl _) (uq _ _),Z,sb rfl (qf 0 Z uU rfl rfl rfl (vs:=[.sg _ _ _,.sg _ _ _,.sg _ _ _]) rfl rfl rfl (xH rfl) (cs':=[_,_,_]) rfl) ?_⟩;rintro _ w_28⟨rfl,Z⟩;refine⟨_,_,Z,sn (xL ?_)⟩;exact⟨_,rfl,_,b42,b45,b9,b10,⟨rfl,rfl,rfl,rfl,rfl,trivial⟩,(Z.ord [4,0,3,5,6,1,2]),h15,h6,hlab⟩
    ·
     have hS0:=Z;refine se rfl (qr (cs:=[.sg _ _ _,.sg _ _ _,.sg _ _ _]) Z uY rfl) ?_;rintro _ w_29⟨b10,rfl,Z⟩;refine⟨_,_,hS0.le (Sub.refl _) (uq _ _),Z,?_⟩;have hS0:=Z;refine se rfl (jS qW 0 n Z ui Jr rfl rfl rfl rfl hwn (by omega) rfl) ?_;rintro _ w_30⟨b42,rfl,Z⟩;refine⟨_,_,hS0.le (Sub.refl _) (uq _ _),Z,sp rfl (qs (pl:=[(0,1),(1,1),(2,1)]) (cs:=[.sg _ _ _,.sg _ _ _,.sg _ _ _]) uY ub (fun w=>by simp[uT,Qf,uE]) (mp rfl (mp rfl (mp rfl mp0))) rfl) (sb rfl (qf 1 Z uU rfl rfl rfl (vs:=[.sg _ _ _,.sg _ _ _,.sg _ _ _]) rfl rfl rfl (xH rfl) (cs':=[_,_,_]) rfl) ?_)⟩;rintro _ w_31⟨rfl,Z⟩;refine⟨_,_,Z,sn (xL ?_)⟩;exact⟨_,rfl,_,b42,b45,b9,b10,⟨rfl,rfl,rfl,rfl,rfl,trivial⟩,(Z.ord [4,1,3,5,6,0,2]),h15,h6,hlab⟩
   ·
    have hS0:=Z;refine se rfl (qr (cs:=[.sg _ _ _,.sg _ _ _,.sg _ _ _]) Z uY rfl) ?_;rintro _ w_32⟨b10,rfl,Z⟩;refine⟨_,_,hS0.le (Sub.refl _) (uq _ _),Z,sk ?_ ?_⟩
    ·
     have hS0:=Z;refine se rfl (jS qW 0 n Z ui Jr rfl rfl rfl rfl hwn (by omega) rfl) ?_;rintro _ w_33⟨b42,rfl,Z⟩;refine⟨_,_,hS0.le (Sub.refl _) (uq _ _),Z,?_⟩;have hS0:=Z;refine se rfl (jS jk false n Z uR Kb rfl rfl rfl rfl hwn (by omega) rfl) ?_;rintro _ w_34⟨b45,rfl,Z⟩;refine⟨_,_,hS0.le (Sub.refl _) (uq _ _),Z,sp rfl (qs (pl:=[(0,1),(1,1),(2,1)]) (cs:=[.sg _ _ _,.sg _ _ _,.sg _ _ _]) uY ub (fun w=>by simp[uT,Qf,uE]) (mp rfl (mp rfl (mp rfl mp0))) rfl) (sb rfl (qf 2 Z uU rfl rfl rfl (vs:=[.sg _ _ _,.sg _ _ _,.sg _ _ _]) rfl rfl rfl (xH rfl) (cs':=[_,_,_]) rfl) ?_)⟩;rintro _ w_35⟨rfl,Z⟩;refine⟨_,_,Z,sn (xL ?_)⟩;exact⟨_,rfl,_,b42,b45,b9,b10,⟨rfl,rfl,rfl,rfl,rfl,trivial⟩,(Z.ord [4,2,3,5,6,1,0]),h15,h6,hlab⟩
    ·
     have hS0:=Z;refine se rfl (jS jk false n Z uR Kb rfl rfl rfl rfl hwn (by omega) rfl) ?_;rintro _ w_36⟨b45,rfl,Z⟩;refine⟨_,_,hS0.le (Sub.refl _) (uq _ _),Z,?_⟩;have hS0:=Z;refine se rfl (jS qW 0 n Z ui Jr rfl rfl rfl rfl hwn (by omega) rfl) ?_;rintro _ w_37⟨b42,rfl,Z⟩;refine⟨_,_,hS0.le (Sub.refl _) (uq _ _),Z,sp rfl (qs (pl:=[(0,1),(1,1),(2,1)]) (cs:=[.sg _ _ _,.sg _ _ _,.sg _ _ _]) uY ub (fun w=>by simp[uT,Qf,uE]) (mp rfl (mp rfl (mp rfl mp0))) rfl) (sb rfl (qf 2 Z uU rfl rfl rfl (vs:=[.sg _ _ _,.sg _ _ _,.sg _ _ _]) rfl rfl rfl (xH rfl) (cs':=[_,_,_]) rfl) ?_)⟩;rintro _ w_38⟨rfl,Z⟩;refine⟨_,_,Z,sn (xL ?_)⟩;exact⟨_,rfl,_,b42,b45,b9,b10,⟨rfl,rfl,rfl,rfl,rfl,trivial⟩,(Z.ord [4,2,3,5,6,0,1]),h15,h6,hlab⟩
  ·
   rintro σ w_j⟨I,b42,b45,b9,b10,hs,Z,h15,h6,hlab⟩;rw[← qj hs];refine QwR (qq Z (qa (o':=0) ub rfl uT rfl rfl rfl) (qq Z (qc 1 Qy rfl rfl rfl) (qq Z (qc 3 Qy rfl rfl rfl) ?_)));refine qe (d_copyF 5 (xs:=List.replicate n 0) (ys:=(wordsN b n)) qW (fun _=>rfl) Z ui Jr rfl (by simp) (by simp[hwl]) (by rw[hwl]; exact h15) rfl (by rw[hwl]; rfl)) ?_;clear Z;rintro _ w_39⟨rfl,Z⟩;replace Z:=Z.asRow (k:=5) (sz:=1) (m:=n) rfl (by rw[qU qW,hwl]) (by unfold maxLen; omega);replace Z:=Z.asRow (k:=6) (sz:=1) (m:=n) rfl (by rw[qU jk,uX]) (by unfold maxLen; omega);refine QoN (xJ (QwR (qq Z (qc 3 Qy rfl rfl rfl) (qe (qi call68 rfl (links_c _ _ _ _ _ Z.imm)) ?_))));rintro _ w_40⟨I_f,b53,rfl,hE,h53⟩;replace Z:=Z.callE hE;replace h15:=h15.mono hE.ext;replace h6:=h6.mono hE.ext;replace hlab:=hlab.mono hE.ext;refine QoN (xU ?_);refine range_wpG (N:=(lks (wordsN b n)).length) (arg:=lkA (wordsN b n) (lks (wordsN b n))) (fun k I L=>(RFl I 1 u32C (.sg a15 n c15) (wordsN b n)∧atI I ⟨b6,0,none⟩ [.slice a (labelsP (wordsN b n)).length c]∧RFl I 1 intC (.slice a (labelsP (wordsN b n)).length c) (labelsP (wordsN b n)))∧L=[.row (.sg (some ⟨b42,0,none⟩) n n) 88 1 n (flat u32C (liftW (wordsN b n) (labelsP (wordsN b n)) ((lks (wordsN b n)).take k))),.row (.sg (some ⟨b45,0,none⟩) n n) 4 1 n (flat boolC (liftM n ((lks (wordsN b n)).take k))),.cel b10 71 [.sg (some ⟨b42,0,none⟩) n n,.sg (some ⟨b45,0,none⟩) n n,.slice a (labelsP (wordsN b n)).length c],.cel b9 147 [.func (.func 71) #[] #[.zg b6]],.cel b4 67 [.sg a15 n c15],.cel b2 71 [.sg none 0 0,.sg none 0 0,.sg none 0 0],.obj D0 (.deferred (some []))]) (fun k c I L=>False) (Z.ord [5,6,1,2,3,4,0]) rfl call110 (links1_it (wordsN b n) b53 c15 a15 _ (by rw[hwl]; exact h53) (by rw[hwl]; exact h15) hwr (by omega)) (fun _=>rfl) ?_ (⟨⟨h15,h6,hlab⟩,rfl⟩) ?_ ?_ ?_
   ·
    rintro k I I' L⟨⟨h1,h2,h3⟩,h⟩hs;exact⟨⟨h1.mono hs,h2.mono hs,h3.mono hs⟩,h⟩
   ·
    rintro k l D oR oB I1 w1 L1 X1 hk⟨⟨h15,h6,hlab⟩,rfl⟩Z;obtain⟨i,hi⟩:∃i,(lks (wordsN b n))[k]? = some i:=⟨_,xI hk⟩
    rw[lkA_at hi];have him:=xR hi;obtain⟨hiw,hil⟩:=kq.1 him;rw[hwl]at hiw;obtain⟨y,hyi⟩:∃y,(wordsN b n)[i]? = some y:=⟨_,xI (by rw[hwl]; exact hiw)⟩
    have hyb:=hwr y (xR hyi);have hym:=word_mod (m:=fieldM (instAt (wordsN b n) i).op) hyb.1;have hmt:(instAt (wordsN b n) i).n∈labelsP (wordsN b n):=jY.2 (mem_tgts him);have hia:=vv hmt;have hsrt:=srt_at (kP (wordsN b n)) hia;have hix:=(xX.1 hia).1;have hf1:fieldM (instAt (wordsN b n) i).op=24∨fieldM (instAt (wordsN b n) i).op=16:=by unfold fieldM; split <;> simp
    have hf2:Nat.ble (fieldM (instAt (wordsN b n) i).op) IntKind.u32.bits=true:=by rcases hf1 with h | h <;> rw[h] <;> rfl
    have hf3:((idxP (labelsP (wordsN b n)) (instAt (wordsN b n) i).n:Nat):Int) < 2 ^ fieldM (instAt (wordsN b n) i).op:=by rcases hf1 with h | h <;> rw[h] <;> omega
    have hsum:y - y % 2 ^ fieldM (instAt (wordsN b n) i).op+((idxP (labelsP (wordsN b n)) (instAt (wordsN b n) i).n:Nat):Int) < 4294967296:=by rcases hf1 with h | h <;> rw[h] <;> rw[h]at hf3 <;> omega
    have hnum:numAt (wordsN b n) (labelsP (wordsN b n)) i=y - y % 2 ^ fieldM (instAt (wordsN b n) i).op+(idxP (labelsP (wordsN b n)) (instAt (wordsN b n) i).n:Nat):=by unfold numAt numP; rw[jV hyi]
    obtain⟨xw,hxw⟩:∃x,(liftW (wordsN b n) (labelsP (wordsN b n)) ((lks (wordsN b n)).take k))[i]? = some x:=⟨_,xI (by rw[jj,hwl]; exact hiw)⟩
    obtain⟨xm,hxm⟩:∃x,(liftM n ((lks (wordsN b n)).take k))[i]? = some x:=⟨_,xI (by rw[jp]; exact hiw)⟩
    show Code.wpIn _ _ _ _ _ (act _ [] (upd (upd _ 54 _) 55 _)) _
    refine QwR (qq Z (Qai rfl) (QoN (reg (qe (qr (cs:=[.ig _,.ig _,.ig _,.ig _,.ig _]) Z Qr rfl) ?_))));clear Z;rintro _ w_41⟨b12,rfl,Z⟩;refine qe (qf 0 Z uD rfl rfl rfl (vs:=[.ig _,.ig _,.ig _,.ig _,.ig _]) rfl rfl rfl (xH rfl) (cs':=[_,_,_,_,_]) rfl) ?_;clear Z;rintro _ w_42⟨rfl,Z⟩;refine qy (xL ⟨_,_,_,rfl,(Z.ord [1,2,0,3,4,5,6,7,8,9]),?_⟩);intro w_b Z;refine xU (xJ (draw (.pg 0 (.hg 1 (.pg 2 (.hg 3 (.pg 4 (.pg 5 (.hg 6 (.pg 7 (.hg 8 (.hg 11 (.pg 12 (.hg 13 (.cons 9 .eff (.pg 10 (.cons 14 .eff (.pg 15 (.hg 16 (.cons 17 .bar .nil)))))))))))))))))) mixed (by kernel_rfl) Z ?_));intro w_43 Z;refine sp rfl (qa (o':=0) ub rfl uT rfl rfl rfl) (sh rfl (qc 5 Qy rfl rfl rfl) (sp rfl (Qmi rfl) (sh rfl (qc 7 Qy rfl rfl rfl) (sp rfl (Qmi rfl) (sp rfl (g_ixI ui uV h15 rfl rfl (by omega) (by omega)) (sh rfl (qt QH (h15.at hyi) rfl rfl) (sp rfl (qa (o':=0) ue rfl xK rfl rfl rfl) (sh rfl (qc 2 xW rfl rfl rfl) ?_))))))));refine sh rfl (qc 6 isAgg147 rfl rfl rfl) (sp rfl (qa (o':=4) ue rfl xK rfl rfl rfl) (sh rfl (qc 2 xW rfl rfl rfl) ?_));have hS0:=Z;refine se rfl (qi call73 rfl (field_c (instAt (wordsN b n) i).op _ _ Z.imm)) ?_;rintro _ w_44⟨rfl,hE⟩;replace Z:=Z.call hE;refine⟨_,_,hS0.le hE.ext (uu _),Z,?_⟩;refine sp rfl (g_andNotM (m:=fieldM (instAt (wordsN b n) i).op) (c:=y - y % 2 ^ fieldM (instAt (wordsN b n) i).op) rfl rfl rfl hf2 hyb.1 (Int.lt_of_lt_of_le hyb.2 (Int.le_refl _)) (by rw[IntKind.wrap_u32]; omega)) ?_;have hS0:=Z;refine se rfl (zb call71 rfl rfl (find_c a c (idxP (labelsP (wordsN b n)) (instAt (wordsN b n) i).n) b6 (instAt (wordsN b n) i).n (labelsP (wordsN b n)) _ _ Z.imm h6 hlab hsrt (by omega))) ?_
    rintro _ w_45⟨rfl,hE⟩;replace Z:=Z.call hE;refine⟨_,_,hS0.le hE.ext (uu _),Z,?_⟩;refine sp rfl (g_orD (m:=fieldM (instAt (wordsN b n) i).op) (c:=numAt (wordsN b n) (labelsP (wordsN b n)) i) rfl rfl (by omega) (Int.lt_of_lt_of_le (show _ < 4294967296 by omega) (Int.le_refl _)) hym.2.2 (by omega) hf3 (Int.lt_of_lt_of_le (show _ < 4294967296 by omega) (Int.le_refl _)) (by rw[IntKind.wrap_u32,hnum]; omega)) ?_;refine sh rfl (g_ixR 3 ui uV rfl rfl rfl (by omega) (by omega)) (sb rfl (jd 3 qW (numAt (wordsN b n) (labelsP (wordsN b n)) i) Z (by rw[jj,hwl]) hxw uV rfl rfl rfl (vs:=[.wg _]) rfl rfl rfl rfl rfl) ?_);rintro _ w_46⟨rfl,Z⟩;refine⟨_,_,Z,sn (xL (reg (qq Z (qa (o':=1) ub rfl Qf rfl rfl rfl) (qq Z (qc 5 QN rfl rfl rfl) (qq Z (Qmi rfl) (qq Z (g_ixR 4 uR uy rfl rfl rfl (by omega) (by omega)) (qe (jd 4 jk true Z (by rw[jp]) hxm uy rfl rfl rfl (vs:=[.bool _]) rfl rfl rfl rfl rfl) ?_)))))))⟩;clear Z;rintro _ w_47⟨rfl,Z⟩;refine qy (uM (⟨_,_,(Z.sel [true,true,false,true,true,true,true,true,true,true]),⟨h15,h6,hlab⟩,?_⟩));rw[qz hi,liftW_snoc,liftM_snoc]; rfl
   ·
    rintro D I1 w1 L1⟨⟨h15,h6,hlab⟩,rfl⟩Z;refine uM (xL (QwR (qq Z (g_ldO 3 (vs:=[.sg _ _ _,.sg _ _ _,.sg _ _ _]) uU QI rfl rfl rfl rfl) (qe (qf 6 Z uU rfl rfl rfl (vs:=[.sg _ _ _,.sg _ _ _,.sg _ _ _]) rfl rfl rfl (xH rfl) (cs':=[_,_,_]) rfl) ?_))));clear Z;rintro _ w_48⟨rfl,Z⟩;refine qq Z (Qai rfl) (QoN (xO (retDD2 results30 Z (k:=0) (k0:=7) rfl rfl (by decide) (fun w_r Z=>⟨_,_,(qw 6 Z uU QI rfl rfl rfl),(qg (v:=.ig _) rfl),?_⟩))));rw[uL]at Z;obtain⟨I1,hS1,hI1,hd1⟩:=St.freezeRow qW (xs:=liftW (wordsN b n) (labelsP (wordsN b n)) (lks (wordsN b n))) (Z.ord [1,2]) (by rw[jj,hwl]);obtain⟨I2,hS2,hI2,hd2⟩:=St.freezeRow jk (xs:=liftM n (lks (wordsN b n))) hS1 (by rw[jp]);exact⟨I2,_,_,_,_,_,_,rfl,hS2.nil,hd1.mono hI2,by unfold liftP; rw[hwl]; exact hd2,(hlab.mono hI1).mono hI2⟩
   ·
    rintro D k c I1 w1 L1 hk h Z;exact h.elim
 ·
  rintro D k c I1 w1 L1 hk h Z;exact h.elim
end Go.Proofs.YtgkgihnpjgbmhaaGreatDoor
namespace Go.Proofs.YtgkgihnpjgbmhaaGreatDoor
open Tryz
open Go Go.RowKit Go.Inl
theorem encode_n {x : InstL} {at_ : Int} (w0 : World) (I0 : Imm) (hI : Sat I0 w0) (h : Inl.encI x at_ = none) (hx0 : -1099511627776 ≤ x.n) (hx1 : x.n ≤ 1099511627776) (ha0 : -1099511627776 ≤ at_) (ha1 : at_ ≤ 1099511627776) :
 Ctr prog 80 [instV x,.ig at_] w0 (fun v w'=>v = .tuple #[.wg 0,.ig 20]∧Ext w0 I0 w' I0):=by
 have:=encode_c x at_ w0 I0 hI hx0 hx1 ha0 ha1; rw[h]at this; exact this
theorem encode_s {x : InstL} {at_ wv : Int} (w0 : World) (I0 : Imm) (hI : Sat I0 w0) (h : Inl.encI x at_ = some wv) (hx0 : -1099511627776 ≤ x.n) (hx1 : x.n ≤ 1099511627776) (ha0 : -1099511627776 ≤ at_) (ha1 : at_ ≤ 1099511627776) :
 Ctr prog 80 [instV x,.ig at_] w0 (fun v w'=>v = .tuple #[.wg wv,.ig 0]∧Ext w0 I0 w' I0):=by
 have:=encode_c x at_ w0 I0 hI hx0 hx1 ha0 ha1; rw[h]at this; exact this
structure RLf (I : Imm) (a0 : Option Addr) (c0 : Nat) (a1 : Option Addr) (c1 : Nat) (a2 : Option Addr) (c2 : Nat) (x : LiftL) : Prop where
 w:RFl I 1 u32C (.sg a0 x.words.length c0) x.words
 m:RFl I 1 boolC (.sg a1 x.marks.length c1) x.marks
 l:RFl I 1 intC (.sg a2 x.labels.length c2) x.labels
theorem RLf.mono {I J:Imm}{a0:Option Addr}{c0:Nat}{a1:Option Addr}{c1:Nat}{a2:Option Addr}{c2:Nat}{x:LiftL}(h:RLf I a0 c0 a1 c1 a2 c2 x)(hs:Inl.Sub I J):RLf J a0 c0 a1 c1 a2 c2 x:=⟨h.w.mono hs,h.m.mono hs,h.l.mono hs⟩
def Labs (l:List Int):Prop:=∀n∈l,-1099511627776≤n∧n≤1099511627776
theorem lower_none1 {x:LiftL}(h:16384 < x.words.length∨x.marks.length≠x.words.length):lowR x=([],30):=vP (by unfold lowerP; rw[xS h])
theorem kY {x:LiftL}(h:¬(16384 < x.words.length∨x.marks.length≠x.words.length))(hb:lowBad x=true):lowR x=([],30):=vP (by unfold lowerP; rw[xP h,xS hb])
theorem lower_none3 {x:LiftL}(h:¬(16384 < x.words.length∨x.marks.length≠x.words.length))(hb:lowBad x=false)(he:liftEq (liftP (lowW x)) x=false):lowR x=([],30) :=
 vP (by unfold lowerP; rw[xP h,xP (by rw[hb]; decide),xP (by rw[he]; decide)])
theorem yU {x:LiftL}(h:¬(16384 < x.words.length∨x.marks.length≠x.words.length))(hb:lowBad x=false)(he:liftEq (liftP (lowW x)) x=true):lowR x=(bytesP (lowW x),0) :=
 lowR_some (by unfold lowerP; rw[xP h,xP (by rw[hb]; decide),xS he])
theorem unnumP_m {x:LiftL}{i:Nat}(h:x.marks.getD i false=true):unnumP x i=unnum x i (x.words.getD i 0):=by unfold unnumP; rw[xS h]
theorem unnumP_u {x:LiftL}{i:Nat}(h:x.marks.getD i false=false):unnumP x i=some (x.words.getD i 0):=by unfold unnumP; rw[xP (by rw[h]; decide)]
theorem badN_t {x:LiftL}{w:Int}(h:opOf w < 5∨8 < opOf w∨(x.labels.length:Int)≤idxOf w):badN x w=true:=by unfold badN; simp only[JB,ua]; exact h
theorem badN_f {x:LiftL}{w:Int}(h0:¬opOf w < 5)(h1:¬8 < opOf w)(h2:¬(x.labels.length:Int)≤idxOf w):badN x w=false:=by unfold badN; rw[uw h0,uw h1,uw h2]; rfl
theorem vF {x:LiftL}{i:Nat}{w:Int}(h:badN x w=true):unnum x i w=none:=by unfold unnum; rw[xS h]
theorem vh {x:LiftL}{i:Nat}{w:Int}(h:badN x w=false):unnum x i w=Inl.encI (instOf x w) (4*(i:Int)):=by unfold unnum; rw[xP (by rw[h]; decide)]
theorem instOf_hi {x:LiftL}{w n:Int}(h:7≤opOf w)(hn:x.labels[(idxOf w).toNat]? = some n):instOf x w=⟨opOf w,w / 65536 % 256,0,0,n⟩:=by unfold instOf; rw[xS h,xT,hn]; rfl
theorem instOf_lo {x:LiftL}{w n:Int}(h:¬7≤opOf w)(hn:x.labels[(idxOf w).toNat]? = some n):instOf x w=⟨opOf w,0,0,0,n⟩:=by unfold instOf; rw[xP h,xT,hn]; rfl
theorem idxOf_b (w:Int):0≤idxOf w∧idxOf w < 16777216:=by
 unfold idxOf fieldM;split <;> omega
theorem getDb_at {l:List Bool}{i:Nat}{x d:Bool}(h:l[i]? = some x):l.getD i d=x:=by rw[xT,h]; rfl
theorem g_eqNilNil {P:Program}{n:Nat}{σ:Nat→Value}{S:World→Prop}{t t' ty e:TypeId}{x y:Operand}(hT:P.underlying t=some (.slice e))(hx:ev n σ x = .slice none 0 0)(hy:ev n σ y = .slice none 0 0):Gives P (ev n σ) S (.binOp .eql t x y t') ty (.bool true):=fun w _=>by
 have h0:=run_equal_slice_nil (P:=P) w t e none 0 0 hT;have h1:(binOp .eql t (.sg none 0 0) (.sg none 0 0)).run P w = .ok (.bool true) w:=by
  simp only[binOp];simp[h0]
 simp only[execOp,hx,hy,Sem.run_bind,eqGuard,h1];simp[Result.andThen,h1]
theorem cloneW_n (w0 : World) (I0 : Imm) (hI : Sat I0 w0) :
 Ctr prog 79 [.sg none 0 0] w0 (fun v w'=>v = .sg none 0 0∧Ext w0 I0 w' I0):=by
 refine fn (n:=8) func79 rfl rfl rfl ?_;have Z:=St.start hI;refine QwR (qq Z (qd _) (QoN (xJ (QwR (qq Z (qb _) (qq Z (g_eqNilNil ui rfl rfl) (QoN (jR (rfl) (QwR (qq Z (qd _) (QoN (xO (ul (ret1 results79 (qg rfl) ?_))))))))))))));exact⟨rfl,Z.nil⟩
theorem lift_e (ad : Option Addr) (cap : Nat) (ws : List Int) (w0 : World) (I0 : Imm) (hI : Sat I0 w0) (hl : RBytes I0 (.sg ad (4 * ws.length) cap) (bytesP ws)) (hw : Wrds ws) (hn1 : ws.length ≤ 16384) :
 Ctr prog 30 [.sg ad (4*ws.length) cap] w0 (fun v w'=>∃I' a0 c0 a1 c1 a2 c2,v = .tuple #[.agg #[.slice a0 (liftP ws).words.length c0,.slice a1 (liftP ws).marks.length c1,.slice a2 (liftP ws).labels.length c2],.ig 0]∧Ext w0 I0 w' I'∧RLf I' a0 c0 a1 c1 a2 c2 (liftP ws)):=by
 rw[← qD ws]at hl ⊢;refine(lift_c ad cap ws.length (bytesP ws) w0 I0 hI hl (jD ws) (qD ws) hn1).mono ?_;rintro v w' ⟨I',a0,c0,a1,c1,a2,c2,hv,hE,h1,h2,h3⟩;rw[kF hw]at hv h1 h2 h3;have e1:(liftP ws).words.length=ws.length:=jj _ _ _;have e2:(liftP ws).marks.length=ws.length:=jp _ _;have e3:(liftP ws).labels.length=(labelsP ws).length:=rfl;refine⟨I',a0,c0,a1,c1,a2,c2,?_,hE,?_,?_,?_⟩
 · rw[e1,e2,e3]; exact hv
 · rw[e1]; exact h1
 · rw[e2]; exact h2
 · rw[e3]; exact h3
theorem bytes_E (ad : Option Addr) (cap n : Nat) (l : List Int) (w0 : World) (I0 : Imm) (hI : Sat I0 w0) (hl : RFl I0 1 u32C (.sg ad n cap) l) (hw : Wrds l) (hn : n = l.length) (hn1 : n ≤ 1073741824) :
 Ctr prog 76 [.sg ad n cap] w0 (fun v w'=>∃I' a c,v = .sg a (4*l.length) c∧Ext w0 I0 w' I'∧RBytes I' (.sg a (4*l.length) c) (bytesP l)):=by
 subst hn; exact bytes_c ad cap l w0 I0 hI hl hw hn1
theorem cloneW_g (ad : Option Addr) (cap : Nat) (l : List Int) (w0 : World) (I0 : Imm) (hI : Sat I0 w0) (hl : RFl I0 1 u32C (.sg ad l.length cap) l) (hn : l.length ≤ 1073741824) :
 Ctr prog 79 [.sg ad l.length cap] w0 (fun v w'=>∃a c,v = .sg a l.length c∧St [] w0 I0 I0 w' [.row (.sg a l.length c) 88 1 l.length (flat u32C l)]):=by
 cases ad with
 | some ad=>exact cloneW_o ad cap l w0 I0 hI hl hn
 | none =>
   rcases hl with ⟨⟨a,c,hv,_,hc⟩,hz⟩ | ⟨b,o,c,hv,_⟩
   · subst hz
     simp only[Value.slice.injEq]at hv;obtain⟨rfl,_,rfl⟩:=hv;obtain rfl:=hc rfl;exact(cloneW_n w0 I0 hI).mono fun v w' ⟨hv,hE⟩=>⟨none,0,hv,St.nilRow hE 88 1⟩
   · simp at hv
theorem lfeq_c (x y : LiftL) (a0 a1 a2 a0y a1y a2y : Option Addr) (c0 c1 c2 c0y c1y c2y : Nat) (w0 : World) (I0 : Imm) (hI : Sat I0 w0) (hx : RLf I0 a0 c0 a1 c1 a2 c2 x) (hy : RLf I0 a0y c0y a1y c1y a2y c2y y) :
 Ctr prog 81 [.agg #[.sg a0 x.words.length c0,.sg a1 x.marks.length c1,.sg a2 x.labels.length c2],.agg #[.sg a0y y.words.length c0y,.sg a1y y.marks.length c1y,.sg a2y y.labels.length c2y]] w0 (fun v w'=>v = .bool (liftEq x y)∧Ext w0 I0 w' I0):=by
 refine fn (n:=24) func81 rfl rfl rfl ?_;have Z:=St.start hI;refine QwR (qe (d_box (cs:=[.sg _ _ _,.sg _ _ _,.sg _ _ _]) Z rfl) ?_);clear Z;rintro _ w_1⟨b2,rfl,Z⟩;refine qe (d_box (cs:=[.sg _ _ _,.sg _ _ _,.sg _ _ _]) Z rfl) ?_;clear Z;rintro _ w_2⟨b3,rfl,Z⟩;refine qq Z (Qab rfl) (QoR (qq Z (qa (o':=0) ub rfl uT rfl rfl rfl) (qq Z (qc 1 Qy rfl rfl rfl) (qq Z (qa (o':=0) ub rfl uT rfl rfl rfl) (qq Z (qc 0 Qy rfl rfl rfl) (qe (qi call120 rfl (eqW_c _ _ _ _ x.words y.words _ I0 Z.imm hx.w hy.w)) ?_))))));rintro _ w_3⟨rfl,hE⟩;replace Z:=Z.callE hE;refine qq Z (Qmb rfl) (qu rfl rfl Z (fun hg=>(qa (o':=1) ub rfl Qf rfl rfl rfl)) ?_);intro u11 hu11 hn11;refine qu rfl rfl Z (fun hg=>(qc 1 QN rfl (hu11 hg) rfl)) ?_;intro u12 hu12 hn12;refine qu rfl rfl Z (fun hg=>(qa (o':=1) ub rfl Qf rfl rfl rfl)) ?_;intro u13 hu13 hn13;refine qu rfl rfl Z (fun hg=>(qc 0 QN rfl (hu13 hg) rfl)) ?_;intro u14 hu14 hn14;refine cvu rfl rfl Z (fun hg=>(qi call121 (ml (hu12 hg) (ml (hu14 hg) ml0)) (eqB_c _ _ _ _ x.marks y.marks _ I0 Z.imm hx.m hy.m))) ?_;intro w_5 u15 Z hu15 hn15;refine qq Z (g_and rfl rfl (fun hq=>hu15 hq)) (qq Z (Qmb rfl) (qu rfl rfl Z (fun hg=>(qa (o':=2) ub rfl uE rfl rfl rfl)) ?_));intro u18 hu18 hn18;refine qu rfl rfl Z (fun hg=>(qc 1 Qz rfl (hu18 hg) rfl)) ?_;intro u19 hu19 hn19;refine qu rfl rfl Z (fun hg=>(qa (o':=2) ub rfl uE rfl rfl rfl)) ?_;intro u20 hu20 hn20;refine qu rfl rfl Z (fun hg=>(qc 0 Qz rfl (hu20 hg) rfl)) ?_;intro u21 hu21 hn21;refine cvu rfl rfl Z (fun hg=>(qi call122 (ml (hu19 hg) (ml (hu21 hg) ml0)) (eqI_c _ _ _ _ x.labels y.labels _ I0 Z.imm hx.l hy.l))) ?_
 intro w_7 u22 Z hu22 hn22;refine qq Z (g_and rfl rfl (fun hq=>hu22 hq)) (qq Z (Qab rfl) (QoN (xO (ret1 results81 (qg (v:=.bool _) rfl) ⟨?_,Z.nil⟩))));unfold liftEq;rw[← Bool.and_assoc]
set_option maxHeartbeats 2000000 in
theorem lowerL_c (x : LiftL) (a0 a1 a2 : Option Addr) (c0 c1 c2 : Nat) (B : List Int) (e : Int) (w0 : World) (I0 : Imm) (hI : Sat I0 w0) (hx : RLf I0 a0 c0 a1 c1 a2 c2 x) (hw : Wrds x.words) (hlb : Labs x.labels) (he : lowR x = (B, e)) :
 Ctr prog 34 [.agg #[.sg a0 x.words.length c0,.sg a1 x.marks.length c1,.sg a2 x.labels.length c2]] w0 (fun v w'=>∃I' a c,v = .tuple #[.sg a B.length c,.ig e]∧Ext w0 I0 w' I'∧RBytes I' (.sg a B.length c) B):=by
 have hl0:=RSl.le hx.w;have hl1:=RSl.le hx.m;have hl2:=RSl.le hx.l;simp only[maxLen]at hl0 hl1 hl2;refine fn (n:=118) func34 rfl rfl rfl ?_;have Z:=St.start hI;refine QwR (qe (d_box (cs:=[.sg _ _ _,.sg _ _ _,.sg _ _ _]) Z rfl) ?_);clear Z;rintro _ w_1⟨b1,rfl,Z⟩;refine qq Z (qd _) (qq Z (Qai rfl) (QoN (xJ (QwR (qq Z (qa (o':=0) ub rfl uT rfl rfl rfl) (qq Z (qc 0 Qy rfl rfl rfl) (qq Z (qo rfl ui hx.w rfl) (qq Z (g_gtr rfl rfl) (qq Z (Qmb rfl) (qu rfl rfl Z (fun hg=>(qa (o':=1) ub rfl Qf rfl rfl rfl)) ?_))))))))));intro u19 hu19 hn19;refine qu rfl rfl Z (fun hg=>(qc 0 QN rfl (hu19 hg) rfl)) ?_;intro u20 hu20 hn20;refine qu rfl rfl Z (fun hg=>(qo rfl uR hx.m (hu20 hg))) ?_;intro u21 hu21 hn21;refine qu rfl rfl Z (fun hg=>(qa (o':=0) ub rfl uT rfl rfl rfl)) ?_;intro u22 hu22 hn22;refine qu rfl rfl Z (fun hg=>(qc 0 Qy rfl (hu22 hg) rfl)) ?_;intro u23 hu23 hn23;refine qu rfl rfl Z (fun hg=>(qo rfl ui hx.w (hu23 hg))) ?_;intro u24 hu24 hn24;refine qu rfl rfl Z (fun hg=>(g_neq (hu21 hg) (hu24 hg))) ?_;intro u25 hu25 hn25;refine qq Z (g_or rfl rfl (fun hq=>hu25 hq)) (QoN (qh rfl ?_ ?_))
 ·
  intro hc26;clear hu19 hn19 hu20 hn20 hu21 hn21 hu22 hn22 hu23 hn23 hu24 hn24 hu25 hn25
  try simp only[zA,zO,zN,zI,zF,zM,zT,zU]at hc26
  have hb:16384 < x.words.length∨x.marks.length≠x.words.length:=by omega
  rw[lower_none1 hb]at he;obtain⟨rfl,rfl⟩:=Prod.mk.inj he;refine QwR (qq Z (qd _) (qq Z (Qai rfl) (QoN (xO (ul (ret2 JT (qg rfl) (qg (v:=.ig _) rfl) ?_))))))
  first | exact⟨_,none,0,rfl,Z.nil,RFl.nil⟩ | exact⟨_,a103,c103,by show Value.tuple #[.sg a103 (4*(lowW x).length) c103,.ig 0]=_; rw[qD],Z.nil,by rw[qD]; exact h103⟩
 ·
  intro hc26;clear hu19 hn19 hu20 hn20 hu21 hn21 hu22 hn22 hu23 hn23 hu24 hn24 hu25 hn25
  try simp only[zA,zO,zN,zI,zF,zM,zT,zU]at hc26
  have hb:¬(16384 < x.words.length∨x.marks.length≠x.words.length):=by omega
  have hml:x.marks.length=x.words.length:=by omega
  have hwn:x.words.length≤16384:=by omega
  refine xM (xL (QwR (qq Z (qa (o':=0) ub rfl uT rfl rfl rfl) (qq Z (qc 0 Qy rfl rfl rfl) (qe (qi call79 rfl (cloneW_g a0 c0 x.words _ I0 Z.imm hx.w (by omega))) ?_)))));rintro _ w_2⟨a,c,rfl,hE⟩;replace Z:=Z.call hE;refine qq Z (qd _) (QoN (xJ (QwR (qq Z (qa (o':=1) ub rfl Qf rfl rfl rfl) (qq Z (qc 1 QN rfl rfl rfl) (qq Z (qo rfl uR hx.m rfl) (qq Z (Qmi rfl) (QoN (xU (loop (fun(k:Nat) σ w=>okS σ [(1,.zg b1),(4,.sg a x.words.length c),(31,.sg a1 x.marks.length c1),(32,.ig x.marks.length),(33,.ig k)]∧St [] w0 I0 I0 w [.row (.sg a x.words.length c) 88 1 x.words.length (flat u32C (lowK x k)),.cel b1 71 [.sg a0 x.words.length c0,.sg a1 x.marks.length c1,.sg a2 x.labels.length c2]]∧k≤x.words.length∧∀i,i < k→(unnumP x i).isSome=true) (fun k=>x.words.length - k) (0) ?_ ?_))))))))))
  ·
   exact⟨⟨rfl,rfl,rfl,rfl,rfl,trivial⟩,by rw[lowK_0]; exact Z.sel [true,true],by omega,fun i hi=>by omega⟩
  ·
   rintro k σ w_l⟨hs,Z,hkx,hgood⟩;rw[← qj hs]; clear hs
   refine QwR (qq Z (g_lss rfl rfl) (QoN (xJ (qh rfl ?_ ?_))))
   ·
    intro hc34
    try simp only[zA,zO,zN,zI,zF,zM,zT,zU]at hc34
    obtain⟨m,hmi⟩:∃m,x.marks[k]? = some m:=⟨_,xI (by omega)⟩
    have hkw:k < x.words.length:=by omega
    have hmg:=getDb_at (d:=false) hmi;have hyk:=lowK_at hkw;have hyb:=zh hw k;obtain⟨y,hyE⟩:∃y,x.words.getD k 0=y:=⟨_,rfl⟩
    rw[hyE]at hyk hyb;have hyc:=qN qW (lowK x k) k y hyk 0 _ rfl;have hob:0≤opOf y∧opOf y≤255:=by unfold opOf; omega
    have hib:=idxOf_b y;have hf1:fieldM (opOf y)=24∨fieldM (opOf y)=16:=by unfold fieldM; split <;> simp
    have hf2:Nat.ble (fieldM (opOf y)) IntKind.u32.bits=true:=by rcases hf1 with h | h <;> rw[h] <;> rfl
    refine xM (xL (xJ (xU (QwR (qq Z (Qmi rfl) (qq Z (g_ixI uR uy hx.m rfl rfl (by omega) (by omega)) (qq Z (qt QA (hx.m.at hmi) rfl rfl) (qq Z (Qai rfl) (qq Z (Qab rfl) (QoN (xJ (QwR (qq Z (Qmb rfl) (qq Z (g_not rfl) (QoN (qh rfl ?_ ?_))))))))))))))))
    ·
     intro hc39;simp only[uS,Qc]at hc39;have hup:unnumP x k=some (x.words.getD k 0):=unnumP_u (by rw[hmg]; exact hc39);refine ur (um (Qi (xL (reg (qq Z (g_add rfl rfl (by omega) (by omega)) (qq Z (Qmi rfl) ?_))))))
     first
      | exact⟨k+1,_,rfl,⟨⟨rfl,rfl,rfl,rfl,rfl,trivial⟩,by rw[vQ hkw hup]; exact Z.sel [true,true],by omega,fun i hi=>(Qd.1 hi).elim (hgood i) (fun h=>by subst h; rw[hup]; rfl)⟩,by omega⟩
      | exact⟨k+1,_,rfl,⟨⟨rfl,rfl,rfl,rfl,rfl,trivial⟩,by rw[← vp hkw (hum.trans he2)]; exact Z.sel [true,true],by omega,fun i hi=>(Qd.1 hi).elim (hgood i) (fun h=>by subst h; rw[hum,he2]; rfl)⟩,by omega⟩
    ·
     intro hc39;simp only[uS,Qc]at hc39;have hum:unnumP x k=unnum x k y:=by rw[← hyE]; exact unnumP_m (by rw[hmg]; exact hc39)
     refine xM (xL (QwR (qq Z (qb _) (qq Z (Qmi rfl) (qq Z (g_ixR 0 ui uV rfl rfl rfl (by omega) (by omega)) (qq Z (jg 0 QH rfl rfl hyc) (qq Z (jM (s:=24) (c:=opOf y) rfl rfl rfl rfl rfl) (qq Z (qK uv ut rfl (by omega) (by omega)) (qq Z (qs (pl:=[(0,1),(1,1),(2,1),(3,1),(4,1)]) (cs:=[.ig _,.ig _,.ig _,.ig _,.ig _]) Qr ue (fun w=>by simp[xK]) (mp (v:=.ig _) rfl mp0) rfl) ?_)))))))));refine qe (qr (cs:=[.ig _,.ig _,.ig _,.ig _,.ig _]) Z Qr rfl) ?_;clear Z;rintro _ w_3⟨b7,rfl,Z⟩;refine qe (qf 0 Z uD rfl rfl rfl (vs:=[.ig _,.ig _,.ig _,.ig _,.ig _]) rfl rfl rfl (xH rfl) (cs':=[_,_,_,_,_]) rfl) ?_;clear Z;rintro _ w_4⟨rfl,Z⟩;refine QoN (xJ (draw (.pg 0 (.pg 1 (.hg 2 (.hg 3 (.pg 4 (.hg 5 (.cons 6 .eff (.pg 7 (.pg 8 (.pg 9 .nil)))))))))) mixed (by kernel_rfl) Z ?_));intro w_5 Z;refine sp rfl (qb _) (sp rfl (Qmi rfl) (sh rfl (g_ixR 1 ui uV rfl rfl rfl (by omega) (by omega)) (sh rfl (jg 1 QH rfl rfl hyc) (sp rfl (qa (o':=0) ue rfl xK rfl rfl rfl) (sh rfl (qc 0 xW rfl rfl rfl) ?_)))));have hS0:=Z;refine se rfl (qi call73 rfl (field_c (opOf y) _ I0 Z.imm)) ?_;rintro _ w_6⟨rfl,hE⟩;replace Z:=Z.call hE;refine⟨_,_,hS0.le hE.ext (uu _),Z,?_⟩;refine sp rfl (jh (m:=fieldM (opOf y)) (c:=idxOf y) rfl rfl rfl hf2 (by rw[IntKind.wrap_u32]; show idxOf y % 4294967296=_; omega)) ?_;refine sp rfl (qK uv ut rfl (by omega) (by omega)) (sp rfl (Qai rfl) (sn (xL (xJ (QwR (qq Z (qa (o':=0) ue rfl xK rfl rfl rfl) (qq Z (qc 0 xW rfl rfl rfl) (qq Z (g_lss rfl rfl) (qq Z (Qmb rfl) (qu rfl rfl Z (fun hg=>(qa (o':=0) ue rfl xK rfl rfl rfl)) ?_))))))))))
     intro u60 hu60 hn60;refine qu rfl rfl Z (fun hg=>(qc 0 xW rfl (hu60 hg) rfl)) ?_;intro u61 hu61 hn61;refine qu rfl rfl Z (fun hg=>(g_gtr (hu61 hg) rfl)) ?_;intro u62 hu62 hn62;refine qq Z (g_or rfl rfl (fun hq=>hu62 hq)) (qq Z (Qmb rfl) (qu rfl rfl Z (fun hg=>(Qmi rfl)) ?_));intro u65 hu65 hn65;refine qu rfl rfl Z (fun hg=>(qa (o':=2) ub rfl uE rfl rfl rfl)) ?_;intro u66 hu66 hn66;refine qu rfl rfl Z (fun hg=>(qc 2 Qz rfl (hu66 hg) rfl)) ?_;intro u67 hu67 hn67;refine qu rfl rfl Z (fun hg=>(qo rfl uf hx.l (hu67 hg))) ?_;intro u68 hu68 hn68;refine qu rfl rfl Z (fun hg=>(g_geq (hu65 hg) (hu68 hg))) ?_;intro u69 hu69 hn69;refine qq Z (g_or rfl rfl (fun hq=>hu69 hq)) (QoN (qh rfl ?_ ?_))
     ·
      intro hc70;clear hu60 hn60 hu61 hn61 hu62 hn62 hu65 hn65 hu66 hn66 hu67 hn67 hu68 hn68 hu69 hn69
      try simp only[zA,zO,zN,zI,zF,zM,zT,zU]at hc70
      have hbn:badN x y=true:=badN_t (by omega);have hlow:=vq hkw (hum.trans (vF hbn));rw[kY hb hlow]at he;obtain⟨rfl,rfl⟩:=Prod.mk.inj he;refine QwR (qq Z (qd _) (qq Z (Qai rfl) (QoN (xO (ul (Qq (ul (ul (Qq (ul (ret2 JT (qg rfl) (qg (v:=.ig _) rfl) ?_)))))))))))
      first | exact⟨_,none,0,rfl,Z.nil,RFl.nil⟩ | exact⟨_,a103,c103,by show Value.tuple #[.sg a103 (4*(lowW x).length) c103,.ig 0]=_; rw[qD],Z.nil,by rw[qD]; exact h103⟩
     ·
      intro hc70;clear hu60 hn60 hu61 hn61 hu62 hn62 hu65 hn65 hu66 hn66 hu67 hn67 hu68 hn68 hu69 hn69
      try simp only[zA,zO,zN,zI,zF,zM,zT,zU]at hc70
      have hbn:badN x y=false:=badN_f (by omega) (by omega) (by omega);obtain⟨nn,hni⟩:∃n,x.labels[(idxOf y).toNat]? = some n:=⟨_,xI (by omega)⟩
      have hnm:=hlb nn (xR hni);rw[vh hbn]at hum;refine xM (xL (xJ (QwR (qq Z (qa (o':=0) ue rfl xK rfl rfl rfl) (qq Z (qc 0 xW rfl rfl rfl) (qq Z (g_geq rfl rfl) (QoN (qh rfl ?_ ?_))))))))
      ·
       intro hc73
       try simp only[zA,zO,zN,zI,zF,zM,zT,zU]at hc73
       have hin:=instOf_hi hc73 hni;refine reg (qq Z (qb _) (qq Z (Qmi rfl) (qq Z (g_ixR 1 ui uV rfl rfl rfl (by omega) (by omega)) (qq Z (jg 1 QH rfl rfl hyc) (qq Z (jM (s:=16) (c:=y / 65536) rfl rfl rfl rfl rfl) ?_)))));refine qq Z (jh (m:=8) (c:=y / 65536 % 256) rfl rfl rfl rfl (by rw[IntKind.wrap_u32]; omega)) ?_;refine qq Z (qK uv ut rfl (by omega) (by omega)) (qq Z (qa (o':=1) ue rfl xK rfl rfl rfl) (qe (qf 0 Z xK rfl rfl rfl (vs:=[.ig _]) rfl rfl rfl (xH rfl) (cs':=[_,_,_,_,_]) rfl) ?_));clear Z;rintro _ w_7⟨rfl,Z⟩;refine QoR (qq Z (qa (o':=2) ub rfl uE rfl rfl rfl) (qq Z (qc 2 Qz rfl rfl rfl) (qq Z (Qmi rfl) (qq Z (g_ixI uf xK hx.l rfl rfl (by omega) (by omega)) (qq Z (qt xW (hx.l.at hni) rfl rfl) (qq Z (qa (o':=4) ue rfl xK rfl rfl rfl) (qe (qf 0 Z xK rfl rfl rfl (vs:=[.ig _]) rfl rfl rfl (xH rfl) (cs':=[_,_,_,_,_]) rfl) ?_)))))));clear Z;rintro _ w_8⟨rfl,Z⟩;refine QoN (xJ ?_);have hnb:-1099511627776≤(instOf x y).n∧(instOf x y).n≤1099511627776:=by rw[hin]; exact hnm
       have hes:Inl.encI (instOf x y) (4*(k:Int))=none∨∃wv,Inl.encI (instOf x y) (4*(k:Int))=some wv:=by cases Inl.encI (instOf x y) (4*(k:Int)); exact .inl rfl; exact .inr ⟨_,rfl⟩
       refine hes.elim (fun he2=>?_) (fun he2=>?_)
       ·
        rw[hin]at hnb;refine reg (qq Z (g_ldO 0 (vs:=[.ig _,.ig _,.ig _,.ig _,.ig _]) uD Ql rfl rfl rfl rfl) (qq Z (Qmi rfl) (qq Z (g_mul rfl rfl (by omega) (by omega)) ?_)));refine qe (qi call80 rfl (encode_n _ I0 Z.imm (by rw[← hin]; exact he2) hnb.1 hnb.2 (by omega) (by omega))) ?_;rintro _ w_9⟨rfl,hE⟩;replace Z:=Z.callE hE;refine qq Z (qb _) (qq Z (qk (v:=.wg _) rfl rfl) (qq Z (Qxi rfl rfl) (qq Z (Qaw rfl) (qq Z (Qai rfl) (QoN (xJ (QwR (qq Z (Qmi rfl) (qq Z (vS rfl rfl (by decide)) (QoN (jR (rfl) (xJ ?_))))))))))));have hlow:=vq hkw (hum.trans he2);rw[kY hb hlow]at he;obtain⟨rfl,rfl⟩:=Prod.mk.inj he;refine reg (qq Z (qd _) (qq Z (Qai rfl) (QoN (xO (ul (Qq (ul (ul (Qq (ul (ret2 JT (qg rfl) (qg (v:=.ig _) rfl) ?_)))))))))))
        first | exact⟨_,none,0,rfl,Z.nil,RFl.nil⟩ | exact⟨_,a103,c103,by show Value.tuple #[.sg a103 (4*(lowW x).length) c103,.ig 0]=_; rw[qD],Z.nil,by rw[qD]; exact h103⟩
       ·
        obtain⟨wv,he2⟩:=he2;rw[hin]at hnb;refine reg (qq Z (g_ldO 0 (vs:=[.ig _,.ig _,.ig _,.ig _,.ig _]) uD Ql rfl rfl rfl rfl) (qq Z (Qmi rfl) (qq Z (g_mul rfl rfl (by omega) (by omega)) ?_)));refine qe (qi call80 rfl (encode_s _ I0 Z.imm (by rw[← hin]; exact he2) hnb.1 hnb.2 (by omega) (by omega))) ?_;rintro _ w_10⟨rfl,hE⟩;replace Z:=Z.callE hE;refine qq Z (qb _) (qq Z (qk (v:=.wg _) rfl rfl) (qq Z (Qxi rfl rfl) (qq Z (Qaw rfl) (qq Z (Qai rfl) (QoN (xJ (QwR (qq Z (Qmi rfl) (qq Z (g_neqF rfl rfl rfl) (QoN (qV (rfl) (xM (xL (reg (qq Z (qb _) (qq Z (Qmi rfl) (qq Z (Qmw rfl) (qq Z (g_ixR 1 ui uV rfl rfl rfl (by omega) (by omega)) ?_))))))))))))))))));refine qe (jd 1 qW wv Z (by rw[lowK_len (by omega)]) hyk uV rfl rfl rfl (vs:=[.wg _]) rfl rfl rfl rfl rfl) ?_;clear Z;rintro _ w_11⟨rfl,Z⟩;refine qy (uM (xL (reg (qq Z (g_add rfl rfl (by omega) (by omega)) (qq Z (Qmi rfl) ?_)))))
        first
         | exact⟨k+1,_,rfl,⟨⟨rfl,rfl,rfl,rfl,rfl,trivial⟩,by rw[vQ hkw hup]; exact Z.sel [false,true,true],by omega,fun i hi=>(Qd.1 hi).elim (hgood i) (fun h=>by subst h; rw[hup]; rfl)⟩,by omega⟩
         | exact⟨k+1,_,rfl,⟨⟨rfl,rfl,rfl,rfl,rfl,trivial⟩,by rw[← vp hkw (hum.trans he2)]; exact Z.sel [false,true,true],by omega,fun i hi=>(Qd.1 hi).elim (hgood i) (fun h=>by subst h; rw[hum,he2]; rfl)⟩,by omega⟩
      ·
       intro hc73
       try simp only[zA,zO,zN,zI,zF,zM,zT,zU]at hc73
       have hin:=instOf_lo hc73 hni;refine xM (xL (QwR (qq Z (qa (o':=2) ub rfl uE rfl rfl rfl) (qq Z (qc 2 Qz rfl rfl rfl) (qq Z (Qmi rfl) (qq Z (g_ixI uf xK hx.l rfl rfl (by omega) (by omega)) (qq Z (qt xW (hx.l.at hni) rfl rfl) (qq Z (qa (o':=4) ue rfl xK rfl rfl rfl) (qe (qf 0 Z xK rfl rfl rfl (vs:=[.ig _]) rfl rfl rfl (xH rfl) (cs':=[_,_,_,_,_]) rfl) ?_)))))))));clear Z;rintro _ w_12⟨rfl,Z⟩;refine QoN (xJ ?_);have hnb:-1099511627776≤(instOf x y).n∧(instOf x y).n≤1099511627776:=by rw[hin]; exact hnm
       have hes:Inl.encI (instOf x y) (4*(k:Int))=none∨∃wv,Inl.encI (instOf x y) (4*(k:Int))=some wv:=by cases Inl.encI (instOf x y) (4*(k:Int)); exact .inl rfl; exact .inr ⟨_,rfl⟩
       refine hes.elim (fun he2=>?_) (fun he2=>?_)
       ·
        rw[hin]at hnb;refine reg (qq Z (g_ldO 0 (vs:=[.ig _,.ig _,.ig _,.ig _,.ig _]) uD Ql rfl rfl rfl rfl) (qq Z (Qmi rfl) (qq Z (g_mul rfl rfl (by omega) (by omega)) ?_)));refine qe (qi call80 rfl (encode_n _ I0 Z.imm (by rw[← hin]; exact he2) hnb.1 hnb.2 (by omega) (by omega))) ?_;rintro _ w_13⟨rfl,hE⟩;replace Z:=Z.callE hE;refine qq Z (qb _) (qq Z (qk (v:=.wg _) rfl rfl) (qq Z (Qxi rfl rfl) (qq Z (Qaw rfl) (qq Z (Qai rfl) (QoN (xJ (QwR (qq Z (Qmi rfl) (qq Z (vS rfl rfl (by decide)) (QoN (jR (rfl) (xJ ?_))))))))))));have hlow:=vq hkw (hum.trans he2);rw[kY hb hlow]at he;obtain⟨rfl,rfl⟩:=Prod.mk.inj he;refine reg (qq Z (qd _) (qq Z (Qai rfl) (QoN (xO (ul (Qq (ul (ul (Qq (ul (ret2 JT (qg rfl) (qg (v:=.ig _) rfl) ?_)))))))))))
        first | exact⟨_,none,0,rfl,Z.nil,RFl.nil⟩ | exact⟨_,a103,c103,by show Value.tuple #[.sg a103 (4*(lowW x).length) c103,.ig 0]=_; rw[qD],Z.nil,by rw[qD]; exact h103⟩
       ·
        obtain⟨wv,he2⟩:=he2;rw[hin]at hnb;refine reg (qq Z (g_ldO 0 (vs:=[.ig _,.ig _,.ig _,.ig _,.ig _]) uD Ql rfl rfl rfl rfl) (qq Z (Qmi rfl) (qq Z (g_mul rfl rfl (by omega) (by omega)) ?_)));refine qe (qi call80 rfl (encode_s _ I0 Z.imm (by rw[← hin]; exact he2) hnb.1 hnb.2 (by omega) (by omega))) ?_;rintro _ w_14⟨rfl,hE⟩;replace Z:=Z.callE hE;refine qq Z (qb _) (qq Z (qk (v:=.wg _) rfl rfl) (qq Z (Qxi rfl rfl) (qq Z (Qaw rfl) (qq Z (Qai rfl) (QoN (xJ (QwR (qq Z (Qmi rfl) (qq Z (g_neqF rfl rfl rfl) (QoN (qV (rfl) (xM (xL (reg (qq Z (qb _) (qq Z (Qmi rfl) (qq Z (Qmw rfl) (qq Z (g_ixR 1 ui uV rfl rfl rfl (by omega) (by omega)) ?_))))))))))))))))));refine qe (jd 1 qW wv Z (by rw[lowK_len (by omega)]) hyk uV rfl rfl rfl (vs:=[.wg _]) rfl rfl rfl rfl rfl) ?_;clear Z;rintro _ w_15⟨rfl,Z⟩;refine qy (uM (xL (reg (qq Z (g_add rfl rfl (by omega) (by omega)) (qq Z (Qmi rfl) ?_)))))
        first
         | exact⟨k+1,_,rfl,⟨⟨rfl,rfl,rfl,rfl,rfl,trivial⟩,by rw[vQ hkw hup]; exact Z.sel [false,true,true],by omega,fun i hi=>(Qd.1 hi).elim (hgood i) (fun h=>by subst h; rw[hup]; rfl)⟩,by omega⟩
         | exact⟨k+1,_,rfl,⟨⟨rfl,rfl,rfl,rfl,rfl,trivial⟩,by rw[← vp hkw (hum.trans he2)]; exact Z.sel [false,true,true],by omega,fun i hi=>(Qd.1 hi).elim (hgood i) (fun h=>by subst h; rw[hum,he2]; rfl)⟩,by omega⟩
   ·
    intro hc34
    try simp only[zA,zO,zN,zI,zF,zM,zT,zU]at hc34
    have hk:k=x.marks.length:=by omega
    subst hk;refine ur (um (um (Qi (xL (xJ ?_)))));have hlow:lowBad x=false:=lowBad_f (fun i hi=>hgood i (by omega));have hww:=vO hw;rw[show lowK x x.marks.length=lowK x x.words.length by rw[hml]]at Z;have hF:=St.freezeRow (u:=.sg a x.words.length c) (m:=x.words.length) (xs:=lowW x) qW (by rw[← lowK_all x]; exact Z.ord [0,1]) ((jr x).symm);clear Z;obtain⟨I_hws,Z,hI_hws,hws⟩:=hF;replace hx:=hx.mono hI_hws;refine reg (qq Z (qb _) (qe (qi call76 rfl (bytes_E a c x.words.length (lowW x) _ _ Z.imm hws hww (jr x).symm (by omega))) ?_));rintro _ w_16⟨I_f,a103,c103,rfl,hE,h103⟩;replace Z:=Z.callE hE;replace hx:=hx.mono hE.ext;replace hws:=hws.mono hE.ext;refine qq Z (qd _) (QoN (xJ (QwR (qq Z (qb _) ?_))));refine qe (qi call30 rfl (lift_e a103 c103 (lowW x) _ _ Z.imm h103 hww (by rw[jr]; omega))) ?_;rintro _ w_17⟨I_f,a0y,c0y,a1y,c1y,a2y,c2y,rfl,hE,h106⟩;replace Z:=Z.callE hE;replace hx:=hx.mono hE.ext;replace hws:=hws.mono hE.ext;replace h103:=h103.mono hE.ext;refine qq Z (qb _) (qq Z (qk rfl rfl) (qq Z (Qxi rfl rfl) (qe (qr (cs:=[.sg _ _ _,.sg _ _ _,.sg _ _ _]) Z uY rfl) ?_)));clear Z;rintro _ w_18⟨b12,rfl,Z⟩;refine qe (qf 0 Z uU rfl rfl rfl (vs:=[.sg _ _ _,.sg _ _ _,.sg _ _ _]) rfl rfl rfl (xH rfl) (cs':=[_,_,_]) rfl) ?_;clear Z;rintro _ w_19⟨rfl,Z⟩;refine qq Z (Qai rfl) (QoR (qq Z (Qmi rfl) (qq Z (g_neqF rfl rfl rfl) (qq Z (Qmb rfl) (qqs rfl rfl Z (g_ldO 0 (vs:=[.sg _ _ _,.sg _ _ _,.sg _ _ _]) uU QI rfl rfl rfl rfl) (qqs rfl rfl Z (g_ldO 1 (vs:=[.sg _ _ _,.sg _ _ _,.sg _ _ _]) uU QI rfl rfl rfl rfl) (qes rfl rfl (qi call81 rfl (lfeq_c (liftP (lowW x)) x _ _ _ _ _ _ _ _ _ _ _ _ _ _ Z.imm h106 hx)) ?_)))))))
    rintro _ w_20⟨rfl,hE⟩;replace Z:=Z.callE hE;refine qqs rfl rfl Z (g_not rfl) (qq Z (g_or (b := !liftEq (liftP (lowW x)) x) rfl rfl (fun _=>rfl)) (QoN (qh rfl ?_ ?_)))
    ·
     intro hc116
     try simp only[zA,zO,zN,zI,zF,zM,zT,zU]at hc116
     have heq:liftEq (liftP (lowW x)) x=false:=by simpa using hc116
     rw[lower_none3 hb hlow heq]at he;obtain⟨rfl,rfl⟩:=Prod.mk.inj he;refine QwR (qq Z (qd _) (qq Z (Qai rfl) (QoN (xO (ul (ret2 JT (qg rfl) (qg (v:=.ig _) rfl) ?_))))))
     first | exact⟨_,none,0,rfl,Z.nil,RFl.nil⟩ | exact⟨_,a103,c103,by show Value.tuple #[.sg a103 (4*(lowW x).length) c103,.ig 0]=_; rw[qD],Z.nil,by rw[qD]; exact h103⟩
    ·
     intro hc116
     try simp only[zA,zO,zN,zI,zF,zM,zT,zU]at hc116
     have heq:liftEq (liftP (lowW x)) x=true:=by simpa using hc116
     rw[yU hb hlow heq]at he;obtain⟨rfl,rfl⟩:=Prod.mk.inj he;refine xM (xL (QwR (qq Z (qb _) (qq Z (qd _) (qq Z (Qai rfl) (QoN (xO (ret2 JT (qg rfl) (qg (v:=.ig _) rfl) ?_))))))))
     first | exact⟨_,none,0,rfl,Z.nil,RFl.nil⟩ | exact⟨_,a103,c103,by show Value.tuple #[.sg a103 (4*(lowW x).length) c103,.ig 0]=_; rw[qD],Z.nil,by rw[qD]; exact h103⟩
end Go.Proofs.YtgkgihnpjgbmhaaGreatDoor
namespace Go.Proofs.YtgkgihnpjgbmhaaGreatDoor
open Tryz
open Go Go.RowKit Go.Inl
theorem rsl_cap {α:Type}{I:Imm}{sz:Nat}{R:List Value→α→Prop}{ad:Option Addr}{n cap:Nat}{xs:List α}(h:RSl I sz R (.sg ad n cap) xs):xs.length≤cap:=by
 rcases h with ⟨_,rfl⟩ | ⟨b,o,c,hv,h2,_⟩
 · exact Nat.zero_le _
 · simp only[Value.slice.injEq]at hv; omega
theorem tdiv4_b {m:Int}(h0:-4398046511104≤m)(h1:m≤4398046511104):-4398046511104≤m.tdiv 4∧m.tdiv 4≤4398046511104:=by
 rcases Int.le_total 0 m with h | h
 · rw[Int.tdiv_eq_ediv_of_nonneg h]; omega
 · obtain ⟨c, rfl⟩ : ∃ c, m = -c := ⟨-m, by omega⟩
   rw[Int.neg_tdiv,Int.tdiv_eq_ediv_of_nonneg (by omega)]; omega
def twoP (n:Int):List Int:=[n / 256 % 256,n % 256]
theorem vG (n:Int):Byts (twoP n):=by
 intro y hy;simp only[twoP,xV,xY,or_false]at hy;rcases hy with rfl | rfl <;> omega
def lastL (l:List Int)(k:Nat):Int:=if k=0 then 0 else l.getD (k - 1) 0
def dltP (l:List Int)(k:Nat):List Int:=twoP ((l.getD k 0 - lastL l k).tdiv 4)
def formL (l:List Int)(k:Nat):List Int:=(List.range k).flatMap (dltP l)
theorem formL_succ (l:List Int)(k:Nat):formL l (k+1)=formL l k++dltP l k:=by unfold formL; rw[List.range_succ,List.flatMap_append]; simp
theorem yF (l:List Int)(k:Nat):(formL l k).length=2*k:=by
 induction k with
 | zero=>rfl
 | succ k ih=>rw[formL_succ,xN,ih]; show _+2=_; omega
def bitsU (c : List Bool) : Nat → Int
 | 0=>0
 | k+1=>bitsU c k+(if c.getD k false=true then 2 ^ k else 0)
theorem bitsU_b (c:List Bool)(k:Nat):0≤bitsU c k∧bitsU c k < 2 ^ k:=by
 induction k with
 | zero=>exact⟨Int.le_refl _,by show(0:Int) < 1; decide⟩
 | succ k ih =>
   have h1:(0:Int) < 2 ^ k:=by have:=Nat.one_le_two_pow (n:=k); exact_mod_cast this
   have e:(2:Int) ^ (k+1)=2 ^ k+2 ^ k:=by rw[Int.pow_succ]; omega
   unfold bitsU;split <;> omega
theorem pow_le8 {j:Nat}(h:j≤7):(2:Int) ^ j≤128:=by
 have:=Nat.pow_le_pow_right (n:=2) (by omega) h;exact_mod_cast this
def marksB (m:List Bool)(k:Nat):List Int:=(List.range k).map fun i=>bitsU (chunk m i) (chunk m i).length
theorem marksB_succ (m:List Bool)(k:Nat):marksB m (k+1)=marksB m k++[bitsU (chunk m k) (chunk m k).length]:=by unfold marksB; rw[List.range_succ,Qp]; rfl
theorem yT (m:List Bool)(k:Nat):(marksB m k).length=k:=by simp[marksB]
def headF (x:LiftL):List Int:=twoP (x.words.length:Int)++twoP (x.labels.length:Int)
theorem zq (x:LiftL):(headF x).length=4:=rfl
def formP (x:LiftL):List Int:=headF x++formL x.labels x.labels.length++marksB x.marks ((x.marks.length+7) / 8)++bytesP x.words
theorem vV (x:LiftL):(formP x).length=4+2*x.labels.length+(x.marks.length+7) / 8+4*x.words.length:=by
 unfold formP; rw[xN,xN,xN,zq,yF,yT,qD]
theorem yW (l:List Int)(k:Nat):lastL l (k+1)=l.getD k 0:=by unfold lastL; rw[xP (by omega)]; rfl
theorem labs_getD {l:List Int}(h:Labs l)(i:Nat):-1099511627776≤l.getD i 0∧l.getD i 0≤1099511627776:=by
 rw[xT];cases e:l[i]? with
 | none=>simp
 | some y=>exact h y (xR e)
theorem lastL_b {l:List Int}(h:Labs l)(i:Nat):-1099511627776≤lastL l i∧lastL l i≤1099511627776:=by
 unfold lastL; split
 · omega
 · exact labs_getD h _
theorem two_o (n : Int) (w0 : World) (I0 : Imm) (hI : Sat I0 w0) (h0 : -4611686018427387904 ≤ n) (h1 : n ≤ 4611686018427387904) :
 Ctr prog 74 [.ig n] w0 (fun v w'=>∃b,v = .sg (some ⟨b,0,none⟩) 2 2∧St [] w0 I0 I0 w' [.cel b 5 [.bg (n / 256 % 256),.bg (n % 256)]]):=by
 refine fn (n:=9) func74 rfl rfl rfl ?_;have Z:=St.start hI;refine QwR (qq Z (qd _) (QoR (qq Z (Qmi rfl) (qq Z (jM (s:=8) (c:=n / 256) rfl rfl rfl rfl rfl) (qq Z (qH (c:=n / 256 % 256) ut uA rfl (IntKind.wrap_u8 _)) (qq Z (Qmi rfl) (qq Z (qH (c:=n % 256) ut uA rfl (IntKind.wrap_u8 _)) ?_)))))));refine qe (d_lit (vs:=[.bg _,.bg _]) (cs:=[.bg _,.bg _]) Z xQ un QZ rfl rfl rfl rfl (fun v hv=>by simp only[xV,xY,or_false]at hv; rcases hv with rfl | rfl <;> rfl) rfl) ?_;clear Z;rintro _ w_1⟨b8,rfl,Z⟩;refine qq Z (qd _) (QoN (xO (ret1 results74 (qg rfl) ?_)));exact⟨b8,rfl,Z⟩
theorem two_r (n : Int) (w0 : World) (I0 : Imm) (hI : Sat I0 w0) (h0 : -4611686018427387904 ≤ n) (h1 : n ≤ 4611686018427387904) :
 Ctr prog 74 [.ig n] w0 (fun v w'=>∃a c,v = .sg a 2 c∧St [] w0 I0 I0 w' [.row (.sg a 2 c) 5 1 2 (flat byteC (twoP n))]) :=
 (two_o n w0 I0 hI h0 h1).mono fun v w' ⟨b,hv,Z⟩=>⟨_,_,hv,Z.asRow (k:=0) (sz:=1) (m:=2) rfl rfl (by decide)⟩
set_option maxHeartbeats 2000000 in
theorem lform_c (x : LiftL) (a0 a1 a2 : Option Addr) (c0 c1 c2 : Nat) (w0 : World) (I0 : Imm) (hI : Sat I0 w0) (hx : RLf I0 a0 c0 a1 c1 a2 c2 x) (hw : Wrds x.words) (hlb : Labs x.labels) (hn0 : x.words.length ≤ 65536) (hn1 : x.marks.length ≤ 65536) (hn2 : x.labels.length ≤ 65536) :
 Ctr prog 31 [.agg #[.sg a0 x.words.length c0,.sg a1 x.marks.length c1,.sg a2 x.labels.length c2]] w0 (fun v w'=>∃I' a c,v = .slice a (formP x).length c∧Ext w0 I0 w' I'∧RBytes I' (.slice a (formP x).length c) (formP x)):=by
 refine fnM (n:=62) func31 rfl rfl rfl ?_;have Z:=St.start hI;refine QwR (qe (d_box (cs:=[.sg _ _ _,.sg _ _ _,.sg _ _ _]) Z rfl) ?_);clear Z;rintro _ w_1⟨b1,rfl,Z⟩;refine qq Z (qd _) (QoN (meet (fun σ w=>∃b3 a c,okS σ [(1,.zg b1),(3,.zg b3)]∧St [] w0 I0 I0 w [.row (.sg a (4) c) 5 1 (4) (flat byteC (headF x)),.cel b3 22 [.sg a (4) c],.cel b1 71 [.sg a0 x.words.length c0,.sg a1 x.marks.length c1,.sg a2 x.labels.length c2]]) ?_ ?_))
 ·
  refine drawS [true] (.pg 0 (.hg 1 (.pg 2 (.pg 4 (.hg 5 (.pg 6 (.fork 3 (.fork 7 (.fork 8 (.cons 9 .eff (.cons 10 .eff .nil)) 9 (.cons 8 .eff (.cons 10 .eff .nil))) 9 (.cons 7 .eff (.cons 8 .eff (.cons 10 .eff .nil)))) 9 (.cons 3 .eff (.cons 7 .eff (.cons 8 .eff (.cons 10 .eff .nil))))))))))) mixed (by kernel_rfl) Z ?_;intro w_2 Z;refine sp rfl (qa (o':=0) ub rfl uT rfl rfl rfl) (sh rfl (qc 0 Qy rfl rfl rfl) (sp rfl (qo rfl ui hx.w rfl) (sp rfl (qa (o':=2) ub rfl uE rfl rfl rfl) (sh rfl (qc 0 Qz rfl rfl rfl) (sp rfl (qo rfl uf hx.l rfl) (sk ?_ ?_))))))
  ·
   have hS0:=Z;refine se rfl (qi call74 rfl (two_r (x.words.length:Int) _ _ Z.imm (by omega) (by omega))) ?_;rintro _ w_3⟨a14,c14,rfl,hE⟩;replace Z:=Z.call hE;refine⟨_,_,(hS0.sel [true]).le hE.ext (uu _),Z.sel [false,true],sk ?_ ?_⟩
   ·
    have hS0:=Z;refine se rfl (qi call74 rfl (two_o (x.labels.length:Int) _ _ Z.imm (by omega) (by omega))) ?_;rintro _ w_4⟨b18,rfl,hE⟩;replace Z:=Z.call hE;refine⟨_,_,(hS0.sel [false,true]).le hE.ext (uu _),Z.sel [false,false,true],sk ?_ ?_⟩
    ·
     have hS0:=Z;refine se rfl (qB 1 0 (m':=2) Z rfl xQ QP rfl rfl rfl rfl rfl rfl rfl rfl (by omega) (by omega)) ?_;rintro _ w_5⟨a19,p19,rfl,Z⟩;refine⟨_,_,fun _ h=>h,Z.sel [false,false,true],?_⟩;have hS0:=Z;refine se rfl (qr (cs:=[.sg _ _ _]) Z JR rfl) ?_;rintro _ w_6⟨b3,rfl,Z⟩;refine⟨_,_,fun _ h=>h,Z.sel [false,false,false,true],?_⟩;have hS0:=Z;refine se rfl (qf 0 Z uI rfl rfl rfl (vs:=[.sg _ _ _]) rfl rfl rfl (xH rfl) (cs':=[_]) rfl) ?_;rintro _ w_7⟨rfl,Z⟩;refine⟨_,_,fun _ h=>h,Z.sel [false,false,false,true],sn (xL ?_)⟩;exact⟨_,rfl,b3,a19,p19,⟨rfl,rfl,trivial⟩,by have h:=(Z.ord [2,0,3]); rw[headF,ql]; exact h⟩
    ·
     have hS0:=Z;refine se rfl (qr (cs:=[.sg _ _ _]) Z JR rfl) ?_;rintro _ w_8⟨b3,rfl,Z⟩;refine⟨_,_,fun _ h=>h,Z.sel [false,false,false,true],?_⟩;have hS0:=Z;refine se rfl (qB 2 1 (m':=2) Z rfl xQ QP rfl rfl rfl rfl rfl rfl rfl rfl (by omega) (by omega)) ?_;rintro _ w_9⟨a19,p19,rfl,Z⟩;refine⟨_,_,fun _ h=>h,Z.sel [false,false,false,true],?_⟩;have hS0:=Z;refine se rfl (qf 0 Z uI rfl rfl rfl (vs:=[.sg _ _ _]) rfl rfl rfl (xH rfl) (cs':=[_]) rfl) ?_;rintro _ w_10⟨rfl,Z⟩;refine⟨_,_,fun _ h=>h,Z.sel [false,false,false,true],sn (xL ?_)⟩;exact⟨_,rfl,b3,a19,p19,⟨rfl,rfl,trivial⟩,by have h:=(Z.ord [2,0,3]); rw[headF,ql]; exact h⟩
   ·
    have hS0:=Z;refine se rfl (qr (cs:=[.sg _ _ _]) Z JR rfl) ?_;rintro _ w_11⟨b3,rfl,Z⟩;refine⟨_,_,fun _ h=>h,Z.sel [false,false,true],?_⟩;have hS0:=Z;refine se rfl (qi call74 rfl (two_o (x.labels.length:Int) _ _ Z.imm (by omega) (by omega))) ?_;rintro _ w_12⟨b18,rfl,hE⟩;replace Z:=Z.call hE;refine⟨_,_,(hS0.sel [false,false,true]).le hE.ext (uu _),Z.sel [false,false,false,true],?_⟩;have hS0:=Z;refine se rfl (qB 2 0 (m':=2) Z rfl xQ QP rfl rfl rfl rfl rfl rfl rfl rfl (by omega) (by omega)) ?_;rintro _ w_13⟨a19,p19,rfl,Z⟩;refine⟨_,_,fun _ h=>h,Z.sel [false,false,false,true],?_⟩;have hS0:=Z;refine se rfl (qf 1 Z uI rfl rfl rfl (vs:=[.sg _ _ _]) rfl rfl rfl (xH rfl) (cs':=[_]) rfl) ?_;rintro _ w_14⟨rfl,Z⟩;refine⟨_,_,fun _ h=>h,Z.sel [false,false,false,true],sn (xL ?_)⟩;exact⟨_,rfl,b3,a19,p19,⟨rfl,rfl,trivial⟩,by have h:=(Z.ord [2,1,3]); rw[headF,ql]; exact h⟩
  ·
   have hS0:=Z;refine se rfl (qr (cs:=[.sg _ _ _]) Z JR rfl) ?_;rintro _ w_15⟨b3,rfl,Z⟩;refine⟨_,_,fun _ h=>h,Z.sel [false,true],?_⟩;have hS0:=Z;refine se rfl (qi call74 rfl (two_r (x.words.length:Int) _ _ Z.imm (by omega) (by omega))) ?_;rintro _ w_16⟨a14,c14,rfl,hE⟩;replace Z:=Z.call hE;refine⟨_,_,(hS0.sel [false,true]).le hE.ext (uu _),Z.sel [false,false,true],?_⟩;have hS0:=Z;refine se rfl (qi call74 rfl (two_o (x.labels.length:Int) _ _ Z.imm (by omega) (by omega))) ?_;rintro _ w_17⟨b18,rfl,hE⟩;replace Z:=Z.call hE;refine⟨_,_,(hS0.sel [false,false,true]).le hE.ext (uu _),Z.sel [false,false,false,true],?_⟩;have hS0:=Z;refine se rfl (qB 1 0 (m':=2) Z rfl xQ QP rfl rfl rfl rfl rfl rfl rfl rfl (by omega) (by omega)) ?_;rintro _ w_18⟨a19,p19,rfl,Z⟩;refine⟨_,_,fun _ h=>h,Z.sel [false,false,false,true],?_⟩;have hS0:=Z;refine se rfl (qf 2 Z uI rfl rfl rfl (vs:=[.sg _ _ _]) rfl rfl rfl (xH rfl) (cs':=[_]) rfl) ?_;rintro _ w_19⟨rfl,Z⟩;refine⟨_,_,fun _ h=>h,Z.sel [false,false,false,true],sn (xL ?_)⟩;exact⟨_,rfl,b3,a19,p19,⟨rfl,rfl,trivial⟩,by have h:=(Z.sel [false,true,true,true]); rw[headF,ql]; exact h⟩
 ·
  rintro σ w_j⟨b3,a,c,hs,Z⟩;rw[← qj hs];refine QwR (qq Z (Qai rfl) (QoN (xJ (QwR (qq Z (qa (o':=2) ub rfl uE rfl rfl rfl) (qq Z (qc 2 Qz rfl rfl rfl) (qq Z (qo rfl uf hx.l rfl) (qq Z (Qmi rfl) (QoN (xU (loop (fun(x1:BtW) σ w=>okS σ [(1,.zg b1),(3,.zg b3),(4,.ig (lastL x.labels x1.k)),(21,.sg a2 x.labels.length c2),(22,.ig x.labels.length),(23,.ig x1.k)]∧St [] w0 I0 I0 w [.row (.sg x1.a (4+2*x1.k) x1.c) 5 1 (4+2*x1.k) (flat byteC (headF x++formL x.labels x1.k)),.cel b3 22 [.sg x1.a (4+2*x1.k) x1.c],.cel b1 71 [.sg a0 x.words.length c0,.sg a1 x.marks.length c1,.sg a2 x.labels.length c2]]∧x1.k≤x.labels.length) (fun x1=>x.labels.length - x1.k) (⟨0,a,c⟩) ?_ ?_)))))))))))
  ·
   refine⟨⟨rfl,rfl,rfl,rfl,rfl,rfl,trivial⟩,?_,by dsimp only; omega⟩;dsimp only;rw[show formL x.labels 0=[] from rfl,List.append_nil];exact Z.sel [true,true,true]
  ·
   rintro⟨k,a,c⟩σ w_l⟨hs,Z,hk⟩;dsimp only at hs Z hk ⊢;rw[← qj hs]; clear hs
   refine QwR (qq Z (g_lss rfl rfl) (QoN (xJ (qh rfl ?_ ?_))))
   ·
    intro hc24
    try simp only[zA,zO,zN,zI,zF,zM,zT,zU]at hc24
    obtain⟨n,hni⟩:∃n,x.labels[k]? = some n:=⟨_,xI (by omega)⟩
    have hlA:=hx.l.at hni;have hnb:=hlb n (xR hni);have hlst:=lastL_b hlb k;have hdl:dltP x.labels k=twoP ((n - lastL x.labels k).tdiv 4):=by unfold dltP; rw[jV hni]
    have htd:=tdiv4_b (m:=n - lastL x.labels k) (by omega) (by omega);have hln:lastL x.labels (k+1)=n:=by rw[yW,jV hni]
    refine xM (xL (xJ (xU (QwR (qq Z (g_ixI uf xK hx.l rfl rfl (by omega) (by omega)) (qq Z (qt xW hlA rfl rfl) (qq Z (Qai rfl) (QoN (xJ (draw (.hg 0 (.pg 1 (.pg 2 (.pg 3 (.pg 4 (.cons 5 .eff (.cons 6 .bar (.cons 7 .bar .nil)))))))) mixed (by kernel_rfl) Z ?_))))))))));intro w_20 Z;refine sh rfl (qc 1 Qx rfl rfl rfl) (sp rfl (Qmi rfl) (sp rfl (Qmi rfl) (sp rfl (g_sub rfl rfl (by omega) (by omega)) (sp rfl (g_quoT (c:=(n - lastL x.labels k).tdiv 4) rfl rfl (by decide) (by omega) (by omega) rfl) ?_))));have hS0:=Z;refine se rfl (qi call74 rfl (two_o ((n - lastL x.labels k).tdiv 4) _ _ Z.imm (by omega) (by omega))) ?_;rintro _ w_21⟨b32,rfl,hE⟩;replace Z:=Z.call hE;refine⟨_,_,hS0.le hE.ext (List.sublist_append_right _ _),Z,sb rfl (qB 1 0 (m':=2) Z rfl xQ QP rfl rfl rfl rfl rfl rfl rfl rfl (by omega) (by omega)) ?_⟩;rintro _ w_22⟨a33,p33,rfl,Z⟩;refine⟨_,_,Z,sb rfl (qf 2 Z uI rfl rfl rfl (vs:=[.sg _ _ _]) rfl rfl rfl (xH rfl) (cs':=[_]) rfl) ?_⟩;rintro _ w_23⟨rfl,Z⟩;refine⟨_,_,Z,sn (xL (reg (qq Z (Qmi rfl) (qq Z (Qai rfl) (qy (uM (xL (reg (qq Z (g_add rfl rfl (by omega) (by omega)) (qq Z (Qmi rfl) ?_))))))))))⟩;refine⟨⟨k+1,a33,p33⟩,_,rfl,⟨⟨rfl,rfl,congrArg (Value.int .i64) hln.symm,rfl,rfl,rfl,trivial⟩,?_,by dsimp only; omega⟩,by dsimp only; omega⟩;dsimp only;rw[show 4+2*(k+1)=4+2*k+2 by omega,formL_succ,hdl,← uh,ql];exact Z.sel [false,true,true,true]
   ·
    intro hc24
    try simp only[zA,zO,zN,zI,zF,zM,zT,zU]at hc24
    have hk:k=x.labels.length:=by omega
    subst hk;refine ur (um (um (Qi (xL (xJ (xJ ?_))))));have hcap:=rsl_cap hx.m;refine reg (qq Z (qa (o':=1) ub rfl Qf rfl rfl rfl) (qq Z (qc 2 QN rfl rfl rfl) (qe (qi call75 rfl (chunk_c _ _ _ _ _ Z.imm)) ?_)));rintro _ w_24⟨I_f,b38,d38,rfl,hE,h38,h38b⟩;replace Z:=Z.callE hE;replace hx:=hx.mono hE.ext;refine QoN (xU ?_);refine range_wp (N:=(x.marks.length+7) / 8) (arg:=chunkA (.sg a1 x.marks.length c1) x.marks.length) (fun k I L=>RLf I a0 c0 a1 c1 a2 c2 x∧∃a c,L=[.row (.sg a (4+2*x.labels.length+k) c) 5 1 (4+2*x.labels.length+k) (flat byteC (headF x++formL x.labels x.labels.length++marksB x.marks k)),.cel b3 22 [.sg a (4+2*x.labels.length+k) c],.cel b1 71 [.sg a0 x.words.length c0,.sg a1 x.marks.length c1,.sg a2 x.labels.length c2]]) (fun k c I L=>False) Z rfl call117 (chunk1_it x.marks b38 d38 c1 a1 _ h38 h38b hx.m (by omega) hcap) (fun _=>rfl) ?_ (⟨hx,a,c,by rw[show marksB x.marks 0=[] from rfl,List.append_nil]; rfl⟩) ?_ ?_ ?_
    ·
     rintro k I I' L⟨h1,h⟩hs;exact⟨h1.mono hs,h⟩
    ·
     rintro k l D oR oB I1 w1 L1 X1 hk⟨hx,a,c,rfl⟩Z;have hcr:=chunk_r hx.m (k:=k) (by omega);have hcl:=vX x.marks k;obtain⟨cc,hcc⟩:∃cc,chunk x.marks k=cc:=⟨_,rfl⟩
     rw[hcc]at hcr hcl;obtain⟨ac,kc,hcv,_⟩:=hcr.len;have hch:cc.length≤8:=by rw[hcl]; split <;> omega
     rw[show chunkA (.sg a1 x.marks.length c1) x.marks.length k=[.sg ac cc.length kc] from by unfold chunkA; rw[hcv]];rw[hcv]at hcr;show Code.wpIn _ _ _ _ _ (act _ [] (upd _ 39 _)) _
     refine reg (qq Z (qd _) (qy (xL ⟨_,_,_,rfl,Z,?_⟩)));intro w_b Z;refine xU (QwR (qq Z (qv (v:=.bg _) rfl) (QoN (xJ (QwR (qq Z (qb _) (qq Z (qo rfl uR hcr rfl) (qq Z (Qmi rfl) (QoN (xU (loop (fun(j:Nat) σ w=>okS σ [(1,.zg b1),(3,.zg b3),(8,.bg (bitsU cc j)),(40,.sg ac cc.length kc),(41,.ig cc.length),(42,.ig j)]∧St X1 w1 I1 I1 w [.obj D (.deferred (some [])),.obj l oB,.row (.sg a (4+2*x.labels.length+k) c) 5 1 (4+2*x.labels.length+k) (flat byteC (headF x++formL x.labels x.labels.length++marksB x.marks k)),.cel b3 22 [.sg a (4+2*x.labels.length+k) c],.cel b1 71 [.sg a0 x.words.length c0,.sg a1 x.marks.length c1,.sg a2 x.labels.length c2]]∧j≤cc.length) (fun j=>cc.length - j) (0) ?_ ?_)))))))))))
     ·
      exact⟨⟨rfl,rfl,rfl,rfl,rfl,rfl,trivial⟩,Z.sel [true,true,true,true,true],by omega⟩
     ·
      rintro j σ w_l⟨hs,Z,hjc⟩;rw[← qj hs]; clear hs
      refine QwR (qq Z (g_lss rfl rfl) (QoN (xJ (qh rfl ?_ ?_))))
      ·
       intro hc43
       try simp only[zA,zO,zN,zI,zF,zM,zT,zU]at hc43
       obtain⟨m,hmi⟩:∃m,cc[j]? = some m:=⟨_,xI (by omega)⟩
       have hcA:=hcr.at hmi;have hmg:=getDb_at (d:=false) hmi;have hj8:j≤7:=by omega
       have hp8:=pow_le8 hj8;have hbb:=bitsU_b cc j;have hp0:(0:Int) < 2 ^ j:=by omega
       refine xM (xL (xJ (xU (QwR (qq Z (Qmi rfl) (qq Z (g_ixI uR uy hcr rfl rfl (by omega) (by omega)) (qq Z (qt QA hcA rfl rfl) (qq Z (Qai rfl) (qq Z (Qab rfl) (QoR (qq Z (Qmb rfl) (QoN (qh rfl ?_ ?_)))))))))))))
       ·
        intro hc47;have hbs:bitsU cc (j+1)=bitsU cc j+2 ^ j:=by show bitsU cc j+_=_; rw[xS (by rw[hmg]; exact hc47)]
        refine reg (qq Z (qx (v:=.bg _) rfl) (qq Z (Qmi rfl) ?_));refine qq Z (qT (s:=j) (c:=2 ^ j) rfl rfl rfl (Nat.ble_eq_true_of_le (Nat.le_trans (show j≤8 by omega) (uc 8))) (by rw[IntKind.wrap_u8]; omega)) ?_;refine qq Z (g_orD' (m:=j) (c:=bitsU cc j+2 ^ j) rfl rfl (by omega) (Int.lt_of_lt_of_le (show(2:Int) ^ j < 256 by omega) (Int.le_refl _)) (Int.emod_self) (by omega) (by omega) (Int.lt_of_lt_of_le (show bitsU cc j < 256 by omega) (Int.le_refl _)) (by rw[IntKind.wrap_u8]; omega)) ?_;refine qq Z (qv (v:=.bg _) rfl) (qy (uM (xL (reg (qq Z (g_add rfl rfl (by omega) (by omega)) (qq Z (Qmi rfl) ?_))))))
        first
         | exact⟨j+1,_,rfl,⟨⟨rfl,rfl,congrArg (Value.int .u8) hbs.symm,rfl,rfl,rfl,trivial⟩,Z.sel [true,true,true,true,true],by omega⟩,by omega⟩
       ·
        intro hc47;have hbs:bitsU cc (j+1)=bitsU cc j:=by show bitsU cc j+_=_; rw[xP (by rw[hmg,hc47]; decide),Int.add_zero]
        refine xM (uM (xL (reg (qq Z (g_add rfl rfl (by omega) (by omega)) (qq Z (Qmi rfl) ?_)))))
        first
         | exact⟨j+1,_,rfl,⟨⟨rfl,rfl,congrArg (Value.int .u8) hbs.symm,rfl,rfl,rfl,trivial⟩,Z.sel [true,true,true,true,true],by omega⟩,by omega⟩
      ·
       intro hc43
       try simp only[zA,zO,zN,zI,zF,zM,zT,zU]at hc43
       have hj:j=cc.length:=by omega
       subst hj;refine ur (um (um (Qi (xL (reg (qq Z (qc 3 Qx rfl rfl rfl) (qq Z (qx (v:=.bg _) rfl) ?_)))))));refine qe (d_lit (vs:=[.bg _]) (cs:=[.bg _]) Z xQ un QZ rfl rfl rfl rfl (fun v hv=>by simp only[xV,xY,or_false]at hv; subst hv; rfl) rfl) ?_;clear Z;rintro _ w_25⟨b55,rfl,Z⟩;refine qe (qB 3 0 Z rfl xQ QP rfl rfl rfl rfl rfl rfl rfl rfl (by omega) (by omega)) ?_;clear Z;rintro _ w_26⟨a56,p56,rfl,Z⟩;refine qe (qf 4 Z uI rfl rfl rfl (vs:=[.sg _ _ _]) rfl rfl rfl (xH rfl) (cs':=[_]) rfl) ?_;clear Z;rintro _ w_27⟨rfl,Z⟩;refine qy (uM ⟨_,_,(Z.sel [false,true,true,true,true,true]),hx,a56,p56,?_⟩);rw[marksB_succ,hcc,← uh,ql byteC (headF x++formL x.labels x.labels.length++marksB x.marks k),qS]; rfl
    ·
     rintro D I1 w1 L1⟨hx,a,c,rfl⟩Z;refine uM (xL (xJ ?_));have hbpl:=qD x.words;refine draw (.hg 0 (.pg 1 (.hg 2 (.cons 3 .eff (.cons 4 .bar (.pg 5 .nil)))))) mixed (by kernel_rfl) Z ?_;intro w_28 Z;refine sh rfl (qc 2 Qx rfl rfl rfl) (sp rfl (qa (o':=0) ub rfl uT rfl rfl rfl) (sh rfl (qc 3 Qy rfl rfl rfl) ?_));have hS0:=Z;refine se rfl (qi call76 rfl (bytes_c a0 c0 x.words _ _ Z.imm hx.w hw (by omega))) ?_;rintro _ w_29⟨I_f,a60,c60,rfl,hE,h60⟩;replace Z:=Z.call hE;replace hx:=hx.mono hE.ext;refine⟨_,_,hS0.le hE.ext (uu _),Z,sb rfl (qO 1 Z rfl xQ QP rfl rfl rfl rfl qA (fun _=>rfl) h60 rfl (by omega) (by omega)) ?_⟩;rintro _ w_30⟨a61,p61,rfl,Z⟩;refine⟨_,_,Z,sp rfl (qd _) (sn (xL (xO (retD1 results31 Z (k:=0) rfl (fun w_r Z=>⟨_,(qg rfl),?_⟩)))))⟩;have hN:(formP x).length=(4+2*x.labels.length+(x.marks.length+7) / 8+(bytesP x.words).length):=by rw[vV,qD]
     obtain⟨I1_,hE1,hI1,hd1⟩:=jf qA (u:=.sg a61 (4+2*x.labels.length+(x.marks.length+7) / 8+(bytesP x.words).length) p61) (m:=(4+2*x.labels.length+(x.marks.length+7) / 8+(bytesP x.words).length)) (xs:=formP x) (by rw[show formP x=(headF x++formL x.labels x.labels.length++marksB x.marks ((x.marks.length+7) / 8))++bytesP x.words from rfl,ql]; exact Z.sel [false,true,false,false]) hN.symm;rw[hN];exact⟨I1_,a61,p61,rfl,hE1,hd1⟩
    ·
     rintro D k c I1 w1 L1 hk h Z;exact h.elim
end Go.Proofs.YtgkgihnpjgbmhaaGreatDoor
namespace Go.Proofs.YtgkgihnpjgbmhaaGreatDoor
open Tryz
open Go Go.RowKit Go.Inl
def num2 (b:List Int)(i:Nat):Int:=b.getD i 0*256+b.getD (i+1) 0
theorem num2_b {b:List Int}(h:Byts b)(i:Nat):0≤num2 b i∧num2 b i≤65535:=by
 have h0:=qZ h i; have h1:=qZ h (i+1)
 unfold num2; omega
def lastU (b : List Int) : Nat → Int
 | 0=>0
 | k+1=>lastU b k+4*num2 b (4+2*k)
theorem lastU_b {b:List Int}(h:Byts b)(k:Nat):0≤lastU b k∧lastU b k≤262140*k:=by
 induction k with
 | zero=>exact⟨Int.le_refl _,by show(0:Int)≤_; omega⟩
 | succ k ih=>have:=num2_b h (4+2*k); unfold lastU; omega
def labsR (b:List Int)(k:Nat):List Int:=(List.range k).map fun i=>lastU b (i+1)
theorem labsR_succ (b:List Int)(k:Nat):labsR b (k+1)=labsR b k++[lastU b (k+1)]:=by unfold labsR; rw[List.range_succ,Qp]; rfl
theorem yD (b:List Int)(k:Nat):(labsR b k).length=k:=by simp[labsR]
def markR (b:List Int)(m i:Nat):Bool:=decide (b.getD (m+i / 8) 0 / 2 ^ (i % 8) % 2=1)
def marksR (b:List Int)(m k:Nat):List Bool:=(List.range k).map (markR b m)
theorem marksR_succ (b:List Int)(m k:Nat):marksR b m (k+1)=marksR b m k++[markR b m k]:=by unfold marksR; rw[List.range_succ,Qp]; rfl
theorem zH (b:List Int)(m k:Nat):(marksR b m k).length=k:=by simp[marksR]
def nW (b:List Int):Nat:=(num2 b 0).toNat
def nL (b:List Int):Nat:=(num2 b 2).toNat
def atM (b:List Int):Nat:=4+2*nL b
def atW (b:List Int):Nat:=atM b+(nW b+7) / 8
def readX (b:List Int):LiftL:=⟨wordsN (b.drop (atW b)) (nW b),marksR b (atM b) (nW b),labsR b (nL b)⟩
def badF (b:List Int):Bool:=decide (b.length < 4) || !decide (b.length=atW b+4*nW b)
def readR (b:List Int):LiftL×Int:=if badF b=true then (LiftL.zero,3) else if (lowR (readX b)).2=0∧formP (readX b)=b then (readX b,0) else (LiftL.zero,3)
theorem readX_wrds {b:List Int}(h:Byts b):Wrds (readX b).words:=kW (fun y hy=>h y (List.mem_of_mem_drop hy)) _
theorem readX_labs {b:List Int}(h:Byts b)(hn:nL b≤65535):Labs (readX b).labels:=by
 intro n hn';obtain⟨i,hi,rfl⟩:=Qu.1 hn';have:=lastU_b h (i+1);have hi':=List.mem_range.1 hi;omega
theorem nW_b {b:List Int}(h:Byts b):(num2 b 0=(nW b:Int))∧nW b≤65535:=by have:=num2_b h 0; unfold nW; omega
theorem nL_b {b:List Int}(h:Byts b):(num2 b 2=(nL b:Int))∧nL b≤65535:=by have:=num2_b h 2; unfold nL; omega
theorem kn (b:List Int):(readX b).words.length=nW b:=jE _ _
theorem ko (b:List Int):(readX b).marks.length=nW b:=zH _ _ _
theorem kp (b:List Int):(readX b).labels.length=nL b:=yD _ _
theorem readR_bad {b:List Int}(h:badF b=true):readR b=(LiftL.zero,3):=by unfold readR; rw[xS h]
theorem readR_no {b:List Int}(h:badF b=false)(h2:¬((lowR (readX b)).2=0∧formP (readX b)=b)):readR b=(LiftL.zero,3):=by unfold readR; rw[xP (by rw[h]; decide),xP h2]
theorem readR_yes {b:List Int}(h:badF b=false)(h2:(lowR (readX b)).2=0∧formP (readX b)=b):readR b=(readX b,0):=by unfold readR; rw[xP (by rw[h]; decide),xS h2]
theorem RLf.zero (I:Imm):RLf I none 0 none 0 none 0 LiftL.zero:=⟨RFl.nil,RFl.nil,RFl.nil⟩
theorem jN {l:List Int}{i:Nat}(h:i < l.length):l[i]? = some (l.getD i 0):=by rw[xT,xI h]; rfl
theorem numL_c (b : List Int) (ad : Option Addr) (cap b1 i : Nat) (w0 : World) (I0 : Imm) (hI : Sat I0 w0) (h1 : atI I0 ⟨b1, 0, none⟩ [.sg ad b.length cap]) (hl : RBytes I0 (.sg ad b.length cap) b) (hb : Byts b) (hi : i + 1 < b.length) :
 Ctr prog 77 [.ig i,.zg b1] w0 (fun v w'=>v = .ig (num2 b i)∧Ext w0 I0 w' I0):=by
 have h0A:=hl.at (jN (l:=b) (i:=i) (by omega));have h1A:=hl.at (jN (l:=b) (i:=i+1) hi);have hy0:=qZ hb i;have hy1:=qZ hb (i+1);have hle:=RSl.le hl;simp only[maxLen]at hle;refine fn (n:=17) func77 rfl rfl rfl ?_;have Z:=St.start hI;refine QwR (qq Z (Qai rfl) (QoN (xJ (draw (.hg 0 (.pg 1 (.pg 2 (.hg 3 (.pg 4 (.pg 5 (.hg 6 (.pg 7 (.pg 8 (.pg 9 (.hg 10 (.pg 11 (.pg 12 (.pg 13 .nil)))))))))))))) mixed (by kernel_rfl) Z ?_))));intro w_1 Z;refine sh rfl (jG (c:=0) Qx h1 rfl rfl) (sp rfl (Qmi rfl) (sp rfl (g_ixI xQ un hl rfl rfl (by omega) (by omega)) (sh rfl (qt uZ h0A rfl rfl) (sp rfl (qK uA ut rfl (by omega) (by omega)) ?_))));refine sp rfl (qT (s:=8) (c:=b.getD i 0*256) rfl rfl rfl rfl (by rw[IntKind.wrap_i64]; omega)) ?_;refine sh rfl (jG (c:=0) Qx h1 rfl rfl) (sp rfl (Qmi rfl) (sp rfl (g_add rfl rfl (by omega) (by omega)) (sp rfl (g_ixI xQ un hl rfl rfl (by omega) (by omega)) (sh rfl (qt uZ h1A rfl rfl) (sp rfl (qK uA ut rfl (by omega) (by omega)) ?_)))));refine sp rfl (g_orD (m:=8) (c:=num2 b i) rfl rfl (by omega) (Int.lt_of_lt_of_le (show b.getD i 0*256 < 4294967296 by omega) (by decide)) (by omega) (by omega) (by omega) (Int.lt_of_lt_of_le (show b.getD (i+1) 0 < 4294967296 by omega) (by decide)) (by rw[IntKind.wrap_i64]; unfold num2; omega)) ?_;refine sp rfl (Qai rfl) (sn (xL (xO (ret1 results77 (qg (v:=.ig _) rfl) ?_))));exact⟨rfl,Z.nil⟩
theorem words_E (ad : Option Addr) (cap n : Nat) (b : List Int) (w0 : World) (I0 : Imm) (hI : Sat I0 w0) {m : Nat} (hl : RBytes I0 (.sg ad m cap) b) (hb : Byts b) (hn : b.length = 4 * n) (hm : b.length = m) (hn1 : n ≤ 1073741824) :
 Ctr prog 67 [.sg ad m cap] w0 (fun v w'=>∃I' a c,v = .tuple #[.sg a n c,.ig 0]∧Ext w0 I0 w' I'∧RFl I' 1 u32C (.sg a n c) (wordsN b n)):=by
 subst hm; exact words_c ad cap n b w0 I0 hI hl hb hn hn1
theorem lowerL_E (x : LiftL) (a0 a1 a2 : Option Addr) (c0 c1 c2 : Nat) (B : List Int) (e : Int) (n0 n1 n2 : Nat) (w0 : World) (I0 : Imm) (hI : Sat I0 w0) (hx : RLf I0 a0 c0 a1 c1 a2 c2 x) (hw : Wrds x.words) (hlb : Labs x.labels) (he : lowR x = (B, e)) (e0 : n0 = x.words.length) (e1 : n1 = x.marks.length) (e2 : n2 = x.labels.length) :
 Ctr prog 34 [.agg #[.sg a0 n0 c0,.sg a1 n1 c1,.sg a2 n2 c2]] w0 (fun v w'=>∃I' a c,v = .tuple #[.sg a B.length c,.ig e]∧Ext w0 I0 w' I'∧RBytes I' (.sg a B.length c) B):=by
 subst e0 e1 e2; exact lowerL_c x a0 a1 a2 c0 c1 c2 B e w0 I0 hI hx hw hlb he
theorem lform_E (x : LiftL) (a0 a1 a2 : Option Addr) (c0 c1 c2 : Nat) (n0 n1 n2 : Nat) (w0 : World) (I0 : Imm) (hI : Sat I0 w0) (hx : RLf I0 a0 c0 a1 c1 a2 c2 x) (hw : Wrds x.words) (hlb : Labs x.labels) (hn0 : n0 ≤ 65536) (hn1 : n1 ≤ 65536) (hn2 : n2 ≤ 65536) (e0 : n0 = x.words.length) (e1 : n1 = x.marks.length) (e2 : n2 = x.labels.length) :
 Ctr prog 31 [.agg #[.sg a0 n0 c0,.sg a1 n1 c1,.sg a2 n2 c2]] w0 (fun v w'=>∃I' a c,v = .slice a (formP x).length c∧Ext w0 I0 w' I'∧RBytes I' (.slice a (formP x).length c) (formP x)):=by
 subst e0 e1 e2; exact lform_c x a0 a1 a2 c0 c1 c2 w0 I0 hI hx hw hlb hn0 hn1 hn2
set_option maxHeartbeats 2000000 in
theorem lread_c (b : List Int) (ad : Option Addr) (cap : Nat) (x : LiftL) (e : Int) (w0 : World) (I0 : Imm) (hI : Sat I0 w0) (hl : RBytes I0 (.sg ad b.length cap) b) (hb : Byts b) (he : readR b = (x, e)) :
 Ctr prog 33 [.sg ad b.length cap] w0 (fun v w'=>∃I' a0 c0 a1 c1 a2 c2,v = .tuple #[.agg #[.sg a0 x.words.length c0,.sg a1 x.marks.length c1,.sg a2 x.labels.length c2],.ig e]∧Ext w0 I0 w' I'∧RLf I' a0 c0 a1 c1 a2 c2 x):=by
 have hle:=RSl.le hl;simp only[maxLen]at hle;obtain⟨hnw,hnw1⟩:=nW_b hb;obtain⟨hnl,hnl1⟩:=nL_b hb;have hxw:=readX_wrds hb;have hxl:=readX_labs hb hnl1;refine fn (n:=105) func33 rfl rfl rfl ?_;have Z:=St.start hI;refine QwR (qe (d_box (cs:=[.sg _ _ _]) Z rfl) ?_);clear Z;rintro _ w_1⟨b1,rfl,Z⟩;refine qe (qr (cs:=[.sg _ _ _,.sg _ _ _,.sg _ _ _]) Z uY rfl) ?_;clear Z;rintro _ w_2⟨b2,rfl,Z⟩;refine qq Z (Qai rfl) (QoN (xJ (QwR (qq Z (qc 1 Qx rfl rfl rfl) (qq Z (qo rfl xQ hl rfl) (qq Z (g_lss rfl rfl) (QoN (qh rfl ?_ ?_))))))))
 ·
  intro hc17
  try simp only[zA,zO,zN,zI,zF,zM,zT,zU]at hc17
  have hbf:badF b=true:=by unfold badF; rw[uH (by omega)]; rfl
  rw[readR_bad hbf]at he;obtain⟨rfl,rfl⟩:=Prod.mk.inj he;refine QwR (qq Z (qs (pl:=[(0,1),(1,1),(2,1)]) (cs:=[.sg _ _ _,.sg _ _ _,.sg _ _ _]) uY ub (fun w=>by simp[uT,Qf,uE]) mp0 rfl) (qe (qf 0 Z uU rfl rfl rfl (vs:=[.sg _ _ _,.sg _ _ _,.sg _ _ _]) rfl rfl rfl (xH rfl) (cs':=[_,_,_]) rfl) ?_));clear Z;rintro _ w_3⟨rfl,Z⟩;refine qq Z (Qai rfl) (QoN (xO (ul (ret2 Kh (qw 0 Z uU QI rfl rfl rfl) (qg (v:=.ig _) rfl) ?_))))
  first | exact⟨_,none,0,none,0,none,0,rfl,Z.nil,RLf.zero _⟩ | exact⟨_,a85,c85,a,c,a2,c2,by rw[kn,ko,kp],Z.nil,hRL⟩
 ·
  intro hc17
  try simp only[zA,zO,zN,zI,zF,zM,zT,zU]at hc17
  refine xM (xL (xJ ?_));have hF:=Z.freezeAt 1 rfl;clear Z;obtain⟨I_1,Z,hI_1,h1⟩:=hF;replace hl:=hl.mono hI_1;refine reg (qq Z (jP ml0 (ml rfl ml0)) (qq Z (qd _) (QoR (qq Z (qb _) (qe (zb call77 rfl rfl (numL_c b ad cap b1 0 _ _ Z.imm h1 hl hb (by omega))) ?_)))));rintro _ w_4⟨rfl,hE⟩;replace Z:=Z.callE hE;refine qq Z (qb _) (qe (zb call77 rfl rfl (numL_c b ad cap b1 2 _ _ Z.imm h1 hl hb (by omega))) ?_);rintro _ w_5⟨rfl,hE⟩;replace Z:=Z.callE hE;refine qq Z (Qai rfl) (qq Z (Qai rfl) (QoR (qq Z (Qmi rfl) (qq Z (g_mul rfl rfl (by omega) (by omega)) (qq Z (g_add rfl rfl (by omega) (by omega)) (qq Z (Qai rfl) (QoR (qq Z (Qmi rfl) (qq Z (Qmi rfl) (qq Z (g_add rfl rfl (by omega) (by omega)) (qq Z (g_quo rfl rfl (by omega) (by omega) (by omega)) ?_)))))))))));refine qq Z (g_add rfl rfl (by omega) (by omega)) (qq Z (Qai rfl) (QoN (xJ (QwR (qq Z (jG (c:=0) Qx h1 rfl rfl) (qq Z (qo rfl xQ hl rfl) (qq Z (Qmi rfl) (qq Z (Qmi rfl) (qq Z (g_mul rfl rfl (by omega) (by omega)) (qq Z (g_add rfl rfl (by omega) (by omega)) (qq Z (g_neq rfl rfl) (QoN (qh rfl ?_ ?_)))))))))))))
  ·
   intro hc38;simp only[uS,xZ,Qc,ua]at hc38;have hbf:badF b=true:=by unfold badF; rw[uw (show ¬b.length=atW b+4*nW b by unfold atW atM; omega),Bool.not_false,Bool.or_true]
   rw[readR_bad hbf]at he;obtain⟨rfl,rfl⟩:=Prod.mk.inj he;refine QwR (qq Z (qs (pl:=[(0,1),(1,1),(2,1)]) (cs:=[.sg _ _ _,.sg _ _ _,.sg _ _ _]) uY ub (fun w=>by simp[uT,Qf,uE]) mp0 rfl) (qe (qf 0 Z uU rfl rfl rfl (vs:=[.sg _ _ _,.sg _ _ _,.sg _ _ _]) rfl rfl rfl (xH rfl) (cs':=[_,_,_]) rfl) ?_));clear Z;rintro _ w_6⟨rfl,Z⟩;refine qq Z (Qai rfl) (QoN (xO (ul (ret2 Kh (qw 0 Z uU QI rfl rfl rfl) (qg (v:=.ig _) rfl) ?_))))
   first | exact⟨_,none,0,none,0,none,0,rfl,Z.nil,RLf.zero _⟩ | exact⟨_,a85,c85,a,c,a2,c2,by rw[kn,ko,kp],Z.nil,hRL⟩
  ·
   intro hc38;simp only[uS,xZ,Qc,ua]at hc38;have hlenE:b.length=atW b+4*nW b:=by unfold atW atM; omega
   have hbf:badF b=false:=by unfold badF; rw[uw (by omega),uH hlenE]; rfl
   have hatM:atM b=4+2*nL b:=rfl;have hatW:atW b=atM b+(nW b+7) / 8:=rfl;refine xM (xL (QwR (qe (qr (cs:=[.sg _ _ _,.sg _ _ _,.sg _ _ _]) Z uY rfl) ?_)));clear Z;rintro _ w_7⟨b9,rfl,Z⟩;refine QoR (qq Z (Qai rfl) (QoN (xJ (QwR (qq Z (Qmi rfl) (qq Z (Qmi rfl) (QoN (xU (loop (fun(x1:BtW) σ w=>okS σ [(1,.zg b1),(2,.zg b2),(4,.func (.func 77) #[] #[.zg b1]),(5,.ig (num2 b 0)),(7,.ig (atM b:Nat)),(8,.ig (atW b:Nat)),(9,.zg b9),(10,.ig (lastU b x1.k)),(40,.ig (num2 b 2)),(41,.ig x1.k)]∧St [] w0 I0 I_1 w [.row (.sg x1.a x1.k x1.c) 3 1 x1.k (flat intC (labsR b x1.k)),.cel b9 71 [.sg none 0 0,.sg none 0 0,.sg x1.a x1.k x1.c],.cel b2 71 [.sg none 0 0,.sg none 0 0,.sg none 0 0]]∧x1.k≤nL b) (fun x1=>nL b - x1.k) (⟨0,none,0⟩) ?_ ?_)))))))))
   ·
    exact⟨⟨rfl,rfl,rfl,rfl,congrArg (Value.int .i64) (by omega),congrArg (Value.int .i64) (by omega),rfl,rfl,rfl,rfl,trivial⟩,(Z.sel [true,true]).nilRow _ _,by dsimp only; omega⟩
   ·
    rintro⟨k,a2,c2⟩σ w_l⟨hs,Z,hk⟩;dsimp only at hs Z hk ⊢;rw[← qj hs]; clear hs
    refine QwR (qq Z (g_lss rfl rfl) (QoN (xJ (qh rfl ?_ ?_))))
    ·
     intro hc42
     try simp only[zA,zO,zN,zI,zF,zM,zT,zU]at hc42
     have hnk:=num2_b hb (4+2*k);have hlu:=lastU_b hb k;have hls:lastU b (k+1)=lastU b k+4*num2 b (4+2*k):=rfl;refine xM (xL (xJ (xU (QwR (qq Z (Qmi rfl) (qq Z (Qai rfl) (QoR (qq Z (Qmi rfl) (qq Z (qb _) (qq Z (Qmi rfl) (qq Z (g_mul rfl rfl (by omega) (by omega)) (qq Z (g_add rfl rfl (by omega) (by omega)) (qe (zb call77 rfl rfl (numL_c b ad cap b1 (4+2*k) _ _ Z.imm h1 hl hb (by omega))) ?_)))))))))))));rintro _ w_8⟨rfl,hE⟩;replace Z:=Z.callE hE;refine qq Z (g_mul rfl rfl (by omega) (by omega)) (qq Z (g_add rfl rfl (by omega) (by omega)) (qq Z (Qai rfl) (QoN (reg (qq Z (qa (o':=2) ub rfl uE rfl rfl rfl) (qq Z (qc 1 Qz rfl rfl rfl) (qq Z (Qmi rfl) ?_)))))));refine qe (d_lit (vs:=[.ig _]) (cs:=[.ig _]) Z uf xK Qe rfl rfl rfl rfl (fun v hv=>by simp only[xV,xY,or_false]at hv; subst hv; rfl) rfl) ?_;clear Z;rintro _ w_9⟨b55,rfl,Z⟩;refine qe (qB 1 0 Z rfl uf JL rfl rfl rfl rfl rfl rfl rfl rfl (by omega) (by omega)) ?_;clear Z;rintro _ w_10⟨a56,p56,rfl,Z⟩;refine qq Z (qa (o':=2) ub rfl uE rfl rfl rfl) (qe (qf 2 Z uE rfl rfl rfl (vs:=[.sg _ _ _]) rfl rfl rfl (xH rfl) (cs':=[_,_,_]) rfl) ?_);clear Z;rintro _ w_11⟨rfl,Z⟩;refine qy (uM (xL (reg (qq Z (g_add rfl rfl (by omega) (by omega)) (qq Z (Qmi rfl) ?_)))));refine⟨⟨k+1,a56,p56⟩,_,rfl,⟨⟨rfl,rfl,rfl,rfl,rfl,rfl,rfl,rfl,rfl,rfl,trivial⟩,?_,by dsimp only; omega⟩,by dsimp only; omega⟩;dsimp only;rw[labsR_succ,ql,qS];exact Z.sel [false,true,true,true]
    ·
     intro hc42
     try simp only[zA,zO,zN,zI,zF,zM,zT,zU]at hc42
     have hk:k=nL b:=by omega
     subst hk;refine ur (um (um (Qi (xL (xJ (QwR (qq Z (Qmi rfl) (qq Z (Qmi rfl) (QoN (xU (loop (fun(x2:BtW) σ w=>okS σ [(1,.zg b1),(2,.zg b2),(7,.ig (atM b:Nat)),(8,.ig (atW b:Nat)),(9,.zg b9),(59,.ig (num2 b 0)),(60,.ig x2.k)]∧St [] w0 I0 I_1 w [.row (.sg x2.a x2.k x2.c) 4 1 x2.k (flat boolC (marksR b (atM b) x2.k)),.row (.sg a2 (nL b) c2) 3 1 (nL b) (flat intC (labsR b (nL b))),.cel b9 71 [.sg none 0 0,.sg x2.a x2.k x2.c,.sg a2 (nL b) c2],.cel b2 71 [.sg none 0 0,.sg none 0 0,.sg none 0 0]]∧x2.k≤nW b) (fun x2=>nW b - x2.k) (⟨0,none,0⟩) ?_ ?_)))))))))))
     ·
      exact⟨⟨rfl,rfl,rfl,rfl,rfl,rfl,rfl,trivial⟩,(Z.sel [true,true,true]).nilRow _ _,by dsimp only; omega⟩
     ·
      rintro⟨k,a,c⟩σ w_l⟨hs,Z,hk⟩;dsimp only at hs Z hk ⊢;rw[← qj hs]; clear hs
      refine QwR (qq Z (g_lss rfl rfl) (QoN (xJ (qh rfl ?_ ?_))))
      ·
       intro hc61
       try simp only[zA,zO,zN,zI,zF,zM,zT,zU]at hc61
       have hmA:=hl.at (jN (l:=b) (i:=atM b+k / 8) (by omega));have hmb:=qZ hb (atM b+k / 8);refine xM (xL (xJ (xU (QwR (qq Z (Qmi rfl) (qq Z (Qai rfl) (QoN (draw (.pg 0 (.hg 1 (.hg 2 (.pg 3 (.pg 4 (.pg 5 (.pg 6 (.pg 7 (.hg 8 (.pg 9 (.pg 10 (.pg 11 (.pg 12 (.pg 13 (.cons 14 .eff (.cons 15 .bar (.pg 16 (.cons 17 .bar .nil)))))))))))))))))) mixed (by kernel_rfl) Z ?_))))))));intro w_12 Z;refine sp rfl (qa (o':=1) ub rfl Qf rfl rfl rfl) (sh rfl (qc 2 QN rfl rfl rfl) (sh rfl (jG (c:=0) Qx h1 rfl rfl) (sp rfl (Qmi rfl) (sp rfl (Qmi rfl) (sp rfl (g_quo rfl rfl (by omega) (by omega) (by omega)) (sp rfl (g_add rfl rfl (by omega) (by omega)) (sp rfl (g_ixI xQ un hl rfl rfl (by omega) (by omega)) ?_)))))));refine sh rfl (qt uZ hmA rfl rfl) (sp rfl (Qmi rfl) (sp rfl (g_rem rfl rfl (by omega) (by omega)) (sp rfl (jM (s:=k % 8) (c:=b.getD (atM b+k / 8) 0 / 2 ^ (k % 8)) rfl rfl (by omega) (Nat.ble_eq_true_of_le (Nat.le_trans (show k % 8≤8 by omega) (uc 8))) rfl) ?_)));refine sp rfl (jh (m:=1) (c:=b.getD (atM b+k / 8) 0 / 2 ^ (k % 8) % 2) rfl rfl rfl rfl (by rw[IntKind.wrap_u8]; omega)) ?_;refine sp rfl (g_toV (g_eql rfl rfl) (rfl:_=Value.bool (markR b (atM b) k))) ?_;have hS0:=Z;refine se rfl (d_lit (vs:=[.bool _]) (cs:=[.bool _]) Z uR uy JN rfl rfl rfl rfl (fun v hv=>by simp only[xV,xY,or_false]at hv; subst hv; rfl) rfl) ?_;rintro _ w_13⟨b77,rfl,Z⟩;refine⟨_,_,hS0.le (Sub.refl _) (uq _ _),Z,sb rfl (qB 1 0 Z rfl uR Kb rfl rfl rfl rfl rfl rfl rfl rfl (by omega) (by omega)) ?_⟩;rintro _ w_14⟨a78,p78,rfl,Z⟩
       refine⟨_,_,Z,sp rfl (qa (o':=1) ub rfl Qf rfl rfl rfl) (sb rfl (qf 3 Z Qf rfl rfl rfl (vs:=[.sg _ _ _]) rfl rfl rfl (xH rfl) (cs':=[_,_,_]) rfl) ?_)⟩;rintro _ w_15⟨rfl,Z⟩;refine⟨_,_,Z,sn (uM (xL (reg (qq Z (g_add rfl rfl (by omega) (by omega)) (qq Z (Qmi rfl) ?_)))))⟩;refine⟨⟨k+1,a78,p78⟩,_,rfl,⟨⟨rfl,rfl,rfl,rfl,rfl,rfl,rfl,trivial⟩,?_,by dsimp only; omega⟩,by dsimp only; omega⟩;dsimp only;rw[marksR_succ,ql,qS];exact Z.sel [false,true,true,true,true]
      ·
       intro hc61
       try simp only[zA,zO,zN,zI,zF,zM,zT,zU]at hc61
       have hk:k=nW b:=by omega
       subst hk;refine ur (um (um (Qi (xL (xJ ?_)))));have hs84:=RSl.slL hl (atW b) (by omega);obtain⟨a84,c84,hv84,_⟩:=hs84.len;rw[hv84]at hs84;have hbd:Byts (b.drop (atW b)):=fun y hy=>hb y (List.mem_of_mem_drop hy)
       refine reg (qq Z (jG (c:=0) Qx h1 rfl rfl) (qq Z (Qmi rfl) (qq Z (g_toV (kj (l0:=atW b) xQ un rfl rfl (by omega) (by omega) (by omega)) hv84) ?_)));refine qe (qi call67 rfl (words_E a84 c84 (nW b) (b.drop (atW b)) _ _ Z.imm hs84 hbd (by rw[Qj]; omega) (by rw[Qj]) (by omega))) ?_;rintro _ w_16⟨I_f,a85,c85,rfl,hE,h85⟩;replace Z:=Z.callE hE;replace hl:=hl.mono hE.ext;replace h1:=h1.mono hE.ext;refine qq Z (qb _) (qq Z (qk rfl rfl) (qq Z (Qxi rfl rfl) (qq Z (qa (o':=0) ub rfl uT rfl rfl rfl) (qe (qf 2 Z uT rfl rfl rfl (vs:=[.sg _ _ _]) rfl rfl rfl (xH rfl) (cs':=[_,_,_]) rfl) ?_))));clear Z;rintro _ w_17⟨rfl,Z⟩;refine QoN (xJ (xJ ?_));obtain⟨B,eL,hlw⟩:∃B eL,lowR (readX b)=(B,eL):=⟨_,_,rfl⟩
       refine(Decidable.em (eL=0)).elim (fun h0=>?_) (fun h0=>?_)
       ·
        subst h0;have hF:=St.freezeRow (u:=.sg a (nW b) c) (m:=nW b) (xs:=marksR b (atM b) (nW b)) jk (by exact Z.ord [0,1,2,3]) ((zH _ _ _).symm);clear Z;obtain⟨I_hmk,Z,hI_hmk,hmk⟩:=hF;replace hl:=hl.mono hI_hmk;replace h1:=h1.mono hI_hmk;replace h85:=h85.mono hI_hmk;have hF:=St.freezeRow (u:=.sg a2 (nL b) c2) (m:=nL b) (xs:=labsR b (nL b)) qM (by exact Z.ord [0,1,2]) ((yD _ _).symm);clear Z;obtain⟨I_hlab,Z,hI_hlab,hlab⟩:=hF;replace hl:=hl.mono hI_hlab;replace h1:=h1.mono hI_hlab;replace h85:=h85.mono hI_hlab;replace hmk:=hmk.mono hI_hlab;have hRL:RLf _ a85 c85 a c a2 c2 (readX b):=⟨by rw[kn]; exact h85,by rw[ko]; exact hmk,by rw[kp]; exact hlab⟩
        clear h85 hmk hlab;refine reg (qq Z (g_ldO 0 (vs:=[.sg _ _ _,.sg _ _ _,.sg _ _ _]) uU QI rfl rfl rfl rfl) (qe (qi call34 rfl (lowerL_E (readX b) a85 a a2 c85 c c2 B _ (nW b) (nW b) (nL b) _ _ Z.imm hRL hxw hxl hlw (kn b).symm (ko b).symm (kp b).symm)) ?_));rintro _ w_18⟨I_f,a91,c91,rfl,hE,h91⟩;replace Z:=Z.callE hE;replace hl:=hl.mono hE.ext;replace h1:=h1.mono hE.ext;replace hRL:=hRL.mono hE.ext;refine qq Z (qb _) (qq Z (qk rfl rfl) (qq Z (Qxi rfl rfl) (qq Z (qd _) (qq Z (Qai rfl) (QoN (xJ (draw (.pg 0 (.pg 1 (.pg 2 (.hg 3 (.hg 5 (.cons 4 .eff (.cons 6 .eff (.pg 7 (.pg 8 .nil))))))))) mixed (by kernel_rfl) Z ?_)))))));intro w_19 Z;refine sp rfl (Qmi rfl) (sp rfl (g_neqF rfl rfl rfl) (sp rfl (Qmb rfl) (sht rfl rfl rfl (g_ldO 0 (vs:=[.sg _ _ _,.sg _ _ _,.sg _ _ _]) uU QI rfl rfl rfl rfl) (sht rfl rfl rfl (jG (c:=0) Qx h1 rfl rfl) ?_))));have hS0:=Z;refine Inl.set rfl rfl rfl (qi call31 rfl (lform_E (readX b) a85 a a2 c85 c c2 (nW b) (nW b) (nL b) _ _ Z.imm hRL hxw hxl (by omega) (by omega) (by omega) (kn b).symm (ko b).symm (kp b).symm)) ?_;rintro _ w_20⟨I_f,a98,c98,rfl,hE,h98⟩;replace Z:=Z.call hE;replace hl:=hl.mono hE.ext;replace h1:=h1.mono hE.ext;replace hRL:=hRL.mono hE.ext;replace h91:=h91.mono hE.ext;refine⟨_,_,hS0.le hE.ext (uu _),Z,?_⟩;have hS0:=Z;refine Inl.set rfl rfl rfl (qi call78 rfl (eqY_c _ _ _ _ (formP (readX b)) b _ _ Z.imm h98 hl)) ?_;rintro _ w_21⟨rfl,hE⟩;replace Z:=Z.call hE;refine⟨_,_,hS0.le hE.ext (uu _),Z,spt rfl rfl rfl (g_not rfl) (sp rfl (g_or (b := !decide (formP (readX b)=b)) rfl rfl (fun _=>rfl)) (sn (xL (qh rfl ?_ ?_))))⟩
        ·
         intro hc102
         try simp only[zA,zO,zN,zI,zF,zM,zT,zU]at hc102
         have hne:¬formP (readX b)=b:=by simpa using hc102
         rw[readR_no hbf (fun h=>hne h.2)]at he;obtain⟨rfl,rfl⟩:=Prod.mk.inj he;refine QwR (qq Z (qs (pl:=[(0,1),(1,1),(2,1)]) (cs:=[.sg _ _ _,.sg _ _ _,.sg _ _ _]) uY ub (fun w=>by simp[uT,Qf,uE]) mp0 rfl) (qe (qf 1 Z uU rfl rfl rfl (vs:=[.sg _ _ _,.sg _ _ _,.sg _ _ _]) rfl rfl rfl (xH rfl) (cs':=[_,_,_]) rfl) ?_));clear Z;rintro _ w_22⟨rfl,Z⟩;refine qq Z (Qai rfl) (QoN (xO (ul (ret2 Kh (qw 1 Z uU QI rfl rfl rfl) (qg (v:=.ig _) rfl) ?_))))
         first | exact⟨_,none,0,none,0,none,0,rfl,Z.nil,RLf.zero _⟩ | exact⟨_,a85,c85,a,c,a2,c2,by rw[kn,ko,kp],Z.nil,hRL⟩
        ·
         intro hc102
         try simp only[zA,zO,zN,zI,zF,zM,zT,zU]at hc102
         have heq:formP (readX b)=b:=by simpa using hc102
         rw[readR_yes hbf ⟨by rw[hlw],heq⟩]at he;obtain⟨rfl,rfl⟩:=Prod.mk.inj he;refine xM (xL (QwR (qq Z (g_ldO 0 (vs:=[.sg _ _ _,.sg _ _ _,.sg _ _ _]) uU QI rfl rfl rfl rfl) (qe (qf 1 Z uU rfl rfl rfl (vs:=[.sg _ _ _,.sg _ _ _,.sg _ _ _]) rfl rfl rfl (xH rfl) (cs':=[_,_,_]) rfl) ?_))));clear Z;rintro _ w_23⟨rfl,Z⟩;refine qq Z (Qai rfl) (QoN (xO (ret2 Kh (qw 1 Z uU QI rfl rfl rfl) (qg (v:=.ig _) rfl) ?_)))
         first | exact⟨_,none,0,none,0,none,0,rfl,Z.nil,RLf.zero _⟩ | exact⟨_,a85,c85,a,c,a2,c2,by rw[kn,ko,kp],Z.nil,hRL⟩
       ·
        have hF:=St.freezeRow (u:=.sg a (nW b) c) (m:=nW b) (xs:=marksR b (atM b) (nW b)) jk (by exact Z.ord [0,1,2,3]) ((zH _ _ _).symm);clear Z;obtain⟨I_hmk,Z,hI_hmk,hmk⟩:=hF;replace hl:=hl.mono hI_hmk;replace h1:=h1.mono hI_hmk;replace h85:=h85.mono hI_hmk;have hF:=St.freezeRow (u:=.sg a2 (nL b) c2) (m:=nL b) (xs:=labsR b (nL b)) qM (by exact Z.ord [0,1,2]) ((yD _ _).symm);clear Z;obtain⟨I_hlab,Z,hI_hlab,hlab⟩:=hF;replace hl:=hl.mono hI_hlab;replace h1:=h1.mono hI_hlab;replace h85:=h85.mono hI_hlab;replace hmk:=hmk.mono hI_hlab;have hRL:RLf _ a85 c85 a c a2 c2 (readX b):=⟨by rw[kn]; exact h85,by rw[ko]; exact hmk,by rw[kp]; exact hlab⟩
        clear h85 hmk hlab;refine reg (qq Z (g_ldO 0 (vs:=[.sg _ _ _,.sg _ _ _,.sg _ _ _]) uU QI rfl rfl rfl rfl) (qe (qi call34 rfl (lowerL_E (readX b) a85 a a2 c85 c c2 B _ (nW b) (nW b) (nL b) _ _ Z.imm hRL hxw hxl hlw (kn b).symm (ko b).symm (kp b).symm)) ?_));rintro _ w_24⟨I_f,a91,c91,rfl,hE,h91⟩;replace Z:=Z.callE hE;replace hl:=hl.mono hE.ext;replace h1:=h1.mono hE.ext;replace hRL:=hRL.mono hE.ext;refine qq Z (qb _) (qq Z (qk rfl rfl) (qq Z (Qxi rfl rfl) (qq Z (qd _) (qq Z (Qai rfl) (QoN (xJ (draw (.pg 0 (.pg 1 (.pg 2 (.pg 3 (.pg 5 (.cons 4 .eff (.cons 6 .eff (.pg 7 (.pg 8 .nil))))))))) mixed (by kernel_rfl) Z ?_)))))));intro w_25 Z;refine sp rfl (Qmi rfl) (sp rfl (vS rfl rfl h0) (sp rfl (Qmb rfl) (spf rfl rfl rfl rfl (spf rfl rfl rfl rfl (sgf rfl rfl rfl rfl (Z) (sgf rfl rfl rfl rfl (Z) (spf rfl rfl rfl rfl (sp rfl (g_or (b:=true) rfl rfl (fun h=>(by cases h))) (sn (xL ?_))))))))));rw[readR_no hbf (fun h=>h0 (by have:=h.1; rw[hlw]at this; exact this))]at he;obtain⟨rfl,rfl⟩:=Prod.mk.inj he;refine jR (rfl) (QwR (qq Z (qs (pl:=[(0,1),(1,1),(2,1)]) (cs:=[.sg _ _ _,.sg _ _ _,.sg _ _ _]) uY ub (fun w=>by simp[uT,Qf,uE]) mp0 rfl) (qe (qf 1 Z uU rfl rfl rfl (vs:=[.sg _ _ _,.sg _ _ _,.sg _ _ _]) rfl rfl rfl (xH rfl) (cs':=[_,_,_]) rfl) ?_)));clear Z;rintro _ w_26⟨rfl,Z⟩;refine qq Z (Qai rfl) (QoN (xO (ul (ret2 Kh (qw 1 Z uU QI rfl rfl rfl) (qg (v:=.ig _) rfl) ?_))))
        first | exact⟨_,none,0,none,0,none,0,rfl,Z.nil,RLf.zero _⟩ | exact⟨_,a85,c85,a,c,a2,c2,by rw[kn,ko,kp],Z.nil,hRL⟩
end Go.Proofs.YtgkgihnpjgbmhaaGreatDoor
