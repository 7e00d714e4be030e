/- inlayref02: Decode, Encode, Bytes, Made: what they compute. Conditions: as said. inlayref02.Made, inlayref02.Bytes, inlayref03.Code: words, and code of them. Conditions: numbers within bounds. -/
import Derived.Test.YtgkgihnpjgbmhaaGreatDoorRt3
set_option linter.unusedSimpArgs false
set_option linter.unusedVariables false
namespace Go.Proofs.YtgkgihnpjgbmhaaGreatDoor
open Tryz
open Go Go.RowKit Go.Inl
def sgnP (n m:Int):Int:=if m / 2≤n then n - m else n
theorem sgn_low (w m:Int):sgnP (w % m) m=lowP w m true:=by
 unfold sgnP lowP;by_cases h:m / 2≤w % m
 · rw[xS h,xS (by simp[h])]
 · rw[xP h,xP (by simp[h])]
theorem yo {w at_ : Int} : decI w at_ = if octP w 0 = 0 ∨ 8 < octP w 0 then dataI w
 else if badR w (octP w 0)=true then dataI w
 else ⟨octP w 0, if 0 < regsP (octP w 0) then octP w 1 else 0, if 1 < regsP (octP w 0) then octP w 2 else 0, if 2 < regsP (octP w 0) then octP w 3 else 0,
  if targP (octP w 0)=true then at_+4*lowI w (octP w 0) else lowI w (octP w 0)⟩:=rfl
theorem dec_3 {w at_:Int}(h:octP w 0=1∨octP w 0=3∨octP w 0=4)(hb:¬(15 < octP w 1∨15 < octP w 2∨15 < octP w 3)):decI w at_=⟨octP w 0,octP w 1,octP w 2,octP w 3,0⟩:=by
 rw[yo];rcases h with h | h | h <;> rw[h] <;> simp[badR,regsP,targP,lowI,bitsP] <;> omega
theorem zW {w at_:Int}(h:octP w 0=1∨octP w 0=3∨octP w 0=4)(hb:15 < octP w 1∨15 < octP w 2∨15 < octP w 3):decI w at_=dataI w:=by
 rw[yo];rcases h with h | h | h <;> rw[h] <;> simp[badR,regsP] <;> omega
theorem dec_j {w at_:Int}(h:octP w 0=5∨octP w 0=6):decI w at_=⟨octP w 0,0,0,0,at_+4*sgnP (w % 16777216) 16777216⟩:=by
 rw[yo,sgn_low];rcases h with h | h <;> rw[h] <;> simp[badR,regsP,targP,lowI,bitsP,signP]
theorem zX {w at_:Int}(h:octP w 0=2∨octP w 0=7∨octP w 0=8)(hb:15 < octP w 1):decI w at_=dataI w:=by
 rw[yo];rcases h with h | h | h <;> rw[h] <;> simp[badR,regsP,hb]
theorem dec_2 {w at_:Int}(h:octP w 0=2)(hb:¬15 < octP w 1):decI w at_=⟨octP w 0,octP w 1,0,0,w % 65536⟩:=by
 rw[yo,h]; simp[badR,regsP,targP,lowI,bitsP,signP,lowP,hb]
theorem dec_7 {w at_:Int}(h:octP w 0=7)(hb:¬15 < octP w 1):decI w at_=⟨octP w 0,octP w 1,0,0,at_+4*sgnP (w % 65536) 65536⟩:=by
 rw[yo,sgn_low,h]; simp[badR,regsP,targP,lowI,bitsP,signP,hb]
theorem dec_8 {w at_:Int}(h:octP w 0=8)(hb:¬15 < octP w 1):decI w at_=⟨octP w 0,octP w 1,0,0,at_+4*(w % 65536)⟩:=by
 rw[yo,h]; simp[badR,regsP,targP,lowI,bitsP,signP,lowP,hb]
def refW (x:InstL)(at_:Int):Int:=x.op*16777216+(if x.op=5∨x.op=6 then (x.n - at_).tdiv 4 else x.a*65536+(x.n - at_).tdiv 4 % 65536) % 16777216
theorem zc {x:InstL}{at_:Int}(h:x.op=5∨x.op=6):refW x at_=x.op*16777216+(x.n - at_).tdiv 4 % 16777216:=by unfold refW; rw[xS h]
theorem kk {x:InstL}{at_:Int}(h:¬(x.op=5∨x.op=6)):refW x at_=x.op*16777216+(x.a*65536+(x.n - at_).tdiv 4 % 65536) % 16777216:=by unfold refW; rw[xP h]
def Lnkd (x:InstL):Prop:=(5≤x.op∧x.op≤8)∧(0≤x.a∧x.a≤255)∧x.b=0∧x.c=0∧(x.op=5∨x.op=6→x.a=0)
theorem refW_b {x:InstL}(h:Lnkd x)(at_:Int):0≤refW x at_∧refW x at_ < 4294967296:=by
 obtain⟨h1,_⟩:=h;unfold refW; omega
theorem refW_enc {x:InstL}{at_ w:Int}(h:Lnkd x)(he:Inl.encI x at_=some w):refW x at_=w:=by
 obtain⟨hd,h0,h1⟩:=zv he;obtain⟨⟨h5,h8⟩,⟨ha0,ha1⟩,hb,hc,ha⟩:=h;have hE:encW x at_=w:=by
  unfold Inl.encI at he;split at he
  · exact Option.some.inj he
  · cases he
 have hn:(x.n - at_) % 4=0:=by
  have hop0:(decI w at_).op=x.op:=congrArg InstL.op hd;have hn0:(decI w at_).n=x.n:=congrArg InstL.n hd;rw[yo]at hop0 hn0;by_cases g1:octP w 0=0∨8 < octP w 0
  · rw[xS g1]at hop0; have:(0:Int)=x.op:=hop0; omega
  · by_cases g2 : badR w (octP w 0) = true
    · rw[xP g1,xS g2]at hop0; have:(0:Int)=x.op:=hop0; omega
    · rw [xP g1, xP g2] at hop0 hn0
      dsimp only at hop0 hn0;rw[xS (by unfold targP; simp; omega)]at hn0;omega
 have hdiv:(x.n - at_).tdiv 4=(x.n - at_) / 4:=Int.tdiv_eq_ediv_of_dvd (Int.dvd_of_emod_eq_zero hn);rw[← hE];unfold refW encW;rw[hdiv];have e:x.op=5∨x.op=6∨x.op=7∨x.op=8:=by omega
 rcases e with e | e | e | e <;> rw[e] <;> simp[targP,bitsP,regsP] <;> omega
theorem refE {x:InstL}{at_:Int}(h:Lnkd x):Inl.encI x at_=if instEq (decI (refW x at_) at_) x=true then some (refW x at_) else none:=by
 have hb:=refW_b h at_;by_cases he:instEq (decI (refW x at_) at_) x=true
 · rw [xS he, ← kQ.1 he]
   have:=encI_decI (at_:=at_) hb.1 hb.2;rw[this,kQ.1 he]
 · rw [xP he]
   cases hc:Inl.encI x at_ with
   | none=>rfl
   | some w =>
     have hw:=refW_enc h hc;rw[hw]at he;exact absurd (kQ.2 (zv hc).1) he
theorem signed24_c (n:Int)(w0:World)(I0:Imm)(hI:Sat I0 w0)(h0:0≤n)(h1:n < 16777216):Ctr prog 124 [.ig n,.ig 24] w0 (fun v w'=>v = .ig (sgnP n 16777216)∧Ext w0 I0 w' I0):=by
 refine fn (n:=15) func124 rfl rfl rfl ?_;have Z:=St.start hI;refine QwR (qq Z (Qai rfl) (QoN (xJ (QwR (qq Z (Qmi rfl) (qq Z (Qmi rfl) (qq Z (g_sub rfl rfl (by omega) (by omega)) ?_)))))));refine qq Z (qT (s:=23) (c:=8388608) rfl rfl rfl rfl (by rw[IntKind.wrap_i64]; rfl)) ?_;refine qq Z (g_geq rfl rfl) (QoN (qh rfl ?_ ?_))
 ·
  intro hc9
  try simp only[zA,zO,zN,zI,zF,zM,zT,zU]at hc9
  have e:sgnP n 16777216=n - 16777216:=xS (by omega);refine QwR (qq Z (Qmi rfl) (qq Z (Qmi rfl) ?_));refine qq Z (qT (s:=24) (c:=16777216) rfl rfl rfl rfl (by rw[IntKind.wrap_i64]; rfl)) ?_;refine qq Z (g_sub rfl rfl (by omega) (by omega)) (qq Z (Qai rfl) (QoN (xO (ul (ret1 results124 (qg (v:=.ig _) rfl) ?_)))));exact⟨by rw[e],Z.nil⟩
 ·
  intro hc9
  try simp only[zA,zO,zN,zI,zF,zM,zT,zU]at hc9
  have e:sgnP n 16777216=n:=xP (by omega);refine xM (xL (QwR (qq Z (Qmi rfl) (qq Z (Qai rfl) (QoN (xO (ret1 results124 (qg (v:=.ig _) rfl) ?_)))))));exact⟨by rw[e],Z.nil⟩
theorem signed16_c (n:Int)(w0:World)(I0:Imm)(hI:Sat I0 w0)(h0:0≤n)(h1:n < 65536):Ctr prog 124 [.ig n,.ig 16] w0 (fun v w'=>v = .ig (sgnP n 65536)∧Ext w0 I0 w' I0):=by
 refine fn (n:=15) func124 rfl rfl rfl ?_;have Z:=St.start hI;refine QwR (qq Z (Qai rfl) (QoN (xJ (QwR (qq Z (Qmi rfl) (qq Z (Qmi rfl) (qq Z (g_sub rfl rfl (by omega) (by omega)) ?_)))))));refine qq Z (qT (s:=15) (c:=32768) rfl rfl rfl rfl (by rw[IntKind.wrap_i64]; rfl)) ?_;refine qq Z (g_geq rfl rfl) (QoN (qh rfl ?_ ?_))
 ·
  intro hc9
  try simp only[zA,zO,zN,zI,zF,zM,zT,zU]at hc9
  have e:sgnP n 65536=n - 65536:=xS (by omega);refine QwR (qq Z (Qmi rfl) (qq Z (Qmi rfl) ?_));refine qq Z (qT (s:=16) (c:=65536) rfl rfl rfl rfl (by rw[IntKind.wrap_i64]; rfl)) ?_;refine qq Z (g_sub rfl rfl (by omega) (by omega)) (qq Z (Qai rfl) (QoN (xO (ul (ret1 results124 (qg (v:=.ig _) rfl) ?_)))));exact⟨by rw[e],Z.nil⟩
 ·
  intro hc9
  try simp only[zA,zO,zN,zI,zF,zM,zT,zU]at hc9
  have e:sgnP n 65536=n:=xP (by omega);refine xM (xL (QwR (qq Z (Qmi rfl) (qq Z (Qai rfl) (QoN (xO (ret1 results124 (qg (v:=.ig _) rfl) ?_)))))));exact⟨by rw[e],Z.nil⟩
set_option maxHeartbeats 1000000 in
theorem decR_c (wd at_ : Int) (w0 : World) (I0 : Imm) (hI : Sat I0 w0) (hw0 : 0 ≤ wd) (hw1 : wd < 4294967296) (ha0 : -1099511627776 ≤ at_) (ha1 : at_ ≤ 1099511627776) :
 Ctr prog 85 [.wg wd,.ig at_] w0 (fun v w'=>v=instV (decI wd at_)∧Ext w0 I0 w' I0):=by
 have ho:=oct_b wd 0;have ho1:=oct_b wd 1;have ho2:=oct_b wd 2;have ho3:=oct_b wd 3;have e0:=oct0 wd hw0 hw1;have hlw:256*octP wd 2+octP wd 3=wd % 65536:=by rw[oct2,oct3]; omega
 have hlw2:65536*octP wd 1+wd % 65536=wd % 16777216:=by rw[oct1]; omega
 have hsb:-8388608≤sgnP (wd % 16777216) 16777216∧sgnP (wd % 16777216) 16777216≤16777215:=by unfold sgnP; split <;> omega
 have hsb2:-65536≤sgnP (wd % 65536) 65536∧sgnP (wd % 65536) 65536≤65535:=by unfold sgnP; split <;> omega
 refine fn (n:=95) func85 rfl rfl rfl ?_;have Z:=St.start hI;refine QwR (qe (qr (cs:=[.ig _,.ig _,.ig _,.ig _,.ig _]) Z Qr rfl) ?_);clear Z;rintro _ w_1⟨b4,rfl,Z⟩;refine QoR (qq Z (Qmw rfl) ?_);refine qq Z (jM (s:=24) (c:=octP wd 0) rfl rfl rfl rfl (by rw[e0]; rfl)) ?_;refine qq Z (qK uv ut rfl (by omega) (by omega)) (qq Z (Qmw rfl) (qq Z (jM (s:=16) (c:=wd / 65536) rfl rfl rfl rfl rfl) ?_));refine qq Z (jh (m:=8) (c:=octP wd 1) rfl rfl rfl rfl (by rw[IntKind.wrap_u32]; show octP wd 1 % 4294967296=_; omega)) ?_;refine qq Z (qK uv ut rfl (by omega) (by omega)) (qq Z (Qmw rfl) (qq Z (jM (s:=8) (c:=wd / 256) rfl rfl rfl rfl rfl) ?_));refine qq Z (jh (m:=8) (c:=octP wd 2) rfl rfl rfl rfl (by rw[IntKind.wrap_u32]; show octP wd 2 % 4294967296=_; omega)) ?_;refine qq Z (qK uv ut rfl (by omega) (by omega)) (qq Z (Qmw rfl) ?_);refine qq Z (jh (m:=8) (c:=octP wd 3) rfl rfl rfl rfl (by rw[oct3,IntKind.wrap_u32]; omega)) ?_;refine qq Z (qK uv ut rfl (by omega) (by omega)) (qq Z (Qai rfl) (qq Z (Qai rfl) (qq Z (Qai rfl) (qq Z (Qai rfl) (QoR (qq Z (Qmi rfl) (qq Z (g_mul rfl rfl (by omega) (by omega)) (qq Z (Qmi rfl) (qq Z (g_toV (g_add rfl rfl (by omega) (by omega)) (congrArg (Value.int .i64) hlw)) (qq Z (Qai rfl) (QoR (qq Z (Qmw rfl) ?_))))))))))));refine qq Z (qK uv ut rfl (by omega) (by omega)) (qq Z (qs (pl:=[(0,1),(1,1),(2,1),(3,1),(4,1)]) (cs:=[.ig _,.ig _,.ig _,.ig _,.ig _]) Qr ue (fun w=>by simp[xK]) (mp (v:=.ig _) rfl (mp (v:=.ig _) rfl mp0)) rfl) (qe (qr (cs:=[.ig _,.ig _,.ig _,.ig _,.ig _]) Z Qr rfl) ?_))
 clear Z;rintro _ w_2⟨b10,rfl,Z⟩;refine qe (qf 0 Z uD rfl rfl rfl (vs:=[.ig _,.ig _,.ig _,.ig _,.ig _]) rfl rfl rfl (xH rfl) (cs':=[_,_,_,_,_]) rfl) ?_;clear Z;rintro _ w_3⟨rfl,Z⟩;refine QoN (xJ (QwR (qq Z (Qmi rfl) (QoN (xU (meet (fun σ w=>okS σ [(0,.wg wd),(1,.ig at_),(4,.zg b4),(5,.ig (octP wd 0)),(6,.ig (octP wd 1)),(7,.ig (octP wd 2)),(8,.ig (octP wd 3)),(9,.ig (wd % 65536)),(10,.zg b10),(33,.ig (octP wd 0)),(34,.bool (decide (octP wd 0=1∨octP wd 0=3∨octP wd 0=4)))]∧St [] w0 I0 I0 w [.cel b10 92 [.ig 0,.ig 0,.ig 0,.ig 0,.ig wd],.cel b4 92 [.ig 0,.ig 0,.ig 0,.ig 0,.ig 0]]) ?_ ?_))))))
 ·
  refine QwR (qq Z (g_eql rfl rfl) (qq Z (Qab rfl) (QoN (qh rfl ?_ ?_))))
  ·
   intro hc34
   try simp only[zA,zO,zN,zI,zF,zM,zT,zU]at hc34
   refine xM (xL ?_);exact⟨_,rfl,⟨rfl,rfl,rfl,rfl,rfl,rfl,rfl,rfl,rfl,rfl,congrArg Value.bool (decide_eq_decide.2 (by omega)),trivial⟩,Z.sel [true,true]⟩
  ·
   intro hc34
   try simp only[zA,zO,zN,zI,zF,zM,zT,zU]at hc34
   refine QwR (qq Z (g_eql rfl rfl) (qq Z (Qab rfl) (QoN (qh rfl ?_ ?_))))
   ·
    intro hc34_2
    try simp only[zA,zO,zN,zI,zF,zM,zT,zU]at hc34_2
    refine xM (xL ?_);exact⟨_,rfl,⟨rfl,rfl,rfl,rfl,rfl,rfl,rfl,rfl,rfl,rfl,congrArg Value.bool (decide_eq_decide.2 (by omega)),trivial⟩,Z.sel [true,true]⟩
   ·
    intro hc34_2
    try simp only[zA,zO,zN,zI,zF,zM,zT,zU]at hc34_2
    refine reg (qq Z (g_eql rfl rfl) (qq Z (Qab rfl) (QoN ?_)));exact⟨_,rfl,⟨rfl,rfl,rfl,rfl,rfl,rfl,rfl,rfl,rfl,rfl,congrArg Value.bool (decide_eq_decide.2 (by omega)),trivial⟩,Z.sel [true,true]⟩
 ·
  rintro σ w_j⟨hs,Z⟩;rw[← qj hs];refine qh rfl ?_ ?_
  ·
   intro hc34_3
   try simp only[zA,zO,zN,zI,zF,zM,zT,zU]at hc34_3
   refine xJ (QwR (qq Z (Qmi rfl) (qq Z (g_gtr rfl rfl) (qq Z (Qmb rfl) (qu rfl rfl Z (fun hg=>(Qmi rfl)) ?_)))));intro u41 hu41 hn41;refine qu rfl rfl Z (fun hg=>(g_gtr (hu41 hg) rfl)) ?_;intro u42 hu42 hn42;refine qq Z (g_or rfl rfl (fun hq=>hu42 hq)) (qq Z (Qmb rfl) (qu rfl rfl Z (fun hg=>(Qmi rfl)) ?_));intro u45 hu45 hn45;refine qu rfl rfl Z (fun hg=>(g_gtr (hu45 hg) rfl)) ?_;intro u46 hu46 hn46;refine qq Z (g_or rfl rfl (fun hq=>hu46 hq)) (QoN (qh rfl ?_ ?_))
   ·
    intro hc47;clear hu41 hn41 hu42 hn42 hu45 hn45 hu46 hn46
    try simp only[zA,zO,zN,zI,zF,zM,zT,zU]at hc47
    refine QwR (qq Z (g_ldO 0 (vs:=[.ig _,.ig _,.ig _,.ig _,.ig _]) uD Ql rfl rfl rfl rfl) (qe (qf 1 Z uD rfl rfl rfl (vs:=[.ig _,.ig _,.ig _,.ig _,.ig _]) rfl rfl rfl (xH rfl)  rfl) ?_));clear Z;rintro _ w_4⟨rfl,Z⟩;refine QoN (xO (ul (Qq (ul (ret1 Ju (qw 1 Z uD Ql rfl rfl rfl) ?_)))))
    first
     | exact⟨by rw[jt (w:=wd) (at_:=at_) (by omega)]; rfl,Z.nil⟩
     | exact⟨by rw[zW (w:=wd) (at_:=at_) (by omega) (by omega)]; rfl,Z.nil⟩
     | exact⟨by rw[dec_3 (w:=wd) (at_:=at_) (by omega) (by omega)]; rfl,Z.nil⟩
     | exact⟨by rw[dec_j (w:=wd) (at_:=at_) (by omega)]; rfl,Z.nil⟩
     | exact⟨by rw[zX (w:=wd) (at_:=at_) (by omega) (by omega)]; rfl,Z.nil⟩
     | exact⟨by rw[dec_2 (w:=wd) (at_:=at_) (by omega) (by omega)]; rfl,Z.nil⟩
     | exact⟨by rw[dec_7 (w:=wd) (at_:=at_) (by omega) (by omega)]; rfl,Z.nil⟩
     | exact⟨by rw[dec_8 (w:=wd) (at_:=at_) (by omega) (by omega)]; rfl,Z.nil⟩
     | (exfalso; omega)
   ·
    intro hc47;clear hu41 hn41 hu42 hn42 hu45 hn45 hu46 hn46
    try simp only[zA,zO,zN,zI,zF,zM,zT,zU]at hc47
    refine xM (xL (QwR (qq Z (Qmi rfl) (qq Z (Qmi rfl) (qq Z (Qmi rfl) (qq Z (Qmi rfl) (qq Z (qs (pl:=[(0,1),(1,1),(2,1),(3,1),(4,1)]) (cs:=[.ig _,.ig _,.ig _,.ig _,.ig _]) Qr ue (fun w=>by simp[xK]) (mp (v:=.ig _) rfl (mp (v:=.ig _) rfl (mp (v:=.ig _) rfl (mp (v:=.ig _) rfl mp0)))) rfl) ?_)))))));refine qe (qf 1 Z uD rfl rfl rfl (vs:=[.ig _,.ig _,.ig _,.ig _,.ig _]) rfl rfl rfl (xH rfl)  rfl) ?_;clear Z;rintro _ w_5⟨rfl,Z⟩;refine QoN (xO (Qq (ul (ret1 Ju (qw 1 Z uD Ql rfl rfl rfl) ?_))))
    first
     | exact⟨by rw[jt (w:=wd) (at_:=at_) (by omega)]; rfl,Z.nil⟩
     | exact⟨by rw[zW (w:=wd) (at_:=at_) (by omega) (by omega)]; rfl,Z.nil⟩
     | exact⟨by rw[dec_3 (w:=wd) (at_:=at_) (by omega) (by omega)]; rfl,Z.nil⟩
     | exact⟨by rw[dec_j (w:=wd) (at_:=at_) (by omega)]; rfl,Z.nil⟩
     | exact⟨by rw[zX (w:=wd) (at_:=at_) (by omega) (by omega)]; rfl,Z.nil⟩
     | exact⟨by rw[dec_2 (w:=wd) (at_:=at_) (by omega) (by omega)]; rfl,Z.nil⟩
     | exact⟨by rw[dec_7 (w:=wd) (at_:=at_) (by omega) (by omega)]; rfl,Z.nil⟩
     | exact⟨by rw[dec_8 (w:=wd) (at_:=at_) (by omega) (by omega)]; rfl,Z.nil⟩
     | (exfalso; omega)
  ·
   intro hc34_3
   try simp only[zA,zO,zN,zI,zF,zM,zT,zU]at hc34_3
   refine meet (fun σ w=>okS σ [(0,.wg wd),(1,.ig at_),(4,.zg b4),(5,.ig (octP wd 0)),(6,.ig (octP wd 1)),(7,.ig (octP wd 2)),(8,.ig (octP wd 3)),(9,.ig (wd % 65536)),(10,.zg b10),(33,.ig (octP wd 0)),(54,.bool (decide (octP wd 0=5∨octP wd 0=6)))]∧St [] w0 I0 I0 w [.cel b10 92 [.ig 0,.ig 0,.ig 0,.ig 0,.ig wd],.cel b4 92 [.ig 0,.ig 0,.ig 0,.ig 0,.ig 0]]) ?_ ?_
   ·
    refine QwR (qq Z (g_eql rfl rfl) (qq Z (Qab rfl) (QoN (qh rfl ?_ ?_))))
    ·
     intro hc54
     try simp only[zA,zO,zN,zI,zF,zM,zT,zU]at hc54
     refine xM (xL ?_);exact⟨_,rfl,⟨rfl,rfl,rfl,rfl,rfl,rfl,rfl,rfl,rfl,rfl,congrArg Value.bool (decide_eq_decide.2 (by omega)),trivial⟩,Z.sel [true,true]⟩
    ·
     intro hc54
     try simp only[zA,zO,zN,zI,zF,zM,zT,zU]at hc54
     refine reg (qq Z (g_eql rfl rfl) (qq Z (Qab rfl) (QoN ?_)));exact⟨_,rfl,⟨rfl,rfl,rfl,rfl,rfl,rfl,rfl,rfl,rfl,rfl,congrArg Value.bool (decide_eq_decide.2 (by omega)),trivial⟩,Z.sel [true,true]⟩
   ·
    rintro σ w_j⟨hs,Z⟩;rw[← qj hs];refine qh rfl ?_ ?_
    ·
     intro hc54_2
     try simp only[zA,zO,zN,zI,zF,zM,zT,zU]at hc54_2
     refine QwR (qq Z (Qmi rfl) (qq Z (Qmi rfl) (qq Z (Qmi rfl) (qq Z (g_mul rfl rfl (by omega) (by omega)) (qq Z (Qmi rfl) (qq Z (g_toV (g_add rfl rfl (by omega) (by omega)) (congrArg (Value.int .i64) hlw2)) (qe (qi call124 rfl (signed24_c (wd % 16777216) _ I0 Z.imm (by omega) (by omega))) ?_)))))));rintro _ w_6⟨rfl,hE⟩;replace Z:=Z.callE hE;refine qq Z (g_mul rfl rfl (by omega) (by omega)) (qq Z (g_add rfl rfl (by omega) (by omega)) (qq Z (qs (pl:=[(0,1),(1,1),(2,1),(3,1),(4,1)]) (cs:=[.ig _,.ig _,.ig _,.ig _,.ig _]) Qr ue (fun w=>by simp[xK]) (mp (v:=.ig _) rfl (mp (v:=.ig _) rfl mp0)) rfl) (qe (qf 1 Z uD rfl rfl rfl (vs:=[.ig _,.ig _,.ig _,.ig _,.ig _]) rfl rfl rfl (xH rfl)  rfl) ?_)));clear Z;rintro _ w_7⟨rfl,Z⟩;refine QoN (xO (Qq (ul (ret1 Ju (qw 1 Z uD Ql rfl rfl rfl) ?_))))
     first
      | exact⟨by rw[jt (w:=wd) (at_:=at_) (by omega)]; rfl,Z.nil⟩
      | exact⟨by rw[zW (w:=wd) (at_:=at_) (by omega) (by omega)]; rfl,Z.nil⟩
      | exact⟨by rw[dec_3 (w:=wd) (at_:=at_) (by omega) (by omega)]; rfl,Z.nil⟩
      | exact⟨by rw[dec_j (w:=wd) (at_:=at_) (by omega)]; rfl,Z.nil⟩
      | exact⟨by rw[zX (w:=wd) (at_:=at_) (by omega) (by omega)]; rfl,Z.nil⟩
      | exact⟨by rw[dec_2 (w:=wd) (at_:=at_) (by omega) (by omega)]; rfl,Z.nil⟩
      | exact⟨by rw[dec_7 (w:=wd) (at_:=at_) (by omega) (by omega)]; rfl,Z.nil⟩
      | exact⟨by rw[dec_8 (w:=wd) (at_:=at_) (by omega) (by omega)]; rfl,Z.nil⟩
      | (exfalso; omega)
    ·
     intro hc54_2
     try simp only[zA,zO,zN,zI,zF,zM,zT,zU]at hc54_2
     refine meet (fun σ w=>okS σ [(0,.wg wd),(1,.ig at_),(4,.zg b4),(5,.ig (octP wd 0)),(6,.ig (octP wd 1)),(7,.ig (octP wd 2)),(8,.ig (octP wd 3)),(9,.ig (wd % 65536)),(10,.zg b10),(33,.ig (octP wd 0)),(67,.bool (decide (octP wd 0=2∨octP wd 0=7∨octP wd 0=8)))]∧St [] w0 I0 I0 w [.cel b10 92 [.ig 0,.ig 0,.ig 0,.ig 0,.ig wd],.cel b4 92 [.ig 0,.ig 0,.ig 0,.ig 0,.ig 0]]) ?_ ?_
     ·
      refine QwR (qq Z (g_eql rfl rfl) (qq Z (Qab rfl) (QoN (qh rfl ?_ ?_))))
      ·
       intro hc67
       try simp only[zA,zO,zN,zI,zF,zM,zT,zU]at hc67
       refine xM (xL ?_);exact⟨_,rfl,⟨rfl,rfl,rfl,rfl,rfl,rfl,rfl,rfl,rfl,rfl,congrArg Value.bool (decide_eq_decide.2 (by omega)),trivial⟩,Z.sel [true,true]⟩
      ·
       intro hc67
       try simp only[zA,zO,zN,zI,zF,zM,zT,zU]at hc67
       refine QwR (qq Z (g_eql rfl rfl) (qq Z (Qab rfl) (QoN (qh rfl ?_ ?_))))
       ·
        intro hc67_2
        try simp only[zA,zO,zN,zI,zF,zM,zT,zU]at hc67_2
        refine xM (xL ?_);exact⟨_,rfl,⟨rfl,rfl,rfl,rfl,rfl,rfl,rfl,rfl,rfl,rfl,congrArg Value.bool (decide_eq_decide.2 (by omega)),trivial⟩,Z.sel [true,true]⟩
       ·
        intro hc67_2
        try simp only[zA,zO,zN,zI,zF,zM,zT,zU]at hc67_2
        refine reg (qq Z (g_eql rfl rfl) (qq Z (Qab rfl) (QoN ?_)));exact⟨_,rfl,⟨rfl,rfl,rfl,rfl,rfl,rfl,rfl,rfl,rfl,rfl,congrArg Value.bool (decide_eq_decide.2 (by omega)),trivial⟩,Z.sel [true,true]⟩
     ·
      rintro σ w_j⟨hs,Z⟩;rw[← qj hs];refine qh rfl ?_ ?_
      ·
       intro hc67_3
       try simp only[zA,zO,zN,zI,zF,zM,zT,zU]at hc67_3
       refine xJ (QwR (qq Z (Qmi rfl) (qq Z (g_gtr rfl rfl) (QoN (qh rfl ?_ ?_)))))
       ·
        intro hc72
        try simp only[zA,zO,zN,zI,zF,zM,zT,zU]at hc72
        refine QwR (qq Z (g_ldO 0 (vs:=[.ig _,.ig _,.ig _,.ig _,.ig _]) uD Ql rfl rfl rfl rfl) (qe (qf 1 Z uD rfl rfl rfl (vs:=[.ig _,.ig _,.ig _,.ig _,.ig _]) rfl rfl rfl (xH rfl)  rfl) ?_));clear Z;rintro _ w_8⟨rfl,Z⟩;refine QoN (xO (ul (Qq (ul (ret1 Ju (qw 1 Z uD Ql rfl rfl rfl) ?_)))))
        first
         | exact⟨by rw[jt (w:=wd) (at_:=at_) (by omega)]; rfl,Z.nil⟩
         | exact⟨by rw[zW (w:=wd) (at_:=at_) (by omega) (by omega)]; rfl,Z.nil⟩
         | exact⟨by rw[dec_3 (w:=wd) (at_:=at_) (by omega) (by omega)]; rfl,Z.nil⟩
         | exact⟨by rw[dec_j (w:=wd) (at_:=at_) (by omega)]; rfl,Z.nil⟩
         | exact⟨by rw[zX (w:=wd) (at_:=at_) (by omega) (by omega)]; rfl,Z.nil⟩
         | exact⟨by rw[dec_2 (w:=wd) (at_:=at_) (by omega) (by omega)]; rfl,Z.nil⟩
         | exact⟨by rw[dec_7 (w:=wd) (at_:=at_) (by omega) (by omega)]; rfl,Z.nil⟩
         | exact⟨by rw[dec_8 (w:=wd) (at_:=at_) (by omega) (by omega)]; rfl,Z.nil⟩
         | (exfalso; omega)
       ·
        intro hc72
        try simp only[zA,zO,zN,zI,zF,zM,zT,zU]at hc72
        refine xM (xL (QwR (qq Z (Qmi rfl) (qq Z (Qmi rfl) (qq Z (Qmi rfl) (qq Z (qs (pl:=[(0,1),(1,1),(2,1),(3,1),(4,1)]) (cs:=[.ig _,.ig _,.ig _,.ig _,.ig _]) Qr ue (fun w=>by simp[xK]) (mp (v:=.ig _) rfl (mp (v:=.ig _) rfl (mp (v:=.ig _) rfl mp0))) rfl) (qe (qr (cs:=[.ig _,.ig _,.ig _,.ig _,.ig _]) Z Qr rfl) ?_)))))));clear Z;rintro _ w_9⟨b11,rfl,Z⟩;refine qe (qf 0 Z uD rfl rfl rfl (vs:=[.ig _,.ig _,.ig _,.ig _,.ig _]) rfl rfl rfl (xH rfl) (cs':=[_,_,_,_,_]) rfl) ?_;clear Z;rintro _ w_10⟨rfl,Z⟩;refine QoN (xJ (QwR (qq Z (Qmi rfl) (qq Z (g_eql rfl rfl) (QoN (qh rfl ?_ ?_))))))
        ·
         intro hc79
         try simp only[zA,zO,zN,zI,zF,zM,zT,zU]at hc79
         refine reg (qq Z (Qmi rfl) (qq Z (Qmi rfl) (qe (qi call124 rfl (signed16_c (wd % 65536) _ I0 Z.imm (by omega) (by omega))) ?_)));rintro _ w_11⟨rfl,hE⟩;replace Z:=Z.callE hE;refine qq Z (g_mul rfl rfl (by omega) (by omega)) (qq Z (g_add rfl rfl (by omega) (by omega)) (qq Z (qa (o':=4) ue rfl xK rfl rfl rfl) (qe (qf 0 Z xK rfl rfl rfl (vs:=[.ig _]) rfl rfl rfl (xH rfl) (cs':=[_,_,_,_,_]) rfl) ?_)));clear Z;rintro _ w_12⟨rfl,Z⟩;refine QoN (xJ (QwR (qq Z (Qmi rfl) (qq Z (g_eql rfl rfl) (QoN (qh rfl ?_ ?_))))))
         ·
          intro hc87
          try simp only[zA,zO,zN,zI,zF,zM,zT,zU]at hc87
          refine reg (qq Z (Qmi rfl) (qq Z (Qmi rfl) (qq Z (g_mul rfl rfl (by omega) (by omega)) (qq Z (g_add rfl rfl (by omega) (by omega)) (qq Z (qa (o':=4) ue rfl xK rfl rfl rfl) (qe (qf 0 Z xK rfl rfl rfl (vs:=[.ig _]) rfl rfl rfl (xH rfl) (cs':=[_,_,_,_,_]) rfl) ?_))))));clear Z;rintro _ w_13⟨rfl,Z⟩;refine QoR (qq Z (g_ldO 0 (vs:=[.ig _,.ig _,.ig _,.ig _,.ig _]) uD Ql rfl rfl rfl rfl) (qe (qf 2 Z uD rfl rfl rfl (vs:=[.ig _,.ig _,.ig _,.ig _,.ig _]) rfl rfl rfl (xH rfl)  rfl) ?_));clear Z;rintro _ w_14⟨rfl,Z⟩;refine QoN (xO (Qq (ul (ret1 Ju (qw 2 Z uD Ql rfl rfl rfl) ?_))))
          first
           | exact⟨by rw[jt (w:=wd) (at_:=at_) (by omega)]; rfl,Z.nil⟩
           | exact⟨by rw[zW (w:=wd) (at_:=at_) (by omega) (by omega)]; rfl,Z.nil⟩
           | exact⟨by rw[dec_3 (w:=wd) (at_:=at_) (by omega) (by omega)]; rfl,Z.nil⟩
           | exact⟨by rw[dec_j (w:=wd) (at_:=at_) (by omega)]; rfl,Z.nil⟩
           | exact⟨by rw[zX (w:=wd) (at_:=at_) (by omega) (by omega)]; rfl,Z.nil⟩
           | exact⟨by rw[dec_2 (w:=wd) (at_:=at_) (by omega) (by omega)]; rfl,Z.nil⟩
           | exact⟨by rw[dec_7 (w:=wd) (at_:=at_) (by omega) (by omega)]; rfl,Z.nil⟩
           | exact⟨by rw[dec_8 (w:=wd) (at_:=at_) (by omega) (by omega)]; rfl,Z.nil⟩
           | (exfalso; omega)
         ·
          intro hc87
          try simp only[zA,zO,zN,zI,zF,zM,zT,zU]at hc87
          refine xM (xL (QwR (qq Z (g_ldO 0 (vs:=[.ig _,.ig _,.ig _,.ig _,.ig _]) uD Ql rfl rfl rfl rfl) (qe (qf 2 Z uD rfl rfl rfl (vs:=[.ig _,.ig _,.ig _,.ig _,.ig _]) rfl rfl rfl (xH rfl)  rfl) ?_))));clear Z;rintro _ w_15⟨rfl,Z⟩;refine QoN (xO (Qq (ul (ret1 Ju (qw 2 Z uD Ql rfl rfl rfl) ?_))))
          first
           | exact⟨by rw[jt (w:=wd) (at_:=at_) (by omega)]; rfl,Z.nil⟩
           | exact⟨by rw[zW (w:=wd) (at_:=at_) (by omega) (by omega)]; rfl,Z.nil⟩
           | exact⟨by rw[dec_3 (w:=wd) (at_:=at_) (by omega) (by omega)]; rfl,Z.nil⟩
           | exact⟨by rw[dec_j (w:=wd) (at_:=at_) (by omega)]; rfl,Z.nil⟩
           | exact⟨by rw[zX (w:=wd) (at_:=at_) (by omega) (by omega)]; rfl,Z.nil⟩
           | exact⟨by rw[dec_2 (w:=wd) (at_:=at_) (by omega) (by omega)]; rfl,Z.nil⟩
           | exact⟨by rw[dec_7 (w:=wd) (at_:=at_) (by omega) (by omega)]; rfl,Z.nil⟩
           | exact⟨by rw[dec_8 (w:=wd) (at_:=at_) (by omega) (by omega)]; rfl,Z.nil⟩
           | (exfalso; omega)
        ·
         intro hc79
         try simp only[zA,zO,zN,zI,zF,zM,zT,zU]at hc79
         refine xM (xL (xJ (QwR (qq Z (Qmi rfl) (qq Z (g_eql rfl rfl) (QoN (qh rfl ?_ ?_)))))))
         ·
          intro hc87
          try simp only[zA,zO,zN,zI,zF,zM,zT,zU]at hc87
          refine reg (qq Z (Qmi rfl) (qq Z (Qmi rfl) (qq Z (g_mul rfl rfl (by omega) (by omega)) (qq Z (g_add rfl rfl (by omega) (by omega)) (qq Z (qa (o':=4) ue rfl xK rfl rfl rfl) (qe (qf 0 Z xK rfl rfl rfl (vs:=[.ig _]) rfl rfl rfl (xH rfl) (cs':=[_,_,_,_,_]) rfl) ?_))))));clear Z;rintro _ w_16⟨rfl,Z⟩;refine QoR (qq Z (g_ldO 0 (vs:=[.ig _,.ig _,.ig _,.ig _,.ig _]) uD Ql rfl rfl rfl rfl) (qe (qf 2 Z uD rfl rfl rfl (vs:=[.ig _,.ig _,.ig _,.ig _,.ig _]) rfl rfl rfl (xH rfl)  rfl) ?_));clear Z;rintro _ w_17⟨rfl,Z⟩;refine QoN (xO (Qq (ul (ret1 Ju (qw 2 Z uD Ql rfl rfl rfl) ?_))))
          first
           | exact⟨by rw[jt (w:=wd) (at_:=at_) (by omega)]; rfl,Z.nil⟩
           | exact⟨by rw[zW (w:=wd) (at_:=at_) (by omega) (by omega)]; rfl,Z.nil⟩
           | exact⟨by rw[dec_3 (w:=wd) (at_:=at_) (by omega) (by omega)]; rfl,Z.nil⟩
           | exact⟨by rw[dec_j (w:=wd) (at_:=at_) (by omega)]; rfl,Z.nil⟩
           | exact⟨by rw[zX (w:=wd) (at_:=at_) (by omega) (by omega)]; rfl,Z.nil⟩
           | exact⟨by rw[dec_2 (w:=wd) (at_:=at_) (by omega) (by omega)]; rfl,Z.nil⟩
           | exact⟨by rw[dec_7 (w:=wd) (at_:=at_) (by omega) (by omega)]; rfl,Z.nil⟩
           | exact⟨by rw[dec_8 (w:=wd) (at_:=at_) (by omega) (by omega)]; rfl,Z.nil⟩
           | (exfalso; omega)
         ·
          intro hc87
          try simp only[zA,zO,zN,zI,zF,zM,zT,zU]at hc87
          refine xM (xL (QwR (qq Z (g_ldO 0 (vs:=[.ig _,.ig _,.ig _,.ig _,.ig _]) uD Ql rfl rfl rfl rfl) (qe (qf 2 Z uD rfl rfl rfl (vs:=[.ig _,.ig _,.ig _,.ig _,.ig _]) rfl rfl rfl (xH rfl)  rfl) ?_))));clear Z;rintro _ w_18⟨rfl,Z⟩;refine QoN (xO (Qq (ul (ret1 Ju (qw 2 Z uD Ql rfl rfl rfl) ?_))))
          first
           | exact⟨by rw[jt (w:=wd) (at_:=at_) (by omega)]; rfl,Z.nil⟩
           | exact⟨by rw[zW (w:=wd) (at_:=at_) (by omega) (by omega)]; rfl,Z.nil⟩
           | exact⟨by rw[dec_3 (w:=wd) (at_:=at_) (by omega) (by omega)]; rfl,Z.nil⟩
           | exact⟨by rw[dec_j (w:=wd) (at_:=at_) (by omega)]; rfl,Z.nil⟩
           | exact⟨by rw[zX (w:=wd) (at_:=at_) (by omega) (by omega)]; rfl,Z.nil⟩
           | exact⟨by rw[dec_2 (w:=wd) (at_:=at_) (by omega) (by omega)]; rfl,Z.nil⟩
           | exact⟨by rw[dec_7 (w:=wd) (at_:=at_) (by omega) (by omega)]; rfl,Z.nil⟩
           | exact⟨by rw[dec_8 (w:=wd) (at_:=at_) (by omega) (by omega)]; rfl,Z.nil⟩
           | (exfalso; omega)
      ·
       intro hc67_3
       try simp only[zA,zO,zN,zI,zF,zM,zT,zU]at hc67_3
       refine xM (uM (xL (QwR (qq Z (g_ldO 0 (vs:=[.ig _,.ig _,.ig _,.ig _,.ig _]) uD Ql rfl rfl rfl rfl) (qe (qf 1 Z uD rfl rfl rfl (vs:=[.ig _,.ig _,.ig _,.ig _,.ig _]) rfl rfl rfl (xH rfl)  rfl) ?_)))));clear Z;rintro _ w_19⟨rfl,Z⟩;refine QoN (xO (ret1 Ju (qw 1 Z uD Ql rfl rfl rfl) ?_))
       first
        | exact⟨by rw[jt (w:=wd) (at_:=at_) (by omega)]; rfl,Z.nil⟩
        | exact⟨by rw[zW (w:=wd) (at_:=at_) (by omega) (by omega)]; rfl,Z.nil⟩
        | exact⟨by rw[dec_3 (w:=wd) (at_:=at_) (by omega) (by omega)]; rfl,Z.nil⟩
        | exact⟨by rw[dec_j (w:=wd) (at_:=at_) (by omega)]; rfl,Z.nil⟩
        | exact⟨by rw[zX (w:=wd) (at_:=at_) (by omega) (by omega)]; rfl,Z.nil⟩
        | exact⟨by rw[dec_2 (w:=wd) (at_:=at_) (by omega) (by omega)]; rfl,Z.nil⟩
        | exact⟨by rw[dec_7 (w:=wd) (at_:=at_) (by omega) (by omega)]; rfl,Z.nil⟩
        | exact⟨by rw[dec_8 (w:=wd) (at_:=at_) (by omega) (by omega)]; rfl,Z.nil⟩
        | (exfalso; omega)
theorem vE (op n : Int) (w0 : World) (I0 : Imm) (hI : Sat I0 w0) (h0 : 0 ≤ op) (h1 : op ≤ 255) :
 Ctr prog 123 [.ig op,.ig n] w0 (fun v w'=>v = .wg (op*16777216+n % 16777216)∧Ext w0 I0 w' I0):=by
 refine fn (n:=12) func123 rfl rfl rfl ?_;have Z:=St.start hI;refine QwR (qq Z (Qaw rfl) (QoR (qq Z (Qmi rfl) ?_)));refine qq Z (qH (c:=op) ut uv rfl (by rw[IntKind.wrap_u32]; omega)) ?_;refine qq Z (qT (s:=24) (c:=op*16777216) rfl rfl rfl rfl (by rw[IntKind.wrap_u32]; omega)) ?_;refine qq Z (Qmi rfl) ?_;refine qq Z (jh (m:=24) (c:=n % 16777216) rfl rfl rfl rfl (by rw[IntKind.wrap_i64]; omega)) ?_;refine qq Z (qH (c:=n % 16777216) ut uv rfl (by rw[IntKind.wrap_u32]; omega)) ?_;refine qq Z (g_orD (m:=24) (c:=op*16777216+n % 16777216) rfl rfl (by omega) (Int.lt_of_lt_of_le (show op*16777216 < 4294967296 by omega) (Int.le_refl _)) (by omega) (by omega) (by omega) (Int.lt_of_lt_of_le (show n % 16777216 < 4294967296 by omega) (Int.le_refl _)) (by rw[IntKind.wrap_u32]; omega)) ?_;refine qq Z (Qaw rfl) (QoN (xO (ret1 results123 (qg (v:=.wg _) rfl) ?_)));exact⟨rfl,Z.nil⟩
set_option maxHeartbeats 1000000 in
theorem guess_c (x : InstL) (at_ : Int) (w0 : World) (I0 : Imm) (hI : Sat I0 w0) (hx : Lnkd x) (hx0 : -1099511627776 ≤ x.n) (hx1 : x.n ≤ 1099511627776) (ha0 : -1099511627776 ≤ at_) (ha1 : at_ ≤ 1099511627776) :
 Ctr prog 84 [instV x,.ig at_] w0 (fun v w'=>v = .wg (refW x at_)∧Ext w0 I0 w' I0):=by
 obtain⟨⟨h5,h8⟩,⟨hA0,hA1⟩,_⟩:=hx;have htd:=tdiv4_b (m:=x.n - at_) (by omega) (by omega);refine fn (n:=64) func84 rfl rfl rfl ?_;have Z:=St.start hI;refine QwR (qe (d_box (cs:=[.ig _,.ig _,.ig _,.ig _,.ig _]) Z rfl) ?_);clear Z;rintro _ w_1⟨b2,rfl,Z⟩;refine qq Z (Qaw rfl) (QoR (qq Z (qa (o':=4) ue rfl xK rfl rfl rfl) (qq Z (qc 0 xW rfl rfl rfl) (qq Z (Qmi rfl) (qq Z (g_sub rfl rfl (by omega) (by omega)) (qq Z (g_quoT (c:=(x.n - at_).tdiv 4) rfl rfl (by decide) (by omega) (by omega) rfl) (qq Z (Qai rfl) (QoN (xJ (QwR (qq Z (qa (o':=0) ue rfl xK rfl rfl rfl) ?_)))))))))));refine qq Z (qc 0 xW rfl rfl rfl) (QoN (xU (xJ (QwR (qq Z (g_eql rfl rfl) (qq Z (Qab rfl) (QoN (qh rfl ?_ ?_))))))))
 ·
  intro hc13
  try simp only[zA,zO,zN,zI,zF,zM,zT,zU]at hc13
  exfalso; omega
 ·
  intro hc13
  try simp only[zA,zO,zN,zI,zF,zM,zT,zU]at hc13
  refine QwR (qq Z (g_eql rfl rfl) (qq Z (Qab rfl) (QoN (qh rfl ?_ ?_))))
  ·
   intro hc13_2
   try simp only[zA,zO,zN,zI,zF,zM,zT,zU]at hc13_2
   exfalso; omega
  ·
   intro hc13_2
   try simp only[zA,zO,zN,zI,zF,zM,zT,zU]at hc13_2
   refine reg (qq Z (g_eql rfl rfl) (qq Z (Qab rfl) (QoN (qh rfl ?_ ?_))))
   ·
    intro hc13_3
    try simp only[zA,zO,zN,zI,zF,zM,zT,zU]at hc13_3
    exfalso; omega
   ·
    intro hc13_3
    try simp only[zA,zO,zN,zI,zF,zM,zT,zU]at hc13_3
    refine QwR (qq Z (g_eql rfl rfl) (qq Z (Qab rfl) (QoN (qh rfl ?_ ?_))))
    ·
     intro hc30
     try simp only[zA,zO,zN,zI,zF,zM,zT,zU]at hc30
     exfalso; omega
    ·
     intro hc30
     try simp only[zA,zO,zN,zI,zF,zM,zT,zU]at hc30
     refine xJ (QwR (qq Z (g_eql rfl rfl) (qq Z (Qab rfl) (QoN (qh rfl ?_ ?_)))))
     ·
      intro hc42
      try simp only[zA,zO,zN,zI,zF,zM,zT,zU]at hc42
      refine xM (xL (qh rfl ?_ ?_))
      ·
       intro hc42_2
       try simp only[zA,zO,zN,zI,zF,zM,zT,zU]at hc42_2
       refine QwR (qq Z (qa (o':=0) ue rfl xK rfl rfl rfl) (qq Z (qc 0 xW rfl rfl rfl) (qq Z (Qmi rfl) (qe (qi call123 rfl (vE x.op ((x.n - at_).tdiv 4) _ I0 Z.imm (by omega) (by omega))) ?_))));rintro _ w_2⟨rfl,hE⟩;replace Z:=Z.callE hE;refine qq Z (Qaw rfl) (QoN (xO (Qq (ul (ret1 Jt (qg (v:=.wg _) rfl) ?_)))))
       first
        | (exfalso; omega)
        | (have e:=zc (x:=x) (at_:=at_) (by omega); exact⟨by rw[e],Z.nil⟩)
        | (have e:=kk (x:=x) (at_:=at_) (by omega); exact⟨by rw[e],Z.nil⟩)
        | (exfalso; omega)
      ·
       intro hc42_2
       try simp only[zA,zO,zN,zI,zF,zM,zT,zU]at hc42_2
       refine xJ (QwR (qq Z (g_eql rfl rfl) (qq Z (Qab rfl) (QoN (qh rfl ?_ ?_)))))
       ·
        intro hc49
        try simp only[zA,zO,zN,zI,zF,zM,zT,zU]at hc49
        refine xM (xL (qh rfl ?_ ?_))
        ·
         intro hc49_2
         try simp only[zA,zO,zN,zI,zF,zM,zT,zU]at hc49_2
         refine QwR (qq Z (qa (o':=0) ue rfl xK rfl rfl rfl) (qq Z (qc 0 xW rfl rfl rfl) (qq Z (qa (o':=1) ue rfl xK rfl rfl rfl) (qq Z (qc 0 xW rfl rfl rfl) ?_))));refine qq Z (qT (s:=16) (c:=x.a*65536) rfl rfl rfl rfl (by rw[IntKind.wrap_i64]; omega)) ?_;refine qq Z (Qmi rfl) ?_;refine qq Z (jh (m:=16) (c:=(x.n - at_).tdiv 4 % 65536) rfl rfl rfl rfl (by rw[IntKind.wrap_i64]; omega)) ?_;refine qq Z (g_orD (m:=16) (c:=x.a*65536+(x.n - at_).tdiv 4 % 65536) rfl rfl (by omega) (Int.lt_of_lt_of_le (show x.a*65536 < 4294967296 by omega) (by decide)) (by omega) (by omega) (by omega) (Int.lt_of_lt_of_le (show(x.n - at_).tdiv 4 % 65536 < 4294967296 by omega) (by decide)) (by rw[IntKind.wrap_i64]; omega)) ?_;refine qe (qi call123 rfl (vE x.op (x.a*65536+(x.n - at_).tdiv 4 % 65536) _ I0 Z.imm (by omega) (by omega))) ?_;rintro _ w_3⟨rfl,hE⟩;replace Z:=Z.callE hE;refine qq Z (Qaw rfl) (QoN (xO (Qq (ul (ret1 Jt (qg (v:=.wg _) rfl) ?_)))))
         first
          | (exfalso; omega)
          | (have e:=zc (x:=x) (at_:=at_) (by omega); exact⟨by rw[e],Z.nil⟩)
          | (have e:=kk (x:=x) (at_:=at_) (by omega); exact⟨by rw[e],Z.nil⟩)
          | (exfalso; omega)
        ·
         intro hc49_2
         try simp only[zA,zO,zN,zI,zF,zM,zT,zU]at hc49_2
         refine xM (uM (xL (QwR (qq Z (qa (o':=4) ue rfl xK rfl rfl rfl) (qq Z (qc 0 xW rfl rfl rfl) (qq Z (kT ut uv rfl) (qq Z (Qaw rfl) (QoN (xO (ret1 Jt (qg (v:=.wg _) rfl) ?_))))))))))
         first
          | (exfalso; omega)
          | (have e:=zc (x:=x) (at_:=at_) (by omega); exact⟨by rw[e],Z.nil⟩)
          | (have e:=kk (x:=x) (at_:=at_) (by omega); exact⟨by rw[e],Z.nil⟩)
          | (exfalso; omega)
       ·
        intro hc49
        try simp only[zA,zO,zN,zI,zF,zM,zT,zU]at hc49
        refine reg (qq Z (g_eql rfl rfl) (qq Z (Qab rfl) (QoN (qh rfl ?_ ?_))))
        ·
         intro hc49_2
         try simp only[zA,zO,zN,zI,zF,zM,zT,zU]at hc49_2
         refine QwR (qq Z (qa (o':=0) ue rfl xK rfl rfl rfl) (qq Z (qc 0 xW rfl rfl rfl) (qq Z (qa (o':=1) ue rfl xK rfl rfl rfl) (qq Z (qc 0 xW rfl rfl rfl) ?_))));refine qq Z (qT (s:=16) (c:=x.a*65536) rfl rfl rfl rfl (by rw[IntKind.wrap_i64]; omega)) ?_;refine qq Z (Qmi rfl) ?_;refine qq Z (jh (m:=16) (c:=(x.n - at_).tdiv 4 % 65536) rfl rfl rfl rfl (by rw[IntKind.wrap_i64]; omega)) ?_;refine qq Z (g_orD (m:=16) (c:=x.a*65536+(x.n - at_).tdiv 4 % 65536) rfl rfl (by omega) (Int.lt_of_lt_of_le (show x.a*65536 < 4294967296 by omega) (by decide)) (by omega) (by omega) (by omega) (Int.lt_of_lt_of_le (show(x.n - at_).tdiv 4 % 65536 < 4294967296 by omega) (by decide)) (by rw[IntKind.wrap_i64]; omega)) ?_;refine qe (qi call123 rfl (vE x.op (x.a*65536+(x.n - at_).tdiv 4 % 65536) _ I0 Z.imm (by omega) (by omega))) ?_;rintro _ w_4⟨rfl,hE⟩;replace Z:=Z.callE hE;refine qq Z (Qaw rfl) (QoN (xO (Qq (ul (ret1 Jt (qg (v:=.wg _) rfl) ?_)))))
         first
          | (exfalso; omega)
          | (have e:=zc (x:=x) (at_:=at_) (by omega); exact⟨by rw[e],Z.nil⟩)
          | (have e:=kk (x:=x) (at_:=at_) (by omega); exact⟨by rw[e],Z.nil⟩)
          | (exfalso; omega)
        ·
         intro hc49_2
         try simp only[zA,zO,zN,zI,zF,zM,zT,zU]at hc49_2
         refine xM (uM (xL (QwR (qq Z (qa (o':=4) ue rfl xK rfl rfl rfl) (qq Z (qc 0 xW rfl rfl rfl) (qq Z (kT ut uv rfl) (qq Z (Qaw rfl) (QoN (xO (ret1 Jt (qg (v:=.wg _) rfl) ?_))))))))))
         first
          | (exfalso; omega)
          | (have e:=zc (x:=x) (at_:=at_) (by omega); exact⟨by rw[e],Z.nil⟩)
          | (have e:=kk (x:=x) (at_:=at_) (by omega); exact⟨by rw[e],Z.nil⟩)
          | (exfalso; omega)
     ·
      intro hc42
      try simp only[zA,zO,zN,zI,zF,zM,zT,zU]at hc42
      refine reg (qq Z (g_eql rfl rfl) (qq Z (Qab rfl) (QoN (qh rfl ?_ ?_))))
      ·
       intro hc42_2
       try simp only[zA,zO,zN,zI,zF,zM,zT,zU]at hc42_2
       refine QwR (qq Z (qa (o':=0) ue rfl xK rfl rfl rfl) (qq Z (qc 0 xW rfl rfl rfl) (qq Z (Qmi rfl) (qe (qi call123 rfl (vE x.op ((x.n - at_).tdiv 4) _ I0 Z.imm (by omega) (by omega))) ?_))));rintro _ w_5⟨rfl,hE⟩;replace Z:=Z.callE hE;refine qq Z (Qaw rfl) (QoN (xO (Qq (ul (ret1 Jt (qg (v:=.wg _) rfl) ?_)))))
       first
        | (exfalso; omega)
        | (have e:=zc (x:=x) (at_:=at_) (by omega); exact⟨by rw[e],Z.nil⟩)
        | (have e:=kk (x:=x) (at_:=at_) (by omega); exact⟨by rw[e],Z.nil⟩)
        | (exfalso; omega)
      ·
       intro hc42_2
       try simp only[zA,zO,zN,zI,zF,zM,zT,zU]at hc42_2
       refine xJ (QwR (qq Z (g_eql rfl rfl) (qq Z (Qab rfl) (QoN (qh rfl ?_ ?_)))))
       ·
        intro hc49
        try simp only[zA,zO,zN,zI,zF,zM,zT,zU]at hc49
        refine xM (xL (qh rfl ?_ ?_))
        ·
         intro hc49_2
         try simp only[zA,zO,zN,zI,zF,zM,zT,zU]at hc49_2
         refine QwR (qq Z (qa (o':=0) ue rfl xK rfl rfl rfl) (qq Z (qc 0 xW rfl rfl rfl) (qq Z (qa (o':=1) ue rfl xK rfl rfl rfl) (qq Z (qc 0 xW rfl rfl rfl) ?_))));refine qq Z (qT (s:=16) (c:=x.a*65536) rfl rfl rfl rfl (by rw[IntKind.wrap_i64]; omega)) ?_;refine qq Z (Qmi rfl) ?_;refine qq Z (jh (m:=16) (c:=(x.n - at_).tdiv 4 % 65536) rfl rfl rfl rfl (by rw[IntKind.wrap_i64]; omega)) ?_;refine qq Z (g_orD (m:=16) (c:=x.a*65536+(x.n - at_).tdiv 4 % 65536) rfl rfl (by omega) (Int.lt_of_lt_of_le (show x.a*65536 < 4294967296 by omega) (by decide)) (by omega) (by omega) (by omega) (Int.lt_of_lt_of_le (show(x.n - at_).tdiv 4 % 65536 < 4294967296 by omega) (by decide)) (by rw[IntKind.wrap_i64]; omega)) ?_;refine qe (qi call123 rfl (vE x.op (x.a*65536+(x.n - at_).tdiv 4 % 65536) _ I0 Z.imm (by omega) (by omega))) ?_;rintro _ w_6⟨rfl,hE⟩;replace Z:=Z.callE hE;refine qq Z (Qaw rfl) (QoN (xO (Qq (ul (ret1 Jt (qg (v:=.wg _) rfl) ?_)))))
         first
          | (exfalso; omega)
          | (have e:=zc (x:=x) (at_:=at_) (by omega); exact⟨by rw[e],Z.nil⟩)
          | (have e:=kk (x:=x) (at_:=at_) (by omega); exact⟨by rw[e],Z.nil⟩)
          | (exfalso; omega)
        ·
         intro hc49_2
         try simp only[zA,zO,zN,zI,zF,zM,zT,zU]at hc49_2
         refine xM (uM (xL (QwR (qq Z (qa (o':=4) ue rfl xK rfl rfl rfl) (qq Z (qc 0 xW rfl rfl rfl) (qq Z (kT ut uv rfl) (qq Z (Qaw rfl) (QoN (xO (ret1 Jt (qg (v:=.wg _) rfl) ?_))))))))))
         first
          | (exfalso; omega)
          | (have e:=zc (x:=x) (at_:=at_) (by omega); exact⟨by rw[e],Z.nil⟩)
          | (have e:=kk (x:=x) (at_:=at_) (by omega); exact⟨by rw[e],Z.nil⟩)
          | (exfalso; omega)
       ·
        intro hc49
        try simp only[zA,zO,zN,zI,zF,zM,zT,zU]at hc49
        refine reg (qq Z (g_eql rfl rfl) (qq Z (Qab rfl) (QoN (qh rfl ?_ ?_))))
        ·
         intro hc49_2
         try simp only[zA,zO,zN,zI,zF,zM,zT,zU]at hc49_2
         refine QwR (qq Z (qa (o':=0) ue rfl xK rfl rfl rfl) (qq Z (qc 0 xW rfl rfl rfl) (qq Z (qa (o':=1) ue rfl xK rfl rfl rfl) (qq Z (qc 0 xW rfl rfl rfl) ?_))));refine qq Z (qT (s:=16) (c:=x.a*65536) rfl rfl rfl rfl (by rw[IntKind.wrap_i64]; omega)) ?_;refine qq Z (Qmi rfl) ?_;refine qq Z (jh (m:=16) (c:=(x.n - at_).tdiv 4 % 65536) rfl rfl rfl rfl (by rw[IntKind.wrap_i64]; omega)) ?_;refine qq Z (g_orD (m:=16) (c:=x.a*65536+(x.n - at_).tdiv 4 % 65536) rfl rfl (by omega) (Int.lt_of_lt_of_le (show x.a*65536 < 4294967296 by omega) (by decide)) (by omega) (by omega) (by omega) (Int.lt_of_lt_of_le (show(x.n - at_).tdiv 4 % 65536 < 4294967296 by omega) (by decide)) (by rw[IntKind.wrap_i64]; omega)) ?_;refine qe (qi call123 rfl (vE x.op (x.a*65536+(x.n - at_).tdiv 4 % 65536) _ I0 Z.imm (by omega) (by omega))) ?_;rintro _ w_7⟨rfl,hE⟩;replace Z:=Z.callE hE;refine qq Z (Qaw rfl) (QoN (xO (Qq (ul (ret1 Jt (qg (v:=.wg _) rfl) ?_)))))
         first
          | (exfalso; omega)
          | (have e:=zc (x:=x) (at_:=at_) (by omega); exact⟨by rw[e],Z.nil⟩)
          | (have e:=kk (x:=x) (at_:=at_) (by omega); exact⟨by rw[e],Z.nil⟩)
          | (exfalso; omega)
        ·
         intro hc49_2
         try simp only[zA,zO,zN,zI,zF,zM,zT,zU]at hc49_2
         refine xM (uM (xL (QwR (qq Z (qa (o':=4) ue rfl xK rfl rfl rfl) (qq Z (qc 0 xW rfl rfl rfl) (qq Z (kT ut uv rfl) (qq Z (Qaw rfl) (QoN (xO (ret1 Jt (qg (v:=.wg _) rfl) ?_))))))))))
         first
          | (exfalso; omega)
          | (have e:=zc (x:=x) (at_:=at_) (by omega); exact⟨by rw[e],Z.nil⟩)
          | (have e:=kk (x:=x) (at_:=at_) (by omega); exact⟨by rw[e],Z.nil⟩)
          | (exfalso; omega)
theorem encR_c (x : InstL) (at_ : Int) (w0 : World) (I0 : Imm) (hI : Sat I0 w0) (hx : Lnkd x) (hx0 : -1099511627776 ≤ x.n) (hx1 : x.n ≤ 1099511627776) (ha0 : -1099511627776 ≤ at_) (ha1 : at_ ≤ 1099511627776) :
 Ctr prog 39 [instV x,.ig at_] w0 (fun v w'=>v=encV (Inl.encI x at_)∧Ext w0 I0 w' I0):=by
 have hrb:=refW_b hx at_;have hre:=refE (at_:=at_) hx;refine fn (n:=16) func39 rfl rfl rfl ?_;have Z:=St.start hI;refine QwR (qe (d_box (cs:=[.ig _,.ig _,.ig _,.ig _,.ig _]) Z rfl) ?_);clear Z;rintro _ w_1⟨b2,rfl,Z⟩;refine qq Z (Qaw rfl) (qq Z (Qai rfl) (QoR (qq Z (g_ldO 0 (vs:=[.ig _,.ig _,.ig _,.ig _,.ig _]) uD Ql rfl rfl rfl rfl) (qq Z (Qmi rfl) (qe (qi call84 rfl (guess_c x at_ _ I0 Z.imm hx hx0 hx1 ha0 ha1)) ?_)))));rintro _ w_2⟨rfl,hE⟩;replace Z:=Z.callE hE;refine qq Z (Qaw rfl) (QoN (xJ (xJ (draw (.pg 0 (.pg 1 (.hg 3 (.cons 2 .eff (.pg 4 .nil))))) mixed (by kernel_rfl) Z ?_))));intro w_3 Z;refine sp rfl (Qmw rfl) (sp rfl (Qmi rfl) (sh rfl (g_ldO 0 (vs:=[.ig _,.ig _,.ig _,.ig _,.ig _]) uD Ql rfl rfl rfl rfl) ?_));have hS0:=Z;refine se rfl (qi call85 rfl (decR_c (refW x at_) at_ _ I0 Z.imm hrb.1 hrb.2 ha0 ha1)) ?_;rintro _ w_4⟨rfl,hE⟩;replace Z:=Z.call hE;refine⟨_,_,hS0.le hE.ext (uu _),Z,sp rfl (neqInst (decI (refW x at_) at_) x rfl rfl) (sn (xL (qh rfl ?_ ?_)))⟩
 ·
  intro hc14
  try simp only[zA,zO,zN,zI,zF,zM,zT,zU]at hc14
  rw[xP (by rw[hc14]; decide)]at hre;refine QwR (qq Z (Qaw rfl) (qq Z (Qai rfl) (QoN (xO (ul (ret2 results39 (qg (v:=.wg _) rfl) (qg (v:=.ig _) rfl) ?_))))));exact⟨by rw[hre]; rfl,Z.nil⟩
 ·
  intro hc14
  try simp only[zA,zO,zN,zI,zF,zM,zT,zU]at hc14
  rw[xS hc14]at hre;refine xM (xL (QwR (qq Z (Qmw rfl) (qq Z (Qaw rfl) (qq Z (Qai rfl) (QoN (xO (ret2 results39 (qg (v:=.wg _) rfl) (qg (v:=.ig _) rfl) ?_))))))));exact⟨by rw[hre]; rfl,Z.nil⟩
end Go.Proofs.YtgkgihnpjgbmhaaGreatDoor
namespace Go.Proofs.YtgkgihnpjgbmhaaGreatDoor
open Tryz
open Go Go.RowKit Go.Inl
structure CdW where
 k:Nat
 a:Option Addr
 c:Nat
 W:List Int
theorem wrds_snoc {l:List Int}{w:Int}(h:Wrds l)(hw:0≤w∧w < 4294967296):Wrds (l++[w]):=by
 intro y hy;rcases uJ.1 hy with h' | h'
 · exact h y h'
 · rw[uG]at h'; subst h'; exact hw
set_option maxHeartbeats 1000000 in
theorem made2_c (q:Q4)(w0:World)(I0:Imm)(hI:Sat I0 w0)(hq:q.wf):Ctr prog 38 [.agg #[.bg q.a,.bg q.b,.bg q.c,.bg q.d]] w0 (fun v w'=>∃x:Int,v = .wg x∧Ext w0 I0 w' I0∧0≤x∧x < 4294967296):=by
 obtain⟨⟨ha0,ha1⟩,⟨hb0,hb1⟩,⟨hc0,hc1⟩,⟨hd0,hd1⟩⟩:=hq;refine fn (n:=49) func38 rfl rfl rfl ?_;have Z:=St.start hI;refine QwR (qe (d_box (cs:=[.bg _,.bg _,.bg _,.bg _]) Z rfl) ?_);clear Z;rintro _ w_1⟨b1,rfl,Z⟩;refine qq Z (Qaw rfl) (QoN (xJ (draw (.pg 0 (.hg 1 (.pg 2 (.pg 3 (.pg 4 (.hg 5 (.pg 6 (.pg 7 (.pg 8 .nil))))))))) mixed (by kernel_rfl) Z ?_)));intro w_2 Z;refine sp rfl (qQ (o':=0) Jj un rfl rfl (by decide) (by decide) rfl) (sh rfl (qc 0 uZ rfl rfl rfl) (sp rfl (g_rem rfl rfl (by omega) (by omega)) ?_));refine sp rfl (qH (c:=q.a % 10) uA uv rfl (by rw[IntKind.wrap_u32]; omega)) ?_;refine sp rfl (qQ (o':=1) Jj un rfl rfl (by decide) (by decide) rfl) (sh rfl (qc 0 uZ rfl rfl rfl) ?_);refine sp rfl (qH (c:=q.b) uA uv rfl (by rw[IntKind.wrap_u32]; omega)) ?_;refine sp rfl (Qaw rfl) (sp rfl (Qaw rfl) (sn (xL (meet (fun σ w=>∃A:Int,okS σ [(1,.zg b1),(3,.wg (q.a % 10)),(4,.wg A)]∧St [] w0 I0 I0 w [.cel b1 90 [.bg q.a,.bg q.b,.bg q.c,.bg q.d]]∧0≤A∧A≤255) ?_ ?_))))
 ·
  refine QwR (qq Z (qQ (o':=0) Jj un rfl rfl (by decide) (by decide) rfl) (qq Z (qc 0 uZ rfl rfl rfl) (qq Z (g_lss rfl rfl) (QoN (qh rfl ?_ ?_)))))
  ·
   intro hc16
   try simp only[zA,zO,zN,zI,zF,zM,zT,zU]at hc16
   refine reg (qq Z (Qmw rfl) (qq Z (g_rem rfl rfl (by omega) (by omega)) (qq Z (Qaw rfl) (QoN ?_))));exact⟨_,rfl,_,⟨rfl,rfl,rfl,trivial⟩,Z,by omega,by omega⟩
  ·
   intro hc16
   try simp only[zA,zO,zN,zI,zF,zM,zT,zU]at hc16
   refine xM (xL ?_);exact⟨_,rfl,_,⟨rfl,rfl,rfl,trivial⟩,Z,by omega,by omega⟩
 ·
  rintro σ w_j⟨A,hs,Z,hA0,hA1⟩;rw[← qj hs];refine xJ (draw (.pg 0 (.hg 1 (.pg 2 (.pg 3 (.hg 4 (.pg 5 (.pg 6 (.pg 7 .nil)))))))) mixed (by kernel_rfl) Z ?_);intro w_3 Z;refine sp rfl (qQ (o':=2) Jj un rfl rfl (by decide) (by decide) rfl) (sh rfl (qc 0 uZ rfl rfl rfl) ?_);refine sp rfl (qH (c:=q.c) uA uv rfl (by rw[IntKind.wrap_u32]; omega)) ?_;refine sp rfl (qQ (o':=3) Jj un rfl rfl (by decide) (by decide) rfl) (sh rfl (qc 0 uZ rfl rfl rfl) ?_);refine sp rfl (qH (c:=q.d) uA uv rfl (by rw[IntKind.wrap_u32]; omega)) ?_;refine sp rfl (Qaw rfl) (sp rfl (Qaw rfl) (sn (xL (meet (fun σ w=>∃B C:Int,okS σ [(3,.wg (q.a % 10)),(4,.wg A),(5,.wg B),(6,.wg C)]∧St [] w0 I0 I0 w [.cel b1 90 [.bg q.a,.bg q.b,.bg q.c,.bg q.d]]∧(0≤B∧B≤255)∧0≤C∧C≤255) ?_ ?_))))
  ·
   refine QwR (qq Z (Qmw rfl) (qq Z (g_eql rfl rfl) (qq Z (Qmb rfl) (qu rfl rfl Z (fun hg=>(Qmw rfl)) ?_))));intro u28 hu28 hn28;refine qu rfl rfl Z (fun hg=>(g_eql (hu28 hg) rfl)) ?_;intro u29 hu29 hn29;refine qq Z (g_or rfl rfl (fun hq=>hu29 hq)) (qq Z (Qmb rfl) (qu rfl rfl Z (fun hg=>(Qmw rfl)) ?_));intro u32 hu32 hn32;refine qu rfl rfl Z (fun hg=>(g_eql (hu32 hg) rfl)) ?_;intro u33 hu33 hn33;refine qq Z (g_or rfl rfl (fun hq=>hu33 hq)) (QoN (qh rfl ?_ ?_))
   ·
    intro hc34;clear hu28 hn28 hu29 hn29 hu32 hn32 hu33 hn33
    try simp only[zA,zO,zN,zI,zF,zM,zT,zU]at hc34
    refine reg (qq Z (Qmw rfl) (qq Z (g_rem rfl rfl (by omega) (by omega)) (qq Z (Qmw rfl) (qq Z (g_rem rfl rfl (by omega) (by omega)) (qq Z (Qaw rfl) (qq Z (Qaw rfl) (QoN ?_)))))));exact⟨_,rfl,_,_,⟨rfl,rfl,rfl,rfl,trivial⟩,Z,⟨by omega,by omega⟩,by omega,by omega⟩
   ·
    intro hc34;clear hu28 hn28 hu29 hn29 hu32 hn32 hu33 hn33
    try simp only[zA,zO,zN,zI,zF,zM,zT,zU]at hc34
    refine xM (xL ?_);exact⟨_,rfl,_,_,⟨rfl,rfl,rfl,rfl,trivial⟩,Z,⟨by omega,by omega⟩,by omega,by omega⟩
  ·
   rintro σ w_k⟨B,C,hs,Z,⟨hB0,hB1⟩,hC0,hC1⟩;rw[← qj hs];refine QwR (qq Z (Qmw rfl) ?_);refine qq Z (qT (s:=24) (c:=q.a % 10*16777216) rfl rfl rfl rfl (by rw[IntKind.wrap_u32]; omega)) ?_;refine qq Z (Qmw rfl) ?_;refine qq Z (qT (s:=16) (c:=A*65536) rfl rfl rfl rfl (by rw[IntKind.wrap_u32]; omega)) ?_;refine qq Z (g_orD (m:=24) (c:=q.a % 10*16777216+A*65536) rfl rfl (by omega) (Int.lt_of_lt_of_le (show q.a % 10*16777216 < 4294967296 by omega) (Int.le_refl _)) (by omega) (by omega) (by omega) (Int.lt_of_lt_of_le (show A*65536 < 4294967296 by omega) (Int.le_refl _)) (by rw[IntKind.wrap_u32]; omega)) ?_;refine qq Z (Qmw rfl) ?_;refine qq Z (qT (s:=8) (c:=B*256) rfl rfl rfl rfl (by rw[IntKind.wrap_u32]; omega)) ?_;refine qq Z (g_orD (m:=16) (c:=q.a % 10*16777216+A*65536+B*256) rfl rfl (by omega) (Int.lt_of_lt_of_le (show q.a % 10*16777216+A*65536 < 4294967296 by omega) (Int.le_refl _)) (by omega) (by omega) (by omega) (Int.lt_of_lt_of_le (show B*256 < 4294967296 by omega) (Int.le_refl _)) (by rw[IntKind.wrap_u32]; omega)) ?_;refine qq Z (Qmw rfl) ?_;refine qq Z (g_orD (m:=8) (c:=q.a % 10*16777216+A*65536+B*256+C) rfl rfl (by omega) (Int.lt_of_lt_of_le (show q.a % 10*16777216+A*65536+B*256 < 4294967296 by omega) (Int.le_refl _)) (by omega) (by omega) (by omega) (Int.lt_of_lt_of_le (show C < 4294967296 by omega) (Int.le_refl _)) (by rw[IntKind.wrap_u32]; omega)) ?_;refine qq Z (Qaw rfl) (QoN (xO (ret1 results38 (qg (v:=.wg _) rfl) ?_)));exact⟨_,rfl,Z.nil,by omega,by omega⟩
set_option maxHeartbeats 1000000 in
theorem bytes2_c (ad : Option Addr) (cap : Nat) (l : List Int) (w0 : World) (I0 : Imm) (hI : Sat I0 w0) (hl : RFl I0 1 u32C (.sg ad l.length cap) l) (hw : Wrds l) (hn : l.length ≤ 1073741824) :
 Ctr prog 40 [.sg ad l.length cap] w0 (fun v w'=>∃I' a c,v = .slice a (bytesP l).length c∧Ext w0 I0 w' I'∧RBytes I' (.slice a (bytesP l).length c) (bytesP l)):=by
 refine fn (n:=39) func40 rfl rfl rfl ?_;have Z:=St.start hI;refine QwR (qq Z (qd _) (QoR (qe (jo Z xQ un) ?_)));clear Z;rintro _ w_1⟨Z,b5_,rfl⟩;refine qq Z (qd _) (QoN (xJ (QwR (qq Z (Qai rfl) (QoN (xU (loop (fun(x:BtW) σ w=>okS σ [(0,.sg ad l.length cap),(3,.sg x.a (4*x.k) x.c),(4,.ig x.k)]∧St [] w0 I0 I0 w [.row (.sg x.a (4*x.k) x.c) 5 1 (4*x.k) (flat byteC (bytesP (l.take x.k)))]∧x.k≤l.length) (fun x=>l.length - x.k) (⟨0,some ⟨b5_,0,none⟩,0⟩) ?_ ?_)))))))
 ·
  exact⟨⟨rfl,rfl,rfl,trivial⟩,Z.sel [true],by dsimp only; omega⟩
 ·
  rintro⟨k,a,c⟩σ w_l⟨hs,Z,hk⟩;dsimp only at hs Z hk ⊢;rw[← qj hs]; clear hs
  refine xJ (QwR (qq Z (Qmi rfl) (qq Z (qb _) (qq Z (qo rfl ui hl rfl) (qq Z (g_lss rfl rfl) (QoN (qh rfl ?_ ?_)))))))
  ·
   intro hc9
   try simp only[zA,zO,zN,zI,zF,zM,zT,zU]at hc9
   obtain⟨y,hyi⟩:∃y,l[k]? = some y:=⟨_,xI (by omega)⟩
   have hsA:=hl.at hyi;have hyb:=hw y (xR hyi);refine xM (xL (xJ (xU (draw (.pg 0 (.pg 1 (.pg 2 (.pg 3 (.hg 4 (.pg 5 (.pg 6 (.pg 7 (.pg 8 (.pg 9 (.hg 10 (.pg 11 (.pg 12 (.pg 13 (.pg 14 (.pg 15 (.hg 16 (.pg 17 (.pg 18 (.pg 19 (.pg 20 (.pg 21 (.hg 22 (.pg 23 (.cons 24 .eff (.cons 25 .bar (.pg 26 .nil))))))))))))))))))))))))))) mixed (by kernel_rfl) Z ?_))));intro w_2 Z;refine sp rfl (qb _) (sp rfl (qb _) (sp rfl (Qmi rfl) (sp rfl (g_ixI ui uV hl rfl rfl (by omega) (by omega)) (sh rfl (qt QH hsA rfl rfl) (sp rfl (jM (s:=24) (c:=y / 16777216) rfl rfl rfl rfl rfl) ?_)))));refine sp rfl (qH (c:=octP y 0) uv uA rfl (by rw[IntKind.wrap_u8]; rfl)) ?_;refine sp rfl (qb _) (sp rfl (Qmi rfl) (sp rfl (g_ixI ui uV hl rfl rfl (by omega) (by omega)) (sh rfl (qt QH hsA rfl rfl) (sp rfl (jM (s:=16) (c:=y / 65536) rfl rfl rfl rfl rfl) ?_))));refine sp rfl (qH (c:=octP y 1) uv uA rfl (by rw[IntKind.wrap_u8]; rfl)) ?_;refine sp rfl (qb _) (sp rfl (Qmi rfl) (sp rfl (g_ixI ui uV hl rfl rfl (by omega) (by omega)) (sh rfl (qt QH hsA rfl rfl) (sp rfl (jM (s:=8) (c:=y / 256) rfl rfl rfl rfl rfl) ?_))));refine sp rfl (qH (c:=octP y 2) uv uA rfl (by rw[IntKind.wrap_u8]; rfl)) ?_;refine sp rfl (qb _) (sp rfl (Qmi rfl) (sp rfl (g_ixI ui uV hl rfl rfl (by omega) (by omega)) (sh rfl (qt QH hsA rfl rfl) (sp rfl (qH (c:=octP y 3) uv uA rfl (by rw[IntKind.wrap_u8,oct3])) ?_))));have hS0:=Z;refine se rfl (d_lit (vs:=[.bg _,.bg _,.bg _,.bg _]) (cs:=[.bg _,.bg _,.bg _,.bg _]) Z xQ un QZ rfl rfl rfl rfl (fun v hv=>by simp only[xV,xY,or_false]at hv; rcases hv with rfl | rfl | rfl | rfl <;> rfl) rfl) ?_
   rintro _ w_3⟨b36,rfl,Z⟩;refine⟨_,_,hS0.le (Sub.refl _) (uq _ _),Z,sb rfl (qB 1 0 Z rfl xQ QP rfl rfl rfl rfl rfl rfl rfl rfl (by omega) (by omega)) ?_⟩;rintro _ w_4⟨a37,p37,rfl,Z⟩;refine⟨_,_,Z,sp rfl (qd _) (sn (uM (xL (reg (qq Z (Qmi rfl) (qq Z (g_add rfl rfl (by omega) (by omega)) (qq Z (Qai rfl) ?_)))))))⟩;refine⟨⟨k+1,a37,p37⟩,_,rfl,⟨⟨rfl,rfl,rfl,trivial⟩,?_,by dsimp only; omega⟩,by dsimp only; omega⟩;dsimp only;rw[qz hyi,bytesP_snoc,ql];exact Z.sel [false,true]
  ·
   intro hc9
   try simp only[zA,zO,zN,zI,zF,zM,zT,zU]at hc9
   have hkn:k=l.length:=by omega
   subst hkn;refine ur (um (um (Qi (xL (QwR (qq Z (qb _) (qq Z (qd _) (QoN (xO (ret1 results40 (qg rfl) ?_))))))))));rw[uL]at Z;obtain⟨I1,hE1,hI1,hd1⟩:=jf qA (xs:=bytesP l) (Z.sel [true]) (qD l).symm;rw[qD];exact⟨I1,a,c,rfl,hE1,hd1⟩
theorem bytes2_E (ad : Option Addr) (cap n : Nat) (l : List Int) (w0 : World) (I0 : Imm) (hI : Sat I0 w0) (hl : RFl I0 1 u32C (.sg ad n cap) l) (hw : Wrds l) (hn : n = l.length) (hn1 : n ≤ 1073741824) :
 Ctr prog 40 [.sg ad n cap] w0 (fun v w'=>∃I' a c,v = .slice a (bytesP l).length c∧Ext w0 I0 w' I'∧RBytes I' (.slice a (bytesP l).length c) (bytesP l)):=by
 subst hn; exact bytes2_c ad cap l w0 I0 hI hl hw hn1
theorem encR_n {X Y : InstL} {at_ : Int} (hX : X = Y) (w0 : World) (I0 : Imm) (hI : Sat I0 w0) (hx : Lnkd X) (hx0 : -1099511627776 ≤ X.n) (hx1 : X.n ≤ 1099511627776) (ha0 : -1099511627776 ≤ at_) (ha1 : at_ ≤ 1099511627776) (h : Inl.encI X at_ = none) :
 Ctr prog 39 [instV Y,.ig at_] w0 (fun v w'=>v = .tuple #[.wg 0,.ig 20]∧Ext w0 I0 w' I0):=by
 subst hX;have:=encR_c X at_ w0 I0 hI hx hx0 hx1 ha0 ha1; rw[h]at this; exact this
theorem encR_s {X Y : InstL} {at_ wv : Int} (hX : X = Y) (w0 : World) (I0 : Imm) (hI : Sat I0 w0) (hx : Lnkd X) (hx0 : -1099511627776 ≤ X.n) (hx1 : X.n ≤ 1099511627776) (ha0 : -1099511627776 ≤ at_) (ha1 : at_ ≤ 1099511627776) (h : Inl.encI X at_ = some wv) :
 Ctr prog 39 [instV Y,.ig at_] w0 (fun v w'=>v = .tuple #[.wg wv,.ig 0]∧Ext w0 I0 w' I0):=by
 subst hX;have:=encR_c X at_ w0 I0 hI hx hx0 hx1 ha0 ha1; rw[h]at this; exact this
set_option maxHeartbeats 2000000 in
theorem code_c (ad : Option Addr) (cap : Nat) (l : List Q4) (n : Nat) (w0 : World) (I0 : Imm) (hI : Sat I0 w0) (hl : RFl I0 4 q4C (.sg ad l.length cap) l) (hq : ∀ q ∈ l, q.wf) (hn : n ≤ 64) :
 Ctr prog 14 [.sg ad l.length cap,.ig n] w0 (fun v w'=>∃I' a c W,v = .slice a (bytesP W).length c∧Ext w0 I0 w' I'∧RBytes I' (.slice a (bytesP W).length c) (bytesP W)∧Wrds W∧W.length≤n):=by
 have hle:=RSl.le hl;simp only[maxLen]at hle;obtain⟨sz,hsz⟩:∃sz:Nat,min l.length n=sz:=⟨_,rfl⟩
 have hmn:(if (l.length:Int)≤(n:Int) then (l.length:Int) else (n:Int))=(sz:Int):=by split <;> omega
 refine fn (n:=84) func14 rfl rfl rfl ?_;have Z:=St.start hI;refine QwR (qq Z (qd _) (QoR (qe (jo Z ui uV) ?_)));clear Z;rintro _ w_1⟨Z,b13_,rfl⟩;refine qq Z (qb _) (qq Z (qo rfl JD hl rfl) (qq Z (Qmi rfl) (qq Z (g_minI (c:=(sz:Int)) rfl rfl hmn) (qq Z (qd _) (qq Z (Qai rfl) (QoN (xJ (QwR (qq Z (Qai rfl) (QoN (xU (loop (fun(x:CdW) σ w=>okS σ [(0,.sg ad l.length cap),(5,.sg x.a x.k x.c),(6,.ig sz),(7,.ig x.k)]∧St [] w0 I0 I0 w [.row (.sg x.a x.k x.c) 88 1 x.k (flat u32C x.W)]∧x.k≤sz∧x.W.length=x.k∧Wrds x.W) (fun x=>sz - x.k) (⟨0,some ⟨b13_,0,none⟩,0,[]⟩) ?_ ?_))))))))))))
 ·
  exact⟨⟨rfl,rfl,rfl,rfl,trivial⟩,Z.sel [true],by dsimp only; omega,rfl,fun w hw=>by cases hw⟩
 ·
  rintro⟨k,a,c,W⟩σ w_l⟨hs,Z,hk,hWl,hWw⟩;dsimp only at hs Z hk hWl hWw ⊢;rw[← qj hs]; clear hs
  refine xJ (QwR (qq Z (Qmi rfl) (qq Z (Qmi rfl) (qq Z (g_lss rfl rfl) (QoN (qh rfl ?_ ?_))))))
  ·
   intro hc20
   try simp only[zA,zO,zN,zI,zF,zM,zT,zU]at hc20
   obtain⟨q,hqi⟩:∃q,l[k]? = some q:=⟨_,xI (by omega)⟩
   have hqA:=hl.at hqi;have hqw:=hq q (xR hqi);obtain⟨⟨ha0,ha1⟩,⟨hb0,hb1⟩,⟨hc0,hc1⟩,⟨hd0,hd1⟩⟩:=id hqw;refine xM (xL (xJ (xU (QwR (qq Z (qb _) (qq Z (Qmi rfl) (qq Z (g_ixI JD sizeOf90 hl rfl rfl (by omega) (by omega)) (qq Z (g_ldE (us:=[.bg _,.bg _,.bg _,.bg _]) sizeOf90 isAgg90 hqA rfl rfl rfl) (qe (qi call38 rfl (made2_c q _ I0 Z.imm hqw)) ?_)))))))));rintro _ w_2⟨x1,rfl,hE,hx0,hx1⟩;replace Z:=Z.callE hE;refine qq Z (Qaw rfl) (QoR (qq Z (qb _) (qq Z (Qmi rfl) (qq Z (g_ixI JD sizeOf90 hl rfl rfl (by omega) (by omega)) (qq Z (yl (c':=0) Jj un rfl rfl (by decide) (by decide) rfl) (qq Z (qt uZ hqA rfl rfl) (qq Z (qK uA ut rfl (by omega) (by omega)) (qq Z (g_rem rfl rfl (by omega) (by omega)) (qq Z (Qai rfl) (QoN ?_))))))))));refine meet (fun σ w=>∃y:Int,okS σ [(0,.sg ad l.length cap),(5,.sg a k c),(6,.ig sz),(7,.ig k),(8,.wg y)]∧St [] w0 I0 I0 w [.row (.sg a k c) 88 1 k (flat u32C W)]∧0≤y∧y < 4294967296) ?_ ?_
   ·
    refine QwR (qq Z (Qmi rfl) (qq Z (g_geq rfl rfl) (qq Z (Qmb rfl) (qu rfl rfl Z (fun hg=>(Qmi rfl)) ?_))));intro u38 hu38 hn38;refine qu rfl rfl Z (fun hg=>(g_leq (hu38 hg) rfl)) ?_;intro u39 hu39 hn39;refine qq Z (g_and rfl rfl (fun hq=>hu39 hq)) (QoN (qh rfl ?_ ?_))
    ·
     intro hc40;clear hu38 hn38 hu39 hn39
     try simp only[zA,zO,zN,zI,zF,zM,zT,zU]at hc40
     have hmod:0≤q.c % ((sz:Int)+2)∧q.c % ((sz:Int)+2) < (sz:Int)+2:=⟨Int.emod_nonneg _ (by omega),Int.emod_lt_of_pos _ (by omega)⟩
     refine QwR (qq Z (Qmi rfl) (qq Z (qb _) (qq Z (Qmi rfl) (qq Z (g_ixI JD sizeOf90 hl rfl rfl (by omega) (by omega)) (qq Z (yl (c':=2) Jj un rfl rfl (by decide) (by decide) rfl) (qq Z (qt uZ hqA rfl rfl) (qq Z (qK uA ut rfl (by omega) (by omega)) (qq Z (Qmi rfl) (qq Z (g_add rfl rfl (by omega) (by omega)) ?_)))))))));refine qq Z (g_rem rfl rfl (by omega) (by omega)) (qq Z (g_sub rfl rfl (by omega) (by omega)) (qq Z (g_mul rfl rfl (by omega) (by omega)) (qq Z (qs (pl:=[(0,1),(1,1),(2,1),(3,1),(4,1)]) (cs:=[.ig _,.ig _,.ig _,.ig _,.ig _]) Qr ue (fun w=>by simp[xK]) (mp (v:=.ig _) rfl (mp (v:=.ig _) rfl mp0)) rfl) ?_)));refine qe (qr (cs:=[.ig _,.ig _,.ig _,.ig _,.ig _]) Z Qr rfl) ?_;clear Z;rintro _ w_3⟨b10,rfl,Z⟩;refine qe (qf 0 Z uD rfl rfl rfl (vs:=[.ig _,.ig _,.ig _,.ig _,.ig _]) rfl rfl rfl (xH rfl) (cs':=[_,_,_,_,_]) rfl) ?_;clear Z;rintro _ w_4⟨rfl,Z⟩;refine QoN (xJ (QwR (qq Z (Qmi rfl) (qq Z (g_eql rfl rfl) (qq Z (Qmb rfl) (qu rfl rfl Z (fun hg=>(Qmi rfl)) ?_))))));intro u57 hu57 hn57;refine qu rfl rfl Z (fun hg=>(g_eql (hu57 hg) rfl)) ?_;intro u58 hu58 hn58;refine qq Z (g_or rfl rfl (fun hq=>hu58 hq)) (QoN (qh rfl ?_ ?_))
     ·
      intro hc59;clear hu57 hn57 hu58 hn58
      try simp only[zA,zO,zN,zI,zF,zM,zT,zU]at hc59
      obtain⟨X,hX⟩:∃X:InstL,X=⟨q.a % 16,q.b % 16,0,0,4*(q.c % ((sz:Int)+2) - 1)⟩:=⟨_,rfl⟩
      have hLk:Lnkd X:=by rw[hX]; exact⟨⟨by dsimp only; omega,by dsimp only; omega⟩,⟨by dsimp only; omega,by dsimp only; omega⟩,rfl,rfl,fun h=>by dsimp only at h ⊢ <;> omega⟩
      have hXn:-1099511627776≤X.n∧X.n≤1099511627776:=by rw[hX]; dsimp only; omega
      have hes:Inl.encI X (4*(k:Int))=none∨∃wv,Inl.encI X (4*(k:Int))=some wv:=by cases Inl.encI X (4*(k:Int)); exact .inl rfl; exact .inr ⟨_,rfl⟩
      refine reg (qq Z (qb _) (qq Z (Qmi rfl) (qq Z (g_ixI JD sizeOf90 hl rfl rfl (by omega) (by omega)) (qq Z (yl (c':=1) Jj un rfl rfl (by decide) (by decide) rfl) (qq Z (qt uZ hqA rfl rfl) (qq Z (qK uA ut rfl (by omega) (by omega)) (qq Z (g_rem rfl rfl (by omega) (by omega)) (qq Z (qa (o':=1) ue rfl xK rfl rfl rfl) ?_))))))));refine qe (qf 0 Z xK rfl rfl rfl (vs:=[.ig _]) rfl rfl rfl (xH rfl) (cs':=[_,_,_,_,_]) rfl) ?_;clear Z;rintro _ w_5⟨rfl,Z⟩;refine QoN (xJ (hes.elim (fun he2=>?_) (fun he2=>?_)))
      ·
       refine reg (qq Z (g_ldO 0 (vs:=[.ig _,.ig _,.ig _,.ig _,.ig _]) uD Ql rfl rfl rfl rfl) (qq Z (Qmi rfl) (qq Z (g_mul rfl rfl (by omega) (by omega)) (qe (qi call39 rfl (encR_n hX _ I0 Z.imm hLk hXn.1 hXn.2 (by omega) (by omega) he2)) ?_))));rintro _ w_6⟨rfl,hE⟩;replace Z:=Z.callE hE;refine qq Z (qb _) (qq Z (qk (v:=.wg _) rfl rfl) (qq Z (Qxi rfl rfl) (qq Z (Qaw rfl) (qq Z (Qai rfl) (QoR (qq Z (Qmi rfl) (qq Z (g_toV (g_eql rfl rfl) (congrArg Value.bool (uw (by decide)))) (QoN (qV (rfl) (xM (xL ?_)))))))))))
       first | exact⟨_,rfl,_,⟨rfl,rfl,rfl,rfl,rfl,trivial⟩,(Z.sel [false,true]),hx0,hx1⟩ | exact⟨_,rfl,_,⟨rfl,rfl,rfl,rfl,rfl,trivial⟩,(Z.sel [false,true]),hwvb⟩
      ·
       obtain⟨wv,he2⟩:=he2;have hwvb:=(zv he2).2;refine reg (qq Z (g_ldO 0 (vs:=[.ig _,.ig _,.ig _,.ig _,.ig _]) uD Ql rfl rfl rfl rfl) (qq Z (Qmi rfl) (qq Z (g_mul rfl rfl (by omega) (by omega)) (qe (qi call39 rfl (encR_s hX _ I0 Z.imm hLk hXn.1 hXn.2 (by omega) (by omega) he2)) ?_))));rintro _ w_7⟨rfl,hE⟩;replace Z:=Z.callE hE;refine qq Z (qb _) (qq Z (qk (v:=.wg _) rfl rfl) (qq Z (Qxi rfl rfl) (qq Z (Qaw rfl) (qq Z (Qai rfl) (QoR (qq Z (Qmi rfl) (qq Z (g_toV (g_eql rfl rfl) (congrArg Value.bool (uH rfl))) (QoN (jR (rfl) (reg (qq Z (Qmw rfl) (qq Z (Qaw rfl) (QoN ?_)))))))))))))
       first | exact⟨_,rfl,_,⟨rfl,rfl,rfl,rfl,rfl,trivial⟩,(Z.sel [false,true]),hx0,hx1⟩ | exact⟨_,rfl,_,⟨rfl,rfl,rfl,rfl,rfl,trivial⟩,(Z.sel [false,true]),hwvb⟩
     ·
      intro hc59;clear hu57 hn57 hu58 hn58
      try simp only[zA,zO,zN,zI,zF,zM,zT,zU]at hc59
      obtain⟨X,hX⟩:∃X:InstL,X=⟨q.a % 16,0,0,0,4*(q.c % ((sz:Int)+2) - 1)⟩:=⟨_,rfl⟩
      have hLk:Lnkd X:=by rw[hX]; exact⟨⟨by dsimp only; omega,by dsimp only; omega⟩,⟨by dsimp only; omega,by dsimp only; omega⟩,rfl,rfl,fun h=>by dsimp only at h ⊢ <;> omega⟩
      have hXn:-1099511627776≤X.n∧X.n≤1099511627776:=by rw[hX]; dsimp only; omega
      have hes:Inl.encI X (4*(k:Int))=none∨∃wv,Inl.encI X (4*(k:Int))=some wv:=by cases Inl.encI X (4*(k:Int)); exact .inl rfl; exact .inr ⟨_,rfl⟩
      refine xM (xL (xJ (hes.elim (fun he2=>?_) (fun he2=>?_))))
      ·
       refine reg (qq Z (g_ldO 0 (vs:=[.ig _,.ig _,.ig _,.ig _,.ig _]) uD Ql rfl rfl rfl rfl) (qq Z (Qmi rfl) (qq Z (g_mul rfl rfl (by omega) (by omega)) (qe (qi call39 rfl (encR_n hX _ I0 Z.imm hLk hXn.1 hXn.2 (by omega) (by omega) he2)) ?_))));rintro _ w_8⟨rfl,hE⟩;replace Z:=Z.callE hE;refine qq Z (qb _) (qq Z (qk (v:=.wg _) rfl rfl) (qq Z (Qxi rfl rfl) (qq Z (Qaw rfl) (qq Z (Qai rfl) (QoR (qq Z (Qmi rfl) (qq Z (g_toV (g_eql rfl rfl) (congrArg Value.bool (uw (by decide)))) (QoN (qV (rfl) (xM (xL ?_)))))))))))
       first | exact⟨_,rfl,_,⟨rfl,rfl,rfl,rfl,rfl,trivial⟩,(Z.sel [false,true]),hx0,hx1⟩ | exact⟨_,rfl,_,⟨rfl,rfl,rfl,rfl,rfl,trivial⟩,(Z.sel [false,true]),hwvb⟩
      ·
       obtain⟨wv,he2⟩:=he2;have hwvb:=(zv he2).2;refine reg (qq Z (g_ldO 0 (vs:=[.ig _,.ig _,.ig _,.ig _,.ig _]) uD Ql rfl rfl rfl rfl) (qq Z (Qmi rfl) (qq Z (g_mul rfl rfl (by omega) (by omega)) (qe (qi call39 rfl (encR_s hX _ I0 Z.imm hLk hXn.1 hXn.2 (by omega) (by omega) he2)) ?_))));rintro _ w_9⟨rfl,hE⟩;replace Z:=Z.callE hE;refine qq Z (qb _) (qq Z (qk (v:=.wg _) rfl rfl) (qq Z (Qxi rfl rfl) (qq Z (Qaw rfl) (qq Z (Qai rfl) (QoR (qq Z (Qmi rfl) (qq Z (g_toV (g_eql rfl rfl) (congrArg Value.bool (uH rfl))) (QoN (jR (rfl) (reg (qq Z (Qmw rfl) (qq Z (Qaw rfl) (QoN ?_)))))))))))))
       first | exact⟨_,rfl,_,⟨rfl,rfl,rfl,rfl,rfl,trivial⟩,(Z.sel [false,true]),hx0,hx1⟩ | exact⟨_,rfl,_,⟨rfl,rfl,rfl,rfl,rfl,trivial⟩,(Z.sel [false,true]),hwvb⟩
    ·
     intro hc40;clear hu38 hn38 hu39 hn39
     try simp only[zA,zO,zN,zI,zF,zM,zT,zU]at hc40
     refine xM (xL ?_)
     first | exact⟨_,rfl,_,⟨rfl,rfl,rfl,rfl,rfl,trivial⟩,Z,hx0,hx1⟩ | exact⟨_,rfl,_,⟨rfl,rfl,rfl,rfl,rfl,trivial⟩,Z,hwvb⟩
   ·
    rintro σ w_j⟨y,hs,Z,hy0,hy1⟩;rw[← qj hs];refine reg (qq Z (qb _) (qq Z (Qmw rfl) ?_));refine qe (d_lit (vs:=[.wg _]) (cs:=[.wg _]) Z ui uV JA rfl rfl rfl rfl (fun v hv=>by simp only[xV,xY,or_false]at hv; subst hv; rfl) rfl) ?_;clear Z;rintro _ w_10⟨b80,rfl,Z⟩;refine qe (qB 1 0 Z rfl ui Jr rfl rfl rfl rfl rfl rfl rfl rfl (by omega) (by omega)) ?_;clear Z;rintro _ w_11⟨a81,p81,rfl,Z⟩;refine qq Z (qd _) (qy (uM (xL (reg (qq Z (Qmi rfl) (qq Z (g_add rfl rfl (by omega) (by omega)) (qq Z (Qai rfl) ?_)))))));refine⟨⟨k+1,a81,p81,W++[y]⟩,_,rfl,⟨⟨rfl,rfl,rfl,rfl,trivial⟩,?_,by dsimp only; omega,by dsimp only; rw[xN,hWl]; rfl,wrds_snoc hWw ⟨hy0,hy1⟩⟩,by dsimp only; omega⟩;dsimp only;rw[ql,qS];exact Z.sel [false,true]
  ·
   intro hc20
   try simp only[zA,zO,zN,zI,zF,zM,zT,zU]at hc20
   refine ur (um (um (Qi (xL (xJ ?_)))));subst hWl;have hF:=St.freezeRow (u:=.sg a W.length c) (m:=W.length) (xs:=W) qW (by exact Z.ord [0]) (rfl);clear Z;obtain⟨I_hws,Z,hI_hws,hws⟩:=hF;refine reg (qq Z (qb _) (qe (qi call40 rfl (bytes2_E a c W.length W _ _ Z.imm hws hWw rfl (by omega))) ?_));rintro _ w_12⟨I_f,a83,c83,rfl,hE,h83⟩;replace Z:=Z.callE hE;replace hws:=hws.mono hE.ext;refine qq Z (qd _) (QoN (xO (ret1 results14 (qg rfl) ?_)));exact⟨_,a83,c83,W,rfl,Z.nil,h83,hWw,by omega⟩
end Go.Proofs.YtgkgihnpjgbmhaaGreatDoor
