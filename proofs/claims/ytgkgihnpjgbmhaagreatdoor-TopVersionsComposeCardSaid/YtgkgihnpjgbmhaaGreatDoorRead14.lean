/- Package pack: a reader of bytes. Conditions: there are enough bytes. -/
import Derived.Test.YtgkgihnpjgbmhaaGreatDoorKDec
import Derived.Test.YtgkgihnpjgbmhaaGreatDoorKCore3
set_option linter.unusedSimpArgs false
set_option linter.unusedVariables false
namespace Go.Proofs.YtgkgihnpjgbmhaaGreatDoor
open Tryz
open Go Go.RowKit Go.Inl
section
variable {P:Program} {n:Nat} {σ:Nat→Value} {S:World→Prop} {t t' ty:TypeId} {x y:Operand} {k':IntKind} {a b c:Int}
theorem g_shl8 (hx:ev n σ x = .int .i64 a)(hy:ev n σ y = .int k' 8)(h0:0≤a)(h1:a≤4294967296)(h:a*256=c):Gives P (ev n σ) S (.binOp .shl t x y t') ty (.int .i64 c):=fun w _=>by
 subst h;have h2:IntKind.i64.wrap (a*2 ^ 8)=a*256:=by rw[IntKind.wrap_i64]; omega
 simp[execOp,hx,hy,Sem.run_bind,eqGuard,binOp,Op.shift,Result.andThen,show min 8 (IntKind.i64.bits)=8 from rfl]
 exact h2
theorem g_or8 (hx:ev n σ x = .int .i64 (a*256))(hy:ev n σ y = .int .i64 b)(h0:0≤a)(h1:a≤4294967296)(h2:0≤b)(h3:b≤255)(h:256*a+b=c):Gives P (ev n σ) S (.binOp .or t x y t') ty (.int .i64 c):=fun w _=>by
 subst h;obtain⟨m,rfl⟩:=Int.eq_ofNat_of_zero_le h0;obtain⟨d,rfl⟩:=Int.eq_ofNat_of_zero_le h2;have e1:(BitVec.ofInt 64 ((m:Int)*256) ||| BitVec.ofInt 64 (d:Int)).toNat=256*m+d:=by
  rw[show(m:Int)*256=((m*256:Nat):Int) from rfl,BitVec.ofInt_natCast,BitVec.ofInt_natCast,BitVec.toNat_or,BitVec.toNat_ofNat,BitVec.toNat_ofNat,Nat.mod_eq_of_lt (by omega),Nat.mod_eq_of_lt (by omega)];have:=Nat.shiftLeft_add_eq_or_of_lt (i:=8) (b:=d) (by omega) m;rw[Nat.shiftLeft_eq]at this;rw[show m*256=m*2 ^ 8 from rfl,← this]; omega
 have e2:IntKind.i64.wrap ((256*m+d:Nat):Int)=256*(m:Int)+d:=by rw[IntKind.wrap_i64]; omega
 simp only[execOp,hx,hy,Sem.run_bind,eqGuard,binOp,Op.intBits,Result.andThen_ok,Sem.run_pure];rw[show(IntKind.i64).bits=64 from rfl,e1,e2];simp[Result.andThen]
theorem g_sliceHM {e : TypeId} {S : World → Prop} {ad : Option Addr} {len cap sz h0 : Nat} {kh km : IntKind} {h m : Int} {hi mx : Operand} (hT : P.underlying t = some (.slice e)) (hs : ∀ w, (sizeOf e).run P w = .ok sz w)
 (hx:ev n σ x = .slice ad len cap) (hh:ev n σ hi = .int kh h) (hm:ev n σ mx = .int km m) (h1:0≤h) (h2:m=h) (h3:m≤cap) (e1:h.toNat=h0) :
 Gives P (ev n σ) S (.slice t x none (some hi) (some mx)) ty (resl (.slice ad len cap) 0 h0 h0 sz):=fun w _=>by
 subst e1 h2;have e1:(Instr.sliceBound (.int km m) cap .slice3Acap).run P w = .ok m.toNat w:=run_sliceBound w km m cap _ (by omega) h3;have e2:(Instr.sliceBound (.int kh m) m.toNat .slice3B).run P w = .ok m.toNat w:=run_sliceBound w kh m _ _ (by omega) (by omega);simp[execOp,Instr.sliceAt,Sem.run_bind,run_underlying hT,hx,Instr.slice,Instr.sliceBounds,hh,hm,e1,e2,hs,resl]
end
theorem pow4 {j:Nat}(h:j≤4):(256:Int) ^ j≤4294967296:=by
 match j,h with
 | 0,_=>decide
 | 1,_=>decide
 | 2,_=>decide
 | 3,_=>decide
 | 4,_=>decide
theorem valC_take {l:List Int}{k:Nat}{y:Int}(h:l[k]? = some y):valC (l.take (k+1))=256*valC (l.take k)+y:=by rw[qy h,jp]
theorem zL {l:List Int}(h:Byt l)(k:Nat):Byt (l.take k):=fun y hy=>h y (List.mem_of_mem_take hy)
theorem byt_drop {l:List Int}(h:Byt l)(k:Nat):Byt (l.drop k):=fun y hy=>h y (List.mem_of_mem_drop hy)
set_option maxHeartbeats 1000000 in
theorem take_c (b : Nat) (ad : Option Addr) (cap : Nat) (l : List Int) (n : Nat) (w0 : World) (I0 : Imm) (hI : Sat I0 w0) (hb : w0.heap[b]? = some (.cells [.slice ad l.length cap].toArray 186 (0, 0))) (hn : I0 b = none) (hl : RBytes I0 (.slice ad l.length cap) l) (hnl : n ≤ l.length) :
 Ctr prog 98 [.pointer (some ⟨b,0,none⟩),.int .i64 n] w0 (fun v w'=>∃a1 c1 a2 c2,v = .slice a1 n c1∧St [b] w0 I0 I0 w' [.cel b 186 [.slice a2 (l.drop n).length c2]]∧RBytes I0 (.slice a1 n c1) (l.take n)∧RBytes I0 (.slice a2 (l.drop n).length c2) (l.drop n)):=by
 have hll:=RSl.le hl;simp only[maxLen]at hll;have hs1:=RSl.resl hl 0 n (by omega) hnl;rw[List.drop_zero]at hs1;obtain⟨a1,c1,hv1,_⟩:=hs1.len;rw[hv1]at hs1;rw[show(l.take n).length=n by rw[xc]; omega]at hv1 hs1;have hs2:=RSl.slL hl n hnl;obtain⟨a2,c2,hv2,_⟩:=hs2.len;rw[hv2]at hs2;have hcc:=(RSl.resl2 hl n l.length hnl (vX _)).2.1;refine fn (n:=32) func98 rfl rfl rfl ?_;have hS:St [b] w0 I0 I0 w0 [.cel b 186 [.slice ad l.length cap]]:=St.startX hI hb hn;refine QwR (qq hS (qc _) (QoN (vD (QwR (qq hS (Qmi rfl) (qq hS (qb _) (qq hS (qi rfl) (qq hS (qa (o':=0) uS rfl xj rfl rfl rfl) (qq hS (qd 0 ub rfl rfl rfl) (qq hS (qo rfl vH hl rfl) (qq hS (g_gtF13 rfl rfl (by omega)) (QoN (jf (rfl) (vL (vK (QwR (qq hS (qb _) (qq hS (qi rfl) (qq hS (qa (o':=0) uS rfl xj rfl rfl rfl) ?_)))))))))))))))))));refine qq hS (qd 0 ub rfl rfl rfl) (qq hS (Qmi rfl) (qq hS (Qmi rfl) (qq hS (jB (g_sliceHM (h0:=n) vH xd rfl rfl rfl (by omega) (by omega) (by omega) (by omega)) hv1) (qq hS (qc _) (QoR (qq hS (qb _) (qq hS (qb _) (qq hS (qi rfl) (qq hS (qa (o':=0) uS rfl xj rfl rfl rfl) (qq hS (qd 0 ub rfl rfl rfl) ?_))))))))));refine qq hS (Qmi rfl) (qq hS (jB (yc (l0:=n) vH xd rfl rfl (by omega) (by omega) (by omega)) hv2) (qq hS (qi rfl) (qq hS (qa (o':=0) uS rfl xj rfl rfl rfl) (qe (qf 0 hS xj rfl rfl rfl (vs:=[.slice _ _ _]) rfl rfl rfl (vB rfl) (cs':=[_]) rfl) ?_))));clear hS;rintro _ w_1⟨rfl,hS⟩;refine QoR (qq hS (qb _) (qq hS (qc _) (QoN (vM (ret1 results98 (qh rfl) ?_)))));exact⟨_,_,_,_,rfl,hS,hs1,hs2⟩
set_option maxHeartbeats 1000000 in
theorem number_c (b : Nat) (ad : Option Addr) (cap : Nat) (l : List Int) (n : Nat) (w0 : World) (I0 : Imm) (hI : Sat I0 w0) (hb : w0.heap[b]? = some (.cells [.slice ad l.length cap].toArray 186 (0, 0))) (hn : I0 b = none) (hl : RBytes I0 (.slice ad l.length cap) l) (hnl : n ≤ l.length) (hn4 : n ≤ 4) (hlb : Byt l) :
 Ctr prog 99 [.pointer (some ⟨b,0,none⟩),.int .i64 n] w0 (fun v w'=>∃a2 c2,v = .int .i64 (valC (l.take n))∧St [b] w0 I0 I0 w' [.cel b 186 [.slice a2 (l.drop n).length c2]]∧RBytes I0 (.slice a2 (l.drop n).length c2) (l.drop n)):=by
 have hlt:(l.take n).length=n:=by rw[xc]; omega
 refine fn (n:=23) func99 rfl rfl rfl ?_;have hS:St [b] w0 I0 I0 w0 [.cel b 186 [.slice ad l.length cap]]:=St.startX hI hb hn;refine QwR (qq hS (Qai rfl) (QoR (qq hS (Qai rfl) (QoN (vD (QwR (qq hS (qb _) (qq hS (Qmi rfl) (qe (qg uZ rfl (take_c b ad cap l n _ _ hS.imm (qA hS (k:=0) rfl) (qz hS (k:=0) rfl) hl hnl)) ?_)))))))));rintro _ w_1⟨a1,c1,a2,c2,rfl,hE,hs1,hs2⟩;replace hS:=hS.callX (k:=0) rfl hE;refine qq hS (qo rfl vH hs1 rfl) (qq hS (Qmi rfl) (QoN (vS (loop (fun(k:Nat) σ w=>okS σ [(5,.int .i64 (valC ((l.take n).take k))),(10,.slice a1 n c1),(11,.int .i64 (l.take n).length),(12,.int .i64 k)]∧St [b] w0 I0 I0 w [.cel b 186 [.slice a2 (l.drop n).length c2]]∧k≤n) (fun k=>n - k) (0) ?_ ?_))))
 ·
  exact⟨⟨rfl,rfl,rfl,rfl,trivial⟩,hS.sel [true],by omega⟩
 ·
  rintro k σ w_l⟨hs,hS,hk0⟩;rw[← qk hs]; clear hs
  refine QwR (qq hS (g_lss rfl rfl) (QoN (vD (qj rfl ?_ ?_))))
  ·
   intro hc13
   try simp only[zA,zO,zN,zI,zF,zM,zT,zU]at hc13
   obtain⟨y,hyi⟩:∃y,(l.take n)[k]? = some y:=⟨_,vC (by omega)⟩
   have hyA:=hs1.at hyi;have hyb:=zL hlb n y (vI hyi);have hvs:=(valC_take hyi).symm;have hvb:=valC_bd ((l.take n).take k) (zL (zL hlb n) k);have hvb2:valC ((l.take n).take k)≤4294967296:=by
    have h1:=pow4 (j:=((l.take n).take k).length) (by rw[xc]; omega);omega
   obtain⟨hvb,_⟩:=hvb;refine vL (vK (vD (vS (QwR (qq hS (g_ixI vH xd hs1 rfl rfl (by omega) (by omega)) (qq hS (qJ xR hyA rfl rfl) (qq hS (qr (v:=.int .u8 _) rfl) (QoN (reg (qq hS (Qmi rfl) (qq hS (g_shl8 rfl rfl (by omega) (by omega) rfl) (qq hS (qs (v:=.int .u8 _) rfl) (qq hS (yw xI uv rfl (by omega) (by omega)) ?_)))))))))))));refine qq hS (g_or8 rfl rfl (by omega) (by omega) (by omega) (by omega) hvs) (qq hS (Qai rfl) (qB (xO (vK (reg (qq hS (g_add rfl rfl (by omega) (by omega)) (qq hS (Qmi rfl) ?_)))))));exact⟨k+1,_,rfl,⟨⟨rfl,rfl,rfl,rfl,trivial⟩,hS.sel [true],by omega⟩,by omega⟩
  ·
   intro hc13
   try simp only[zA,zO,zN,zI,zF,zM,zT,zU]at hc13
   obtain rfl:k=n:=by omega
   rw[List.take_take,Nat.min_self]at *;refine xm (xh (xh (ua (vK (QwR (qq hS (Qmi rfl) (qq hS (Qai rfl) (QoN (vM (ret1 results99 (qh (v:=.int .i64 _) rfl) ?_))))))))));exact⟨_,_,rfl,hS,hs2⟩
theorem kZ {n:Int}(h:0≤n∧n < 256):valC (numB 1 n)=n:=by
 have e:numB 1 n=[n / 1 % 256]:=rfl;rw[e]; show 256*0+n / 1 % 256=n; omega
theorem valC_num2 {n:Int}(h:0≤n∧n < 65536):valC (numB 2 n)=n:=by
 have e:numB 2 n=[n / 256 % 256,n / 1 % 256]:=rfl;rw[e]; show 256*(256*0+n / 256 % 256)+n / 1 % 256=n; omega
theorem qU {n:Int}(h:0≤n∧n < 16777216):valC (numB 3 n)=n:=by
 have e:numB 3 n=[n / 65536 % 256,n / 256 % 256,n / 1 % 256]:=rfl;rw[e]; show 256*(256*(256*0+n / 65536 % 256)+n / 256 % 256)+n / 1 % 256=n; omega
theorem je {l m:List Int}(h:Byt l)(k:Byt m):Byt (l++m):=fun x hx=>(xA.1 hx).elim (h x) (k x)
theorem num_c (b : Nat) (ad : Option Addr) (cap : Nat) (l : List Int) (w : Nat) (n : Int) (r : List Int) (w0 : World) (I0 : Imm) (hI : Sat I0 w0) (hb : w0.heap[b]? = some (.cells [.slice ad l.length cap].toArray 186 (0, 0))) (hn : I0 b = none) (hl : RBytes I0 (.slice ad l.length cap) l) (hle : l = numB w n ++ r) (hw : w ≤ 4) (hv : valC (numB w n) = n) (hr : Byt r) :
 Ctr prog 99 [.pointer (some ⟨b,0,none⟩),.int .i64 w] w0 (fun v w'=>∃a2 c2,v = .int .i64 n∧St [b] w0 I0 I0 w' [.cel b 186 [.slice a2 r.length c2]]∧RBytes I0 (.slice a2 r.length c2) r):=by
 subst hle;refine(number_c b ad cap _ w w0 I0 hI hb hn hl (by rw[vE,jH]; omega) hw (je (qZ _ _) hr)).mono ?_;rintro v w' ⟨a2,c2,rfl,hS,h⟩;have e1:(numB w n++r).take w=numB w n:=by rw[ui (by rw[jH]; omega),uh (by rw[jH]; omega)]
 have e2:(numB w n++r).drop w=r:=by rw[List.drop_append_of_le_length (by rw[jH]; omega),uG (by rw[jH]; omega)]; rfl
 rw[e2]at hS h;exact⟨a2,c2,by rw[e1,hv],hS,h⟩
theorem jM (b : Nat) (ad : Option Addr) (cap : Nat) (l d r : List Int) (ni : Int) (w0 : World) (I0 : Imm) (hI : Sat I0 w0) (hb : w0.heap[b]? = some (.cells [.slice ad l.length cap].toArray 186 (0, 0))) (hn : I0 b = none) (hl : RBytes I0 (.slice ad l.length cap) l) (hle : l = d ++ r) (hni : ni = d.length) :
 Ctr prog 98 [.pointer (some ⟨b,0,none⟩),.int .i64 ni] w0 (fun v w'=>∃a1 c1 a2 c2,v = .slice a1 d.length c1∧St [b] w0 I0 I0 w' [.cel b 186 [.slice a2 r.length c2]]∧RBytes I0 (.slice a1 d.length c1) d∧RBytes I0 (.slice a2 r.length c2) r):=by
 subst hle hni;refine(take_c b ad cap _ d.length w0 I0 hI hb hn hl (by rw[vE]; omega)).mono ?_;rintro v w' ⟨a1,c1,a2,c2,rfl,hS,h1,h2⟩;have e1:(d++r).take d.length=d:=by rw[ui (vX _),xB]
 have e2:(d++r).drop d.length=r:=by rw[List.drop_append_of_le_length (vX _),List.drop_length]; rfl
 rw[e2]at hS h2;rw[e1]at h1;exact⟨a1,c1,a2,c2,rfl,hS,h1,h2⟩
set_option maxHeartbeats 1000000 in
theorem decode_c (M : Mdl) (hM : MdlOk M) (s0 : M.S) (hs0 : M.inv s0) (n : Int) (hbeg : ∀ (w : World) (I : Imm), Sat I w → Ctr prog 94 [.int .i64 n] w (fun v w' => ∃ I' F, Ext w I w' I' ∧ M.holds I' v s0 F ∧ ∀ c ∈ F, w.heap.size ≤ c))
 (x:List Int) (hx:Byt x) (hxl:x.length≤65536) (ad:Option Addr) (cap:Nat) (b:List Int) (hbe:encP M s0 x=b) (w0:World) (I0:Imm) (hI:Sat I0 w0) (hb:RBytes I0 (.slice ad b.length cap) b) :
 Ctr prog 100 [.int .i64 n,.slice ad b.length cap,.int .i64 x.length] w0 (fun v w'=>∃I' rb a c,v = .pointer (some ⟨rb,0,none⟩)∧St [] w0 I0 I' w' [.cel rb 186 [.slice a x.length c]]∧RBytes I' (.slice a x.length c) x):=by
 refine fn (n:=23) func100 rfl rfl rfl ?_;have hS:=St.start hI;refine QwR (qq hS (qc _) (QoR (qq hS (Qmi rfl) (qq hS (qb _) (qq hS (Qmi rfl) (qe (qg call130 rfl (dec_c M hM s0 hs0 n hbeg x hx hxl _ _ b hbe _ _ hS.imm hb)) ?_))))));rintro _ w_1⟨I_f,a13,c13,rfl,hE,h13⟩;replace hS:=hS.callE hE;refine qq hS (qb _) (qq hS (qm rfl rfl) (qq hS (Qxi rfl rfl) (qq hS (qc _) (qq hS (Qai rfl) (QoN (vD (QwR (qq hS (Qmi rfl) (qq hS (g_neq rfl rfl) (QoN (jf (rfl) (vL (vK (QwR (qq hS (qb _) (qq hS (qt (pl:=[(0,1)]) (cs:=[.slice _ _ _]) zeroValue186 uS (fun w=>by simp[xj]) (mp rfl mp0) rfl) ?_))))))))))))))));refine qe (d_box (cs:=[.slice _ _ _]) hS rfl) ?_;clear hS;rintro _ w_2⟨rb,rfl,hS⟩;refine qq hS (qc _) (QoN (vM (ret1 results100 (qh rfl) ?_)));exact⟨_,rb,_,_,rfl,hS,h13⟩
set_option maxHeartbeats 1000000 in
theorem zk (ad : Option Addr) (cap : Nat) (l : List Int) (w0 : World) (I0 : Imm) (hI : Sat I0 w0) (hl : RBytes I0 (.slice ad l.length cap) l) (h1 : 1 ≤ l.length) (h2 : l.length ≤ 1000000) :
 Ctr prog 131 [.slice ad l.length cap] w0 (fun v w'=>∃I' a c,v = .slice a l.length c∧Ext w0 I0 w' I'∧RBytes I' (.slice a l.length c) l):=by
 have hll:=RSl.le hl;simp only[maxLen]at hll;obtain⟨aa,rfl⟩:∃aa,ad=some aa:=by
  rcases hl with ⟨_,rfl⟩ | ⟨b,o,c,h2,_⟩
  · simp at h1
  · injection h2 with h2; exact⟨_,h2⟩
 refine fn (n:=8) func131 rfl rfl rfl ?_;have hS:=St.start hI;refine QwR (qq hS (qc _) (QoN (vD (QwR (qq hS (qb _) (qq hS (g_eqSliceNil vH rfl rfl) (QoN (jf (rfl) (vL (vK (QwR (qe (d_buildSlice0 hS vH xd) ?_))))))))))));clear hS;rintro _ w_1⟨hS,b5_,rfl⟩;refine qq hS (qb _) (qe (qW 0 hS rfl vH uH rfl rfl rfl rfl qx (fun _=>rfl) hl rfl (by omega) (by omega)) ?_);clear hS;rintro _ w_2⟨a7,p7,rfl,hS⟩;refine qq hS (qc _) (QoN (vM (ret1 results131 (qh rfl) ?_)));rw[xV,uY]at hS;obtain⟨I9,hS9,_,h9⟩:=St.freezeRow (u:=.slice a7 l.length p7) (m:=l.length) (E:=5) (xs:=l) qx hS rfl;rw[xV];exact⟨I9,a7,p7,rfl,hS9,h9⟩
end Go.Proofs.YtgkgihnpjgbmhaaGreatDoor
