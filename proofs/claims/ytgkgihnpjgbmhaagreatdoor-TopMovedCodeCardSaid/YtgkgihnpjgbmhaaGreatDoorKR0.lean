/- Package pack: a reader of bytes. Conditions: there are enough bytes. Package pack: an operation is read. Conditions: it is a right one. Package pack: what the deferred call of read does. Conditions: none. -/
import Derived.Test.YtgkgihnpjgbmhaaGreatDoorKDec
import Derived.Test.YtgkgihnpjgbmhaaGreatDoorKCore3
set_option linter.unusedSimpArgs false
set_option linter.unusedVariables false
namespace Go.Proofs.YtgkgihnpjgbmhaaGreatDoor
open Tryz
open Go Go.RowKit Go.Inl
section
variable {P:Program} {n:Nat} {σ:Nat→Value} {S:World→Prop} {t t' ty:TypeId} {x y:Operand} {k':IntKind} {a b c:Int}
theorem g_shl8 (hx:ev n σ x = .ig a)(hy:ev n σ y = .int k' 8)(h0:0≤a)(h1:a≤4294967296)(h:a*256=c):Gives P (ev n σ) S (.binOp .shl t x y t') ty (.ig c):=fun w _=>by
 subst h;have h2:IntKind.i64.wrap (a*2 ^ 8)=a*256:=by rw[IntKind.wrap_i64]; omega
 simp[execOp,hx,hy,Sem.run_bind,eqGuard,binOp,Op.shift,Result.andThen,show min 8 (IntKind.i64.bits)=8 from rfl]
 exact h2
theorem g_or8 (hx:ev n σ x = .ig (a*256))(hy:ev n σ y = .ig b)(h0:0≤a)(h1:a≤4294967296)(h2:0≤b)(h3:b≤255)(h:256*a+b=c):Gives P (ev n σ) S (.binOp .or t x y t') ty (.ig c):=fun w _=>by
 subst h;obtain⟨m,rfl⟩:=Int.eq_ofNat_of_zero_le h0;obtain⟨d,rfl⟩:=Int.eq_ofNat_of_zero_le h2;have e1:(BitVec.ofInt 64 ((m:Int)*256) ||| BitVec.ofInt 64 (d:Int)).toNat=256*m+d:=by
  rw[show(m:Int)*256=((m*256:Nat):Int) from rfl,BitVec.ofInt_natCast,BitVec.ofInt_natCast,BitVec.toNat_or,BitVec.toNat_ofNat,BitVec.toNat_ofNat,Nat.mod_eq_of_lt (by omega),Nat.mod_eq_of_lt (by omega)];have:=Nat.shiftLeft_add_eq_or_of_lt (i:=8) (b:=d) (by omega) m;rw[Nat.shiftLeft_eq]at this;rw[show m*256=m*2 ^ 8 from rfl,← this]; omega
 have e2:IntKind.i64.wrap ((256*m+d:Nat):Int)=256*(m:Int)+d:=by rw[IntKind.wrap_i64]; omega
 simp only[execOp,hx,hy,Sem.run_bind,eqGuard,binOp,Op.intBits,Result.andThen_ok,Sem.run_pure];rw[show(IntKind.i64).bits=64 from rfl,e1,e2];simp[Result.andThen]
theorem g_sliceHM {e : TypeId} {S : World → Prop} {ad : Option Addr} {len cap sz h0 : Nat} {kh km : IntKind} {h m : Int} {hi mx : Operand} (hT : P.underlying t = some (.slice e)) (hs : ∀ w, (sizeOf e).run P w = .ok sz w)
 (hx:ev n σ x = .sg ad len cap) (hh:ev n σ hi = .int kh h) (hm:ev n σ mx = .int km m) (h1:0≤h) (h2:m=h) (h3:m≤cap) (e1:h.toNat=h0) :
 Gives P (ev n σ) S (.slice t x none (some hi) (some mx)) ty (resl (.slice ad len cap) 0 h0 h0 sz):=fun w _=>by
 subst e1 h2;have e1:(Instr.sliceBound (.int km m) cap .slice3Acap).run P w = .ok m.toNat w:=run_sliceBound w km m cap _ (by omega) h3;have e2:(Instr.sliceBound (.int kh m) m.toNat .slice3B).run P w = .ok m.toNat w:=run_sliceBound w kh m _ _ (by omega) (by omega);simp[execOp,Instr.sliceAt,Sem.run_bind,run_underlying hT,hx,Instr.slice,Instr.sliceBounds,hh,hm,e1,e2,hs,resl]
end
theorem pow4 {j:Nat}(h:j≤4):(256:Int) ^ j≤4294967296:=by
 match j,h with
 | 0,_=>decide
 | 1,_=>decide
 | 2,_=>decide
 | 3,_=>decide
 | 4,_=>decide
theorem valC_take {l:List Int}{k:Nat}{y:Int}(h:l[k]? = some y):valC (l.take (k+1))=256*valC (l.take k)+y:=by rw[qz h,jK]
theorem vC {l:List Int}(h:Byt l)(k:Nat):Byt (l.take k):=fun y hy=>h y (List.mem_of_mem_take hy)
theorem byt_drop {l:List Int}(h:Byt l)(k:Nat):Byt (l.drop k):=fun y hy=>h y (List.mem_of_mem_drop hy)
set_option maxHeartbeats 1000000 in
theorem take_c (b : Nat) (ad : Option Addr) (cap : Nat) (l : List Int) (n : Nat) (w0 : World) (I0 : Imm) (hI : Sat I0 w0) (hb : w0.heap[b]? = some (.cells [.sg ad l.length cap].toArray 186 (0, 0))) (hn : I0 b = none) (hl : RBytes I0 (.sg ad l.length cap) l) (hnl : n ≤ l.length) :
 Ctr prog 98 [.zg b,.ig n] w0 (fun v w'=>∃a1 c1 a2 c2,v = .sg a1 n c1∧St [b] w0 I0 I0 w' [.cel b 186 [.slice a2 (l.drop n).length c2]]∧RBytes I0 (.sg a1 n c1) (l.take n)∧RBytes I0 (.slice a2 (l.drop n).length c2) (l.drop n)):=by
 have hll:=RSl.le hl;simp only[maxLen]at hll;have hs1:=RSl.resl hl 0 n (by omega) hnl;rw[List.drop_zero]at hs1;obtain⟨a1,c1,hv1,_⟩:=hs1.len;rw[hv1]at hs1;rw[show(l.take n).length=n by rw[uo]; omega]at hv1 hs1;have hs2:=RSl.slL hl n hnl;obtain⟨a2,c2,hv2,_⟩:=hs2.len;rw[hv2]at hs2;have hcc:=(RSl.resl2 hl n l.length hnl (uc _)).2.1;refine fn (n:=32) func98 rfl rfl rfl ?_;have Z:St [b] w0 I0 I0 w0 [.cel b 186 [.sg ad l.length cap]]:=St.startX hI hb hn;refine QwR (qq Z (qd _) (QoN (xJ (QwR (qq Z (Qmi rfl) (qq Z (qb _) (qq Z (qm rfl) (qq Z (qa (o':=0) Jy rfl uI rfl rfl rfl) (qq Z (qc 0 Qx rfl rfl rfl) (qq Z (qo rfl xQ hl rfl) (qq Z (g_gtF13 rfl rfl (by omega)) (QoN (qV (rfl) (xM (xL (QwR (qq Z (qb _) (qq Z (qm rfl) (qq Z (qa (o':=0) Jy rfl uI rfl rfl rfl) ?_)))))))))))))))))));refine qq Z (qc 0 Qx rfl rfl rfl) (qq Z (Qmi rfl) (qq Z (Qmi rfl) (qq Z (kt (g_sliceHM (h0:=n) xQ un rfl rfl rfl (by omega) (by omega) (by omega) (by omega)) hv1) (qq Z (qd _) (QoR (qq Z (qb _) (qq Z (qb _) (qq Z (qm rfl) (qq Z (qa (o':=0) Jy rfl uI rfl rfl rfl) (qq Z (qc 0 Qx rfl rfl rfl) ?_))))))))));refine qq Z (Qmi rfl) (qq Z (kt (kj (l0:=n) xQ un rfl rfl (by omega) (by omega) (by omega)) hv2) (qq Z (qm rfl) (qq Z (qa (o':=0) Jy rfl uI rfl rfl rfl) (qe (qf 0 Z uI rfl rfl rfl (vs:=[.sg _ _ _]) rfl rfl rfl (xH rfl) (cs':=[_]) rfl) ?_))));clear Z;rintro _ w_1⟨rfl,Z⟩;refine QoR (qq Z (qb _) (qq Z (qd _) (QoN (xO (ret1 results98 (qg rfl) ?_)))));exact⟨_,_,_,_,rfl,Z,hs1,hs2⟩
set_option maxHeartbeats 1000000 in
theorem number_c (b : Nat) (ad : Option Addr) (cap : Nat) (l : List Int) (n : Nat) (w0 : World) (I0 : Imm) (hI : Sat I0 w0) (hb : w0.heap[b]? = some (.cells [.sg ad l.length cap].toArray 186 (0, 0))) (hn : I0 b = none) (hl : RBytes I0 (.sg ad l.length cap) l) (hnl : n ≤ l.length) (hn4 : n ≤ 4) (hlb : Byt l) :
 Ctr prog 99 [.zg b,.ig n] w0 (fun v w'=>∃a2 c2,v = .ig (valC (l.take n))∧St [b] w0 I0 I0 w' [.cel b 186 [.slice a2 (l.drop n).length c2]]∧RBytes I0 (.slice a2 (l.drop n).length c2) (l.drop n)):=by
 have hlt:(l.take n).length=n:=by rw[uo]; omega
 refine fn (n:=23) func99 rfl rfl rfl ?_;have Z:St [b] w0 I0 I0 w0 [.cel b 186 [.sg ad l.length cap]]:=St.startX hI hb hn;refine QwR (qq Z (Qai rfl) (QoR (qq Z (Qai rfl) (QoN (xJ (QwR (qq Z (qb _) (qq Z (Qmi rfl) (qe (qi JK rfl (take_c b ad cap l n _ _ Z.imm (qG Z (k:=0) rfl) (qF Z (k:=0) rfl) hl hnl)) ?_)))))))));rintro _ w_1⟨a1,c1,a2,c2,rfl,hE,hs1,hs2⟩;replace Z:=Z.callX (k:=0) rfl hE;refine qq Z (qo rfl xQ hs1 rfl) (qq Z (Qmi rfl) (QoN (xU (loop (fun(k:Nat) σ w=>okS σ [(5,.ig (valC ((l.take n).take k))),(10,.sg a1 n c1),(11,.ig (l.take n).length),(12,.ig k)]∧St [b] w0 I0 I0 w [.cel b 186 [.slice a2 (l.drop n).length c2]]∧k≤n) (fun k=>n - k) (0) ?_ ?_))))
 ·
  exact⟨⟨rfl,rfl,rfl,rfl,trivial⟩,Z.sel [true],by omega⟩
 ·
  rintro k σ w_l⟨hs,Z,hk0⟩;rw[← qj hs]; clear hs
  refine QwR (qq Z (g_lss rfl rfl) (QoN (xJ (qh rfl ?_ ?_))))
  ·
   intro hc13
   try simp only[zA,zO,zN,zI,zF,zM,zT,zU]at hc13
   obtain⟨y,hyi⟩:∃y,(l.take n)[k]? = some y:=⟨_,xI (by omega)⟩
   have hyA:=hs1.at hyi;have hyb:=vC hlb n y (xR hyi);have hvs:=(valC_take hyi).symm;have hvb:=valC_bd ((l.take n).take k) (vC (vC hlb n) k);have hvb2:valC ((l.take n).take k)≤4294967296:=by
    have h1:=pow4 (j:=((l.take n).take k).length) (by rw[uo]; omega);omega
   obtain⟨hvb,_⟩:=hvb;refine xM (xL (xJ (xU (QwR (qq Z (g_ixI xQ un hs1 rfl rfl (by omega) (by omega)) (qq Z (qt uZ hyA rfl rfl) (qq Z (qv (v:=.bg _) rfl) (QoN (reg (qq Z (Qmi rfl) (qq Z (g_shl8 rfl rfl (by omega) (by omega) rfl) (qq Z (qx (v:=.bg _) rfl) (qq Z (qK uA ut rfl (by omega) (by omega)) (qq Z (g_or8 rfl rfl (by omega) (by omega) (by omega) (by omega) hvs) ?_))))))))))))));refine qq Z (Qai rfl) (qy (uM (xL (reg (qq Z (g_add rfl rfl (by omega) (by omega)) (qq Z (Qmi rfl) ?_))))));exact⟨k+1,_,rfl,⟨⟨rfl,rfl,rfl,rfl,trivial⟩,Z.sel [true],by omega⟩,by omega⟩
  ·
   intro hc13
   try simp only[zA,zO,zN,zI,zF,zM,zT,zU]at hc13
   obtain rfl:k=n:=by omega
   rw[List.take_take,Nat.min_self]at *;refine ur (um (um (Qi (xL (QwR (qq Z (Qmi rfl) (qq Z (Qai rfl) (QoN (xO (ret1 results99 (qg (v:=.ig _) rfl) ?_))))))))));exact⟨_,_,rfl,Z,hs2⟩
theorem yu {n:Int}(h:0≤n∧n < 256):valC (numB 1 n)=n:=by
 have e:numB 1 n=[n / 1 % 256]:=rfl;rw[e]; show 256*0+n / 1 % 256=n; omega
theorem valC_num2 {n:Int}(h:0≤n∧n < 65536):valC (numB 2 n)=n:=by
 have e:numB 2 n=[n / 256 % 256,n / 1 % 256]:=rfl;rw[e]; show 256*(256*0+n / 256 % 256)+n / 1 % 256=n; omega
theorem ji {n:Int}(h:0≤n∧n < 16777216):valC (numB 3 n)=n:=by
 have e:numB 3 n=[n / 65536 % 256,n / 256 % 256,n / 1 % 256]:=rfl;rw[e]; show 256*(256*(256*0+n / 65536 % 256)+n / 256 % 256)+n / 1 % 256=n; omega
theorem jw {l m:List Int}(h:Byt l)(k:Byt m):Byt (l++m):=fun x hx=>(uJ.1 hx).elim (h x) (k x)
theorem num_c (b : Nat) (ad : Option Addr) (cap : Nat) (l : List Int) (w : Nat) (n : Int) (r : List Int) (w0 : World) (I0 : Imm) (hI : Sat I0 w0) (hb : w0.heap[b]? = some (.cells [.sg ad l.length cap].toArray 186 (0, 0))) (hn : I0 b = none) (hl : RBytes I0 (.sg ad l.length cap) l) (hle : l = numB w n ++ r) (hw : w ≤ 4) (hv : valC (numB w n) = n) (hr : Byt r) :
 Ctr prog 99 [.zg b,.ig w] w0 (fun v w'=>∃a2 c2,v = .ig n∧St [b] w0 I0 I0 w' [.cel b 186 [.sg a2 r.length c2]]∧RBytes I0 (.sg a2 r.length c2) r):=by
 subst hle;refine(number_c b ad cap _ w w0 I0 hI hb hn hl (by rw[xN,kz]; omega) hw (jw (jq _ _) hr)).mono ?_;rintro v w' ⟨a2,c2,rfl,Z,h⟩;have e1:(numB w n++r).take w=numB w n:=by rw[QK (by rw[kz]; omega),QC (by rw[kz]; omega)]
 have e2:(numB w n++r).drop w=r:=by rw[List.drop_append_of_le_length (by rw[kz]; omega),QV (by rw[kz]; omega)]; rfl
 rw[e2]at Z h;exact⟨a2,c2,by rw[e1,hv],Z,h⟩
theorem kG (b : Nat) (ad : Option Addr) (cap : Nat) (l d r : List Int) (ni : Int) (w0 : World) (I0 : Imm) (hI : Sat I0 w0) (hb : w0.heap[b]? = some (.cells [.sg ad l.length cap].toArray 186 (0, 0))) (hn : I0 b = none) (hl : RBytes I0 (.sg ad l.length cap) l) (hle : l = d ++ r) (hni : ni = d.length) :
 Ctr prog 98 [.zg b,.ig ni] w0 (fun v w'=>∃a1 c1 a2 c2,v = .sg a1 d.length c1∧St [b] w0 I0 I0 w' [.cel b 186 [.sg a2 r.length c2]]∧RBytes I0 (.sg a1 d.length c1) d∧RBytes I0 (.sg a2 r.length c2) r):=by
 subst hle hni;refine(take_c b ad cap _ d.length w0 I0 hI hb hn hl (by rw[xN]; omega)).mono ?_;rintro v w' ⟨a1,c1,a2,c2,rfl,Z,h1,h2⟩;have e1:(d++r).take d.length=d:=by rw[QK (uc _),uL]
 have e2:(d++r).drop d.length=r:=by rw[List.drop_append_of_le_length (uc _),List.drop_length]; rfl
 rw[e2]at Z h2;rw[e1]at h1;exact⟨a1,c1,a2,c2,rfl,Z,h1,h2⟩
set_option maxHeartbeats 1000000 in
theorem decode_c (M : Mdl) (hM : MdlOk M) (s0 : M.S) (hs0 : M.inv s0) (n : Int) (hbeg : ∀ (w : World) (I : Imm), Sat I w → Ctr prog 94 [.ig n] w (fun v w' => ∃ I' F, Ext w I w' I' ∧ M.holds I' v s0 F ∧ ∀ c ∈ F, w.heap.size ≤ c))
 (x:List Int) (hx:Byt x) (hxl:x.length≤65536) (ad:Option Addr) (cap:Nat) (b:List Int) (hbe:encP M s0 x=b) (w0:World) (I0:Imm) (hI:Sat I0 w0) (hb:RBytes I0 (.sg ad b.length cap) b) :
 Ctr prog 100 [.ig n,.sg ad b.length cap,.ig x.length] w0 (fun v w'=>∃I' rb a c,v = .zg rb∧St [] w0 I0 I' w' [.cel rb 186 [.sg a x.length c]]∧RBytes I' (.sg a x.length c) x):=by
 refine fn (n:=23) func100 rfl rfl rfl ?_;have Z:=St.start hI;refine QwR (qq Z (qd _) (QoR (qq Z (Qmi rfl) (qq Z (qb _) (qq Z (Qmi rfl) (qe (qi call130 rfl (dec_c M hM s0 hs0 n hbeg x hx hxl _ _ b hbe _ _ Z.imm hb)) ?_))))));rintro _ w_1⟨I_f,a13,c13,rfl,hE,h13⟩;replace Z:=Z.callE hE;refine qq Z (qb _) (qq Z (qk rfl rfl) (qq Z (Qxi rfl rfl) (qq Z (qd _) (qq Z (Qai rfl) (QoN (xJ (QwR (qq Z (Qmi rfl) (qq Z (g_neq rfl rfl) (QoN (qV (rfl) (xM (xL (QwR (qq Z (qb _) (qq Z (qs (pl:=[(0,1)]) (cs:=[.sg _ _ _]) zeroValue186 Jy (fun w=>by simp[uI]) (mp rfl mp0) rfl) (qe (d_box (cs:=[.sg _ _ _]) Z rfl) ?_)))))))))))))))));clear Z;rintro _ w_2⟨rb,rfl,Z⟩;refine qq Z (qd _) (QoN (xO (ret1 results100 (qg rfl) ?_)));exact⟨_,rb,_,_,rfl,Z,h13⟩
set_option maxHeartbeats 1000000 in
theorem yL (ad : Option Addr) (cap : Nat) (l : List Int) (w0 : World) (I0 : Imm) (hI : Sat I0 w0) (hl : RBytes I0 (.sg ad l.length cap) l) (h1 : 1 ≤ l.length) (h2 : l.length ≤ 1000000) :
 Ctr prog 131 [.sg ad l.length cap] w0 (fun v w'=>∃I' a c,v = .sg a l.length c∧Ext w0 I0 w' I'∧RBytes I' (.sg a l.length c) l):=by
 have hll:=RSl.le hl;simp only[maxLen]at hll;obtain⟨aa,rfl⟩:∃aa,ad=some aa:=by
  rcases hl with ⟨_,rfl⟩ | ⟨b,o,c,h2,_⟩
  · simp at h1
  · injection h2 with h2; exact⟨_,h2⟩
 refine fn (n:=8) func131 rfl rfl rfl ?_;have Z:=St.start hI;refine QwR (qq Z (qd _) (QoN (xJ (QwR (qq Z (qb _) (qq Z (g_eqSliceNil xQ rfl rfl) (QoN (qV (rfl) (xM (xL (QwR (qe (jo Z xQ un) ?_))))))))))));clear Z;rintro _ w_1⟨Z,b5_,rfl⟩;refine qq Z (qb _) (qe (qO 0 Z rfl xQ QP rfl rfl rfl rfl qA (fun _=>rfl) hl rfl (by omega) (by omega)) ?_);clear Z;rintro _ w_2⟨a7,p7,rfl,Z⟩;refine qq Z (qd _) (QoN (xO (ret1 results131 (qg rfl) ?_)));rw[Qv,Ja]at Z;obtain⟨I9,hS9,_,h9⟩:=St.freezeRow (u:=.sg a7 l.length p7) (m:=l.length) (E:=5) (xs:=l) qA Z rfl;rw[Qv];exact⟨I9,a7,p7,rfl,hS9,h9⟩
end Go.Proofs.YtgkgihnpjgbmhaaGreatDoor
namespace Go.Proofs.YtgkgihnpjgbmhaaGreatDoor
open Tryz
open Go Go.RowKit Go.Inl
structure OpS (x : OpL) : Prop where
 b:x.kind≠3→x.b=0
 from_:3≤x.kind→x.from_=0
 none:x.kind≠2→x.kind≠4→x.data=[]
 some:x.kind=2∨x.kind=4→(x.data.length:Int)=x.len
theorem opS_of {x:OpL}{n:Int}(h:rightP x n=true):OpS x:=by
 unfold rightP at h;split at h
 · simp only [insideP, uC, ua] at h
   exact⟨fun _=>h.1.2,fun _=>by omega,fun _ _=>Qs.1 (by omega),fun _=>by omega⟩
 · split at h
   · simp only [insideP, uC, ua] at h
     exact⟨fun _=>h.1.2,fun _=>by omega,fun _ _=>by omega,fun _=>h.2⟩
   · split at h
     · simp only [uC, ua] at h
       exact⟨fun _=>by omega,fun _=>h.1,fun _ _=>Qs.1 (by omega),fun _=>by omega⟩
     · split at h
       · simp only [uC, ua] at h
         exact⟨fun _=>h.1.2,fun _=>h.1.1,fun _ _=>by omega,fun _=>h.2⟩
       · cases h
theorem jl {x:OpL}{k f l b:Int}{v:Value}(h1:k=x.kind)(h2:f=x.from_)(h3:l=x.len)(h4:b=x.b):Value.agg #[.ig k,.ig f,.ig l,.bg b,v] = .agg #[.ig x.kind,.ig x.from_,.ig x.len,.bg x.b,v]:=by subst h1 h2 h3 h4; rfl
theorem zG (w:Nat)(a:Int):numsB w [a]=numB w a:=by show numB w a++[]=_; rw[List.append_nil]
theorem numsB_2 (w:Nat)(a b:Int):numsB w [a,b]=numB w a++numB w b:=by show numB w a++(numB w b++[])=_; rw[List.append_nil]
theorem ol_1 {x:OpL}(h:x.kind=1∨x.kind=2)(r:List Int):opB x++r=numB 1 x.kind++(numB 3 x.from_++(numB 3 x.len++r)):=by unfold opB; rw[xS h,zG,numsB_2]; simp only[uh]
theorem ol_3 {x:OpL}(h:x.kind=3)(r:List Int):opB x++r=numB 1 x.kind++(numB 3 x.len++(numB 1 x.b++r)):=by unfold opB; rw[xP (by omega),xS h,zG,zG,zG]; simp only[uh]
theorem ol_4 {x:OpL}(h:x.kind=4)(r:List Int):opB x++r=numB 1 x.kind++(numB 3 x.len++r):=by unfold opB; rw[xP (by omega),xP (by omega),zG,zG]; simp only[uh]
set_option maxHeartbeats 1000000 in
theorem op_c (x : OpL) (hG : OpG x) (hsh : OpS x) (rest1 rest2 : List Int) (hr1 : Byt rest1) (lb db : Nat) (la da : Option Addr) (lc dc : Nat) (XX : List Nat) (w0 : World) (I0 : Imm) (hl : RBytes I0 (.slice la (opB x ++ rest1).length lc) (opB x ++ rest1)) (hd : RBytes I0 (.slice da (x.data ++ rest2).length dc) (x.data ++ rest2)) (hS0 : St XX w0 I0 I0 w0 [.cel lb 186 [.slice la (opB x ++ rest1).length lc], .cel db 186 [.slice da (x.data ++ rest2).length dc]]) :
 Ctr prog 101 [.zg lb,.zg db] w0 (fun v w'=>∃I' a m c a1 c1 a2 c2,v=opV x a m c∧St XX w0 I0 I' w' [.cel lb 186 [.sg a1 rest1.length c1],.cel db 186 [.sg a2 rest2.length c2]]∧RBytes I' (.sg a m c) x.data∧RBytes I0 (.sg a1 rest1.length c1) rest1∧RBytes I0 (.sg a2 rest2.length c2) rest2):=by
 obtain⟨⟨g1,g2⟩,⟨g3,g4⟩,⟨g5,g6⟩,⟨g7,g8⟩,g9,g10⟩:=hG;have hsb:=hsh.b;have hsf:=hsh.from_;obtain⟨t1,ht1⟩:∃t,opB x++rest1=numB 1 x.kind++t:=⟨_,by unfold opB; rw[zG,uh]⟩
 have hbt:Byt t1:=fun y hy=>(jw (opB_byt x) hr1) y (by rw[ht1]; exact List.mem_append_right _ hy)
 refine fn (n:=47) func101 rfl rfl rfl ?_;have Z:=hS0;refine QwR (qe (qr (cs:=[.ig _,.ig _,.ig _,.bg _,.sg _ _ _]) Z QE rfl) ?_);clear Z;rintro _ w_1⟨b4,rfl,Z⟩;refine QoR (qq Z (qb _) (qe (qi Jg rfl (num_c lb _ _ _ 1 x.kind (t1) _ _ Z.imm (qG Z (k:=1) rfl) (qF Z (k:=1) rfl) hl ht1 (by decide) (yu (by omega)) hbt)) ?_));rintro _ w_2⟨aL,cL,rfl,hE,hsL⟩;replace Z:=Z.callX (k:=1) rfl hE;refine qq Z (qs (pl:=[(0,1),(1,1),(2,1),(3,1),(4,1)]) (cs:=[.ig _,.ig _,.ig _,.bg _,.sg _ _ _]) QE uj (fun w=>by simp[uI,xK,un]) (mp (v:=.ig _) rfl mp0) rfl) (qe (qr (cs:=[.ig _,.ig _,.ig _,.bg _,.sg _ _ _]) Z QE rfl) ?_);clear Z;rintro _ w_3⟨b5,rfl,Z⟩;refine qe (qf 0 Z uz rfl rfl rfl (vs:=[.ig _,.ig _,.ig _,.bg _,.sg _ _ _]) rfl rfl rfl (xH rfl) (cs':=[_,_,_,_,_]) rfl) ?_;clear Z;rintro _ w_4⟨rfl,Z⟩;refine QoN (xJ (QwR (qq Z (qa (o':=0) uj rfl xK rfl rfl rfl) (qq Z (qc 0 xW rfl rfl rfl) (QoN (xU (xJ (QwR (qq Z (g_eql rfl rfl) (qq Z (Qab rfl) (QoN (qh rfl ?_ ?_))))))))))))
 ·
  intro hc14
  try simp only[zA,zO,zN,zI,zF,zM,zT,zU]at hc14
  refine xM (xL (qh rfl ?_ ?_))
  ·
   intro hc14_2
   try simp only[zA,zO,zN,zI,zF,zM,zT,zU]at hc14_2
   have hk:x.kind=1∨x.kind=2:=by omega
   have ht2:=List.append_cancel_left (ht1.symm.trans (ol_1 hk rest1));refine reg (qq Z (qb _) (qe (qi Jg rfl (num_c lb _ _ _ 3 x.from_ (numB 3 x.len++rest1) _ _ Z.imm (qG Z (k:=2) rfl) (qF Z (k:=2) rfl) hsL ht2 (by decide) (ji (by omega)) (jw (jq _ _) hr1))) ?_));rintro _ w_5⟨aL,cL,rfl,hE,hsL⟩;replace Z:=Z.callX (k:=2) rfl hE;refine qq Z (qb _) (qe (qi Jg rfl (num_c lb _ _ _ 3 x.len (rest1) _ _ Z.imm (qG Z (k:=2) rfl) (qF Z (k:=2) rfl) hsL rfl (by decide) (ji (by omega)) hr1)) ?_);rintro _ w_6⟨aL,cL,rfl,hE,hsL⟩;replace Z:=Z.callX (k:=2) rfl hE;refine qq Z (qa (o':=1) uj rfl xK rfl rfl rfl) (qe (qf 0 Z xK rfl rfl rfl (vs:=[.ig _]) rfl rfl rfl (xH rfl) (cs':=[_,_,_,_,_]) rfl) ?_);clear Z;rintro _ w_7⟨rfl,Z⟩;refine qq Z (qa (o':=2) uj rfl xK rfl rfl rfl) (qe (qf 0 Z xK rfl rfl rfl (vs:=[.ig _]) rfl rfl rfl (xH rfl) (cs':=[_,_,_,_,_]) rfl) ?_);clear Z;rintro _ w_8⟨rfl,Z⟩;refine qy (uM (xL (xJ (QwR (qq Z (qa (o':=0) uj rfl xK rfl rfl rfl) (qq Z (qc 0 xW rfl rfl rfl) (qq Z (g_eql rfl rfl) (qq Z (Qmb rfl) (qu rfl rfl Z (fun hg=>(qa (o':=0) uj rfl xK rfl rfl rfl)) ?_)))))))));intro u36 hu36 hn36;refine qu rfl rfl Z (fun hg=>(qc 0 xW rfl (hu36 hg) rfl)) ?_;intro u37 hu37 hn37;refine qu rfl rfl Z (fun hg=>(g_eql (hu37 hg) rfl)) ?_;intro u38 hu38 hn38;refine qq Z (g_or rfl rfl (fun hq=>hu38 hq)) (QoN (qh rfl ?_ ?_))
   ·
    intro hc39;clear hu36 hn36 hu37 hn37 hu38 hn38
    try simp only[zA,zO,zN,zI,zF,zM,zT,zU]at hc39
    have hk24:x.kind=2∨x.kind=4:=by first | exact hc39 | omega
    have hdl:=hsh.some hk24;refine reg (qq Z (qb _) (qq Z (qa (o':=2) uj rfl xK rfl rfl rfl) (qq Z (qc 0 xW rfl rfl rfl) (qe (qi JK rfl (kG db _ _ _ x.data rest2 x.len _ _ Z.imm (qG Z (k:=3) rfl) (qF Z (k:=3) rfl) hd rfl hdl.symm)) ?_))));rintro _ w_9⟨a43,c43,a2_,c2_,rfl,hE,h43,hd2⟩;replace Z:=Z.callX (k:=3) rfl hE;refine qe (qi call131 rfl (yL _ _ x.data _ _ Z.imm h43 (by omega) (by omega))) ?_;rintro _ w_10⟨I_f,a44,c44,rfl,hE,h44⟩;replace Z:=Z.callE hE;refine qq Z (qa (o':=4) uj rfl uI rfl rfl rfl) (qe (qf 0 Z uI rfl rfl rfl (vs:=[.sg _ _ _]) rfl rfl rfl (xH rfl) (cs':=[_,_,_,_,_]) rfl) ?_);clear Z;rintro _ w_11⟨rfl,Z⟩;refine QoR (qq Z (g_ldO 0 (vs:=[.ig _,.ig _,.ig _,.bg _,.sg _ _ _]) uz Qo rfl rfl rfl rfl) (qe (qf 1 Z uz rfl rfl rfl (vs:=[.ig _,.ig _,.ig _,.bg _,.sg _ _ _]) rfl rfl rfl (xH rfl) (cs':=[_,_,_,_,_]) rfl) ?_));clear Z;rintro _ w_12⟨rfl,Z⟩;refine QoN (xO (ret1 Jb (qw 1 Z uz Qo rfl rfl rfl) ?_))
    first
     | exact⟨_,a44,x.data.length,c44,aL,cL,a2_,c2_,jl (by omega) (by omega) (by omega) (by omega),Z.sel [false,false,true,true],h44,hsL,hd2⟩
     | (have hde : x.data ++ rest2 = rest2 := by rw [hdn]; rfl
        rw[hde]at Z hd;exact⟨_,none,0,0,aL,cL,da,dc,jl (by omega) (by omega) (by omega) (by omega),Z.sel [false,false,true,true],(by rw[hdn]; exact RFl.nil),hsL,hd⟩)
   ·
    intro hc39;clear hu36 hn36 hu37 hn37 hu38 hn38
    try simp only[zA,zO,zN,zI,zF,zM,zT,zU]at hc39
    have hdn:=hsh.none (by omega) (by omega);refine xM (xL (QwR (qq Z (g_ldO 0 (vs:=[.ig _,.ig _,.ig _,.bg _,.sg _ _ _]) uz Qo rfl rfl rfl rfl) (qe (qf 1 Z uz rfl rfl rfl (vs:=[.ig _,.ig _,.ig _,.bg _,.sg _ _ _]) rfl rfl rfl (xH rfl) (cs':=[_,_,_,_,_]) rfl) ?_))));clear Z;rintro _ w_13⟨rfl,Z⟩;refine QoN (xO (ret1 Jb (qw 1 Z uz Qo rfl rfl rfl) ?_))
    first
     | exact⟨_,a44,x.data.length,c44,aL,cL,a2_,c2_,jl (by omega) (by omega) (by omega) (by omega),Z.sel [false,false,true,true],h44,hsL,hd2⟩
     | (have hde : x.data ++ rest2 = rest2 := by rw [hdn]; rfl
        rw[hde]at Z hd;exact⟨_,none,0,0,aL,cL,da,dc,jl (by omega) (by omega) (by omega) (by omega),Z.sel [false,false,true,true],(by rw[hdn]; exact RFl.nil),hsL,hd⟩)
  ·
   intro hc14_2
   try simp only[zA,zO,zN,zI,zF,zM,zT,zU]at hc14_2
   refine QwR (qq Z (g_eql rfl rfl) (qq Z (Qab rfl) (QoN (qh rfl ?_ ?_))))
   ·
    intro hc23
    try simp only[zA,zO,zN,zI,zF,zM,zT,zU]at hc23
    have hk:x.kind=3:=by omega
    have ht2:=List.append_cancel_left (ht1.symm.trans (ol_3 hk rest1));have hcb:IntKind.u8.wrap x.b=x.b:=by rw[IntKind.wrap_u8]; omega
    refine reg (qq Z (qb _) (qe (qi Jg rfl (num_c lb _ _ _ 3 x.len (numB 1 x.b++rest1) _ _ Z.imm (qG Z (k:=2) rfl) (qF Z (k:=2) rfl) hsL ht2 (by decide) (ji (by omega)) (jw (jq _ _) hr1))) ?_));rintro _ w_14⟨aL,cL,rfl,hE,hsL⟩;replace Z:=Z.callX (k:=2) rfl hE;refine qq Z (qb _) (qe (qi Jg rfl (num_c lb _ _ _ 1 x.b (rest1) _ _ Z.imm (qG Z (k:=2) rfl) (qF Z (k:=2) rfl) hsL rfl (by decide) (yu (by omega)) hr1)) ?_);rintro _ w_15⟨aL,cL,rfl,hE,hsL⟩;replace Z:=Z.callX (k:=2) rfl hE;refine qq Z (jI ut uA rfl hcb) (qq Z (qa (o':=2) uj rfl xK rfl rfl rfl) (qe (qf 0 Z xK rfl rfl rfl (vs:=[.ig _]) rfl rfl rfl (xH rfl) (cs':=[_,_,_,_,_]) rfl) ?_));clear Z;rintro _ w_16⟨rfl,Z⟩;refine qq Z (qa (o':=3) uj rfl un rfl rfl rfl) (qe (qf 0 Z un rfl rfl rfl (vs:=[.bg _]) rfl rfl rfl (xH rfl) (cs':=[_,_,_,_,_]) rfl) ?_);clear Z;rintro _ w_17⟨rfl,Z⟩;refine qy (uM (xL (xJ (QwR (qq Z (qa (o':=0) uj rfl xK rfl rfl rfl) (qq Z (qc 0 xW rfl rfl rfl) (qq Z (g_eql rfl rfl) (qq Z (Qmb rfl) (qu rfl rfl Z (fun hg=>(qa (o':=0) uj rfl xK rfl rfl rfl)) ?_)))))))));intro u36 hu36 hn36;refine qu rfl rfl Z (fun hg=>(qc 0 xW rfl (hu36 hg) rfl)) ?_;intro u37 hu37 hn37;refine qu rfl rfl Z (fun hg=>(g_eql (hu37 hg) rfl)) ?_;intro u38 hu38 hn38;refine qq Z (g_or rfl rfl (fun hq=>hu38 hq)) (QoN (qh rfl ?_ ?_))
    ·
     intro hc39;clear hu36 hn36 hu37 hn37 hu38 hn38
     try simp only[zA,zO,zN,zI,zF,zM,zT,zU]at hc39
     have hk24:x.kind=2∨x.kind=4:=by first | exact hc39 | omega
     have hdl:=hsh.some hk24;refine reg (qq Z (qb _) (qq Z (qa (o':=2) uj rfl xK rfl rfl rfl) (qq Z (qc 0 xW rfl rfl rfl) (qe (qi JK rfl (kG db _ _ _ x.data rest2 x.len _ _ Z.imm (qG Z (k:=3) rfl) (qF Z (k:=3) rfl) hd rfl hdl.symm)) ?_))));rintro _ w_18⟨a43,c43,a2_,c2_,rfl,hE,h43,hd2⟩;replace Z:=Z.callX (k:=3) rfl hE;refine qe (qi call131 rfl (yL _ _ x.data _ _ Z.imm h43 (by omega) (by omega))) ?_;rintro _ w_19⟨I_f,a44,c44,rfl,hE,h44⟩;replace Z:=Z.callE hE;refine qq Z (qa (o':=4) uj rfl uI rfl rfl rfl) (qe (qf 0 Z uI rfl rfl rfl (vs:=[.sg _ _ _]) rfl rfl rfl (xH rfl) (cs':=[_,_,_,_,_]) rfl) ?_);clear Z;rintro _ w_20⟨rfl,Z⟩;refine QoR (qq Z (g_ldO 0 (vs:=[.ig _,.ig _,.ig _,.bg _,.sg _ _ _]) uz Qo rfl rfl rfl rfl) (qe (qf 1 Z uz rfl rfl rfl (vs:=[.ig _,.ig _,.ig _,.bg _,.sg _ _ _]) rfl rfl rfl (xH rfl) (cs':=[_,_,_,_,_]) rfl) ?_));clear Z;rintro _ w_21⟨rfl,Z⟩;refine QoN (xO (ret1 Jb (qw 1 Z uz Qo rfl rfl rfl) ?_))
     first
      | exact⟨_,a44,x.data.length,c44,aL,cL,a2_,c2_,jl (by omega) (by omega) (by omega) (by omega),Z.sel [false,false,true,true],h44,hsL,hd2⟩
      | (have hde : x.data ++ rest2 = rest2 := by rw [hdn]; rfl
         rw[hde]at Z hd;exact⟨_,none,0,0,aL,cL,da,dc,jl (by omega) (by omega) (by omega) (by omega),Z.sel [false,false,true,true],(by rw[hdn]; exact RFl.nil),hsL,hd⟩)
    ·
     intro hc39;clear hu36 hn36 hu37 hn37 hu38 hn38
     try simp only[zA,zO,zN,zI,zF,zM,zT,zU]at hc39
     have hdn:=hsh.none (by omega) (by omega);refine xM (xL (QwR (qq Z (g_ldO 0 (vs:=[.ig _,.ig _,.ig _,.bg _,.sg _ _ _]) uz Qo rfl rfl rfl rfl) (qe (qf 1 Z uz rfl rfl rfl (vs:=[.ig _,.ig _,.ig _,.bg _,.sg _ _ _]) rfl rfl rfl (xH rfl) (cs':=[_,_,_,_,_]) rfl) ?_))));clear Z;rintro _ w_22⟨rfl,Z⟩;refine QoN (xO (ret1 Jb (qw 1 Z uz Qo rfl rfl rfl) ?_))
     first
      | exact⟨_,a44,x.data.length,c44,aL,cL,a2_,c2_,jl (by omega) (by omega) (by omega) (by omega),Z.sel [false,false,true,true],h44,hsL,hd2⟩
      | (have hde : x.data ++ rest2 = rest2 := by rw [hdn]; rfl
         rw[hde]at Z hd;exact⟨_,none,0,0,aL,cL,da,dc,jl (by omega) (by omega) (by omega) (by omega),Z.sel [false,false,true,true],(by rw[hdn]; exact RFl.nil),hsL,hd⟩)
   ·
    intro hc23
    try simp only[zA,zO,zN,zI,zF,zM,zT,zU]at hc23
    have hk:x.kind=4:=by omega
    have ht2:=List.append_cancel_left (ht1.symm.trans (ol_4 hk rest1));refine reg (qq Z (qb _) (qe (qi Jg rfl (num_c lb _ _ _ 3 x.len (rest1) _ _ Z.imm (qG Z (k:=2) rfl) (qF Z (k:=2) rfl) hsL ht2 (by decide) (ji (by omega)) hr1)) ?_));rintro _ w_23⟨aL,cL,rfl,hE,hsL⟩;replace Z:=Z.callX (k:=2) rfl hE;refine qq Z (qa (o':=2) uj rfl xK rfl rfl rfl) (qe (qf 0 Z xK rfl rfl rfl (vs:=[.ig _]) rfl rfl rfl (xH rfl) (cs':=[_,_,_,_,_]) rfl) ?_);clear Z;rintro _ w_24⟨rfl,Z⟩;refine qy (uM (xL (xJ (QwR (qq Z (qa (o':=0) uj rfl xK rfl rfl rfl) (qq Z (qc 0 xW rfl rfl rfl) (qq Z (g_eql rfl rfl) (qq Z (Qmb rfl) (qu rfl rfl Z (fun hg=>(qa (o':=0) uj rfl xK rfl rfl rfl)) ?_)))))))));intro u36 hu36 hn36;refine qu rfl rfl Z (fun hg=>(qc 0 xW rfl (hu36 hg) rfl)) ?_;intro u37 hu37 hn37;refine qu rfl rfl Z (fun hg=>(g_eql (hu37 hg) rfl)) ?_;intro u38 hu38 hn38;refine qq Z (g_or rfl rfl (fun hq=>hu38 hq)) (QoN (qh rfl ?_ ?_))
    ·
     intro hc39;clear hu36 hn36 hu37 hn37 hu38 hn38
     try simp only[zA,zO,zN,zI,zF,zM,zT,zU]at hc39
     have hk24:x.kind=2∨x.kind=4:=by first | exact hc39 | omega
     have hdl:=hsh.some hk24;refine reg (qq Z (qb _) (qq Z (qa (o':=2) uj rfl xK rfl rfl rfl) (qq Z (qc 0 xW rfl rfl rfl) (qe (qi JK rfl (kG db _ _ _ x.data rest2 x.len _ _ Z.imm (qG Z (k:=3) rfl) (qF Z (k:=3) rfl) hd rfl hdl.symm)) ?_))));rintro _ w_25⟨a43,c43,a2_,c2_,rfl,hE,h43,hd2⟩;replace Z:=Z.callX (k:=3) rfl hE;refine qe (qi call131 rfl (yL _ _ x.data _ _ Z.imm h43 (by omega) (by omega))) ?_;rintro _ w_26⟨I_f,a44,c44,rfl,hE,h44⟩;replace Z:=Z.callE hE;refine qq Z (qa (o':=4) uj rfl uI rfl rfl rfl) (qe (qf 0 Z uI rfl rfl rfl (vs:=[.sg _ _ _]) rfl rfl rfl (xH rfl) (cs':=[_,_,_,_,_]) rfl) ?_);clear Z;rintro _ w_27⟨rfl,Z⟩;refine QoR (qq Z (g_ldO 0 (vs:=[.ig _,.ig _,.ig _,.bg _,.sg _ _ _]) uz Qo rfl rfl rfl rfl) (qe (qf 1 Z uz rfl rfl rfl (vs:=[.ig _,.ig _,.ig _,.bg _,.sg _ _ _]) rfl rfl rfl (xH rfl) (cs':=[_,_,_,_,_]) rfl) ?_));clear Z;rintro _ w_28⟨rfl,Z⟩;refine QoN (xO (ret1 Jb (qw 1 Z uz Qo rfl rfl rfl) ?_))
     first
      | exact⟨_,a44,x.data.length,c44,aL,cL,a2_,c2_,jl (by omega) (by omega) (by omega) (by omega),Z.sel [false,false,true,true],h44,hsL,hd2⟩
      | (have hde : x.data ++ rest2 = rest2 := by rw [hdn]; rfl
         rw[hde]at Z hd;exact⟨_,none,0,0,aL,cL,da,dc,jl (by omega) (by omega) (by omega) (by omega),Z.sel [false,false,true,true],(by rw[hdn]; exact RFl.nil),hsL,hd⟩)
    ·
     intro hc39;clear hu36 hn36 hu37 hn37 hu38 hn38
     try simp only[zA,zO,zN,zI,zF,zM,zT,zU]at hc39
     have hdn:=hsh.none (by omega) (by omega);refine xM (xL (QwR (qq Z (g_ldO 0 (vs:=[.ig _,.ig _,.ig _,.bg _,.sg _ _ _]) uz Qo rfl rfl rfl rfl) (qe (qf 1 Z uz rfl rfl rfl (vs:=[.ig _,.ig _,.ig _,.bg _,.sg _ _ _]) rfl rfl rfl (xH rfl) (cs':=[_,_,_,_,_]) rfl) ?_))));clear Z;rintro _ w_29⟨rfl,Z⟩;refine QoN (xO (ret1 Jb (qw 1 Z uz Qo rfl rfl rfl) ?_))
     first
      | exact⟨_,a44,x.data.length,c44,aL,cL,a2_,c2_,jl (by omega) (by omega) (by omega) (by omega),Z.sel [false,false,true,true],h44,hsL,hd2⟩
      | (have hde : x.data ++ rest2 = rest2 := by rw [hdn]; rfl
         rw[hde]at Z hd;exact⟨_,none,0,0,aL,cL,da,dc,jl (by omega) (by omega) (by omega) (by omega),Z.sel [false,false,true,true],(by rw[hdn]; exact RFl.nil),hsL,hd⟩)
 ·
  intro hc14
  try simp only[zA,zO,zN,zI,zF,zM,zT,zU]at hc14
  refine reg (qq Z (g_eql rfl rfl) (qq Z (Qab rfl) (QoN (qh rfl ?_ ?_))))
  ·
   intro hc14_2
   try simp only[zA,zO,zN,zI,zF,zM,zT,zU]at hc14_2
   have hk:x.kind=1∨x.kind=2:=by omega
   have ht2:=List.append_cancel_left (ht1.symm.trans (ol_1 hk rest1));refine reg (qq Z (qb _) (qe (qi Jg rfl (num_c lb _ _ _ 3 x.from_ (numB 3 x.len++rest1) _ _ Z.imm (qG Z (k:=2) rfl) (qF Z (k:=2) rfl) hsL ht2 (by decide) (ji (by omega)) (jw (jq _ _) hr1))) ?_));rintro _ w_30⟨aL,cL,rfl,hE,hsL⟩;replace Z:=Z.callX (k:=2) rfl hE;refine qq Z (qb _) (qe (qi Jg rfl (num_c lb _ _ _ 3 x.len (rest1) _ _ Z.imm (qG Z (k:=2) rfl) (qF Z (k:=2) rfl) hsL rfl (by decide) (ji (by omega)) hr1)) ?_);rintro _ w_31⟨aL,cL,rfl,hE,hsL⟩;replace Z:=Z.callX (k:=2) rfl hE;refine qq Z (qa (o':=1) uj rfl xK rfl rfl rfl) (qe (qf 0 Z xK rfl rfl rfl (vs:=[.ig _]) rfl rfl rfl (xH rfl) (cs':=[_,_,_,_,_]) rfl) ?_);clear Z;rintro _ w_32⟨rfl,Z⟩;refine qq Z (qa (o':=2) uj rfl xK rfl rfl rfl) (qe (qf 0 Z xK rfl rfl rfl (vs:=[.ig _]) rfl rfl rfl (xH rfl) (cs':=[_,_,_,_,_]) rfl) ?_);clear Z;rintro _ w_33⟨rfl,Z⟩;refine qy (uM (xL (xJ (QwR (qq Z (qa (o':=0) uj rfl xK rfl rfl rfl) (qq Z (qc 0 xW rfl rfl rfl) (qq Z (g_eql rfl rfl) (qq Z (Qmb rfl) (qu rfl rfl Z (fun hg=>(qa (o':=0) uj rfl xK rfl rfl rfl)) ?_)))))))));intro u36 hu36 hn36;refine qu rfl rfl Z (fun hg=>(qc 0 xW rfl (hu36 hg) rfl)) ?_;intro u37 hu37 hn37;refine qu rfl rfl Z (fun hg=>(g_eql (hu37 hg) rfl)) ?_;intro u38 hu38 hn38;refine qq Z (g_or rfl rfl (fun hq=>hu38 hq)) (QoN (qh rfl ?_ ?_))
   ·
    intro hc39;clear hu36 hn36 hu37 hn37 hu38 hn38
    try simp only[zA,zO,zN,zI,zF,zM,zT,zU]at hc39
    have hk24:x.kind=2∨x.kind=4:=by first | exact hc39 | omega
    have hdl:=hsh.some hk24;refine reg (qq Z (qb _) (qq Z (qa (o':=2) uj rfl xK rfl rfl rfl) (qq Z (qc 0 xW rfl rfl rfl) (qe (qi JK rfl (kG db _ _ _ x.data rest2 x.len _ _ Z.imm (qG Z (k:=3) rfl) (qF Z (k:=3) rfl) hd rfl hdl.symm)) ?_))));rintro _ w_34⟨a43,c43,a2_,c2_,rfl,hE,h43,hd2⟩;replace Z:=Z.callX (k:=3) rfl hE;refine qe (qi call131 rfl (yL _ _ x.data _ _ Z.imm h43 (by omega) (by omega))) ?_;rintro _ w_35⟨I_f,a44,c44,rfl,hE,h44⟩;replace Z:=Z.callE hE;refine qq Z (qa (o':=4) uj rfl uI rfl rfl rfl) (qe (qf 0 Z uI rfl rfl rfl (vs:=[.sg _ _ _]) rfl rfl rfl (xH rfl) (cs':=[_,_,_,_,_]) rfl) ?_);clear Z;rintro _ w_36⟨rfl,Z⟩;refine QoR (qq Z (g_ldO 0 (vs:=[.ig _,.ig _,.ig _,.bg _,.sg _ _ _]) uz Qo rfl rfl rfl rfl) (qe (qf 1 Z uz rfl rfl rfl (vs:=[.ig _,.ig _,.ig _,.bg _,.sg _ _ _]) rfl rfl rfl (xH rfl) (cs':=[_,_,_,_,_]) rfl) ?_));clear Z;rintro _ w_37⟨rfl,Z⟩;refine QoN (xO (ret1 Jb (qw 1 Z uz Qo rfl rfl rfl) ?_))
    first
     | exact⟨_,a44,x.data.length,c44,aL,cL,a2_,c2_,jl (by omega) (by omega) (by omega) (by omega),Z.sel [false,false,true,true],h44,hsL,hd2⟩
     | (have hde : x.data ++ rest2 = rest2 := by rw [hdn]; rfl
        rw[hde]at Z hd;exact⟨_,none,0,0,aL,cL,da,dc,jl (by omega) (by omega) (by omega) (by omega),Z.sel [false,false,true,true],(by rw[hdn]; exact RFl.nil),hsL,hd⟩)
   ·
    intro hc39;clear hu36 hn36 hu37 hn37 hu38 hn38
    try simp only[zA,zO,zN,zI,zF,zM,zT,zU]at hc39
    have hdn:=hsh.none (by omega) (by omega);refine xM (xL (QwR (qq Z (g_ldO 0 (vs:=[.ig _,.ig _,.ig _,.bg _,.sg _ _ _]) uz Qo rfl rfl rfl rfl) (qe (qf 1 Z uz rfl rfl rfl (vs:=[.ig _,.ig _,.ig _,.bg _,.sg _ _ _]) rfl rfl rfl (xH rfl) (cs':=[_,_,_,_,_]) rfl) ?_))));clear Z;rintro _ w_38⟨rfl,Z⟩;refine QoN (xO (ret1 Jb (qw 1 Z uz Qo rfl rfl rfl) ?_))
    first
     | exact⟨_,a44,x.data.length,c44,aL,cL,a2_,c2_,jl (by omega) (by omega) (by omega) (by omega),Z.sel [false,false,true,true],h44,hsL,hd2⟩
     | (have hde : x.data ++ rest2 = rest2 := by rw [hdn]; rfl
        rw[hde]at Z hd;exact⟨_,none,0,0,aL,cL,da,dc,jl (by omega) (by omega) (by omega) (by omega),Z.sel [false,false,true,true],(by rw[hdn]; exact RFl.nil),hsL,hd⟩)
  ·
   intro hc14_2
   try simp only[zA,zO,zN,zI,zF,zM,zT,zU]at hc14_2
   refine QwR (qq Z (g_eql rfl rfl) (qq Z (Qab rfl) (QoN (qh rfl ?_ ?_))))
   ·
    intro hc23
    try simp only[zA,zO,zN,zI,zF,zM,zT,zU]at hc23
    have hk:x.kind=3:=by omega
    have ht2:=List.append_cancel_left (ht1.symm.trans (ol_3 hk rest1));have hcb:IntKind.u8.wrap x.b=x.b:=by rw[IntKind.wrap_u8]; omega
    refine reg (qq Z (qb _) (qe (qi Jg rfl (num_c lb _ _ _ 3 x.len (numB 1 x.b++rest1) _ _ Z.imm (qG Z (k:=2) rfl) (qF Z (k:=2) rfl) hsL ht2 (by decide) (ji (by omega)) (jw (jq _ _) hr1))) ?_));rintro _ w_39⟨aL,cL,rfl,hE,hsL⟩;replace Z:=Z.callX (k:=2) rfl hE;refine qq Z (qb _) (qe (qi Jg rfl (num_c lb _ _ _ 1 x.b (rest1) _ _ Z.imm (qG Z (k:=2) rfl) (qF Z (k:=2) rfl) hsL rfl (by decide) (yu (by omega)) hr1)) ?_);rintro _ w_40⟨aL,cL,rfl,hE,hsL⟩;replace Z:=Z.callX (k:=2) rfl hE;refine qq Z (jI ut uA rfl hcb) (qq Z (qa (o':=2) uj rfl xK rfl rfl rfl) (qe (qf 0 Z xK rfl rfl rfl (vs:=[.ig _]) rfl rfl rfl (xH rfl) (cs':=[_,_,_,_,_]) rfl) ?_));clear Z;rintro _ w_41⟨rfl,Z⟩;refine qq Z (qa (o':=3) uj rfl un rfl rfl rfl) (qe (qf 0 Z un rfl rfl rfl (vs:=[.bg _]) rfl rfl rfl (xH rfl) (cs':=[_,_,_,_,_]) rfl) ?_);clear Z;rintro _ w_42⟨rfl,Z⟩;refine qy (uM (xL (xJ (QwR (qq Z (qa (o':=0) uj rfl xK rfl rfl rfl) (qq Z (qc 0 xW rfl rfl rfl) (qq Z (g_eql rfl rfl) (qq Z (Qmb rfl) (qu rfl rfl Z (fun hg=>(qa (o':=0) uj rfl xK rfl rfl rfl)) ?_)))))))));intro u36 hu36 hn36;refine qu rfl rfl Z (fun hg=>(qc 0 xW rfl (hu36 hg) rfl)) ?_;intro u37 hu37 hn37;refine qu rfl rfl Z (fun hg=>(g_eql (hu37 hg) rfl)) ?_;intro u38 hu38 hn38;refine qq Z (g_or rfl rfl (fun hq=>hu38 hq)) (QoN (qh rfl ?_ ?_))
    ·
     intro hc39;clear hu36 hn36 hu37 hn37 hu38 hn38
     try simp only[zA,zO,zN,zI,zF,zM,zT,zU]at hc39
     have hk24:x.kind=2∨x.kind=4:=by first | exact hc39 | omega
     have hdl:=hsh.some hk24;refine reg (qq Z (qb _) (qq Z (qa (o':=2) uj rfl xK rfl rfl rfl) (qq Z (qc 0 xW rfl rfl rfl) (qe (qi JK rfl (kG db _ _ _ x.data rest2 x.len _ _ Z.imm (qG Z (k:=3) rfl) (qF Z (k:=3) rfl) hd rfl hdl.symm)) ?_))));rintro _ w_43⟨a43,c43,a2_,c2_,rfl,hE,h43,hd2⟩;replace Z:=Z.callX (k:=3) rfl hE;refine qe (qi call131 rfl (yL _ _ x.data _ _ Z.imm h43 (by omega) (by omega))) ?_;rintro _ w_44⟨I_f,a44,c44,rfl,hE,h44⟩;replace Z:=Z.callE hE;refine qq Z (qa (o':=4) uj rfl uI rfl rfl rfl) (qe (qf 0 Z uI rfl rfl rfl (vs:=[.sg _ _ _]) rfl rfl rfl (xH rfl) (cs':=[_,_,_,_,_]) rfl) ?_);clear Z;rintro _ w_45⟨rfl,Z⟩;refine QoR (qq Z (g_ldO 0 (vs:=[.ig _,.ig _,.ig _,.bg _,.sg _ _ _]) uz Qo rfl rfl rfl rfl) (qe (qf 1 Z uz rfl rfl rfl (vs:=[.ig _,.ig _,.ig _,.bg _,.sg _ _ _]) rfl rfl rfl (xH rfl) (cs':=[_,_,_,_,_]) rfl) ?_));clear Z;rintro _ w_46⟨rfl,Z⟩;refine QoN (xO (ret1 Jb (qw 1 Z uz Qo rfl rfl rfl) ?_))
     first
      | exact⟨_,a44,x.data.length,c44,aL,cL,a2_,c2_,jl (by omega) (by omega) (by omega) (by omega),Z.sel [false,false,true,true],h44,hsL,hd2⟩
      | (have hde : x.data ++ rest2 = rest2 := by rw [hdn]; rfl
         rw[hde]at Z hd;exact⟨_,none,0,0,aL,cL,da,dc,jl (by omega) (by omega) (by omega) (by omega),Z.sel [false,false,true,true],(by rw[hdn]; exact RFl.nil),hsL,hd⟩)
    ·
     intro hc39;clear hu36 hn36 hu37 hn37 hu38 hn38
     try simp only[zA,zO,zN,zI,zF,zM,zT,zU]at hc39
     have hdn:=hsh.none (by omega) (by omega);refine xM (xL (QwR (qq Z (g_ldO 0 (vs:=[.ig _,.ig _,.ig _,.bg _,.sg _ _ _]) uz Qo rfl rfl rfl rfl) (qe (qf 1 Z uz rfl rfl rfl (vs:=[.ig _,.ig _,.ig _,.bg _,.sg _ _ _]) rfl rfl rfl (xH rfl) (cs':=[_,_,_,_,_]) rfl) ?_))));clear Z;rintro _ w_47⟨rfl,Z⟩;refine QoN (xO (ret1 Jb (qw 1 Z uz Qo rfl rfl rfl) ?_))
     first
      | exact⟨_,a44,x.data.length,c44,aL,cL,a2_,c2_,jl (by omega) (by omega) (by omega) (by omega),Z.sel [false,false,true,true],h44,hsL,hd2⟩
      | (have hde : x.data ++ rest2 = rest2 := by rw [hdn]; rfl
         rw[hde]at Z hd;exact⟨_,none,0,0,aL,cL,da,dc,jl (by omega) (by omega) (by omega) (by omega),Z.sel [false,false,true,true],(by rw[hdn]; exact RFl.nil),hsL,hd⟩)
   ·
    intro hc23
    try simp only[zA,zO,zN,zI,zF,zM,zT,zU]at hc23
    have hk:x.kind=4:=by omega
    have ht2:=List.append_cancel_left (ht1.symm.trans (ol_4 hk rest1));refine reg (qq Z (qb _) (qe (qi Jg rfl (num_c lb _ _ _ 3 x.len (rest1) _ _ Z.imm (qG Z (k:=2) rfl) (qF Z (k:=2) rfl) hsL ht2 (by decide) (ji (by omega)) hr1)) ?_));rintro _ w_48⟨aL,cL,rfl,hE,hsL⟩;replace Z:=Z.callX (k:=2) rfl hE;refine qq Z (qa (o':=2) uj rfl xK rfl rfl rfl) (qe (qf 0 Z xK rfl rfl rfl (vs:=[.ig _]) rfl rfl rfl (xH rfl) (cs':=[_,_,_,_,_]) rfl) ?_);clear Z;rintro _ w_49⟨rfl,Z⟩;refine qy (uM (xL (xJ (QwR (qq Z (qa (o':=0) uj rfl xK rfl rfl rfl) (qq Z (qc 0 xW rfl rfl rfl) (qq Z (g_eql rfl rfl) (qq Z (Qmb rfl) (qu rfl rfl Z (fun hg=>(qa (o':=0) uj rfl xK rfl rfl rfl)) ?_)))))))));intro u36 hu36 hn36;refine qu rfl rfl Z (fun hg=>(qc 0 xW rfl (hu36 hg) rfl)) ?_;intro u37 hu37 hn37;refine qu rfl rfl Z (fun hg=>(g_eql (hu37 hg) rfl)) ?_;intro u38 hu38 hn38;refine qq Z (g_or rfl rfl (fun hq=>hu38 hq)) (QoN (qh rfl ?_ ?_))
    ·
     intro hc39;clear hu36 hn36 hu37 hn37 hu38 hn38
     try simp only[zA,zO,zN,zI,zF,zM,zT,zU]at hc39
     have hk24:x.kind=2∨x.kind=4:=by first | exact hc39 | omega
     have hdl:=hsh.some hk24;refine reg (qq Z (qb _) (qq Z (qa (o':=2) uj rfl xK rfl rfl rfl) (qq Z (qc 0 xW rfl rfl rfl) (qe (qi JK rfl (kG db _ _ _ x.data rest2 x.len _ _ Z.imm (qG Z (k:=3) rfl) (qF Z (k:=3) rfl) hd rfl hdl.symm)) ?_))));rintro _ w_50⟨a43,c43,a2_,c2_,rfl,hE,h43,hd2⟩;replace Z:=Z.callX (k:=3) rfl hE;refine qe (qi call131 rfl (yL _ _ x.data _ _ Z.imm h43 (by omega) (by omega))) ?_;rintro _ w_51⟨I_f,a44,c44,rfl,hE,h44⟩;replace Z:=Z.callE hE;refine qq Z (qa (o':=4) uj rfl uI rfl rfl rfl) (qe (qf 0 Z uI rfl rfl rfl (vs:=[.sg _ _ _]) rfl rfl rfl (xH rfl) (cs':=[_,_,_,_,_]) rfl) ?_);clear Z;rintro _ w_52⟨rfl,Z⟩;refine QoR (qq Z (g_ldO 0 (vs:=[.ig _,.ig _,.ig _,.bg _,.sg _ _ _]) uz Qo rfl rfl rfl rfl) (qe (qf 1 Z uz rfl rfl rfl (vs:=[.ig _,.ig _,.ig _,.bg _,.sg _ _ _]) rfl rfl rfl (xH rfl) (cs':=[_,_,_,_,_]) rfl) ?_));clear Z;rintro _ w_53⟨rfl,Z⟩;refine QoN (xO (ret1 Jb (qw 1 Z uz Qo rfl rfl rfl) ?_))
     first
      | exact⟨_,a44,x.data.length,c44,aL,cL,a2_,c2_,jl (by omega) (by omega) (by omega) (by omega),Z.sel [false,false,true,true],h44,hsL,hd2⟩
      | (have hde : x.data ++ rest2 = rest2 := by rw [hdn]; rfl
         rw[hde]at Z hd;exact⟨_,none,0,0,aL,cL,da,dc,jl (by omega) (by omega) (by omega) (by omega),Z.sel [false,false,true,true],(by rw[hdn]; exact RFl.nil),hsL,hd⟩)
    ·
     intro hc39;clear hu36 hn36 hu37 hn37 hu38 hn38
     try simp only[zA,zO,zN,zI,zF,zM,zT,zU]at hc39
     have hdn:=hsh.none (by omega) (by omega);refine xM (xL (QwR (qq Z (g_ldO 0 (vs:=[.ig _,.ig _,.ig _,.bg _,.sg _ _ _]) uz Qo rfl rfl rfl rfl) (qe (qf 1 Z uz rfl rfl rfl (vs:=[.ig _,.ig _,.ig _,.bg _,.sg _ _ _]) rfl rfl rfl (xH rfl) (cs':=[_,_,_,_,_]) rfl) ?_))));clear Z;rintro _ w_54⟨rfl,Z⟩;refine QoN (xO (ret1 Jb (qw 1 Z uz Qo rfl rfl rfl) ?_))
     first
      | exact⟨_,a44,x.data.length,c44,aL,cL,a2_,c2_,jl (by omega) (by omega) (by omega) (by omega),Z.sel [false,false,true,true],h44,hsL,hd2⟩
      | (have hde : x.data ++ rest2 = rest2 := by rw [hdn]; rfl
         rw[hde]at Z hd;exact⟨_,none,0,0,aL,cL,da,dc,jl (by omega) (by omega) (by omega) (by omega),Z.sel [false,false,true,true],(by rw[hdn]; exact RFl.nil),hsL,hd⟩)
end Go.Proofs.YtgkgihnpjgbmhaaGreatDoor
namespace Go.Proofs.YtgkgihnpjgbmhaaGreatDoor
open Tryz
open Go Go.RowKit Go.Inl
theorem neq_nil (W:World):(binOp .neq 20 .nilIface .nilIface).run prog W = .ok (.bool false) W:=by kernel_rfl
theorem g_neqI {n : Nat} {σ : Nat → Value} {S : World → Prop} {t' ty : TypeId} {x y : Operand} {u : Value} {b : Bool} (hx : ev n σ x = u) (hy : ev n σ y = .nilIface) (h : ∀ W, (binOp .neq 20 u .nilIface).run prog W = .ok (.bool b) W) (hq : ∀ W, (eqGuard .neq 20 x y u .nilIface).run prog W = .ok () W) :
 Gives prog (ev n σ) S (.binOp .neq 20 x y t') ty (.bool b):=fun w _=>by
 have h1:=h w;have h2:=hq w;simp only[execOp,hx,hy,Sem.run_bind,h1,h2,Result.andThen_ok];simp[h1]
theorem readD_idle (b:Nat)(w:World):CallsDIn (fen none) 0 prog 97 [.zg b].toArray .returning w (fun e u w'=>(∃v,e = .returned v)∧u = .returning∧w'=w):=by
 refine fnS (n:=15) func97 rfl rfl rfl fun c₀ cs hu=>(wpSIn_seq (rec_reg (v:=.nilIface) (cs':=c₀::cs) rfl (.inr ⟨by simp[recoverD,hu],rfl,rfl⟩) (wpSIn_of_wpIn rfl (QwR (qp (qx rfl) (qp (g_neqI rfl rfl neq_nil (fun W=>rfl)) (qy (xL (qV rfl (xM (⟨rfl,.returning,?_,.tuple #[],?_,⟨_,rfl⟩,rfl,rfl⟩)))))))))))
 · cases c₀; simp only at hu; subst hu; rfl
 · simp[results,results97]
end Go.Proofs.YtgkgihnpjgbmhaaGreatDoor
