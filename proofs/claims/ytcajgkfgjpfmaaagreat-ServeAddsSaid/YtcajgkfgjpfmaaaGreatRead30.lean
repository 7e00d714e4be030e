/- The arguments of the laws of chapter 30 read as plain data. Conditions: none. -/
import Derived.Test.YtcajgkfgjpfmaaaGreatRead6
import Derived.Test.YtcajgkfgjpfmaaaGreatKRs
set_option linter.unusedSimpArgs false
set_option linter.unusedVariables false
namespace Go.Proofs.YtcajgkfgjpfmaaaGreat
open Tryz
open Go Go.Inl Go.RowKit Go.ChangeShapes Go.WideShapes
section
variable {H:Type} {enc:TypeId×Value→H} {P:Program} {w:World}
theorem opens_st211 {t t0 t1 t2 : TypeId} {f0 f1 f2 : Field} {R0 R1 R2 : List Value → Prop} (ht : P.underlying t = some (.struct #[f0, f1, f2])) (h0 : Opens enc P w t0 R0) (h1 : Opens enc P w t1 R1) (h2 : Opens enc P w t2 R2)
 (e0:f0.type=t0) (e1:f1.type=t1) (e2:f2.type=t2) (o0:f0.offset=0) (o1:f1.offset=2) (o2:f2.offset=3) (c0:P.cellsOf t0=2) (c1:P.cellsOf t1=1) (c2:P.cellsOf t2=1) (hc:P.cellsOf t=4) :
 Opens enc P w t (fun cs=>∃a b c,cs=a++b++c∧R0 a∧R1 b∧R2 c):=fun _ cs _ h=>by
 obtain⟨xs,n,_,rfl,hl,hlen,hf⟩:=DataW.trod_struct ht h;match xs,hlen with
 | [y0,y1,y2],_ =>
   have k0:=hf 0 f0 rfl;have k1:=hf 1 f1 rfl;have k2:=hf 2 f2 rfl;subst e0 e1 e2;rw[o0,List.drop_zero,c0]at k0;rw[o1,c1]at k1;rw[o2,c2]at k2;refine⟨_,_,_,?_,h0 _ _ _ k0,h1 _ _ _ k1,h2 _ _ _ k2⟩;rw[hc]at hl;match cs,hl with
   | [x,y,z,u],_=>rfl
theorem list6 {l:List Int}(h:l.length=6):∃a b c d e f,l=[a,b,c,d,e,f]:=by
 match l,h with
 | [a,b,c,d,e,f],_=>exact⟨a,b,c,d,e,f,rfl⟩
instance:Inhabited Q6:=⟨⟨0,0,0,0,0,0⟩⟩
theorem opens_q6s:Opens enc prog w 23 (fun cs=>∃a cap,∃l:List Q6,cs=[.slice a l.length cap]∧RFl (memI w) 6 q6C (.slice a l.length cap) l∧∀q∈l,q.wf):=by
 refine jk (yj (α := Q6) (fun cs x => cs = q6C x ∧ x.wf) underlying23 (sz := 6) (by kernel_rfl) (by decide)
  (jk (jx (k:=.u8) Kk Qx (by kernel_rfl) (by kernel_rfl)) ?_)) ?_
 · rintro cs ⟨l, rfl, hl, hw⟩
   obtain⟨a,b,c,d,e,f,rfl⟩:=list6 hl;exact⟨⟨a,b,c,d,e,f⟩,rfl,u8_of (hw a (by simp)),u8_of (hw b (by simp)),u8_of (hw c (by simp)),u8_of (hw d (by simp)),u8_of (hw e (by simp)),u8_of (hw f (by simp))⟩
 · rintro cs ⟨a, len, cap, xs, rfl, rfl, h⟩
   exact⟨a,cap,xs,rfl,h.part⟩
theorem opens_raw29:Opens enc prog w 25 (fun cs=>∃av cv al cl,∃(V:List Int) (Q:List Q6),cs=[.slice av V.length cv,.slice al Q.length cl]∧(RBytes (memI w) (.slice av V.length cv) V∧∀x∈V,0≤x∧x≤255)∧RFl (memI w) 6 q6C (.slice al Q.length cl) Q∧∀q∈Q,q.wf):=by
 refine jk (opens_struct2 (n0:=1) (n1:=1) KG (yk uU Qx (by kernel_rfl)) opens_q6s rfl rfl rfl rfl (by kernel_rfl) (by kernel_rfl) (by kernel_rfl)) ?_;rintro cs⟨c0,c1,rfl,⟨av,cv,V,rfl,h1,h2⟩,⟨al,cl,Q,rfl,h3,h4⟩⟩;exact⟨av,cv,al,cl,V,Q,rfl,⟨h1,h2⟩,h3,h4⟩
theorem jQ:Opens enc prog w 28 (fun cs=>∃av cv al cl ap cp ag cg,∃(V:List Int) (Q:List Q6) (X:List RawL) (Z:List Int),cs=[.slice av V.length cv,.slice al Q.length cl,.slice ap X.length cp,.slice ag Z.length cg]∧(RBytes (memI w) (.slice av V.length cv) V∧∀x∈V,0≤x∧x≤255)∧(RFl (memI w) 6 q6C (.slice al Q.length cl) Q∧∀q∈Q,q.wf)∧(RRaws (memI w) (.slice ap X.length cp) X∧∀x∈X,x.wf)∧RBytes (memI w) (.slice ag Z.length cg) Z∧∀x∈Z,0≤x∧x≤255):=by
 refine jk (opens_st211 JK opens_raw29 opens_raws (yk uU Qx (by kernel_rfl)) rfl rfl rfl rfl rfl rfl (by kernel_rfl) (by kernel_rfl) (by kernel_rfl) (by kernel_rfl)) ?_;rintro cs⟨c0,c1,c2,rfl,⟨av,cv,al,cl,V,Q,rfl,⟨h1,h2⟩,h3,h4⟩,⟨ap,cp,X,rfl,h5,h6⟩,⟨ag,cg,Z,rfl,h7,h8⟩⟩;exact⟨av,cv,al,cl,ap,cp,ag,cg,V,Q,X,Z,rfl,⟨h1,h2⟩,⟨h3,h4⟩,⟨h5,h6⟩,h7,h8⟩
theorem opens_st5 {t t0 : TypeId} {f0 f1 f2 f3 f4 : Field} {R0 : List Value → Prop} (ht : P.underlying t = some (.struct #[f0, f1, f2, f3, f4])) (h0 : Opens enc P w t0 R0)
 (e0:f0.type=t0) (e1:f1.type=t0) (e2:f2.type=t0) (e3:f3.type=t0) (e4:f4.type=t0) (o0:f0.offset=0) (o1:f1.offset=1) (o2:f2.offset=2) (o3:f3.offset=3) (o4:f4.offset=4) (c0:P.cellsOf t0=1) (hc:P.cellsOf t=5) :
 Opens enc P w t (fun cs=>∃a b c d e,cs=[a,b,c,d,e]∧R0 [a]∧R0 [b]∧R0 [c]∧R0 [d]∧R0 [e]):=fun _ cs _ h=>by
 obtain⟨xs,n,_,rfl,hl,hlen,hf⟩:=DataW.trod_struct ht h;match xs,hlen with
 | [y0,y1,y2,y3,y4],_ =>
   have k0:=hf 0 f0 rfl;have k1:=hf 1 f1 rfl;have k2:=hf 2 f2 rfl;have k3:=hf 3 f3 rfl;have k4:=hf 4 f4 rfl;rw[e0,o0,List.drop_zero,c0]at k0;rw[e1,o1,c0]at k1;rw[e2,o2,c0]at k2;rw[e3,o3,c0]at k3;rw[e4,o4,c0]at k4;rw[hc]at hl;match cs,hl with
   | [x,y,z,u,v],_=>exact⟨_,_,_,_,_,rfl,h0 _ _ _ k0,h0 _ _ _ k1,h0 _ _ _ k2,h0 _ _ _ k3,h0 _ _ _ k4⟩
theorem opens_st1115 {t t0 t3 : TypeId} {f0 f1 f2 f3 : Field} {R0 R3 : List Value → Prop} (ht : P.underlying t = some (.struct #[f0, f1, f2, f3])) (h0 : Opens enc P w t0 R0) (h3 : Opens enc P w t3 R3)
 (e0:f0.type=t0) (e1:f1.type=t0) (e2:f2.type=t0) (e3:f3.type=t3) (o0:f0.offset=0) (o1:f1.offset=1) (o2:f2.offset=2) (o3:f3.offset=3) (c0:P.cellsOf t0=1) (c3:P.cellsOf t3=5) (hc:P.cellsOf t=8) :
 Opens enc P w t (fun cs=>∃a b c d,cs=a::b::c::d∧R0 [a]∧R0 [b]∧R0 [c]∧R3 d):=fun _ cs _ h=>by
 obtain⟨xs,n,_,rfl,hl,hlen,hf⟩:=DataW.trod_struct ht h;match xs,hlen with
 | [y0,y1,y2,y3],_ =>
   have k0:=hf 0 f0 rfl;have k1:=hf 1 f1 rfl;have k2:=hf 2 f2 rfl;have k3:=hf 3 f3 rfl;rw[e0,o0,List.drop_zero,c0]at k0;rw[e1,o1,c0]at k1;rw[e2,o2,c0]at k2;rw[e3,o3,c3]at k3;rw[hc]at hl;match cs,hl with
   | [x,y,z,u0,u1,u2,u3,u4],_=>exact⟨_,_,_,_,rfl,h0 _ _ _ k0,h0 _ _ _ k1,h0 _ _ _ k2,h3 _ _ _ k3⟩
theorem opens_need:Opens enc prog w 41 (fun cs=>∃a b c d e,cs=[.int .i64 a,.int .i64 b,.int .i64 c,.int .i64 d,.int .i64 e]):=by
 refine jk (opens_st5 QL (vR Qg) rfl rfl rfl rfl rfl rfl rfl rfl rfl rfl (by kernel_rfl) (by kernel_rfl)) ?_;rintro cs⟨x,y,z,u,v,rfl,⟨n0,e0,_⟩,⟨n1,e1,_⟩,⟨n2,e2,_⟩,⟨n3,e3,_⟩,⟨n4,e4,_⟩⟩;obtain rfl:=(List.cons.inj e0).1;obtain rfl:=(List.cons.inj e1).1;obtain rfl:=(List.cons.inj e2).1;obtain rfl:=(List.cons.inj e3).1;obtain rfl:=(List.cons.inj e4).1;exact⟨n0,n1,n2,n3,n4,rfl⟩
theorem opens_link:Opens enc prog w 60 (fun cs=>∃l:LnkL,cs=[.int .i64 l.f,.int .i64 l.t,.int .i64 l.c,.int .i64 l.n.s,.int .i64 l.n.u,.int .i64 l.n.r,.int .i64 l.n.e,.int .i64 l.n.o]∧IsInt .i64 l.f∧IsInt .i64 l.t∧IsInt .i64 l.c):=by
 refine jk (opens_st1115 uI (vR Qg) opens_need rfl rfl rfl rfl rfl rfl rfl rfl (by kernel_rfl) (by kernel_rfl) (by kernel_rfl)) ?_;rintro cs⟨x,y,z,d,rfl,⟨n0,e0,i0⟩,⟨n1,e1,i1⟩,⟨n2,e2,i2⟩,a,b,c,d,e,rfl⟩;obtain rfl:=(List.cons.inj e0).1;obtain rfl:=(List.cons.inj e1).1;obtain rfl:=(List.cons.inj e2).1;exact⟨⟨n0,n1,n2,⟨a,b,c,d,e⟩⟩,rfl,i0,i1,i2⟩
end
end Go.Proofs.YtcajgkfgjpfmaaaGreat
