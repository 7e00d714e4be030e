/- Slices that stand still, known with all of their block, and taken back as own memory; slices that were appended to as blocks. Conditions: none. Guards that are known to be shut; append of slices whose elements hold slices. Conditions: none. Arrays as blocks: a cell stored, sliced, indexed; an array and one cell built. Conditions: none. Calls that turn two resources of their caller. Conditions: none. A function that defers a call which finds nothing to recover. Conditions: it does not panic. Calls that may panic, functions that recover. Conditions: none. A region that draws its order and in which a call may panic. Conditions: none. Operations on bits of integers, cells of arrays that are values, calls of bound methods. Conditions: none. Own slices of ints: sorted, compacted (by the library's contracts, as hypotheses); a copy into an own block. Conditions: as said. Elements of an own row of lists of cells: loads, stores; an element of an array of structs. Conditions: none. -/
import Derived.Test.YtcajgkfgjpfmaaaGreatKCore2
import Derived.RecoverIn
import Derived.Laws.Cover3
import Derived.Sort.Grow
import Derived.Lib.SlicesCompact
import Derived.Laws.CopyRow
import Derived.Laws.IdiomCopy
set_option linter.unusedSimpArgs false
set_option linter.unusedVariables false
namespace Go.Inl
open Go Go.RowKit
section
variable {X:List Nat} {w0 w w':World} {I0 I J:Imm} {L:List Res}
theorem St.rowCel (k : Nat) {sz n c : Nat} {E : TypeId} {a : Option Addr} {xs : List Value} (h : St X w0 I0 I w L) (hk : L[k]? = some (.row (.slice a n c) E sz n xs)) (hn : 0 < n) :
 ∃b rest,a=some ⟨b,0,none⟩∧n≤c∧c≤maxLen∧(xs++rest).length=c*sz∧xs.length=n*sz∧St X w0 I0 I w (L.set k (.cel b E (xs++rest))):=by
 have hh:w.ownsRow 0 E sz (.slice a n c) n xs:=h.hold _ (uf hk);obtain⟨hl,h0 | ⟨g,cap,cur,hv,_,hg,h4,h5,h6,h7⟩⟩:=hh
 · obtain⟨_,h0⟩:=h0; omega
 · simp only [Value.slice.injEq] at hv
   obtain⟨rfl,_,rfl⟩:=hv;have e:xs++cur.toList.drop xs.length=cur.toList:=by
    conv=>lhs; lhs; rw[← h7,← hl]
    exact List.take_append_drop _ _
   refine⟨g,cur.toList.drop xs.length,rfl,h4,h5,by rw[e]; simpa using h6,hl,?_⟩;rw[e];refine h.change hk (r':=.cel g E cur.toList) rfl rfl rfl (uV _) (fun _ _ _=>rfl) (fun c hc=>.inl (by simpa [Res.foot,Value.ownBlock] using hc)) (by simp[Res.foot]) ?_;show w.heap[g]? = _
   simpa using hg
theorem St.celRow (k : Nat) {sz n c b : Nat} {E : TypeId} {xs rest : List Value} (h : St X w0 I0 I w L) (hk : L[k]? = some (.cel b E (xs ++ rest))) (hl : xs.length = n * sz) (hn : n ≤ c) (hc : c ≤ maxLen) (hr : (xs ++ rest).length = c * sz) :
 St X w0 I0 I w (L.set k (.row (.slice (some ⟨b,0,none⟩) n c) E sz n xs)):=by
 have hh:w.heap[b]? = some (.cells (xs++rest).toArray E (0,0)):=h.hold _ (uf hk);refine h.change hk (r':=.row (.slice (some ⟨b,0,none⟩) n c) E sz n xs) rfl rfl rfl (uV _) (fun _ _ _=>rfl) (fun d hd=>.inl (by simpa [Res.foot,Value.ownBlock] using hd)) (by simp[Res.foot,Value.ownBlock]) ?_;exact⟨hl,.inr ⟨b,c,_,rfl,Nat.zero_le _,hh,hn,hc,by simpa using hr,by rw[← hl]; simp⟩⟩
end
section
variable {P:Program} {n:Nat} {σ:Nat→Value} {ty t:TypeId} {x y:Operand} {X:List Nat} {w0 w:World} {I0 I:Imm} {L:List Res}
theorem d_makeF {α : Type} {enc : α → List Value} {sz by' : Nat} (he : ∀ x, (enc x).length = sz) (a : α) (N : Nat) {e : TypeId} {z : Value} {kl kc : IntKind} {m : Int} (hS : St X w0 I0 I w L) (hT : P.underlying t = some (.slice e)) (hi : Info P e z sz by') (hz : z.cells = (enc a).toArray) (hsz : Nat.blt 0 sz = true)
 (hx:ev n σ x = .int kl m) (hy:ev n σ y = .int kc m) (hm:m=N) (hN:N≤4294967296) (hb:Nat.ble by' 1024=true) :
 Does P (ev n σ) (.makeSlice t x y) ty w fun v w'=>∃b,v = .slice (some ⟨b,0,none⟩) N N∧St X w0 I0 I w' (.cel b e (flat enc (List.replicate N a))::L):=by
 subst hm;have hb':by'≤1024:=xP hb
 have h1:by'*N≤1024*4294967296:=Nat.mul_le_mul hb' hN
 refine(i_make hS hT hi hx hy (by omega) (Int.le_refl _) (by rw[← Int.natCast_mul]; omega) (by omega)).mono ?_;rintro v w' ⟨b,rfl,h⟩;refine⟨b,rfl,?_⟩;rw[hz,Int.toNat_natCast,yb he (by simpa using hsz) N a]at h;exact h
end
theorem putL_self : ∀ (us vs : List Value), us.length = vs.length → putL us 0 vs = vs
 | [],[],_=>rfl
 | [],v::vs,h=>by simp at h
 | u::us,[],h=>by simp at h
 | u::us,v::vs,h=>by
   show v::putL us 0 vs=_
   rw[putL_self us vs (by simpa using h)]
theorem flat_focus {α:Type}{enc:α→List Value}{xs:List α}{i:Nat}{x:α}(rest:List Value)(h:xs[i]? = some x):flat enc xs++rest=flat enc (xs.take i)++(enc x++(flat enc (xs.drop (i+1))++rest)):=by
 obtain⟨hi,rfl⟩:=uc.1 h;have e:flat enc xs=flat enc (xs.take i)++(enc xs[i]++flat enc (xs.drop (i+1))):=by
  conv=>lhs; rw[← List.take_append_drop i xs,List.drop_eq_getElem_cons hi]
  rw[qB];simp only[flat,List.flatMap_cons]
 rw[e];simp only[Qr]
theorem flat_unfocus {α:Type}{enc:α→List Value}{xs:List α}{i:Nat}(y:α)(rest:List Value)(hi:i < xs.length):flat enc (xs.take i)++(enc y++(flat enc (xs.drop (i+1))++rest))=flat enc (xs.set i y)++rest:=by
 rw[flat_focus (xs:=xs.set i y) (i:=i) (x:=y) rest (by simp[hi])];rw[List.take_set_of_le (uV i),List.drop_set_of_lt (by omega)]
section
variable {P:Program} {n:Nat} {σ:Nat→Value} {ty t:TypeId} {x y:Operand} {X:List Nat} {w0 w:World} {I0 I:Imm} {L:List Res}
theorem xJ (k : Nat) {α : Type} {enc : α → List Value} {sz : Nat} (he : ∀ x, (enc x).length = sz) {xs : List α} {a : Option Addr} {N cap i c m : Nat} {E : TypeId} {x0 : α} (x1 : α) (hS : St X w0 I0 I w L) (hN : N = xs.length) (h0 : xs[i]? = some x0) (hm : ∀ w, (sizeOf t).run P w = .ok m w)
 (hL:L[k]? = some (.row (.slice a N cap) E sz N (flat enc xs))) (hx:ev n σ x = .pointer (some (elA (.slice a N cap) i sz c))) {v:Value} (hy:ev n σ y=v) {vs:List Value} (hv:v.cells.toList=vs) (hlen:vs.length=m) (h1:vs.all (·.oneCell')=true)
 (hl:Nat.ble (c+m) sz=true) (hc:putL (enc x0) c vs=enc x1):Does P (ev n σ) (.store t x y) ty w fun u w'=>u=undef∧St X w0 I0 I w' (L.set k (.row (.slice a N cap) E sz N (flat enc (xs.set i x1)))):=by
 have hi:=(uc.1 h0).1;have hl':c+m≤sz:=xP hl;obtain⟨b,rest,rfl,hnc,hcm,hrl,hxl,hS2⟩:=hS.rowCel k hL (by omega);have hk:=(uc.1 hL).1;have hfo:=flat_focus (enc:=enc) rest h0;rw[hfo]at hS2;have hx':ev n σ x = .pointer (some ⟨b,i*sz+c,none⟩):=by rw[hx]; simp[elA]
 have hpre:i*sz=(flat enc (xs.take i)).length:=by rw[qW he,uT,Nat.min_eq_left (by omega)]
 refine(jP k (L:=L.set k (.cel b E (flat enc (xs.take i)++(enc x0++(flat enc (xs.drop (i+1))++rest))))) (row':=enc x1) hS2 hm (List.getElem?_set_self hk) hpre hx' hy hv hlen h1 (by rw[he]; omega) hc).mono ?_;rintro u w' ⟨rfl,hS3⟩;refine⟨rfl,?_⟩;rw[List.set_set,flat_unfocus x1 rest hi]at hS3;have hlen2:(flat enc (xs.set i x1)).length=(flat enc xs).length:=by rw[qW he,qW he,QU]
 have hS4:=hS3.celRow k (n:=N) (c:=cap) (xs:=flat enc (xs.set i x1)) (rest:=rest) (List.getElem?_set_self hk) (by rw[hlen2,hxl]) hnc hcm (by rw[ug,hlen2,← ug,hrl]);rwa [List.set_set]at hS4
end
end Go.Inl
namespace Go.Inl
open Go Go.RowKit
section
variable {P : Program} {n : Nat} {df : List Deferred} {ro : Option Nat} {σ : Nat → Value} {w : World} {Q : Exit → Act → World → Prop} {rest l : List Oper} {d : Option Tmp} {op : Op} {ty : TypeId} {p : String} {af : Array Edge}
 {X:List Nat} {w0:World} {I0 I:Imm} {L:List Res} {v:Value} {j t i:Nat} {g g':Bool} {r:Od} {S:World→Prop}
theorem qsf (hj' : dstAt l j = some t) (hv : ev n σ (.tmp t) = .bool g') (hne : g' = !g) (k : OL P l Q n df rest (updO σ d undef) w) :
 OL P l Q n df (⟨d,op,ty,p,af,some (j,g)⟩::rest) σ w:=⟨wl_gf (jO hj') hv hne k.run⟩
theorem qsu (hj' : dstAt l j = some t) (hv : ev n σ (.tmp t) = undef) (k : OL P l Q n df rest (updO σ d undef) w) :
 OL P l Q n df (⟨d,op,ty,p,af,some (j,g)⟩::rest) σ w:=⟨by
 unfold wpL;rw[ud (by rw[jE (jO hj') hv]; exact Bool.false_ne_true),qY];exact k.run⟩
end
theorem RSl.cells {α : Type} {I : Imm} {sz : Nat} {R : List Value → α → Prop} {u : Value} {ys : List α} (h : RSl I sz R u ys) (h1 : ∀ cs x, R cs x → cs.all (·.oneCell') = true) :
 ∃css:List {cs:List Value // cs.length=sz∧cs.all (·.oneCell')=true},css.length=ys.length∧All2 R (css.map (·.1)) ys∧RFl I sz (·.1) u css:=by
 rcases h with ⟨h,rfl⟩ | ⟨b,o,cap,rfl,h2,h3,h4⟩
 · exact⟨[],rfl,All2.nil R,.inl ⟨h,rfl⟩⟩
 · have hall : ∀ (zs : List α) (o : Nat), (∀ i x, zs[i]? = some x → ∃ cs, cs.length = sz ∧ atI I ⟨b, o + i * sz, none⟩ cs ∧ R cs x) →
    ∃css:List {cs:List Value // cs.length=sz∧cs.all (·.oneCell')=true},css.length=zs.length∧All2 R (css.map (·.1)) zs∧∀i x,css[i]? = some x→∃cs,cs.length=sz∧atI I ⟨b,o+i*sz,none⟩ cs∧cs=x.1:=by
    intro zs;induction zs with
    | nil=>intro o _; exact⟨[],rfl,All2.nil R,fun i x hx=>by simp at hx⟩
    | cons z zs ih =>
      intro o hz;obtain⟨cs,c1,c2,c3⟩:=hz 0 z rfl;obtain⟨css,d1,d2,d3⟩:=ih (o+sz) (fun i x hx=>by
       obtain⟨c,e1,e2,e3⟩:=hz (i+1) x (by simpa using hx);exact⟨c,e1,by rw[Nat.add_mul,Nat.one_mul,Nat.add_comm (i*sz) sz,← Nat.add_assoc]at e2; exact e2,e3⟩)
      refine⟨⟨cs,c1,h1 _ _ c3⟩::css,by simp[d1],All2.cons c3 d2,fun i x hx=>?_⟩;cases i with
      | zero=>simp at hx; subst hx; exact⟨cs,c1,by simpa using c2,rfl⟩
      | succ i =>
        obtain⟨c,e1,e2,e3⟩:=d3 i x (by simpa using hx);exact⟨c,e1,by rw[Nat.add_mul,Nat.one_mul,Nat.add_comm (i*sz) sz,← Nat.add_assoc]; exact e2,e3⟩
   obtain⟨css,d1,d2,d3⟩:=hall ys o h4;exact⟨css,d1,d2,.inr ⟨b,o,cap,by rw[d1],by omega,h3,d3⟩⟩
theorem i_appendR {P : Program} {n : Nat} {σ : Nat → Value} {w : World} {ty : TypeId} {X : List Nat} {w0 : World} {I0 I : Imm} {L : List Res} (k : Nat) {α : Type} {R : List Value → α → Prop} {t e : TypeId} {sz by' : Nat} {z : Value} {x y : Operand} {aT : Array TypeId} {u u' : Value} {m : Nat} {xs : List Value} {ys : List α}
 (hS:St X w0 I0 I w L) (ho:aT = #[t,t]) (hT:P.underlying t=some (.slice e)) (hi:Info P e z sz by') (hzs:z.cells.size=sz) (h0:Nat.blt 0 sz=true) (hL:L[k]? = some (.row u e sz m xs)) (hx:ev n σ x=u)
 (h1:∀cs x,R cs x→cs.all (·.oneCell')=true) (hr:RSl I sz R u' ys) (hy:ev n σ y=u') (h63:m+ys.length≤9223372036854775807) (hbytes:(m+ys.length)*by'≤140737488355328) :
 Does P (ev n σ) (.call { callee:=.builtin .append,args := #[x,y],argTypes:=aT }) ty w fun v w'=>∃ad cap css,v = .slice ad (m+ys.length) cap∧(∀c∈css,c.length=sz)∧All2 R css ys∧St X w0 I0 I w' (L.set k (.row (.slice ad (m+ys.length) cap) e sz (m+ys.length) (xs++css.flatten))):=by
 obtain⟨css,d1,d2,d3⟩:=hr.cells h1;refine(jc k hS ho hT hi hzs h0 hL hx (fun c=>c.2.1) (fun c=>c.2.2) d3 hy (by omega) (by rw[d1]; exact hbytes)).mono fun v w' ⟨ad,cap,h1,h2⟩=>?_
 rw[d1]at h1 h2;refine⟨ad,cap,css.map (·.1),h1,fun c hc=>?_,d2,?_⟩
 · obtain⟨c',_,rfl⟩:=QF.1 hc; exact c'.2.1
 · rw[show(css.map (·.1)).flatten=flat (·.1) css from rfl]; exact h2
theorem All2.append {α : Type} {R : List Value → α → Prop} : ∀ {a : List (List Value)} {x : List α} {b : List (List Value)} {y : List α}, All2 R a x → All2 R b y → All2 R (a ++ b) (x ++ y)
 | [],[],b,y,_,h=>h
 | [],_::_,_,_,h,_=>by simp[All2]at h
 | _::_,[],_,_,h,_=>by simp[All2]at h
 | c::a,z::x,b,y,h,k=>All2.cons (h.2 0 c z rfl rfl) (All2.append ⟨by simpa using h.1,fun i c' z' hc hz=>h.2 (i+1) c' z' (by simpa using hc) (by simpa using hz)⟩ k)
theorem ROp.one {I:Imm}(cs:List Value)(x:OpL)(h:ROp I cs x):cs.all (·.oneCell')=true:=by
 obtain⟨ad,m,cap,rfl,_⟩:=h; rfl
end Go.Inl
namespace Go.Inl
open Go Go.RowKit
section
variable {P:Program} {n:Nat} {σ:Nat→Value} {ty t:TypeId} {X:List Nat} {w0 w:World} {I0 I:Imm} {L:List Res} {x y:Operand}
theorem jM {S : World → Prop} {e : TypeId} {N : Nat} {K : IntKind} {i : Int} {cs : List Value} {v : Value} (hT : P.underlying t = some (.array N e)) (hs : ∀ w, (sizeOf e).run P w = .ok 1 w) (ha : ∀ w, (isAgg e).run P w = .ok false w)
 (hx:ev n σ x = .agg cs.toArray) (hi:ev n σ y = .int K i) (h0:0≤i) (h1:i < N) (hv:cs[i.toNat]? = some v):Gives P (ev n σ) S (.index t x y) ty v:=fun w _=>by
 simp[execOp,Instr.index,Sem.run_bind,run_underlying hT,hx,hi,asIntOf,h0,h1,hs,part,ha,hv]
end
end Go.Inl
namespace Go.Inl
open Go Go.RowKit
end Go.Inl
namespace Go.Inl
open Go Go.RowKit
section
variable {P:Program} {n:Nat} {df:List Deferred} {ro:Option Nat} {σ:Nat→Value} {w:World} {Q:Exit→Act→World→Prop}
end
end Go.Inl
namespace Go.Inl
open Go Go.RowKit
section
variable {P : Program} {n : Nat} {df : List Deferred} {ro : Option Nat} {σ : Nat → Value} {w : World} {ops : Array Oper} {Q : Exit → Act → World → Prop} {rest : List Oper} {d : Option Tmp} {op : Op} {ty : TypeId} {p : String} {af : Array Edge}
 {R:Value→World→Prop} {E:World→Prop} {v0:Value} {l:List Oper} {fn:Func}
end
end Go.Inl
namespace Go.Inl
open Go Go.RowKit
section
variable {P:Program} {ops:Array Oper} {Q:Exit→Act→World→Prop} {PE:List PanicEntry→World→Prop}
variable {n:Nat} {df:List Deferred} {ro:Option Nat} {σ:Nat→Value} {w:World} {X:List Nat} {w0:World} {I0 I:Imm} {L:List Res} {l:List Oper} {id:Nat}
variable {i:Nat} {r:Od} {S:World→Prop} {d:Option Tmp} {op:Op} {ty:TypeId} {p:String} {af:Array Edge} {v:Value} {R:Value→World→Prop}
end
end Go.Inl
namespace Go.Inl
open Go Go.RowKit
section
variable {P:Program} {n:Nat} {σ:Nat→Value} {S:World→Prop} {t t' ty:TypeId} {x y:Operand} {k k':IntKind} {a b c:Int}
theorem xC {s:Nat}(hx:ev n σ x = .int k a)(hy:ev n σ y = .int k' b)(hb:b=(s:Int))(hs:Nat.ble s k.bits=true)(h:a / 2 ^ s=c):Gives P (ev n σ) S (.binOp .shr t x y t') ty (.int k c):=fun w _=>by
 subst h hb;have h1:¬(s:Int) < 0:=by omega
 have h2:min s k.bits=s:=Nat.min_eq_left (xP hs);have h3:(0:Int)≤2 ^ s:=by have:=Nat.one_le_two_pow (n:=s); exact_mod_cast (Nat.zero_le _)
 simp[execOp,hx,hy,Sem.run_bind,eqGuard,binOp,Op.shift,h1,h2,Result.andThen,Int.fdiv_eq_ediv_of_nonneg _ h3]
theorem ju {d:TypeDesc}(hs:P.underlying t=some d)(hd:P.underlying t'=some (.int k'))(hx:ev n σ x = .int k a)(h:k'.wrap a=c):Gives P (ev n σ) S (.convert t t' x) ty (.int k' c):=by subst h; exact vE hs hd hx
theorem jm {e : TypeId} {N sz : Nat} {l : List (Nat × Operand)} {z : Value} {cs : List Value} {ps : List (Nat × Value)} (hz : ∀ w, (zeroValue t).run P w = .ok z w) (hT : P.underlying t = some (.array N e)) (hs : ∀ w, (sizeOf e).run P w = .ok sz w)
 (hps:(l.map fun p=>(p.1,ev n σ p.2))=ps) (hf:Instr.fill (fun i=>some (i*sz,sz)) z.cells ps=some cs.toArray):Gives P (ev n σ) S (.build t l.toArray) ty (.agg cs.toArray):=fun w _=>by
 subst hps;simp only[execOp,Instr.build,Sem.run_bind,hz,run_underlying hT,Result.andThen_ok,hs];simp[hf]
end
end Go.Inl
namespace Go.Inl
open Go Go.RowKit Go.Sort
theorem jZ (l:List Int):flat intC l=l.map (Value.int .i64):=by
 unfold flat;induction l with
 | nil=>rfl
 | cons x l ih=>rw[List.flatMap_cons,QN,ih]; rfl
theorem vo {α:Type}{L:List α}{k:Nat}{r:α}(h:L[k]? = some r):L.set k r=L:=by
 obtain⟨h1,rfl⟩:=uc.1 h;exact List.set_getElem_self ..
theorem jC (l:List Int):(flat intC l).length=l.length:=by rw[jZ,uR]
section
variable {X:List Nat} {w0 w:World} {I0 I:Imm} {L:List Res}
end
section
variable {P:Program} {f:FuncId} {X:List Nat} {w0 w:World} {I0 I:Imm} {L:List Res}
end
section
variable {P:Program} {n:Nat} {σ:Nat→Value} {ty:TypeId} {x y:Operand} {X:List Nat} {w0 w:World} {I0 I:Imm} {L:List Res}
end
end Go.Inl
namespace Go.Inl
open Go
theorem xH {sz : Nat} {cs : List Value} {v : Value} {j : Nat} : ∀ {css : List (List Value)} {i : Nat}, (∀ c ∈ css, c.length = sz) → css[i]? = some cs → cs[j]? = some v → css.flatten[i * sz + j]? = some v
 | [],i,_,h,_=>by simp at h
 | c::css,0,hcl,h,hv=>by
   simp only[List.getElem?_cons_zero,Option.some.injEq]at h;subst h;have hj:=(uc.1 hv).1;rw[Nat.zero_mul,Qu,List.flatten_cons,Qc hj];exact hv
 | c::css,i+1,hcl,h,hv=>by
   have hc:=hcl c (List.mem_cons_self ..);rw[List.flatten_cons,Qb (by rw[hc,Nat.add_mul]; omega),hc,show(i+1)*sz+j - sz=i*sz+j by rw[Nat.add_mul]; omega];exact xH (fun c hc=>hcl c (List.mem_cons_of_mem _ hc)) (by simpa using h) hv
section
variable {P:Program} {n:Nat} {σ:Nat→Value} {ty t:TypeId} {x y:Operand} {X:List Nat} {w0 w:World} {I0 I:Imm} {L:List Res}
theorem vD (k : Nat) {u : Value} {E : TypeId} {i sz m : Nat} {css : List (List Value)} {cs : List Value} (hcl : ∀ c ∈ css, c.length = sz) (hc : css[i]? = some cs) (hm : ∀ w, (sizeOf t).run P w = .ok sz w) (ha : ∀ w, (isAgg t).run P w = .ok true w)
 (hL:L[k]? = some (.row u E sz m css.flatten)) (hx:ev n σ x = .pointer (some (elA u i sz 0))):Gives P (ev n σ) (KS X w0 I0 I L) (.load t x) ty (.agg cs.toArray) :=
 g_ldR k hm ha hL hx (fun j v hv=>by rw[Nat.add_zero]; exact xH hcl hc hv) (hcl cs (uf hc))
theorem vH (k : Nat) {sz : Nat} {css : List (List Value)} {a : Option Addr} {N cap i : Nat} {E : TypeId} {cs0 : List Value} (hcl : ∀ c ∈ css, c.length = sz) (hS : St X w0 I0 I w L) (hN : N = css.length) (h0 : css[i]? = some cs0) (hm : ∀ w, (sizeOf t).run P w = .ok sz w)
 (hL:L[k]? = some (.row (.slice a N cap) E sz N css.flatten)) (hx:ev n σ x = .pointer (some (elA (.slice a N cap) i sz 0))) {vs:List Value} (hy:ev n σ y = .agg vs.toArray) (hlen:vs.length=sz) (h1:vs.all (·.oneCell')=true) :
 Does P (ev n σ) (.store t x y) ty w fun u w'=>u=undef∧St X w0 I0 I w' (L.set k (.row (.slice a N cap) E sz N (css.set i vs).flatten)):=by
 let xs:List {c:List Value // c.length=sz}:=css.attachWith (fun c=>c.length=sz) hcl
 have hmap:xs.map Subtype.val=css:=List.attachWith_map_subtype_val ..;have hfl:flat Subtype.val xs=css.flatten:=by
  unfold flat; rw[List.flatMap_def,hmap]
 have hxl:xs.length=css.length:=by rw[← hmap,uR]
 have hx0:xs[i]? = some ⟨cs0,hcl cs0 (uf h0)⟩:=by
  have hi:=(uc.1 h0).1;have e:(xs.map Subtype.val)[i]? = some cs0:=by rw[hmap]; exact h0
  rw[Qo]at e;obtain⟨z,hz,e⟩:=Option.map_eq_some_iff.1 e;rw[hz]; subst e; rfl
 have hL':L[k]? = some (.row (.slice a N cap) E sz N (flat Subtype.val xs)):=by rw[hfl]; exact hL
 refine(xJ k (enc:=Subtype.val) (fun c=>c.2) (⟨vs,hlen⟩:{c:List Value // c.length=sz}) hS (by rw[hxl]; exact hN) hx0 hm hL' hx hy (vs:=vs) (by simp[Value.cells]) hlen h1 (Nat.ble_eq_true_of_le (by omega)) (putL_self _ _ ((hcl cs0 (uf h0)).trans hlen.symm))).mono ?_;rintro u w' ⟨rfl,h⟩;refine⟨rfl,?_⟩;have e:flat Subtype.val (xs.set i ⟨vs,hlen⟩)=(css.set i vs).flatten:=by
  unfold flat; rw[List.flatMap_def,List.map_set,hmap]
 rwa [e]at h
end
end Go.Inl
