/- Fields of elements of an own row of lists of cells: loads, stores; such a row made. Conditions: none. slices.Insert of one int into an own slice, by the library's contracts, as hypotheses. Conditions: as said. append to a clipped slice that stands still; clear of the tail of an own slice; a slice clipped. Conditions: as said. -/
import Derived.Test.YtcajgkfgjpfmaaaGreatKCore3
import Derived.Test.YtcajgkfgjpfmaaaGreatKCore2
import Derived.Lib.SliceRun
set_option linter.unusedSimpArgs false
set_option linter.unusedVariables false
namespace Go.Inl
open Go
theorem putL_one : ∀ (cs : List Value) (c : Nat) (v : Value), putL cs c [v] = cs.set c v
 | [],c,v=>by cases c <;> rfl
 | x::cs,0,v=>by cases cs <;> rfl
 | x::cs,c+1,v=>by
   show x::putL cs c [v]=_
   rw[putL_one cs c v]; rfl
section
variable {P:Program} {n:Nat} {σ:Nat→Value} {ty t:TypeId} {x y:Operand} {X:List Nat} {w0 w:World} {I0 I:Imm} {L:List Res}
theorem g_ldRowC1 (k : Nat) {u : Value} {E : TypeId} {i sz m c : Nat} {css : List (List Value)} {cs : List Value} {v : Value} (hcl : ∀ c ∈ css, c.length = sz) (hc : css[i]? = some cs) (hv : cs[c]? = some v) (ha : ∀ w, (isAgg t).run P w = .ok false w)
 (hL:L[k]? = some (.row u E sz m css.flatten)) (hx:ev n σ x = .pointer (some (elA u i sz c))):Gives P (ev n σ) (KS X w0 I0 I L) (.load t x) ty v :=
 g_ldR1 k ha hL hx (xH hcl hc hv)
theorem d_storeRowF (k c : Nat) {sz : Nat} {css : List (List Value)} {a : Option Addr} {N cap i : Nat} {E : TypeId} {cs0 : List Value} {v : Value} (hcl : ∀ c ∈ css, c.length = sz) (hS : St X w0 I0 I w L) (hN : N = css.length) (h0 : css[i]? = some cs0) (hm : ∀ w, (sizeOf t).run P w = .ok 1 w)
 (hL:L[k]? = some (.row (.slice a N cap) E sz N css.flatten)) (hx:ev n σ x = .pointer (some (elA (.slice a N cap) i sz c))) (hy:ev n σ y=v) (hv:v.cells.toList=[v]) (h1:v.oneCell'=true) (hl:Nat.ble (c+1) sz=true) :
 Does P (ev n σ) (.store t x y) ty w fun u w'=>u=undef∧St X w0 I0 I w' (L.set k (.row (.slice a N cap) E sz N (css.set i (cs0.set c v)).flatten)):=by
 let xs:List {c:List Value // c.length=sz}:=css.attachWith (fun c=>c.length=sz) hcl
 have hmap:xs.map Subtype.val=css:=List.attachWith_map_subtype_val ..;have hfl:flat Subtype.val xs=css.flatten:=by
  unfold flat; rw[List.flatMap_def,hmap]
 have hxl:xs.length=css.length:=by rw[← hmap,uR]
 have hc0:=hcl cs0 (uf h0);have hx0:xs[i]? = some ⟨cs0,hc0⟩:=by
  have e:(xs.map Subtype.val)[i]? = some cs0:=by rw[hmap]; exact h0
  rw[Qo]at e;obtain⟨z,hz,e⟩:=Option.map_eq_some_iff.1 e;rw[hz]; subst e; rfl
 have hL':L[k]? = some (.row (.slice a N cap) E sz N (flat Subtype.val xs)):=by rw[hfl]; exact hL
 refine(xJ k (c:=c) (enc:=Subtype.val) (fun c=>c.2) (⟨cs0.set c v,by rw[QU]; exact hc0⟩:{c:List Value // c.length=sz}) hS (by rw[hxl]; exact hN) hx0 hm hL' hx hy (vs:=[v]) hv rfl (by simpa using h1) hl (putL_one _ _ _)).mono ?_;rintro u w' ⟨rfl,h⟩;refine⟨rfl,?_⟩;have e:flat Subtype.val (xs.set i ⟨cs0.set c v,by rw[QU]; exact hc0⟩)=(css.set i (cs0.set c v)).flatten:=by
  unfold flat; rw[List.flatMap_def,List.map_set,hmap]
 rwa [e]at h
theorem flat_unit (cs:List Value)(N:Nat):flat (fun(_:Unit)=>cs) (List.replicate N ())=(List.replicate N cs).flatten:=by
 induction N with
 | zero=>rfl
 | succ N ih=>rw[List.replicate_succ,List.replicate_succ,List.flatten_cons,← ih]; rfl
theorem d_makeC {sz by' : Nat} (cs : List Value) (hcs : cs.length = sz) (N : Nat) {e : TypeId} {z : Value} {kl kc : IntKind} {m : Int} (hS : St X w0 I0 I w L) (hT : P.underlying t = some (.slice e)) (hi : Info P e z sz by') (hz : z.cells = cs.toArray) (hsz : Nat.blt 0 sz = true)
 (hx:ev n σ x = .int kl m) (hy:ev n σ y = .int kc m) (hm:m=N) (hN:N≤4294967296) (hb:Nat.ble by' 1024=true) :
 Does P (ev n σ) (.makeSlice t x y) ty w fun v w'=>∃b,v = .slice (some ⟨b,0,none⟩) N N∧St X w0 I0 I w' (.cel b e (List.replicate N cs).flatten::L):=by
 refine(d_makeF (enc:=fun(_:Unit)=>cs) (fun _=>hcs) () N hS hT hi hz hsz hx hy hm hN hb).mono ?_;rintro v w' ⟨b,h1,h2⟩;refine⟨b,h1,?_⟩;rw[flat_unit]at h2;exact h2
end
end Go.Inl
namespace Go.Inl
open Go Go.RowKit
def setL : List Value → Nat → List Value → List Value
 | cs,_,[]=>cs
 | cs,o,v::r=>setL (cs.set o v) (o+1) r
theorem yN : ∀ (vs cs : List Value) (o : Nat), o + vs.length ≤ cs.length → setL cs o vs = cs.take o ++ vs ++ cs.drop (o + vs.length)
 | [],cs,o,_=>by simp[setL]
 | v::r,cs,o,h=>by
   have hl:o < cs.length:=by rw[uP]at h; omega
   show setL (cs.set o v) (o+1) r=_
   rw[yN r _ _ (by rw[QU]; rw[uP]at h; omega)];rw[List.set_eq_take_append_cons_drop,ui hl];have e1:(cs.take o++v::cs.drop (o+1)).take (o+1)=cs.take o++[v]:=by
    rw[List.take_append,uT,Nat.min_eq_left (by omega),show o+1 - o=1 by omega,QJ (by rw[uT]; omega)]; rfl
   have e2:(cs.take o++v::cs.drop (o+1)).drop (o+1+r.length)=cs.drop (o+(v::r).length):=by
    rw[List.drop_append,uT,Nat.min_eq_left (by omega),QI (by rw[uT]; omega),Qz,show o+1+r.length - o=r.length+1 by omega,List.drop_succ_cons,List.drop_drop];congr 1
    rw[uP]; omega
   rw[e1,e2]; simp
section
variable {X:List Nat} {w0 w:World} {I0 I:Imm} {L:List Res}
theorem St.setCell {k b:Nat}{T:TypeId}{cs:List Value}(hS:St X w0 I0 I w L)(hk:L[k]? = some (.cel b T cs))(o:Nat)(v:Value):St X w0 I0 I (w.setCell ⟨b,o,none⟩ v) (L.set k (.cel b T (cs.set o v))):=by
 have hb:w.heap[b]? = some (.cells cs.toArray T (0,0)):=hS.hold _ (uf hk);refine hS.change hk rfl rfl rfl (by simp[World.setCell]) (fun c hc hcn=>?_) (fun c hc=>.inl hc) (by simp[Res.foot]) ?_
 · have hne : b ≠ c := fun e => hcn (by simp [Res.foot, e])
   simp[World.setCell,Array.getElem?_modify,hne]
 · show (w.setCell ⟨b, o, none⟩ v).heap[b]? = _
   simp[World.setCell,Array.getElem?_modify,hb]
theorem St.setCells {k b : Nat} {T : TypeId} : ∀ (vs : List Value) {cs : List Value} {w : World} {L : List Res} (o : Nat), St X w0 I0 I w L → L[k]? = some (.cel b T cs) → St X w0 I0 I (w.setCells b o vs) (L.set k (.cel b T (setL cs o vs)))
 | [],cs,w,L,o,hS,hk=>by
   show St X w0 I0 I w (L.set k (.cel b T cs))
   rw[vo hk]; exact hS
 | v::r,cs,w,L,o,hS,hk=>by
   have hkl:k < L.length:=(uc.1 hk).1;have h:=St.setCells (k:=k) (b:=b) (T:=T) r (cs:=cs.set o v) (o+1) (hS.setCell hk o v) (List.getElem?_set_self hkl);rw[List.set_set]at h;exact h
theorem St.rowCel0 (k : Nat) {sz n c : Nat} {E : TypeId} {a : Option Addr} {xs : List Value} (h : St X w0 I0 I w L) (hk : L[k]? = some (.row (.slice a n c) E sz n xs)) :
 (a=none∧n=0∧c=0∧xs=[])∨∃b rest,a=some ⟨b,0,none⟩∧n≤c∧c≤maxLen∧(xs++rest).length=c*sz∧xs.length=n*sz∧St X w0 I0 I w (L.set k (.cel b E (xs++rest))):=by
 have hh:w.ownsRow 0 E sz (.slice a n c) n xs:=h.hold _ (uf hk);obtain⟨hl,h0 | ⟨g,cap,cur,hv,_,hg,h4,h5,h6,h7⟩⟩:=hh
 · obtain ⟨h1, h0⟩ := h0
   simp only[Value.slice.injEq]at h1;subst h0;exact .inl ⟨h1.1,rfl,h1.2.2,Ql.1 (by omega)⟩
 · simp only [Value.slice.injEq] at hv
   obtain⟨rfl,_,rfl⟩:=hv;have e:xs++cur.toList.drop xs.length=cur.toList:=by
    conv=>lhs; lhs; rw[← h7,← hl]
    exact List.take_append_drop _ _
   refine .inr ⟨g,cur.toList.drop xs.length,rfl,h4,h5,by rw[e]; simpa using h6,hl,?_⟩;rw[e];refine h.change hk (r':=.cel g E cur.toList) rfl rfl rfl (uV _) (fun _ _ _=>rfl) (fun c hc=>.inl (by simpa [Res.foot,Value.ownBlock] using hc)) (by simp[Res.foot]) ?_;show w.heap[g]? = _
   simpa using hg
end
structure InsOk (P : Program) (f : FuncId) (E : TypeId) : Prop where
 shift : ∀ (b off n c i vb voff m vc : Nat) (cs vs : List Value) (w : World) (hi : i < n) (hm : 0 < m) (hroom : n + m ≤ c) (hc63 : c ≤ 9223372036854775807) (hvb : vb ≠ b)
  (hcl:cs.length=n) (hvl:vs.length=m)
  (hcs:∀j v,cs[j]? = some v→w.cell? ⟨b,off+j,none⟩=some v) (hsp:∀j,j < n+m→(w.cell? ⟨b,off+j,none⟩).isSome=true) (hfz:∀j,j < n+m→w.frozen? ⟨b,off+j,none⟩=false)
  (hvs:∀j v,vs[j]? = some v→w.cell? ⟨vb,voff+j,none⟩=some v) (h1c:∀v∈cs,v.oneCell'=true) (h1v:∀v∈vs,v.oneCell'=true)
  (tA tB:TypeId) (kA kB:Nat) (hsa:w.shape? vb=some (tA,kA)) (hsb:w.shape? b=some (tB,kB)) (hkB:kB≠0) (hfa:w.frozen? ⟨vb,voff,none⟩=false) (hfe:w.frozen? ⟨vb,kA,none⟩=false),
  Calls P f #[.slice (some ⟨b,off,none⟩) n c,.int .i64 i,.slice (some ⟨vb,voff,none⟩) m vc] w fun e w' =>
   e = .returned (.slice (some ⟨b,off,none⟩) (n+m) c)∧w'=(w.drew.setCells b (off+(i+m)) (cs.drop i)).setCells b (off+i) vs
 endRoom : ∀ (b off n c vb voff m vc : Nat) (vs : List Value) (w : World) (hm : 0 < m) (hroom : n + m ≤ c) (hc63 : c ≤ 9223372036854775807)
  (hvl:vs.length=m) (hsp:∀j,j < m→(w.cell? ⟨b,off+n+j,none⟩).isSome=true) (hfz:∀j,j < m→w.frozen? ⟨b,off+n+j,none⟩=false)
  (hvs:∀j v,vs[j]? = some v→w.cell? ⟨vb,voff+j,none⟩=some v) (h1v:∀v∈vs,v.oneCell'=true),
  Calls P f #[.slice (some ⟨b,off,none⟩) n c,.int .i64 n,.slice (some ⟨vb,voff,none⟩) m vc] w fun e w' =>
   e = .returned (.slice (some ⟨b,off,none⟩) (n+m) c)∧w'=w.setCells b (off+n) vs
 endGrow : ∀ (base : Option Addr) (n c vb voff m vc : Nat) (cs vs : List Value) (w : World) (hm : 0 < m) (hnc : n ≤ c) (hroom : c < n + m) (hbig : (n + m) * 8 ≤ 140737488355328)
  (hcl:cs.length=n) (hvl:vs.length=m) (hnil:base=none→n=0)
  (hcs:∀a,base=some a→∀j v,cs[j]? = some v→w.cell? (a.add j)=some v)
  (hvs:∀j v,vs[j]? = some v→w.cell? ⟨vb,voff+j,none⟩=some v) (h1v:∀v∈vs,v.oneCell'=true),
  Calls P f #[.slice base n c,.int .i64 n,.slice (some ⟨vb,voff,none⟩) m vc] w fun e w' =>
   e = .returned (.slice (some ⟨w.heap.size,0,none⟩) (n+m) (grownCap w (n+m) c E)) ∧
   w'=w.drew.alloc (.cells ((cs++vs).toArray++Builtin.zeroCells (Value.int .i64 0).cells (grownCap w (n+m) c E - (n+m))) E)
 grow : ∀ (b off n c i vb voff m vc : Nat) (cs vs : List Value) (w : World) (hi : i < n) (hm : 0 < m) (hnc : n ≤ c) (hroom : c < n + m) (hbig : (n + m) * 8 ≤ 140737488355328)
  (hcl:cs.length=n) (hvl:vs.length=m)
  (hcs:∀j v,cs[j]? = some v→w.cell? ⟨b,off+j,none⟩=some v)
  (hvs:∀j v,vs[j]? = some v→w.cell? ⟨vb,voff+j,none⟩=some v) (h1c:∀v∈cs,v.oneCell'=true) (h1v:∀v∈vs,v.oneCell'=true),
  Calls P f #[.slice (some ⟨b,off,none⟩) n c,.int .i64 i,.slice (some ⟨vb,voff,none⟩) m vc] w fun e w' =>
   e = .returned (.slice (some ⟨w.heap.size,0,none⟩) (n+m) (grownCap w (n+m) c E)) ∧
   w'=(((w.alloc (.cells ((cs.take i).toArray++Builtin.zeroCells (Value.int .i64 0).cells (n+m - i)++Builtin.zeroCells (Value.int .i64 0).cells (grownCap w (n+m) c E - (n+m))) E)).drew.setCells w.heap.size i vs).drew).setCells w.heap.size (i+m) (cs.drop i)
theorem zc_list (n:Nat):∃z:List Value,Builtin.zeroCells (Value.int .i64 0).cells n=z.toArray∧z.length=n:=by
 refine⟨(Builtin.zeroCells (Value.int .i64 0).cells n).toList,by simp,?_⟩;induction n with
 | zero=>simp[Builtin.zeroCells]
 | succ n ih=>simp_all [Builtin.zeroCells,Value.cells]
section
variable {P:Program} {f:FuncId} {X:List Nat} {w0 w:World} {I0 I:Imm} {L:List Res}
theorem insert_row {E : TypeId} {a : Option Addr} {n c i vb : Nat} {l : List Int} {x : Int} (hf : InsOk P f E) (hS : St X w0 I0 I w (.cel vb E [.int .i64 x] :: .row (.slice a n c) E 1 n (flat intC l) :: L)) (hn : n = l.length) (hi : i ≤ n) (hb : n ≤ 65536) :
 Ctr P f [.slice a n c,.int .i64 i,.slice (some ⟨vb,0,none⟩) 1 1] w (fun v w'=>∃a' c',v = .slice a' (n+1) c'∧St X w0 I0 I w' (.row (.slice a' (n+1) c') E 1 (n+1) (flat intC (l.take i++x::l.drop i))::L)):=by
 have hlen:(flat intC l).length=n:=by rw[jC,hn]
 have h1c:∀v∈flat intC l,v.oneCell'=true:=fun v hv=>by
  rw[jZ,QF]at hv;obtain⟨y,_,rfl⟩:=hv; rfl
 have h1v:∀v∈[Value.int .i64 x],v.oneCell'=true:=fun v hv=>by
  rw[uL]at hv; subst hv; rfl
 have hvb:w.heap[vb]? = some (.cells #[.int .i64 x] E (0,0)):=hS.hold (.cel vb E [.int .i64 x]) (by simp);have hvs:∀j v,[Value.int .i64 x][j]? = some v→w.cell? ⟨vb,0+j,none⟩=some v:=fun j v hj=>by
  unfold World.cell?;simp only[hvb];cases j with
  | zero=>simpa using hj
  | succ j=>simp at hj
 have hfl:flat intC (l.take i++x::l.drop i)=(flat intC l).take i ++ .int .i64 x::(flat intC l).drop i:=by
  rw[jZ,jZ,Qy,QN,List.map_take,List.map_drop]
 have hfl2:(flat intC (l.take i++x::l.drop i)).length=n+1:=by
  rw[jC,ug,uP,uT,Qj]; omega
 have hge:=grownCap_ge w (n+1) c E;have hle:=grownCap_le_maxLen w (n+1) c E (by unfold maxLen; omega);rcases hS.rowCel0 1 rfl with ⟨rfl,h0,rfl,h2⟩ | ⟨b,rest,rfl,h1,h2,h3,h4,h5⟩
 · -- the slice of nothing
   subst h0;obtain rfl:i=0:=by omega
   have hl0:l=[]:=Ql.1 hn.symm;subst hl0;refine⟨Calls.mono (hf.endGrow none 0 0 vb 0 1 1 [] [.int .i64 x] w (by decide) (by decide) (by decide) (by decide) rfl rfl (fun _=>rfl) (fun a h=>by cases h) hvs h1v) ?_⟩;rintro e w' ⟨rfl,rfl⟩;generalize grownCap w (0+1) 0 E=G at hge hle
   refine⟨_,rfl,_,_,rfl,?_⟩;obtain⟨z,hz,hzl⟩:=zc_list (G - (0+1));rw[hz];have h6:=(hS.drew.alloc E ([.int .i64 x]++z)).celRow (n:=1) (c:=G) (sz:=1) (xs:=[.int .i64 x]) (rest:=z) 0 rfl rfl hge hle (by simp; omega);rw[List.append_toArray];exact h6.sub (List.Sublist.cons_cons _ (List.Sublist.cons _ (List.Sublist.cons _ (xY _))))
 · have hbS := h5
   have hbh:w.heap[b]? = some (.cells (flat intC l++rest).toArray E (0,0)):=h5.hold (.cel b E (flat intC l++rest)) (by simp);have hne:vb≠b:=fun e=>by
    have:=h5.nodup;subst e;simp[Res.foot]at this
   have hcl:(flat intC l++rest).length=c:=by rw[h3,Nat.mul_one]
   have hcell:∀j v,(flat intC l++rest)[j]? = some v→w.cell? ⟨b,0+j,none⟩=some v:=fun j v hj=>by
    unfold World.cell?;simp only[hbh];simpa using hj
   have hcs:∀j v,(flat intC l)[j]? = some v→w.cell? ⟨b,0+j,none⟩=some v:=fun j v hj=>hcell j v (by
    rw[Qc (uc.1 hj).1]; exact hj)
   have hsome:∀j,j < c→(w.cell? ⟨b,0+j,none⟩).isSome=true:=fun j hj=>by
    rw[hcell j _ (xW (by rw[hcl]; exact hj))]; rfl
   have hfz:∀j,w.frozen? ⟨b,j,none⟩=false:=fun j=>by
    unfold World.frozen?;simp[hbh]
   have hfv:∀j,w.frozen? ⟨vb,j,none⟩=false:=fun j=>by
    unfold World.frozen?;simp[hvb]
   have hrl:rest.length+n=c:=by rw[ug,hlen]at hcl; omega
   by_cases hin:i=n
   · subst hin
     have e1:(flat intC l).take i ++ .int .i64 x::(flat intC l).drop i=flat intC l++[.int .i64 x]:=by
      rw[QJ (by omega),QI (by omega)]
     rw[hfl,e1];by_cases hroom:i+1≤c
     · refine ⟨Calls.mono (hf.endRoom b 0 i c vb 0 1 1 [.int .i64 x] w (by decide) hroom (by unfold maxLen at h2; omega) rfl (fun j hj => by have := hsome (i + j) (by omega); simpa using this) (fun j hj => hfz _) hvs h1v) ?_⟩
       rintro e w' ⟨rfl,rfl⟩;refine⟨_,rfl,_,_,rfl,?_⟩;have h6:=St.setCells [.int .i64 x] (0+i) h5 (k:=1) rfl;rw[yN _ _ _ (by rw[hcl]; show 0+i+1≤c; omega)]at h6;have e2:(flat intC l++rest).take (0+i)=flat intC l:=by rw[Qu,Jj (by omega),QJ (by omega)]
       rw[e2]at h6;have h7:=h6.celRow (n:=i+1) (c:=c) (sz:=1) (xs:=flat intC l++[.int .i64 x]) (rest:=(flat intC l++rest).drop (0+i+1)) 1 rfl (by simp[hlen]) hroom h2 (by
        rw[ug,ug,hlen,Qj,hcl];simp; omega)
       exact h7.sub (List.Sublist.cons _ (xY _))
     · refine ⟨Calls.mono (hf.endGrow (some ⟨b, 0, none⟩) i c vb 0 1 1 (flat intC l) [.int .i64 x] w (by decide) h1 (by omega) (by omega) hlen rfl (fun h => by cases h) (fun a h => by cases h; exact fun j v hj => by rw [qQ]; exact hcs j v hj) hvs h1v) ?_⟩
       rintro e w' ⟨rfl,rfl⟩;generalize grownCap w (i+1) c E=G at hge hle
       refine⟨_,rfl,_,_,rfl,?_⟩;obtain⟨z,hz,hzl⟩:=zc_list (G - (i+1));rw[hz];have h6:=(hS.drew.alloc E ((flat intC l++[.int .i64 x])++z)).celRow (n:=i+1) (c:=G) (sz:=1) (xs:=flat intC l++[.int .i64 x]) (rest:=z) 0 rfl (by simp[hlen]) hge hle (by simp[hlen]; omega);rw[List.append_toArray];exact h6.sub (List.Sublist.cons_cons _ (List.Sublist.cons _ (List.Sublist.cons _ (xY _))))
   · have hil : i < n := by omega
     rw[hfl];by_cases hroom:n+1≤c
     · refine ⟨Calls.mono (hf.shift b 0 n c i vb 0 1 1 (flat intC l) [.int .i64 x] w hil (by decide) hroom (by unfold maxLen at h2; omega) hne hlen rfl hcs (fun j hj => hsome j (by omega)) (fun j hj => hfz _) hvs h1c h1v E E 1 c (by unfold World.shape?; simp [hvb]) (by unfold World.shape?; simp [hbh]; simpa using hcl) (by omega) (hfv _) (hfv _)) ?_⟩
       rintro e w' ⟨rfl,rfl⟩;refine⟨_,rfl,_,_,rfl,?_⟩;have hdl:((flat intC l).drop i).length=n - i:=by rw[Qj,hlen]
       have h6:=St.setCells ((flat intC l).drop i) (0+(i+1)) h5.drew (k:=1) rfl;have h7:=St.setCells (b:=b) (T:=E) [.int .i64 x] (0+i) h6 (k:=1) rfl;rw[yN _ (flat intC l++rest) _ (by rw[hcl,hdl]; omega)]at h7;have e2:(flat intC l++rest).take (0+(i+1))=(flat intC l).take (i+1):=by rw[Qu,Jj (by omega)]
       rw[e2,yN _ _ _ (by simp only[ug,uT,Qj,uP,List.length_nil]; omega)]at h7;have e3:((flat intC l).take (i+1)++(flat intC l).drop i++(flat intC l++rest).drop (0+(i+1)+((flat intC l).drop i).length)).take (0+i)=(flat intC l).take i:=by
        rw[Qu,Qr,Jj (by rw[uT]; omega),List.take_take,Nat.min_eq_left (by omega)]
       have e4:((flat intC l).take (i+1)++(flat intC l).drop i++(flat intC l++rest).drop (0+(i+1)+((flat intC l).drop i).length)).drop (0+i+[Value.int .i64 x].length)=(flat intC l).drop i++(flat intC l++rest).drop (0+(i+1)+((flat intC l).drop i).length):=by
        rw[Qu,Qr,List.drop_append,QI (by rw[uT]; simp; omega),Qz,uT,Nat.min_eq_left (by omega)];simp
       rw[e3,e4]at h7;have h8:=h7.celRow (b:=b) (E:=E) (n:=n+1) (c:=c) (sz:=1) (xs:=(flat intC l).take i ++ .int .i64 x::(flat intC l).drop i) (rest:=(flat intC l++rest).drop (0+(i+1)+((flat intC l).drop i).length)) 1 (by simp) (by rw[← hfl,hfl2]; omega) hroom h2 (by
        rw[ug,← hfl,hfl2,Qj,hcl,hdl]; omega)
       exact h8.sub (List.Sublist.cons _ (xY _))
     · refine ⟨Calls.mono (hf.grow b 0 n c i vb 0 1 1 (flat intC l) [.int .i64 x] w hil (by decide) h1 (by omega) (by omega) hlen rfl hcs hvs h1c h1v) ?_⟩
       rintro e w' ⟨rfl,rfl⟩;generalize grownCap w (n+1) c E=G at hge hle
       refine⟨_,rfl,_,_,rfl,?_⟩;obtain⟨z1,hz1,hz1l⟩:=zc_list (n+1 - i);obtain⟨z,hz,hzl⟩:=zc_list (G - (n+1));rw[hz,hz1];have hdl:((flat intC l).drop i).length=n - i:=by rw[Qj,hlen]
       have htl:((flat intC l).take i).length=i:=by rw[uT,hlen]; omega
       have h6:=hS.alloc E (((flat intC l).take i++z1)++z);have h7:=St.setCells [.int .i64 x] i h6.drew (k:=0) rfl;have h8:=St.setCells ((flat intC l).drop i) (i+1) h7.drew (k:=0) rfl;rw[yN [.int .i64 x] _ _ (by simp only[ug,htl,hz1l,hzl,uP,List.length_nil]; omega)]at h8;have e2:((flat intC l).take i++z1++z).take i=(flat intC l).take i:=by rw[Qr,Jj (by omega),List.take_take,Nat.min_self]
       have e3:((flat intC l).take i++z1++z).drop (i+[Value.int .i64 x].length)=(z1++z).drop 1:=by
        rw[Qr,List.drop_append,QI (by rw[htl]; simp),Qz,htl];simp
       rw[e2,e3,yN _ _ _ (by simp only[ug,htl,hz1l,hzl,uP,List.length_nil,Qj,hlen]; omega)]at h8;have e4:((flat intC l).take i++[Value.int .i64 x]++(z1++z).drop 1).take (i+1)=(flat intC l).take i++[Value.int .i64 x]:=by
        rw[Jj (by rw[ug,htl]; simp),QJ (by rw[ug,htl]; simp)]
       rw[e4]at h8;obtain⟨q,hq⟩:∃q,((flat intC l).take i++[Value.int .i64 x]++(z1++z).drop 1).drop (i+1+((flat intC l).drop i).length)=q:=⟨_,rfl⟩
       have hql:q.length=G - (n+1):=by
        rw[← hq];simp only[ug,htl,hz1l,hzl,uP,List.length_nil,Qj,hlen]; omega
       rw[hq]at h8;have h9:=h8.celRow (b:=w.heap.size) (E:=E) (n:=n+1) (c:=G) (sz:=1) (xs:=(flat intC l).take i ++ .int .i64 x::(flat intC l).drop i) (rest:=q) 0 (by simp) (by rw[← hfl,hfl2]; omega) hge hle (by
        rw[ug,← hfl,hfl2,hql]; omega)
       rw[List.append_toArray,List.append_toArray];exact h9.sub (List.Sublist.cons_cons _ (List.Sublist.cons _ (List.Sublist.cons _ (xY _))))
end
end Go.Inl
namespace Go.Inl
open Go Go.RowKit
theorem rsl_css {α : Type} {I : Imm} {sz b : Nat} {R : List Value → α → Prop} {w : World} (hw : Sat I w) : ∀ (xs : List α) (o : Nat), (∀ i x, xs[i]? = some x → ∃ cs, cs.length = sz ∧ atI I ⟨b, o + i * sz, none⟩ cs ∧ R cs x) →
 ∃css,All2 R css xs∧(∀cs∈css,cs.length=sz)∧∀j v,css.flatten[j]? = some v→w.cell? ⟨b,o+j,none⟩=some v
 | [],o,_=>⟨[],All2.nil _,(fun _ h=>by cases h),(fun j v h=>by simp at h)⟩
 | x::xs,o,h=>by
   obtain⟨cs,h1,h2,h3⟩:=h 0 x rfl;obtain⟨css,h4,h5,h6⟩:=rsl_css hw xs (o+sz) (fun i y hy=>by
    have:=h (i+1) y (by simpa using hy);rw[Nat.add_mul,Nat.one_mul,show o+(i*sz+sz)=o+sz+i*sz by omega]at this;exact this)
   refine⟨cs::css,All2.cons h3 h4,fun c hc=>?_,fun j v hv=>?_⟩
   · rcases uq.1 hc with rfl | hc
     · exact h1
     · exact h5 c hc
   · rw [List.flatten_cons] at hv
     by_cases hj:j < sz
     · rw [Qc (by rw [h1]; exact hj)] at hv
       have:=h2.cell hw j v hv;rw[qQ]at this;simpa using this
     · rw [Qb (by rw [h1]; omega), h1] at hv
       have:=h6 (j - sz) v hv;rw[show o+sz+(j - sz)=o+j by omega]at this;exact this
theorem css_len {sz:Nat}{css:List (List Value)}(h:∀cs∈css,cs.length=sz):css.flatten.length=css.length*sz:=by
 induction css with
 | nil=>simp
 | cons c l ih=>rw[List.flatten_cons,ug,h c (by simp),ih (fun x hx=>h x (by simp[hx])),uP,Nat.add_mul]; omega
theorem RSl.len_cap {α:Type}{I:Imm}{sz cap:Nat}{ad:Option Addr}{R:List Value→α→Prop}{xs:List α}(h:RSl I sz R (.slice ad xs.length cap) xs):xs.length≤cap∧cap≤9223372036854775807:=by
 have hm:maxLen≤9223372036854775807:=by unfold maxLen; decide
 rcases h with ⟨⟨a,c,h1,h2,_⟩,rfl⟩ | ⟨b,o,c,h1,h2,h3,_⟩
 · simp only [Value.slice.injEq] at h1
   obtain⟨_,_,rfl⟩:=h1;exact⟨Nat.zero_le _,Nat.le_trans h2 hm⟩
 · simp only [Value.slice.injEq] at h1
   obtain⟨_,_,rfl⟩:=h1;exact⟨h2,Nat.le_trans h3 hm⟩
theorem clip_val {α:Type}{I:Imm}{sz cap:Nat}{ad:Option Addr}{R:List Value→α→Prop}{xs:List α}(h:RSl I sz R (.slice ad xs.length cap) xs):resl (.slice ad xs.length cap) 0 xs.length xs.length sz = .slice ad xs.length xs.length:=by
 show Value.slice (if xs.length=0 then ad else ad.map (·.add (0*sz))) (xs.length - 0) (xs.length - 0)=_
 rw[Nat.sub_zero];split
 · rfl
 · rename_i h0
   rcases h with ⟨_,rfl⟩ | ⟨b,o,c,h1,_⟩
   · exact absurd rfl h0
   · simp only [Value.slice.injEq] at h1
     obtain⟨rfl,_,_⟩:=h1;rw[Option.map_some,Nat.zero_mul,qQ,Nat.add_zero]
theorem jn {α:Type}{I:Imm}{sz cap:Nat}{ad:Option Addr}{R:List Value→α→Prop}{xs:List α}(h:RSl I sz R (.slice ad xs.length cap) xs):RSl I sz R (.slice ad xs.length xs.length) xs:=by
 have h2:=h.resl 0 xs.length (Nat.zero_le _) (uV _);rw[clip_val h,Qq,List.drop_zero]at h2;exact h2
section
variable {P:Program} {n:Nat} {σ:Nat→Value} {w:World} {ty:TypeId} {X:List Nat} {w0:World} {I0 I:Imm} {L:List Res}
theorem mlc {l:List Operand}{vs caps ws:List Value}(h:l.map (ev n σ)=vs)(e:vs++caps=ws):l.map (ev n σ)++caps=ws:=by rw[h,e]
theorem qO (j : Nat) {α : Type} {R : List Value → α → Prop} {t e T : TypeId} {sz by' : Nat} {z : Value} {x y : Operand} {aT : Array TypeId} {ad : Option Addr} {N c b : Nat} {xs : List α} {news : List Value} (hS : St X w0 I0 I w L) (ho : aT = #[t, t]) (hT : P.underlying t = some (.slice e))
 (hi:Info P e z sz by') (hzs:z.cells.size=sz) (h0:Nat.blt 0 sz=true) (hr:RSl I sz R (.slice ad N N) xs) (hN:N=xs.length) (hJ:L[j]? = some (.cel b T news)) (hx:ev n σ x = .slice ad N N)
 (hy:ev n σ y = .slice (some ⟨b,0,none⟩) 1 c) (hl:news.length=sz) (hb:(N+1)*by'≤140737488355328) (hN2:N≤65536) :
 Does P (ev n σ) (.call { callee:=.builtin .append,args := #[x,y],argTypes:=aT }) ty w fun v w'=>∃a cap css,v = .slice a (N+1) cap∧All2 R css xs∧(∀cs∈css,cs.length=sz)∧St X w0 I0 I w' (.row (.slice a (N+1) cap) e sz (N+1) (css.flatten++news)::L):=by
 subst ho hN;obtain⟨i,k1,k2,k3,k4⟩:=hi;have h0':0 < sz:=by simpa using h0
 have hnews:∀q v,news[q]? = some v→w.cell? ((⟨b,0,none⟩:Addr).add q)=some v:=fun q v hq=>by rw[qQ,Qu]; exact zx hS hJ hq
 have hge:=grownCap_ge w (xs.length+1) xs.length e;have hle:=grownCap_le_maxLen w (xs.length+1) xs.length e (by unfold maxLen; omega);obtain ⟨css, hA, hcl, hrun⟩ : ∃ css, All2 R css xs ∧ (∀ cs ∈ css, cs.length = sz) ∧ (Builtin.append_ #[t, t] ty #[.slice ad xs.length xs.length, .slice (some ⟨b, 0, none⟩) 1 c]).run P w =
  .ok (.slice (some ⟨w.heap.size,0,none⟩) (xs.length+1) (grownCap w (xs.length+1) xs.length e)) (w.drew.alloc (.cells ((css.flatten++news).toArray++Builtin.zeroCells z.cells (grownCap w (xs.length+1) xs.length e - (xs.length+1))) e)):=by
  have hfit:Builtin.nextslicecap (xs.length+1) xs.length*i.bytes≤281474976710656:=by rw[k4]; exact growslice_fits (by omega) hb
  cases had:ad with
  | none =>
    have hx0:xs=[]:=by
     rcases hr with ⟨_,h⟩ | ⟨b,o,c,h1,_⟩
     · exact h
     · rw[had]at h1; cases h1
    subst hx0;refine⟨[],All2.nil _,fun _ h=>(by cases h),?_⟩;have:=run_append_nil (P:=P) (w:=w) t ty e i z hT k1 k2 ⟨b,0,none⟩ 1 c news (by rw[k3,hl,Nat.one_mul]) hnews (by decide) (by decide) (by rw[k4]; simp at hb; omega);simpa using this
  | some a =>
    obtain⟨css,h1,h2,h3⟩:∃css,All2 R css xs∧(∀cs∈css,cs.length=sz)∧∀q v,css.flatten[q]? = some v→w.cell? (a.add q)=some v:=by
     rcases hr with ⟨_,rfl⟩ | ⟨b,o,c,h1,_,_,h4⟩
     · exact⟨[],All2.nil _,fun _ h=>(by cases h),fun q v h=>by simp at h⟩
     · simp only [Value.slice.injEq] at h1
       rw[had]at h1;obtain⟨h1,_,_⟩:=h1;cases h1
       obtain⟨css,g1,g2,g3⟩:=rsl_css hS.imm xs o h4;exact⟨css,g1,g2,fun q v hq=>by rw[qQ]; exact g3 q v hq⟩
    refine⟨css,h1,h2,?_⟩;have:=run_append_grow (P:=P) w t ty e i z hT k1 k2 a xs.length xs.length css.flatten (by rw[css_len h2,h1.1,k3]) h3 ⟨b,0,none⟩ 1 c news (by rw[k3,hl,Nat.one_mul]) hnews (by omega) (by omega) hfit;rw[this];congr 3
    apply Array.ext'
    simp
 generalize grownCap w (xs.length+1) xs.length e=G at hrun hge hle
 refine qX (v:=.slice (some ⟨w.heap.size,0,none⟩) (xs.length+1) G) (w':=w.drew.alloc (.cells ((css.flatten++news).toArray++Builtin.zeroCells z.cells (G - (xs.length+1))) e)) ?_ ⟨_,_,css,rfl,hA,hcl,?_⟩
 · simp only[execOp,resolve,invoke,builtin,List.map_toArray,QN,List.map_nil,hx,hy,Sem.run_bind,Sem.run_pure,Result.andThen_ok,hrun]
 · have hfl : (css.flatten ++ news).length = (xs.length + 1) * sz := by rw [ug, css_len hcl, hA.1, hl, Nat.add_mul, Nat.one_mul]
   have hAl:=(hS.drew).alloc e ((css.flatten++news).toArray++Builtin.zeroCells z.cells (G - (xs.length+1))).toList;simp only[Array.toArray_toList]at hAl;have hz1:(Builtin.zeroCells z.cells (G - (xs.length+1))).size=(G - (xs.length+1))*sz:=by rw[size_zeroCells,hzs]
   have hsz:((css.flatten++news).toArray++Builtin.zeroCells z.cells (G - (xs.length+1))).size=G*sz:=by
    rw[Array.size_append,hz1,List.size_toArray,hfl,← Nat.add_mul];congr 1; omega
   have htk:(((css.flatten++news).toArray++Builtin.zeroCells z.cells (G - (xs.length+1))).toList).take ((xs.length+1)*sz)=css.flatten++news:=by
    rw[Array.toList_append,Jj (by simp only[List.toList_toArray]; omega),QJ (by simp only[List.toList_toArray]; omega)]
   exact hAl.change (k := 0) (r' := .row (.slice (some ⟨w.heap.size, 0, none⟩) (xs.length + 1) G) e sz (xs.length + 1) (css.flatten ++ news)) rfl rfl rfl rfl (uV _) (fun _ _ _ => rfl) (fun b hb => .inl (by simpa [Res.foot, Value.ownBlock, eq_comm] using hb)) (by simp [Res.foot, Value.ownBlock])
    ⟨hfl,.inr ⟨w.heap.size,G,_,rfl,Nat.zero_le _,heap_alloc_new w.drew _,hge,hle,hsz,htk⟩⟩
theorem d_clearI (k : Nat) {t e : TypeId} {x : Operand} {aT : Array TypeId} {a : Option Addr} {N i c : Nat} {l : List Int} (hS : St X w0 I0 I w L) (ho : aT = #[t]) (hT : P.underlying t = some (.slice e)) (hv : ∀ w, (zeroValue e).run P w = .ok (.int .i64 0) w)
 (hL:L[k]? = some (.row (.slice a N c) e 1 N (flat intC l))) (hN:N=l.length) (hi:i < N) (hx:ev n σ x=resl (.slice a N c) i N c 1) :
 Does P (ev n σ) (.call { callee:=.builtin .clear,args := #[x],argTypes:=aT }) ty w fun v w'=>v = .tuple #[]∧resl (.slice a N c) 0 i c 1 = .slice a i c∧St X w0 I0 I w' (L.set k (.row (.slice a i c) e 1 i (flat intC (l.take i)))):=by
 subst ho;obtain⟨b,rest,rfl,h1,h2,h3,h4,h5⟩:=hS.rowCel k hL (by omega);have hkl:k < L.length:=(uc.1 hL).1;have hk5:(L.set k (.cel b e (flat intC l++rest)))[k]? = some (.cel b e (flat intC l++rest)):=List.getElem?_set_self hkl;have hci:¬c=i:=by omega
 have hxv:resl (.slice (some ⟨b,0,none⟩) N c) i N c 1 = .slice (some ⟨b,i,none⟩) (N - i) (c - i):=by
  show Value.slice (if c=i then _ else _) _ _=_
  rw[ud hci,Option.map_some,qQ,Nat.mul_one,Qu]
 rw[hxv]at hx;have hcl:(flat intC l++rest).length=c:=by rw[h3,Nat.mul_one]
 have hbh:w.heap[b]? = some (.cells (flat intC l++rest).toArray e (0,0)):=h5.hold (.cel b e (flat intC l++rest)) (uf hk5);have hrun:=Go.Lib.run_clear_slice (P:=P) w t e ty (.int .i64 0) hT hv rfl rfl b i (N - i) (c - i) (by omega) (fun j hj=>by
  unfold World.cell?;simp only[hbh];simp only[Option.isSome_none,Bool.false_eq_true,if_false];rw[List.getElem?_toArray,xW (by rw[hcl]; omega)]; rfl) (fun j _=>by unfold World.frozen?; simp[hbh])
 refine qX (v:=.tuple #[]) (w':=w.setCells b i (List.replicate (N - i) (.int .i64 0))) ?_ ⟨rfl,?_,?_⟩
 · simp only[execOp,resolve,invoke,builtin,List.map_toArray,QN,List.map_nil,hx,Sem.run_bind,Sem.run_pure,Result.andThen_ok,hrun]
 · show Value.slice (if c = 0 then _ else _) _ _ = _
   rw[ud (by omega),Option.map_some,qQ,Nat.zero_mul,Nat.add_zero,Nat.sub_zero,Nat.sub_zero]
 · have h6 := St.setCells (b := b) (T := e) (List.replicate (N - i) (.int .i64 0)) i h5 (k := k) hk5
   have hfl:(flat intC l).length=N:=by rw[jC,hN]
   rw[yN _ _ _ (by rw[hcl,QW]; omega),List.set_set,QW]at h6;have e2:(flat intC l++rest).take i=flat intC (l.take i):=by
    rw[Jj (by omega),jZ,jZ,List.map_take]
   rw[e2,Qr]at h6;have h7:=h6.celRow (b:=b) (E:=e) (n:=i) (c:=c) (sz:=1) (xs:=flat intC (l.take i)) (rest:=List.replicate (N - i) (.int .i64 0)++(flat intC l++rest).drop (i+(N - i))) k (by simp[hkl]) (by rw[jC,uT]; omega) (by omega) h2 (by
    rw[ug,jC,uT,ug,QW,Qj,hcl]; omega)
   rw[List.set_set]at h7;exact h7
theorem g_slice3H {S : World → Prop} {t e : TypeId} {x : Operand} {ad : Option Addr} {len cap sz : Nat} {kh km : IntKind} {h m : Int} {hi mx : Operand} (hT : P.underlying t = some (.slice e)) (hs : ∀ w, (sizeOf e).run P w = .ok sz w)
 (hx:ev n σ x = .slice ad len cap) (hh:ev n σ hi = .int kh h) (hm:ev n σ mx = .int km m) (h0:0≤h) (h2:h≤m) (h3:m≤cap) :
 Gives P (ev n σ) S (.slice t x none (some hi) (some mx)) ty (resl (.slice ad len cap) 0 h.toNat m.toNat sz):=fun w _=>by
 have e1:(Instr.sliceBound (.int km m) cap .slice3Acap).run P w = .ok m.toNat w:=run_sliceBound w km m cap _ (by omega) h3;have e2:(Instr.sliceBound (.int kh h) m.toNat .slice3B).run P w = .ok h.toNat w:=run_sliceBound w kh h _ _ (by omega) (by omega);simp[execOp,Instr.sliceAt,Sem.run_bind,run_underlying hT,hx,Instr.slice,Instr.sliceBounds,hh,hm,e1,e2,hs,resl]
theorem g_clip {α : Type} {R : List Value → α → Prop} {S : World → Prop} {t e : TypeId} {x : Operand} {ad : Option Addr} {cap sz : Nat} {kh km : IntKind} {hi mx : Operand} {xs : List α} (hr : RSl I sz R (.slice ad xs.length cap) xs) (hT : P.underlying t = some (.slice e)) (hs : ∀ w, (sizeOf e).run P w = .ok sz w)
 (hx:ev n σ x = .slice ad xs.length cap) (hh:ev n σ hi = .int kh xs.length) (hm:ev n σ mx = .int km xs.length) :
 Gives P (ev n σ) S (.slice t x none (some hi) (some mx)) ty (.slice ad xs.length xs.length):=by
 have h:=g_slice3H (ty:=ty) (S:=S) hT hs hx hh hm (by omega) (by omega) (by have:=(RSl.len_cap hr).1; omega);rw[Int.toNat_natCast,clip_val hr]at h;exact h
theorem g_eqSliceNilA {S : World → Prop} {t t' e : TypeId} {x y : Operand} {a : Option Addr} {k c : Nat} (hT : P.underlying t = some (.slice e)) (hx : ev n σ x = .slice a k c) (hy : ev n σ y = .slice none 0 0) :
 Gives P (ev n σ) S (.binOp .eql t x y t') ty (.bool a.isNone):=fun w _=>by
 have h1:(binOp .eql t (.slice a k c) (.slice none 0 0)).run P w = .ok (.bool a.isNone) w:=Go.Lib.run_eql_slice_nil w t e a k c 0 0 hT;simp only[execOp,hx,hy,Sem.run_bind,eqGuard,h1];simp[Result.andThen,h1]
end
end Go.Inl
