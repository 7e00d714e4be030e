/- Slices that move along their block: indexed, cut at the front, appended to behind a cut; maps from bytes to numbers: made, asked, written, walked through. Conditions: none. Maps from bytes to numbers: made, asked, written, walked through. Conditions: none. -/
import Derived.Test.YtgkgihnpjgbmhaaGreatDoorKCore3
import Derived.Maps.RangeRun
set_option linter.unusedSimpArgs false
set_option linter.unusedVariables false
namespace Go.Inl
open Go Go.RowKit
section
variable {P:Program} {n:Nat} {σ:Nat→Value} {ty t:TypeId} {X:List Nat} {w0 w:World} {I0 I:Imm} {L:List Res} {x y ix:Operand}
theorem St.nilWin (h:St X w0 I0 I w L)(E:TypeId):St X w0 I0 I w (.win (.slice none 0 0) E []::L) :=
 ⟨h.os,h.tape,h.output,h.size,h.block,h.imm,h.old,h.ext,fun r hr=>by
   cases xV.1 hr with
   | inl e=>subst e; exact .inl ⟨rfl,rfl⟩
   | inr hr=>exact h.hold r hr,
   fun r hr b hb=>by
    cases xV.1 hr with
    | inl e=>subst e; simp[Res.foot,Value.ownBlock]at hb
    | inr hr=>exact h.new r hr b hb,
   by simpa [Res.foot,Value.ownBlock] using h.nodup⟩
theorem win_cells {g o:Nat}{E:TypeId}{cur:Array Value}{xs:List Value}(hg:w.heap[g]? = some (.cells cur E (0,0)))(ht:(cur.toList.drop o).take xs.length=xs){j:Nat}{v:Value}(hv:xs[j]? = some v):w.cell? ⟨g,o+j,none⟩=some v:=by
 rw[cell_of_row w g (o+j) cur E (0,0) hg];rw[← ht,List.getElem?_take]at hv;split at hv
 · rw[List.getElem?_drop]at hv; simpa using hv
 · cases hv
theorem g_ixW (k : Nat) {K : IntKind} {e E : TypeId} {u : Value} {xs : List Value} {i : Int} (hT : P.underlying t = some (.slice e)) (hs : ∀ w, (sizeOf e).run P w = .ok 1 w)
 (hL:L[k]? = some (.win u E xs)) (hx:ev n σ x=u) (hi:ev n σ ix = .int K i) (h0:0≤i) (h1:i < xs.length) :
 Gives P (ev n σ) (KS X w0 I0 I L) (.indexAddr t x ix) ty (.pointer (some (elA u i.toNat 1 0))):=fun w h=>by
 rcases h.hold _ (xR hL) with ⟨_,h3⟩ | ⟨g,o,cap,cur,h2,_⟩
 · subst h3; simp at h1; omega
 · have := kB (S := fun _ => True) (ty := ty) hT hs (hx.trans h2) hi h0 h1 w trivial
   rw[this]; subst h2; rfl
theorem g_ldW (k : Nat) {u : Value} {E : TypeId} {i : Nat} {xs : List Value} {v : Value} (ha : ∀ w, (isAgg t).run P w = .ok false w) (hL : L[k]? = some (.win u E xs))
 (hx:ev n σ x = .pointer (some (elA u i 1 0))) (hv:xs[i]? = some v):Gives P (ev n σ) (KS X w0 I0 I L) (.load t x) ty v :=
 kS hx fun w h=>jF (ha w) (by
  rcases h.hold _ (xR hL) with ⟨_,rfl⟩ | ⟨g,o,cap,cur,rfl,h2,_,_,_,h6⟩
  · cases hv
  · have := win_cells h2 h6 hv
    simpa [elA] using this)
theorem run_append_at (w : World) (t ty e : TypeId) (i : TypeInfo) (ht : P.underlying t = some (.slice e)) (hi : P.info? e = some i)
 (g o sLen sCap:Nat) (cur:Array Value) (hg:w.heap[g]? = some (.cells cur e (0,0)))
 (a:Addr) (m c:Nat) (news:List Value) (hl:news.length=m*i.size) (hnews:∀j u,news[j]? = some u→w.cell? (a.add j)=some u) (h1:∀u∈news,u.oneCell'=true)
 (hroom:sLen+m≤sCap) (hfit:o+sLen*i.size+news.length≤cur.size) :
 (Builtin.append_ #[t, t] ty #[.slice (some ⟨g, o, none⟩) sLen sCap, .slice (some a) m c]).run P w =
   .ok (.slice (some ⟨g,o,none⟩) (sLen+m) sCap) (w.setRow g (cur.toList.take (o+sLen*i.size)++news++cur.toList.drop (o+sLen*i.size+news.length)).toArray):=by
 have hf:=run_firstCells_some (P:=P) w i.size m a m c news hl hnews;have hst:=run_storeCells_at P g (o+sLen*i.size) e news 0 cur w hg (by simpa using hfit) h1;simp only[Nat.add_zero]at hst;simp[Builtin.append_,run_underlying ht,sizeOf,typeInfo,hi,Builtin.lenOf,hroom,hf,qL,hst]
theorem kL (i j k : Nat) {t e T : TypeId} {by' : Nat} {z : Value} {x y : Operand} {aT : Array TypeId} {ad : Option Addr} {len cap m c b : Nat} {xs news : List Value} (Z : St X w0 I0 I w L) (ho : aT = #[t, t]) (hT : P.underlying t = some (.slice e))
 (hi:Info P e z 1 by') (hzs:z.cells.size=1) (hL:L[i]? = some (.win (.slice ad len cap) e xs)) (hJ:L[j]? = some (.cel b T news)) (hk:k≤xs.length) (hx:ev n σ x=resl (.slice ad len cap) 0 k cap 1) (hy:ev n σ y = .slice (some ⟨b,0,none⟩) m c)
 (hl:news.length=m) (h1:news.all (·.oneCell')=true) (h63:k+m≤9223372036854775807) (hbytes:(k+m)*by'≤140737488355328) :
 Does P (ev n σ) (.call { callee:=.builtin .append,args := #[x,y],argTypes:=aT }) ty w fun v w'=>∃ad' cap',v = .slice ad' (k+m) cap'∧St X w0 I0 I w' (L.set i (.win (.slice ad' (k+m) cap') e (xs.take k++news))):=by
 subst ho;obtain⟨inf,q1,q2,q3,q4⟩:=hi;have hlx:(xs.take k).length=k:=by rw[uo]; omega
 have hnl:(xs.take k++news).length=k+m:=by rw[xN,hlx,hl]
 have hcells:∀j v,news[j]? = some v→w.cell? ((⟨b,0,none⟩:Addr).add j)=some v:=fun j v hv=>by rw[qL,Qv]; exact kx Z hJ hv
 have hone:∀u∈news,u.oneCell'=true:=by simpa using h1
 have fin : ∀ (v' : Value) (w' : World) (ad' : Option Addr) (cap' : Nat), v' = .slice ad' (k + m) cap' → (Builtin.append_ #[t, t] ty #[resl (.slice ad len cap) 0 k cap 1, .slice (some ⟨b, 0, none⟩) m c]).run P w = .ok v' w' →
  w'.os=w.os→w'.tape=w.tape→w'.output=w.output→w.heap.size≤w'.heap.size→(∀d,d < w.heap.size→d∉(Res.win (.slice ad len cap) e xs).foot→w'.heap[d]? = w.heap[d]?) →
  (∀d∈(Res.win (.slice ad' (k+m) cap') e (xs.take k++news)).foot,d∈(Res.win (.slice ad len cap) e xs).foot∨w.heap.size≤d)→(Res.win (.slice ad' (k+m) cap') e (xs.take k++news)).holds w' →
  Does P (ev n σ) (.call { callee:=.builtin .append,args := #[x,y],argTypes := #[t,t] }) ty w fun v w'=>∃ad' cap',v = .slice ad' (k+m) cap'∧St X w0 I0 I w' (L.set i (.win (.slice ad' (k+m) cap') e (xs.take k++news))):=by
  intro v' w' ad' cap' hv' hr k1 k2 k3 k4 k5 k6 k7;refine qP (v:=v') (w':=w') ?_ ⟨ad',cap',hv',?_⟩
  · simp only[execOp,resolve,invoke,builtin,List.map_toArray,Qt,List.map_nil,hx,hy,Sem.run_bind,Sem.run_pure,Result.andThen_ok,hr]
  · refine Z.change hL k1 k2 k3 k4 k5 k6 ?_ k7
    cases ad' <;> simp[Res.foot,Value.ownBlock]
 have hnew:∀(old:Nat) (olds:List Value),olds=xs.take k→(Res.win (.slice (some ⟨w.heap.size,0,none⟩) (k+m) (grownCap w (k+m) old e)) e (xs.take k++news)).holds (w.drew.alloc (.cells (olds.toArray++news.toArray++Builtin.zeroCells z.cells (grownCap w (k+m) old e - (k+m))) e)):=fun old olds ho=>by
  subst ho;have hge:=grownCap_ge w (k+m) old e;have hcm:grownCap w (k+m) old e≤maxLen:=grownCap_le_maxLen w (k+m) old e (by simpa [maxLen] using h63);refine .inr ⟨w.heap.size,0,_,_,by rw[hnl],heap_alloc_new w.drew _,by rw[hnl]; exact hge,?_,hcm,?_⟩
  · simp only[Array.size_append,List.size_toArray,size_zeroCells,hzs,hlx,hl]; omega
  · rw [List.drop_zero]
    simp only[Array.toList_append];exact List.take_left
 rcases Z.hold _ (xR hL) with ⟨hv,hxe⟩ | ⟨g,o,cp,cur,hv,h2,h3,h4,h5,h6⟩
 · -- nothing yet
   injection hv with e1 e2 e3
   subst e1 e2 e3 hxe;have hk0:k=0:=by simpa using hk
   subst hk0;have hx0:resl (.slice none 0 0) 0 0 0 1 = .slice none 0 0:=rfl;by_cases hm:m=0
   · subst hm
     have hn:news=[]:=List.eq_nil_of_length_eq_zero hl;subst hn;refine fin (.slice none 0 0) w none 0 rfl ?_ rfl rfl rfl (uc _) (fun _ _ _=>rfl) (fun d hd=>.inl hd) (.inl ⟨rfl,rfl⟩);rw[hx0];simp[Builtin.append_,run_underlying hT,sizeOf,typeInfo,q1,Builtin.lenOf,Builtin.firstCells,loadCells,loadCellsFrom]
   · have hr := run_append_nil (P := P) w t ty e inf z hT q1 q2 ⟨b, 0, none⟩ m c news (by rw [q3, hl, Nat.mul_one]) hcells (by omega) (by omega) (by subst q4; have hb := hbytes; simp only [Qv] at hb; omega)
     have:=hnew 0 [] rfl;simp only[Qv]at this;rw[← hx0]at hr;refine fin _ _ (some ⟨w.heap.size,0,none⟩) (grownCap w m 0 e) (by simp only[Qv]) hr rfl rfl rfl (by simp) (fun d hd _=>heap_alloc_old w.drew _ hd) (fun d hd=>.inr ?_) ?_
     · simp only[Res.foot,Value.ownBlock,Option.mem_toList,Option.some.injEq]at hd; omega
     · simpa using this
 · injection hv with e1 e2 e3
   subst e1 e2 e3;have hxr:resl (.slice (some ⟨g,o,none⟩) xs.length cap) 0 k cap 1 = .slice (some ⟨g,o,none⟩) k cap:=by
    by_cases h:cap=0
    · subst h; simp[resl]
    · simp[resl,h,qL]
   by_cases hroom:k+m≤cap
   · have hr := run_append_at (P := P) w t ty e inf hT q1 g o k cap cur h2 ⟨b, 0, none⟩ m c news (by rw [q3, hl, Nat.mul_one]) hcells hone hroom (by rw [q3, hl, Nat.mul_one]; omega)
     rw[← hxr]at hr;refine fin _ _ _ _ rfl hr rfl rfl rfl (by simp) (fun d hd hf=>setRow_other w g d _ fun e=>hf (by simp[Res.foot,Value.ownBlock,e])) (fun d hd=>.inl (by simpa [Res.foot,Value.ownBlock] using hd)) ?_;refine .inr ⟨g,o,cap,_,by rw[hnl],setRow_heap w g cur _ e _ h2,by rw[hnl]; exact hroom,?_,h5,?_⟩
     · simp only[List.size_toArray,xN,uo,Qj,Array.length_toList]; omega
     · rw [q3, Nat.mul_one, hnl]
       have hcl:cur.toList.length=cur.size:=Array.length_toList;have e1:(cur.toList.take (o+k)).drop o=xs.take k:=by
        conv=>rhs; rw[← h6]
        rw[List.take_take,Nat.min_eq_left hk,List.drop_take,show o+k - o=k by omega]
       rw[uh,List.drop_append_of_le_length (by rw[uo]; omega),e1,← uh];rw[QK (by omega),QC (by omega)]
   · have hr:=run_append_grow (P:=P) w t ty e inf z hT q1 q2 ⟨g,o,none⟩ k cap (xs.take k) (by rw[q3,hlx,Nat.mul_one]) (fun j v hv=>by
      rw[qL];refine win_cells h2 h6 ?_;rw[List.getElem?_take]at hv;split at hv
      · exact hv
      · cases hv) ⟨b,0,none⟩ m c news (by rw[q3,hl,Nat.mul_one]) hcells (by omega) (by omega) (growslice_fits (by omega) (by rw[q4]; exact hbytes))
     rw[← hxr]at hr;refine fin _ _ _ _ rfl hr rfl rfl rfl (by simp) (fun d hd _=>heap_alloc_old w.drew _ hd) (fun d hd=>.inr ?_) (hnew cap _ rfl);simp only[Res.foot,Value.ownBlock,Option.mem_toList,Option.some.injEq]at hd; omega
theorem St.winTail (i : Nat) {ad : Option Addr} {len cap : Nat} {E : TypeId} {v : Value} {xs : List Value} (h : St X w0 I0 I w L) (hL : L[i]? = some (.win (.slice ad len cap) E (v :: xs))) :
 ∃ad' cap',resl (.slice ad len cap) 1 len cap 1 = .slice ad' xs.length cap'∧len=xs.length+1∧1≤cap∧St X w0 I0 I w (L.set i (.win (.slice ad' xs.length cap') E xs)):=by
 rcases h.hold _ (xR hL) with ⟨_,hx⟩ | ⟨g,o,cp,cur,hv,h2,h3,h4,h5,h6⟩
 · cases hx
 · injection hv with e1 e2 e3
   subst e1 e2 e3;rw[List.length_cons]at h3 h6;have hd:(cur.toList.drop (o+1)).take xs.length=xs:=by
    have h7:=congrArg (List.drop 1) h6;rw[List.drop_take,List.drop_drop]at h7;simpa using h7
   by_cases e:cap=1
   · subst e
     have hx0:xs=[]:=List.eq_nil_of_length_eq_zero (by omega);subst hx0;refine⟨some ⟨g,o,none⟩,0,by simp[resl],rfl,uc _,?_⟩;exact h.change hL rfl rfl rfl (uc _) (fun _ _ _=>rfl) (fun d hd=>.inl (by simpa [Res.foot,Value.ownBlock] using hd)) (by simp[Res.foot,Value.ownBlock]) (.inr ⟨g,o,0,cur,rfl,h2,uc _,by omega,by simp[maxLen],by simp⟩)
   · refine ⟨some ⟨g, o + 1, none⟩, cap - 1, by simp [resl, e, qL], rfl, by omega, ?_⟩
     exact h.change hL rfl rfl rfl (uc _) (fun _ _ _=>rfl) (fun d hd=>.inl (by simpa [Res.foot,Value.ownBlock] using hd)) (by simp[Res.foot,Value.ownBlock]) (.inr ⟨g,o+1,cap - 1,cur,rfl,h2,by omega,by omega,by omega,hd⟩)
end
end Go.Inl
namespace Go.Inl
open Go Go.RowKit
def entU : Nat → List (Int × Int) → List MapEntry
 | _,[]=>[]
 | i,x::r=>{ key:=.int .u8 x.1,val:=.ig x.2,born:=i }::entU (i+1) r
def mapU (l:List (Int×Int)):Obj:=.map (entU 0 l).toArray l.length
def putU : List (Int × Int) → Int → Int → List (Int × Int)
 | [],k,v=>[(k,v)]
 | x::r,k,v=>if k=x.1 then (k,v)::r else x::putU r k v
theorem entU_len : ∀ (l : List (Int × Int)) (b : Nat), (entU b l).length = l.length
 | [],_=>rfl
 | x::r,b=>by simp[entU,entU_len r]
theorem ku : ∀ (l : List (Int × Int)) (b j : Nat), (entU b l)[j]? = (l[j]?).map fun x => { key := .int .u8 x.1, val := .ig x.2, born := b + j }
 | [],b,j=>by simp[entU]
 | x::r,b,0=>by simp[entU]
 | x::r,b,j+1=>by
   show(entU (b+1) r)[j]? = _
   rw[ku r (b+1) j,List.getElem?_cons_succ,show b+1+j=b+(j+1) by omega]
theorem vt : ∀ (l : List (Int × Int)) (k v j : Int), lookI (putU l k v) j = if j = k then some v else lookI l j
 | [],k,v,j=>rfl
 | x::r,k,v,j=>by
   unfold putU;by_cases h:k=x.1
   · rw [xS h]
     unfold lookI;dsimp only;by_cases e:j=k
     · rw[xS e,xS e]
     · rw[xP e,xP e,xP (fun e2=>e (e2.trans h.symm))]
   · rw [xP h]
     show(if j=x.1 then some x.2 else lookI (putU r k v) j)=_
     by_cases e:j=x.1
     · rw [xS e, xP (fun e2 => h (e2.symm.trans e))]
       show _=(if j=x.1 then some x.2 else lookI r j)
       rw[xS e]
     · rw [xP e, vt r k v j]
       show _=if j=k then some v else (if j=x.1 then some x.2 else lookI r j)
       rw[xP e]
def KeysN (l:List (Int×Int)):Prop:=(l.map (·.1)).Nodup
theorem put_key : ∀ (l : List (Int × Int)) (k v y : Int), y ∈ (putU l k v).map (·.1) → y = k ∨ y ∈ l.map (·.1)
 | [],k,v,y,h=>by simp[putU]at h; exact .inl h
 | x::r,k,v,y,h=>by
   unfold putU at h;by_cases e:k=x.1
   · rw [xS e] at h
     rw[Qt]at h ⊢;rcases xV.1 h with h | h
     · exact .inl h
     · exact .inr (List.mem_cons_of_mem _ h)
   · rw [xP e] at h
     rw[Qt]at h ⊢;rcases xV.1 h with h | h
     · exact .inr (h▸List.mem_cons_self ..)
     · exact(put_key r k v y h).imp id (List.mem_cons_of_mem _)
theorem KeysN.put : ∀ {l : List (Int × Int)} (k v : Int), KeysN l → KeysN (putU l k v)
 | [],k,v,_=>by unfold KeysN putU; simp
 | x::r,k,v,h=>by
   unfold KeysN at h;rw[Qt,List.nodup_cons]at h;unfold putU;by_cases e:k=x.1
   · rw [xS e]
     unfold KeysN;rw[Qt,List.nodup_cons];exact⟨by dsimp only; rw[e]; exact h.1,h.2⟩
   · rw [xP e]
     unfold KeysN;rw[Qt,List.nodup_cons];refine⟨fun hm=>?_,KeysN.put (l:=r) k v h.2⟩;rcases put_key r k v x.1 hm with h2 | h2
     · exact e h2.symm
     · exact h.1 h2
theorem look_at : ∀ {l : List (Int × Int)} {j : Nat} {k v : Int}, KeysN l → l[j]? = some (k, v) → lookI l k = some v
 | [],j,k,v,_,h=>by simp at h
 | x::r,0,k,v,_,h=>by
   rw[List.getElem?_cons_zero]at h;obtain rfl:=Option.some.inj h;unfold lookI; rw[xS rfl]
 | x::r,j+1,k,v,hn,h=>by
   rw[List.getElem?_cons_succ]at h;unfold KeysN at hn;rw[Qt,List.nodup_cons]at hn;unfold lookI;rw[xP (fun e=>hn.1 (by rw[← e]; exact Qu.2 ⟨(k,v),xR h,rfl⟩))];exact look_at hn.2 h
theorem look_ex : ∀ {l : List (Int × Int)} {k v : Int}, lookI l k = some v → ∃ j : Nat, l[j]? = some (k, v)
 | [],k,v,h=>by cases h
 | x::r,k,v,h=>by
   unfold lookI at h;split at h
   · rename_i e
     obtain rfl:=Option.some.inj h;exact⟨0,by rw[List.getElem?_cons_zero,e]⟩
   · obtain ⟨j, hj⟩ := look_ex h
     exact⟨j+1,by rw[List.getElem?_cons_succ]; exact hj⟩
theorem vd (k : Int) : ∀ (l : List (Int × Int)) (b i : Nat), lookI l k = none → Instr.findNow (.int .u8) (.int .u8 k) (entU b l) i = some none
 | [],b,i,h=>rfl
 | x::r,b,i,h=>by
   unfold lookI at h;unfold entU Instr.findNow;by_cases e:k=x.1
   · rw[xS e]at h; cases h
   · rw [xP e] at h
     simpa [Instr.sameNow,beq_eq_false_iff_ne.2 e] using vd k r (b+1) (i+1) h
theorem yZ (k v : Int) : ∀ (l : List (Int × Int)) (b i : Nat), lookI l k = some v → ∃ j : Nat, Instr.findNow (.int .u8) (.int .u8 k) (entU b l) i = some (some (i + j, .ig v)) ∧ l[j]? = some (k, v) ∧ ∀ u, putU l k u = l.set j (k, u)
 | [],b,i,h=>by cases h
 | x::r,b,i,h=>by
   unfold lookI at h;unfold entU Instr.findNow;by_cases e:k=x.1
   · rw [xS e] at h
     obtain rfl:=Option.some.inj h;exact⟨0,by simp[Instr.sameNow,e],by rw[List.getElem?_cons_zero,e],fun u=>by unfold putU; rw[xS e]; rfl⟩
   · rw [xP e] at h
     obtain⟨j,h1,h2,h3⟩:=yZ k v r (b+1) (i+1) h;exact⟨j+1,by rw[show i+(j+1)=i+1+j by omega,← h1]; simp[Instr.sameNow,beq_eq_false_iff_ne.2 e],by rw[List.getElem?_cons_succ]; exact h2,fun u=>by unfold putU; rw[xP e,h3 u]; rfl⟩
theorem putU_none {l:List (Int×Int)}{k:Int}(v:Int)(h:lookI l k=none):putU l k v=l++[(k,v)]:=by
 induction l with
 | nil=>rfl
 | cons x r ih =>
   unfold lookI at h;split at h
   · cases h
   · rename_i e
     unfold putU;rw[xP e,ih h]; rfl
theorem entU_set (l:List (Int×Int))(j:Nat)(k v u:Int)(h:l[j]? = some (k,v)):(entU 0 l).toArray.modify j (fun e=>{ e with key:=.int .u8 k,val:=.ig u })=(entU 0 (l.set j (k,u))).toArray:=by
 have hj:=(xX.1 h).1;apply Array.ext_getElem?
 intro i;rw[Array.getElem?_modify,List.getElem?_toArray,List.getElem?_toArray,ku,ku,List.getElem?_set];by_cases e:j=i
 · subst e
   rw[xS rfl,xS rfl,xS hj,h]; rfl
 · rw[xP e,xP e]
theorem entU_snoc (l:List (Int×Int))(k v:Int):(entU 0 (l++[(k,v)])).toArray=(entU 0 l).toArray.push { key:=.int .u8 k,val:=.ig v,born:=l.length }:=by
 apply Array.ext_getElem?
 intro i;rw[List.getElem?_toArray,ku,Array.getElem?_push,List.getElem?_toArray,ku,List.size_toArray,entU_len];by_cases e:i=l.length
 · subst e; simp
 · rw [xP e]
   rcases Nat.lt_or_ge i l.length with h | h
   · rw[ux h]
   · rw[List.getElem?_eq_none (by simp; omega),List.getElem?_eq_none h]
theorem checkU {P:Program}{w:World}{ky:TypeId}(hk:P.underlying ky=some (.int .u8))(e:Bool)(n:Nat)(k:Int):(Instr.checkKey e (n+1) ky (.int .u8 k)).run P w = .ok () w:=by
 unfold Instr.checkKey;simp[Sem.run_bind,run_underlying hk,Result.andThen]
theorem findU {P:Program}{w:World}{ky:TypeId}{k:Value}{l:List MapEntry}{a:Option (Nat×Value)}(hd:P.underlying ky=some (.int .u8))(h:Instr.findNow (.int .u8) k l 0=some a):(Instr.findKey ky k l).run P w = .ok a w:=by
 simp[Instr.findKey,run_underlying hd,Result.andThen,h]
theorem run_lookU {P : Program} {w : World} {t ky el : TypeId} {r : Nat} {l : List (Int × Int)} {k : Int} (ok : Bool) (hT : P.underlying t = some (.map ky el)) (hk : P.underlying ky = some (.int .u8)) (hz : ∀ w, (zeroValue el).run P w = .ok (.ig 0) w) (hb : w.heap[r]? = some (mapU l)) :
 (Instr.lookup t (.map (some r)) (.int .u8 k) ok).run P w = .ok (if ok then .tuple #[.ig ((lookI l k).getD 0),.bool (lookI l k).isSome] else .ig ((lookI l k).getD 0)) w:=by
 unfold Instr.lookup;unfold mapU at hb;have hg:=getMap (P:=P) hb;cases h:lookI l k with
 | none =>
   have h2:=findU (P:=P) (w:=w) hk (vd k l 0 0 h);simp[Sem.run_bind,run_underlying hT,Result.andThen,hg,checkU hk,h2,hz]
 | some v =>
   obtain⟨j,hj,_⟩:=yZ k v l 0 0 h;have h2:=findU (P:=P) (w:=w) hk hj;simp[Sem.run_bind,run_underlying hT,Result.andThen,hg,checkU hk,h2]
theorem run_putU {P : Program} {w : World} {t ky el : TypeId} {r : Nat} {l : List (Int × Int)} {k v : Int} (hT : P.underlying t = some (.map ky el)) (hk : P.underlying ky = some (.int .u8)) (hb : w.heap[r]? = some (mapU l)) :
 (Instr.mapUpdate t (.map (some r)) (.int .u8 k) (.ig v)).run P w = .ok () (w.putObj r (mapU (putU l k v))):=by
 unfold Instr.mapUpdate;have hb':=hb;unfold mapU at hb';have hg:=getMap (P:=P) hb';cases h:lookI l k with
 | none =>
   have h2:=findU (P:=P) (w:=w) hk (vd k l 0 0 h);have hs:=setMap (P:=P) (.map ((entU 0 l).toArray.push { key:=.int .u8 k,val:=.ig v,born:=l.length }) (l.length+1)) hb';have e:mapU (putU l k v) = .map ((entU 0 l).toArray.push { key:=.int .u8 k,val:=.ig v,born:=l.length }) (l.length+1):=by
    unfold mapU;rw[putU_none v h,entU_snoc,xN]; rfl
   rw[e];simp[Sem.run_bind,run_underlying hT,Result.andThen,hg,checkU hk,h2,World.putObj]
   simpa using hs
 | some u =>
   obtain⟨j,hj,hj2,hj3⟩:=yZ k u l 0 0 h;rw[Qv]at hj;have h2:=findU (P:=P) (w:=w) hk hj;have hs:=setMap (P:=P) (.map ((entU 0 l).toArray.modify j fun e=>{ e with key:=.int .u8 k,val:=.ig v }) l.length) hb';have hj4:(entU 0 l)[j]? = some { key:=.int .u8 k,val:=.ig u,born:=j }:=by rw[ku,hj2,Qv]; rfl
   have e:mapU (putU l k v) = .map ((entU 0 l).toArray.modify j fun e=>{ e with key:=.int .u8 k,val:=.ig v }) l.length:=by
    unfold mapU;rw[hj3 v,entU_set l j k u v hj2,ud]
   rw[e];simp[Sem.run_bind,run_underlying hT,Result.andThen,hg,checkU hk,h2,hj4,Instr.keyThatStays,Instr.sameBits,World.putObj]
   simpa using hs
section
variable {P:Program} {n:Nat} {σ:Nat→Value} {ty:TypeId} {X:List Nat} {w0 w:World} {I0 I:Imm} {L:List Res} {t ky el:TypeId} {x y z:Operand} {r:Nat} {l:List (Int×Int)} {k v:Int}
theorem vT (hT : P.underlying t = some (.map ky el)) (hk : P.underlying ky = some (.int .u8)) (hz : ∀ w, (zeroValue el).run P w = .ok (.ig 0) w) (hI : I r = some (mapU l)) (hx : ev n σ x = .map (some r)) (hy : ev n σ y = .int .u8 k) :
 Gives P (ev n σ) (KS X w0 I0 I L) (.lookup t x y true) ty (.tuple #[.ig ((lookI l k).getD 0),.bool (lookI l k).isSome]):=fun w hw=>by
 have h:=run_lookU (P:=P) (k:=k) true hT hk hz (hw.imm r _ hI);simp only[execOp,hx,hy,Sem.run_bind,h,Result.andThen_ok]; rfl
theorem g_lookF1U (hT : P.underlying t = some (.map ky el)) (hk : P.underlying ky = some (.int .u8)) (hz : ∀ w, (zeroValue el).run P w = .ok (.ig 0) w) (hI : I r = some (mapU l)) (hx : ev n σ x = .map (some r)) (hy : ev n σ y = .int .u8 k) :
 Gives P (ev n σ) (KS X w0 I0 I L) (.lookup t x y false) ty (.ig ((lookI l k).getD 0)):=fun w hw=>by
 have h:=run_lookU (P:=P) (k:=k) false hT hk hz (hw.imm r _ hI);simp only[execOp,hx,hy,Sem.run_bind,h,Result.andThen_ok]; rfl
theorem d_makeMapU (Z:St X w0 I0 I w L):Does P (ev n σ) (.makeMap t none) ty w fun v w'=>∃b,v = .map (some b)∧St X w0 I0 I w' (.obj b (mapU [])::L):=by
 refine qP (v:=.map (some w.heap.size)) (w':=w.alloc (mapU [])) ?_ ⟨_,rfl,Z.newObj (mapU [])⟩;simp[execOp,Instr.makeMap,newObj,mapU,entU,Sem.run]
theorem d_makeMapSU {m:Int}{K:IntKind}(Z:St X w0 I0 I w L)(hT:P.underlying t=some (.map ky el))(hx:ev n σ x = .int K m):Does P (ev n σ) (.makeMap t (some x)) ty w fun v w'=>∃b,v = .map (some b)∧St X w0 I0 I w' (.obj b (mapU [])::L):=by
 refine qP (v:=.map (some w.heap.size)) (w':=w.alloc (mapU [])) ?_ ⟨_,rfl,Z.newObj (mapU [])⟩;simp[execOp,Instr.makeMap,newObj,mapU,entU,Sem.run,Sem.run_bind,run_underlying hT,Result.andThen,hx,asInt,asIntOf]
theorem d_mapPutOU (i : Nat) (Z : St X w0 I0 I w L) (hT : P.underlying t = some (.map ky el)) (hk : P.underlying ky = some (.int .u8)) (hL : L[i]? = some (.obj r (mapU l))) (hx : ev n σ x = .map (some r)) (hy : ev n σ y = .int .u8 k) (hz : ev n σ z = .ig v) :
 Does P (ev n σ) (.mapUpdate t x y z) ty w fun u w'=>u=undef∧St X w0 I0 I w' (L.set i (.obj r (mapU (putU l k v)))):=by
 have hb:w.heap[r]? = some (mapU l):=Z.hold _ (xR hL);have hr:=run_putU (P:=P) (k:=k) (v:=v) hT hk hb;refine zy (w':=w.putObj r (mapU (putU l k v))) ?_ ⟨rfl,Z.putO hL⟩;simp only[execOp,hx,hy,hz,Sem.run_bind,hr,Result.andThen_ok]; rfl
theorem g_lenMU {aT : Array TypeId} (ho : aT = #[t]) (hT : P.underlying t = some (.map ky el)) (hI : I r = some (mapU l)) (hx : ev n σ x = .map (some r)) :
 Gives P (ev n σ) (KS X w0 I0 I L) (.call { callee:=.builtin .len,args := #[x],argTypes:=aT }) ty (.ig l.length):=fun w hw=>by
 subst ho;have hb:=hw.imm r _ hI;unfold mapU at hb;have hg:=getMap (P:=P) hb;simp[execOp,resolve,invoke,builtin,hx,Sem.run_bind,Builtin.len_,run_underlying hT,hg,Result.andThen,entU_len,goInt]
theorem d_rangeU (Z : St X w0 I0 I w L) (hT : P.underlying t = some (.map ky el)) (hI : I r = some (mapU l)) (hx : ev n σ x = .map (some r)) :
 Does P (ev n σ) (.range t x) ty w fun v w'=>∃b,v = .pointer (some ⟨b,0,none⟩)∧St X w0 I0 I w' (.obj b (.mapIter (some r) l.length #[] l.length)::L):=by
 have hb:=Z.imm r _ hI;unfold mapU at hb;have hr:=run_range_map (P:=P) w t ky el r _ _ hT hb;refine qP (v:=.pointer (some ⟨w.heap.size,0,none⟩)) (w':=w.alloc (.mapIter (some r) l.length #[] l.length)) ?_ ⟨_,rfl,Z.newObj _⟩;simp only[execOp,hx,Sem.run_bind,hr,Result.andThen_ok]; rfl
theorem mem_entU {l:List (Int×Int)}{e:MapEntry}(h:e∈entU 0 l):∃(j:Nat) (k v:Int),l[j]? = some (k,v)∧e={ key:=.int .u8 k,val:=.ig v,born:=j }:=by
 obtain⟨j,hj⟩:=Jk.1 h;rw[ku]at hj;cases hl:l[j]? with
 | none=>rw[hl]at hj; cases hj
 | some x =>
   rw[hl]at hj;obtain rfl:=Option.some.inj hj;exact⟨j,x.1,x.2,hl,by rw[Qv]⟩
theorem entU_born (l:List (Int×Int)):((entU 0 l).map (·.born))=List.range l.length:=by
 apply List.ext_getElem?
 intro i;rw[uW,ku];rcases Nat.lt_or_ge i l.length with h | h
 · rw[xI h]; simp[h]
 · rw[List.getElem?_eq_none h]; simp[h]
theorem d_nextU (i b : Nat) {seen : Array Nat} (Z : St X w0 I0 I w L) (hL : L[i]? = some (.obj b (.mapIter (some r) l.length seen l.length))) (hI : I r = some (mapU l)) (hx : ev n σ x = .pointer (some ⟨b, 0, none⟩)) :
 Does P (ev n σ) (.next x false) ty w fun v w' => ∃ (more : Bool) (arr : Array Value) (seen' : Array Nat), v = .tuple arr ∧ arr[0]? = some (.bool more) ∧ St X w0 I0 I w' (L.set i (.obj b (.mapIter (some r) l.length seen' l.length))) ∧
  (more=false→seen'=seen∧∀j,j < l.length→j∈seen.toList)∧(more=true→∃(j:Nat) (k v:Int),l[j]? = some (k,v)∧j∉seen.toList∧seen'=seen.push j):=by
 have hb:=Z.imm r _ hI;have hi:w.heap[b]? = some (.mapIter (some r) l.length seen l.length):=Z.hold _ (xR hL);unfold mapU at hb;have hold:∀x∈(entU 0 l).toArray.toList,x.born < l.length:=fun x hx=>by
  obtain⟨j,k,v,h1,rfl⟩:=mem_entU (by simpa using hx);exact(xX.1 h1).1
 rcases run_next_at (P:=P) w ty b r l.length l.length seen (entU 0 l).toArray l.length hi hb hold (uc _) with ⟨h1,h2⟩ | ⟨e,he,w1,hw1,h2⟩
 · refine qP (v := .tuple #[.bool false]) (w' := w) ?_ ⟨false, _, seen, rfl, rfl, ?_, fun _ => ⟨rfl, fun j hj => ?_⟩, (fun h => by cases h)⟩
   · simp only[execOp,hx,Sem.run_bind,h2,Result.andThen_ok]; rfl
   · have hl := (xX.1 hL)
     rw[← hl.2,List.set_getElem_self]; exact Z
   · have hem : leftOf (entU 0 l).toArray seen = #[] := Array.eq_empty_of_size_eq_zero h1
     unfold leftOf at hem;rw[Array.filter_eq_empty_iff]at hem;have hm:({ key:=.int .u8 l[j].1,val:=.ig l[j].2,born:=j }:MapEntry)∈(entU 0 l).toArray:=by
      rw[List.mem_toArray];refine xR (i:=j) ?_;rw[ku,xI hj,Qv]; rfl
     have:=hem _ hm;simpa using this
 · have he2:e∈(entU 0 l).toArray∧e.born∉seen.toList:=by
    unfold leftOf at he;rw[Array.mem_toList_iff,Array.mem_filter]at he;exact⟨he.1,by simpa using he.2⟩
   obtain⟨j,k,v,h3,rfl⟩:=mem_entU (by simpa using he2.1);refine qP (v:=.tuple #[.bool true,.int .u8 k,.ig v]) (w':=ChangeMaps.setBlock w1 b (.mapIter (some r) l.length (seen.push j) l.length)) ?_ ⟨true,_,seen.push j,rfl,rfl,?_,(fun h=>by cases h),fun _=>⟨j,k,v,h3,he2.2,rfl⟩⟩
   · simp only[execOp,hx,Sem.run_bind,h2,Result.andThen_ok]; rfl
   · have hS1:St X w0 I0 I w1 L:=by
      rcases hw1 with rfl | rfl
      · exact Z
      · exact Z.alike rfl rfl rfl rfl
     exact hS1.putO hL
theorem g_entryU (i b : Nat) {seen : Array Nat} {j : Nat} (hL : L[i]? = some (.obj b (.mapIter (some r) l.length (seen.push j) l.length))) (hI : I r = some (mapU l)) (hj : l[j]? = some (k, v)) (hx : ev n σ x = .pointer (some ⟨b, 0, none⟩)) :
 Gives P (ev n σ) (KS X w0 I0 I L) (.entry x) ty (.tuple #[.int .u8 k,.ig v]):=fun w hw=>by
 have hb:=hw.imm r _ hI;have hi:w.heap[b]? = some (.mapIter (some r) l.length (seen.push j) l.length):=hw.hold _ (xR hL);unfold mapU at hb;have hm:({ key:=.int .u8 k,val:=.ig v,born:=j }:MapEntry)∈(entU 0 l).toArray.toList:=by
  refine xR (i:=j) ?_;rw[ku,hj,Qv]; rfl
 have h:=run_entry_at (P:=P) w b r l.length seen (entU 0 l).toArray l.length _ hi hb hm (by show((entU 0 l).map (·.born)).Nodup; rw[entU_born]; exact List.nodup_range);simp only[execOp,hx,Sem.run_bind,h,Result.andThen_ok]; rfl
def Imm.upd (I:Imm)(b:Nat)(o:Obj):Imm:=fun c=>if c=b then some o else I c
theorem Imm.upd_same (I:Imm)(b:Nat)(o:Obj):I.upd b o b=some o:=xS rfl
theorem Imm.upd_ne (I:Imm){b c:Nat}(o:Obj)(h:c≠b):I.upd b o c=I c:=xP h
theorem St.putI {b:Nat}{o o':Obj}(hI0:Sat I0 w0)(h:St [] w0 I0 I w L)(hb:I b=some o)(hn:w0.heap.size≤b):St [] w0 I0 (I.upd b o') (w.putObj b o') L:=by
 have hlt:b < w.heap.size:=(Array.getElem?_eq_some_iff.1 (h.imm b o hb)).1;have hoth:∀c,c≠b→(w.putObj b o').heap[c]? = w.heap[c]? := fun c hc=>World.putObj_heap_other hc
 have hfoot:∀r∈L,∀c∈r.foot,c≠b:=fun r hr c hc e=>by
  have:=(h.new r hr c hc).1;rw[e,hb]at this; cases this
 refine⟨h.os,h.tape,h.output,by simpa using h.size,fun k hk hx=>(hoth k (by omega)).trans (h.block k hk hx),fun c q hc=>?_,fun c hc=>?_,fun c q hc=>?_,fun r hr=>?_,fun r hr c hc=>?_,h.nodup⟩
 · by_cases e : c = b
   · subst e
     rw[Imm.upd_same]at hc;obtain rfl:=Option.some.inj hc;exact World.putObj_heap_same hlt
   · rw [Imm.upd_ne I o' e] at hc
     rw[hoth c e]; exact h.imm c q hc
 · rw[Imm.upd_ne I o' (by omega)]; exact h.old c hc
 · have hcl := (Array.getElem?_eq_some_iff.1 (hI0 c q hc)).1
   rw[Imm.upd_ne I o' (by omega)]; exact h.ext c q hc
 · exact Res.holds_of (h.hold r hr) fun c hc=>hoth c (hfoot r hr c hc)
 · obtain ⟨h1, h2⟩ := h.new r hr c hc
   rw[Imm.upd_ne I o' (hfoot r hr c hc)];exact⟨h1,h2⟩
theorem d_mapPutIU (hI0 : Sat I0 w0) (Z : St [] w0 I0 I w L) (hT : P.underlying t = some (.map ky el)) (hk : P.underlying ky = some (.int .u8)) (hI : I r = some (mapU l)) (hn : w0.heap.size ≤ r) (hx : ev n σ x = .map (some r)) (hy : ev n σ y = .int .u8 k) (hz : ev n σ z = .ig v) :
 Does P (ev n σ) (.mapUpdate t x y z) ty w fun u w'=>u=undef∧St [] w0 I0 (I.upd r (mapU (putU l k v))) w' L:=by
 have hr:=run_putU (P:=P) (k:=k) (v:=v) hT hk (Z.imm r _ hI);refine zy (w':=w.putObj r (mapU (putU l k v))) ?_ ⟨rfl,Z.putI hI0 hI hn⟩;simp only[execOp,hx,hy,hz,Sem.run_bind,hr,Result.andThen_ok]; rfl
end
end Go.Inl
