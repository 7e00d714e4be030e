/- What a model of the coder does, said for any model; the table that adapts. Conditions: none. -/
import Derived.Test.YtgkgihnpjgbmhaaGreatDoorMod13
import Derived.Test.YtgkgihnpjgbmhaaGreatDoorKCore3
set_option linter.unusedSimpArgs false
set_option linter.unusedVariables false
namespace Go.Proofs.YtgkgihnpjgbmhaaGreatDoor
open Tryz
open Go Go.RowKit Go.Inl
structure Chg (F : List Nat) (w : World) (I : Imm) (w' : World) (I' : Imm) : Prop where
 os:w'.os=w.os
 tape:w'.tape=w.tape
 output:w'.output=w.output
 size:w.heap.size≤w'.heap.size
 block:∀k,k < w.heap.size→k∉F→w'.heap[k]? = w.heap[k]?
 imm:Sat I' w'
 keep:∀b,b < w.heap.size→b∉F→I' b=I b
theorem zm {I:Imm}{w:World}{b:Nat}{o:Obj}(h:Sat I w)(hb:I b=some o):b < w.heap.size:=(Array.getElem?_eq_some_iff.1 (h b o hb)).1
theorem St.chg {w0 w w':World}{I0 I I':Imm}{L:List Res}{F:List Nat}(hI:Sat I0 w0)(h:St [] w0 I0 I w L)(hF:∀b∈F,(I b).isSome=true∧w0.heap.size≤b)(hC:Chg F w I w' I'):St [] w0 I0 I' w' L:=by
 have hfoot:∀r∈L,∀b∈r.foot,b < w.heap.size∧b∉F:=fun r hr b hb =>
  ⟨Res.foot_lt (h.hold r hr) b hb,fun hm=>by have h1:=(h.new r hr b hb).1; have h2:=(hF b hm).1; rw[h1]at h2; cases h2⟩
 refine⟨hC.os.trans h.os,hC.tape.trans h.tape,hC.output.trans h.output,Nat.le_trans h.size hC.size,fun k hk hx=>?_,hC.imm,fun b hb=>?_,fun b o hb=>?_,fun r hr=>?_,fun r hr b hb=>?_,h.nodup⟩
 · exact(hC.block k (Nat.lt_of_lt_of_le hk h.size) fun hm=>by have:=(hF k hm).2; omega).trans (h.block k hk hx)
 · exact(hC.keep b (Nat.lt_of_lt_of_le hb h.size) fun hm=>by have:=(hF b hm).2; omega).trans (h.old b hb)
 · have hlt := zm hI hb
   rw[hC.keep b (Nat.lt_of_lt_of_le hlt h.size) fun hm=>by have:=(hF b hm).2; omega];exact h.ext b o hb
 · exact Res.holds_of (h.hold r hr) fun b hb=>hC.block b (hfoot r hr b hb).1 (hfoot r hr b hb).2
 · obtain ⟨h1, h2⟩ := h.new r hr b hb
   exact⟨(hC.keep b (hfoot r hr b hb).1 (hfoot r hr b hb).2).trans h1,h2⟩
theorem Chg.ofExt {w w':World}{I I':Imm}(h:Ext w I w' I'):Chg [] w I w' I':=⟨h.os,h.tape,h.output,h.size,fun k hk _=>h.block k hk (by simp),h.imm,fun b hb _=>h.old b hb⟩
theorem Chg.ofOwn {w w':World}{I:Imm}{b:Nat}{T:TypeId}{cs:List Value}(hI:Sat I w)(hb:b < w.heap.size)(h:St [b] w (fun c=>if c=b then none else I c) (fun c=>if c=b then none else I c) w' [.cel b T cs]):Chg [b] w I w' (fun c=>if c=b then some (.cells cs.toArray T (0,0)) else I c):=by
 refine⟨h.os,h.tape,h.output,h.size,fun k hk hm=>h.block k hk hm,fun c o hc=>?_,fun c hc hm=>by rw[vG (by simpa using hm)]⟩;by_cases e:c=b
 · subst e
   rw[vJ rfl]at hc;obtain rfl:=Option.some.inj hc;exact h.hold _ (xi.2 rfl)
 · rw [vG e] at hc
   exact h.imm c o (by rw[vG e]; exact hc)
theorem yp {w:World}{I:Imm}(hI:Sat I w)(b:Nat):Sat (fun c=>if c=b then none else I c) w:=fun c o hc=>by
 dsimp only at hc;by_cases e:c=b
 · rw[vJ e]at hc; cases hc
 · rw[vG e]at hc; exact hI c o hc
structure Mdl where
 S:Type
 tab:S→Ad
 nxt:S→Nat→S
 inv:S→Prop
 holds:Imm→Value→S→List Nat→Prop
structure MdlOk (M : Mdl) : Prop where
 tab:∀s,M.inv s→AdOk (M.tab s)
 nxt:∀s x,M.inv s→x < 256→M.inv (M.nxt s x)
 foot:∀I v s F,M.holds I v s F→∀b∈F,(I b).isSome=true
 iface:∀I v s F,M.holds I v s F→∃T x,v = .iface T x
 counts : ∀ {n : Nat} {σ : Nat → Value} {ty : TypeId} {aT : Array TypeId} {r : Operand} {w : World} (I : Imm) (v : Value) (s : M.S) (F : List Nat), Sat I w → M.holds I v s F → M.inv s → ev n σ r = v →
  Does prog (ev n σ) (.call { callee := .invoke r "inlay/coder.counts", args := [].toArray, argTypes := aT }) ty w (fun u w' => ∃ I' F' b, u = .tuple #[.pointer (some ⟨b, 0, none⟩), .int .u64 (M.tab s).t] ∧ Chg F w I w' I' ∧ M.holds I' v s F' ∧ RAd I' b (M.tab s) ∧ ∀ c ∈ F', c ∈ F ∨ w.heap.size ≤ c)
 saw : ∀ {n : Nat} {σ : Nat → Value} {ty : TypeId} {aT : Array TypeId} {r y : Operand} {w : World} (I : Imm) (v : Value) (s : M.S) (F : List Nat) (x : Nat), x < 256 → Sat I w → M.holds I v s F → M.inv s → ev n σ r = v → ev n σ y = .int .u8 x →
  Does prog (ev n σ) (.call { callee := .invoke r "inlay/coder.saw", args := [y].toArray, argTypes := aT }) ty w (fun u w' => ∃ I' F', u = .tuple #[] ∧ Chg F w I w' I' ∧ M.holds I' v (M.nxt s x) F' ∧ ∀ c ∈ F', c ∈ F ∨ w.heap.size ≤ c)
theorem m_ad_counts (v : Value) (w : World) : (method (prog.types.size + Made.depth) 224 v "inlay/coder.counts").run prog w = .ok (193, v) w := by kernel_rfl
theorem m_ad_saw (v : Value) (w : World) : (method (prog.types.size + Made.depth) 224 v "inlay/coder.saw").run prog w = .ok (194, v) w := by kernel_rfl
theorem kG {P : Program} {n : Nat} {σ : Nat → Value} {ty t : TypeId} {X : List Nat} {w0 : World} {I0 I : Imm} {L : List Res} {x : Operand} {b o : Nat} {cs : List Value} {v : Value} (ha : ∀ w, (isAgg t).run P w = .ok false w) (h : atI I ⟨b, 0, none⟩ cs) (hx : ev n σ x = .pointer (some ⟨b, o, none⟩)) (hv : cs[o]? = some v) :
 Gives P (ev n σ) (KS X w0 I0 I L) (.load t x) ty v:=jZ hx fun w hw=>jj (ha w) (by
 have:=h.cell hw.imm o v hv;rwa [show(⟨b,0,none⟩:Addr).add o=⟨b,o,none⟩ by simp[Addr.add]; intro h; exact h.symm]at this)
def mdl1:Mdl:=⟨Ad,fun A=>A,sawA,AdOk,fun I v A F=>∃b,v = .iface 224 (.pointer (some ⟨b,0,none⟩))∧RAd I b A∧F=[b]⟩
theorem adcounts_c (b : Nat) (A : Ad) (hA : AdOk A) (w0 : World) (I0 : Imm) (hI : Sat I0 w0) (h : RAd I0 b A) :
 Ctr prog 193 [.pointer (some ⟨b,0,none⟩)] w0 (fun v w'=>v = .tuple #[.pointer (some ⟨b,0,none⟩),.int .u64 A.t]∧Ext w0 I0 w' I0):=by
 have hat:=atCell h.hold;have ht:=adL_t (t:=A.t) hA.len;refine fn (n:=11) func193 rfl rfl rfl ?_;have hS:=St.start hI;refine QwR (qq hS (qc _) (qq hS (qr (v:=.int .u64 _) rfl) (QoN (vD (draw (.cons 0 .pure (.cons 1 .pure (.cons 2 .pure (.cons 3 .pure (.cons 4 .pure (.cons 5 .pure (.cons 6 .held (.cons 7 .pure (.cons 8 .pure .nil))))))))) mixed (by kernel_rfl) hS ?_)))));intro w_1 hS;refine sp rfl (qb _) (sp rfl (qi rfl) (sp rfl (qa (o':=0) uc rfl uM rfl rfl rfl) (sp rfl (qb _) (sp rfl (qi rfl) (sp rfl (qa (o':=256) uc rfl uL rfl rfl rfl) (sh rfl (kG isAgg176 hat rfl ht) (sp rfl (qc _) (sp rfl (qr (v:=.int .u64 _) rfl) (sn (vK (vM (ret2 results193 (qh rfl) (qh (v:=.int .u64 _) rfl) ?_))))))))))));exact⟨rfl,hS.nil⟩
theorem vg : MdlOk mdl1 where
 tab:=fun s h=>h
 nxt:=fun s x h hx=>sawA_ok h hx
 foot:=fun I v s F ⟨b,_,h2,h3⟩ c hc=>by
  subst h3;obtain rfl:=xi.1 hc;rw[h2.hold]; rfl
 iface:=fun I v s F ⟨b,h1,_⟩=>⟨_,_,h1⟩
 counts:=fun I v s F hI ⟨b,h1,h2,h3⟩ hi hr=>by
  subst h3;refine(qP (hr.trans h1) (m_ad_counts _) call193 ml0 (adcounts_c b s hi _ I hI h2)).mono ?_;rintro u w' ⟨rfl,hE⟩;exact⟨I,[b],b,rfl,⟨hE.os,hE.tape,hE.output,hE.size,fun k hk _=>hE.block k hk (by simp),hE.imm,fun _ _ _=>rfl⟩,⟨b,h1,h2,rfl⟩,h2,fun c hc=>.inl hc⟩
 saw:=fun I v s F x hx hI ⟨b,h1,h2,h3⟩ hi hr hy=>by
  subst h3;have hlt:=zm hI h2.hold;refine(qP (hr.trans h1) (m_ad_saw _) call194 (ml hy ml0) (saw_c b s x hx hi _ _ (yp hI b) (hI b _ h2.hold) (vJ rfl))).mono ?_;rintro u w' ⟨rfl,hE⟩;exact⟨_,[b],rfl,Chg.ofOwn hI hlt hE,⟨b,h1,⟨vJ rfl⟩,rfl⟩,fun c hc=>.inl hc⟩
end Go.Proofs.YtgkgihnpjgbmhaaGreatDoor
