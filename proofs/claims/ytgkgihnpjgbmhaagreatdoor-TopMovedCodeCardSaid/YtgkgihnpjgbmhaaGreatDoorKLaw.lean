/- The functions of package inlaylaw08 that look at fixed examples: what they compute. Conditions: numbers within bounds. inlaylaw08.sanity: it is true. Conditions: none. inlaylaw08.NormalRefuses: its function answers true. Conditions: arguments are bytes and 32-bit numbers. Contracts of packages normal and inlayref06 at right symbols; slices of slices. Conditions: none. -/
import Derived.Test.YtgkgihnpjgbmhaaGreatDoorKRef6
import Derived.Test.YtgkgihnpjgbmhaaGreatDoorKCore2
import Derived.Test.YtgkgihnpjgbmhaaGreatDoorKOpt
set_option linter.unusedSimpArgs false
set_option linter.unusedVariables false
namespace Go.Proofs.YtgkgihnpjgbmhaaGreatDoor
open Go Go.RowKit Go.Inl
theorem opS_wf {kind:Int}{l:List Sym}(hk:Mid kind)(hw:∀s∈l,s.wf)(hn:l.length≤1000000):(opS kind l).wf:=by
 have hh:(l.headD ⟨false,0,0⟩).wf:=by
  cases l with
  | nil=>exact⟨by decide,by decide,by decide,by decide⟩
  | cons s l=>exact hw s (by simp)
 obtain⟨h1,h2,h3,h4⟩:=hh;refine⟨hk,?_,?_,?_,?_⟩
 · show Mid (if kind = 1 ∨ kind = 2 then _ else _)
   unfold Mid;split <;> omega
 · show Mid (l.length : Int)
   unfold Mid;omega
 · show 0 ≤ (if kind = 3 then _ else _) ∧ (if kind = 3 then _ else _) ≤ 255
   split <;> omega
 · intro y hy
   have hy':y∈if kind=2∨kind=4 then l.map (·.b) else []:=hy
   split at hy'
   · obtain ⟨s, hs, rfl⟩ := Qu.1 hy'
     exact⟨(hw s hs).2.2.1,(hw s hs).2.2.2⟩
   · simp at hy'
theorem opsT_wf {l : List Sym} (hw : ∀ s ∈ l, s.wf) (hn : l.length ≤ 1000000) : ∀ (f i : Nat), ∀ x ∈ opsT (tab l) l f i, x.wf
 | 0,i,x,hx=>by simp[opsT]at hx
 | f+1,i,x,hx=>by
   by_cases hi:i < l.length
   · have htl := jW l
     obtain⟨p,hp⟩:∃p,(tab l)[i]? = some p:=⟨_,xI (by omega)⟩
     rw[vL hi hp]at hx;rcases xV.1 hx with rfl | hx
     · refine opS_wf (xA l i p hp) (fun s hs => hw s (List.mem_of_mem_take (List.mem_of_mem_drop hs))) ?_
       rw[Qj,uo]; omega
     · exact opsT_wf hw hn f _ x hx
   · rw[vm hi]at hx; simp at hx
theorem opsT_len (t : List Pl) (l : List Sym) : ∀ (f i : Nat), (opsT t l f i).length ≤ f
 | 0,i=>by simp[opsT]
 | f+1,i=>by
   by_cases hi:i < l.length
   · simp only [opsT, hi, if_true, List.length_cons]
     have:=opsT_len t l f (i+(t.getD i Pl.zero).length.toNat);omega
   · rw[vm hi]; simp
theorem kV:PatL.zero.wf:=⟨⟨by decide,by decide⟩,⟨by decide,by decide⟩,fun x hx=>by simp[PatL.zero]at hx,by decide⟩
theorem cheapP_wf {l:List Sym}{n:Int}(hw:∀s∈l,s.wf):(cheapP l n).1.wf:=by
 unfold cheapP;split
 · exact kV
 · rename_i h
   simp only[JB,ua,not_or]at h;split
   · exact kV
   · refine ⟨⟨by dsimp only; omega, by dsimp only; omega⟩, ⟨by dsimp only; omega, by dsimp only; omega⟩, opsT_wf hw (by omega) _ _, ?_⟩
     have:=opsT_len (tab l) l (l.length+1) 0;dsimp only; omega
theorem cheapest_e (ad : Option Addr) (m cap : Nat) (l : List Sym) (size : Int) (q : PatL) (e : Int) (w0 : World) (I0 : Imm) (hI : Sat I0 w0) (hl : RSyms I0 (.sg ad m cap) l) (hm : m = l.length) (hw : ∀ s ∈ l, s.wf) (he : cheapP l size = (q, e)) :
 Ctr Tryz.prog 29 [.sg ad m cap,.ig size] w0 (fun v w'=>∃I' a m c,v = .tuple #[.agg #[.bool q.lifted,.ig q.in_,.ig q.out,.sg a m c],.ig e]∧Ext w0 I0 w' I'∧ROps I' (.sg a m c) q.ops):=by
 subst hm;have h:=cheapest_c ad cap l size w0 I0 hI hl hw;rw[he]at h;exact h
end Go.Proofs.YtgkgihnpjgbmhaaGreatDoor
namespace Go.Proofs.YtgkgihnpjgbmhaaGreatDoor
open Go Go.RowKit Go.Inl
def p2:PatL:=⟨true,2,0,[]⟩
def p3:PatL:=⟨false,2,0,[]⟩
def p1:PatL:=⟨false,0,1,[]⟩
end Go.Proofs.YtgkgihnpjgbmhaaGreatDoor
namespace Go.Proofs.YtgkgihnpjgbmhaaGreatDoor
open Go Go.RowKit Go.Inl
end Go.Proofs.YtgkgihnpjgbmhaaGreatDoor
namespace Go.Proofs.YtgkgihnpjgbmhaaGreatDoor
open Go Go.RowKit Go.Inl
theorem _root_.Go.Inl.RSl.resl2 {α : Type} {I : Imm} {sz : Nat} {R : List Value → α → Prop} {ad : Option Addr} {len cap : Nat} {xs : List α} (hr : RSl I sz R (.sg ad len cap) xs) (l h : Nat) (hlh : l ≤ h) (hh : h ≤ xs.length) :
 RSl I sz R (Inl.resl (.sg ad len cap) l h cap sz) ((xs.take h).drop l)∧h≤cap∧len=xs.length:=by
 rcases hr with ⟨⟨a,c,e,hc,hn⟩,rfl⟩ | ⟨b,o,c,h1,h2,h3,h4⟩
 · cases e
   simp at hh; subst hh; simp at hlh; subst hlh
   refine⟨.inl ⟨⟨if cap=0 then ad else ad.map (·.add (0*sz)),cap,by simp[Inl.resl],hc,fun h=>?_⟩,by simp⟩,by omega,rfl⟩;split at h
   · assumption
   · cases ad with
     | none=>exact hn rfl
     | some a=>simp at h
 · cases h1
   have hlen:((xs.take h).drop l).length=h - l:=by simp[Nat.min_eq_left hh]
   refine⟨?_,by omega,rfl⟩;by_cases e:cap=l
   · subst e
     refine .inr ⟨b,o,0,?_,by omega,by simp,fun i x hx=>?_⟩
     · simp only[Inl.resl,if_true,Nat.sub_self,hlen]
     · have := (xX.1 hx).1
       omega
   · refine .inr ⟨b, o + l * sz, cap - l, by rw [hlen]; simp [Inl.resl, e, qL], by omega, by omega, ?_⟩
     intro i x hx;rw[List.getElem?_drop,List.getElem?_take]at hx;split at hx
     · obtain ⟨cs, c1, c2, c3⟩ := h4 _ _ hx
       exact⟨cs,c1,by rw[show o+l*sz+i*sz=o+(l+i)*sz by rw[Nat.add_mul]; omega]; exact c2,c3⟩
     · cases hx
theorem _root_.Go.Inl.RSl.slH {α : Type} {I : Imm} {sz : Nat} {R : List Value → α → Prop} {ad : Option Addr} {len cap : Nat} {xs : List α} (hr : RSl I sz R (.sg ad len cap) xs) (h : Nat) (hh : h ≤ xs.length) :
 RSl I sz R (Inl.resl (.sg ad len cap) 0 h cap sz) (xs.take h):=by
 have:=(hr.resl2 0 h (by omega) hh).1;rwa [List.drop_zero]at this
theorem _root_.Go.Inl.RSl.slL {α : Type} {I : Imm} {sz : Nat} {R : List Value → α → Prop} {ad : Option Addr} {len cap : Nat} {xs : List α} (hr : RSl I sz R (.sg ad len cap) xs) (l : Nat) (hl : l ≤ xs.length) :
 RSl I sz R (Inl.resl (.sg ad len cap) l len cap sz) (xs.drop l):=by
 have h0:=(hr.resl2 0 0 (by omega) (by omega)).2.2;have:=(hr.resl2 l xs.length hl (uc _)).1;rw[uL,← h0]at this;exact this
theorem cheapP_wf0 {l:List Sym}{n:Int}(h0:0≤n∧n≤65536)(hl:l.length≤4096)(ok:okL n l)(hw:∀s∈l,s.wf):(formOf false n l).wf:=by
 have:=cheapP_wf (l:=l) (n:=n) hw;rw[vY h0 hl ok]at this;exact this
theorem formOf_wf {b:Bool}{l:List Sym}{n:Int}(h0:0≤n∧n≤65536)(hl:l.length≤4096)(ok:okL n l)(hw:∀s∈l,s.wf):(formOf b n l).wf:=by
 have h:=cheapP_wf0 h0 hl ok hw;exact⟨h.in_,h.out,h.ops,h.len⟩
theorem ops_len_bd {n : Int} : ∀ (l : List OpL), OpsOk n l → ∀ x ∈ l, 0 ≤ x.len ∧ x.len ≤ ((symsOf l).length : Int)
 | [],_,x,hx=>by simp at hx
 | y::l,h,x,hx=>by
   rw[jC,xN,jm];rcases xV.1 hx with rfl | hx
   · have := (h x (by simp)).1
     exact⟨by omega,by omega⟩
   · have := ops_len_bd l (fun z hz => h z (by simp [hz])) x hx
     exact⟨this.1,by omega⟩
end Go.Proofs.YtgkgihnpjgbmhaaGreatDoor
