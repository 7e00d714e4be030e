/- inlayref08.Op and Cut, patch.Cost: what they compute. Conditions: numbers within bounds. inlaylaw08.NormalCuts: its function answers true; what Cut makes is right and has the same symbols. Conditions: arguments are bytes. inlaylaw08.NormalCuts: its function answers true. Conditions: arguments are bytes. -/
import Derived.Test.YtgkgihnpjgbmhaaGreatDoorKLaw
set_option linter.unusedSimpArgs false
set_option linter.unusedVariables false
namespace Go.Proofs.YtgkgihnpjgbmhaaGreatDoor
open Go Go.RowKit Go.Inl
def sumP : List OpL → Int
 | []=>0
 | x::l=>costP x+sumP l
end Go.Proofs.YtgkgihnpjgbmhaaGreatDoor
namespace Go.Proofs.YtgkgihnpjgbmhaaGreatDoor
open Go Go.RowKit Go.Inl
theorem opRaw_right {q:Q4}{size:Int}(hq:q.wf)(hs:0≤size):1≤(opRaw q size).len∧rightP (opRaw q size) size=true:=by
 have hl:=kx hq hs;obtain⟨⟨a0,a1⟩,⟨b0,b1⟩,⟨c0,c1⟩,⟨d0,d1⟩⟩:=hq;refine⟨hl.1,?_⟩;unfold rightP insideP;show (if kindRaw q size = 1 then (decide (0 ≤ fromRaw q size) && decide (fromRaw q size ≤ size - lenRaw q size)) && decide (bRaw q size = 0) && decide (((if kindRaw q size = 2 ∨ kindRaw q size = 4 then (List.range (lenRaw q size).toNat).map (datRaw q) else []).length : Int) = 0)
  else if kindRaw q size=2 then (decide (0≤fromRaw q size) && decide (fromRaw q size≤size - lenRaw q size)) && decide (bRaw q size=0) && decide (((if kindRaw q size=2∨kindRaw q size=4 then (List.range (lenRaw q size).toNat).map (datRaw q) else []).length:Int)=lenRaw q size)
  else if kindRaw q size=3 then decide (fromRaw q size=0) && decide (((if kindRaw q size=2∨kindRaw q size=4 then (List.range (lenRaw q size).toNat).map (datRaw q) else []).length:Int)=0)
  else if kindRaw q size=4 then decide (fromRaw q size=0) && decide (bRaw q size=0) && decide (((if kindRaw q size=2∨kindRaw q size=4 then (List.range (lenRaw q size).toNat).map (datRaw q) else []).length:Int)=lenRaw q size)
  else false)=true
 have hin:1+q.a % 4≤2∧size≠0→0≤fromRaw q size∧fromRaw q size≤size - lenRaw q size:=by
  intro h;unfold fromRaw lenRaw;rw[vR h,vR h];have e1:=Int.emod_nonneg q.b h.2;have e2:=Int.emod_lt_of_pos q.b (show 0 < size by omega);generalize q.b % size=f at *
  have e3:=Int.emod_nonneg q.c (show size - f≠0 by omega);have e4:=Int.emod_lt_of_pos q.c (show 0 < size - f by omega);omega
 have hout:¬(1+q.a % 4≤2∧size≠0)→fromRaw q size=0:=fun h=>by unfold fromRaw; rw[vO h]
 have hkr:kindRaw q size=if 1+q.a % 4≤2∧size=0 then 4 else 1+q.a % 4:=rfl
 have hb:kindRaw q size≠3→bRaw q size=0:=fun h=>by unfold bRaw; rw[vO h]
 have hcase:kindRaw q size=1∧(1+q.a % 4≤2∧size≠0)∨kindRaw q size=2∧(1+q.a % 4≤2∧size≠0)∨kindRaw q size=3∧¬(1+q.a % 4≤2∧size≠0)∨kindRaw q size=4∧¬(1+q.a % 4≤2∧size≠0):=by
  rw[hkr]; split <;> omega
 rcases hcase with ⟨h,hc⟩ | ⟨h,hc⟩ | ⟨h,hc⟩ | ⟨h,hc⟩
 · have h1 := hin hc; have h2 := hb (by omega)
   simp[h,h1,h2]
 · have h1 := hin hc; have h2 := hb (by omega)
   simp[h,h1,h2]; omega
 · have h1 := hout hc
   simp[h,h1]
 · have h1 := hout hc; have h2 := hb (by omega)
   simp[h,h1,h2]; omega
theorem madeP_ok {l:List Q4}{size:Int}(hq:∀q∈l,q.wf)(hs:0≤size∧size≤65536):(checkP (madeP l size)).2=0∧(madeP l size).out≤30∧(madeP l size).ops.length≤6:=by
 have ho:=madeP_out hq hs.1;have hr:OpsOk size (opsRaw l size):=fun x hx=>by
  obtain⟨q,hq',rfl⟩:=zC hx;exact opRaw_right (hq q hq') hs.1
 have hl:(opsRaw l size).length≤6:=by unfold opsRaw; rw[xP,xi]; omega
 refine⟨jE (p:=madeP l size) hs hr ?_ (by omega) (by show(opsRaw l size).length≤_; omega),ho.2,hl⟩;exact symsOf_sum _ fun x hx=>by have:=(hr x hx).1; omega
theorem sameOps_refl {a:List OpL}{k:Nat}:sameOps a a k=true:=by
 unfold sameOps;rw[Qk];intro p hp;obtain⟨i,hi⟩:=Qc.1 (List.mem_of_mem_drop hp);rw[List.getElem?_zip_eq_some]at hi;have:=hi.1.symm.trans hi.2;exact sameOpS_iff.2 (Option.some.inj this)
theorem samePR_refl (a:PatL):samePR a a=true:=by
 unfold samePR; simp[sameOps_refl]
end Go.Proofs.YtgkgihnpjgbmhaaGreatDoor
namespace Go.Proofs.YtgkgihnpjgbmhaaGreatDoor
open Go Go.RowKit Go.Inl
end Go.Proofs.YtgkgihnpjgbmhaaGreatDoor
