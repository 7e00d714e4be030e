/- A number put into an increasing list; increasing lists with the same numbers. Conditions: none. -/
import Derived.Test.YtcajgkfgjpfmaaaGreatAl
import Derived.Test.YtcajgkfgjpfmaaaGreatKCore
set_option linter.unusedSimpArgs false
set_option linter.unusedVariables false
namespace Go.Inl
open Go Go.RowKit
def insI : List Int → Int → List Int
 | [],n=>[n]
 | x::l,n=>if x < n then x::insI l n else if x=n then x::l else n::x::l
theorem jN {n y : Int} : ∀ {l : List Int}, y ∈ insI l n ↔ y = n ∨ y ∈ l
 | []=>by simp[insI]
 | x::l=>by
   unfold insI;split
   · rw [uq, jN, uq]
     constructor
     · rintro (h | h | h)
       · exact .inr (.inl h)
       · exact .inl h
       · exact .inr (.inr h)
     · rintro (h | h | h)
       · exact .inr (.inl h)
       · exact .inl h
       · exact .inr (.inr h)
   · split
     · rename_i h
       subst h;simp
     · simp
theorem jb {n : Int} : ∀ {l : List Int}, l.Pairwise (· < ·) → (insI l n).Pairwise (· < ·)
 | [],_=>by simp[insI]
 | x::l,h=>by
   rw[List.pairwise_cons]at h;unfold insI;split
   · rename_i hx
     rw[List.pairwise_cons];refine⟨fun b hb=>?_,jb h.2⟩;rcases jN.1 hb with hb | hb
     · rw[hb]; exact hx
     · exact h.1 b hb
   · split
     · exact List.pairwise_cons.2 h
     · rename_i h1 h2
       refine List.pairwise_cons.2 ⟨fun b hb=>?_,List.pairwise_cons.2 h⟩;rcases uq.1 hb with hb | hb
       · rw[hb]; omega
       · have:=h.1 b hb; omega
theorem vZ {n : Int} : ∀ {l : List Int}, l.Pairwise (· < ·) → n ∈ l → insI l n = l
 | [],_,h=>by cases h
 | x::l,h,hn=>by
   rw[List.pairwise_cons]at h;unfold insI;rcases uq.1 hn with e | e
   · subst e; rw[ud (Int.lt_irrefl _),ui rfl]
   · have := h.1 n e
     rw[ui this,vZ h.2 e]
theorem insI_new {n : Int} : ∀ {l : List Int} {k : Nat}, k ≤ l.length → n ∉ l → (∀ i, i < k → ∀ y, l[i]? = some y → y < n) → (∀ y, l[k]? = some y → n ≤ y) → insI l n = l.take k ++ n :: l.drop k
 | [],k,hk,_,_,_=>by simp[insI]
 | x::l,0,_,hn,_,h2=>by
   have h3:=h2 x rfl;have h4:x≠n:=fun e=>hn (by rw[e]; exact List.mem_cons_self ..)
   unfold insI;rw[ud (by omega),ud h4]; rfl
 | x::l,k+1,hk,hn,h1,h2=>by
   have h3:=h1 0 (Nat.succ_pos k) x rfl;unfold insI;rw[ui h3,insI_new (k:=k) (by simpa using hk) (fun h=>hn (List.mem_cons_of_mem _ h)) (fun i hi y hy=>h1 (i+1) (by omega) y hy) (fun y hy=>h2 y hy)];rfl
theorem kv (n : Int) : ∀ (l : List Int), (insI l n).length ≤ l.length + 1
 | []=>by simp[insI]
 | x::l=>by
   have:=kv n l;unfold insI;split
   · rw[uP,uP]; omega
   · split <;> simp
theorem insI_new_len {n:Int}{l:List Int}{k:Nat}(hk:k≤l.length):(l.take k++n::l.drop k).length=l.length+1:=by simp; omega
end Go.Inl
