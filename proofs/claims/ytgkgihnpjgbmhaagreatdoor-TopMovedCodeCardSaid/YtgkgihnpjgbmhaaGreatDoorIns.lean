/- A number put into an increasing list; increasing lists with the same numbers. Conditions: none. -/
import Derived.Test.YtgkgihnpjgbmhaaGreatDoorAl
import Derived.Test.YtgkgihnpjgbmhaaGreatDoorKCore
set_option linter.unusedSimpArgs false
set_option linter.unusedVariables false
namespace Go.Inl
open Go Go.RowKit
def insI : List Int → Int → List Int
 | [],n=>[n]
 | x::l,n=>if x < n then x::insI l n else if x=n then x::l else n::x::l
theorem insI_mem {n y : Int} : ∀ {l : List Int}, y ∈ insI l n ↔ y = n ∨ y ∈ l
 | []=>by simp[insI]
 | x::l=>by
   unfold insI;split
   · rw [xV, insI_mem, xV]
     constructor
     · rintro (h | h | h)
       · exact .inr (.inl h)
       · exact .inl h
       · exact .inr (.inr h)
     · rintro (h | h | h)
       · exact .inr (.inl h)
       · exact .inl h
       · exact .inr (.inr h)
   · split
     · rename_i h
       subst h;simp
     · simp
theorem insI_sorted {n : Int} : ∀ {l : List Int}, l.Pairwise (· < ·) → (insI l n).Pairwise (· < ·)
 | [],_=>by simp[insI]
 | x::l,h=>by
   rw[List.pairwise_cons]at h;unfold insI;split
   · rename_i hx
     rw[List.pairwise_cons];refine⟨fun b hb=>?_,insI_sorted h.2⟩;rcases insI_mem.1 hb with hb | hb
     · rw[hb]; exact hx
     · exact h.1 b hb
   · split
     · exact List.pairwise_cons.2 h
     · rename_i h1 h2
       refine List.pairwise_cons.2 ⟨fun b hb=>?_,List.pairwise_cons.2 h⟩;rcases xV.1 hb with hb | hb
       · rw[hb]; omega
       · have:=h.1 b hb; omega
theorem insI_same {n : Int} : ∀ {l : List Int}, l.Pairwise (· < ·) → n ∈ l → insI l n = l
 | [],_,h=>by cases h
 | x::l,h,hn=>by
   rw[List.pairwise_cons]at h;unfold insI;rcases xV.1 hn with e | e
   · subst e; rw[xP (Int.lt_irrefl _),xS rfl]
   · have := h.1 n e
     rw[xS this,insI_same h.2 e]
theorem insI_new {n : Int} : ∀ {l : List Int} {k : Nat}, k ≤ l.length → n ∉ l → (∀ i, i < k → ∀ y, l[i]? = some y → y < n) → (∀ y, l[k]? = some y → n ≤ y) → insI l n = l.take k ++ n :: l.drop k
 | [],k,hk,_,_,_=>by simp[insI]
 | x::l,0,_,hn,_,h2=>by
   have h3:=h2 x rfl;have h4:x≠n:=fun e=>hn (by rw[e]; exact List.mem_cons_self ..)
   unfold insI;rw[xP (by omega),xP h4]; rfl
 | x::l,k+1,hk,hn,h1,h2=>by
   have h3:=h1 0 (Nat.succ_pos k) x rfl;unfold insI;rw[xS h3,insI_new (k:=k) (by simpa using hk) (fun h=>hn (List.mem_cons_of_mem _ h)) (fun i hi y hy=>h1 (i+1) (by omega) y hy) (fun y hy=>h2 y hy)];rfl
theorem insI_len (n : Int) : ∀ (l : List Int), (insI l n).length ≤ l.length + 1
 | []=>by simp[insI]
 | x::l=>by
   have:=insI_len n l;unfold insI;split
   · rw[List.length_cons,List.length_cons]; omega
   · split <;> simp
theorem sorted_ext : ∀ {l m : List Int}, l.Pairwise (· < ·) → m.Pairwise (· < ·) → (∀ x, x ∈ l ↔ x ∈ m) → l = m
 | [],[],_,_,_=>rfl
 | [],b::m,_,_,h=>absurd ((h b).2 (List.mem_cons_self ..)) (by simp)
 | a::l,[],_,_,h=>absurd ((h a).1 (List.mem_cons_self ..)) (by simp)
 | a::l,b::m,h1,h2,h=>by
   rw[List.pairwise_cons]at h1 h2;have hab:a=b:=by
    have ha:=(h a).1 (List.mem_cons_self ..);have hb:=(h b).2 (List.mem_cons_self ..);rcases xV.1 ha with e | e
    · exact e
    · rcases xV.1 hb with e' | e'
      · exact e'.symm
      · have:=h2.1 a e; have:=h1.1 b e'; omega
   subst hab;rw[sorted_ext h1.2 h2.2 (fun x=>?_)];constructor
   · intro hx
     have hlt:=h1.1 x hx;rcases xV.1 ((h x).1 (List.mem_cons_of_mem _ hx)) with e | e
     · omega
     · exact e
   · intro hx
     have hlt:=h2.1 x hx;rcases xV.1 ((h x).2 (List.mem_cons_of_mem _ hx)) with e | e
     · omega
     · exact e
end Go.Inl
