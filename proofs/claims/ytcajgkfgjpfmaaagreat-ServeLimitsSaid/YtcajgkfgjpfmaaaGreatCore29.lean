/- Fields of elements of an own row of lists of cells: loads, stores; such a row made. Conditions: none. -/
import Derived.Test.YtcajgkfgjpfmaaaGreatKCore3
set_option linter.unusedSimpArgs false
set_option linter.unusedVariables false
namespace Go.Inl
open Go
theorem putL_one : ∀ (cs : List Value) (c : Nat) (v : Value), putL cs c [v] = cs.set c v
 | [], c, v => by cases c <;> rfl
 | x :: cs, 0, v => by cases cs <;> rfl
 | x :: cs, c + 1, v => by
   show x :: putL cs c [v] = _
   rw [putL_one cs c v]; rfl
section
variable {P : Program} {n : Nat} {σ : Nat → Value} {ty t : TypeId} {x y : Operand} {X : List Nat} {w0 w : World} {I0 I : Imm} {L : List Res}
theorem g_ldRowC1 (k : Nat) {u : Value} {E : TypeId} {i sz m c : Nat} {css : List (List Value)} {cs : List Value} {v : Value} (hcl : ∀ c ∈ css, c.length = sz) (hc : css[i]? = some cs) (hv : cs[c]? = some v) (ha : ∀ w, (isAgg t).run P w = .ok false w)
 (hL : L[k]? = some (.row u E sz m css.flatten)) (hx : ev n σ x = .pointer (some (elA u i sz c))) : Gives P (ev n σ) (KS X w0 I0 I L) (.load t x) ty v :=
 g_ldR1 k ha hL hx (zf hcl hc hv)
theorem d_storeRowF (k c : Nat) {sz : Nat} {css : List (List Value)} {a : Option Addr} {N cap i : Nat} {E : TypeId} {cs0 : List Value} {v : Value} (hcl : ∀ c ∈ css, c.length = sz) (hS : St X w0 I0 I w L) (hN : N = css.length) (h0 : css[i]? = some cs0) (hm : ∀ w, (sizeOf t).run P w = .ok 1 w)
 (hL : L[k]? = some (.row (.slice a N cap) E sz N css.flatten)) (hx : ev n σ x = .pointer (some (elA (.slice a N cap) i sz c))) (hy : ev n σ y = v) (hv : v.cells.toList = [v]) (h1 : v.oneCell' = true) (hl : Nat.ble (c + 1) sz = true) :
 Does P (ev n σ) (.store t x y) ty w fun u w' => u = undef ∧ St X w0 I0 I w' (L.set k (.row (.slice a N cap) E sz N (css.set i (cs0.set c v)).flatten)) := by
 let xs : List {c : List Value // c.length = sz} := css.attachWith (fun c => c.length = sz) hcl
 have hmap : xs.map Subtype.val = css := List.attachWith_map_subtype_val ..
 have hfl : flat Subtype.val xs = css.flatten := by
  unfold flat; rw [List.flatMap_def, hmap]
 have hxl : xs.length = css.length := by rw [← hmap, List.length_map]
 have hc0 := hcl cs0 (List.mem_of_getElem? h0)
 have hx0 : xs[i]? = some ⟨cs0, hc0⟩ := by
  have e : (xs.map Subtype.val)[i]? = some cs0 := by rw [hmap]; exact h0
  rw [List.getElem?_map] at e
  obtain ⟨z, hz, e⟩ := Option.map_eq_some_iff.1 e
  rw [hz]; subst e; rfl
 have hL' : L[k]? = some (.row (.slice a N cap) E sz N (flat Subtype.val xs)) := by rw [hfl]; exact hL
 refine (zg k (c := c) (enc := Subtype.val) (fun c => c.2) (⟨cs0.set c v, by rw [List.length_set]; exact hc0⟩ : {c : List Value // c.length = sz}) hS (by rw [hxl]; exact hN) hx0 hm hL' hx hy (vs := [v]) hv rfl (by simpa using h1) hl (putL_one _ _ _)).mono ?_
 rintro u w' ⟨rfl, h⟩
 refine ⟨rfl, ?_⟩
 have e : flat Subtype.val (xs.set i ⟨cs0.set c v, by rw [List.length_set]; exact hc0⟩) = (css.set i (cs0.set c v)).flatten := by
  unfold flat; rw [List.flatMap_def, List.map_set, hmap]
 rwa [e] at h
theorem flat_unit (cs : List Value) (N : Nat) : flat (fun (_ : Unit) => cs) (List.replicate N ()) = (List.replicate N cs).flatten := by
 induction N with
 | zero => rfl
 | succ N ih => rw [List.replicate_succ, List.replicate_succ, List.flatten_cons, ← ih]; rfl
theorem d_makeC {sz by' : Nat} (cs : List Value) (hcs : cs.length = sz) (N : Nat) {e : TypeId} {z : Value} {kl kc : IntKind} {m : Int} (hS : St X w0 I0 I w L) (hT : P.underlying t = some (.slice e)) (hi : Info P e z sz by') (hz : z.cells = cs.toArray) (hsz : Nat.blt 0 sz = true)
 (hx : ev n σ x = .int kl m) (hy : ev n σ y = .int kc m) (hm : m = N) (hN : N ≤ 4294967296) (hb : Nat.ble by' 1024 = true) :
 Does P (ev n σ) (.makeSlice t x y) ty w fun v w' => ∃ b, v = .slice (some ⟨b, 0, none⟩) N N ∧ St X w0 I0 I w' (.cel b e (List.replicate N cs).flatten :: L) := by
 refine (d_makeF (enc := fun (_ : Unit) => cs) (fun _ => hcs) () N hS hT hi hz hsz hx hy hm hN hb).mono ?_
 rintro v w' ⟨b, h1, h2⟩
 refine ⟨b, h1, ?_⟩
 rw [flat_unit] at h2
 exact h2
end
end Go.Inl
