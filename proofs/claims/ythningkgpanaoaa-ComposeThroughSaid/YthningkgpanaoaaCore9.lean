/- Bytes as a string, strings compared, an element of an array. Conditions: none. -/
import Derived.Test.YthningkgpanaoaaData
import Derived.Laws.BytesString
import Derived.Laws.Strings
namespace Go.Inl
open Go Go.RowKit

def strB (xs : List Int) : ByteArray := xs.foldl (fun r n => r.push (UInt8.ofNat n.toNat)) ByteArray.empty
theorem strB_data : ∀ (xs : List Int) (s : ByteArray), (xs.foldl (fun r n => r.push (UInt8.ofNat n.toNat)) s).data.toList = s.data.toList ++ xs.map fun n => UInt8.ofNat n.toNat
  | [], s => by simp
  | x :: xs, s => by
    rw [List.foldl_cons, strB_data xs]
    simp [ByteArray.push]
theorem byte_inj {x y : Int} (hx : 0 ≤ x ∧ x ≤ 255) (hy : 0 ≤ y ∧ y ≤ 255) (h : UInt8.ofNat x.toNat = UInt8.ofNat y.toNat) : x = y := by
  have := congrArg UInt8.toNat h
  simp [UInt8.toNat_ofNat'] at this
  omega
theorem bytes_inj : ∀ (a b : List Int), (∀ x ∈ a, 0 ≤ x ∧ x ≤ 255) → (∀ x ∈ b, 0 ≤ x ∧ x ≤ 255) → (a.map fun n => UInt8.ofNat n.toNat) = (b.map fun n => UInt8.ofNat n.toNat) → a = b
  | [], [], _, _, _ => rfl
  | [], _ :: _, _, _, h => by simp at h
  | _ :: _, [], _, _, h => by simp at h
  | x :: a, y :: b, ha, hb, h => by
    rw [List.map_cons, List.map_cons, List.cons.injEq] at h
    rw [byte_inj (ha x (by simp)) (hb y (by simp)) h.1, bytes_inj a b (fun z hz => ha z (by simp [hz])) (fun z hz => hb z (by simp [hz])) h.2]
theorem strB_inj {a b : List Int} (ha : ∀ x ∈ a, 0 ≤ x ∧ x ≤ 255) (hb : ∀ x ∈ b, 0 ≤ x ∧ x ≤ 255) (h : strB a = strB b) : a = b := by
  have h1 := strB_data a ByteArray.empty
  have h2 := strB_data b ByteArray.empty
  have h3 : (strB a).data.toList = (strB b).data.toList := by rw [h]
  unfold strB at h3
  rw [h1, h2] at h3
  exact bytes_inj a b ha hb (by simpa using h3)
section
variable {P : Program} {n : Nat} {σ : Nat → Value} {ty t t' : TypeId} {x y ix : Operand} {X : List Nat} {w0 w : World} {I0 I : Imm} {L : List Res}
/-- A conversion of bytes to a string. -/
theorem g_strI {u : Value} {xs : List Int} {e : TypeId} (hs : P.underlying t = some (.slice e)) (he : P.underlying e = some (.int .u8)) (hd : P.underlying t' = some .string) (hr : RBytes I u xs) (hx : ev n σ x = u) :
    Gives P (ev n σ) (KS X w0 I0 I L) (.convert t t' x) ty (.string (strB xs)) := fun w hw => by
  have hconv : (convert t t' (ev n σ x)).run P w = .ok (.string (strB xs)) w := by
    rw [hx]
    rcases hr with ⟨⟨a, cap, rfl, _⟩, rfl⟩ | ⟨b, o, cap, rfl, h1, h2, h3⟩
    · rw [run_convert_bytes_string w t t' e _ _ _ hs he hd]
      cases a with
      | none => rfl
      | some a => exact run_bytesToString w _ _ _ [] (run_loadCells_list (P := P) w a [] (fun j v hv => by simp at hv))
    · rw [run_convert_bytes_string w t t' e _ _ _ hs he hd]
      refine run_bytesToString w _ _ _ xs ?_
      have := run_loadCells_list (P := P) w ⟨b, o, none⟩ (xs.map (Value.int .u8)) (fun j v hv => by
        rw [List.getElem?_map] at hv
        cases e : xs[j]? with
        | none => rw [e] at hv; simp at hv
        | some z =>
          rw [e] at hv
          simp at hv
          subst hv
          obtain ⟨cs, c1, c2, rfl⟩ := h3 j z e
          have := c2.cell hw.imm 0 _ rfl
          rw [addr_add] at this ⊢
          simpa using this)
      rwa [List.length_map] at this
  simp only [execOp, Sem.run_bind, hconv, Result.andThen_ok]; rfl
theorem g_eqlStr {S : World → Prop} {a b : ByteArray} (hx : ev n σ x = .string a) (hy : ev n σ y = .string b) : Gives P (ev n σ) S (.binOp .eql t x y t') ty (.bool (a.toList == b.toList)) := fun w _ => by
  have h : (binOp .eql t (.string a) (.string b)).run P w = .ok (.bool (a.toList == b.toList)) w := by rw [binOp_string_eql]; rfl
  simp only [execOp, hx, hy, Sem.run_bind, eqg_string, Result.andThen_ok, h]; rfl
theorem toList_data (a : ByteArray) : a.toList = a.data.toList := ByteArray.toList_eq a
theorem strB_eq {a b : List Int} (ha : ∀ x ∈ a, 0 ≤ x ∧ x ≤ 255) (hb : ∀ x ∈ b, 0 ≤ x ∧ x ≤ 255) : ((strB a).toList == (strB b).toList) = decide (a = b) := by
  rw [Bool.eq_iff_iff, beq_iff_eq, decide_eq_true_iff]
  refine ⟨fun h => strB_inj ha hb ?_, fun h => by rw [h]⟩
  rw [toList_data, toList_data] at h
  exact ByteArray.ext (Array.toList_inj.1 h)
theorem g_eqlB {S : World → Prop} {a b : List Int} (ha : ∀ x ∈ a, 0 ≤ x ∧ x ≤ 255) (hb : ∀ x ∈ b, 0 ≤ x ∧ x ≤ 255) (hx : ev n σ x = .string (strB a)) (hy : ev n σ y = .string (strB b)) :
    Gives P (ev n σ) S (.binOp .eql t x y t') ty (.bool (decide (a = b))) := by
  have h := g_eqlStr (P := P) (S := S) (t := t) (t' := t') (ty := ty) hx hy
  rw [strB_eq ha hb] at h
  exact h

/-- The address of an element of an array. -/
theorem g_indexArr {k : IntKind} {e : TypeId} {b o m sz : Nat} {i : Int} {o' : Nat} {S : World → Prop} (hT : P.underlying t = some (.array m e)) (hs : ∀ w, (sizeOf e).run P w = .ok sz w)
    (hx : ev n σ x = .pointer (some ⟨b, o, none⟩)) (hi : ev n σ ix = .int k i) (h0 : 0 ≤ i) (h1 : i < m) (ho : o + i.toNat * sz = o') :
    Gives P (ev n σ) S (.indexAddr t x ix) ty (.pointer (some ⟨b, o', none⟩)) := fun w _ => by
  subst ho
  simp only [execOp, Instr.indexAt, Sem.run_bind, hi, asIntOf, Sem.run_pure, Result.andThen_ok, run_underlying hT, hx, Instr.sureAddr]
  simp [h0, h1, hs, addr_add]
theorem g_indexArrE {k : IntKind} {e : TypeId} {j s c m sz : Nat} {u : Value} {i : Int} {c' : Nat} {S : World → Prop} (hT : P.underlying t = some (.array m e)) (hs : ∀ w, (sizeOf e).run P w = .ok sz w)
    (hx : ev n σ x = .pointer (some (elA u j s c))) (hi : ev n σ ix = .int k i) (h0 : 0 ≤ i) (h1 : i < m) (ho : c + i.toNat * sz = c') :
    Gives P (ev n σ) S (.indexAddr t x ix) ty (.pointer (some (elA u j s c'))) := fun w _ => by
  subst ho
  simp only [execOp, Instr.indexAt, Sem.run_bind, hi, asIntOf, Sem.run_pure, Result.andThen_ok, run_underlying hT, hx, Instr.sureAddr]
  simp [h0, h1, hs, elA_add]
end
end Go.Inl
