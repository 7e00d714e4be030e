/- Maps from numbers to numbers: made, written, asked. Conditions: none. -/
import Derived.Test.YtlhehhhpaebpoaaGreatKCore2
import Derived.Test.YtlhehhhpaebpoaaGreatCore15
namespace Go.Inl
open Go Go.RowKit
def entL : Nat → List (Int × Int) → List MapEntry
  | _, [] => []
  | i, x :: r => { key := .int .i64 x.1, val := .int .i64 x.2, born := i } :: entL (i + 1) r
def mapO (l : List (Int × Int)) : Obj := .map (entL 0 l).toArray l.length
def lookI : List (Int × Int) → Int → Option Int
  | [], _ => none
  | x :: r, k => if k = x.1 then some x.2 else lookI r k
theorem entL_len : ∀ (l : List (Int × Int)) (b : Nat), (entL b l).length = l.length
  | [], _ => rfl
  | x :: r, b => by simp [entL, entL_len r]
theorem entL_snoc : ∀ (l : List (Int × Int)) (b : Nat) (x : Int × Int), entL b (l ++ [x]) = entL b l ++ [{ key := .int .i64 x.1, val := .int .i64 x.2, born := b + l.length }]
  | [], b, x => rfl
  | y :: r, b, x => by
    show _ :: entL (b + 1) (r ++ [x]) = _ :: (entL (b + 1) r ++ _)
    rw [entL_snoc r (b + 1) x, List.length_cons, show b + 1 + r.length = b + (r.length + 1) by omega]
theorem lookI_snoc : ∀ (l : List (Int × Int)) (k v j : Int), lookI (l ++ [(k, v)]) j = match lookI l j with | some x => some x | none => if j = k then some v else none
  | [], k, v, j => rfl
  | y :: r, k, v, j => by
    show (if j = y.1 then some y.2 else lookI (r ++ [(k, v)]) j) = _
    by_cases h : j = y.1
    · simp [lookI, h]
    · simp only [lookI, if_neg h]; exact lookI_snoc r k v j
theorem findNow_some (k v : Int) : ∀ (l : List (Int × Int)) (b i : Nat), lookI l k = some v → ∃ j, Instr.findNow (.int .i64) (.int .i64 k) (entL b l) i = some (some (j, .int .i64 v))
  | [], b, i, h => by simp [lookI] at h
  | x :: r, b, i, h => by
    unfold lookI at h
    unfold entL Instr.findNow
    by_cases e : k = x.1
    · rw [if_pos e] at h
      obtain rfl := Option.some.inj h
      exact ⟨i, by simp [Instr.sameNow, e]⟩
    · rw [if_neg e] at h
      obtain ⟨j, hj⟩ := findNow_some k v r (b + 1) (i + 1) h
      exact ⟨j, by simpa [Instr.sameNow, beq_eq_false_iff_ne.2 e] using hj⟩
theorem findNow_none (k : Int) : ∀ (l : List (Int × Int)) (b i : Nat), lookI l k = none → Instr.findNow (.int .i64) (.int .i64 k) (entL b l) i = some none
  | [], b, i, h => rfl
  | x :: r, b, i, h => by
    unfold lookI at h
    unfold entL Instr.findNow
    by_cases e : k = x.1
    · rw [if_pos e] at h; cases h
    · rw [if_neg e] at h
      simpa [Instr.sameNow, beq_eq_false_iff_ne.2 e] using findNow_none k r (b + 1) (i + 1) h
theorem checkInt {P : Program} {w : World} {ky : TypeId} (hk : P.underlying ky = some (.int .i64)) (e : Bool) (n : Nat) (k : Int) : (Instr.checkKey e (n + 1) ky (.int .i64 k)).run P w = .ok () w := by
  unfold Instr.checkKey
  simp [Sem.run_bind, run_underlying hk, Result.andThen]
theorem findInt {P : Program} {w : World} {ky : TypeId} {k : Value} {l : List MapEntry} {a : Option (Nat × Value)} (hd : P.underlying ky = some (.int .i64)) (h : Instr.findNow (.int .i64) k l 0 = some a) : (Instr.findKey ky k l).run P w = .ok a w := by
  simp [Instr.findKey, run_underlying hd, Result.andThen, h]
theorem getMap {P : Program} {w : World} {r : Nat} {es : Array MapEntry} {c : Nat} (hb : w.heap[r]? = some (.map es c)) : (getObj r).run P w = .ok (.map es c) w := by
  simp [getObj, Sem.run, hb]
theorem setMap {P : Program} {w : World} {r : Nat} {es : Array MapEntry} {c : Nat} (o : Obj) (hb : w.heap[r]? = some (.map es c)) : (setObj r o).run P w = .ok () { w with heap := w.heap.setIfInBounds r o } := by
  simp [setObj, Sem.run, hb]
theorem run_lookI {P : Program} {w : World} {t ky el : TypeId} {r : Nat} {l : List (Int × Int)} {k : Int} (hT : P.underlying t = some (.map ky el)) (hk : P.underlying ky = some (.int .i64)) (hz : ∀ w, (zeroValue el).run P w = .ok (.int .i64 0) w) (hb : w.heap[r]? = some (mapO l)) :
    (Instr.lookup t (.map (some r)) (.int .i64 k) true).run P w = .ok (.tuple #[.int .i64 ((lookI l k).getD 0), .bool (lookI l k).isSome]) w := by
  unfold Instr.lookup
  unfold mapO at hb
  have hg := getMap (P := P) hb
  cases h : lookI l k with
  | none =>
    have h2 := findInt (P := P) (w := w) hk (findNow_none k l 0 0 h)
    simp [Sem.run_bind, run_underlying hT, Result.andThen, hg, checkInt hk, h2, hz]
  | some v =>
    obtain ⟨j, hj⟩ := findNow_some k v l 0 0 h
    have h2 := findInt (P := P) (w := w) hk hj
    simp [Sem.run_bind, run_underlying hT, Result.andThen, hg, checkInt hk, h2]
section
variable {P : Program} {n : Nat} {σ : Nat → Value} {ty : TypeId} {X : List Nat} {w0 w : World} {I0 I : Imm} {L : List Res} {t ky el : TypeId} {x y z : Operand} {r : Nat} {l : List (Int × Int)} {k v : Int}
/-- Asking a map that stands still. -/
theorem g_lookF (hT : P.underlying t = some (.map ky el)) (hk : P.underlying ky = some (.int .i64)) (hz : ∀ w, (zeroValue el).run P w = .ok (.int .i64 0) w) (hI : I r = some (mapO l)) (hx : ev n σ x = .map (some r)) (hy : ev n σ y = .int .i64 k) :
    Gives P (ev n σ) (KS X w0 I0 I L) (.lookup t x y true) ty (.tuple #[.int .i64 ((lookI l k).getD 0), .bool (lookI l k).isSome]) := fun w hw => by
  have h := run_lookI (P := P) (k := k) hT hk hz (hw.imm r _ hI)
  simp only [execOp, hx, hy, Sem.run_bind, h, Result.andThen_ok]; rfl
/-- Asking an own map. -/
theorem g_lookO (i : Nat) (hT : P.underlying t = some (.map ky el)) (hk : P.underlying ky = some (.int .i64)) (hz : ∀ w, (zeroValue el).run P w = .ok (.int .i64 0) w) (hL : L[i]? = some (.obj r (mapO l))) (hx : ev n σ x = .map (some r)) (hy : ev n σ y = .int .i64 k) :
    Gives P (ev n σ) (KS X w0 I0 I L) (.lookup t x y true) ty (.tuple #[.int .i64 ((lookI l k).getD 0), .bool (lookI l k).isSome]) := fun w hw => by
  have h := run_lookI (P := P) (k := k) hT hk hz (show w.heap[r]? = some (mapO l) from hw.hold _ (List.mem_of_getElem? hL))
  simp only [execOp, hx, hy, Sem.run_bind, h, Result.andThen_ok]; rfl
theorem d_makeMap (hS : St X w0 I0 I w L) : Does P (ev n σ) (.makeMap t none) ty w fun v w' => ∃ b, v = .map (some b) ∧ St X w0 I0 I w' (.obj b (mapO []) :: L) := by
  refine does_value (v := .map (some w.heap.size)) (w' := w.alloc (mapO [])) ?_ ⟨_, rfl, hS.newObj (mapO [])⟩
  simp [execOp, Instr.makeMap, newObj, mapO, entL, Sem.run]
theorem d_mapPut (i : Nat) (hS : St X w0 I0 I w L) (hT : P.underlying t = some (.map ky el)) (hk : P.underlying ky = some (.int .i64)) (hL : L[i]? = some (.obj r (mapO l))) (hx : ev n σ x = .map (some r)) (hy : ev n σ y = .int .i64 k) (hz : ev n σ z = .int .i64 v) (hn : lookI l k = none) :
    Does P (ev n σ) (.mapUpdate t x y z) ty w fun u w' => u = undef ∧ St X w0 I0 I w' (L.set i (.obj r (mapO (l ++ [(k, v)])))) := by
  have hb : w.heap[r]? = some (mapO l) := hS.hold _ (List.mem_of_getElem? hL)
  have h2 := findInt (P := P) (w := w) hk (findNow_none k l 0 0 hn)
  have e : mapO (l ++ [(k, v)]) = .map (entL 0 l ++ [({ key := .int .i64 k, val := .int .i64 v, born := l.length } : MapEntry)]).toArray (l.length + 1) := by
    unfold mapO
    rw [entL_snoc]; simp
  have hP := hS.putO (o' := mapO (l ++ [(k, v)])) hL
  unfold mapO at hb
  have hg := getMap (P := P) hb
  have hr : (Instr.mapUpdate t (.map (some r)) (.int .i64 k) (.int .i64 v)).run P w = .ok () (w.putObj r (mapO (l ++ [(k, v)]))) := by
    unfold Instr.mapUpdate
    rw [e]
    have hs := setMap (P := P) (.map (entL 0 l ++ [({ key := .int .i64 k, val := .int .i64 v, born := l.length } : MapEntry)]).toArray (l.length + 1)) hb
    simp [Sem.run_bind, run_underlying hT, Result.andThen, hg, checkInt hk, h2, hs, World.putObj]
  refine does_skip (w' := w.putObj r (mapO (l ++ [(k, v)]))) ?_ ⟨rfl, hP⟩
  simp only [execOp, hx, hy, hz, Sem.run_bind, hr, Result.andThen_ok]; rfl
end
end Go.Inl
