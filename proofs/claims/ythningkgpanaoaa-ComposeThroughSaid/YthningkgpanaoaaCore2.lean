/- What each operation that only computes yields, over the frame as a function of slots. Conditions: none. -/
import Derived.Test.YthningkgpanaoaaCore1
namespace Go.Inl
open Go Go.RowKit

section
variable {P : Program} {n : Nat} {σ : Nat → Value} {S : World → Prop} {ty : TypeId}

theorem g_move (x : Operand) : Gives P (ev n σ) S (.move x) ty (ev n σ x) := fun _ _ => rfl
theorem g_assign (x : Operand) : Gives P (ev n σ) S (.assign x) ty (ev n σ x) := fun _ _ => rfl
theorem g_movev {x : Operand} {v : Value} (h : ev n σ x = v) : Gives P (ev n σ) S (.move x) ty v := fun _ _ => by subst h; rfl
theorem g_assignv {x : Operand} {v : Value} (h : ev n σ x = v) : Gives P (ev n σ) S (.assign x) ty v := fun _ _ => by subst h; rfl
theorem g_pick {c x y : Operand} {b : Bool} (hc : ev n σ c = .bool b) : Gives P (ev n σ) S (.pick c x y) ty (if b then ev n σ x else ev n σ y) := fun w _ => by
  simp only [execOp, hc, asBool]; cases b <;> rfl
/-- 'a && b' behind its two halves. -/
theorem g_and {c x : Operand} {a b : Bool} {u : Value} (hc : ev n σ c = .bool a) (hx : ev n σ x = u) (hu : a = true → u = .bool b) :
    Gives P (ev n σ) S (.pick c x (.const (.bool false))) ty (.bool (a && b)) := by
  intro w hw
  rw [g_pick hc w hw]
  cases a
  · rfl
  · simp [hx, hu rfl]
/-- 'a || b' behind its two halves. -/
theorem g_or {c x : Operand} {a b : Bool} {u : Value} (hc : ev n σ c = .bool a) (hx : ev n σ x = u) (hu : a = false → u = .bool b) :
    Gives P (ev n σ) S (.pick c (.const (.bool true)) x) ty (.bool (a || b)) := by
  intro w hw
  rw [g_pick hc w hw]
  cases a
  · simp [hx, hu rfl]
  · rfl

theorem binop_run {op : BinOp} (hop : (op matches .eql | .neq) = false) {t ty' : TypeId} {x y : Operand} {v : Value} {w : World} (h : (binOp op t (ev n σ x) (ev n σ y)).run P w = .ok v w) :
    (execOp (ev n σ) ⟨none, .binOp op t x y ty', ty, "", #[], none⟩).run P w = .ok (.value v) w := by
  have hg : (eqGuard op t x y (ev n σ x) (ev n σ y)).run P w = .ok () w := by
    cases op <;> first | rfl | (exfalso; revert hop; decide)
  simp only [execOp, Sem.run_bind, hg, Result.andThen_ok, h]; rfl

variable {t t' : TypeId} {x y : Operand} {k : IntKind} {a b : Int}

theorem eqg_int {op : BinOp} {w : World} : (eqGuard op t x y (.int k a) (.int k b)).run P w = .ok () w := by cases op <;> rfl
theorem eqg_bool {op : BinOp} {w : World} {a b : Bool} : (eqGuard op t x y (.bool a) (.bool b)).run P w = .ok () w := by cases op <;> rfl
theorem eqg_string {op : BinOp} {w : World} {a b : ByteArray} : (eqGuard op t x y (.string a) (.string b)).run P w = .ok () w := by cases op <;> rfl

theorem int_run {op : BinOp} {v : Value} (hx : ev n σ x = .int k a) (hy : ev n σ y = .int k b) {w : World} (h : (binOp op t (.int k a) (.int k b)).run P w = .ok v w) :
    (execOp (ev n σ) ⟨none, .binOp op t x y t', ty, "", #[], none⟩).run P w = .ok (.value v) w := by
  simp only [execOp, hx, hy, Sem.run_bind, eqg_int, Result.andThen_ok, h]; rfl

theorem g_lss (hx : ev n σ x = .int k a) (hy : ev n σ y = .int k b) : Gives P (ev n σ) S (.binOp .lss t x y t') ty (.bool (decide (a < b))) := fun _ _ => int_run hx hy (by simp [binOp, Op.intCmp])
theorem g_leq (hx : ev n σ x = .int k a) (hy : ev n σ y = .int k b) : Gives P (ev n σ) S (.binOp .leq t x y t') ty (.bool (decide (a ≤ b))) := fun _ _ => int_run hx hy (by simp [binOp, Op.intCmp])
theorem g_gtr (hx : ev n σ x = .int k a) (hy : ev n σ y = .int k b) : Gives P (ev n σ) S (.binOp .gtr t x y t') ty (.bool (decide (b < a))) := fun _ _ => int_run hx hy (by simp [binOp, Op.intCmp])
theorem g_geq (hx : ev n σ x = .int k a) (hy : ev n σ y = .int k b) : Gives P (ev n σ) S (.binOp .geq t x y t') ty (.bool (decide (b ≤ a))) := fun _ _ => int_run hx hy (by simp [binOp, Op.intCmp])
theorem g_eql (hx : ev n σ x = .int k a) (hy : ev n σ y = .int k b) : Gives P (ev n σ) S (.binOp .eql t x y t') ty (.bool (decide (a = b))) := fun _ _ => int_run hx hy (by simp [binOp, Op.intCmp]; rfl)
theorem g_neq (hx : ev n σ x = .int k a) (hy : ev n σ y = .int k b) : Gives P (ev n σ) S (.binOp .neq t x y t') ty (.bool (!decide (a = b))) := fun _ _ => int_run hx hy (by simp [binOp, Op.intCmp]; rfl)
theorem g_add (hx : ev n σ x = .int .i64 a) (hy : ev n σ y = .int .i64 b) (h0 : -9223372036854775808 ≤ a + b) (h1 : a + b ≤ 9223372036854775807) : Gives P (ev n σ) S (.binOp .add t x y t') ty (.int .i64 (a + b)) :=
  fun _ _ => int_run hx hy (by simp [binOp, Op.intArith, IntKind.wrap_i64]; omega)
theorem g_sub (hx : ev n σ x = .int .i64 a) (hy : ev n σ y = .int .i64 b) (h0 : -9223372036854775808 ≤ a - b) (h1 : a - b ≤ 9223372036854775807) : Gives P (ev n σ) S (.binOp .sub t x y t') ty (.int .i64 (a - b)) :=
  fun _ _ => int_run hx hy (by simp [binOp, Op.intArith, IntKind.wrap_i64]; omega)
theorem g_mul (hx : ev n σ x = .int .i64 a) (hy : ev n σ y = .int .i64 b) (h0 : -9223372036854775808 ≤ a * b) (h1 : a * b ≤ 9223372036854775807) : Gives P (ev n σ) S (.binOp .mul t x y t') ty (.int .i64 (a * b)) :=
  fun _ _ => int_run hx hy (by simp [binOp, Op.intArith, IntKind.wrap_i64]; omega)
/-- In any kind, with the wrap. -/
theorem g_addw (hx : ev n σ x = .int k a) (hy : ev n σ y = .int k b) : Gives P (ev n σ) S (.binOp .add t x y t') ty (.int k (k.wrap (a + b))) := fun _ _ => int_run hx hy (by simp [binOp, Op.intArith])
theorem g_subw (hx : ev n σ x = .int k a) (hy : ev n σ y = .int k b) : Gives P (ev n σ) S (.binOp .sub t x y t') ty (.int k (k.wrap (a - b))) := fun _ _ => int_run hx hy (by simp [binOp, Op.intArith])
theorem g_mulw (hx : ev n σ x = .int k a) (hy : ev n σ y = .int k b) : Gives P (ev n σ) S (.binOp .mul t x y t') ty (.int k (k.wrap (a * b))) := fun _ _ => int_run hx hy (by simp [binOp, Op.intArith])
theorem g_rem (hx : ev n σ x = .int k a) (hy : ev n σ y = .int k b) (ha : 0 ≤ a) (hb : 0 < b) : Gives P (ev n σ) S (.binOp .rem t x y t') ty (.int k (a % b)) :=
  fun _ _ => int_run hx hy (by simp [binOp, Op.intDiv, show b ≠ 0 by omega, Int.tmod_eq_emod_of_nonneg ha])
theorem g_remz (hx : ev n σ x = .int k a) (hy : ev n σ y = .int k b) (hb : b ≠ 0) : Gives P (ev n σ) S (.binOp .rem t x y t') ty (.int k (a.tmod b)) :=
  fun _ _ => int_run hx hy (by simp [binOp, Op.intDiv, hb])
theorem g_quo (hx : ev n σ x = .int .i64 a) (hy : ev n σ y = .int .i64 b) (ha : 0 ≤ a) (hb : 0 < b) (h1 : a ≤ 9223372036854775807) : Gives P (ev n σ) S (.binOp .quo t x y t') ty (.int .i64 (a / b)) :=
  fun _ _ => int_run hx hy (by
    have h2 : a / b ≤ a := Int.ediv_le_self b ha
    have h3 : 0 ≤ a / b := Int.ediv_nonneg ha (by omega)
    simp [binOp, Op.intDiv, show b ≠ 0 by omega, Int.tdiv_eq_ediv_of_nonneg ha, IntKind.wrap_i64]; omega)

/-- '==' on two bools. -/
theorem g_eqlb {a b : Bool} (hT : P.underlying t = some .bool) (hx : ev n σ x = .bool a) (hy : ev n σ y = .bool b) : Gives P (ev n σ) S (.binOp .eql t x y t') ty (.bool (a == b)) := fun w _ => by
  simp only [execOp, hx, hy, Sem.run_bind, eqg_bool, Result.andThen_ok, run_eql_bool w t a b hT]; rfl
theorem g_neqb {a b : Bool} (hT : P.underlying t = some .bool) (hx : ev n σ x = .bool a) (hy : ev n σ y = .bool b) : Gives P (ev n σ) S (.binOp .neq t x y t') ty (.bool (a != b)) := fun w _ => by
  simp only [execOp, hx, hy, Sem.run_bind, eqg_bool, Result.andThen_ok, run_neq_bool w t a b hT]; rfl

theorem g_not {c : Bool} (hx : ev n σ x = .bool c) : Gives P (ev n σ) S (.unOp .not t x) ty (.bool (!c)) := fun w _ => by
  simp [execOp, hx, Op.unary]
theorem g_negw (hx : ev n σ x = .int k a) : Gives P (ev n σ) S (.unOp .neg t x) ty (.int k (k.wrap (-a))) := fun w _ => by
  simp [execOp, hx, Op.unary, Op.intArith]

/-- A conversion between kinds of integers. -/
theorem g_conv {d : TypeDesc} {k' : IntKind} (hs : P.underlying t = some d) (hd : P.underlying t' = some (.int k')) (hx : ev n σ x = .int k a) : Gives P (ev n σ) S (.convert t t' x) ty (.int k' (k'.wrap a)) := fun w _ => by
  simp only [execOp, hx, convert, Sem.run_bind, run_underlying hs, run_underlying hd, Result.andThen_ok]
  cases d <;> simp [Conv.intToInt]
theorem g_convi {d : TypeDesc} (hs : P.underlying t = some d) (hd : P.underlying t' = some (.int .i64)) (hx : ev n σ x = .int k a) (h0 : -9223372036854775808 ≤ a) (h1 : a ≤ 9223372036854775807) : Gives P (ev n σ) S (.convert t t' x) ty (.int .i64 a) := fun w hw => by
  rw [g_conv hs hd hx w hw]
  have : IntKind.i64.wrap a = a := by rw [IntKind.wrap_i64]; omega
  rw [this]
theorem g_convb {d : TypeDesc} (hs : P.underlying t = some d) (hd : P.underlying t' = some (.int .u8)) (hx : ev n σ x = .int k a) (h0 : 0 ≤ a) (h1 : a ≤ 255) : Gives P (ev n σ) S (.convert t t' x) ty (.int .u8 a) := fun w hw => by
  rw [g_conv hs hd hx w hw]
  have : IntKind.u8.wrap a = a := by rw [IntKind.wrap_u8]; omega
  rw [this]

theorem g_nilCheck {ad : Addr} (hx : ev n σ x = .pointer (some ad)) : Gives P (ev n σ) S (.nilCheck x) ty (.pointer (some ad)) := fun w _ => by
  simp [execOp, hx]
theorem g_extract {vs : Array Value} {i : Nat} {v : Value} (hx : ev n σ x = .tuple vs) (hv : vs[i]? = some v) : Gives P (ev n σ) S (.extract x i) ty v := fun w _ => by
  simp [execOp, hx, Instr.extract, hv]
theorem g_makeFunc {fn : Fn} {fs cs : Array Operand} : Gives P (ev n σ) S (.makeFunc fn fs cs) ty (.func fn (fs.map (ev n σ)) (cs.map (ev n σ))) := fun w _ => by
  simp [execOp, Instr.makeFunc]
theorem g_makeIface {d : TypeDesc} (hT : P.underlying t = some d) (hd : (match d with | .interface _ => false | _ => true) = true) : Gives P (ev n σ) S (.makeInterface t x) ty (.iface t (ev n σ x)) := fun w _ => by
  simp only [execOp, Instr.makeInterface, Sem.run_bind, run_underlying hT, Result.andThen_ok]
  cases d <;> first | rfl | (simp at hd)

/-- len of a slice. -/
theorem g_lenS {aT : Array TypeId} {ad : Option Addr} {l c : Nat} (ho : aT = #[t]) {e : TypeId} (hT : P.underlying t = some (.slice e)) (hx : ev n σ x = .slice ad l c) : Gives P (ev n σ) S (.call { callee := .builtin .len, args := #[x], argTypes := aT }) ty (.int .i64 l) := fun w _ => by
  subst ho
  simp [execOp, resolve, invoke, builtin, hx, Builtin.len_, goInt, run_underlying hT]
theorem g_lenStr {aT : Array TypeId} {s : ByteArray} (ho : aT = #[t]) (hT : P.underlying t = some .string) (hx : ev n σ x = .string s) : Gives P (ev n σ) S (.call { callee := .builtin .len, args := #[x], argTypes := aT }) ty (.int .i64 s.size) := fun w _ => by
  subst ho
  simp [execOp, resolve, invoke, builtin, hx, Builtin.len_, goInt, run_underlying hT]

/-! ### Addresses -/
theorem addr_add (b o j : Nat) : (⟨b, o, none⟩ : Addr).add j = ⟨b, o + j, none⟩ := Addr.add_mid b o j

theorem run_fieldPlace {f : Field} {b o s : Nat} {w : World} (hs : (sizeOf f.type).run P w = .ok s w) (h0 : s ≠ 0) : (fieldPlace ⟨b, o, none⟩ f).run P w = .ok ⟨b, o + f.offset, none⟩ w := by
  simp only [fieldPlace, Sem.run_bind, hs, Result.andThen_ok, h0, if_false, addr_add]; rfl

/-- The address of a field. -/
theorem g_fieldAddr {fs : Array Field} {i b o s o' : Nat} {f : Field} (hT : P.underlying t = some (.struct fs)) (hf : fs[i]? = some f) (hs : ∀ w, (sizeOf f.type).run P w = .ok s w) (h0 : Nat.beq s 0 = false)
    (hx : ev n σ x = .pointer (some ⟨b, o, none⟩)) (ho : o + f.offset = o') : Gives P (ev n σ) S (.fieldAddr t x i) ty (.pointer (some ⟨b, o', none⟩)) := fun w _ => by
  have h0' : s ≠ 0 := fun e => by subst e; simp at h0
  subst ho
  simp only [execOp, Instr.fieldAt, Sem.run_bind, run_underlying hT, Result.andThen_ok, hf, hx, Instr.sureAddr, Sem.run_pure, run_fieldPlace (hs w) h0']

/-- The value of a field of a struct's value. -/
theorem g_field1 {fs : Array Field} {i : Nat} {f : Field} {cs : Array Value} {v : Value} (hT : P.underlying t = some (.struct fs)) (hf : fs[i]? = some f) (ha : ∀ w, (isAgg f.type).run P w = .ok false w)
    (hx : ev n σ x = .agg cs) (hv : cs[f.offset]? = some v) : Gives P (ev n σ) S (.field t x i) ty v := fun w _ => by
  simp only [execOp, Instr.field, Sem.run_bind, run_underlying hT, Result.andThen_ok, hf, hx, asAgg, Sem.run_pure, part, ha]
  simp [hv]

/-- The place of an element of a slice. -/
def elA : Value → Nat → Nat → Nat → Addr
  | .slice (some ⟨b, o, _⟩) _ _, k, sz, c => ⟨b, o + k * sz + c, none⟩
  | _, k, sz, c => ⟨0, k * sz + c, none⟩

theorem g_indexAddr {ix : Operand} {e : TypeId} {b o len cap sz : Nat} {i : Int} (hT : P.underlying t = some (.slice e)) (hs : ∀ w, (sizeOf e).run P w = .ok sz w)
    (hx : ev n σ x = .slice (some ⟨b, o, none⟩) len cap) (hi : ev n σ ix = .int k i) (h0 : 0 ≤ i) (h1 : i < len) :
    Gives P (ev n σ) S (.indexAddr t x ix) ty (.pointer (some ⟨b, o + i.toNat * sz, none⟩)) := fun w _ => by
  simp only [execOp, Instr.indexAt, Sem.run_bind, hi, asIntOf, Sem.run_pure, Result.andThen_ok, run_underlying hT, hx]
  simp [h0, h1, hs, addr_add]

end
end Go.Inl
