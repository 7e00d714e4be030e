/- Package inst: bytes of words, numbers, kinds, decoding and encoding of instructions. Conditions: words are words. inst.Decode: what it computes. Conditions: words are words. inst.Encode: what it computes. Conditions: numbers within bounds. -/
import Derived.Test.YtaklmbhfmpdinaaGreatDoorSpec3
import Derived.Test.YtaklmbhfmpdinaaGreatDoorFacts
import Derived.Test.YtaklmbhfmpdinaaGreatDoorKRef6
namespace Go.Proofs.YtaklmbhfmpdinaaGreatDoor
open Go Go.RowKit Go.Inl
set_option linter.unusedSimpArgs false
set_option linter.unusedVariables false
def kindL : List Value := [.string ⟨#[100, 97, 116, 97]⟩, .int .i64 0, .int .i64 0, .bool false, .bool false, .string ⟨#[97, 100, 100]⟩, .int .i64 3, .int .i64 0, .bool false, .bool false, .string ⟨#[115, 101, 116]⟩, .int .i64 1, .int .i64 16, .bool false, .bool false, .string ⟨#[108, 111, 97, 100]⟩, .int .i64 3, .int .i64 0, .bool false, .bool false, .string ⟨#[115, 116, 111, 114, 101]⟩, .int .i64 3, .int .i64 0, .bool false, .bool false, .string ⟨#[106, 117, 109, 112]⟩, .int .i64 0, .int .i64 24, .bool true, .bool true, .string ⟨#[99, 97, 108, 108]⟩, .int .i64 0, .int .i64 24, .bool true, .bool true, .string ⟨#[98, 114, 97, 110, 99, 104]⟩, .int .i64 1, .int .i64 16, .bool true, .bool true, .string ⟨#[112, 111, 111, 108]⟩, .int .i64 1, .int .i64 16, .bool false, .bool true]
theorem kindL_at {op : Int} (h0 : 0 ≤ op) (h1 : op ≤ 8) : ∃ pre post s, kindL = pre ++ ([.string s, .int .i64 (regsP op), .int .i64 (bitsP op), .bool (signP op), .bool (targP op)] ++ post) ∧ op.toNat * 5 = pre.length := by
  have e : op = 0 ∨ op = 1 ∨ op = 2 ∨ op = 3 ∨ op = 4 ∨ op = 5 ∨ op = 6 ∨ op = 7 ∨ op = 8 := by omega
  rcases e with e | e | e | e | e | e | e | e | e <;> subst e
  · exact ⟨kindL.take 0, kindL.drop 5, _, rfl, rfl⟩
  · exact ⟨kindL.take 5, kindL.drop 10, _, rfl, rfl⟩
  · exact ⟨kindL.take 10, kindL.drop 15, _, rfl, rfl⟩
  · exact ⟨kindL.take 15, kindL.drop 20, _, rfl, rfl⟩
  · exact ⟨kindL.take 20, kindL.drop 25, _, rfl, rfl⟩
  · exact ⟨kindL.take 25, kindL.drop 30, _, rfl, rfl⟩
  · exact ⟨kindL.take 30, kindL.drop 35, _, rfl, rfl⟩
  · exact ⟨kindL.take 35, kindL.drop 40, _, rfl, rfl⟩
  · exact ⟨kindL.take 40, kindL.drop 45, _, rfl, rfl⟩
theorem neqInst {n : Nat} {σ : Nat → Value} {S : World → Prop} {ty t' : TypeId} {x y : Operand} (a b : InstL) (hx : ev n σ x = instV a) (hy : ev n σ y = instV b) : Gives Tryz.prog (ev n σ) S (.binOp .neq 97 x y t') ty (.bool (!instEq a b)) := fun w _ => by
  have hg : (eqGuard .neq 97 x y (instV a) (instV b)).run Tryz.prog w = .ok () w := by simp [eqGuard, instV, go_sem, Tryz.eqGuardType97]
  have hb : (binOp .neq 97 (instV a) (instV b)).run Tryz.prog w = .ok (.bool (!instEq a b)) w := by
    simp [instV, go_sem, instEq]
    by_cases h1 : a.op = b.op <;> by_cases h2 : a.a = b.a <;> by_cases h3 : a.b = b.b <;> by_cases h4 : a.c = b.c <;> by_cases h5 : a.n = b.n <;> simp [h1, h2, h3, h4, h5]
  simp only [execOp, hx, hy, Sem.run_bind, hg, Result.andThen_ok, hb]; rfl

theorem octet_c (w : Int) (i : Nat) (w0 : World) (I0 : Imm) (hI : Sat I0 w0) (h0 : 0 ≤ w) (h1 : w < 4294967296) (hi : i ≤ 3) :
    Ctr Tryz.prog 122 [.int .u32 w, .int .i64 i] w0 (fun v w' => v = .int .i64 (octP w i) ∧ Ext w0 I0 w' I0) := by
  have hob := oct_b w i
  refine fn (n := 12) Tryz.func122 rfl rfl rfl ?_
  have hS := St.start hI
  refine wpIn_seq ?_
  refine reg ?_
  refine qq hS (g_assignv (v := .int .i64 _) rfl) ?_
  refine ol_nil (thenN ?_)
  refine wpIn_seq ?_
  refine reg ?_
  refine qq hS (g_movev (v := .int .u32 _) rfl) ?_
  refine qq hS (g_movev (v := .int .i64 _) rfl) ?_
  refine qq hS (g_mul rfl rfl (by omega) (by omega)) ?_
  refine qq hS (g_sub rfl rfl (by omega) (by omega)) ?_
  refine qq hS (g_shrV (s := 24 - 8 * i) (c := w / 2 ^ (24 - 8 * i)) rfl rfl (by omega) (Nat.ble_eq_true_of_le (Nat.le_trans (show 24 - 8 * i ≤ 32 by omega) (Nat.le_refl 32))) rfl) ?_
  refine qq hS (g_andM (m := 8) (c := octP w i) rfl rfl rfl rfl (by rw [IntKind.wrap_u32]; show octP w i % 4294967296 = _; omega)) ?_
  refine qq hS (g_convi Tryz.underlying209 Tryz.underlying3 rfl (by omega) (by omega)) ?_
  refine qq hS (g_assignv (v := .int .i64 _) rfl) ?_
  refine ol_nil (thenN ?_)
  refine wpIn_ret ?_
  refine ret1 Tryz.results122 (rv_tmp (v := .int .i64 _) rfl) ?_
  exact ⟨rfl, hS.nil⟩

theorem low24_c (w : Int) (w0 : World) (I0 : Imm) (hI : Sat I0 w0) (h0 : 0 ≤ w) (h1 : w < 4294967296) :
    Ctr Tryz.prog 137 [.int .u32 w, .int .i64 24, .bool true] w0 (fun v w' => v = .int .i64 (lowP w 16777216 true) ∧ Ext w0 I0 w' I0) := by
  refine fn (n := 27) Tryz.func137 rfl rfl rfl ?_
  have hS := St.start hI
  refine wpIn_seq ?_
  refine reg ?_
  refine qq hS (g_assignv (v := .int .i64 _) rfl) ?_
  refine ol_nil (thenN ?_)
  refine wpIn_seq ?_
  refine reg ?_
  refine qq hS (g_movev (v := .int .u32 _) rfl) ?_
  refine qq hS (g_convi Tryz.underlying209 Tryz.underlying3 rfl (by omega) (by omega)) ?_
  refine qq hS (g_movev (v := .int .i64 _) rfl) ?_
  refine qq hS (g_shlV (s := 24) (c := 16777216) rfl rfl rfl rfl (by rw [IntKind.wrap_i64]; rfl)) ?_
  refine qq hS (g_sub rfl rfl (by omega) (by omega)) ?_
  refine qq hS (g_andM (m := 24) (c := w % 16777216) rfl rfl rfl rfl (by rw [IntKind.wrap_i64]; omega)) ?_
  refine qq hS (g_assignv (v := .int .i64 _) rfl) ?_
  refine ol_nil (thenN ?_)
  refine wpIn_seq ?_
  refine wpIn_seq ?_
  refine reg ?_
  refine qq hS (g_movev (v := .bool _) rfl) ?_
  refine qq hS (g_movev (v := .bool _) rfl) ?_
  refine qqs rfl rfl hS (g_movev (v := .int .i64 _) rfl) ?_
  refine qqs rfl rfl hS (g_movev (v := .int .i64 _) rfl) ?_
  refine qqs rfl rfl hS (g_sub rfl rfl (by omega) (by omega)) ?_
  refine qqs rfl rfl hS (g_shrV (s := 23) (c := w % 16777216 / 8388608) rfl rfl rfl rfl rfl) ?_
  refine qqs rfl rfl hS (g_eql rfl rfl) ?_
  refine qq hS (g_and rfl rfl (fun _ => rfl)) ?_
  refine ol_nil (thenN ?_)
  refine cond_s rfl ?_ ?_
  ·
    intro hc21
    try simp only [Bool.and_eq_true, Bool.or_eq_true, Bool.not_eq_true', Bool.and_eq_false_imp, Bool.or_eq_false_iff, Bool.not_eq_false', decide_eq_true_eq, decide_eq_false_iff_not] at hc21
    have e : lowP w 16777216 true = w % 16777216 - 16777216 := by unfold lowP; rw [if_pos (by simp; omega)]
    refine reg ?_
    refine qq hS (g_movev (v := .int .i64 _) rfl) ?_
    refine qq hS (g_movev (v := .int .i64 _) rfl) ?_
    refine qq hS (g_shlV (s := 24) (c := 16777216) rfl rfl rfl rfl (by rw [IntKind.wrap_i64]; rfl)) ?_
    refine qq hS (g_sub rfl rfl (by omega) (by omega)) ?_
    refine qq hS (g_assignv (v := .int .i64 _) rfl) ?_
    refine ol_nil (thenN ?_)
    refine wpIn_seq ?_
    refine reg ?_
    refine qq hS (g_movev (v := .int .i64 _) rfl) ?_
    refine qq hS (g_assignv (v := .int .i64 _) rfl) ?_
    refine ol_nil (thenN ?_)
    refine wpIn_ret ?_
    refine ret1 Tryz.results137 (rv_tmp (v := .int .i64 _) rfl) ?_
    exact ⟨by rw [e], hS.nil⟩
  ·
    intro hc21
    try simp only [Bool.and_eq_true, Bool.or_eq_true, Bool.not_eq_true', Bool.and_eq_false_imp, Bool.or_eq_false_iff, Bool.not_eq_false', decide_eq_true_eq, decide_eq_false_iff_not] at hc21
    have e : lowP w 16777216 true = w % 16777216 := by simp only [forall_const] at hc21; unfold lowP; rw [if_neg (by simp; omega)]
    refine wpIn_skip ?_
    refine thenN ?_
    refine wpIn_seq ?_
    refine reg ?_
    refine qq hS (g_movev (v := .int .i64 _) rfl) ?_
    refine qq hS (g_assignv (v := .int .i64 _) rfl) ?_
    refine ol_nil (thenN ?_)
    refine wpIn_ret ?_
    refine ret1 Tryz.results137 (rv_tmp (v := .int .i64 _) rfl) ?_
    exact ⟨by rw [e], hS.nil⟩

theorem low16s_c (w : Int) (w0 : World) (I0 : Imm) (hI : Sat I0 w0) (h0 : 0 ≤ w) (h1 : w < 4294967296) :
    Ctr Tryz.prog 137 [.int .u32 w, .int .i64 16, .bool true] w0 (fun v w' => v = .int .i64 (lowP w 65536 true) ∧ Ext w0 I0 w' I0) := by
  refine fn (n := 27) Tryz.func137 rfl rfl rfl ?_
  have hS := St.start hI
  refine wpIn_seq ?_
  refine reg ?_
  refine qq hS (g_assignv (v := .int .i64 _) rfl) ?_
  refine ol_nil (thenN ?_)
  refine wpIn_seq ?_
  refine reg ?_
  refine qq hS (g_movev (v := .int .u32 _) rfl) ?_
  refine qq hS (g_convi Tryz.underlying209 Tryz.underlying3 rfl (by omega) (by omega)) ?_
  refine qq hS (g_movev (v := .int .i64 _) rfl) ?_
  refine qq hS (g_shlV (s := 16) (c := 65536) rfl rfl rfl rfl (by rw [IntKind.wrap_i64]; rfl)) ?_
  refine qq hS (g_sub rfl rfl (by omega) (by omega)) ?_
  refine qq hS (g_andM (m := 16) (c := w % 65536) rfl rfl rfl rfl (by rw [IntKind.wrap_i64]; omega)) ?_
  refine qq hS (g_assignv (v := .int .i64 _) rfl) ?_
  refine ol_nil (thenN ?_)
  refine wpIn_seq ?_
  refine wpIn_seq ?_
  refine reg ?_
  refine qq hS (g_movev (v := .bool _) rfl) ?_
  refine qq hS (g_movev (v := .bool _) rfl) ?_
  refine qqs rfl rfl hS (g_movev (v := .int .i64 _) rfl) ?_
  refine qqs rfl rfl hS (g_movev (v := .int .i64 _) rfl) ?_
  refine qqs rfl rfl hS (g_sub rfl rfl (by omega) (by omega)) ?_
  refine qqs rfl rfl hS (g_shrV (s := 15) (c := w % 65536 / 32768) rfl rfl rfl rfl rfl) ?_
  refine qqs rfl rfl hS (g_eql rfl rfl) ?_
  refine qq hS (g_and rfl rfl (fun _ => rfl)) ?_
  refine ol_nil (thenN ?_)
  refine cond_s rfl ?_ ?_
  ·
    intro hc21
    try simp only [Bool.and_eq_true, Bool.or_eq_true, Bool.not_eq_true', Bool.and_eq_false_imp, Bool.or_eq_false_iff, Bool.not_eq_false', decide_eq_true_eq, decide_eq_false_iff_not] at hc21
    have e : lowP w 65536 true = w % 65536 - 65536 := by unfold lowP; rw [if_pos (by simp; omega)]
    refine reg ?_
    refine qq hS (g_movev (v := .int .i64 _) rfl) ?_
    refine qq hS (g_movev (v := .int .i64 _) rfl) ?_
    refine qq hS (g_shlV (s := 16) (c := 65536) rfl rfl rfl rfl (by rw [IntKind.wrap_i64]; rfl)) ?_
    refine qq hS (g_sub rfl rfl (by omega) (by omega)) ?_
    refine qq hS (g_assignv (v := .int .i64 _) rfl) ?_
    refine ol_nil (thenN ?_)
    refine wpIn_seq ?_
    refine reg ?_
    refine qq hS (g_movev (v := .int .i64 _) rfl) ?_
    refine qq hS (g_assignv (v := .int .i64 _) rfl) ?_
    refine ol_nil (thenN ?_)
    refine wpIn_ret ?_
    refine ret1 Tryz.results137 (rv_tmp (v := .int .i64 _) rfl) ?_
    exact ⟨by rw [e], hS.nil⟩
  ·
    intro hc21
    try simp only [Bool.and_eq_true, Bool.or_eq_true, Bool.not_eq_true', Bool.and_eq_false_imp, Bool.or_eq_false_iff, Bool.not_eq_false', decide_eq_true_eq, decide_eq_false_iff_not] at hc21
    have e : lowP w 65536 true = w % 65536 := by simp only [forall_const] at hc21; unfold lowP; rw [if_neg (by simp; omega)]
    refine wpIn_skip ?_
    refine thenN ?_
    refine wpIn_seq ?_
    refine reg ?_
    refine qq hS (g_movev (v := .int .i64 _) rfl) ?_
    refine qq hS (g_assignv (v := .int .i64 _) rfl) ?_
    refine ol_nil (thenN ?_)
    refine wpIn_ret ?_
    refine ret1 Tryz.results137 (rv_tmp (v := .int .i64 _) rfl) ?_
    exact ⟨by rw [e], hS.nil⟩

theorem low16_c (w : Int) (w0 : World) (I0 : Imm) (hI : Sat I0 w0) (h0 : 0 ≤ w) (h1 : w < 4294967296) :
    Ctr Tryz.prog 137 [.int .u32 w, .int .i64 16, .bool false] w0 (fun v w' => v = .int .i64 (lowP w 65536 false) ∧ Ext w0 I0 w' I0) := by
  refine fn (n := 27) Tryz.func137 rfl rfl rfl ?_
  have hS := St.start hI
  refine wpIn_seq ?_
  refine reg ?_
  refine qq hS (g_assignv (v := .int .i64 _) rfl) ?_
  refine ol_nil (thenN ?_)
  refine wpIn_seq ?_
  refine reg ?_
  refine qq hS (g_movev (v := .int .u32 _) rfl) ?_
  refine qq hS (g_convi Tryz.underlying209 Tryz.underlying3 rfl (by omega) (by omega)) ?_
  refine qq hS (g_movev (v := .int .i64 _) rfl) ?_
  refine qq hS (g_shlV (s := 16) (c := 65536) rfl rfl rfl rfl (by rw [IntKind.wrap_i64]; rfl)) ?_
  refine qq hS (g_sub rfl rfl (by omega) (by omega)) ?_
  refine qq hS (g_andM (m := 16) (c := w % 65536) rfl rfl rfl rfl (by rw [IntKind.wrap_i64]; omega)) ?_
  refine qq hS (g_assignv (v := .int .i64 _) rfl) ?_
  refine ol_nil (thenN ?_)
  refine wpIn_seq ?_
  refine wpIn_seq ?_
  refine reg ?_
  refine qq hS (g_movev (v := .bool _) rfl) ?_
  refine qq hS (g_movev (v := .bool _) rfl) ?_
  refine qsf rfl rfl rfl ?_
  refine qsf rfl rfl rfl ?_
  refine qsf rfl rfl rfl ?_
  refine qsf rfl rfl rfl ?_
  refine qsf rfl rfl rfl ?_
  refine qq hS (g_and (b := false) rfl rfl (fun h => (by cases h))) ?_
  refine ol_nil (thenN ?_)
  refine cond_f (rfl) ?_
  refine wpIn_skip ?_
  refine thenN ?_
  refine wpIn_seq ?_
  refine reg ?_
  refine qq hS (g_movev (v := .int .i64 _) rfl) ?_
  refine qq hS (g_assignv (v := .int .i64 _) rfl) ?_
  refine ol_nil (thenN ?_)
  refine wpIn_ret ?_
  refine ret1 Tryz.results137 (rv_tmp (v := .int .i64 _) rfl) ?_
  exact ⟨rfl, hS.nil⟩

theorem low_c (w op : Int) (w0 : World) (I0 : Imm) (hI : Sat I0 w0) (h0 : 0 ≤ w) (h1 : w < 4294967296) (hb : 0 < bitsP op) :
    Ctr Tryz.prog 137 [.int .u32 w, .int .i64 (bitsP op), .bool (signP op)] w0 (fun v w' => v = .int .i64 (lowI w op) ∧ Ext w0 I0 w' I0) := by
  have e : op = 5 ∨ op = 6 ∨ op = 7 ∨ op = 2 ∨ op = 8 := by
    unfold bitsP at hb
    split at hb
    · omega
    · split at hb
      · omega
      · omega
  rcases e with e | e | e | e | e <;> subst e
  · exact low24_c w w0 I0 hI h0 h1
  · exact low24_c w w0 I0 hI h0 h1
  · exact low16s_c w w0 I0 hI h0 h1
  · exact low16_c w w0 I0 hI h0 h1
  · exact low16_c w w0 I0 hI h0 h1

set_option maxHeartbeats 2000000 in
theorem kinds_c (w0 : World) (I0 : Imm) (hI : Sat I0 w0) :
    Ctr Tryz.prog 123 [] w0 (fun v w' => v = .agg kindL.toArray ∧ Ext w0 I0 w' I0) := by
  refine fn (n := 11) Tryz.func123 rfl rfl rfl ?_
  have hS := St.start hI
  refine wpIn_seq ?_
  refine reg ?_
  refine qe (d_alloc  hS Tryz.zeroValue212 rfl) ?_
  clear hS
  rintro _ w_1 ⟨b0, rfl, hS⟩
  refine ol_nil (thenN ?_)
  refine wpIn_seq ?_
  refine reg ?_
  refine qq hS (g_buildv (pl := [(0, 1), (1, 1), (2, 1), (3, 1), (4, 1)]) (cs := [.string _, .int .i64 _, .int .i64 _, .bool _, .bool _]) Tryz.zeroValue211 Tryz.underlying211 (fun w => by simp [Tryz.sizeOf3, Tryz.sizeOf4, Tryz.sizeOf9]) (mp rfl mp0) rfl) ?_
  refine qq hS (g_buildv (pl := [(0, 1), (1, 1), (2, 1), (3, 1), (4, 1)]) (cs := [.string _, .int .i64 _, .int .i64 _, .bool _, .bool _]) Tryz.zeroValue211 Tryz.underlying211 (fun w => by simp [Tryz.sizeOf3, Tryz.sizeOf4, Tryz.sizeOf9]) (mp rfl (mp (v := .int .i64 _) rfl mp0)) rfl) ?_
  refine qq hS (g_buildv (pl := [(0, 1), (1, 1), (2, 1), (3, 1), (4, 1)]) (cs := [.string _, .int .i64 _, .int .i64 _, .bool _, .bool _]) Tryz.zeroValue211 Tryz.underlying211 (fun w => by simp [Tryz.sizeOf3, Tryz.sizeOf4, Tryz.sizeOf9]) (mp rfl (mp (v := .int .i64 _) rfl (mp (v := .int .i64 _) rfl mp0))) rfl) ?_
  refine qq hS (g_buildv (pl := [(0, 1), (1, 1), (2, 1), (3, 1), (4, 1)]) (cs := [.string _, .int .i64 _, .int .i64 _, .bool _, .bool _]) Tryz.zeroValue211 Tryz.underlying211 (fun w => by simp [Tryz.sizeOf3, Tryz.sizeOf4, Tryz.sizeOf9]) (mp rfl (mp (v := .int .i64 _) rfl mp0)) rfl) ?_
  refine qq hS (g_buildv (pl := [(0, 1), (1, 1), (2, 1), (3, 1), (4, 1)]) (cs := [.string _, .int .i64 _, .int .i64 _, .bool _, .bool _]) Tryz.zeroValue211 Tryz.underlying211 (fun w => by simp [Tryz.sizeOf3, Tryz.sizeOf4, Tryz.sizeOf9]) (mp rfl (mp (v := .int .i64 _) rfl mp0)) rfl) ?_
  refine qq hS (g_buildv (pl := [(0, 1), (1, 1), (2, 1), (3, 1), (4, 1)]) (cs := [.string _, .int .i64 _, .int .i64 _, .bool _, .bool _]) Tryz.zeroValue211 Tryz.underlying211 (fun w => by simp [Tryz.sizeOf3, Tryz.sizeOf4, Tryz.sizeOf9]) (mp rfl (mp (v := .int .i64 _) rfl (mp (v := .bool _) rfl (mp (v := .bool _) rfl mp0)))) rfl) ?_
  refine qq hS (g_buildv (pl := [(0, 1), (1, 1), (2, 1), (3, 1), (4, 1)]) (cs := [.string _, .int .i64 _, .int .i64 _, .bool _, .bool _]) Tryz.zeroValue211 Tryz.underlying211 (fun w => by simp [Tryz.sizeOf3, Tryz.sizeOf4, Tryz.sizeOf9]) (mp rfl (mp (v := .int .i64 _) rfl (mp (v := .bool _) rfl (mp (v := .bool _) rfl mp0)))) rfl) ?_
  refine qq hS (g_buildv (pl := [(0, 1), (1, 1), (2, 1), (3, 1), (4, 1)]) (cs := [.string _, .int .i64 _, .int .i64 _, .bool _, .bool _]) Tryz.zeroValue211 Tryz.underlying211 (fun w => by simp [Tryz.sizeOf3, Tryz.sizeOf4, Tryz.sizeOf9]) (mp rfl (mp (v := .int .i64 _) rfl (mp (v := .int .i64 _) rfl (mp (v := .bool _) rfl (mp (v := .bool _) rfl mp0))))) rfl) ?_
  refine qq hS (g_buildv (pl := [(0, 1), (1, 1), (2, 1), (3, 1), (4, 1)]) (cs := [.string _, .int .i64 _, .int .i64 _, .bool _, .bool _]) Tryz.zeroValue211 Tryz.underlying211 (fun w => by simp [Tryz.sizeOf3, Tryz.sizeOf4, Tryz.sizeOf9]) (mp rfl (mp (v := .int .i64 _) rfl (mp (v := .int .i64 _) rfl (mp (v := .bool _) rfl mp0)))) rfl) ?_
  refine qq hS (g_buildArr (cs := kindL) Tryz.zeroValue212 Tryz.underlying212 Tryz.sizeOf211 rfl (by kernel_rfl)) ?_
  refine qe (d_store 0 hS Tryz.sizeOf212 rfl rfl rfl (vs := kindL) rfl rfl rfl (Nat.le_of_ble_eq_true rfl) (cs' := kindL) rfl) ?_
  clear hS
  rintro _ w_2 ⟨rfl, hS⟩
  refine ol_nil (thenN ?_)
  refine wpIn_ret ?_
  refine ret1 Tryz.results123 (rv_cel 0 hS Tryz.sizeOf212 Tryz.isAgg212 rfl rfl rfl) ?_
  exact ⟨rfl, hS.nil⟩

end Go.Proofs.YtaklmbhfmpdinaaGreatDoor


namespace Go.Proofs.YtaklmbhfmpdinaaGreatDoor
open Go Go.RowKit Go.Inl
set_option linter.unusedSimpArgs false
set_option linter.unusedVariables false
/-- A register, once the loop has come by. -/
def regV (w : Int) (j k : Nat) : Int := match Nat.blt j k with | true => octP w (j + 1) | false => 0
theorem regV_eq {w : Int} {j k : Nat} {r : Int} (h : (k : Int) = r) : regV w j k = if (j : Int) < r then octP w (j + 1) else 0 := by
  unfold regV
  by_cases hj : j < k
  · rw [show Nat.blt j k = true from by rw [Nat.blt_eq]; exact hj, if_pos (by omega)]
  · rw [show Nat.blt j k = false by rw [Bool.eq_false_iff]; intro h'; rw [Nat.blt_eq] at h'; exact hj h', if_neg (by omega)]
theorem regs_b (op : Int) : 0 ≤ regsP op ∧ regsP op ≤ 3 := by unfold regsP; split <;> (try split) <;> omega
theorem bad_t {w op : Int} {k : Nat} (h1 : (k : Int) < regsP op) (h2 : 15 < octP w (k + 1)) : badR w op = true := by
  have hr := regs_b op
  have : k = 0 ∨ k = 1 ∨ k = 2 := by omega
  unfold badR
  rcases this with rfl | rfl | rfl
  · rw [decide_eq_true (show (0 : Int) < regsP op by omega), decide_eq_true (show 15 < octP w 1 from h2)]; rfl
  · rw [decide_eq_true (show (1 : Int) < regsP op by omega), decide_eq_true (show 15 < octP w 2 from h2)]; simp
  · rw [decide_eq_true (show (2 : Int) < regsP op by omega), decide_eq_true (show 15 < octP w 3 from h2)]; simp
theorem bad_f {w op : Int} {k : Nat} (h1 : (k : Int) = regsP op) (h2 : ∀ j, j < k → octP w (j + 1) ≤ 15) : badR w op = false := by
  unfold badR
  rw [Bool.or_eq_false_iff, Bool.or_eq_false_iff]
  refine ⟨?_, ?_, ?_⟩
  · by_cases h : 0 < regsP op
    · have : octP w 1 ≤ 15 := h2 0 (by omega); rw [decide_eq_false (show ¬ 15 < octP w 1 by omega), Bool.and_false]
    · rw [decide_eq_false h, Bool.false_and]
  · by_cases h : 1 < regsP op
    · have : octP w 2 ≤ 15 := h2 1 (by omega); rw [decide_eq_false (show ¬ 15 < octP w 2 by omega), Bool.and_false]
    · rw [decide_eq_false h, Bool.false_and]
  · by_cases h : 2 < regsP op
    · have : octP w 3 ≤ 15 := h2 2 (by omega); rw [decide_eq_false (show ¬ 15 < octP w 3 by omega), Bool.and_false]
    · rw [decide_eq_false h, Bool.false_and]
theorem decI_bad {w at_ : Int} (h : ¬ (octP w 0 = 0 ∨ 8 < octP w 0)) (hb : badR w (octP w 0) = true) : decI w at_ = dataI w := by unfold decI; rw [if_neg h, if_pos hb]
theorem decI_data {w at_ : Int} (h : octP w 0 = 0 ∨ 8 < octP w 0) : decI w at_ = dataI w := by unfold decI; rw [if_pos h]
theorem decI_good {w at_ : Int} {k : Nat} (h : ¬ (octP w 0 = 0 ∨ 8 < octP w 0)) (h1 : (k : Int) = regsP (octP w 0)) (hb : badR w (octP w 0) = false) : decI w at_ = ⟨octP w 0, regV w 0 k, regV w 1 k, regV w 2 k, if targP (octP w 0) = true then at_ + 4 * lowI w (octP w 0) else lowI w (octP w 0)⟩ := by
  unfold decI; rw [if_neg h, if_neg (by rw [hb]; simp), regV_eq h1, regV_eq h1, regV_eq h1]; rfl
theorem lowI_0 {w op : Int} (h : ¬ 0 < bitsP op) : lowI w op = 0 := by
  unfold lowI; rw [if_neg (by omega), if_neg (by omega)]

set_option maxHeartbeats 1000000 in
theorem decodeI_c (wd at_ : Int) (w0 : World) (I0 : Imm) (hI : Sat I0 w0) (hw0 : 0 ≤ wd) (hw1 : wd < 4294967296) (ha0 : -1099511627776 ≤ at_) (ha1 : at_ ≤ 1099511627776) :
    Ctr Tryz.prog 115 [.int .u32 wd, .int .i64 at_] w0 (fun v w' => v = instV (decI wd at_) ∧ Ext w0 I0 w' I0) := by
  have ho := oct_b wd 0
  have hlb := lowI_b wd (octP wd 0)
  refine fn (n := 74) Tryz.func115 rfl rfl rfl ?_
  have hS := St.start hI
  refine wpIn_seq ?_
  refine reg ?_
  refine qe (d_alloc (cs := [.int .i64 _, .int .i64 _, .int .i64 _, .int .i64 _, .int .i64 _]) hS Tryz.zeroValue97 rfl) ?_
  clear hS
  rintro _ w_1 ⟨b4, rfl, hS⟩
  refine ol_nil (thenN ?_)
  refine wpIn_seq ?_
  refine reg ?_
  refine qq hS (g_movev (v := .int .u32 _) rfl) ?_
  refine qq hS (g_makeFuncL (ml rfl ml0) ml0) ?_
  refine qq hS (g_assign _) ?_
  refine ol_nil (thenN ?_)
  refine wpIn_seq ?_
  refine reg ?_
  refine qq hS (g_move _) ?_
  refine qe (d_callb Tryz.call122 rfl rfl (octet_c wd 0 _ I0 hS.imm hw0 hw1 (by decide))) ?_
  rintro _ w_2 ⟨rfl, hE⟩
  replace hS := hS.callE hE
  refine qq hS (g_assignv (v := .int .i64 _) rfl) ?_
  refine ol_nil (thenN ?_)
  refine wpIn_seq ?_
  refine wpIn_seq ?_
  refine reg ?_
  refine qq hS (g_movev (v := .int .i64 _) rfl) ?_
  refine qq hS (g_eql rfl rfl) ?_
  refine qq hS (g_movev (v := .bool _) rfl) ?_
  refine qu rfl rfl hS (fun hg => (g_movev (v := .int .i64 _) rfl)) ?_
  intro u18 hu18 hn18
  refine qu rfl rfl hS (fun hg => (g_gtr (hu18 hg) rfl)) ?_
  intro u19 hu19 hn19
  refine qq hS (g_or rfl rfl (fun hq => hu19 hq)) ?_
  refine ol_nil (thenN ?_)
  refine cond_s rfl ?_ ?_
  ·
    intro hc20
    clear hu18 hn18 hu19 hn19
    try simp only [Bool.and_eq_true, Bool.or_eq_true, Bool.not_eq_true', Bool.and_eq_false_imp, Bool.or_eq_false_iff, Bool.not_eq_false', decide_eq_true_eq, decide_eq_false_iff_not] at hc20
    have e : decI wd at_ = dataI wd := decI_data hc20
    refine wpIn_seq ?_
    refine reg ?_
    refine qq hS (g_movev (v := .int .u32 _) rfl) ?_
    refine qq hS (g_convi Tryz.underlying93 Tryz.underlying3 rfl (by omega) (by omega)) ?_
    refine qq hS (g_buildv (pl := [(0, 1), (1, 1), (2, 1), (3, 1), (4, 1)]) (cs := [.int .i64 _, .int .i64 _, .int .i64 _, .int .i64 _, .int .i64 _]) Tryz.zeroValue97 Tryz.underlying97 (fun w => by simp [Tryz.sizeOf3]) (mp (v := .int .i64 _) rfl mp0) rfl) ?_
    refine qe (d_store 0 hS Tryz.sizeOf97 rfl rfl rfl (vs := [.int .i64 _, .int .i64 _, .int .i64 _, .int .i64 _, .int .i64 _]) rfl rfl rfl (Nat.le_of_ble_eq_true rfl) (cs' := [_, _, _, _, _]) rfl) ?_
    clear hS
    rintro _ w_3 ⟨rfl, hS⟩
    refine ol_nil (thenN ?_)
    refine wpIn_ret ?_
    refine thenR ?_
    refine ret1 Tryz.results115 (rv_cel 0 hS Tryz.sizeOf97 Tryz.isAgg97 rfl rfl rfl) ?_
    exact ⟨by rw [e]; rfl, hS.nil⟩
  ·
    intro hc20
    clear hu18 hn18 hu19 hn19
    try simp only [Bool.and_eq_true, Bool.or_eq_true, Bool.not_eq_true', Bool.and_eq_false_imp, Bool.or_eq_false_iff, Bool.not_eq_false', decide_eq_true_eq, decide_eq_false_iff_not] at hc20
    have hop : ¬ (octP wd 0 = 0 ∨ 8 < octP wd 0) := by omega
    obtain ⟨pre, post, s, hkl, hpre⟩ := kindL_at (op := octP wd 0) (by omega) (by omega)
    refine wpIn_skip ?_
    refine thenN ?_
    refine wpIn_seq ?_
    refine reg ?_
    refine qe (d_call Tryz.call123 rfl (kinds_c _ I0 hS.imm)) ?_
    rintro _ w_4 ⟨rfl, hE⟩
    replace hS := hS.callE hE
    refine qq hS (g_movev (v := .int .i64 _) rfl) ?_
    refine qq hS (g_indexAggA (pre := pre) (post := post) (cs := [.string s, .int .i64 (regsP (octP wd 0)), .int .i64 (bitsP (octP wd 0)), .bool (signP (octP wd 0)), .bool (targP (octP wd 0))]) Tryz.underlying212 Tryz.sizeOf211 Tryz.isAgg211 (congrArg (fun l : List Value => Value.agg l.toArray) hkl) rfl (by omega) (by omega) hpre rfl) ?_
    refine qe (d_alloc (cs := [.string _, .int .i64 _, .int .i64 _, .bool _, .bool _]) hS Tryz.zeroValue211 rfl) ?_
    clear hS
    rintro _ w_5 ⟨b7, rfl, hS⟩
    refine qe (d_store 0 hS Tryz.sizeOf211 rfl rfl rfl (vs := [.string _, .int .i64 _, .int .i64 _, .bool _, .bool _]) rfl rfl rfl (Nat.le_of_ble_eq_true rfl) (cs' := [_, _, _, _, _]) rfl) ?_
    clear hS
    rintro _ w_6 ⟨rfl, hS⟩
    refine ol_nil (thenN ?_)
    refine wpIn_seq ?_
    refine reg ?_
    refine qq hS (g_movev (v := .int .i64 _) rfl) ?_
    refine qq hS (g_buildv (pl := [(0, 1), (1, 1), (2, 1), (3, 1), (4, 1)]) (cs := [.int .i64 _, .int .i64 _, .int .i64 _, .int .i64 _, .int .i64 _]) Tryz.zeroValue97 Tryz.underlying97 (fun w => by simp [Tryz.sizeOf3]) (mp (v := .int .i64 _) rfl mp0) rfl) ?_
    refine qe (d_alloc (cs := [.int .i64 _, .int .i64 _, .int .i64 _, .int .i64 _, .int .i64 _]) hS Tryz.zeroValue97 rfl) ?_
    clear hS
    rintro _ w_7 ⟨b8, rfl, hS⟩
    refine qe (d_store 0 hS Tryz.sizeOf97 rfl rfl rfl (vs := [.int .i64 _, .int .i64 _, .int .i64 _, .int .i64 _, .int .i64 _]) rfl rfl rfl (Nat.le_of_ble_eq_true rfl) (cs' := [_, _, _, _, _]) rfl) ?_
    clear hS
    rintro _ w_8 ⟨rfl, hS⟩
    refine ol_nil (thenN ?_)
    refine meet (fun σ w => ∃ k : Nat, okS σ [(0, .int .u32 wd), (1, .int .i64 at_), (4, .pointer (some ⟨b4, 0, none⟩)), (7, .pointer (some ⟨b7, 0, none⟩)), (8, .pointer (some ⟨b8, 0, none⟩))] ∧ St [] w0 I0 I0 w [.cel b8 97 [.int .i64 (octP wd 0), .int .i64 (regV wd 0 k), .int .i64 (regV wd 1 k), .int .i64 (regV wd 2 k), .int .i64 0], .cel b7 211 [.string s, .int .i64 (regsP (octP wd 0)), .int .i64 (bitsP (octP wd 0)), .bool (signP (octP wd 0)), .bool (targP (octP wd 0))], .cel b4 97 [.int .i64 0, .int .i64 0, .int .i64 0, .int .i64 0, .int .i64 0]] ∧ (k : Int) = regsP (octP wd 0) ∧ ∀ j, j < k → octP wd (j + 1) ≤ 15) ?_ ?_
    ·
      refine wpIn_seq ?_
      refine reg ?_
      refine qq hS (g_fieldAddr (o' := 1) Tryz.underlying97 rfl Tryz.sizeOf3 rfl rfl rfl) ?_
      refine qq hS (g_fieldAddr (o' := 2) Tryz.underlying97 rfl Tryz.sizeOf3 rfl rfl rfl) ?_
      refine qq hS (g_fieldAddr (o' := 3) Tryz.underlying97 rfl Tryz.sizeOf3 rfl rfl rfl) ?_
      refine qq hS (g_buildArr (cs := [.pointer (some ⟨b8, 1, none⟩), .pointer (some ⟨b8, 2, none⟩), .pointer (some ⟨b8, 3, none⟩)]) Tryz.zeroValue243 Tryz.underlying243 Tryz.sizeOf242 rfl (fillP3 _ _ _ _ _ _)) ?_
      refine qq hS (g_movev (v := .int .i64 _) rfl) ?_
      refine ol_nil (thenN ?_)
      refine wpIn_block ?_
      refine loop (fun (k : Nat) σ w => okS σ [(0, .int .u32 wd), (1, .int .i64 at_), (4, .pointer (some ⟨b4, 0, none⟩)), (5, .func (.func 122) #[.int .u32 wd] #[]), (7, .pointer (some ⟨b7, 0, none⟩)), (8, .pointer (some ⟨b8, 0, none⟩)), (32, .agg #[.pointer (some ⟨b8, 1, none⟩), .pointer (some ⟨b8, 2, none⟩), .pointer (some ⟨b8, 3, none⟩)]), (33, .int .i64 k)] ∧ St [] w0 I0 I0 w [.cel b8 97 [.int .i64 (octP wd 0), .int .i64 (regV wd 0 k), .int .i64 (regV wd 1 k), .int .i64 (regV wd 2 k), .int .i64 0], .cel b7 211 [.string s, .int .i64 (regsP (octP wd 0)), .int .i64 (bitsP (octP wd 0)), .bool (signP (octP wd 0)), .bool (targP (octP wd 0))], .cel b4 97 [.int .i64 0, .int .i64 0, .int .i64 0, .int .i64 0, .int .i64 0]] ∧ (k : Int) ≤ regsP (octP wd 0) ∧ ∀ j, j < k → octP wd (j + 1) ≤ 15) (fun k => 3 - k) (0) ?_ ?_
      ·
        exact ⟨⟨rfl, rfl, rfl, rfl, rfl, rfl, rfl, rfl, trivial⟩, hS.sel [true, true, true], by have := regs_b (octP wd 0); omega, fun j hj => by omega⟩
      ·
        rintro k σ w_l ⟨hs, hS, hkr0, hgood⟩
        rw [← upds_self hs]; clear hs
        have hrb := regs_b (octP wd 0)
        refine wpIn_seq ?_
        refine reg ?_
        refine qq hS (g_lss rfl rfl) ?_
        refine ol_nil (thenN ?_)
        refine wpIn_seq ?_
        refine cond_s rfl ?_ ?_
        ·
          intro hc34
          try simp only [Bool.and_eq_true, Bool.or_eq_true, Bool.not_eq_true', Bool.and_eq_false_imp, Bool.or_eq_false_iff, Bool.not_eq_false', decide_eq_true_eq, decide_eq_false_iff_not] at hc34
          refine wpIn_skip ?_
          refine thenN ?_
          refine wpIn_seq ?_
          refine wpIn_block ?_
          refine wpIn_seq ?_
          have hk3 : k = 0 ∨ k = 1 ∨ k = 2 := by omega
          refine hk3.elim (fun hi => ?_) (fun h => h.elim (fun hi => ?_) (fun hi => ?_))
          ·
            subst hi
            refine reg ?_
            refine qq hS (g_movev (v := .int .i64 _) rfl) ?_
            refine qq hS (g_indexAgg (v := .pointer (some ⟨b8, 1, none⟩)) Tryz.underlying243 Tryz.sizeOf242 Tryz.isAgg242 rfl rfl (by decide) (by decide) rfl) ?_
            refine qq hS (g_assignv (v := .int .i64 _) rfl) ?_
            refine qq hS (g_assign _) ?_
            refine ol_nil (thenN ?_)
            refine wpIn_seq ?_
            refine wpIn_seq ?_
            refine reg ?_
            refine qq hS (g_movev (v := .int .i64 _) rfl) ?_
            refine qq hS (g_fieldAddr (o' := 1) Tryz.underlying211 rfl Tryz.sizeOf3 rfl rfl rfl) ?_
            refine qq hS (g_ldO1 1 Tryz.isAgg3 rfl rfl rfl) ?_
            refine qq hS (g_geq rfl rfl) ?_
            refine ol_nil (thenN ?_)
            refine cond_s rfl ?_ ?_
            ·
              intro hc40
              try simp only [Bool.and_eq_true, Bool.or_eq_true, Bool.not_eq_true', Bool.and_eq_false_imp, Bool.or_eq_false_iff, Bool.not_eq_false', decide_eq_true_eq, decide_eq_false_iff_not] at hc40
              have hkr : ((0 : Nat) : Int) = regsP (octP wd 0) := by omega
              refine wpIn_exit ?_
              refine thenE (blkO rfl (thenE (thenE (blkE ?_))))
              refine thenN ?_
              exact ⟨_, rfl, _, ⟨rfl, rfl, rfl, rfl, rfl, trivial⟩, hS.sel [true, true, true], hkr, hgood⟩
            ·
              intro hc40
              try simp only [Bool.and_eq_true, Bool.or_eq_true, Bool.not_eq_true', Bool.and_eq_false_imp, Bool.or_eq_false_iff, Bool.not_eq_false', decide_eq_true_eq, decide_eq_false_iff_not] at hc40
              refine wpIn_skip ?_
              refine thenN ?_
              refine wpIn_seq ?_
              refine reg ?_
              refine qq hS (g_move _) ?_
              refine qq hS (g_move _) ?_
              refine qq hS (g_movev (v := .int .i64 _) rfl) ?_
              refine qq hS (g_add rfl rfl (by omega) (by omega)) ?_
              refine qe (d_callb Tryz.call122 rfl rfl (octet_c wd 1 _ I0 hS.imm hw0 hw1 (by decide))) ?_
              rintro _ w_9 ⟨rfl, hE⟩
              replace hS := hS.callE hE
              refine qq hS (g_nilCheck rfl) ?_
              refine qe (d_store 0 hS Tryz.sizeOf3 rfl rfl rfl (vs := [.int .i64 _]) rfl rfl rfl (Nat.le_of_ble_eq_true rfl)  rfl) ?_
              clear hS
              rintro _ w_10 ⟨rfl, hS⟩
              refine ol_nil (thenN ?_)
              refine wpIn_seq ?_
              refine reg ?_
              refine qq hS (g_move _) ?_
              refine qq hS (g_nilCheck rfl) ?_
              refine qq hS (g_ldO1 0 Tryz.isAgg3 rfl rfl rfl) ?_
              refine qq hS (g_gtr rfl rfl) ?_
              refine ol_nil (thenN ?_)
              refine cond_s rfl ?_ ?_
              ·
                intro hc50
                try simp only [Bool.and_eq_true, Bool.or_eq_true, Bool.not_eq_true', Bool.and_eq_false_imp, Bool.or_eq_false_iff, Bool.not_eq_false', decide_eq_true_eq, decide_eq_false_iff_not] at hc50
                have e : decI wd at_ = dataI wd := decI_bad hop (bad_t (k := 0) (by omega) hc50)
                refine wpIn_seq ?_
                refine reg ?_
                refine qq hS (g_movev (v := .int .u32 _) rfl) ?_
                refine qq hS (g_convi Tryz.underlying93 Tryz.underlying3 rfl (by omega) (by omega)) ?_
                refine qq hS (g_buildv (pl := [(0, 1), (1, 1), (2, 1), (3, 1), (4, 1)]) (cs := [.int .i64 _, .int .i64 _, .int .i64 _, .int .i64 _, .int .i64 _]) Tryz.zeroValue97 Tryz.underlying97 (fun w => by simp [Tryz.sizeOf3]) (mp (v := .int .i64 _) rfl mp0) rfl) ?_
                refine qe (d_store 2 hS Tryz.sizeOf97 rfl rfl rfl (vs := [.int .i64 _, .int .i64 _, .int .i64 _, .int .i64 _, .int .i64 _]) rfl rfl rfl (Nat.le_of_ble_eq_true rfl)  rfl) ?_
                clear hS
                rintro _ w_11 ⟨rfl, hS⟩
                refine ol_nil (thenN ?_)
                refine wpIn_ret ?_
                refine blkR (thenR (thenR (blkR (thenR ?_))))
                refine ret1 Tryz.results115 (rv_cel 2 hS Tryz.sizeOf97 Tryz.isAgg97 rfl rfl rfl) ?_
                exact ⟨by rw [e]; rfl, hS.nil⟩
              ·
                intro hc50
                try simp only [Bool.and_eq_true, Bool.or_eq_true, Bool.not_eq_true', Bool.and_eq_false_imp, Bool.or_eq_false_iff, Bool.not_eq_false', decide_eq_true_eq, decide_eq_false_iff_not] at hc50
                have hg2 : ∀ j, j < 0 + 1 → octP wd (j + 1) ≤ 15 := fun j hj => by
                  rcases Nat.lt_succ_iff_lt_or_eq.1 hj with h | h
                  · exact hgood j h
                  · subst h; exact Int.not_lt.1 hc50
                refine wpIn_skip ?_
                refine blkN (thenN ?_)
                refine reg ?_
                refine qq hS (g_add rfl rfl (by omega) (by omega)) ?_
                refine qq hS (g_movev (v := .int .i64 _) rfl) ?_
                refine ol_nil (thenN ?_)
                exact ⟨1, _, rfl, ⟨⟨rfl, rfl, rfl, rfl, rfl, rfl, rfl, rfl, trivial⟩, hS.sel [true, true, true], by omega, hg2⟩, by omega⟩
          ·
            subst hi
            refine reg ?_
            refine qq hS (g_movev (v := .int .i64 _) rfl) ?_
            refine qq hS (g_indexAgg (v := .pointer (some ⟨b8, 2, none⟩)) Tryz.underlying243 Tryz.sizeOf242 Tryz.isAgg242 rfl rfl (by decide) (by decide) rfl) ?_
            refine qq hS (g_assignv (v := .int .i64 _) rfl) ?_
            refine qq hS (g_assign _) ?_
            refine ol_nil (thenN ?_)
            refine wpIn_seq ?_
            refine wpIn_seq ?_
            refine reg ?_
            refine qq hS (g_movev (v := .int .i64 _) rfl) ?_
            refine qq hS (g_fieldAddr (o' := 1) Tryz.underlying211 rfl Tryz.sizeOf3 rfl rfl rfl) ?_
            refine qq hS (g_ldO1 1 Tryz.isAgg3 rfl rfl rfl) ?_
            refine qq hS (g_geq rfl rfl) ?_
            refine ol_nil (thenN ?_)
            refine cond_s rfl ?_ ?_
            ·
              intro hc40
              try simp only [Bool.and_eq_true, Bool.or_eq_true, Bool.not_eq_true', Bool.and_eq_false_imp, Bool.or_eq_false_iff, Bool.not_eq_false', decide_eq_true_eq, decide_eq_false_iff_not] at hc40
              have hkr : ((1 : Nat) : Int) = regsP (octP wd 0) := by omega
              refine wpIn_exit ?_
              refine thenE (blkO rfl (thenE (thenE (blkE ?_))))
              refine thenN ?_
              exact ⟨_, rfl, _, ⟨rfl, rfl, rfl, rfl, rfl, trivial⟩, hS.sel [true, true, true], hkr, hgood⟩
            ·
              intro hc40
              try simp only [Bool.and_eq_true, Bool.or_eq_true, Bool.not_eq_true', Bool.and_eq_false_imp, Bool.or_eq_false_iff, Bool.not_eq_false', decide_eq_true_eq, decide_eq_false_iff_not] at hc40
              refine wpIn_skip ?_
              refine thenN ?_
              refine wpIn_seq ?_
              refine reg ?_
              refine qq hS (g_move _) ?_
              refine qq hS (g_move _) ?_
              refine qq hS (g_movev (v := .int .i64 _) rfl) ?_
              refine qq hS (g_add rfl rfl (by omega) (by omega)) ?_
              refine qe (d_callb Tryz.call122 rfl rfl (octet_c wd 2 _ I0 hS.imm hw0 hw1 (by decide))) ?_
              rintro _ w_12 ⟨rfl, hE⟩
              replace hS := hS.callE hE
              refine qq hS (g_nilCheck rfl) ?_
              refine qe (d_store 0 hS Tryz.sizeOf3 rfl rfl rfl (vs := [.int .i64 _]) rfl rfl rfl (Nat.le_of_ble_eq_true rfl)  rfl) ?_
              clear hS
              rintro _ w_13 ⟨rfl, hS⟩
              refine ol_nil (thenN ?_)
              refine wpIn_seq ?_
              refine reg ?_
              refine qq hS (g_move _) ?_
              refine qq hS (g_nilCheck rfl) ?_
              refine qq hS (g_ldO1 0 Tryz.isAgg3 rfl rfl rfl) ?_
              refine qq hS (g_gtr rfl rfl) ?_
              refine ol_nil (thenN ?_)
              refine cond_s rfl ?_ ?_
              ·
                intro hc50
                try simp only [Bool.and_eq_true, Bool.or_eq_true, Bool.not_eq_true', Bool.and_eq_false_imp, Bool.or_eq_false_iff, Bool.not_eq_false', decide_eq_true_eq, decide_eq_false_iff_not] at hc50
                have e : decI wd at_ = dataI wd := decI_bad hop (bad_t (k := 1) (by omega) hc50)
                refine wpIn_seq ?_
                refine reg ?_
                refine qq hS (g_movev (v := .int .u32 _) rfl) ?_
                refine qq hS (g_convi Tryz.underlying93 Tryz.underlying3 rfl (by omega) (by omega)) ?_
                refine qq hS (g_buildv (pl := [(0, 1), (1, 1), (2, 1), (3, 1), (4, 1)]) (cs := [.int .i64 _, .int .i64 _, .int .i64 _, .int .i64 _, .int .i64 _]) Tryz.zeroValue97 Tryz.underlying97 (fun w => by simp [Tryz.sizeOf3]) (mp (v := .int .i64 _) rfl mp0) rfl) ?_
                refine qe (d_store 2 hS Tryz.sizeOf97 rfl rfl rfl (vs := [.int .i64 _, .int .i64 _, .int .i64 _, .int .i64 _, .int .i64 _]) rfl rfl rfl (Nat.le_of_ble_eq_true rfl)  rfl) ?_
                clear hS
                rintro _ w_14 ⟨rfl, hS⟩
                refine ol_nil (thenN ?_)
                refine wpIn_ret ?_
                refine blkR (thenR (thenR (blkR (thenR ?_))))
                refine ret1 Tryz.results115 (rv_cel 2 hS Tryz.sizeOf97 Tryz.isAgg97 rfl rfl rfl) ?_
                exact ⟨by rw [e]; rfl, hS.nil⟩
              ·
                intro hc50
                try simp only [Bool.and_eq_true, Bool.or_eq_true, Bool.not_eq_true', Bool.and_eq_false_imp, Bool.or_eq_false_iff, Bool.not_eq_false', decide_eq_true_eq, decide_eq_false_iff_not] at hc50
                have hg2 : ∀ j, j < 1 + 1 → octP wd (j + 1) ≤ 15 := fun j hj => by
                  rcases Nat.lt_succ_iff_lt_or_eq.1 hj with h | h
                  · exact hgood j h
                  · subst h; exact Int.not_lt.1 hc50
                refine wpIn_skip ?_
                refine blkN (thenN ?_)
                refine reg ?_
                refine qq hS (g_add rfl rfl (by omega) (by omega)) ?_
                refine qq hS (g_movev (v := .int .i64 _) rfl) ?_
                refine ol_nil (thenN ?_)
                exact ⟨2, _, rfl, ⟨⟨rfl, rfl, rfl, rfl, rfl, rfl, rfl, rfl, trivial⟩, hS.sel [true, true, true], by omega, hg2⟩, by omega⟩
          ·
            subst hi
            refine reg ?_
            refine qq hS (g_movev (v := .int .i64 _) rfl) ?_
            refine qq hS (g_indexAgg (v := .pointer (some ⟨b8, 3, none⟩)) Tryz.underlying243 Tryz.sizeOf242 Tryz.isAgg242 rfl rfl (by decide) (by decide) rfl) ?_
            refine qq hS (g_assignv (v := .int .i64 _) rfl) ?_
            refine qq hS (g_assign _) ?_
            refine ol_nil (thenN ?_)
            refine wpIn_seq ?_
            refine wpIn_seq ?_
            refine reg ?_
            refine qq hS (g_movev (v := .int .i64 _) rfl) ?_
            refine qq hS (g_fieldAddr (o' := 1) Tryz.underlying211 rfl Tryz.sizeOf3 rfl rfl rfl) ?_
            refine qq hS (g_ldO1 1 Tryz.isAgg3 rfl rfl rfl) ?_
            refine qq hS (g_geq rfl rfl) ?_
            refine ol_nil (thenN ?_)
            refine cond_s rfl ?_ ?_
            ·
              intro hc40
              try simp only [Bool.and_eq_true, Bool.or_eq_true, Bool.not_eq_true', Bool.and_eq_false_imp, Bool.or_eq_false_iff, Bool.not_eq_false', decide_eq_true_eq, decide_eq_false_iff_not] at hc40
              have hkr : ((2 : Nat) : Int) = regsP (octP wd 0) := by omega
              refine wpIn_exit ?_
              refine thenE (blkO rfl (thenE (thenE (blkE ?_))))
              refine thenN ?_
              exact ⟨_, rfl, _, ⟨rfl, rfl, rfl, rfl, rfl, trivial⟩, hS.sel [true, true, true], hkr, hgood⟩
            ·
              intro hc40
              try simp only [Bool.and_eq_true, Bool.or_eq_true, Bool.not_eq_true', Bool.and_eq_false_imp, Bool.or_eq_false_iff, Bool.not_eq_false', decide_eq_true_eq, decide_eq_false_iff_not] at hc40
              refine wpIn_skip ?_
              refine thenN ?_
              refine wpIn_seq ?_
              refine reg ?_
              refine qq hS (g_move _) ?_
              refine qq hS (g_move _) ?_
              refine qq hS (g_movev (v := .int .i64 _) rfl) ?_
              refine qq hS (g_add rfl rfl (by omega) (by omega)) ?_
              refine qe (d_callb Tryz.call122 rfl rfl (octet_c wd 3 _ I0 hS.imm hw0 hw1 (by decide))) ?_
              rintro _ w_15 ⟨rfl, hE⟩
              replace hS := hS.callE hE
              refine qq hS (g_nilCheck rfl) ?_
              refine qe (d_store 0 hS Tryz.sizeOf3 rfl rfl rfl (vs := [.int .i64 _]) rfl rfl rfl (Nat.le_of_ble_eq_true rfl)  rfl) ?_
              clear hS
              rintro _ w_16 ⟨rfl, hS⟩
              refine ol_nil (thenN ?_)
              refine wpIn_seq ?_
              refine reg ?_
              refine qq hS (g_move _) ?_
              refine qq hS (g_nilCheck rfl) ?_
              refine qq hS (g_ldO1 0 Tryz.isAgg3 rfl rfl rfl) ?_
              refine qq hS (g_gtr rfl rfl) ?_
              refine ol_nil (thenN ?_)
              refine cond_s rfl ?_ ?_
              ·
                intro hc50
                try simp only [Bool.and_eq_true, Bool.or_eq_true, Bool.not_eq_true', Bool.and_eq_false_imp, Bool.or_eq_false_iff, Bool.not_eq_false', decide_eq_true_eq, decide_eq_false_iff_not] at hc50
                have e : decI wd at_ = dataI wd := decI_bad hop (bad_t (k := 2) (by omega) hc50)
                refine wpIn_seq ?_
                refine reg ?_
                refine qq hS (g_movev (v := .int .u32 _) rfl) ?_
                refine qq hS (g_convi Tryz.underlying93 Tryz.underlying3 rfl (by omega) (by omega)) ?_
                refine qq hS (g_buildv (pl := [(0, 1), (1, 1), (2, 1), (3, 1), (4, 1)]) (cs := [.int .i64 _, .int .i64 _, .int .i64 _, .int .i64 _, .int .i64 _]) Tryz.zeroValue97 Tryz.underlying97 (fun w => by simp [Tryz.sizeOf3]) (mp (v := .int .i64 _) rfl mp0) rfl) ?_
                refine qe (d_store 2 hS Tryz.sizeOf97 rfl rfl rfl (vs := [.int .i64 _, .int .i64 _, .int .i64 _, .int .i64 _, .int .i64 _]) rfl rfl rfl (Nat.le_of_ble_eq_true rfl)  rfl) ?_
                clear hS
                rintro _ w_17 ⟨rfl, hS⟩
                refine ol_nil (thenN ?_)
                refine wpIn_ret ?_
                refine blkR (thenR (thenR (blkR (thenR ?_))))
                refine ret1 Tryz.results115 (rv_cel 2 hS Tryz.sizeOf97 Tryz.isAgg97 rfl rfl rfl) ?_
                exact ⟨by rw [e]; rfl, hS.nil⟩
              ·
                intro hc50
                try simp only [Bool.and_eq_true, Bool.or_eq_true, Bool.not_eq_true', Bool.and_eq_false_imp, Bool.or_eq_false_iff, Bool.not_eq_false', decide_eq_true_eq, decide_eq_false_iff_not] at hc50
                have hg2 : ∀ j, j < 2 + 1 → octP wd (j + 1) ≤ 15 := fun j hj => by
                  rcases Nat.lt_succ_iff_lt_or_eq.1 hj with h | h
                  · exact hgood j h
                  · subst h; exact Int.not_lt.1 hc50
                refine wpIn_skip ?_
                refine blkN (thenN ?_)
                refine reg ?_
                refine qq hS (g_add rfl rfl (by omega) (by omega)) ?_
                refine qq hS (g_movev (v := .int .i64 _) rfl) ?_
                refine ol_nil (thenN ?_)
                exact ⟨3, _, rfl, ⟨⟨rfl, rfl, rfl, rfl, rfl, rfl, rfl, rfl, trivial⟩, hS.sel [true, true, true], by omega, hg2⟩, by omega⟩
        ·
          intro hc34
          try simp only [Bool.and_eq_true, Bool.or_eq_true, Bool.not_eq_true', Bool.and_eq_false_imp, Bool.or_eq_false_iff, Bool.not_eq_false', decide_eq_true_eq, decide_eq_false_iff_not] at hc34
          have hkr : (k : Int) = regsP (octP wd 0) := by omega
          refine wpIn_exit ?_
          refine thenE (thenE (blkE ?_))
          refine thenN ?_
          exact ⟨_, rfl, _, ⟨rfl, rfl, rfl, rfl, rfl, trivial⟩, hS.sel [true, true, true], hkr, hgood⟩
    ·
      rintro σ w_j ⟨k, hs, hS, hkr, hgood⟩
      rw [← upds_self hs]
      refine wpIn_seq ?_
      refine wpIn_seq ?_
      refine reg ?_
      refine qq hS (g_fieldAddr (o' := 2) Tryz.underlying211 rfl Tryz.sizeOf3 rfl rfl rfl) ?_
      refine qq hS (g_ldO1 1 Tryz.isAgg3 rfl rfl rfl) ?_
      refine qq hS (g_gtr rfl rfl) ?_
      refine ol_nil (thenN ?_)
      refine cond_s rfl ?_ ?_
      ·
        intro hc57
        try simp only [Bool.and_eq_true, Bool.or_eq_true, Bool.not_eq_true', Bool.and_eq_false_imp, Bool.or_eq_false_iff, Bool.not_eq_false', decide_eq_true_eq, decide_eq_false_iff_not] at hc57
        refine reg ?_
        refine qq hS (g_movev (v := .int .u32 _) rfl) ?_
        refine qq hS (g_fieldAddr (o' := 2) Tryz.underlying211 rfl Tryz.sizeOf3 rfl rfl rfl) ?_
        refine qq hS (g_ldO1 1 Tryz.isAgg3 rfl rfl rfl) ?_
        refine qq hS (g_fieldAddr (o' := 3) Tryz.underlying211 rfl Tryz.sizeOf4 rfl rfl rfl) ?_
        refine qq hS (g_ldO1 1 Tryz.isAgg4 rfl rfl rfl) ?_
        refine qe (d_call Tryz.call137 rfl (low_c wd (octP wd 0) _ I0 hS.imm hw0 hw1 hc57)) ?_
        rintro _ w_18 ⟨rfl, hE⟩
        replace hS := hS.callE hE
        refine qq hS (g_fieldAddr (o' := 4) Tryz.underlying97 rfl Tryz.sizeOf3 rfl rfl rfl) ?_
        refine qe (d_store 0 hS Tryz.sizeOf3 rfl rfl rfl (vs := [.int .i64 _]) rfl rfl rfl (Nat.le_of_ble_eq_true rfl)  rfl) ?_
        clear hS
        rintro _ w_19 ⟨rfl, hS⟩
        refine ol_nil (thenN ?_)
        refine wpIn_seq ?_
        refine wpIn_seq ?_
        refine reg ?_
        refine qq hS (g_fieldAddr (o' := 4) Tryz.underlying211 rfl Tryz.sizeOf4 rfl rfl rfl) ?_
        refine qq hS (g_ldO1 1 Tryz.isAgg4 rfl rfl rfl) ?_
        refine ol_nil (thenN ?_)
        refine cond_s rfl ?_ ?_
        ·
          intro hc66
          try simp only [Bool.and_eq_true, Bool.or_eq_true, Bool.not_eq_true', Bool.and_eq_false_imp, Bool.or_eq_false_iff, Bool.not_eq_false', decide_eq_true_eq, decide_eq_false_iff_not] at hc66
          refine reg ?_
          refine qq hS (g_movev (v := .int .i64 _) rfl) ?_
          refine qq hS (g_fieldAddr (o' := 4) Tryz.underlying97 rfl Tryz.sizeOf3 rfl rfl rfl) ?_
          refine qq hS (g_ldO1 0 Tryz.isAgg3 rfl rfl rfl) ?_
          refine qq hS (g_mul rfl rfl (by omega) (by omega)) ?_
          refine qq hS (g_add rfl rfl (by omega) (by omega)) ?_
          refine qq hS (g_fieldAddr (o' := 4) Tryz.underlying97 rfl Tryz.sizeOf3 rfl rfl rfl) ?_
          refine qe (d_store 0 hS Tryz.sizeOf3 rfl rfl rfl (vs := [.int .i64 _]) rfl rfl rfl (Nat.le_of_ble_eq_true rfl)  rfl) ?_
          clear hS
          rintro _ w_20 ⟨rfl, hS⟩
          refine ol_nil (thenN ?_)
          refine wpIn_seq ?_
          refine reg ?_
          refine qq hS (g_ldO 0 (vs := [.int .i64 _, .int .i64 _, .int .i64 _, .int .i64 _, .int .i64 _]) Tryz.sizeOf97 Tryz.isAgg97 rfl rfl rfl rfl) ?_
          refine qe (d_store 2 hS Tryz.sizeOf97 rfl rfl rfl (vs := [.int .i64 _, .int .i64 _, .int .i64 _, .int .i64 _, .int .i64 _]) rfl rfl rfl (Nat.le_of_ble_eq_true rfl)  rfl) ?_
          clear hS
          rintro _ w_21 ⟨rfl, hS⟩
          refine ol_nil (thenN ?_)
          refine wpIn_ret ?_
          refine ret1 Tryz.results115 (rv_cel 2 hS Tryz.sizeOf97 Tryz.isAgg97 rfl rfl rfl) ?_
          have hd := decI_good (at_ := at_) hop hkr (bad_f hkr hgood)
          rw [if_pos hc66] at hd
          exact ⟨by rw [hd]; rfl, hS.nil⟩
        ·
          intro hc66
          try simp only [Bool.and_eq_true, Bool.or_eq_true, Bool.not_eq_true', Bool.and_eq_false_imp, Bool.or_eq_false_iff, Bool.not_eq_false', decide_eq_true_eq, decide_eq_false_iff_not] at hc66
          refine wpIn_skip ?_
          refine thenN ?_
          refine wpIn_seq ?_
          refine reg ?_
          refine qq hS (g_ldO 0 (vs := [.int .i64 _, .int .i64 _, .int .i64 _, .int .i64 _, .int .i64 _]) Tryz.sizeOf97 Tryz.isAgg97 rfl rfl rfl rfl) ?_
          refine qe (d_store 2 hS Tryz.sizeOf97 rfl rfl rfl (vs := [.int .i64 _, .int .i64 _, .int .i64 _, .int .i64 _, .int .i64 _]) rfl rfl rfl (Nat.le_of_ble_eq_true rfl)  rfl) ?_
          clear hS
          rintro _ w_22 ⟨rfl, hS⟩
          refine ol_nil (thenN ?_)
          refine wpIn_ret ?_
          refine ret1 Tryz.results115 (rv_cel 2 hS Tryz.sizeOf97 Tryz.isAgg97 rfl rfl rfl) ?_
          have hd := decI_good (at_ := at_) hop hkr (bad_f hkr hgood)
          rw [if_neg (by rw [hc66]; decide)] at hd
          exact ⟨by rw [hd]; rfl, hS.nil⟩
      ·
        intro hc57
        try simp only [Bool.and_eq_true, Bool.or_eq_true, Bool.not_eq_true', Bool.and_eq_false_imp, Bool.or_eq_false_iff, Bool.not_eq_false', decide_eq_true_eq, decide_eq_false_iff_not] at hc57
        refine wpIn_skip ?_
        refine thenN ?_
        refine wpIn_seq ?_
        refine wpIn_seq ?_
        refine reg ?_
        refine qq hS (g_fieldAddr (o' := 4) Tryz.underlying211 rfl Tryz.sizeOf4 rfl rfl rfl) ?_
        refine qq hS (g_ldO1 1 Tryz.isAgg4 rfl rfl rfl) ?_
        refine ol_nil (thenN ?_)
        refine cond_s rfl ?_ ?_
        ·
          intro hc66
          try simp only [Bool.and_eq_true, Bool.or_eq_true, Bool.not_eq_true', Bool.and_eq_false_imp, Bool.or_eq_false_iff, Bool.not_eq_false', decide_eq_true_eq, decide_eq_false_iff_not] at hc66
          refine reg ?_
          refine qq hS (g_movev (v := .int .i64 _) rfl) ?_
          refine qq hS (g_fieldAddr (o' := 4) Tryz.underlying97 rfl Tryz.sizeOf3 rfl rfl rfl) ?_
          refine qq hS (g_ldO1 0 Tryz.isAgg3 rfl rfl rfl) ?_
          refine qq hS (g_mul rfl rfl (by omega) (by omega)) ?_
          refine qq hS (g_add rfl rfl (by omega) (by omega)) ?_
          refine qq hS (g_fieldAddr (o' := 4) Tryz.underlying97 rfl Tryz.sizeOf3 rfl rfl rfl) ?_
          refine qe (d_store 0 hS Tryz.sizeOf3 rfl rfl rfl (vs := [.int .i64 _]) rfl rfl rfl (Nat.le_of_ble_eq_true rfl)  rfl) ?_
          clear hS
          rintro _ w_23 ⟨rfl, hS⟩
          refine ol_nil (thenN ?_)
          refine wpIn_seq ?_
          refine reg ?_
          refine qq hS (g_ldO 0 (vs := [.int .i64 _, .int .i64 _, .int .i64 _, .int .i64 _, .int .i64 _]) Tryz.sizeOf97 Tryz.isAgg97 rfl rfl rfl rfl) ?_
          refine qe (d_store 2 hS Tryz.sizeOf97 rfl rfl rfl (vs := [.int .i64 _, .int .i64 _, .int .i64 _, .int .i64 _, .int .i64 _]) rfl rfl rfl (Nat.le_of_ble_eq_true rfl)  rfl) ?_
          clear hS
          rintro _ w_24 ⟨rfl, hS⟩
          refine ol_nil (thenN ?_)
          refine wpIn_ret ?_
          refine ret1 Tryz.results115 (rv_cel 2 hS Tryz.sizeOf97 Tryz.isAgg97 rfl rfl rfl) ?_
          have hd := decI_good (at_ := at_) hop hkr (bad_f hkr hgood)
          rw [if_pos hc66, lowI_0 hc57] at hd
          exact ⟨by rw [hd]; rfl, hS.nil⟩
        ·
          intro hc66
          try simp only [Bool.and_eq_true, Bool.or_eq_true, Bool.not_eq_true', Bool.and_eq_false_imp, Bool.or_eq_false_iff, Bool.not_eq_false', decide_eq_true_eq, decide_eq_false_iff_not] at hc66
          refine wpIn_skip ?_
          refine thenN ?_
          refine wpIn_seq ?_
          refine reg ?_
          refine qq hS (g_ldO 0 (vs := [.int .i64 _, .int .i64 _, .int .i64 _, .int .i64 _, .int .i64 _]) Tryz.sizeOf97 Tryz.isAgg97 rfl rfl rfl rfl) ?_
          refine qe (d_store 2 hS Tryz.sizeOf97 rfl rfl rfl (vs := [.int .i64 _, .int .i64 _, .int .i64 _, .int .i64 _, .int .i64 _]) rfl rfl rfl (Nat.le_of_ble_eq_true rfl)  rfl) ?_
          clear hS
          rintro _ w_25 ⟨rfl, hS⟩
          refine ol_nil (thenN ?_)
          refine wpIn_ret ?_
          refine ret1 Tryz.results115 (rv_cel 2 hS Tryz.sizeOf97 Tryz.isAgg97 rfl rfl rfl) ?_
          have hd := decI_good (at_ := at_) hop hkr (bad_f hkr hgood)
          rw [if_neg (by rw [hc66]; decide), lowI_0 hc57] at hd
          exact ⟨by rw [hd]; rfl, hS.nil⟩

end Go.Proofs.YtaklmbhfmpdinaaGreatDoor


namespace Go.Proofs.YtaklmbhfmpdinaaGreatDoor
open Go Go.RowKit Go.Inl
set_option linter.unusedSimpArgs false
set_option linter.unusedVariables false
def encV : Option Int → Value
  | some x => .tuple #[.int .u32 x, .int .i64 0]
  | none => .tuple #[.int .u32 0, .int .i64 20]
def maskP (op : Int) : Int := if bitsP op = 24 then 16777216 else if bitsP op = 16 then 65536 else 1
theorem maskP_pow {op : Int} : (2 : Int) ^ (bitsP op).toNat = maskP op ∧ (bitsP op = ((bitsP op).toNat : Int)) ∧ (bitsP op).toNat ≤ 24 ∧ 1 ≤ maskP op ∧ maskP op ≤ 16777216 := by
  unfold maskP bitsP
  split
  · decide
  · split <;> decide
theorem maskP_regs {op : Int} (h : 0 < regsP op) : maskP op ≤ 65536 ∧ (1 < regsP op → maskP op = 1) := by
  unfold regsP at h
  split at h
  · rename_i h1
    rcases h1 with rfl | rfl | rfl <;> decide
  · split at h
    · rename_i h1
      rcases h1 with rfl | rfl | rfl <;> decide
    · omega
/-- The word, once the loop over the registers has come by. -/
def accV (x : InstL) (base : Int) : Nat → Int
  | 0 => base
  | 1 => base + (if 0 < regsP x.op then x.a % 256 * 65536 else 0)
  | 2 => base + (if 0 < regsP x.op then x.a % 256 * 65536 else 0) + (if 1 < regsP x.op then x.b % 256 * 256 else 0)
  | _ => base + (if 0 < regsP x.op then x.a % 256 * 65536 else 0) + (if 1 < regsP x.op then x.b % 256 * 256 else 0) + (if 2 < regsP x.op then x.c % 256 else 0)
def baseP (x : InstL) (mm : Int) : Int := if x.op = 0 then mm % 4294967296 else x.op * 16777216 + mm % maskP x.op
theorem accV_1 (x : InstL) (b : Int) : accV x b 1 = b + (if 0 < regsP x.op then x.a % 256 * 65536 else 0) := rfl
theorem accV_2 (x : InstL) (b : Int) : accV x b 2 = b + (if 0 < regsP x.op then x.a % 256 * 65536 else 0) + (if 1 < regsP x.op then x.b % 256 * 256 else 0) := rfl
theorem accV_enc {x : InstL} {at_ mm : Int} (h : mm = if targP x.op = true then (x.n - at_) / 4 else x.n) : accV x (baseP x mm) 3 = encW x at_ := by
  unfold encW accV baseP
  by_cases h0 : x.op = 0
  · rw [if_pos h0, if_pos h0, h, h0]
    simp [targP, regsP]
  · rw [if_neg h0, if_neg h0, ← h]
    rfl
theorem accV_b {x : InstL} (h : 0 ≤ x.op ∧ x.op ≤ 8) (mm : Int) (k : Nat) (hk : k ≤ 3) : 0 ≤ accV x (baseP x mm) k ∧ accV x (baseP x mm) k < 4294967296 := by
  obtain ⟨h0, h1⟩ := h
  have e : x.op = 0 ∨ x.op = 1 ∨ x.op = 2 ∨ x.op = 3 ∨ x.op = 4 ∨ x.op = 5 ∨ x.op = 6 ∨ x.op = 7 ∨ x.op = 8 := by omega
  have ek : k = 0 ∨ k = 1 ∨ k = 2 ∨ k = 3 := by omega
  rcases ek with ek | ek | ek | ek <;> subst ek <;> (rcases e with e | e | e | e | e | e | e | e | e) <;> simp [accV, baseP, e, regsP, maskP, bitsP] <;> omega
theorem encI_none {x : InstL} {at_ : Int} (h : x.op < 0 ∨ 8 < x.op) : encI x at_ = none := by unfold encI; rw [if_neg (fun h' => by omega)]
theorem encI_ne {x : InstL} {at_ : Int} (h : instEq (decI (encW x at_) at_) x = false) : encI x at_ = none := by unfold encI; rw [if_neg (fun h' => by rw [h'.2] at h; cases h)]
theorem encI_eq {x : InstL} {at_ : Int} (h0 : 0 ≤ x.op ∧ x.op ≤ 8) (h : instEq (decI (encW x at_) at_) x = true) : encI x at_ = some (encW x at_) := by unfold encI; rw [if_pos ⟨h0, h⟩]

set_option maxHeartbeats 1000000 in
theorem encode_c (x : InstL) (at_ : Int) (w0 : World) (I0 : Imm) (hI : Sat I0 w0) (hx0 : -1099511627776 ≤ x.n) (hx1 : x.n ≤ 1099511627776) (ha0 : -1099511627776 ≤ at_) (ha1 : at_ ≤ 1099511627776) :
    Ctr Tryz.prog 84 [instV x, .int .i64 at_] w0 (fun v w' => v = encV (encI x at_) ∧ Ext w0 I0 w' I0) := by
  refine fn (n := 79) Tryz.func84 rfl rfl rfl ?_
  have hS := St.start hI
  refine wpIn_seq ?_
  refine reg ?_
  refine qe (d_box (cs := [.int .i64 _, .int .i64 _, .int .i64 _, .int .i64 _, .int .i64 _]) hS rfl) ?_
  clear hS
  rintro _ w_1 ⟨b2, rfl, hS⟩
  refine qq hS (g_assignv (v := .int .u32 _) rfl) ?_
  refine qq hS (g_assignv (v := .int .i64 _) rfl) ?_
  refine ol_nil (thenN ?_)
  refine wpIn_seq ?_
  refine wpIn_seq ?_
  refine reg ?_
  refine qq hS (g_fieldAddr (o' := 0) Tryz.underlying97 rfl Tryz.sizeOf3 rfl rfl rfl) ?_
  refine qq hS (g_ldO1 0 Tryz.isAgg3 rfl rfl rfl) ?_
  refine qq hS (g_lss rfl rfl) ?_
  refine qq hS (g_movev (v := .bool _) rfl) ?_
  refine qu rfl rfl hS (fun hg => (g_fieldAddr (o' := 0) Tryz.underlying97 rfl Tryz.sizeOf3 rfl rfl rfl)) ?_
  intro u15 hu15 hn15
  refine qu rfl rfl hS (fun hg => (g_ldO1 0 Tryz.isAgg3 rfl (hu15 hg) rfl)) ?_
  intro u16 hu16 hn16
  refine qu rfl rfl hS (fun hg => (g_gtr (hu16 hg) rfl)) ?_
  intro u17 hu17 hn17
  refine qq hS (g_or rfl rfl (fun hq => hu17 hq)) ?_
  refine ol_nil (thenN ?_)
  refine cond_s rfl ?_ ?_
  ·
    intro hc18
    clear hu15 hn15 hu16 hn16 hu17 hn17
    try simp only [Bool.and_eq_true, Bool.or_eq_true, Bool.not_eq_true', Bool.and_eq_false_imp, Bool.or_eq_false_iff, Bool.not_eq_false', decide_eq_true_eq, decide_eq_false_iff_not] at hc18
    have e : encI x at_ = none := encI_none hc18
    refine wpIn_seq ?_
    refine reg ?_
    refine qq hS (g_assignv (v := .int .u32 _) rfl) ?_
    refine qq hS (g_assignv (v := .int .i64 _) rfl) ?_
    refine ol_nil (thenN ?_)
    refine wpIn_ret ?_
    refine thenR ?_
    refine ret2 Tryz.results84 (rv_tmp (v := .int .u32 _) rfl) (rv_tmp (v := .int .i64 _) rfl) ?_
    exact ⟨by rw [e]; rfl, hS.nil⟩
  ·
    intro hc18
    clear hu15 hn15 hu16 hn16 hu17 hn17
    try simp only [Bool.and_eq_true, Bool.or_eq_true, Bool.not_eq_true', Bool.and_eq_false_imp, Bool.or_eq_false_iff, Bool.not_eq_false', decide_eq_true_eq, decide_eq_false_iff_not] at hc18
    have hopb : 0 ≤ x.op ∧ x.op ≤ 8 := by omega
    obtain ⟨pre, post, s, hkl, hpre⟩ := kindL_at hopb.1 hopb.2
    have hmk := maskP_pow (op := x.op)
    refine wpIn_skip ?_
    refine thenN ?_
    refine wpIn_seq ?_
    refine draw (.cons 1 .pure (.cons 2 .held (.fork 0 (.cons 3 .pure (.cons 4 .eff (.cons 5 .bar .nil))) 4 (.cons 0 .eff (.cons 3 .pure (.cons 5 .bar .nil)))))) mixed (by kernel_rfl) hS ?_
    intro w_2 hS
    refine sp rfl (g_fieldAddr (o' := 0) Tryz.underlying97 rfl Tryz.sizeOf3 rfl rfl rfl) ?_
    refine sh rfl (g_ldO1 0 Tryz.isAgg3 rfl rfl rfl) ?_
    refine sk ?_ ?_
    ·
      have hS0 := hS
      refine se rfl (d_call Tryz.call123 rfl (kinds_c _ I0 hS.imm)) ?_
      rintro _ w_3 ⟨rfl, hE⟩
      replace hS := hS.call hE
      refine ⟨_, _, hS0.le hE.ext (List.Sublist.refl _), hS, ?_⟩
      refine sp rfl (g_indexAggA (pre := pre) (post := post) (cs := [.string s, .int .i64 (regsP x.op), .int .i64 (bitsP x.op), .bool (signP x.op), .bool (targP x.op)]) Tryz.underlying212 Tryz.sizeOf211 Tryz.isAgg211 (congrArg (fun l : List Value => Value.agg l.toArray) hkl) rfl (by omega) (by omega) hpre rfl) ?_
      have hS0 := hS
      refine se rfl (d_alloc (cs := [.string _, .int .i64 _, .int .i64 _, .bool _, .bool _]) hS Tryz.zeroValue211 rfl) ?_
      rintro _ w_4 ⟨b6, rfl, hS⟩
      refine ⟨_, _, hS0.le (Sub.refl _) (List.sublist_cons_self _ _), hS, ?_⟩
      refine sb rfl (d_store 0 hS Tryz.sizeOf211 rfl rfl rfl (vs := [.string _, .int .i64 _, .int .i64 _, .bool _, .bool _]) rfl rfl rfl (Nat.le_of_ble_eq_true rfl) (cs' := [_, _, _, _, _]) rfl) ?_
      rintro _ w_5 ⟨rfl, hS⟩
      refine ⟨_, _, hS, ?_⟩
      refine sn (thenN ?_)
      refine wpIn_seq ?_
      refine reg ?_
      refine qq hS (g_fieldAddr (o' := 4) Tryz.underlying97 rfl Tryz.sizeOf3 rfl rfl rfl) ?_
      refine qq hS (g_ldO1 1 Tryz.isAgg3 rfl rfl rfl) ?_
      refine qq hS (g_assignv (v := .int .i64 _) rfl) ?_
      refine ol_nil (thenN ?_)
      refine meet (fun σ w => ∃ mm : Int, okS σ [(1, .int .i64 at_), (2, .pointer (some ⟨b2, 0, none⟩)), (6, .pointer (some ⟨b6, 0, none⟩)), (7, .int .i64 mm)] ∧ St [] w0 I0 I0 w [.cel b6 211 [.string s, .int .i64 (regsP x.op), .int .i64 (bitsP x.op), .bool (signP x.op), .bool (targP x.op)], .cel b2 97 [.int .i64 x.op, .int .i64 x.a, .int .i64 x.b, .int .i64 x.c, .int .i64 x.n]] ∧ mm = (if targP x.op = true then (x.n - at_) / 4 else x.n) ∧ -4611686018427387904 ≤ mm ∧ mm ≤ 4611686018427387904) ?_ ?_
      ·
        refine wpIn_seq ?_
        refine reg ?_
        refine qq hS (g_fieldAddr (o' := 4) Tryz.underlying211 rfl Tryz.sizeOf4 rfl rfl rfl) ?_
        refine qq hS (g_ldO1 0 Tryz.isAgg4 rfl rfl rfl) ?_
        refine ol_nil (thenN ?_)
        refine cond_s rfl ?_ ?_
        ·
          intro hc26
          try simp only [Bool.and_eq_true, Bool.or_eq_true, Bool.not_eq_true', Bool.and_eq_false_imp, Bool.or_eq_false_iff, Bool.not_eq_false', decide_eq_true_eq, decide_eq_false_iff_not] at hc26
          have e26 : (x.n - at_) / 4 = if targP x.op = true then (x.n - at_) / 4 else x.n := by rw [if_pos hc26]
          refine reg ?_
          refine qq hS (g_movev (v := .int .i64 _) rfl) ?_
          refine qq hS (g_movev (v := .int .i64 _) rfl) ?_
          refine qq hS (g_sub rfl rfl (by omega) (by omega)) ?_
          refine qq hS (g_shrV (s := 2) (c := (x.n - at_) / 4) rfl rfl rfl rfl rfl) ?_
          refine qq hS (g_assignv (v := .int .i64 _) rfl) ?_
          refine ol_nil (thenN ?_)
          exact ⟨_, rfl, _, ⟨rfl, rfl, rfl, rfl, trivial⟩, hS, e26, by omega, by omega⟩
        ·
          intro hc26
          try simp only [Bool.and_eq_true, Bool.or_eq_true, Bool.not_eq_true', Bool.and_eq_false_imp, Bool.or_eq_false_iff, Bool.not_eq_false', decide_eq_true_eq, decide_eq_false_iff_not] at hc26
          have e26 : x.n = if targP x.op = true then (x.n - at_) / 4 else x.n := by rw [if_neg (by rw [hc26]; decide)]
          refine wpIn_skip ?_
          refine thenN ?_
          exact ⟨_, rfl, _, ⟨rfl, rfl, rfl, rfl, trivial⟩, hS, e26, by omega, by omega⟩
      ·
        rintro σ w_j ⟨mm, hs, hS, hmm, hmb0, hmb1⟩
        rw [← upds_self hs]
        refine wpIn_seq ?_
        refine reg ?_
        refine qq hS (g_movev (v := .int .i64 _) rfl) ?_
        refine qq hS (g_conv Tryz.underlying3 Tryz.underlying93 rfl) ?_
        refine qq hS (g_assignv (v := .int .u32 _) rfl) ?_
        refine ol_nil (thenN ?_)
        refine meet (fun σ w => okS σ [(1, .int .i64 at_), (2, .pointer (some ⟨b2, 0, none⟩)), (6, .pointer (some ⟨b6, 0, none⟩)), (8, .int .u32 (baseP x mm))] ∧ St [] w0 I0 I0 w [.cel b6 211 [.string s, .int .i64 (regsP x.op), .int .i64 (bitsP x.op), .bool (signP x.op), .bool (targP x.op)], .cel b2 97 [.int .i64 x.op, .int .i64 x.a, .int .i64 x.b, .int .i64 x.c, .int .i64 x.n]]) ?_ ?_
        ·
          refine wpIn_seq ?_
          refine reg ?_
          refine qq hS (g_fieldAddr (o' := 0) Tryz.underlying97 rfl Tryz.sizeOf3 rfl rfl rfl) ?_
          refine qq hS (g_ldO1 1 Tryz.isAgg3 rfl rfl rfl) ?_
          refine qq hS (g_neq rfl rfl) ?_
          refine ol_nil (thenN ?_)
          refine cond_s rfl ?_ ?_
          ·
            intro hc35
            try simp only [Bool.and_eq_true, Bool.or_eq_true, Bool.not_eq_true', Bool.and_eq_false_imp, Bool.or_eq_false_iff, Bool.not_eq_false', decide_eq_true_eq, decide_eq_false_iff_not] at hc35
            have hm0 : 0 ≤ mm % maskP x.op ∧ mm % maskP x.op < maskP x.op := ⟨Int.emod_nonneg _ (by omega), Int.emod_lt_of_pos _ (by omega)⟩
            refine draw (.cons 0 .pure (.cons 1 .held (.cons 2 .pure (.cons 3 .pure (.cons 4 .pure (.cons 5 .pure (.cons 6 .held (.cons 7 .pure (.cons 8 .pure (.cons 9 .pure (.cons 10 .pure (.cons 11 .pure (.cons 12 .pure .nil))))))))))))) mixed (by kernel_rfl) hS ?_
            intro w_6 hS
            refine sp rfl (g_fieldAddr (o' := 0) Tryz.underlying97 rfl Tryz.sizeOf3 rfl rfl rfl) ?_
            refine sh rfl (g_ldO1 1 Tryz.isAgg3 rfl rfl rfl) ?_
            refine sp rfl (g_convK (c := x.op) Tryz.underlying3 Tryz.underlying93 rfl (by rw [IntKind.wrap_u32]; omega)) ?_
            refine sp rfl (g_shlV (s := 24) (c := x.op * 16777216) rfl rfl rfl rfl (by rw [IntKind.wrap_u32]; omega)) ?_
            refine sp rfl (g_movev (v := .int .i64 _) rfl) ?_
            refine sp rfl (g_fieldAddr (o' := 2) Tryz.underlying211 rfl Tryz.sizeOf3 rfl rfl rfl) ?_
            refine sh rfl (g_ldO1 0 Tryz.isAgg3 rfl rfl rfl) ?_
            refine sp rfl (g_shlV (s := (bitsP x.op).toNat) (c := maskP x.op) rfl rfl hmk.2.1 (Nat.ble_eq_true_of_le (Nat.le_trans hmk.2.2.1 (by decide))) (by rw [hmk.1, IntKind.wrap_i64]; omega)) ?_
            refine sp rfl (g_sub rfl rfl (by omega) (by omega)) ?_
            refine sp rfl (g_andM (m := (bitsP x.op).toNat) (c := mm % maskP x.op) rfl rfl (by rw [hmk.1]) (Nat.ble_eq_true_of_le (Nat.le_trans hmk.2.2.1 (by decide))) (by rw [hmk.1, IntKind.wrap_i64]; omega)) ?_
            refine sp rfl (g_convK (c := mm % maskP x.op) Tryz.underlying3 Tryz.underlying93 rfl (by rw [IntKind.wrap_u32]; omega)) ?_
            refine sp rfl (g_orD (m := 24) (c := baseP x mm) rfl rfl (by omega) (Int.lt_of_lt_of_le (show x.op * 16777216 < 4294967296 by omega) (Int.le_refl _)) (by omega) (by omega) (by omega) (Int.lt_of_lt_of_le (show mm % maskP x.op < 4294967296 by omega) (Int.le_refl _)) (by rw [IntKind.wrap_u32]; unfold baseP; rw [if_neg hc35]; omega)) ?_
            refine sp rfl (g_assignv (v := .int .u32 _) rfl) ?_
            refine sn (thenN ?_)
            first | exact ⟨_, rfl, ⟨rfl, rfl, rfl, rfl, trivial⟩, hS⟩ | exact ⟨_, rfl, ⟨rfl, rfl, rfl, congrArg (Value.int .u32) e35, trivial⟩, hS⟩
          ·
            intro hc35
            try simp only [Bool.and_eq_true, Bool.or_eq_true, Bool.not_eq_true', Bool.and_eq_false_imp, Bool.or_eq_false_iff, Bool.not_eq_false', decide_eq_true_eq, decide_eq_false_iff_not] at hc35
            have e35 : IntKind.u32.wrap mm = baseP x mm := by rw [IntKind.wrap_u32]; unfold baseP; rw [if_pos hc35]
            refine wpIn_skip ?_
            refine thenN ?_
            first | exact ⟨_, rfl, ⟨rfl, rfl, rfl, rfl, trivial⟩, hS⟩ | exact ⟨_, rfl, ⟨rfl, rfl, rfl, congrArg (Value.int .u32) e35, trivial⟩, hS⟩
        ·
          rintro σ w_k ⟨hs, hS⟩
          rw [← upds_self hs]
          refine meet (fun σ w => okS σ [(1, .int .i64 at_), (2, .pointer (some ⟨b2, 0, none⟩)), (8, .int .u32 (encW x at_))] ∧ St [] w0 I0 I0 w [.cel b2 97 [.int .i64 x.op, .int .i64 x.a, .int .i64 x.b, .int .i64 x.c, .int .i64 x.n]]) ?_ ?_
          ·
            refine wpIn_seq ?_
            refine reg ?_
            refine qq hS (g_fieldAddr (o' := 1) Tryz.underlying97 rfl Tryz.sizeOf3 rfl rfl rfl) ?_
            refine qq hS (g_ldO1 1 Tryz.isAgg3 rfl rfl rfl) ?_
            refine qq hS (g_fieldAddr (o' := 2) Tryz.underlying97 rfl Tryz.sizeOf3 rfl rfl rfl) ?_
            refine qq hS (g_ldO1 1 Tryz.isAgg3 rfl rfl rfl) ?_
            refine qq hS (g_fieldAddr (o' := 3) Tryz.underlying97 rfl Tryz.sizeOf3 rfl rfl rfl) ?_
            refine qq hS (g_ldO1 1 Tryz.isAgg3 rfl rfl rfl) ?_
            refine qq hS (g_buildArr (cs := [.int .i64 x.a, .int .i64 x.b, .int .i64 x.c]) Tryz.zeroValue214 Tryz.underlying214 Tryz.sizeOf3 rfl (fill3 _ _ _ _ _ _)) ?_
            refine qq hS (g_movev (v := .int .i64 _) rfl) ?_
            refine ol_nil (thenN ?_)
            refine wpIn_block ?_
            refine loop (fun (k : Nat) σ w => okS σ [(1, .int .i64 at_), (2, .pointer (some ⟨b2, 0, none⟩)), (6, .pointer (some ⟨b6, 0, none⟩)), (8, .int .u32 (accV x (baseP x mm) k)), (54, .agg #[.int .i64 x.a, .int .i64 x.b, .int .i64 x.c]), (55, .int .i64 k)] ∧ St [] w0 I0 I0 w [.cel b6 211 [.string s, .int .i64 (regsP x.op), .int .i64 (bitsP x.op), .bool (signP x.op), .bool (targP x.op)], .cel b2 97 [.int .i64 x.op, .int .i64 x.a, .int .i64 x.b, .int .i64 x.c, .int .i64 x.n]] ∧ k ≤ 3) (fun k => 3 - k) (0) ?_ ?_
            ·
              exact ⟨⟨rfl, rfl, rfl, rfl, rfl, rfl, trivial⟩, hS.sel [true, true], by omega⟩
            ·
              rintro k σ w_l ⟨hs, hS, hk3⟩
              rw [← upds_self hs]; clear hs
              refine wpIn_seq ?_
              refine reg ?_
              refine qq hS (g_lss rfl rfl) ?_
              refine ol_nil (thenN ?_)
              refine wpIn_seq ?_
              refine cond_s rfl ?_ ?_
              ·
                intro hc56
                try simp only [Bool.and_eq_true, Bool.or_eq_true, Bool.not_eq_true', Bool.and_eq_false_imp, Bool.or_eq_false_iff, Bool.not_eq_false', decide_eq_true_eq, decide_eq_false_iff_not] at hc56
                refine wpIn_skip ?_
                refine thenN ?_
                refine wpIn_seq ?_
                refine wpIn_block ?_
                refine wpIn_seq ?_
                have hi3 : k = 0 ∨ k = 1 ∨ k = 2 := by omega
                refine hi3.elim (fun hi => ?_) (fun h => h.elim (fun hi => ?_) (fun hi => ?_))
                ·
                  subst hi
                  refine reg ?_
                  refine qq hS (g_movev (v := .int .i64 _) rfl) ?_
                  refine qq hS (g_indexAgg (v := .int .i64 x.a) Tryz.underlying214 Tryz.sizeOf3 Tryz.isAgg3 rfl rfl (by decide) (by decide) rfl) ?_
                  refine qq hS (g_assignv (v := .int .i64 _) rfl) ?_
                  refine qq hS (g_assignv (v := .int .i64 _) rfl) ?_
                  refine ol_nil (thenN ?_)
                  refine wpIn_seq ?_
                  refine reg ?_
                  refine qq hS (g_movev (v := .int .i64 _) rfl) ?_
                  refine qq hS (g_fieldAddr (o' := 1) Tryz.underlying211 rfl Tryz.sizeOf3 rfl rfl rfl) ?_
                  refine qq hS (g_ldO1 0 Tryz.isAgg3 rfl rfl rfl) ?_
                  refine qq hS (g_lss rfl rfl) ?_
                  refine ol_nil (thenN ?_)
                  refine cond_s rfl ?_ ?_
                  ·
                    intro hc62
                    try simp only [Bool.and_eq_true, Bool.or_eq_true, Bool.not_eq_true', Bool.and_eq_false_imp, Bool.or_eq_false_iff, Bool.not_eq_false', decide_eq_true_eq, decide_eq_false_iff_not] at hc62
                    have hr0 : 0 < regsP x.op := by omega
                    have hop0 : ¬ x.op = 0 := fun h => by rw [h] at hr0; exact absurd hr0 (by decide)
                    have hmr := maskP_regs hr0
                    have hmk := maskP_pow (op := x.op)
                    have hm16 : 0 ≤ mm % maskP x.op ∧ mm % maskP x.op < 65536 := ⟨Int.emod_nonneg _ (by omega), Int.lt_of_lt_of_le (Int.emod_lt_of_pos _ (by omega)) hmr.1⟩
                    have hac : accV x (baseP x mm) 0 = x.op * 16777216 + mm % maskP x.op := by show baseP x mm = _; unfold baseP; rw [if_neg hop0]
                    have hab := accV_b hopb mm 1 (by omega)
                    have hnx : accV x (baseP x mm) 1 = accV x (baseP x mm) 0 + x.a % 256 * 65536 := by
                      have e : accV x (baseP x mm) 1 = accV x (baseP x mm) 0 + (if (0 : Int) < regsP x.op then x.a % 256 * 65536 else 0) := rfl
                      rw [e, if_pos (show (0 : Int) < regsP x.op by omega)]
                    refine reg ?_
                    refine qq hS (g_movev (v := .int .u32 _) rfl) ?_
                    refine qq hS (g_movev (v := .int .i64 _) rfl) ?_
                    refine qq hS (g_andM (m := 8) (c := x.a % 256) rfl rfl rfl rfl (by rw [IntKind.wrap_i64]; omega)) ?_
                    refine qq hS (g_convK (c := x.a % 256) Tryz.underlying3 Tryz.underlying93 rfl (by rw [IntKind.wrap_u32]; omega)) ?_
                    refine qq hS (g_movev (v := .int .i64 _) rfl) ?_
                    refine qq hS (g_mul rfl rfl (by omega) (by omega)) ?_
                    refine qq hS (g_sub rfl rfl (by omega) (by omega)) ?_
                    refine qq hS (g_shlV (s := 16) (c := x.a % 256 * 65536) rfl rfl rfl rfl (by rw [IntKind.wrap_u32]; omega)) ?_
                    refine qq hS (g_orM (h := x.op.toNat) (l := (mm % maskP x.op).toNat) (d := (x.a % 256).toNat) (p := 24) (q := 16) (c := accV x (baseP x mm) 1) rfl rfl (by rw [hac]; omega) (by omega) (by omega) (by omega) (Nat.lt_of_lt_of_le (show _ < 4294967296 by omega) (Nat.le_refl _)) (Nat.lt_of_lt_of_le (show _ < 4294967296 by omega) (Nat.le_refl _)) (by rw [IntKind.wrap_u32, hnx]; omega)) ?_
                    refine qq hS (g_assignv (v := .int .u32 _) rfl) ?_
                    refine ol_nil (blkN (thenN ?_))
                    refine reg ?_
                    refine qq hS (g_add rfl rfl (by omega) (by omega)) ?_
                    refine qq hS (g_movev (v := .int .i64 _) rfl) ?_
                    refine ol_nil (thenN ?_)
                    first | exact ⟨1, _, rfl, ⟨⟨rfl, rfl, rfl, rfl, rfl, rfl, trivial⟩, hS.sel [true, true], by omega⟩, by omega⟩ | exact ⟨1, _, rfl, ⟨⟨rfl, rfl, rfl, congrArg (Value.int .u32) hnx.symm, rfl, rfl, trivial⟩, hS.sel [true, true], by omega⟩, by omega⟩
                  ·
                    intro hc62
                    try simp only [Bool.and_eq_true, Bool.or_eq_true, Bool.not_eq_true', Bool.and_eq_false_imp, Bool.or_eq_false_iff, Bool.not_eq_false', decide_eq_true_eq, decide_eq_false_iff_not] at hc62
                    have hnx : accV x (baseP x mm) 1 = accV x (baseP x mm) 0 := by
                      have e : accV x (baseP x mm) 1 = accV x (baseP x mm) 0 + (if (0 : Int) < regsP x.op then x.a % 256 * 65536 else 0) := rfl
                      rw [e, if_neg (show ¬ (0 : Int) < regsP x.op by omega), Int.add_zero]
                    refine wpIn_skip ?_
                    refine blkN (thenN ?_)
                    refine reg ?_
                    refine qq hS (g_add rfl rfl (by omega) (by omega)) ?_
                    refine qq hS (g_movev (v := .int .i64 _) rfl) ?_
                    refine ol_nil (thenN ?_)
                    first | exact ⟨1, _, rfl, ⟨⟨rfl, rfl, rfl, rfl, rfl, rfl, trivial⟩, hS.sel [true, true], by omega⟩, by omega⟩ | exact ⟨1, _, rfl, ⟨⟨rfl, rfl, rfl, congrArg (Value.int .u32) hnx.symm, rfl, rfl, trivial⟩, hS.sel [true, true], by omega⟩, by omega⟩
                ·
                  subst hi
                  refine reg ?_
                  refine qq hS (g_movev (v := .int .i64 _) rfl) ?_
                  refine qq hS (g_indexAgg (v := .int .i64 x.b) Tryz.underlying214 Tryz.sizeOf3 Tryz.isAgg3 rfl rfl (by decide) (by decide) rfl) ?_
                  refine qq hS (g_assignv (v := .int .i64 _) rfl) ?_
                  refine qq hS (g_assignv (v := .int .i64 _) rfl) ?_
                  refine ol_nil (thenN ?_)
                  refine wpIn_seq ?_
                  refine reg ?_
                  refine qq hS (g_movev (v := .int .i64 _) rfl) ?_
                  refine qq hS (g_fieldAddr (o' := 1) Tryz.underlying211 rfl Tryz.sizeOf3 rfl rfl rfl) ?_
                  refine qq hS (g_ldO1 0 Tryz.isAgg3 rfl rfl rfl) ?_
                  refine qq hS (g_lss rfl rfl) ?_
                  refine ol_nil (thenN ?_)
                  refine cond_s rfl ?_ ?_
                  ·
                    intro hc62
                    try simp only [Bool.and_eq_true, Bool.or_eq_true, Bool.not_eq_true', Bool.and_eq_false_imp, Bool.or_eq_false_iff, Bool.not_eq_false', decide_eq_true_eq, decide_eq_false_iff_not] at hc62
                    have hr0 : 0 < regsP x.op := by omega
                    have hop0 : ¬ x.op = 0 := fun h => by rw [h] at hr0; exact absurd hr0 (by decide)
                    have hmr := maskP_regs hr0
                    have hmk := maskP_pow (op := x.op)
                    have hm16 : 0 ≤ mm % maskP x.op ∧ mm % maskP x.op < 65536 := ⟨Int.emod_nonneg _ (by omega), Int.lt_of_lt_of_le (Int.emod_lt_of_pos _ (by omega)) hmr.1⟩
                    have hr1 : 1 < regsP x.op := by omega
                    have hm1 : mm % maskP x.op = 0 := by rw [hmr.2 hr1]; omega
                    have hac : accV x (baseP x mm) 1 = x.op * 16777216 + x.a % 256 * 65536 := by rw [accV_1]; unfold baseP; rw [if_neg hop0, if_pos hr0, hm1]; omega
                    have hab := accV_b hopb mm 2 (by omega)
                    have hnx : accV x (baseP x mm) 2 = accV x (baseP x mm) 1 + x.b % 256 * 256 := by
                      have e : accV x (baseP x mm) 2 = accV x (baseP x mm) 1 + (if (1 : Int) < regsP x.op then x.b % 256 * 256 else 0) := rfl
                      rw [e, if_pos (show (1 : Int) < regsP x.op by omega)]
                    refine reg ?_
                    refine qq hS (g_movev (v := .int .u32 _) rfl) ?_
                    refine qq hS (g_movev (v := .int .i64 _) rfl) ?_
                    refine qq hS (g_andM (m := 8) (c := x.b % 256) rfl rfl rfl rfl (by rw [IntKind.wrap_i64]; omega)) ?_
                    refine qq hS (g_convK (c := x.b % 256) Tryz.underlying3 Tryz.underlying93 rfl (by rw [IntKind.wrap_u32]; omega)) ?_
                    refine qq hS (g_movev (v := .int .i64 _) rfl) ?_
                    refine qq hS (g_mul rfl rfl (by omega) (by omega)) ?_
                    refine qq hS (g_sub rfl rfl (by omega) (by omega)) ?_
                    refine qq hS (g_shlV (s := 8) (c := x.b % 256 * 256) rfl rfl rfl rfl (by rw [IntKind.wrap_u32]; omega)) ?_
                    refine qq hS (g_orM (h := (x.op * 256 + x.a % 256).toNat) (l := 0) (d := (x.b % 256).toNat) (p := 16) (q := 8) (c := accV x (baseP x mm) 2) rfl rfl (by rw [hac]; omega) (by omega) (by omega) (by omega) (Nat.lt_of_lt_of_le (show _ < 4294967296 by omega) (Nat.le_refl _)) (Nat.lt_of_lt_of_le (show _ < 4294967296 by omega) (Nat.le_refl _)) (by rw [IntKind.wrap_u32, hnx]; omega)) ?_
                    refine qq hS (g_assignv (v := .int .u32 _) rfl) ?_
                    refine ol_nil (blkN (thenN ?_))
                    refine reg ?_
                    refine qq hS (g_add rfl rfl (by omega) (by omega)) ?_
                    refine qq hS (g_movev (v := .int .i64 _) rfl) ?_
                    refine ol_nil (thenN ?_)
                    first | exact ⟨2, _, rfl, ⟨⟨rfl, rfl, rfl, rfl, rfl, rfl, trivial⟩, hS.sel [true, true], by omega⟩, by omega⟩ | exact ⟨2, _, rfl, ⟨⟨rfl, rfl, rfl, congrArg (Value.int .u32) hnx.symm, rfl, rfl, trivial⟩, hS.sel [true, true], by omega⟩, by omega⟩
                  ·
                    intro hc62
                    try simp only [Bool.and_eq_true, Bool.or_eq_true, Bool.not_eq_true', Bool.and_eq_false_imp, Bool.or_eq_false_iff, Bool.not_eq_false', decide_eq_true_eq, decide_eq_false_iff_not] at hc62
                    have hnx : accV x (baseP x mm) 2 = accV x (baseP x mm) 1 := by
                      have e : accV x (baseP x mm) 2 = accV x (baseP x mm) 1 + (if (1 : Int) < regsP x.op then x.b % 256 * 256 else 0) := rfl
                      rw [e, if_neg (show ¬ (1 : Int) < regsP x.op by omega), Int.add_zero]
                    refine wpIn_skip ?_
                    refine blkN (thenN ?_)
                    refine reg ?_
                    refine qq hS (g_add rfl rfl (by omega) (by omega)) ?_
                    refine qq hS (g_movev (v := .int .i64 _) rfl) ?_
                    refine ol_nil (thenN ?_)
                    first | exact ⟨2, _, rfl, ⟨⟨rfl, rfl, rfl, rfl, rfl, rfl, trivial⟩, hS.sel [true, true], by omega⟩, by omega⟩ | exact ⟨2, _, rfl, ⟨⟨rfl, rfl, rfl, congrArg (Value.int .u32) hnx.symm, rfl, rfl, trivial⟩, hS.sel [true, true], by omega⟩, by omega⟩
                ·
                  subst hi
                  refine reg ?_
                  refine qq hS (g_movev (v := .int .i64 _) rfl) ?_
                  refine qq hS (g_indexAgg (v := .int .i64 x.c) Tryz.underlying214 Tryz.sizeOf3 Tryz.isAgg3 rfl rfl (by decide) (by decide) rfl) ?_
                  refine qq hS (g_assignv (v := .int .i64 _) rfl) ?_
                  refine qq hS (g_assignv (v := .int .i64 _) rfl) ?_
                  refine ol_nil (thenN ?_)
                  refine wpIn_seq ?_
                  refine reg ?_
                  refine qq hS (g_movev (v := .int .i64 _) rfl) ?_
                  refine qq hS (g_fieldAddr (o' := 1) Tryz.underlying211 rfl Tryz.sizeOf3 rfl rfl rfl) ?_
                  refine qq hS (g_ldO1 0 Tryz.isAgg3 rfl rfl rfl) ?_
                  refine qq hS (g_lss rfl rfl) ?_
                  refine ol_nil (thenN ?_)
                  refine cond_s rfl ?_ ?_
                  ·
                    intro hc62
                    try simp only [Bool.and_eq_true, Bool.or_eq_true, Bool.not_eq_true', Bool.and_eq_false_imp, Bool.or_eq_false_iff, Bool.not_eq_false', decide_eq_true_eq, decide_eq_false_iff_not] at hc62
                    have hr0 : 0 < regsP x.op := by omega
                    have hop0 : ¬ x.op = 0 := fun h => by rw [h] at hr0; exact absurd hr0 (by decide)
                    have hmr := maskP_regs hr0
                    have hmk := maskP_pow (op := x.op)
                    have hm16 : 0 ≤ mm % maskP x.op ∧ mm % maskP x.op < 65536 := ⟨Int.emod_nonneg _ (by omega), Int.lt_of_lt_of_le (Int.emod_lt_of_pos _ (by omega)) hmr.1⟩
                    have hr1 : 1 < regsP x.op := by omega
                    have hm1 : mm % maskP x.op = 0 := by rw [hmr.2 hr1]; omega
                    have hac : accV x (baseP x mm) 2 = x.op * 16777216 + x.a % 256 * 65536 + x.b % 256 * 256 := by rw [accV_2]; unfold baseP; rw [if_neg hop0, if_pos hr0, if_pos hr1, hm1]; omega
                    have hab := accV_b hopb mm 3 (by omega)
                    have hnx : accV x (baseP x mm) 3 = accV x (baseP x mm) 2 + x.c % 256 := by
                      have e : accV x (baseP x mm) 3 = accV x (baseP x mm) 2 + (if (2 : Int) < regsP x.op then x.c % 256 else 0) := rfl
                      rw [e, if_pos (show (2 : Int) < regsP x.op by omega)]
                    refine reg ?_
                    refine qq hS (g_movev (v := .int .u32 _) rfl) ?_
                    refine qq hS (g_movev (v := .int .i64 _) rfl) ?_
                    refine qq hS (g_andM (m := 8) (c := x.c % 256) rfl rfl rfl rfl (by rw [IntKind.wrap_i64]; omega)) ?_
                    refine qq hS (g_convK (c := x.c % 256) Tryz.underlying3 Tryz.underlying93 rfl (by rw [IntKind.wrap_u32]; omega)) ?_
                    refine qq hS (g_movev (v := .int .i64 _) rfl) ?_
                    refine qq hS (g_mul rfl rfl (by omega) (by omega)) ?_
                    refine qq hS (g_sub rfl rfl (by omega) (by omega)) ?_
                    refine qq hS (g_shlV (s := 0) (c := x.c % 256 * 1) rfl rfl rfl rfl (by rw [IntKind.wrap_u32]; omega)) ?_
                    refine qq hS (g_orM (h := (x.op * 65536 + x.a % 256 * 256 + x.b % 256).toNat) (l := 0) (d := (x.c % 256).toNat) (p := 8) (q := 0) (c := accV x (baseP x mm) 3) rfl rfl (by rw [hac]; omega) (by omega) (by omega) (by omega) (Nat.lt_of_lt_of_le (show _ < 4294967296 by omega) (Nat.le_refl _)) (Nat.lt_of_lt_of_le (show _ < 4294967296 by omega) (Nat.le_refl _)) (by rw [IntKind.wrap_u32, hnx]; omega)) ?_
                    refine qq hS (g_assignv (v := .int .u32 _) rfl) ?_
                    refine ol_nil (blkN (thenN ?_))
                    refine reg ?_
                    refine qq hS (g_add rfl rfl (by omega) (by omega)) ?_
                    refine qq hS (g_movev (v := .int .i64 _) rfl) ?_
                    refine ol_nil (thenN ?_)
                    first | exact ⟨3, _, rfl, ⟨⟨rfl, rfl, rfl, rfl, rfl, rfl, trivial⟩, hS.sel [true, true], by omega⟩, by omega⟩ | exact ⟨3, _, rfl, ⟨⟨rfl, rfl, rfl, congrArg (Value.int .u32) hnx.symm, rfl, rfl, trivial⟩, hS.sel [true, true], by omega⟩, by omega⟩
                  ·
                    intro hc62
                    try simp only [Bool.and_eq_true, Bool.or_eq_true, Bool.not_eq_true', Bool.and_eq_false_imp, Bool.or_eq_false_iff, Bool.not_eq_false', decide_eq_true_eq, decide_eq_false_iff_not] at hc62
                    have hnx : accV x (baseP x mm) 3 = accV x (baseP x mm) 2 := by
                      have e : accV x (baseP x mm) 3 = accV x (baseP x mm) 2 + (if (2 : Int) < regsP x.op then x.c % 256 else 0) := rfl
                      rw [e, if_neg (show ¬ (2 : Int) < regsP x.op by omega), Int.add_zero]
                    refine wpIn_skip ?_
                    refine blkN (thenN ?_)
                    refine reg ?_
                    refine qq hS (g_add rfl rfl (by omega) (by omega)) ?_
                    refine qq hS (g_movev (v := .int .i64 _) rfl) ?_
                    refine ol_nil (thenN ?_)
                    first | exact ⟨3, _, rfl, ⟨⟨rfl, rfl, rfl, rfl, rfl, rfl, trivial⟩, hS.sel [true, true], by omega⟩, by omega⟩ | exact ⟨3, _, rfl, ⟨⟨rfl, rfl, rfl, congrArg (Value.int .u32) hnx.symm, rfl, rfl, trivial⟩, hS.sel [true, true], by omega⟩, by omega⟩
              ·
                intro hc56
                try simp only [Bool.and_eq_true, Bool.or_eq_true, Bool.not_eq_true', Bool.and_eq_false_imp, Bool.or_eq_false_iff, Bool.not_eq_false', decide_eq_true_eq, decide_eq_false_iff_not] at hc56
                have hk : k = 3 := by omega
                subst hk
                refine wpIn_exit ?_
                refine thenE (thenE (blkE ?_))
                refine thenN ?_
                exact ⟨_, rfl, ⟨rfl, rfl, congrArg (Value.int .u32) (accV_enc hmm), trivial⟩, (hS.sel [false, true])⟩
          ·
            rintro σ w_k ⟨hs, hS⟩
            have heb := encW_b hopb at_
            rw [← upds_self hs]
            refine wpIn_seq ?_
            refine wpIn_seq ?_
            refine draw (.cons 0 .pure (.cons 1 .pure (.cons 3 .held (.cons 2 .eff (.cons 4 .pure .nil))))) mixed (by kernel_rfl) hS ?_
            intro w_7 hS
            refine sp rfl (g_movev (v := .int .u32 _) rfl) ?_
            refine sp rfl (g_movev (v := .int .i64 _) rfl) ?_
            refine sh rfl (g_ldO 0 (vs := [.int .i64 _, .int .i64 _, .int .i64 _, .int .i64 _, .int .i64 _]) Tryz.sizeOf97 Tryz.isAgg97 rfl rfl rfl rfl) ?_
            have hS0 := hS
            refine se rfl (d_call Tryz.call115 rfl (decodeI_c (encW x at_) at_ _ I0 hS.imm heb.1 heb.2 ha0 ha1)) ?_
            rintro _ w_8 ⟨rfl, hE⟩
            replace hS := hS.call hE
            refine ⟨_, _, hS0.le hE.ext (List.Sublist.refl _), hS, ?_⟩
            refine sp rfl (neqInst (decI (encW x at_) at_) x rfl rfl) ?_
            refine sn (thenN ?_)
            refine cond_s rfl ?_ ?_
            ·
              intro hc77
              try simp only [Bool.and_eq_true, Bool.or_eq_true, Bool.not_eq_true', Bool.and_eq_false_imp, Bool.or_eq_false_iff, Bool.not_eq_false', decide_eq_true_eq, decide_eq_false_iff_not] at hc77
              have e : encI x at_ = none := encI_ne hc77
              refine wpIn_seq ?_
              refine reg ?_
              refine qq hS (g_assignv (v := .int .u32 _) rfl) ?_
              refine qq hS (g_assignv (v := .int .i64 _) rfl) ?_
              refine ol_nil (thenN ?_)
              refine wpIn_ret ?_
              refine thenR ?_
              refine ret2 Tryz.results84 (rv_tmp (v := .int .u32 _) rfl) (rv_tmp (v := .int .i64 _) rfl) ?_
              exact ⟨by rw [e]; rfl, hS.nil⟩
            ·
              intro hc77
              try simp only [Bool.and_eq_true, Bool.or_eq_true, Bool.not_eq_true', Bool.and_eq_false_imp, Bool.or_eq_false_iff, Bool.not_eq_false', decide_eq_true_eq, decide_eq_false_iff_not] at hc77
              have e : encI x at_ = some (encW x at_) := encI_eq hopb hc77
              refine wpIn_skip ?_
              refine thenN ?_
              refine wpIn_seq ?_
              refine reg ?_
              refine qq hS (g_movev (v := .int .u32 _) rfl) ?_
              refine qq hS (g_assignv (v := .int .u32 _) rfl) ?_
              refine qq hS (g_assignv (v := .int .i64 _) rfl) ?_
              refine ol_nil (thenN ?_)
              refine wpIn_ret ?_
              refine ret2 Tryz.results84 (rv_tmp (v := .int .u32 _) rfl) (rv_tmp (v := .int .i64 _) rfl) ?_
              exact ⟨by rw [e]; rfl, hS.nil⟩
    ·
      have hS0 := hS
      refine se rfl (d_alloc (cs := [.string _, .int .i64 _, .int .i64 _, .bool _, .bool _]) hS Tryz.zeroValue211 rfl) ?_
      rintro _ w_9 ⟨b6, rfl, hS⟩
      refine ⟨_, _, hS0.le (Sub.refl _) (List.sublist_cons_self _ _), hS, ?_⟩
      have hS0 := hS
      refine se rfl (d_call Tryz.call123 rfl (kinds_c _ I0 hS.imm)) ?_
      rintro _ w_10 ⟨rfl, hE⟩
      replace hS := hS.call hE
      refine ⟨_, _, hS0.le hE.ext (List.Sublist.refl _), hS, ?_⟩
      refine sp rfl (g_indexAggA (pre := pre) (post := post) (cs := [.string s, .int .i64 (regsP x.op), .int .i64 (bitsP x.op), .bool (signP x.op), .bool (targP x.op)]) Tryz.underlying212 Tryz.sizeOf211 Tryz.isAgg211 (congrArg (fun l : List Value => Value.agg l.toArray) hkl) rfl (by omega) (by omega) hpre rfl) ?_
      refine sb rfl (d_store 0 hS Tryz.sizeOf211 rfl rfl rfl (vs := [.string _, .int .i64 _, .int .i64 _, .bool _, .bool _]) rfl rfl rfl (Nat.le_of_ble_eq_true rfl) (cs' := [_, _, _, _, _]) rfl) ?_
      rintro _ w_11 ⟨rfl, hS⟩
      refine ⟨_, _, hS, ?_⟩
      refine sn (thenN ?_)
      refine wpIn_seq ?_
      refine reg ?_
      refine qq hS (g_fieldAddr (o' := 4) Tryz.underlying97 rfl Tryz.sizeOf3 rfl rfl rfl) ?_
      refine qq hS (g_ldO1 1 Tryz.isAgg3 rfl rfl rfl) ?_
      refine qq hS (g_assignv (v := .int .i64 _) rfl) ?_
      refine ol_nil (thenN ?_)
      refine meet (fun σ w => ∃ mm : Int, okS σ [(1, .int .i64 at_), (2, .pointer (some ⟨b2, 0, none⟩)), (6, .pointer (some ⟨b6, 0, none⟩)), (7, .int .i64 mm)] ∧ St [] w0 I0 I0 w [.cel b6 211 [.string s, .int .i64 (regsP x.op), .int .i64 (bitsP x.op), .bool (signP x.op), .bool (targP x.op)], .cel b2 97 [.int .i64 x.op, .int .i64 x.a, .int .i64 x.b, .int .i64 x.c, .int .i64 x.n]] ∧ mm = (if targP x.op = true then (x.n - at_) / 4 else x.n) ∧ -4611686018427387904 ≤ mm ∧ mm ≤ 4611686018427387904) ?_ ?_
      ·
        refine wpIn_seq ?_
        refine reg ?_
        refine qq hS (g_fieldAddr (o' := 4) Tryz.underlying211 rfl Tryz.sizeOf4 rfl rfl rfl) ?_
        refine qq hS (g_ldO1 0 Tryz.isAgg4 rfl rfl rfl) ?_
        refine ol_nil (thenN ?_)
        refine cond_s rfl ?_ ?_
        ·
          intro hc26
          try simp only [Bool.and_eq_true, Bool.or_eq_true, Bool.not_eq_true', Bool.and_eq_false_imp, Bool.or_eq_false_iff, Bool.not_eq_false', decide_eq_true_eq, decide_eq_false_iff_not] at hc26
          have e26 : (x.n - at_) / 4 = if targP x.op = true then (x.n - at_) / 4 else x.n := by rw [if_pos hc26]
          refine reg ?_
          refine qq hS (g_movev (v := .int .i64 _) rfl) ?_
          refine qq hS (g_movev (v := .int .i64 _) rfl) ?_
          refine qq hS (g_sub rfl rfl (by omega) (by omega)) ?_
          refine qq hS (g_shrV (s := 2) (c := (x.n - at_) / 4) rfl rfl rfl rfl rfl) ?_
          refine qq hS (g_assignv (v := .int .i64 _) rfl) ?_
          refine ol_nil (thenN ?_)
          exact ⟨_, rfl, _, ⟨rfl, rfl, rfl, rfl, trivial⟩, hS, e26, by omega, by omega⟩
        ·
          intro hc26
          try simp only [Bool.and_eq_true, Bool.or_eq_true, Bool.not_eq_true', Bool.and_eq_false_imp, Bool.or_eq_false_iff, Bool.not_eq_false', decide_eq_true_eq, decide_eq_false_iff_not] at hc26
          have e26 : x.n = if targP x.op = true then (x.n - at_) / 4 else x.n := by rw [if_neg (by rw [hc26]; decide)]
          refine wpIn_skip ?_
          refine thenN ?_
          exact ⟨_, rfl, _, ⟨rfl, rfl, rfl, rfl, trivial⟩, hS, e26, by omega, by omega⟩
      ·
        rintro σ w_j ⟨mm, hs, hS, hmm, hmb0, hmb1⟩
        rw [← upds_self hs]
        refine wpIn_seq ?_
        refine reg ?_
        refine qq hS (g_movev (v := .int .i64 _) rfl) ?_
        refine qq hS (g_conv Tryz.underlying3 Tryz.underlying93 rfl) ?_
        refine qq hS (g_assignv (v := .int .u32 _) rfl) ?_
        refine ol_nil (thenN ?_)
        refine meet (fun σ w => okS σ [(1, .int .i64 at_), (2, .pointer (some ⟨b2, 0, none⟩)), (6, .pointer (some ⟨b6, 0, none⟩)), (8, .int .u32 (baseP x mm))] ∧ St [] w0 I0 I0 w [.cel b6 211 [.string s, .int .i64 (regsP x.op), .int .i64 (bitsP x.op), .bool (signP x.op), .bool (targP x.op)], .cel b2 97 [.int .i64 x.op, .int .i64 x.a, .int .i64 x.b, .int .i64 x.c, .int .i64 x.n]]) ?_ ?_
        ·
          refine wpIn_seq ?_
          refine reg ?_
          refine qq hS (g_fieldAddr (o' := 0) Tryz.underlying97 rfl Tryz.sizeOf3 rfl rfl rfl) ?_
          refine qq hS (g_ldO1 1 Tryz.isAgg3 rfl rfl rfl) ?_
          refine qq hS (g_neq rfl rfl) ?_
          refine ol_nil (thenN ?_)
          refine cond_s rfl ?_ ?_
          ·
            intro hc35
            try simp only [Bool.and_eq_true, Bool.or_eq_true, Bool.not_eq_true', Bool.and_eq_false_imp, Bool.or_eq_false_iff, Bool.not_eq_false', decide_eq_true_eq, decide_eq_false_iff_not] at hc35
            have hm0 : 0 ≤ mm % maskP x.op ∧ mm % maskP x.op < maskP x.op := ⟨Int.emod_nonneg _ (by omega), Int.emod_lt_of_pos _ (by omega)⟩
            refine draw (.cons 0 .pure (.cons 1 .held (.cons 2 .pure (.cons 3 .pure (.cons 4 .pure (.cons 5 .pure (.cons 6 .held (.cons 7 .pure (.cons 8 .pure (.cons 9 .pure (.cons 10 .pure (.cons 11 .pure (.cons 12 .pure .nil))))))))))))) mixed (by kernel_rfl) hS ?_
            intro w_12 hS
            refine sp rfl (g_fieldAddr (o' := 0) Tryz.underlying97 rfl Tryz.sizeOf3 rfl rfl rfl) ?_
            refine sh rfl (g_ldO1 1 Tryz.isAgg3 rfl rfl rfl) ?_
            refine sp rfl (g_convK (c := x.op) Tryz.underlying3 Tryz.underlying93 rfl (by rw [IntKind.wrap_u32]; omega)) ?_
            refine sp rfl (g_shlV (s := 24) (c := x.op * 16777216) rfl rfl rfl rfl (by rw [IntKind.wrap_u32]; omega)) ?_
            refine sp rfl (g_movev (v := .int .i64 _) rfl) ?_
            refine sp rfl (g_fieldAddr (o' := 2) Tryz.underlying211 rfl Tryz.sizeOf3 rfl rfl rfl) ?_
            refine sh rfl (g_ldO1 0 Tryz.isAgg3 rfl rfl rfl) ?_
            refine sp rfl (g_shlV (s := (bitsP x.op).toNat) (c := maskP x.op) rfl rfl hmk.2.1 (Nat.ble_eq_true_of_le (Nat.le_trans hmk.2.2.1 (by decide))) (by rw [hmk.1, IntKind.wrap_i64]; omega)) ?_
            refine sp rfl (g_sub rfl rfl (by omega) (by omega)) ?_
            refine sp rfl (g_andM (m := (bitsP x.op).toNat) (c := mm % maskP x.op) rfl rfl (by rw [hmk.1]) (Nat.ble_eq_true_of_le (Nat.le_trans hmk.2.2.1 (by decide))) (by rw [hmk.1, IntKind.wrap_i64]; omega)) ?_
            refine sp rfl (g_convK (c := mm % maskP x.op) Tryz.underlying3 Tryz.underlying93 rfl (by rw [IntKind.wrap_u32]; omega)) ?_
            refine sp rfl (g_orD (m := 24) (c := baseP x mm) rfl rfl (by omega) (Int.lt_of_lt_of_le (show x.op * 16777216 < 4294967296 by omega) (Int.le_refl _)) (by omega) (by omega) (by omega) (Int.lt_of_lt_of_le (show mm % maskP x.op < 4294967296 by omega) (Int.le_refl _)) (by rw [IntKind.wrap_u32]; unfold baseP; rw [if_neg hc35]; omega)) ?_
            refine sp rfl (g_assignv (v := .int .u32 _) rfl) ?_
            refine sn (thenN ?_)
            first | exact ⟨_, rfl, ⟨rfl, rfl, rfl, rfl, trivial⟩, hS⟩ | exact ⟨_, rfl, ⟨rfl, rfl, rfl, congrArg (Value.int .u32) e35, trivial⟩, hS⟩
          ·
            intro hc35
            try simp only [Bool.and_eq_true, Bool.or_eq_true, Bool.not_eq_true', Bool.and_eq_false_imp, Bool.or_eq_false_iff, Bool.not_eq_false', decide_eq_true_eq, decide_eq_false_iff_not] at hc35
            have e35 : IntKind.u32.wrap mm = baseP x mm := by rw [IntKind.wrap_u32]; unfold baseP; rw [if_pos hc35]
            refine wpIn_skip ?_
            refine thenN ?_
            first | exact ⟨_, rfl, ⟨rfl, rfl, rfl, rfl, trivial⟩, hS⟩ | exact ⟨_, rfl, ⟨rfl, rfl, rfl, congrArg (Value.int .u32) e35, trivial⟩, hS⟩
        ·
          rintro σ w_k ⟨hs, hS⟩
          rw [← upds_self hs]
          refine meet (fun σ w => okS σ [(1, .int .i64 at_), (2, .pointer (some ⟨b2, 0, none⟩)), (8, .int .u32 (encW x at_))] ∧ St [] w0 I0 I0 w [.cel b2 97 [.int .i64 x.op, .int .i64 x.a, .int .i64 x.b, .int .i64 x.c, .int .i64 x.n]]) ?_ ?_
          ·
            refine wpIn_seq ?_
            refine reg ?_
            refine qq hS (g_fieldAddr (o' := 1) Tryz.underlying97 rfl Tryz.sizeOf3 rfl rfl rfl) ?_
            refine qq hS (g_ldO1 1 Tryz.isAgg3 rfl rfl rfl) ?_
            refine qq hS (g_fieldAddr (o' := 2) Tryz.underlying97 rfl Tryz.sizeOf3 rfl rfl rfl) ?_
            refine qq hS (g_ldO1 1 Tryz.isAgg3 rfl rfl rfl) ?_
            refine qq hS (g_fieldAddr (o' := 3) Tryz.underlying97 rfl Tryz.sizeOf3 rfl rfl rfl) ?_
            refine qq hS (g_ldO1 1 Tryz.isAgg3 rfl rfl rfl) ?_
            refine qq hS (g_buildArr (cs := [.int .i64 x.a, .int .i64 x.b, .int .i64 x.c]) Tryz.zeroValue214 Tryz.underlying214 Tryz.sizeOf3 rfl (fill3 _ _ _ _ _ _)) ?_
            refine qq hS (g_movev (v := .int .i64 _) rfl) ?_
            refine ol_nil (thenN ?_)
            refine wpIn_block ?_
            refine loop (fun (k : Nat) σ w => okS σ [(1, .int .i64 at_), (2, .pointer (some ⟨b2, 0, none⟩)), (6, .pointer (some ⟨b6, 0, none⟩)), (8, .int .u32 (accV x (baseP x mm) k)), (54, .agg #[.int .i64 x.a, .int .i64 x.b, .int .i64 x.c]), (55, .int .i64 k)] ∧ St [] w0 I0 I0 w [.cel b6 211 [.string s, .int .i64 (regsP x.op), .int .i64 (bitsP x.op), .bool (signP x.op), .bool (targP x.op)], .cel b2 97 [.int .i64 x.op, .int .i64 x.a, .int .i64 x.b, .int .i64 x.c, .int .i64 x.n]] ∧ k ≤ 3) (fun k => 3 - k) (0) ?_ ?_
            ·
              exact ⟨⟨rfl, rfl, rfl, rfl, rfl, rfl, trivial⟩, hS.sel [true, true], by omega⟩
            ·
              rintro k σ w_l ⟨hs, hS, hk3⟩
              rw [← upds_self hs]; clear hs
              refine wpIn_seq ?_
              refine reg ?_
              refine qq hS (g_lss rfl rfl) ?_
              refine ol_nil (thenN ?_)
              refine wpIn_seq ?_
              refine cond_s rfl ?_ ?_
              ·
                intro hc56
                try simp only [Bool.and_eq_true, Bool.or_eq_true, Bool.not_eq_true', Bool.and_eq_false_imp, Bool.or_eq_false_iff, Bool.not_eq_false', decide_eq_true_eq, decide_eq_false_iff_not] at hc56
                refine wpIn_skip ?_
                refine thenN ?_
                refine wpIn_seq ?_
                refine wpIn_block ?_
                refine wpIn_seq ?_
                have hi3 : k = 0 ∨ k = 1 ∨ k = 2 := by omega
                refine hi3.elim (fun hi => ?_) (fun h => h.elim (fun hi => ?_) (fun hi => ?_))
                ·
                  subst hi
                  refine reg ?_
                  refine qq hS (g_movev (v := .int .i64 _) rfl) ?_
                  refine qq hS (g_indexAgg (v := .int .i64 x.a) Tryz.underlying214 Tryz.sizeOf3 Tryz.isAgg3 rfl rfl (by decide) (by decide) rfl) ?_
                  refine qq hS (g_assignv (v := .int .i64 _) rfl) ?_
                  refine qq hS (g_assignv (v := .int .i64 _) rfl) ?_
                  refine ol_nil (thenN ?_)
                  refine wpIn_seq ?_
                  refine reg ?_
                  refine qq hS (g_movev (v := .int .i64 _) rfl) ?_
                  refine qq hS (g_fieldAddr (o' := 1) Tryz.underlying211 rfl Tryz.sizeOf3 rfl rfl rfl) ?_
                  refine qq hS (g_ldO1 0 Tryz.isAgg3 rfl rfl rfl) ?_
                  refine qq hS (g_lss rfl rfl) ?_
                  refine ol_nil (thenN ?_)
                  refine cond_s rfl ?_ ?_
                  ·
                    intro hc62
                    try simp only [Bool.and_eq_true, Bool.or_eq_true, Bool.not_eq_true', Bool.and_eq_false_imp, Bool.or_eq_false_iff, Bool.not_eq_false', decide_eq_true_eq, decide_eq_false_iff_not] at hc62
                    have hr0 : 0 < regsP x.op := by omega
                    have hop0 : ¬ x.op = 0 := fun h => by rw [h] at hr0; exact absurd hr0 (by decide)
                    have hmr := maskP_regs hr0
                    have hmk := maskP_pow (op := x.op)
                    have hm16 : 0 ≤ mm % maskP x.op ∧ mm % maskP x.op < 65536 := ⟨Int.emod_nonneg _ (by omega), Int.lt_of_lt_of_le (Int.emod_lt_of_pos _ (by omega)) hmr.1⟩
                    have hac : accV x (baseP x mm) 0 = x.op * 16777216 + mm % maskP x.op := by show baseP x mm = _; unfold baseP; rw [if_neg hop0]
                    have hab := accV_b hopb mm 1 (by omega)
                    have hnx : accV x (baseP x mm) 1 = accV x (baseP x mm) 0 + x.a % 256 * 65536 := by
                      have e : accV x (baseP x mm) 1 = accV x (baseP x mm) 0 + (if (0 : Int) < regsP x.op then x.a % 256 * 65536 else 0) := rfl
                      rw [e, if_pos (show (0 : Int) < regsP x.op by omega)]
                    refine reg ?_
                    refine qq hS (g_movev (v := .int .u32 _) rfl) ?_
                    refine qq hS (g_movev (v := .int .i64 _) rfl) ?_
                    refine qq hS (g_andM (m := 8) (c := x.a % 256) rfl rfl rfl rfl (by rw [IntKind.wrap_i64]; omega)) ?_
                    refine qq hS (g_convK (c := x.a % 256) Tryz.underlying3 Tryz.underlying93 rfl (by rw [IntKind.wrap_u32]; omega)) ?_
                    refine qq hS (g_movev (v := .int .i64 _) rfl) ?_
                    refine qq hS (g_mul rfl rfl (by omega) (by omega)) ?_
                    refine qq hS (g_sub rfl rfl (by omega) (by omega)) ?_
                    refine qq hS (g_shlV (s := 16) (c := x.a % 256 * 65536) rfl rfl rfl rfl (by rw [IntKind.wrap_u32]; omega)) ?_
                    refine qq hS (g_orM (h := x.op.toNat) (l := (mm % maskP x.op).toNat) (d := (x.a % 256).toNat) (p := 24) (q := 16) (c := accV x (baseP x mm) 1) rfl rfl (by rw [hac]; omega) (by omega) (by omega) (by omega) (Nat.lt_of_lt_of_le (show _ < 4294967296 by omega) (Nat.le_refl _)) (Nat.lt_of_lt_of_le (show _ < 4294967296 by omega) (Nat.le_refl _)) (by rw [IntKind.wrap_u32, hnx]; omega)) ?_
                    refine qq hS (g_assignv (v := .int .u32 _) rfl) ?_
                    refine ol_nil (blkN (thenN ?_))
                    refine reg ?_
                    refine qq hS (g_add rfl rfl (by omega) (by omega)) ?_
                    refine qq hS (g_movev (v := .int .i64 _) rfl) ?_
                    refine ol_nil (thenN ?_)
                    first | exact ⟨1, _, rfl, ⟨⟨rfl, rfl, rfl, rfl, rfl, rfl, trivial⟩, hS.sel [true, true], by omega⟩, by omega⟩ | exact ⟨1, _, rfl, ⟨⟨rfl, rfl, rfl, congrArg (Value.int .u32) hnx.symm, rfl, rfl, trivial⟩, hS.sel [true, true], by omega⟩, by omega⟩
                  ·
                    intro hc62
                    try simp only [Bool.and_eq_true, Bool.or_eq_true, Bool.not_eq_true', Bool.and_eq_false_imp, Bool.or_eq_false_iff, Bool.not_eq_false', decide_eq_true_eq, decide_eq_false_iff_not] at hc62
                    have hnx : accV x (baseP x mm) 1 = accV x (baseP x mm) 0 := by
                      have e : accV x (baseP x mm) 1 = accV x (baseP x mm) 0 + (if (0 : Int) < regsP x.op then x.a % 256 * 65536 else 0) := rfl
                      rw [e, if_neg (show ¬ (0 : Int) < regsP x.op by omega), Int.add_zero]
                    refine wpIn_skip ?_
                    refine blkN (thenN ?_)
                    refine reg ?_
                    refine qq hS (g_add rfl rfl (by omega) (by omega)) ?_
                    refine qq hS (g_movev (v := .int .i64 _) rfl) ?_
                    refine ol_nil (thenN ?_)
                    first | exact ⟨1, _, rfl, ⟨⟨rfl, rfl, rfl, rfl, rfl, rfl, trivial⟩, hS.sel [true, true], by omega⟩, by omega⟩ | exact ⟨1, _, rfl, ⟨⟨rfl, rfl, rfl, congrArg (Value.int .u32) hnx.symm, rfl, rfl, trivial⟩, hS.sel [true, true], by omega⟩, by omega⟩
                ·
                  subst hi
                  refine reg ?_
                  refine qq hS (g_movev (v := .int .i64 _) rfl) ?_
                  refine qq hS (g_indexAgg (v := .int .i64 x.b) Tryz.underlying214 Tryz.sizeOf3 Tryz.isAgg3 rfl rfl (by decide) (by decide) rfl) ?_
                  refine qq hS (g_assignv (v := .int .i64 _) rfl) ?_
                  refine qq hS (g_assignv (v := .int .i64 _) rfl) ?_
                  refine ol_nil (thenN ?_)
                  refine wpIn_seq ?_
                  refine reg ?_
                  refine qq hS (g_movev (v := .int .i64 _) rfl) ?_
                  refine qq hS (g_fieldAddr (o' := 1) Tryz.underlying211 rfl Tryz.sizeOf3 rfl rfl rfl) ?_
                  refine qq hS (g_ldO1 0 Tryz.isAgg3 rfl rfl rfl) ?_
                  refine qq hS (g_lss rfl rfl) ?_
                  refine ol_nil (thenN ?_)
                  refine cond_s rfl ?_ ?_
                  ·
                    intro hc62
                    try simp only [Bool.and_eq_true, Bool.or_eq_true, Bool.not_eq_true', Bool.and_eq_false_imp, Bool.or_eq_false_iff, Bool.not_eq_false', decide_eq_true_eq, decide_eq_false_iff_not] at hc62
                    have hr0 : 0 < regsP x.op := by omega
                    have hop0 : ¬ x.op = 0 := fun h => by rw [h] at hr0; exact absurd hr0 (by decide)
                    have hmr := maskP_regs hr0
                    have hmk := maskP_pow (op := x.op)
                    have hm16 : 0 ≤ mm % maskP x.op ∧ mm % maskP x.op < 65536 := ⟨Int.emod_nonneg _ (by omega), Int.lt_of_lt_of_le (Int.emod_lt_of_pos _ (by omega)) hmr.1⟩
                    have hr1 : 1 < regsP x.op := by omega
                    have hm1 : mm % maskP x.op = 0 := by rw [hmr.2 hr1]; omega
                    have hac : accV x (baseP x mm) 1 = x.op * 16777216 + x.a % 256 * 65536 := by rw [accV_1]; unfold baseP; rw [if_neg hop0, if_pos hr0, hm1]; omega
                    have hab := accV_b hopb mm 2 (by omega)
                    have hnx : accV x (baseP x mm) 2 = accV x (baseP x mm) 1 + x.b % 256 * 256 := by
                      have e : accV x (baseP x mm) 2 = accV x (baseP x mm) 1 + (if (1 : Int) < regsP x.op then x.b % 256 * 256 else 0) := rfl
                      rw [e, if_pos (show (1 : Int) < regsP x.op by omega)]
                    refine reg ?_
                    refine qq hS (g_movev (v := .int .u32 _) rfl) ?_
                    refine qq hS (g_movev (v := .int .i64 _) rfl) ?_
                    refine qq hS (g_andM (m := 8) (c := x.b % 256) rfl rfl rfl rfl (by rw [IntKind.wrap_i64]; omega)) ?_
                    refine qq hS (g_convK (c := x.b % 256) Tryz.underlying3 Tryz.underlying93 rfl (by rw [IntKind.wrap_u32]; omega)) ?_
                    refine qq hS (g_movev (v := .int .i64 _) rfl) ?_
                    refine qq hS (g_mul rfl rfl (by omega) (by omega)) ?_
                    refine qq hS (g_sub rfl rfl (by omega) (by omega)) ?_
                    refine qq hS (g_shlV (s := 8) (c := x.b % 256 * 256) rfl rfl rfl rfl (by rw [IntKind.wrap_u32]; omega)) ?_
                    refine qq hS (g_orM (h := (x.op * 256 + x.a % 256).toNat) (l := 0) (d := (x.b % 256).toNat) (p := 16) (q := 8) (c := accV x (baseP x mm) 2) rfl rfl (by rw [hac]; omega) (by omega) (by omega) (by omega) (Nat.lt_of_lt_of_le (show _ < 4294967296 by omega) (Nat.le_refl _)) (Nat.lt_of_lt_of_le (show _ < 4294967296 by omega) (Nat.le_refl _)) (by rw [IntKind.wrap_u32, hnx]; omega)) ?_
                    refine qq hS (g_assignv (v := .int .u32 _) rfl) ?_
                    refine ol_nil (blkN (thenN ?_))
                    refine reg ?_
                    refine qq hS (g_add rfl rfl (by omega) (by omega)) ?_
                    refine qq hS (g_movev (v := .int .i64 _) rfl) ?_
                    refine ol_nil (thenN ?_)
                    first | exact ⟨2, _, rfl, ⟨⟨rfl, rfl, rfl, rfl, rfl, rfl, trivial⟩, hS.sel [true, true], by omega⟩, by omega⟩ | exact ⟨2, _, rfl, ⟨⟨rfl, rfl, rfl, congrArg (Value.int .u32) hnx.symm, rfl, rfl, trivial⟩, hS.sel [true, true], by omega⟩, by omega⟩
                  ·
                    intro hc62
                    try simp only [Bool.and_eq_true, Bool.or_eq_true, Bool.not_eq_true', Bool.and_eq_false_imp, Bool.or_eq_false_iff, Bool.not_eq_false', decide_eq_true_eq, decide_eq_false_iff_not] at hc62
                    have hnx : accV x (baseP x mm) 2 = accV x (baseP x mm) 1 := by
                      have e : accV x (baseP x mm) 2 = accV x (baseP x mm) 1 + (if (1 : Int) < regsP x.op then x.b % 256 * 256 else 0) := rfl
                      rw [e, if_neg (show ¬ (1 : Int) < regsP x.op by omega), Int.add_zero]
                    refine wpIn_skip ?_
                    refine blkN (thenN ?_)
                    refine reg ?_
                    refine qq hS (g_add rfl rfl (by omega) (by omega)) ?_
                    refine qq hS (g_movev (v := .int .i64 _) rfl) ?_
                    refine ol_nil (thenN ?_)
                    first | exact ⟨2, _, rfl, ⟨⟨rfl, rfl, rfl, rfl, rfl, rfl, trivial⟩, hS.sel [true, true], by omega⟩, by omega⟩ | exact ⟨2, _, rfl, ⟨⟨rfl, rfl, rfl, congrArg (Value.int .u32) hnx.symm, rfl, rfl, trivial⟩, hS.sel [true, true], by omega⟩, by omega⟩
                ·
                  subst hi
                  refine reg ?_
                  refine qq hS (g_movev (v := .int .i64 _) rfl) ?_
                  refine qq hS (g_indexAgg (v := .int .i64 x.c) Tryz.underlying214 Tryz.sizeOf3 Tryz.isAgg3 rfl rfl (by decide) (by decide) rfl) ?_
                  refine qq hS (g_assignv (v := .int .i64 _) rfl) ?_
                  refine qq hS (g_assignv (v := .int .i64 _) rfl) ?_
                  refine ol_nil (thenN ?_)
                  refine wpIn_seq ?_
                  refine reg ?_
                  refine qq hS (g_movev (v := .int .i64 _) rfl) ?_
                  refine qq hS (g_fieldAddr (o' := 1) Tryz.underlying211 rfl Tryz.sizeOf3 rfl rfl rfl) ?_
                  refine qq hS (g_ldO1 0 Tryz.isAgg3 rfl rfl rfl) ?_
                  refine qq hS (g_lss rfl rfl) ?_
                  refine ol_nil (thenN ?_)
                  refine cond_s rfl ?_ ?_
                  ·
                    intro hc62
                    try simp only [Bool.and_eq_true, Bool.or_eq_true, Bool.not_eq_true', Bool.and_eq_false_imp, Bool.or_eq_false_iff, Bool.not_eq_false', decide_eq_true_eq, decide_eq_false_iff_not] at hc62
                    have hr0 : 0 < regsP x.op := by omega
                    have hop0 : ¬ x.op = 0 := fun h => by rw [h] at hr0; exact absurd hr0 (by decide)
                    have hmr := maskP_regs hr0
                    have hmk := maskP_pow (op := x.op)
                    have hm16 : 0 ≤ mm % maskP x.op ∧ mm % maskP x.op < 65536 := ⟨Int.emod_nonneg _ (by omega), Int.lt_of_lt_of_le (Int.emod_lt_of_pos _ (by omega)) hmr.1⟩
                    have hr1 : 1 < regsP x.op := by omega
                    have hm1 : mm % maskP x.op = 0 := by rw [hmr.2 hr1]; omega
                    have hac : accV x (baseP x mm) 2 = x.op * 16777216 + x.a % 256 * 65536 + x.b % 256 * 256 := by rw [accV_2]; unfold baseP; rw [if_neg hop0, if_pos hr0, if_pos hr1, hm1]; omega
                    have hab := accV_b hopb mm 3 (by omega)
                    have hnx : accV x (baseP x mm) 3 = accV x (baseP x mm) 2 + x.c % 256 := by
                      have e : accV x (baseP x mm) 3 = accV x (baseP x mm) 2 + (if (2 : Int) < regsP x.op then x.c % 256 else 0) := rfl
                      rw [e, if_pos (show (2 : Int) < regsP x.op by omega)]
                    refine reg ?_
                    refine qq hS (g_movev (v := .int .u32 _) rfl) ?_
                    refine qq hS (g_movev (v := .int .i64 _) rfl) ?_
                    refine qq hS (g_andM (m := 8) (c := x.c % 256) rfl rfl rfl rfl (by rw [IntKind.wrap_i64]; omega)) ?_
                    refine qq hS (g_convK (c := x.c % 256) Tryz.underlying3 Tryz.underlying93 rfl (by rw [IntKind.wrap_u32]; omega)) ?_
                    refine qq hS (g_movev (v := .int .i64 _) rfl) ?_
                    refine qq hS (g_mul rfl rfl (by omega) (by omega)) ?_
                    refine qq hS (g_sub rfl rfl (by omega) (by omega)) ?_
                    refine qq hS (g_shlV (s := 0) (c := x.c % 256 * 1) rfl rfl rfl rfl (by rw [IntKind.wrap_u32]; omega)) ?_
                    refine qq hS (g_orM (h := (x.op * 65536 + x.a % 256 * 256 + x.b % 256).toNat) (l := 0) (d := (x.c % 256).toNat) (p := 8) (q := 0) (c := accV x (baseP x mm) 3) rfl rfl (by rw [hac]; omega) (by omega) (by omega) (by omega) (Nat.lt_of_lt_of_le (show _ < 4294967296 by omega) (Nat.le_refl _)) (Nat.lt_of_lt_of_le (show _ < 4294967296 by omega) (Nat.le_refl _)) (by rw [IntKind.wrap_u32, hnx]; omega)) ?_
                    refine qq hS (g_assignv (v := .int .u32 _) rfl) ?_
                    refine ol_nil (blkN (thenN ?_))
                    refine reg ?_
                    refine qq hS (g_add rfl rfl (by omega) (by omega)) ?_
                    refine qq hS (g_movev (v := .int .i64 _) rfl) ?_
                    refine ol_nil (thenN ?_)
                    first | exact ⟨3, _, rfl, ⟨⟨rfl, rfl, rfl, rfl, rfl, rfl, trivial⟩, hS.sel [true, true], by omega⟩, by omega⟩ | exact ⟨3, _, rfl, ⟨⟨rfl, rfl, rfl, congrArg (Value.int .u32) hnx.symm, rfl, rfl, trivial⟩, hS.sel [true, true], by omega⟩, by omega⟩
                  ·
                    intro hc62
                    try simp only [Bool.and_eq_true, Bool.or_eq_true, Bool.not_eq_true', Bool.and_eq_false_imp, Bool.or_eq_false_iff, Bool.not_eq_false', decide_eq_true_eq, decide_eq_false_iff_not] at hc62
                    have hnx : accV x (baseP x mm) 3 = accV x (baseP x mm) 2 := by
                      have e : accV x (baseP x mm) 3 = accV x (baseP x mm) 2 + (if (2 : Int) < regsP x.op then x.c % 256 else 0) := rfl
                      rw [e, if_neg (show ¬ (2 : Int) < regsP x.op by omega), Int.add_zero]
                    refine wpIn_skip ?_
                    refine blkN (thenN ?_)
                    refine reg ?_
                    refine qq hS (g_add rfl rfl (by omega) (by omega)) ?_
                    refine qq hS (g_movev (v := .int .i64 _) rfl) ?_
                    refine ol_nil (thenN ?_)
                    first | exact ⟨3, _, rfl, ⟨⟨rfl, rfl, rfl, rfl, rfl, rfl, trivial⟩, hS.sel [true, true], by omega⟩, by omega⟩ | exact ⟨3, _, rfl, ⟨⟨rfl, rfl, rfl, congrArg (Value.int .u32) hnx.symm, rfl, rfl, trivial⟩, hS.sel [true, true], by omega⟩, by omega⟩
              ·
                intro hc56
                try simp only [Bool.and_eq_true, Bool.or_eq_true, Bool.not_eq_true', Bool.and_eq_false_imp, Bool.or_eq_false_iff, Bool.not_eq_false', decide_eq_true_eq, decide_eq_false_iff_not] at hc56
                have hk : k = 3 := by omega
                subst hk
                refine wpIn_exit ?_
                refine thenE (thenE (blkE ?_))
                refine thenN ?_
                exact ⟨_, rfl, ⟨rfl, rfl, congrArg (Value.int .u32) (accV_enc hmm), trivial⟩, (hS.sel [false, true])⟩
          ·
            rintro σ w_k ⟨hs, hS⟩
            have heb := encW_b hopb at_
            rw [← upds_self hs]
            refine wpIn_seq ?_
            refine wpIn_seq ?_
            refine draw (.cons 0 .pure (.cons 1 .pure (.cons 3 .held (.cons 2 .eff (.cons 4 .pure .nil))))) mixed (by kernel_rfl) hS ?_
            intro w_13 hS
            refine sp rfl (g_movev (v := .int .u32 _) rfl) ?_
            refine sp rfl (g_movev (v := .int .i64 _) rfl) ?_
            refine sh rfl (g_ldO 0 (vs := [.int .i64 _, .int .i64 _, .int .i64 _, .int .i64 _, .int .i64 _]) Tryz.sizeOf97 Tryz.isAgg97 rfl rfl rfl rfl) ?_
            have hS0 := hS
            refine se rfl (d_call Tryz.call115 rfl (decodeI_c (encW x at_) at_ _ I0 hS.imm heb.1 heb.2 ha0 ha1)) ?_
            rintro _ w_14 ⟨rfl, hE⟩
            replace hS := hS.call hE
            refine ⟨_, _, hS0.le hE.ext (List.Sublist.refl _), hS, ?_⟩
            refine sp rfl (neqInst (decI (encW x at_) at_) x rfl rfl) ?_
            refine sn (thenN ?_)
            refine cond_s rfl ?_ ?_
            ·
              intro hc77
              try simp only [Bool.and_eq_true, Bool.or_eq_true, Bool.not_eq_true', Bool.and_eq_false_imp, Bool.or_eq_false_iff, Bool.not_eq_false', decide_eq_true_eq, decide_eq_false_iff_not] at hc77
              have e : encI x at_ = none := encI_ne hc77
              refine wpIn_seq ?_
              refine reg ?_
              refine qq hS (g_assignv (v := .int .u32 _) rfl) ?_
              refine qq hS (g_assignv (v := .int .i64 _) rfl) ?_
              refine ol_nil (thenN ?_)
              refine wpIn_ret ?_
              refine thenR ?_
              refine ret2 Tryz.results84 (rv_tmp (v := .int .u32 _) rfl) (rv_tmp (v := .int .i64 _) rfl) ?_
              exact ⟨by rw [e]; rfl, hS.nil⟩
            ·
              intro hc77
              try simp only [Bool.and_eq_true, Bool.or_eq_true, Bool.not_eq_true', Bool.and_eq_false_imp, Bool.or_eq_false_iff, Bool.not_eq_false', decide_eq_true_eq, decide_eq_false_iff_not] at hc77
              have e : encI x at_ = some (encW x at_) := encI_eq hopb hc77
              refine wpIn_skip ?_
              refine thenN ?_
              refine wpIn_seq ?_
              refine reg ?_
              refine qq hS (g_movev (v := .int .u32 _) rfl) ?_
              refine qq hS (g_assignv (v := .int .u32 _) rfl) ?_
              refine qq hS (g_assignv (v := .int .i64 _) rfl) ?_
              refine ol_nil (thenN ?_)
              refine wpIn_ret ?_
              refine ret2 Tryz.results84 (rv_tmp (v := .int .u32 _) rfl) (rv_tmp (v := .int .i64 _) rfl) ?_
              exact ⟨by rw [e]; rfl, hS.nil⟩

end Go.Proofs.YtaklmbhfmpdinaaGreatDoor

