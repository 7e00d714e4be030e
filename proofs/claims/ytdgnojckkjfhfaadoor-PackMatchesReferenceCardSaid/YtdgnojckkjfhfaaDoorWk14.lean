/- Package pack: a reader of any bytes. Conditions: none. -/
import Derived.Test.YtdgnojckkjfhfaaDoorRd0
import Derived.Test.YtdgnojckkjfhfaaDoorKCore3
import Derived.Test.YtdgnojckkjfhfaaDoorDecW
import Derived.Test.YtdgnojckkjfhfaaDoorPk14
namespace Go.Proofs.YtdgnojckkjfhfaaDoor
open Go Go.RowKit Go.Inl
set_option linter.unusedSimpArgs false
set_option linter.unusedVariables false
theorem pow256 {w : Nat} (h : w ≤ 3) : (256 : Int) ^ w ≤ 16777216 := by
  match w, h with
  | 0, _ => decide
  | 1, _ => decide
  | 2, _ => decide
  | 3, _ => decide
theorem g_eqNilNil {P : Program} {n : Nat} {σ : Nat → Value} {S : World → Prop} {t t' ty e : TypeId} {x y : Operand} (hT : P.underlying t = some (.slice e)) (hx : ev n σ x = .slice none 0 0) (hy : ev n σ y = .slice none 0 0) :
    Gives P (ev n σ) S (.binOp .eql t x y t') ty (.bool true) := fun w _ => by
  have h0 := run_equal_slice_nil (P := P) w t e none 0 0 hT
  have h1 : (binOp .eql t (.slice none 0 0) (.slice none 0 0)).run P w = .ok (.bool true) w := by
    simp only [binOp]
    simp [h0]
  simp only [execOp, hx, hy, Sem.run_bind, eqGuard, h1]
  simp [Result.andThen, h1]
theorem zero_build {n : Nat} {σ : Nat → Value} {S : World → Prop} {ty : TypeId} : Gives Tryd.prog (ev n σ) S (.build 103 #[]) ty (.agg #[]) := fun w _ => by kernel_rfl

set_option maxHeartbeats 1000000 in
theorem takeP_c (b : Nat) (ad : Option Addr) (cap : Nat) (l : List Int) (n : Int) (w0 : World) (I0 : Imm) (hI : Sat I0 w0) (hb : w0.heap[b]? = some (.cells [.slice ad l.length cap].toArray 106 (0, 0))) (hn : I0 b = none) (hl : RBytes I0 (.slice ad l.length cap) l) (hnl : (l.length : Int) < n) :
    CtrE Tryd.prog 47 [.pointer (some ⟨b, 0, none⟩), .int .i64 n] w0 shortV (fun _ _ => False) (fun w' => ∃ u, St [b] w0 I0 I0 w' [.cel b 106 [u]]) := by
  refine fnE (n := 32) Tryd.func47 rfl rfl rfl ?_
  have hS : St [b] w0 I0 I0 w0 [.cel b 106 [.slice ad l.length cap]] := St.startX hI hb hn
  refine wpIn_seq ?_
  refine reg ?_
  refine qq hS (g_assign _) ?_
  refine ol_nil (thenN ?_)
  refine wpIn_seq ?_
  refine wpIn_seq ?_
  refine reg ?_
  refine qq hS (g_movev (v := .int .i64 _) rfl) ?_
  refine qq hS (g_move _) ?_
  refine qq hS (g_nilCheck rfl) ?_
  refine qq hS (g_fieldAddr (o' := 0) Tryd.underlying106 rfl Tryd.sizeOf25 rfl rfl rfl) ?_
  refine qq hS (g_ldO1 0 Tryd.isAgg25 rfl rfl rfl) ?_
  refine qq hS (g_lenI rfl Tryd.underlying25 hl rfl) ?_
  refine qq hS (g_castT (g_gtr rfl rfl) (congrArg Value.bool (decide_eq_true (by omega)))) ?_
  refine ol_nil (thenN ?_)
  refine cond_t (rfl) ?_
  refine regX ?_
  refine qqX hS zero_build ?_
  refine qqX hS (g_makeIface Tryd.underlying103 rfl) ?_
  refine qpX rfl ?_
  refine thenP ?_
  exact panE (v0 := shortV) ⟨_, hS⟩

set_option maxHeartbeats 1000000 in
theorem numberP_c (b : Nat) (ad : Option Addr) (cap : Nat) (l : List Int) (wd : Nat) (w0 : World) (I0 : Imm) (hI : Sat I0 w0) (hb : w0.heap[b]? = some (.cells [.slice ad l.length cap].toArray 106 (0, 0))) (hn : I0 b = none) (hl : RBytes I0 (.slice ad l.length cap) l) (hnl : l.length < wd) :
    CtrE Tryd.prog 48 [.pointer (some ⟨b, 0, none⟩), .int .i64 wd] w0 shortV (fun _ _ => False) (fun w' => ∃ u, St [b] w0 I0 I0 w' [.cel b 106 [u]]) := by
  refine fnE (n := 23) Tryd.func48 rfl rfl rfl ?_
  have hS : St [b] w0 I0 I0 w0 [.cel b 106 [.slice ad l.length cap]] := St.startX hI hb hn
  refine wpIn_seq ?_
  refine reg ?_
  refine qq hS (g_assignv (v := .int .i64 _) rfl) ?_
  refine ol_nil (thenN ?_)
  refine wpIn_seq ?_
  refine reg ?_
  refine qq hS (g_assignv (v := .int .i64 _) rfl) ?_
  refine ol_nil (thenN ?_)
  refine wpIn_seq ?_
  refine wpIn_seq ?_
  refine regX ?_
  refine qqX hS (g_move _) ?_
  refine qqX hS (g_movev (v := .int .i64 _) rfl) ?_
  refine qcX Tryd.call47 rfl (takeP_c b ad cap l wd _ _ hS.imm (own_heap hS (k := 0) rfl) (own_none hS (k := 0) rfl) hl (by omega)) ?_ ?_
  ·
    rintro w_2 ⟨u, hE⟩
    replace hS := hS.callX (k := 0) rfl hE
    refine thenP (thenP ?_)
    exact panE (v0 := shortV) ⟨_, hS⟩
  rintro _ w_1 hF
  exact hF.elim

/-- A number is read, or there are too few bytes. -/
theorem numW_c (b : Nat) (ad : Option Addr) (cap : Nat) (l : List Int) (wd : Nat) (w0 : World) (I0 : Imm) (hI : Sat I0 w0) (hb : w0.heap[b]? = some (.cells [.slice ad l.length cap].toArray 106 (0, 0))) (hn : I0 b = none) (hl : RBytes I0 (.slice ad l.length cap) l) (hw : wd ≤ 3) (hlb : Byt l) :
    CtrE Tryd.prog 48 [.pointer (some ⟨b, 0, none⟩), .int .i64 wd] w0 shortV (fun v w' => ∃ n l' a2 c2, v = .int .i64 n ∧ (0 ≤ n ∧ n + 1 ≤ 256 ^ wd) ∧ St [b] w0 I0 I0 w' [.cel b 106 [.slice a2 l'.length c2]] ∧ RBytes I0 (.slice a2 l'.length c2) l' ∧ Byt l') (fun w' => ∃ u, St [b] w0 I0 I0 w' [.cel b 106 [u]]) := by
  by_cases h : wd ≤ l.length
  · refine CtrE.mono (CtrE.ofCtr (number_c b ad cap l wd w0 I0 hI hb hn hl h (by omega) hlb)) ?_ (fun w' h => (h.elim : False).elim)
    rintro v w' ⟨a2, c2, rfl, hS, h2⟩
    have h3 := valC_bd (l.take wd) (byt_take hlb wd)
    rw [List.length_take, Nat.min_eq_left h] at h3
    exact ⟨_, l.drop wd, a2, c2, rfl, h3, hS, h2, byt_drop hlb wd⟩
  · exact CtrE.mono (numberP_c b ad cap l wd w0 I0 hI hb hn hl (by omega)) (fun v w' h => h.elim) (fun w' h => h)
/-- Bytes are taken, or there are too few. -/
theorem takeW_c (b : Nat) (ad : Option Addr) (cap : Nat) (l : List Int) (n : Int) (w0 : World) (I0 : Imm) (hI : Sat I0 w0) (hb : w0.heap[b]? = some (.cells [.slice ad l.length cap].toArray 106 (0, 0))) (hn : I0 b = none) (hl : RBytes I0 (.slice ad l.length cap) l) (hn0 : 0 ≤ n) (hlb : Byt l) :
    CtrE Tryd.prog 47 [.pointer (some ⟨b, 0, none⟩), .int .i64 n] w0 shortV (fun v w' => ∃ d l' a1 c1 a2 c2, v = .slice a1 d.length c1 ∧ (d.length : Int) = n ∧ St [b] w0 I0 I0 w' [.cel b 106 [.slice a2 l'.length c2]] ∧ RBytes I0 (.slice a1 d.length c1) d ∧ Byt d ∧ RBytes I0 (.slice a2 l'.length c2) l' ∧ Byt l') (fun w' => ∃ u, St [b] w0 I0 I0 w' [.cel b 106 [u]]) := by
  by_cases h : n ≤ l.length
  · obtain ⟨m, rfl⟩ : ∃ m : Nat, n = m := ⟨n.toNat, by omega⟩
    have hml : m ≤ l.length := by omega
    refine CtrE.mono (CtrE.ofCtr (take_c b ad cap l m w0 I0 hI hb hn hl hml)) ?_ (fun w' h => (h.elim : False).elim)
    rintro v w' ⟨a1, c1, a2, c2, rfl, hS, h1, h2⟩
    have e : (l.take m).length = m := by rw [List.length_take]; omega
    exact ⟨l.take m, l.drop m, a1, c1, a2, c2, by rw [e], by rw [e], hS, by rw [e]; exact h1, byt_take hlb m, h2, byt_drop hlb m⟩
  · exact CtrE.mono (takeP_c b ad cap l n w0 I0 hI hb hn hl (by omega)) (fun v w' h => h.elim) (fun w' h => h)

set_option maxHeartbeats 1000000 in
theorem decodeW_c (M : Mdl) (hM : MdlOk M) (s0 : M.S) (hs0 : M.inv s0) (n : Int) (hbeg : ∀ (w : World) (I : Imm), Sat I w → Ctr Tryd.prog 38 [.int .i64 n] w (fun v w' => ∃ I' F, Ext w I w' I' ∧ M.holds I' v s0 F ∧ ∀ c ∈ F, w.heap.size ≤ c))
    (len : Int) (hl0 : 0 ≤ len) (ad : Option Addr) (cap : Nat) (b : List Int) (hbb : Byt b) (w0 : World) (I0 : Imm) (hI : Sat I0 w0) (hb : RBytes I0 (.slice ad b.length cap) b) :
    CtrE Tryd.prog 49 [.int .i64 n, .slice ad b.length cap, .int .i64 len] w0 shortV (fun v w' => ∃ I' rb x a c, v = .pointer (some ⟨rb, 0, none⟩) ∧ St [] w0 I0 I' w' [.cel rb 106 [.slice a x.length c]] ∧ RBytes I' (.slice a x.length c) x ∧ Byt x) (fun w' => ∃ I', Ext w0 I0 w' I') := by
  refine fnE (n := 23) Tryd.func49 rfl rfl rfl ?_
  have hS := St.start hI
  refine wpIn_seq ?_
  refine reg ?_
  refine qq hS (g_assign _) ?_
  refine ol_nil (thenN ?_)
  refine wpIn_seq ?_
  refine reg ?_
  refine qq hS (g_movev (v := .int .i64 _) rfl) ?_
  refine qq hS (g_move _) ?_
  refine qq hS (g_movev (v := .int .i64 _) rfl) ?_
  refine qe (d_call Tryd.call64 rfl (decw_c M hM s0 hs0 n hbeg len hl0 _ _ b hbb _ _ hS.imm hb)) ?_
  rintro _ w_1 ⟨I_f, a13, m13, c13, e13, rfl, hE, h13⟩
  replace hS := hS.callE hE
  refine qq hS (g_move _) ?_
  refine qq hS (g_extract rfl rfl) ?_
  refine qq hS (g_extract (v := .int .i64 _) rfl rfl) ?_
  refine qq hS (g_assign _) ?_
  refine qq hS (g_assignv (v := .int .i64 _) rfl) ?_
  refine ol_nil (thenN ?_)
  refine wpIn_seq ?_
  refine wpIn_seq ?_
  refine reg ?_
  refine qq hS (g_movev (v := .int .i64 _) rfl) ?_
  refine qq hS (g_neq rfl rfl) ?_
  refine ol_nil (thenN ?_)
  refine cond_s rfl ?_ ?_
  ·
    intro hc17
    try simp only [Bool.and_eq_true, Bool.or_eq_true, Bool.not_eq_true', Bool.and_eq_false_imp, Bool.or_eq_false_iff, Bool.not_eq_false', decide_eq_true_eq, decide_eq_false_iff_not] at hc17
    refine regX ?_
    refine qqX hS zero_build ?_
    refine qqX hS (g_makeIface Tryd.underlying103 rfl) ?_
    refine qpX rfl ?_
    refine thenP ?_
    exact panE (v0 := shortV) ⟨_, hS.nil⟩
  ·
    intro hc17
    try simp only [Bool.and_eq_true, Bool.or_eq_true, Bool.not_eq_true', Bool.and_eq_false_imp, Bool.or_eq_false_iff, Bool.not_eq_false', decide_eq_true_eq, decide_eq_false_iff_not] at hc17
    have he0 : e13 = 0 := by omega
    obtain ⟨x, rfl, hx1, hx2, hxb, _, hx⟩ := h13 he0
    refine wpIn_skip ?_
    refine thenN ?_
    refine wpIn_seq ?_
    refine reg ?_
    refine qq hS (g_move _) ?_
    refine qq hS (g_buildv (pl := [(0, 1)]) (cs := [.slice _ _ _]) Tryd.zeroValue106 Tryd.underlying106 (fun w => by simp [Tryd.sizeOf25]) (mp rfl mp0) rfl) ?_
    refine qe (d_box (cs := [.slice _ _ _]) hS rfl) ?_
    clear hS
    rintro _ w_2 ⟨rb, rfl, hS⟩
    refine qq hS (g_assign _) ?_
    refine ol_nil (thenN ?_)
    refine wpIn_ret ?_
    refine retE (ret1 Tryd.results49 (rv_tmp rfl) ?_)
    exact ⟨_, rb, x, _, _, rfl, hS, hx, hxb⟩

set_option maxHeartbeats 1000000 in
theorem cloneS_c (aa : Addr) (cap : Nat) (l : List Int) (w0 : World) (I0 : Imm) (hI : Sat I0 w0) (hl : RBytes I0 (.slice (some aa) l.length cap) l) (h48 : l.length ≤ 16777216) :
    Ctr Tryd.prog 65 [.slice (some aa) l.length cap] w0 (fun v w' => ∃ I' a c, v = .slice a l.length c ∧ Ext w0 I0 w' I' ∧ RBytes I' (.slice a l.length c) l) := by
  have hll := RSl.le hl
  simp only [maxLen] at hll
  refine fn (n := 8) Tryd.func65 rfl rfl rfl ?_
  have hS := St.start hI
  refine wpIn_seq ?_
  refine reg ?_
  refine qq hS (g_assign _) ?_
  refine ol_nil (thenN ?_)
  refine wpIn_seq ?_
  refine wpIn_seq ?_
  refine reg ?_
  refine qq hS (g_move _) ?_
  refine qq hS (g_eqSliceNil Tryd.underlying25 rfl rfl) ?_
  refine ol_nil (thenN ?_)
  refine cond_f (rfl) ?_
  refine wpIn_skip ?_
  refine thenN ?_
  refine wpIn_seq ?_
  refine reg ?_
  refine qe (d_buildSlice0 hS Tryd.underlying25 Tryd.sizeOf5) ?_
  clear hS
  rintro _ w_1 ⟨hS, b5_, rfl⟩
  refine qq hS (g_move _) ?_
  refine qe (i_appendF 0 hS rfl Tryd.underlying25 info5 rfl rfl rfl rfl byteC_len (fun _ => rfl) hl rfl (by omega) (by omega)) ?_
  clear hS
  rintro _ w_2 ⟨a7, p7, rfl, hS⟩
  refine qq hS (g_assign _) ?_
  refine ol_nil (thenN ?_)
  refine wpIn_ret ?_
  refine ret1 Tryd.results65 (rv_tmp rfl) ?_
  rw [Nat.zero_add, List.nil_append] at hS
  obtain ⟨I9, hS9, _, h9⟩ := St.freezeRow (u := .slice a7 l.length p7) (m := l.length) (E := 5) (xs := l) byteC_len hS rfl
  rw [Nat.zero_add]
  exact ⟨I9, a7, p7, rfl, hS9, h9⟩

theorem cloneN_c (w0 : World) (I0 : Imm) (hI : Sat I0 w0) : Ctr Tryd.prog 65 [.slice none 0 0] w0 (fun v w' => v = .slice none 0 0 ∧ Ext w0 I0 w' I0) := by
  refine fn (n := 8) Tryd.func65 rfl rfl rfl ?_
  have hS := St.start hI
  refine wpIn_seq ?_
  refine reg ?_
  refine qq hS (g_assign _) ?_
  refine ol_nil (thenN ?_)
  refine wpIn_seq ?_
  refine wpIn_seq ?_
  refine reg ?_
  refine qq hS (g_move _) ?_
  refine qq hS (g_eqNilNil Tryd.underlying25 rfl rfl) ?_
  refine ol_nil (thenN ?_)
  refine cond_t (rfl) ?_
  refine wpIn_seq ?_
  refine reg ?_
  refine qq hS (g_assign _) ?_
  refine ol_nil (thenN ?_)
  refine wpIn_ret ?_
  refine thenR ?_
  refine ret1 Tryd.results65 (rv_tmp rfl) ?_
  exact ⟨rfl, hS.nil⟩

theorem cloneW_c (ad : Option Addr) (cap : Nat) (l : List Int) (w0 : World) (I0 : Imm) (hI : Sat I0 w0) (hl : RBytes I0 (.slice ad l.length cap) l) (h2 : l.length ≤ 16777216) :
    Ctr Tryd.prog 65 [.slice ad l.length cap] w0 (fun v w' => ∃ I' a c, v = .slice a l.length c ∧ Ext w0 I0 w' I' ∧ RBytes I' (.slice a l.length c) l) := by
  cases ad with
  | some aa => exact cloneS_c aa cap l w0 I0 hI hl h2
  | none =>
    obtain ⟨rfl, rfl⟩ : l = [] ∧ cap = 0 := by
      rcases hl with ⟨⟨a, c, h1, _, h3⟩, rfl⟩ | ⟨b, o, c, h1, _⟩
      · injection h1 with e1 e2 e3; subst e1; exact ⟨rfl, by rw [e3]; exact h3 rfl⟩
      · injection h1 with e1; cases e1
    exact (cloneN_c w0 I0 hI).mono fun v w' ⟨h1, h2⟩ => ⟨I0, none, 0, h1, h2, RFl.nil⟩

end Go.Proofs.YtdgnojckkjfhfaaDoor

