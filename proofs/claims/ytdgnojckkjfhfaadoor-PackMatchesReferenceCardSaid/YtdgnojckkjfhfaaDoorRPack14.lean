/- inlayref14: numbers read, Pack. Conditions: numbers within bounds. -/
import Derived.Test.YtdgnojckkjfhfaaDoorRDec13
import Derived.Test.YtdgnojckkjfhfaaDoorRef8
import Derived.Test.YtdgnojckkjfhfaaDoorPSizes
import Derived.Test.YtdgnojckkjfhfaaDoorNum14
namespace Go.Proofs.YtdgnojckkjfhfaaDoor
open Go Go.RowKit Go.Inl
set_option linter.unusedSimpArgs false
set_option linter.unusedVariables false
theorem right14_c (p : PatL) (ad : Option Addr) (m cap : Nat) (w0 : World) (I0 : Imm) (hI : Sat I0 w0) (hops : ROps I0 (.slice ad m cap) p.ops) (hp : p.wf) :
    Ctr Tryd.prog 27 [.agg #[.bool p.lifted, .int .i64 p.in_, .int .i64 p.out, .slice ad m cap]] w0 (fun v w' => v = .bool (decide ((checkP p).2 = 0)) ∧ Ext w0 I0 w' I0) := by
  have h := rightP_c p ad m cap w0 I0 hI hops hp
  rw [decide_eq_decide.2 (checkR_iff p)] at h
  exact h
theorem encr1_c (n : Nat) (ad : Option Addr) (cap : Nat) (b : List Int) (w0 : World) (I0 : Imm) (hI : Sat I0 w0) (hb : RBytes I0 (.slice ad n cap) b) (hn : n = b.length) (hbb : Byt b) (hbl : b.length ≤ 65536) :
    Ctr Tryd.prog 28 [.int .i64 1, .slice ad n cap] w0 (fun v w' => ∃ I' a c, v = .tuple #[.slice a (code1 b).length c, .int .i64 0] ∧ Ext w0 I0 w' I' ∧ RBytes I' (.slice a (code1 b).length c) (code1 b)) := by
  subst hn; exact encr_c mdl1 mdl1_ok 1 (.inl rfl) rep1 adOne adOne_ok rfl ad cap b w0 I0 hI hb hbb hbl
theorem rep2_z : rep2.rel s2z (fun _ => adOne) 0 := ⟨rfl, Int.le_refl _, fun _ => rfl⟩
theorem encr2_c (n : Nat) (ad : Option Addr) (cap : Nat) (b : List Int) (w0 : World) (I0 : Imm) (hI : Sat I0 w0) (hb : RBytes I0 (.slice ad n cap) b) (hn : n = b.length) (hbb : Byt b) (hbl : b.length ≤ 65536) :
    Ctr Tryd.prog 28 [.int .i64 2, .slice ad n cap] w0 (fun v w' => ∃ I' a c, v = .tuple #[.slice a (code2 b).length c, .int .i64 0] ∧ Ext w0 I0 w' I' ∧ RBytes I' (.slice a (code2 b).length c) (code2 b)) := by
  subst hn; exact encr_c mdl2 mdl2_ok 2 (.inr rfl) rep2 s2z s2z_ok rep2_z ad cap b w0 I0 hI hb hbb hbl
def hd10 (p : PatL) : List Int := [80, lft p] ++ numB 3 p.in_ ++ numB 3 p.out ++ numB 2 (p.ops.length : Int)
def lens (p : PatL) : List Int := [((lsP p.ops).length : Int), ((code1 (lsP p.ops)).length : Int), ((dtP p.ops).length : Int), ((code2 (dtP p.ops)).length : Int)]
theorem lft_b (p : PatL) : lft p = 0 ∨ lft p = 1 := by unfold lft; cases p.lifted <;> simp
theorem headP_10 (p : PatL) : headP p = hd10 p ++ numsB 3 (lens p) := by
  have h : numsB 1 [80, lft p] = [80, lft p] := by
    have := lft_b p
    show [(80 : Int) / 256 ^ 0 % 256] ++ ([lft p / 256 ^ 0 % 256] ++ []) = _
    rcases this with h | h <;> rw [h] <;> rfl
  rw [headP_eq, h]
  unfold hd10 lens numsB
  simp only [List.nil_append, List.flatMap_cons, List.flatMap_nil, List.append_nil, List.append_assoc]
theorem hd10_flat (p : PatL) : flat byteC (hd10 p ++ numsB 3 ((lens p).take 0)) = [.int .u8 80, .int .u8 (lft p)] ++ flat byteC (numB 3 p.in_) ++ flat byteC (numB 3 p.out) ++ flat byteC (numB 2 (p.ops.length : Int)) := by
  have : numsB 3 ((lens p).take 0) = [] := rfl
  rw [this, List.append_nil]
  unfold hd10
  rw [flat_append, flat_append, flat_append]; rfl
theorem body_flat (p : PatL) : flat byteC (hd10 p ++ numsB 3 ((lens p).take 4)) ++ flat byteC (code1 (lsP p.ops)) ++ flat byteC (code2 (dtP p.ops)) = flat byteC (bodyP p) := by
  have : (lens p).take 4 = lens p := rfl
  rw [this, ← headP_10, ← flat_append, ← flat_append]; rfl
theorem lens_at {p : PatL} {k : Nat} {n : Int} (h : (lens p)[k]? = some n) : [Value.int .i64 ((lsP p.ops).length : Int), .int .i64 ((code1 (lsP p.ops)).length : Int), .int .i64 ((dtP p.ops).length : Int), .int .i64 ((code2 (dtP p.ops)).length : Int)][k]? = some (.int .i64 n) := by
  show ((lens p).map (Value.int .i64))[k]? = _
  rw [List.getElem?_map, h]; rfl
theorem fill4 (z0 z1 z2 z3 : Value) (a b c d : Int) : Instr.fill (fun i => some (i * 1, 1)) #[z0, z1, z2, z3] [(0, .int .i64 a), (1, .int .i64 b), (2, .int .i64 c), (3, .int .i64 d)] = some #[.int .i64 a, .int .i64 b, .int .i64 c, .int .i64 d] := by
  simp [Instr.fill, Value.cells, List.zipIdx]
structure RpW where
  k : Nat
  a : Option Addr
  c : Nat
attribute [local irreducible] packP bodyP headP code1 code2 Inl.sumP numsB
set_option maxHeartbeats 1000000 in
theorem valueR_c (ad : Option Addr) (cap : Nat) (l : List Int) (hl3 : l.length ≤ 3) (hlb : Byt l) (w0 : World) (I0 : Imm) (hI : Sat I0 w0) (hl : RBytes I0 (.slice ad l.length cap) l) :
    Ctr Tryd.prog 32 [.slice ad l.length cap] w0 (fun v w' => v = .int .i64 (valC l) ∧ Ext w0 I0 w' I0) := by
  refine fn (n := 20) Tryd.func32 rfl rfl rfl ?_
  have hS := St.start hI
  refine wpIn_seq ?_
  refine reg ?_
  refine qq hS (g_assignv (v := .int .i64 _) rfl) ?_
  refine ol_nil (thenN ?_)
  refine wpIn_seq ?_
  refine reg ?_
  refine qq hS (g_assignv (v := .int .i64 _) rfl) ?_
  refine ol_nil (thenN ?_)
  refine wpIn_seq ?_
  refine wpIn_seq ?_
  refine reg ?_
  refine qq hS (g_assignv (v := .int .i64 _) rfl) ?_
  refine ol_nil (thenN ?_)
  refine wpIn_block ?_
  refine loop (fun (k : Nat) σ w => okS σ [(0, .slice ad l.length cap), (3, .int .i64 (valC (l.take k))), (4, .int .i64 k)] ∧ St [] w0 I0 I0 w [] ∧ k ≤ l.length) (fun k => l.length - k) (0) ?_ ?_
  ·
    exact ⟨⟨rfl, rfl, rfl, trivial⟩, hS.sel [], by omega⟩
  ·
    rintro k σ w_l ⟨hs, hS, hk0⟩
    rw [← upds_self hs]; clear hs
    refine wpIn_seq ?_
    refine wpIn_seq ?_
    refine reg ?_
    refine qq hS (g_movev (v := .int .i64 _) rfl) ?_
    refine qq hS (g_move _) ?_
    refine qq hS (g_lenI rfl Tryd.underlying25 hl rfl) ?_
    refine qq hS (g_lss rfl rfl) ?_
    refine ol_nil (thenN ?_)
    refine cond_s rfl ?_ ?_
    ·
      intro hc8
      try simp only [Bool.and_eq_true, Bool.or_eq_true, Bool.not_eq_true', Bool.and_eq_false_imp, Bool.or_eq_false_iff, Bool.not_eq_false', decide_eq_true_eq, decide_eq_false_iff_not] at hc8
      obtain ⟨x, hxi⟩ : ∃ x, l[k]? = some x := ⟨_, List.getElem?_eq_getElem (by omega)⟩
      have hxA := hl.at hxi
      have hxb := hlb x (List.mem_of_getElem? hxi)
      have hvb := valC_bd (l.take k) (byt_take hlb k)
      have hpw := pow256 (w := (l.take k).length) (by rw [List.length_take]; omega)
      have hvt := valC_take hxi
      obtain ⟨q, hq⟩ : ∃ q, valC (l.take k) = q := ⟨_, rfl⟩
      rw [hq] at hvb hvt
      have hw : IntKind.i64.wrap (256 * valC (l.take k) + x) = valC (l.take (k + 1)) := by rw [hq, hvt, IntKind.wrap_i64]; omega
      refine wpIn_skip ?_
      refine thenN ?_
      refine wpIn_seq ?_
      refine wpIn_block ?_
      refine reg ?_
      refine qq hS (g_movev (v := .int .i64 _) rfl) ?_
      refine qq hS (g_mul rfl rfl (by omega) (by omega)) ?_
      refine qq hS (g_move _) ?_
      refine qq hS (g_movev (v := .int .i64 _) rfl) ?_
      refine qq hS (g_ixI Tryd.underlying25 Tryd.sizeOf5 hl rfl rfl (by omega) (by omega)) ?_
      refine qq hS (g_ldE1 Tryd.isAgg5 hxA rfl rfl) ?_
      refine qq hS (g_convi Tryd.underlying5 Tryd.underlying3 rfl (by omega) (by omega)) ?_
      refine qq hS (g_addu rfl rfl hw) ?_
      refine qq hS (g_assignv (v := .int .i64 _) rfl) ?_
      refine ol_nil (blkN (thenN ?_))
      refine reg ?_
      refine qq hS (g_movev (v := .int .i64 _) rfl) ?_
      refine qq hS (g_add rfl rfl (by omega) (by omega)) ?_
      refine qq hS (g_assignv (v := .int .i64 _) rfl) ?_
      exact ⟨k + 1, _, rfl, ⟨⟨rfl, rfl, rfl, trivial⟩, hS.sel [], by omega⟩, by omega⟩
    ·
      intro hc8
      try simp only [Bool.and_eq_true, Bool.or_eq_true, Bool.not_eq_true', Bool.and_eq_false_imp, Bool.or_eq_false_iff, Bool.not_eq_false', decide_eq_true_eq, decide_eq_false_iff_not] at hc8
      obtain rfl : k = l.length := by omega
      rw [List.take_length] at *
      refine wpIn_exit ?_
      refine thenE (thenE (blkE ?_))
      refine thenN ?_
      refine wpIn_seq ?_
      refine reg ?_
      refine qq hS (g_movev (v := .int .i64 _) rfl) ?_
      refine qq hS (g_assignv (v := .int .i64 _) rfl) ?_
      refine ol_nil (thenN ?_)
      refine wpIn_ret ?_
      refine ret1 Tryd.results32 (rv_tmp (v := .int .i64 _) rfl) ?_
      exact ⟨rfl, hS.nil⟩

set_option maxHeartbeats 1000000 in
theorem sumO_c (ad : Option Addr) (cap n : Nat) (l : List Int) (w0 : World) (I0 : Imm) (hI : Sat I0 w0) (hl : RBytes I0 (.slice ad n cap) l) (hb : Byt l) (hn : n = l.length) :
    Ctr Tryd.prog 14 [.slice ad n cap] w0 (fun v w' => ∃ I' a c, v = .slice a 4 c ∧ St [] w0 I0 I' w' [.row (.slice a 4 c) 5 1 4 (flat byteC (Inl.sumP l))]) := by
  subst hn
  have hll := RSl.le hl
  simp only [maxLen] at hll
  refine fn (n := 29) Tryd.func14 rfl rfl rfl ?_
  have hS := St.start hI
  refine wpIn_seq ?_
  refine reg ?_
  refine qq hS (g_assign _) ?_
  refine ol_nil (thenN ?_)
  refine wpIn_seq ?_
  refine reg ?_
  refine qq hS (g_assignv (v := .int .i64 _) rfl) ?_
  refine qq hS (g_assignv (v := .int .i64 _) rfl) ?_
  refine ol_nil (thenN ?_)
  refine wpIn_seq ?_
  refine wpIn_seq ?_
  refine reg ?_
  refine qq hS (g_assignv (v := .int .i64 _) rfl) ?_
  refine ol_nil (thenN ?_)
  refine wpIn_block ?_
  refine loop (fun (k : Nat) σ w => okS σ [(0, .slice ad l.length cap), (3, .int .i64 (adl (l.take k)).1), (4, .int .i64 (adl (l.take k)).2), (5, .int .i64 k)] ∧ St [] w0 I0 I0 w [] ∧ k ≤ l.length) (fun k => l.length - k) (0) ?_ ?_
  ·
    exact ⟨⟨rfl, rfl, rfl, rfl, trivial⟩, hS.sel [], by omega⟩
  ·
    rintro k σ w_l ⟨hs, hS, hk0⟩
    rw [← upds_self hs]; clear hs
    refine wpIn_seq ?_
    refine wpIn_seq ?_
    refine reg ?_
    refine qq hS (g_movev (v := .int .i64 _) rfl) ?_
    refine qq hS (g_move _) ?_
    refine qq hS (g_lenI rfl Tryd.underlying25 hl rfl) ?_
    refine qq hS (g_lss rfl rfl) ?_
    refine ol_nil (thenN ?_)
    refine cond_s rfl ?_ ?_
    ·
      intro hc9
      try simp only [Bool.and_eq_true, Bool.or_eq_true, Bool.not_eq_true', Bool.and_eq_false_imp, Bool.or_eq_false_iff, Bool.not_eq_false', decide_eq_true_eq, decide_eq_false_iff_not] at hc9
      obtain ⟨x, hxi⟩ : ∃ x, l[k]? = some x := ⟨_, List.getElem?_eq_getElem (by omega)⟩
      have hxA := hl.at hxi
      have hxb := hb x (List.mem_of_getElem? hxi)
      have hsn := adl_succ hxi
      obtain ⟨s1, s2, s3, s4⟩ := adl_bd (l.take k)
      refine wpIn_skip ?_
      refine thenN ?_
      refine wpIn_seq ?_
      refine wpIn_block ?_
      refine wpIn_seq ?_
      refine reg ?_
      refine qq hS (g_movev (v := .int .i64 _) rfl) ?_
      refine qq hS (g_move _) ?_
      refine qq hS (g_movev (v := .int .i64 _) rfl) ?_
      refine qq hS (g_ixI Tryd.underlying25 Tryd.sizeOf5 hl rfl rfl (by omega) (by omega)) ?_
      refine qq hS (g_ldE1 Tryd.isAgg5 hxA rfl rfl) ?_
      refine qq hS (g_convi Tryd.underlying5 Tryd.underlying3 rfl (by omega) (by omega)) ?_
      refine qq hS (g_add rfl rfl (by omega) (by omega)) ?_
      refine qq hS (g_rem rfl rfl (by omega) (by decide)) ?_
      refine qq hS (g_assignv (v := .int .i64 _) rfl) ?_
      refine ol_nil (thenN ?_)
      refine reg ?_
      refine qq hS (g_movev (v := .int .i64 _) rfl) ?_
      refine qq hS (g_movev (v := .int .i64 _) rfl) ?_
      refine qq hS (g_add rfl rfl (by omega) (by omega)) ?_
      refine qq hS (g_rem rfl rfl (by omega) (by decide)) ?_
      refine qq hS (g_assignv (v := .int .i64 _) rfl) ?_
      refine ol_nil (blkN (thenN ?_))
      refine reg ?_
      refine qq hS (g_movev (v := .int .i64 _) rfl) ?_
      refine qq hS (g_add rfl rfl (by omega) (by omega)) ?_
      refine qq hS (g_assignv (v := .int .i64 _) rfl) ?_
      refine ⟨k + 1, _, rfl, ⟨⟨rfl, ?_, ?_, rfl, trivial⟩, hS.sel [], by omega⟩, by omega⟩
      · rw [hsn]; rfl
      · rw [hsn]; rfl
    ·
      intro hc9
      try simp only [Bool.and_eq_true, Bool.or_eq_true, Bool.not_eq_true', Bool.and_eq_false_imp, Bool.or_eq_false_iff, Bool.not_eq_false', decide_eq_true_eq, decide_eq_false_iff_not] at hc9
      obtain rfl : k = l.length := by omega
      rw [List.take_length] at *
      obtain ⟨s1, s2, s3, s4⟩ := adl_bd l
      have hq1 := numB_len 2 (adl l).2
      have hq2 := numB_len 2 (adl l).1
      refine wpIn_exit ?_
      refine thenE (thenE (blkE ?_))
      refine thenN ?_
      refine wpIn_seq ?_
      refine reg ?_
      refine qq hS (g_movev (v := .int .i64 _) rfl) ?_
      refine qe (d_call Tryd.call29 rfl (numberO_c _ 2 _ _ hS.imm (by omega) (by decide))) ?_
      rintro _ w_1 ⟨a25, c25, rfl, hE⟩
      replace hS := hS.call hE
      refine qq hS (g_movev (v := .int .i64 _) rfl) ?_
      refine qe (d_call Tryd.call29 rfl (numberF_c _ 2 _ _ hS.imm (by omega) (by decide))) ?_
      rintro _ w_2 ⟨I_f, a27, c27, rfl, hE, h27⟩
      replace hS := hS.callE hE
      replace hl := hl.mono hE.ext
      refine qe (i_appendF 0 hS rfl Tryd.underlying25 info5 rfl rfl rfl rfl byteC_len (fun _ => rfl) h27 rfl (by omega) (by omega)) ?_
      clear hS
      rintro _ w_3 ⟨a28, p28, rfl, hS⟩
      refine qq hS (g_assign _) ?_
      refine ol_nil (thenN ?_)
      refine wpIn_ret ?_
      refine ret1 Tryd.results14 (rv_tmp rfl) ?_
      rw [← flat_append, ← sumP_two] at hS
      exact ⟨_, a28, p28, rfl, hS.sel [true]⟩

set_option maxHeartbeats 2000000 in
theorem packRef_c (p : PatL) (ad : Option Addr) (m cap : Nat) (w0 : World) (I0 : Imm) (hI : Sat I0 w0) (hops : ROps I0 (.slice ad m cap) p.ops) (hp : p.wf) :
    Ctr Tryd.prog 12 [.agg #[.bool p.lifted, .int .i64 p.in_, .int .i64 p.out, .slice ad m cap]] w0 (fun v w' => ((checkP p).2 ≠ 0 ∧ v = .tuple #[.slice none 0 0, .int .i64 60] ∧ Ext w0 I0 w' I0) ∨ ((checkP p).2 = 0 ∧ ∃ I' a c, v = .tuple #[.slice a (packP p).length c, .int .i64 0] ∧ Ext w0 I0 w' I' ∧ RBytes I' (.slice a (packP p).length c) (packP p))) := by
  obtain ⟨ad2, cap2, hv2⟩ := RSl.sl hops
  obtain ⟨rfl, rfl, rfl⟩ : ad = ad2 ∧ m = p.ops.length ∧ cap = cap2 := by injection hv2 with h1 h2 h3; exact ⟨h1, h2, h3⟩
  refine fn (n := 81) Tryd.func12 rfl rfl rfl ?_
  have hS := St.start hI
  refine wpIn_seq ?_
  refine reg ?_
  refine qe (d_box (cs := [.bool _, .int .i64 _, .int .i64 _, .slice _ _ _]) hS rfl) ?_
  clear hS
  rintro _ w_1 ⟨b1, rfl, hS⟩
  refine qq hS (g_assign _) ?_
  refine qq hS (g_assignv (v := .int .i64 _) rfl) ?_
  refine ol_nil (thenN ?_)
  refine wpIn_seq ?_
  refine wpIn_seq ?_
  refine reg ?_
  refine qq hS (g_ldO 0 (vs := [.bool _, .int .i64 _, .int .i64 _, .slice _ _ _]) Tryd.sizeOf31 Tryd.isAgg31 rfl rfl rfl rfl) ?_
  refine qe (d_call Tryd.call27 rfl (right14_c p _ _ _ _ _ hS.imm hops hp)) ?_
  rintro _ w_2 ⟨rfl, hE⟩
  replace hS := hS.callE hE
  refine qq hS (g_not rfl) ?_
  refine ol_nil (thenN ?_)
  refine cond_s rfl ?_ ?_
  ·
    intro hc15
    have hbad : (checkP p).2 ≠ 0 := by simpa using hc15
    refine wpIn_seq ?_
    refine reg ?_
    refine qq hS (g_assign _) ?_
    refine qq hS (g_assignv (v := .int .i64 _) rfl) ?_
    refine ol_nil (thenN ?_)
    refine wpIn_ret ?_
    refine thenR ?_
    refine ret2 Tryd.results12 (rv_tmp rfl) (rv_tmp (v := .int .i64 _) rfl) ?_
    exact .inl ⟨hbad, rfl, hS.nil⟩
  ·
    intro hc15
    have hck : (checkP p).2 = 0 := by simpa using hc15
    have hG := patG_of hp hck
    obtain ⟨hG1, hG2⟩ := hG.in_
    obtain ⟨hG3, hG4⟩ := hG.out
    have hG5 := hG.n
    have hG6 := hG.dat
    have hl0 := lsP_le p.ops
    have hl1 := (code1_ok (lsP_byt p.ops)).2
    have hl2 := (code2_ok (dtP_byt hG.ops)).2
    have hNN : (10 + 3 * 4 + (code1 (lsP p.ops)).length + (code2 (dtP p.ops)).length) = (bodyP p).length := by rw [bodyP_len hG]
    have hq1 := numB_len 3 p.in_
    have hq2 := numB_len 3 p.out
    have hq3 := numB_len 2 (p.ops.length : Int)
    have hsl := sumP_len (bodyP p)
    refine wpIn_skip ?_
    refine thenN ?_
    refine wpIn_seq ?_
    refine reg ?_
    refine qq hS (g_ldO 0 (vs := [.bool _, .int .i64 _, .int .i64 _, .slice _ _ _]) Tryd.sizeOf31 Tryd.isAgg31 rfl rfl rfl rfl) ?_
    refine qe (d_call Tryd.call20 rfl (list14_c p _ _ _ _ _ hS.imm hops hG.ops hG.n hG.dat)) ?_
    rintro _ w_3 ⟨I_f, a18, c18, d18, e18, rfl, hE, hls, hdt⟩
    replace hS := hS.callE hE
    replace hops := hops.mono hE.ext
    refine qq hS (g_move _) ?_
    refine qq hS (g_extract rfl rfl) ?_
    refine qq hS (g_extract rfl rfl) ?_
    refine qq hS (g_assign _) ?_
    refine qq hS (g_assign _) ?_
    refine ol_nil (thenN ?_)
    refine wpIn_seq ?_
    refine reg ?_
    refine qq hS (g_move _) ?_
    refine qe (d_call Tryd.call28 rfl (encr1_c _ _ _ _ _ _ hS.imm hls rfl (lsP_byt _) (by omega))) ?_
    rintro _ w_4 ⟨I_f, a23, c23, rfl, hE, h23⟩
    replace hS := hS.callE hE
    replace hops := hops.mono hE.ext
    replace hls := hls.mono hE.ext
    replace hdt := hdt.mono hE.ext
    refine qq hS (g_move _) ?_
    refine qq hS (g_extract rfl rfl) ?_
    refine qq hS (g_extract (v := .int .i64 _) rfl rfl) ?_
    refine qq hS (g_assign _) ?_
    refine qq hS (g_assignv (v := .int .i64 _) rfl) ?_
    refine ol_nil (thenN ?_)
    refine wpIn_seq ?_
    refine reg ?_
    refine qq hS (g_move _) ?_
    refine qe (d_call Tryd.call28 rfl (encr2_c _ _ _ _ _ _ hS.imm hdt rfl (dtP_byt hG.ops) hG.dat)) ?_
    rintro _ w_5 ⟨I_f, a28, c28, rfl, hE, h28⟩
    replace hS := hS.callE hE
    replace hops := hops.mono hE.ext
    replace hls := hls.mono hE.ext
    replace hdt := hdt.mono hE.ext
    replace h23 := h23.mono hE.ext
    refine qq hS (g_move _) ?_
    refine qq hS (g_extract rfl rfl) ?_
    refine qq hS (g_extract (v := .int .i64 _) rfl rfl) ?_
    refine qq hS (g_assign _) ?_
    refine qq hS (g_assignv (v := .int .i64 _) rfl) ?_
    refine ol_nil (thenN ?_)
    refine wpIn_seq ?_
    refine reg ?_
    refine qe (d_lit (vs := [.int .u8 _, .int .u8 _]) (cs := [.int .u8 _, .int .u8 _]) hS Tryd.underlying25 Tryd.sizeOf5 Tryd.zeroValue5 rfl rfl rfl rfl (fun v hv => by simp only [List.mem_cons, List.not_mem_nil, or_false] at hv; rcases hv with rfl | rfl <;> rfl) rfl) ?_
    clear hS
    rintro _ w_6 ⟨b31, rfl, hS⟩
    refine qq hS (g_assign _) ?_
    refine ol_nil (thenN ?_)
    obtain ⟨J, hJ⟩ : ∃ J, J = I_f := ⟨_, rfl⟩
    rw [← hJ] at hS h23 h28 hls hdt hops
    refine meet (fun σ w => okS σ [(1, .pointer (some ⟨b1, 0, none⟩)), (4, .slice a18 (lsP p.ops).length c18), (5, .slice d18 (dtP p.ops).length e18), (6, .slice a23 (code1 (lsP p.ops)).length c23), (8, .slice a28 (code2 (dtP p.ops)).length c28), (10, .slice (some ⟨b31, 0, none⟩) 2 2)] ∧ St [] w0 I0 J w [.cel b31 5 [.int .u8 80, .int .u8 (lft p)], .cel b1 31 [.bool p.lifted, .int .i64 p.in_, .int .i64 p.out, .slice ad p.ops.length cap]]) ?_ ?_
    ·
      refine wpIn_seq ?_
      refine reg ?_
      refine qq hS (g_fieldAddr (o' := 0) Tryd.underlying31 rfl Tryd.sizeOf4 rfl rfl rfl) ?_
      refine qq hS (g_ldO1 1 Tryd.isAgg4 rfl rfl rfl) ?_
      refine ol_nil (thenN ?_)
      refine cond_s rfl ?_ ?_
      ·
        intro hc33
        try simp only [Bool.and_eq_true, Bool.or_eq_true, Bool.not_eq_true', Bool.and_eq_false_imp, Bool.or_eq_false_iff, Bool.not_eq_false', decide_eq_true_eq, decide_eq_false_iff_not] at hc33
        have hlf : lft p = 1 := by unfold lft; rw [if_pos hc33]
        refine reg ?_
        refine qq hS (g_move _) ?_
        refine qq hS (g_indexAddr Tryd.underlying25 Tryd.sizeOf5 rfl rfl (by omega) (by omega)) ?_
        refine qe (d_store 0 hS Tryd.sizeOf5 rfl rfl rfl (vs := [.int .u8 _]) rfl rfl rfl (Nat.le_of_ble_eq_true rfl) (cs' := [_, _]) rfl) ?_
        clear hS
        rintro _ w_7 ⟨rfl, hS⟩
        refine ol_nil (thenN ?_)
        rw [hlf]; exact ⟨_, rfl, ⟨rfl, rfl, rfl, rfl, rfl, rfl, trivial⟩, hS.sel [true, true]⟩
      ·
        intro hc33
        try simp only [Bool.and_eq_true, Bool.or_eq_true, Bool.not_eq_true', Bool.and_eq_false_imp, Bool.or_eq_false_iff, Bool.not_eq_false', decide_eq_true_eq, decide_eq_false_iff_not] at hc33
        have hlf : lft p = 0 := by unfold lft; rw [if_neg (by simpa using hc33)]
        refine wpIn_skip ?_
        refine thenN ?_
        rw [hlf]; exact ⟨_, rfl, ⟨rfl, rfl, rfl, rfl, rfl, rfl, trivial⟩, hS.sel [true, true]⟩
    ·
      rintro σ w ⟨hs, hS⟩
      rw [← upds_self hs]
      replace hS := hS.asRow (k := 0) (sz := 1) (m := 2) rfl rfl (by show 2 ≤ maxLen; decide)
      refine wpIn_seq ?_
      refine reg ?_
      refine qq hS (g_move _) ?_
      refine qq hS (g_fieldAddr (o' := 1) Tryd.underlying31 rfl Tryd.sizeOf3 rfl rfl rfl) ?_
      refine qq hS (g_ldO1 1 Tryd.isAgg3 rfl rfl rfl) ?_
      refine qe (d_call Tryd.call29 rfl (numberF_c p.in_ 3 _ _ hS.imm (by omega) (by decide))) ?_
      rintro _ w_8 ⟨I_f, a39, c39, rfl, hE, h39⟩
      replace hS := hS.callE hE
      replace hops := hops.mono hE.ext
      replace hls := hls.mono hE.ext
      replace hdt := hdt.mono hE.ext
      replace h23 := h23.mono hE.ext
      replace h28 := h28.mono hE.ext
      refine qe (i_appendF 0 hS rfl Tryd.underlying25 info5 rfl rfl rfl rfl byteC_len (fun _ => rfl) h39 rfl (by omega) (by omega)) ?_
      clear hS
      rintro _ w_9 ⟨a40, p40, rfl, hS⟩
      refine qq hS (g_assign _) ?_
      refine ol_nil (thenN ?_)
      refine wpIn_seq ?_
      refine reg ?_
      refine qq hS (g_move _) ?_
      refine qq hS (g_fieldAddr (o' := 2) Tryd.underlying31 rfl Tryd.sizeOf3 rfl rfl rfl) ?_
      refine qq hS (g_ldO1 1 Tryd.isAgg3 rfl rfl rfl) ?_
      refine qe (d_call Tryd.call29 rfl (numberF_c p.out 3 _ _ hS.imm (by omega) (by decide))) ?_
      rintro _ w_10 ⟨I_f, a44, c44, rfl, hE, h44⟩
      replace hS := hS.callE hE
      replace hops := hops.mono hE.ext
      replace hls := hls.mono hE.ext
      replace hdt := hdt.mono hE.ext
      replace h23 := h23.mono hE.ext
      replace h28 := h28.mono hE.ext
      replace h39 := h39.mono hE.ext
      refine qe (i_appendF 0 hS rfl Tryd.underlying25 info5 rfl rfl rfl rfl byteC_len (fun _ => rfl) h44 rfl (by omega) (by omega)) ?_
      clear hS
      rintro _ w_11 ⟨a45, p45, rfl, hS⟩
      refine qq hS (g_assign _) ?_
      refine ol_nil (thenN ?_)
      refine wpIn_seq ?_
      refine reg ?_
      refine qq hS (g_move _) ?_
      refine qq hS (g_fieldAddr (o' := 3) Tryd.underlying31 rfl Tryd.sizeOf29 rfl rfl rfl) ?_
      refine qq hS (g_ldO1 1 Tryd.isAgg29 rfl rfl rfl) ?_
      refine qq hS (g_lenI rfl Tryd.underlying29 hops rfl) ?_
      refine qe (d_call Tryd.call29 rfl (numberF_c (p.ops.length : Int) 2 _ _ hS.imm (by omega) (by decide))) ?_
      rintro _ w_12 ⟨I_f, a50, c50, rfl, hE, h50⟩
      replace hS := hS.callE hE
      replace hops := hops.mono hE.ext
      replace hls := hls.mono hE.ext
      replace hdt := hdt.mono hE.ext
      replace h23 := h23.mono hE.ext
      replace h28 := h28.mono hE.ext
      replace h39 := h39.mono hE.ext
      replace h44 := h44.mono hE.ext
      refine qe (i_appendF 0 hS rfl Tryd.underlying25 info5 rfl rfl rfl rfl byteC_len (fun _ => rfl) h50 rfl (by omega) (by omega)) ?_
      clear hS
      rintro _ w_13 ⟨a51, p51, rfl, hS⟩
      refine qq hS (g_assign _) ?_
      refine ol_nil (thenN ?_)
      refine wpIn_seq ?_
      refine reg ?_
      refine qq hS (g_move _) ?_
      refine qq hS (g_lenI rfl Tryd.underlying25 hls rfl) ?_
      refine qq hS (g_move _) ?_
      refine qq hS (g_lenI rfl Tryd.underlying25 h23 rfl) ?_
      refine qq hS (g_move _) ?_
      refine qq hS (g_lenI rfl Tryd.underlying25 hdt rfl) ?_
      refine qq hS (g_move _) ?_
      refine qq hS (g_lenI rfl Tryd.underlying25 h28 rfl) ?_
      refine qq hS (g_buildArr (sz := 1) (cs := [.int .i64 _, .int .i64 _, .int .i64 _, .int .i64 _]) Tryd.zeroValue68 Tryd.underlying68 Tryd.sizeOf3 (mp (v := .int .i64 _) rfl (mp (v := .int .i64 _) rfl (mp (v := .int .i64 _) rfl (mp (v := .int .i64 _) rfl mp0)))) (fill4 _ _ _ _ _ _ _ _)) ?_
      refine qe (d_alloc (cs := [.int .i64 _, .int .i64 _, .int .i64 _, .int .i64 _]) hS Tryd.zeroValue68 rfl) ?_
      clear hS
      rintro _ w_14 ⟨b11, rfl, hS⟩
      refine qe (d_store 0 hS Tryd.sizeOf68 rfl rfl rfl (vs := [.int .i64 _, .int .i64 _, .int .i64 _, .int .i64 _]) rfl rfl rfl (Nat.le_of_ble_eq_true rfl) (cs' := [_, _, _, _]) rfl) ?_
      clear hS
      rintro _ w_15 ⟨rfl, hS⟩
      refine ol_nil (thenN ?_)
      refine wpIn_seq ?_
      refine wpIn_seq ?_
      refine reg ?_
      refine qq hS (g_assignv (v := .int .i64 _) rfl) ?_
      refine ol_nil (thenN ?_)
      refine wpIn_block ?_
      refine loop (fun (z : RpW) σ w => okS σ [(6, .slice a23 (code1 (lsP p.ops)).length c23), (8, .slice a28 (code2 (dtP p.ops)).length c28), (10, .slice z.a (10 + 3 * z.k) z.c), (11, .pointer (some ⟨b11, 0, none⟩)), (12, .int .i64 z.k)] ∧ ∃ I, St [] w0 I0 I w [.row (.slice z.a (10 + 3 * z.k) z.c) 5 1 (10 + 3 * z.k) (flat byteC (hd10 p ++ numsB 3 ((lens p).take z.k))), .cel b11 68 [.int .i64 ((lsP p.ops).length : Int), .int .i64 ((code1 (lsP p.ops)).length : Int), .int .i64 ((dtP p.ops).length : Int), .int .i64 ((code2 (dtP p.ops)).length : Int)]] ∧ z.k ≤ 4 ∧ RBytes I (.slice a23 (code1 (lsP p.ops)).length c23) (code1 (lsP p.ops)) ∧ RBytes I (.slice a28 (code2 (dtP p.ops)).length c28) (code2 (dtP p.ops))) (fun z => 4 - z.k) (⟨0, a51, p51⟩) ?_ ?_
      ·
        refine ⟨⟨rfl, rfl, rfl, rfl, rfl, trivial⟩, _, ?_, Nat.zero_le _, h23, h28⟩
        dsimp only
        rw [hd10_flat]
        exact hS.ord [1, 0]
      ·
        rintro ⟨k, a, c⟩ σ w_l ⟨hs, I, hS, hk0, h23, h28⟩
        dsimp only at hs hS hk0 ⊢
        rw [← upds_self hs]; clear hs
        refine wpIn_seq ?_
        refine wpIn_seq ?_
        refine reg ?_
        refine qq hS (g_movev (v := .int .i64 _) rfl) ?_
        refine qq hS (g_lss rfl rfl) ?_
        refine ol_nil (thenN ?_)
        refine cond_s rfl ?_ ?_
        ·
          intro hc62
          try simp only [Bool.and_eq_true, Bool.or_eq_true, Bool.not_eq_true', Bool.and_eq_false_imp, Bool.or_eq_false_iff, Bool.not_eq_false', decide_eq_true_eq, decide_eq_false_iff_not] at hc62
          obtain ⟨n, hni⟩ : ∃ n, (lens p)[k]? = some n := ⟨_, List.getElem?_eq_getElem (by show k < 4; omega)⟩
          have hnm := List.mem_of_getElem? hni
          have hnb : 0 ≤ n ∧ n ≤ 4294967296 := by
            unfold lens at hnm
            simp only [List.mem_cons, List.not_mem_nil, or_false] at hnm
            omega
          have hns := numsB_succ 3 hni
          have hq4 := numB_len 3 n
          refine wpIn_skip ?_
          refine thenN ?_
          refine wpIn_seq ?_
          refine wpIn_block ?_
          refine reg ?_
          refine qq hS (g_move _) ?_
          refine qq hS (g_movev (v := .int .i64 _) rfl) ?_
          refine qq hS (g_indexArr (o' := k) Tryd.underlying68 Tryd.sizeOf3 rfl rfl (by omega) (by omega) (by omega)) ?_
          refine qq hS (g_ldO1 1 Tryd.isAgg3 rfl rfl (lens_at hni)) ?_
          refine qe (d_call Tryd.call29 rfl (numberF_c n 3 _ _ hS.imm (by omega) (by decide))) ?_
          rintro _ w_16 ⟨I_f, a69, c69, rfl, hE, h69⟩
          replace hS := hS.callE hE
          replace h23 := h23.mono hE.ext
          replace h28 := h28.mono hE.ext
          refine qe (i_appendF 0 hS rfl Tryd.underlying25 info5 rfl rfl rfl rfl byteC_len (fun _ => rfl) h69 rfl (by omega) (by omega)) ?_
          clear hS
          rintro _ w_17 ⟨a70, p70, rfl, hS⟩
          refine qq hS (g_assign _) ?_
          refine ol_nil (blkN (thenN ?_))
          refine reg ?_
          refine qq hS (g_movev (v := .int .i64 _) rfl) ?_
          refine qq hS (g_add rfl rfl (by omega) (by omega)) ?_
          refine qq hS (g_assignv (v := .int .i64 _) rfl) ?_
          refine ⟨⟨k + 1, a70, p70⟩, _, rfl, ⟨⟨rfl, rfl, rfl, rfl, rfl, trivial⟩, _, ?_, by dsimp only; omega, h23, h28⟩, by dsimp only; omega⟩
          dsimp only
          rw [hns, ← List.append_assoc, flat_append]
          exact hS.sel [true, true]
        ·
          intro hc62
          try simp only [Bool.and_eq_true, Bool.or_eq_true, Bool.not_eq_true', Bool.and_eq_false_imp, Bool.or_eq_false_iff, Bool.not_eq_false', decide_eq_true_eq, decide_eq_false_iff_not] at hc62
          obtain rfl : k = 4 := by omega
          refine wpIn_exit ?_
          refine thenE (thenE (blkE ?_))
          refine thenN ?_
          refine wpIn_seq ?_
          refine reg ?_
          refine qq hS (g_move _) ?_
          refine qq hS (g_move _) ?_
          refine qe (i_appendF 0 hS rfl Tryd.underlying25 info5 rfl rfl rfl rfl byteC_len (fun _ => rfl) h23 rfl (by omega) (by omega)) ?_
          clear hS
          rintro _ w_18 ⟨a73, p73, rfl, hS⟩
          refine qq hS (g_assign _) ?_
          refine ol_nil (thenN ?_)
          refine wpIn_seq ?_
          refine reg ?_
          refine qq hS (g_move _) ?_
          refine qq hS (g_move _) ?_
          refine qe (i_appendF 0 hS rfl Tryd.underlying25 info5 rfl rfl rfl rfl byteC_len (fun _ => rfl) h28 rfl (by omega) (by omega)) ?_
          clear hS
          rintro _ w_19 ⟨a76, p76, rfl, hS⟩
          refine qq hS (g_assign _) ?_
          refine ol_nil (thenN ?_)
          refine wpIn_seq ?_
          have hext0 := hS.ext
          have hF := St.freezeRowI (u := .slice a76 (10 + 3 * 4 + (code1 (lsP p.ops)).length + (code2 (dtP p.ops)).length) p76) (m := (10 + 3 * 4 + (code1 (lsP p.ops)).length + (code2 (dtP p.ops)).length)) (xs := flat byteC (bodyP p)) (E := 5) (sz := 1) (by rw [← body_flat]; exact hS.ord [0, 1])
          clear hS
          obtain ⟨I_hbd, hS, hI_hbd, hRI, hown⟩ := hF
          have hbd := RowI.flat byteC_len hRI (hNN)
          replace h23 := h23.mono hI_hbd
          replace h28 := h28.mono hI_hbd
          have hRI0 := hRI
          have hsat0 := hS.imm
          refine reg ?_
          refine qq hS (g_move _) ?_
          refine qq hS (g_move _) ?_
          refine qe (d_call Tryd.call14 rfl (sumO_c _ _ _ (bodyP p) _ _ hS.imm hbd (bodyP_byt hG) hNN)) ?_
          rintro _ w_20 ⟨I_f, a79, c79, rfl, hE⟩
          replace hS := hS.call hE
          replace h23 := h23.mono hE.ext
          replace h28 := h28.mono hE.ext
          replace hbd := hbd.mono hE.ext
          replace hRI := hRI.mono hE.ext
          have hn0 := fun b hb => (And.intro (sub_none hext0 (hown b hb).1) (hown b hb).2)
          have hq := hS.thaw hRI hn0
          refine Exists.elim hq fun J hJ => ?_
          clear hq
          have hSJ := hJ.1
          clear hJ hS
          replace hS := hSJ
          clear hSJ
          have hF := St.freezeRow (u := .slice a79 4 c79) (m := 4) (xs := Inl.sumP (bodyP p)) byteC_len (by exact hS.ord [1, 0, 2]) ((sumP_len _).symm)
          clear hS
          obtain ⟨I_h79, hS, hI_h79, h79⟩ := hF
          refine qe (i_appendF 0 hS rfl Tryd.underlying25 info5 rfl rfl rfl rfl byteC_len (fun _ => rfl) h79 rfl (by omega) (by omega)) ?_
          clear hS
          rintro _ w_21 ⟨a80, p80, rfl, hS⟩
          refine qq hS (g_assign _) ?_
          refine qq hS (g_assignv (v := .int .i64 _) rfl) ?_
          refine ol_nil (thenN ?_)
          refine wpIn_ret ?_
          refine ret2 Tryd.results12 (rv_tmp rfl) (rv_tmp (v := .int .i64 _) rfl) ?_
          have hnb9 : (10 + 3 * 4 + (code1 (lsP p.ops)).length + (code2 (dtP p.ops)).length) + (Inl.sumP (bodyP p)).length = (packP p).length := by rw [packP_len hG, hsl]; omega
          have hq9 := St.freezeRow (u := .slice a80 ((10 + 3 * 4 + (code1 (lsP p.ops)).length + (code2 (dtP p.ops)).length) + (Inl.sumP (bodyP p)).length) p80) (m := (10 + 3 * 4 + (code1 (lsP p.ops)).length + (code2 (dtP p.ops)).length) + (Inl.sumP (bodyP p)).length) (E := 5) (xs := packP p) byteC_len (by rw [packP_eq, flat_append]; exact hS.sel [true, false]) hnb9
          refine Exists.elim hq9 fun I9 hJ9 => ?_
          have hS9 := hJ9.1
          have hfin := hJ9.2.2
          clear hq9 hJ9 hS
          exact .inr ⟨hck, I9, a80, p80, congrArg (fun n : Nat => Value.tuple #[.slice a80 n p80, .int .i64 0]) hnb9, hS9.nil, (congrArg (fun n : Nat => RBytes I9 (.slice a80 n p80) (packP p)) hnb9).mp hfin⟩

end Go.Proofs.YtdgnojckkjfhfaaDoor

