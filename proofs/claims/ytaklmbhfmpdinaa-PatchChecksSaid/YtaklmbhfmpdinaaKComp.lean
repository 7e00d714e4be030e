/- compose.Through, Compose, fold, All: what they compute. Conditions: numbers within bounds. compose.Compose, fold, All, and those of inlayref09: what they compute. Conditions: numbers within bounds. compose.fold, All, inlayref09.All: what they compute. Conditions: numbers within bounds. Whole, Chain, Run, Input, Same: what they compute. Conditions: numbers within bounds. -/
import Derived.Test.YtaklmbhfmpdinaaKSmall
import Derived.Test.YtaklmbhfmpdinaaKLaw
import Derived.Test.YtaklmbhfmpdinaaPats
import Derived.Test.YtaklmbhfmpdinaaKSpec
import Derived.Test.YtaklmbhfmpdinaaRef8
import Derived.Test.YtaklmbhfmpdinaaKCut
namespace Go.Proofs.Ytaklmbhfmpdinaa
open Go Go.RowKit Go.Inl
set_option linter.unusedSimpArgs false
set_option linter.unusedVariables false
end Go.Proofs.Ytaklmbhfmpdinaa


namespace Go.Proofs.Ytaklmbhfmpdinaa
open Go Go.RowKit Go.Inl
set_option linter.unusedSimpArgs false
set_option linter.unusedVariables false
theorem symbols_e (p : PatL) (ad : Option Addr) (m cap : Nat) (A : List Sym × Int) (w0 : World) (I0 : Imm) (hI : Sat I0 w0) (hops : ROps I0 (.slice ad m cap) p.ops) (hp : p.wf) (he : symbolsP p = A) :
    Ctr Try.prog 10 [.agg #[.bool p.lifted, .int .i64 p.in_, .int .i64 p.out, .slice ad m cap]] w0 (fun v w' => ∃ I' a c, v = .tuple #[.slice a A.1.length c, .int .i64 A.2] ∧ Ext w0 I0 w' I' ∧ RSyms I' (.slice a A.1.length c) A.1) := by
  subst he; exact symbols_c p ad m cap w0 I0 hI hops hp
theorem symbolsP_len (p : PatL) : (symbolsP p).1.length ≤ 65536 := by
  unfold symbolsP
  split
  · rename_i h
    obtain ⟨h1, h2, h3, h4, h5, h6, h7⟩ := checkP_ok h
    show (symsOf p.ops).length ≤ 65536
    omega
  · simp
end Go.Proofs.Ytaklmbhfmpdinaa


namespace Go.Proofs.Ytaklmbhfmpdinaa
open Go Go.RowKit Go.Inl
set_option linter.unusedSimpArgs false
set_option linter.unusedVariables false
end Go.Proofs.Ytaklmbhfmpdinaa


namespace Go.Proofs.Ytaklmbhfmpdinaa
open Go Go.RowKit Go.Inl
set_option linter.unusedSimpArgs false
set_option linter.unusedVariables false
def wholeP (n : Int) : PatL := ⟨false, n, n, if 0 < n then [⟨1, 0, n, 0, []⟩] else []⟩
theorem wholeP_pos {n : Int} (h : 0 < n) : wholeP n = ⟨false, n, n, [⟨1, 0, n, 0, []⟩]⟩ := by unfold wholeP; rw [if_pos h]
theorem wholeP_zero {n : Int} (h : ¬ 0 < n) : wholeP n = ⟨false, n, n, []⟩ := by unfold wholeP; rw [if_neg h]
/-! ### Bytes -/
def runB (old : List Int) (s : Sym) : Int := if s.old then IntKind.u8.wrap (s.b + old.getD s.at_.toNat 0) else s.b
def runP (old : List Int) (l : List Sym) : List Int × Int := if l.any (badT old.length) then ([], 61) else (l.map (runB old), 0)
theorem runP_bad {a : List Int} {b : List Sym} {s : Sym} (hs : s ∈ b) (h : badT a.length s = true) : runP a b = ([], 61) := by
  unfold runP; rw [if_pos (List.any_eq_true.2 ⟨s, hs, h⟩)]
theorem runP_good {a : List Int} {b : List Sym} (h : ∀ s ∈ b, badT a.length s = false) : runP a b = (b.map (runB a), 0) := by
  unfold runP
  rw [if_neg]
  intro hb
  obtain ⟨s, hs, h1⟩ := List.any_eq_true.1 hb
  rw [h s hs] at h1; cases h1
theorem runB_lit {a : List Int} {s : Sym} (h : s.old = false) : runB a s = s.b := by unfold runB; rw [h]; rfl
theorem runB_old {a : List Int} {s : Sym} {x : Int} (h : s.old = true) (hx : a[s.at_.toNat]? = some x) : runB a s = IntKind.u8.wrap (s.b + x) := by
  unfold runB
  rw [h, List.getD_eq_getElem?_getD, hx]; rfl
theorem runB_bd {a : List Int} {s : Sym} (hs : s.wf) : 0 ≤ runB a s ∧ runB a s ≤ 255 := by
  unfold runB
  split
  · rw [wrap8]; omega
  · exact hs.2.2
theorem refWhole_c (n : Int) (w0 : World) (I0 : Imm) (hI : Sat I0 w0) (h0 : 0 ≤ n ∧ n ≤ 65536) :
    Ctr Try.prog 20 [.int .i64 n] w0 (fun v w' => ∃ I' a m c, v = .agg #[.bool (wholeP n).lifted, .int .i64 (wholeP n).in_, .int .i64 (wholeP n).out, .slice a m c] ∧ Ext w0 I0 w' I' ∧ ROps I' (.slice a m c) (wholeP n).ops) := by
  refine fn (n := 12) Try.func20 rfl rfl rfl ?_
  have hS := St.start hI
  refine wpIn_seq ?_
  refine reg ?_
  refine qe (d_alloc (cs := [.bool _, .int .i64 _, .int .i64 _, .slice _ _ _]) hS Try.zeroValue24 rfl) ?_
  clear hS
  rintro _ w_1 ⟨b2, rfl, hS⟩
  refine ol_nil (thenN ?_)
  refine wpIn_seq ?_
  refine wpIn_seq ?_
  refine reg ?_
  refine qq hS (g_movev (v := .int .i64 _) rfl) ?_
  refine qq hS (g_eql rfl rfl) ?_
  refine ol_nil (thenN ?_)
  refine cond_s rfl ?_ ?_
  ·
    intro hc4
    try simp only [Bool.and_eq_true, Bool.or_eq_true, Bool.not_eq_true', Bool.and_eq_false_imp, Bool.or_eq_false_iff, Bool.not_eq_false', decide_eq_true_eq, decide_eq_false_iff_not] at hc4
    have hn0 : n = 0 := hc4
    subst hn0
    have e : wholeP 0 = ⟨false, 0, 0, []⟩ := rfl
    refine wpIn_seq ?_
    refine reg ?_
    refine qq hS (g_buildv (pl := [(0, 1), (1, 1), (2, 1), (3, 1)]) (cs := [.bool _, .int .i64 _, .int .i64 _, .slice _ _ _]) Try.zeroValue24 Try.underlying24 (fun w => by simp [Try.sizeOf22, Try.sizeOf3, Try.sizeOf4]) mp0 rfl) ?_
    refine qe (d_store 0 hS Try.sizeOf24 rfl rfl rfl (vs := [.bool _, .int .i64 _, .int .i64 _, .slice _ _ _]) rfl rfl rfl (Nat.le_of_ble_eq_true rfl) (cs' := [_, _, _, _]) rfl) ?_
    clear hS
    rintro _ w_2 ⟨rfl, hS⟩
    refine ol_nil (thenN ?_)
    refine wpIn_ret ?_
    refine thenR ?_
    refine ret1 Try.results20 (rv_cel 0 hS Try.sizeOf24 Try.isAgg24 rfl rfl rfl) ?_
    rw [e]; exact ⟨_, none, 0, 0, rfl, hS.nil, RSl.nilR⟩
  ·
    intro hc4
    try simp only [Bool.and_eq_true, Bool.or_eq_true, Bool.not_eq_true', Bool.and_eq_false_imp, Bool.or_eq_false_iff, Bool.not_eq_false', decide_eq_true_eq, decide_eq_false_iff_not] at hc4
    have e := wholeP_pos (n := n) (by omega)
    refine wpIn_skip ?_
    refine thenN ?_
    refine wpIn_seq ?_
    refine reg ?_
    refine qq hS (g_movev (v := .int .i64 _) rfl) ?_
    refine qq hS (g_movev (v := .int .i64 _) rfl) ?_
    refine qq hS (g_movev (v := .int .i64 _) rfl) ?_
    refine qq hS (g_buildv (pl := [(0, 1), (1, 1), (2, 1), (3, 1), (4, 1)]) (cs := [.int .i64 _, .int .i64 _, .int .i64 _, .int .u8 _, .slice _ _ _]) Try.zeroValue35 Try.underlying35 (fun w => by simp [Try.sizeOf3, Try.sizeOf33, Try.sizeOf5]) (mp (v := .int .i64 _) rfl (mp (v := .int .i64 _) rfl mp0)) rfl) ?_
    refine qe (d_lit (vs := [.agg #[.int .i64 _, .int .i64 _, .int .i64 _, .int .u8 _, .slice _ _ _]]) (cs := [.int .i64 _, .int .i64 _, .int .i64 _, .int .u8 _, .slice _ _ _]) hS Try.underlying22 Try.sizeOf35 Try.zeroValue35 rfl rfl rfl rfl (fun v hv => by simp only [List.mem_cons, List.not_mem_nil, or_false] at hv; subst hv; rfl) rfl) ?_
    clear hS
    rintro _ w_3 ⟨b10, rfl, hS⟩
    refine qq hS (g_buildv (pl := [(0, 1), (1, 1), (2, 1), (3, 1)]) (cs := [.bool _, .int .i64 _, .int .i64 _, .slice _ _ _]) Try.zeroValue24 Try.underlying24 (fun w => by simp [Try.sizeOf22, Try.sizeOf3, Try.sizeOf4]) (mp (v := .int .i64 _) rfl (mp (v := .int .i64 _) rfl (mp rfl mp0))) rfl) ?_
    refine qe (d_store 1 hS Try.sizeOf24 rfl rfl rfl (vs := [.bool _, .int .i64 _, .int .i64 _, .slice _ _ _]) rfl rfl rfl (Nat.le_of_ble_eq_true rfl) (cs' := [_, _, _, _]) rfl) ?_
    clear hS
    rintro _ w_4 ⟨rfl, hS⟩
    refine ol_nil (thenN ?_)
    refine wpIn_ret ?_
    refine ret1 Try.results20 (rv_cel 1 hS Try.sizeOf24 Try.isAgg24 rfl rfl rfl) ?_
    obtain ⟨I3, hS, hI3, hb3⟩ := hS.freezeAt 0 rfl
    have ho : ROps I3 (.slice (some ⟨b10, 0, none⟩) 1 1) [⟨1, 0, n, 0, []⟩] := RSl.ofAt (css := [[.int .i64 1, .int .i64 0, .int .i64 n, .int .u8 0, .slice none 0 0]]) hb3 rfl (by simp) (All2.one ⟨none, 0, 0, rfl, RFl.nil⟩) rfl (by show 1 ≤ maxLen; decide)
    rw [e]; exact ⟨_, _, 1, 1, rfl, hS.nil, ho⟩

theorem patchWhole_c (n : Int) (w0 : World) (I0 : Imm) (hI : Sat I0 w0) (h0 : 0 ≤ n ∧ n ≤ 65536) :
    Ctr Try.prog 14 [.int .i64 n] w0 (fun v w' => ∃ I' a m c, v = .agg #[.bool (wholeP n).lifted, .int .i64 (wholeP n).in_, .int .i64 (wholeP n).out, .slice a m c] ∧ Ext w0 I0 w' I' ∧ ROps I' (.slice a m c) (wholeP n).ops) := by
  refine fn (n := 14) Try.func14 rfl rfl rfl ?_
  have hS := St.start hI
  refine wpIn_seq ?_
  refine reg ?_
  refine qe (d_alloc (cs := [.bool _, .int .i64 _, .int .i64 _, .slice _ _ _]) hS Try.zeroValue24 rfl) ?_
  clear hS
  rintro _ w_1 ⟨b2, rfl, hS⟩
  refine ol_nil (thenN ?_)
  refine wpIn_seq ?_
  refine reg ?_
  refine qq hS (g_movev (v := .int .i64 _) rfl) ?_
  refine qq hS (g_movev (v := .int .i64 _) rfl) ?_
  refine qq hS (g_buildv (pl := [(0, 1), (1, 1), (2, 1), (3, 1)]) (cs := [.bool _, .int .i64 _, .int .i64 _, .slice _ _ _]) Try.zeroValue24 Try.underlying24 (fun w => by simp [Try.sizeOf22, Try.sizeOf3, Try.sizeOf4]) (mp (v := .int .i64 _) rfl (mp (v := .int .i64 _) rfl mp0)) rfl) ?_
  refine qe (d_alloc (cs := [.bool _, .int .i64 _, .int .i64 _, .slice _ _ _]) hS Try.zeroValue24 rfl) ?_
  clear hS
  rintro _ w_2 ⟨b3, rfl, hS⟩
  refine qe (d_store 0 hS Try.sizeOf24 rfl rfl rfl (vs := [.bool _, .int .i64 _, .int .i64 _, .slice _ _ _]) rfl rfl rfl (Nat.le_of_ble_eq_true rfl) (cs' := [_, _, _, _]) rfl) ?_
  clear hS
  rintro _ w_3 ⟨rfl, hS⟩
  refine ol_nil (thenN ?_)
  refine wpIn_seq ?_
  refine wpIn_seq ?_
  refine reg ?_
  refine qq hS (g_movev (v := .int .i64 _) rfl) ?_
  refine qq hS (g_gtr rfl rfl) ?_
  refine ol_nil (thenN ?_)
  refine cond_s rfl ?_ ?_
  ·
    intro hc8
    try simp only [Bool.and_eq_true, Bool.or_eq_true, Bool.not_eq_true', Bool.and_eq_false_imp, Bool.or_eq_false_iff, Bool.not_eq_false', decide_eq_true_eq, decide_eq_false_iff_not] at hc8
    have e := wholeP_pos (n := n) (by omega)
    refine reg ?_
    refine qq hS (g_movev (v := .int .i64 _) rfl) ?_
    refine qq hS (g_buildv (pl := [(0, 1), (1, 1), (2, 1), (3, 1), (4, 1)]) (cs := [.int .i64 _, .int .i64 _, .int .i64 _, .int .u8 _, .slice _ _ _]) Try.zeroValue35 Try.underlying35 (fun w => by simp [Try.sizeOf3, Try.sizeOf33, Try.sizeOf5]) (mp (v := .int .i64 _) rfl (mp (v := .int .i64 _) rfl mp0)) rfl) ?_
    refine qe (d_lit (vs := [.agg #[.int .i64 _, .int .i64 _, .int .i64 _, .int .u8 _, .slice _ _ _]]) (cs := [.int .i64 _, .int .i64 _, .int .i64 _, .int .u8 _, .slice _ _ _]) hS Try.underlying22 Try.sizeOf35 Try.zeroValue35 rfl rfl rfl rfl (fun v hv => by simp only [List.mem_cons, List.not_mem_nil, or_false] at hv; subst hv; rfl) rfl) ?_
    clear hS
    rintro _ w_4 ⟨b11, rfl, hS⟩
    refine qq hS (g_fieldAddr (o' := 3) Try.underlying24 rfl Try.sizeOf22 rfl rfl rfl) ?_
    refine qe (d_store 1 hS Try.sizeOf22 rfl rfl rfl (vs := [.slice _ _ _]) rfl rfl rfl (Nat.le_of_ble_eq_true rfl) (cs' := [_, _, _, _]) rfl) ?_
    clear hS
    rintro _ w_5 ⟨rfl, hS⟩
    refine ol_nil (thenN ?_)
    refine wpIn_seq ?_
    refine reg ?_
    refine qq hS (g_ldO 1 (vs := [.bool _, .int .i64 _, .int .i64 _, .slice _ _ _]) Try.sizeOf24 Try.isAgg24 rfl rfl rfl rfl) ?_
    refine qe (d_store 2 hS Try.sizeOf24 rfl rfl rfl (vs := [.bool _, .int .i64 _, .int .i64 _, .slice _ _ _]) rfl rfl rfl (Nat.le_of_ble_eq_true rfl) (cs' := [_, _, _, _]) rfl) ?_
    clear hS
    rintro _ w_6 ⟨rfl, hS⟩
    refine ol_nil (thenN ?_)
    refine wpIn_ret ?_
    refine ret1 Try.results14 (rv_cel 2 hS Try.sizeOf24 Try.isAgg24 rfl rfl rfl) ?_
    obtain ⟨I3, hS, hI3, hb3⟩ := hS.freezeAt 0 rfl
    have ho : ROps I3 (.slice (some ⟨b11, 0, none⟩) 1 1) [⟨1, 0, n, 0, []⟩] := RSl.ofAt (css := [[.int .i64 1, .int .i64 0, .int .i64 n, .int .u8 0, .slice none 0 0]]) hb3 rfl (by simp) (All2.one ⟨none, 0, 0, rfl, RFl.nil⟩) rfl (by show 1 ≤ maxLen; decide)
    rw [e]; exact ⟨_, _, 1, 1, rfl, hS.nil, ho⟩
  ·
    intro hc8
    try simp only [Bool.and_eq_true, Bool.or_eq_true, Bool.not_eq_true', Bool.and_eq_false_imp, Bool.or_eq_false_iff, Bool.not_eq_false', decide_eq_true_eq, decide_eq_false_iff_not] at hc8
    have e := wholeP_zero (n := n) (by omega)
    refine wpIn_skip ?_
    refine thenN ?_
    refine wpIn_seq ?_
    refine reg ?_
    refine qq hS (g_ldO 0 (vs := [.bool _, .int .i64 _, .int .i64 _, .slice _ _ _]) Try.sizeOf24 Try.isAgg24 rfl rfl rfl rfl) ?_
    refine qe (d_store 1 hS Try.sizeOf24 rfl rfl rfl (vs := [.bool _, .int .i64 _, .int .i64 _, .slice _ _ _]) rfl rfl rfl (Nat.le_of_ble_eq_true rfl) (cs' := [_, _, _, _]) rfl) ?_
    clear hS
    rintro _ w_7 ⟨rfl, hS⟩
    refine ol_nil (thenN ?_)
    refine wpIn_ret ?_
    refine ret1 Try.results14 (rv_cel 1 hS Try.sizeOf24 Try.isAgg24 rfl rfl rfl) ?_
    rw [e]; exact ⟨_, none, 0, 0, rfl, hS.nil, RSl.nilR⟩

set_option maxHeartbeats 1000000 in
theorem run_c (ad bd : Option Addr) (cap capb : Nat) (lo : List Int) (l : List Sym) (w0 : World) (I0 : Imm) (hI : Sat I0 w0) (ha : RBytes I0 (.slice ad lo.length cap) lo) (hb : RSyms I0 (.slice bd l.length capb) l) (hwb : ∀ s ∈ l, s.wf) (hn : l.length ≤ 65536) :
    Ctr Try.prog 25 [.slice ad lo.length cap, .slice bd l.length capb] w0 (fun v w' => ∃ I' a c, v = .tuple #[.slice a (runP lo l).1.length c, .int .i64 (runP lo l).2] ∧ Ext w0 I0 w' I' ∧ RBytes I' (.slice a (runP lo l).1.length c) (runP lo l).1) := by
  have hll := RSl.le hb
  have hlla := RSl.le ha
  simp only [maxLen] at hll hlla
  refine fn (n := 46) Try.func25 rfl rfl rfl ?_
  have hS := St.start hI
  refine wpIn_seq ?_
  refine reg ?_
  refine qq hS (g_assign _) ?_
  refine qq hS (g_assignv (v := .int .i64 _) rfl) ?_
  refine ol_nil (thenN ?_)
  refine wpIn_seq ?_
  refine reg ?_
  refine qq hS (g_move _) ?_
  refine qq hS (g_lenI rfl Try.underlying43 hb rfl) ?_
  refine qe (i_make0 hS Try.underlying33 info5 rfl rfl (by omega) (by omega) (by omega)) ?_
  clear hS
  rintro _ w_1 ⟨a11, p11, rfl, hS⟩
  refine qq hS (g_assign _) ?_
  refine ol_nil (thenN ?_)
  refine wpIn_seq ?_
  refine wpIn_seq ?_
  refine reg ?_
  refine qq hS (g_move _) ?_
  refine qq hS (g_lenI rfl Try.underlying43 hb rfl) ?_
  refine qq hS (g_movev (v := .int .i64 _) rfl) ?_
  refine ol_nil (thenN ?_)
  refine wpIn_block ?_
  refine loop (fun (x : Nat × Option Addr × Nat) σ w => okS σ [(0, .slice ad lo.length cap), (6, .slice x.2.1 x.1 x.2.2), (12, .slice bd l.length capb), (13, .int .i64 l.length), (14, .int .i64 x.1)] ∧ St [] w0 I0 I0 w [.row (.slice x.2.1 x.1 x.2.2) 5 1 x.1 (flat byteC ((l.take x.1).map (runB lo)))] ∧ x.1 ≤ l.length ∧ ∀ s ∈ l.take x.1, badT lo.length s = false) (fun x => l.length - x.1) ((0, a11, p11)) ?_ ?_
  ·
    exact ⟨⟨rfl, rfl, rfl, rfl, rfl, trivial⟩, hS.sel [true], by simp, by simp⟩
  ·
    rintro ⟨k, a, c⟩ σ w_l ⟨hs, hS, hk0, hbad⟩
    dsimp only at hs hS hk0 hbad ⊢
    rw [← upds_self hs]; clear hs
    refine wpIn_seq ?_
    refine reg ?_
    refine qq hS (g_lss rfl rfl) ?_
    refine ol_nil (thenN ?_)
    refine wpIn_seq ?_
    refine cond_s rfl ?_ ?_
    ·
      intro hc15
      try simp only [Bool.and_eq_true, Bool.or_eq_true, Bool.not_eq_true', Bool.and_eq_false_imp, Bool.or_eq_false_iff, Bool.not_eq_false', decide_eq_true_eq, decide_eq_false_iff_not] at hc15
      obtain ⟨s, hsi⟩ : ∃ s, l[k]? = some s := ⟨_, List.getElem?_eq_getElem (by omega)⟩
      have hsA := hb.at hsi
      have hsm := List.mem_of_getElem? hsi
      obtain ⟨sw1, sw2, sw3, sw4⟩ := hwb s hsm
      refine wpIn_skip ?_
      refine thenN ?_
      refine wpIn_seq ?_
      refine wpIn_block ?_
      refine wpIn_seq ?_
      refine reg ?_
      refine qq hS (g_ixI Try.underlying43 Try.sizeOf64 hb rfl rfl (by omega) (by omega)) ?_
      refine qq hS (g_ldE (us := [.bool _, .int .i64 _, .int .u8 _]) Try.sizeOf64 Try.isAgg64 hsA rfl rfl rfl) ?_
      refine qe (d_alloc (cs := [.bool _, .int .i64 _, .int .u8 _]) hS Try.zeroValue64 rfl) ?_
      clear hS
      rintro _ w_2 ⟨b8, rfl, hS⟩
      refine qe (d_store 0 hS Try.sizeOf64 rfl rfl rfl (vs := [.bool _, .int .i64 _, .int .u8 _]) rfl rfl rfl (Nat.le_of_ble_eq_true rfl) (cs' := [_, _, _]) rfl) ?_
      clear hS
      rintro _ w_3 ⟨rfl, hS⟩
      refine ol_nil (thenN ?_)
      refine meet (fun σ w => okS σ [(0, .slice ad lo.length cap), (6, .slice a k c), (12, .slice bd l.length capb), (13, .int .i64 l.length), (14, .int .i64 k), (8, .pointer (some ⟨b8, 0, none⟩))] ∧ St [] w0 I0 I0 w [.cel b8 64 [.bool s.old, .int .i64 s.at_, .int .u8 (runB lo s)], .row (.slice a k c) 5 1 k (flat byteC ((l.take k).map (runB lo)))] ∧ badT lo.length s = false) ?_ ?_
      ·
        refine wpIn_seq ?_
        refine reg ?_
        refine qq hS (g_fieldAddr (o' := 0) Try.underlying64 rfl Try.sizeOf4 rfl rfl rfl) ?_
        refine qq hS (g_ldO1 0 Try.isAgg4 rfl rfl rfl) ?_
        refine ol_nil (thenN ?_)
        refine cond_s rfl ?_ ?_
        ·
          intro hc19
          try simp only [Bool.and_eq_true, Bool.or_eq_true, Bool.not_eq_true', Bool.and_eq_false_imp, Bool.or_eq_false_iff, Bool.not_eq_false', decide_eq_true_eq, decide_eq_false_iff_not] at hc19
          have hso : s.old = true := hc19
          refine wpIn_seq ?_
          refine wpIn_seq ?_
          refine reg ?_
          refine qq hS (g_fieldAddr (o' := 1) Try.underlying64 rfl Try.sizeOf3 rfl rfl rfl) ?_
          refine qq hS (g_ldO1 0 Try.isAgg3 rfl rfl rfl) ?_
          refine qq hS (g_lss rfl rfl) ?_
          refine qq hS (g_movev (v := .bool _) rfl) ?_
          refine qu rfl rfl hS (fun hg => (g_fieldAddr (o' := 1) Try.underlying64 rfl Try.sizeOf3 rfl rfl rfl)) ?_
          intro u24 hu24 hn24
          refine qu rfl rfl hS (fun hg => (g_ldO1 0 Try.isAgg3 rfl (hu24 hg) rfl)) ?_
          intro u25 hu25 hn25
          refine qu rfl rfl hS (fun hg => (g_move _)) ?_
          intro u26 hu26 hn26
          refine qu rfl rfl hS (fun hg => (g_lenI rfl Try.underlying33 ha (hu26 hg))) ?_
          intro u27 hu27 hn27
          refine qu rfl rfl hS (fun hg => (g_geq (hu25 hg) (hu27 hg))) ?_
          intro u28 hu28 hn28
          refine qq hS (g_or rfl rfl (fun hq => hu28 hq)) ?_
          refine ol_nil (thenN ?_)
          refine cond_s rfl ?_ ?_
          ·
            intro hc29
            clear hu24 hn24 hu25 hn25 hu26 hn26 hu27 hn27 hu28 hn28
            have hbd : badT lo.length s = true := by unfold badT; rw [hso, Bool.true_and]; exact hc29
            have e := runP_bad hsm hbd
            refine wpIn_seq ?_
            refine reg ?_
            refine qq hS (g_assign _) ?_
            refine qq hS (g_assignv (v := .int .i64 _) rfl) ?_
            refine ol_nil (thenN ?_)
            refine wpIn_ret ?_
            refine thenR (thenR (blkR (thenR (thenR (blkR (thenR ?_))))))
            refine ret2 Try.results25 (rv_tmp rfl) (rv_tmp (v := .int .i64 _) rfl) ?_
            rw [e]; exact ⟨_, none, 0, rfl, hS.nil, RFl.nil⟩
          ·
            intro hc29
            clear hu24 hn24 hu25 hn25 hu26 hn26 hu27 hn27 hu28 hn28
            have hbd : badT lo.length s = false := by unfold badT; rw [hso, Bool.true_and]; exact hc29
            simp only [Bool.or_eq_false_iff, decide_eq_false_iff_not] at hc29
            have hin : s.at_.toNat < lo.length := by omega
            obtain ⟨x, hxi⟩ : ∃ x, lo[s.at_.toNat]? = some x := ⟨_, List.getElem?_eq_getElem hin⟩
            have hxA := ha.at hxi
            have ht := runB_old hso hxi
            refine wpIn_skip ?_
            refine thenN ?_
            refine draw (.cons 0 .pure (.cons 1 .held (.cons 2 .pure (.cons 3 .pure (.cons 4 .held (.cons 5 .pure (.cons 6 .held (.cons 7 .pure (.cons 8 .pure (.cons 9 .bar .nil)))))))))) mixed (by kernel_rfl) hS ?_
            intro w_4 hS
            refine sp rfl (g_fieldAddr (o' := 2) Try.underlying64 rfl Try.sizeOf5 rfl rfl rfl) ?_
            refine sh rfl (g_ldO1 0 Try.isAgg5 rfl rfl rfl) ?_
            refine sp rfl (g_move _) ?_
            refine sp rfl (g_fieldAddr (o' := 1) Try.underlying64 rfl Try.sizeOf3 rfl rfl rfl) ?_
            refine sh rfl (g_ldO1 0 Try.isAgg3 rfl rfl rfl) ?_
            refine sp rfl (g_ixI Try.underlying33 Try.sizeOf5 ha rfl rfl (by omega) (by omega)) ?_
            refine sh rfl (g_ldE1 Try.isAgg5 hxA rfl rfl) ?_
            refine sp rfl (g_addw rfl rfl) ?_
            refine sp rfl (g_fieldAddr (o' := 2) Try.underlying64 rfl Try.sizeOf5 rfl rfl rfl) ?_
            refine sb rfl (d_store 0 hS Try.sizeOf5 rfl rfl rfl (vs := [.int .u8 _]) rfl rfl rfl (Nat.le_of_ble_eq_true rfl) (cs' := [_, _, _]) rfl) ?_
            rintro _ w_5 ⟨rfl, hS⟩
            refine ⟨_, _, hS, ?_⟩
            refine sn (thenN ?_)
            refine ⟨_, rfl, ⟨rfl, rfl, rfl, rfl, rfl, rfl, trivial⟩, ?_, hbd⟩
            rw [ht]
            exact hS.sel [true, true]
        ·
          intro hc19
          try simp only [Bool.and_eq_true, Bool.or_eq_true, Bool.not_eq_true', Bool.and_eq_false_imp, Bool.or_eq_false_iff, Bool.not_eq_false', decide_eq_true_eq, decide_eq_false_iff_not] at hc19
          have hso : s.old = false := hc19
          have hbd : badT lo.length s = false := by unfold badT; rw [hso]; rfl
          have ht := runB_lit (a := lo) hso
          refine wpIn_skip ?_
          refine thenN ?_
          refine ⟨_, rfl, ⟨rfl, rfl, rfl, rfl, rfl, rfl, trivial⟩, ?_, hbd⟩
          rw [ht]
          exact hS.sel [true, true]
      ·
        rintro σ w ⟨hs, hS, hbd⟩
        rw [← upds_self hs]
        refine reg ?_
        refine qq hS (g_move _) ?_
        refine qq hS (g_fieldAddr (o' := 2) Try.underlying64 rfl Try.sizeOf5 rfl rfl rfl) ?_
        refine qq hS (g_ldO1 0 Try.isAgg5 rfl rfl rfl) ?_
        refine qe (d_lit (vs := [.int .u8 _]) (cs := [.int .u8 _]) hS Try.underlying33 Try.sizeOf5 Try.zeroValue5 rfl rfl rfl rfl (fun v hv => by simp only [List.mem_cons, List.not_mem_nil, or_false] at hv; subst hv; rfl) rfl) ?_
        clear hS
        rintro _ w_6 ⟨b_6, rfl, hS⟩
        refine qe (i_appendO 2 0 hS rfl Try.underlying33 info5 rfl rfl rfl rfl rfl rfl rfl rfl (by omega) (by omega)) ?_
        clear hS
        rintro _ w_7 ⟨a43, p43, rfl, hS⟩
        refine qq hS (g_assign _) ?_
        refine ol_nil (blkN (thenN ?_))
        refine reg ?_
        refine qq hS (g_add rfl rfl (by omega) (by omega)) ?_
        refine qq hS (g_movev (v := .int .i64 _) rfl) ?_
        refine ⟨(k + 1, a43, p43), _, rfl, ⟨⟨rfl, rfl, rfl, rfl, rfl, trivial⟩, ?_, by dsimp only; omega, any_take hsi hbad hbd⟩, by dsimp only; omega⟩
        dsimp only
        rw [take_snoc hsi, List.map_append, flat_append, List.map_cons, List.map_nil, flat_one]
        exact hS.sel [false, false, true]
    ·
      intro hc15
      try simp only [Bool.and_eq_true, Bool.or_eq_true, Bool.not_eq_true', Bool.and_eq_false_imp, Bool.or_eq_false_iff, Bool.not_eq_false', decide_eq_true_eq, decide_eq_false_iff_not] at hc15
      have hk : k = l.length := by omega
      subst hk
      rw [List.take_length] at hS hbad
      have e := runP_good hbad
      refine wpIn_exit ?_
      refine thenE (thenE (blkE ?_))
      refine thenN ?_
      refine wpIn_seq ?_
      refine reg ?_
      refine qq hS (g_move _) ?_
      refine qq hS (g_assign _) ?_
      refine qq hS (g_assignv (v := .int .i64 _) rfl) ?_
      refine ol_nil (thenN ?_)
      refine wpIn_ret ?_
      refine ret2 Try.results25 (rv_tmp rfl) (rv_tmp (v := .int .i64 _) rfl) ?_
      obtain ⟨I1, hE1, hI1, hd1⟩ := row_freeze1 byteC_len (xs := l.map (runB lo)) (hS.sel [true]) (by simp)
      have hlm : (l.map (runB lo)).length = l.length := List.length_map _
      have hl1 : (runP lo l).1.length = l.length := by rw [e]; exact hlm
      rw [hl1]
      exact ⟨I1, a, c, by rw [e]; rfl, hE1, by rw [e]; exact hd1⟩

theorem sameB_c (va vb : Value) (a b : List Int) (w0 : World) (I0 : Imm) (hI : Sat I0 w0) (ha : RBytes I0 va a) (hb : RBytes I0 vb b) :
    Ctr Try.prog 15 [va, vb] w0 (fun v w' => v = .bool (decide (a = b)) ∧ Ext w0 I0 w' I0) := by
  have hla := RSl.le ha
  have hlb := RSl.le hb
  simp only [maxLen] at hla hlb
  refine fn (n := 26) Try.func15 rfl rfl rfl ?_
  have hS := St.start hI
  refine wpIn_seq ?_
  refine reg ?_
  refine qq hS (g_assignv (v := .bool _) rfl) ?_
  refine ol_nil (thenN ?_)
  refine wpIn_seq ?_
  refine wpIn_seq ?_
  refine reg ?_
  refine qq hS (g_move _) ?_
  refine qq hS (g_lenI rfl Try.underlying33 ha rfl) ?_
  refine qq hS (g_move _) ?_
  refine qq hS (g_lenI rfl Try.underlying33 hb rfl) ?_
  refine qq hS (g_neq rfl rfl) ?_
  refine ol_nil (thenN ?_)
  refine cond_s rfl ?_ ?_
  ·
    intro hc10
    try simp only [Bool.and_eq_true, Bool.or_eq_true, Bool.not_eq_true', Bool.and_eq_false_imp, Bool.or_eq_false_iff, Bool.not_eq_false', decide_eq_true_eq, decide_eq_false_iff_not] at hc10
    have e : decide (a = b) = false := decide_eq_false (fun h => by rw [h] at hc10; exact hc10 rfl)
    refine wpIn_seq ?_
    refine reg ?_
    refine qq hS (g_assignv (v := .bool _) rfl) ?_
    refine ol_nil (thenN ?_)
    refine wpIn_ret ?_
    refine thenR ?_
    refine ret1 Try.results15 (rv_tmp (v := .bool _) rfl) ?_
    rw [e]; exact ⟨rfl, hS.nil⟩
  ·
    intro hc10
    try simp only [Bool.and_eq_true, Bool.or_eq_true, Bool.not_eq_true', Bool.and_eq_false_imp, Bool.or_eq_false_iff, Bool.not_eq_false', decide_eq_true_eq, decide_eq_false_iff_not] at hc10
    have hlen : a.length = b.length := by omega
    refine wpIn_skip ?_
    refine thenN ?_
    refine wpIn_seq ?_
    refine wpIn_seq ?_
    refine reg ?_
    refine qq hS (g_assignv (v := .int .i64 _) rfl) ?_
    refine ol_nil (thenN ?_)
    refine wpIn_block ?_
    refine loop (fun (k : Nat) σ w => okS σ [(0, va), (1, vb), (5, .int .i64 k)] ∧ St [] w0 I0 I0 w [] ∧ k ≤ a.length ∧ a.take k = b.take k) (fun k => a.length - k) (0) ?_ ?_
    ·
      exact ⟨⟨rfl, rfl, rfl, trivial⟩, hS.sel [], by omega, by simp⟩
    ·
      rintro k σ w_l ⟨hs, hS, hk0, heq⟩
      rw [← upds_self hs]; clear hs
      refine wpIn_seq ?_
      refine wpIn_seq ?_
      refine reg ?_
      refine qq hS (g_movev (v := .int .i64 _) rfl) ?_
      refine qq hS (g_move _) ?_
      refine qq hS (g_lenI rfl Try.underlying33 ha rfl) ?_
      refine qq hS (g_lss rfl rfl) ?_
      refine ol_nil (thenN ?_)
      refine cond_s rfl ?_ ?_
      ·
        intro hc14
        try simp only [Bool.and_eq_true, Bool.or_eq_true, Bool.not_eq_true', Bool.and_eq_false_imp, Bool.or_eq_false_iff, Bool.not_eq_false', decide_eq_true_eq, decide_eq_false_iff_not] at hc14
        obtain ⟨x, hxi⟩ : ∃ x, a[k]? = some x := ⟨_, List.getElem?_eq_getElem (by omega)⟩
        obtain ⟨y, hyi⟩ : ∃ y, b[k]? = some y := ⟨_, List.getElem?_eq_getElem (by omega)⟩
        have hxA := ha.at hxi
        have hyA := hb.at hyi
        refine wpIn_skip ?_
        refine thenN ?_
        refine wpIn_seq ?_
        refine wpIn_block ?_
        refine wpIn_seq ?_
        refine draw (.cons 0 .pure (.cons 1 .pure (.cons 2 .pure (.cons 3 .held (.cons 4 .pure (.cons 5 .pure (.cons 6 .pure (.cons 7 .held (.cons 8 .pure .nil))))))))) mixed (by kernel_rfl) hS ?_
        intro w_1 hS
        refine sp rfl (g_move _) ?_
        refine sp rfl (g_movev (v := .int .i64 _) rfl) ?_
        refine sp rfl (g_ixI Try.underlying33 Try.sizeOf5 ha rfl rfl (by omega) (by omega)) ?_
        refine sh rfl (g_ldE1 Try.isAgg5 hxA rfl rfl) ?_
        refine sp rfl (g_move _) ?_
        refine sp rfl (g_movev (v := .int .i64 _) rfl) ?_
        refine sp rfl (g_ixI Try.underlying33 Try.sizeOf5 hb rfl rfl (by omega) (by omega)) ?_
        refine sh rfl (g_ldE1 Try.isAgg5 hyA rfl rfl) ?_
        refine sp rfl (g_neq rfl rfl) ?_
        refine sn (thenN ?_)
        refine cond_s rfl ?_ ?_
        ·
          intro hc25
          try simp only [Bool.and_eq_true, Bool.or_eq_true, Bool.not_eq_true', Bool.and_eq_false_imp, Bool.or_eq_false_iff, Bool.not_eq_false', decide_eq_true_eq, decide_eq_false_iff_not] at hc25
          have e : decide (a = b) = false := decide_eq_false (fun h => by rw [h, hyi] at hxi; exact hc25 (Option.some.inj hxi).symm)
          refine wpIn_seq ?_
          refine reg ?_
          refine qq hS (g_assignv (v := .bool _) rfl) ?_
          refine ol_nil (thenN ?_)
          refine wpIn_ret ?_
          refine blkR (thenR (thenR (blkR (thenR ?_))))
          refine ret1 Try.results15 (rv_tmp (v := .bool _) rfl) ?_
          rw [e]; exact ⟨rfl, hS.nil⟩
        ·
          intro hc25
          try simp only [Bool.and_eq_true, Bool.or_eq_true, Bool.not_eq_true', Bool.and_eq_false_imp, Bool.or_eq_false_iff, Bool.not_eq_false', decide_eq_true_eq, decide_eq_false_iff_not] at hc25
          have hnext : a.take (k + 1) = b.take (k + 1) := by rw [take_snoc hxi, take_snoc hyi, heq, hc25]
          refine wpIn_skip ?_
          refine blkN (thenN ?_)
          refine reg ?_
          refine qq hS (g_movev (v := .int .i64 _) rfl) ?_
          refine qq hS (g_add rfl rfl (by omega) (by omega)) ?_
          refine qq hS (g_assignv (v := .int .i64 _) rfl) ?_
          exact ⟨k + 1, _, rfl, ⟨⟨rfl, rfl, rfl, trivial⟩, hS.sel [], by omega, hnext⟩, by omega⟩
      ·
        intro hc14
        try simp only [Bool.and_eq_true, Bool.or_eq_true, Bool.not_eq_true', Bool.and_eq_false_imp, Bool.or_eq_false_iff, Bool.not_eq_false', decide_eq_true_eq, decide_eq_false_iff_not] at hc14
        have e : decide (a = b) = true := decide_eq_true (by
          have := heq
          rwa [List.take_of_length_le (by omega), List.take_of_length_le (by omega)] at this)
        refine wpIn_exit ?_
        refine thenE (thenE (blkE ?_))
        refine thenN ?_
        refine wpIn_seq ?_
        refine reg ?_
        refine qq hS (g_assignv (v := .bool _) rfl) ?_
        refine ol_nil (thenN ?_)
        refine wpIn_ret ?_
        refine ret1 Try.results15 (rv_tmp (v := .bool _) rfl) ?_
        rw [e]; exact ⟨rfl, hS.nil⟩

end Go.Proofs.Ytaklmbhfmpdinaa

