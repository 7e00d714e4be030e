/- Functions of package slices at frozen slices: Equal, BinarySearch, Chunk; a copy of words. Conditions: as said. -/
import Derived.Test.YtcajgkfgjpfmaaaGreatWords2
import Derived.Test.YtcajgkfgjpfmaaaGreatKSmall
import Derived.Test.YtcajgkfgjpfmaaaGreatPats
import Derived.Test.YtcajgkfgjpfmaaaGreatKCore3
import Derived.Test.YtcajgkfgjpfmaaaGreatKSpec
set_option linter.unusedSimpArgs false
set_option linter.unusedVariables false
namespace Go.Proofs.YtcajgkfgjpfmaaaGreat
open Tryz
open Go Go.RowKit Go.Inl
theorem take_eq {α : Type} {a b : List α} {k : Nat} {x y : α} (hx : a[k]? = some x) (hy : b[k]? = some y) (h : a.take k = b.take k) (e : x = y) : a.take (k + 1) = b.take (k + 1) := by
 rw [qE hx, qE hy, h, e]
theorem dec_ne {α : Type} [DecidableEq α] {a b : List α} {k : Nat} {x y : α} (hx : a[k]? = some x) (hy : b[k]? = some y) (e : x ≠ y) : decide (a = b) = false := by
 rw [decide_eq_false_iff_not]; intro h; subst h; rw [hx] at hy; exact e (Option.some.inj hy)
theorem dec_take {α : Type} [DecidableEq α] {a b : List α} (hl : a.length = b.length) (h : a.take a.length = b.take a.length) : decide (a = b) = true := by
 rw [decide_eq_true_iff]; rw [List.take_length, hl, List.take_length] at h; exact h
structure BsW where
 lo : Nat
 hi : Nat
set_option maxHeartbeats 1000000 in
theorem eqI_c (ad bd : Option Addr) (cap capb : Nat) (a b : List Int) (w0 : World) (I0 : Imm) (hI : Sat I0 w0) (ha : RFl I0 1 intC (.slice ad a.length cap) a) (hb : RFl I0 1 intC (.slice bd b.length capb) b) :
 Ctr prog 139 [.slice ad a.length cap, .slice bd b.length capb] w0 (fun v w' => v = .bool (decide (a = b)) ∧ Ext w0 I0 w' I0) := by
 have hle := RSl.le ha
 simp only [maxLen] at hle
 refine fn (n := 26) func139 rfl rfl rfl ?_
 have hS := St.start hI
 refine QwR (qq hS (Qab rfl) (QoN (wpIn_seq (QwR (qq hS (qh _) ?_)))))
 refine qq hS (qs rfl underlying31 ha rfl) ?_
 refine qq hS (qh _) ?_
 refine qq hS (qs rfl underlying31 hb rfl) ?_
 refine qq hS (g_neq rfl rfl) ?_
 refine QoN ?_
 refine qk rfl ?_ ?_
 ·
  intro hc10
  simp only [Bool.not_eq_true', decide_eq_false_iff_not, Bool.not_eq_false', decide_eq_true_eq] at hc10
  have e : decide (a = b) = false := by rw [decide_eq_false_iff_not]; intro h; subst h; omega
  refine QwR (qq hS (Qab rfl) (QoN (wpIn_ret ?_)))
  refine thenR ?_
  refine ret1 results139 (qi (v := .bool _) rfl) ?_
  exact ⟨by rw [e], hS.nil⟩
 ·
  intro hc10
  simp only [Bool.not_eq_true', decide_eq_false_iff_not, Bool.not_eq_false', decide_eq_true_eq] at hc10
  have hlen : a.length = b.length := by omega
  refine wpIn_skip (thenN (wpIn_seq (QwR (qq hS (qh _) ?_))))
  refine qq hS (qs rfl underlying31 ha rfl) ?_
  refine qq hS (Qmi rfl) (QoN (wpIn_block ?_))
  refine loop (fun (k : Nat) σ w => okS σ [(0, .slice ad a.length cap), (1, .slice bd b.length capb), (12, .int .i64 a.length), (13, .int .i64 k)] ∧ St [] w0 I0 I0 w [] ∧ k ≤ a.length ∧ a.take k = b.take k) (fun k => a.length - k) (0) ?_ ?_
  ·
   exact ⟨⟨rfl, rfl, rfl, rfl, trivial⟩, hS.sel [], by omega, rfl⟩
  ·
   rintro k σ w_l ⟨hs, hS, hk0, heq⟩
   rw [← qr hs]; clear hs
   refine QwR ?_
   refine qq hS (g_lss rfl rfl) ?_
   refine QoN (wpIn_seq ?_)
   refine qk rfl ?_ ?_
   ·
    intro hc14
    try simp only [zA, zO, zN, zI, zF, zM, zT, zU] at hc14
    obtain ⟨x, hxi⟩ : ∃ x, a[k]? = some x := ⟨_, List.getElem?_eq_getElem (by omega)⟩
    obtain ⟨y, hyi⟩ : ∃ y, b[k]? = some y := ⟨_, List.getElem?_eq_getElem (by omega)⟩
    have hxA := ha.at hxi
    have hyA := hb.at hyi
    refine wpIn_skip (thenN (wpIn_seq (wpIn_block (QwR (qq hS (Qmi rfl) ?_)))))
    refine qq hS (Qai rfl) (QoN (wpIn_seq ?_))
    refine draw (.cons 0 .pure (.cons 1 .pure (.cons 2 .pure (.cons 3 .held (.cons 4 .pure (.cons 5 .pure (.cons 6 .pure (.cons 7 .held (.cons 8 .pure .nil))))))))) mixed (by kernel_rfl) hS ?_
    intro w_1 hS
    refine sp rfl (qh _) ?_
    refine sp rfl (Qmi rfl) ?_
    refine sp rfl (g_ixI underlying31 sizeOf3 ha rfl rfl (by omega) (by omega)) ?_
    refine sh rfl (qy isAgg3 hxA rfl rfl) ?_
    refine sp rfl (qh _) ?_
    refine sp rfl (Qmi rfl) ?_
    refine sp rfl (g_ixI underlying31 sizeOf3 hb rfl rfl (by omega) (by omega)) ?_
    refine sh rfl (qy isAgg3 hyA rfl rfl) ?_
    refine sp rfl (g_neq rfl rfl) ?_
    refine sn (thenN ?_)
    refine qk rfl ?_ ?_
    ·
     intro hc24
     try simp only [zA, zO, zN, zI, zF, zM, zT, zU] at hc24
     have e := dec_ne hxi hyi hc24
     refine QwR (qq hS (Qab rfl) (QoN (wpIn_ret ?_)))
     refine blkR (thenR (thenR (blkR (thenR ?_))))
     refine ret1 results139 (qi (v := .bool _) rfl) ?_
     exact ⟨by rw [e], hS.nil⟩
    ·
     intro hc24
     try simp only [zA, zO, zN, zI, zF, zM, zT, zU] at hc24
     have heq2 := take_eq hxi hyi heq hc24
     refine wpIn_skip (blkN (thenN (reg ?_)))
     refine qq hS (g_add rfl rfl (by omega) (by omega)) ?_
     refine qq hS (Qmi rfl) ?_
     exact ⟨k + 1, _, rfl, ⟨⟨rfl, rfl, rfl, rfl, trivial⟩, hS.sel [], by omega, heq2⟩, by omega⟩
   ·
    intro hc14
    try simp only [zA, zO, zN, zI, zF, zM, zT, zU] at hc14
    have hk : k = a.length := by omega
    subst hk
    have e := dec_take hlen heq
    refine wpIn_exit ?_
    refine thenE (thenE (blkE ?_))
    refine thenN (QwR (qq hS (Qab rfl) (QoN (wpIn_ret ?_))))
    refine ret1 results139 (qi (v := .bool _) rfl) ?_
    exact ⟨by rw [e], hS.nil⟩
theorem cnan_c (n : Int) (w0 : World) (I0 : Imm) (hI : Sat I0 w0) : Ctr prog 144 [.int .i64 n] w0 (fun v w' => v = .bool false ∧ Ext w0 I0 w' I0) := by
 refine fn (n := 6) func144 rfl rfl rfl ?_
 have hS := St.start hI
 refine QwR (qq hS (Qab rfl) (QoR (qq hS (Qmi rfl) (qq hS (Qmi rfl) ?_))))
 refine qq hS (g_neqF rfl rfl rfl) ?_
 refine qq hS (Qab rfl) (QoN (wpIn_ret ?_))
 refine ret1 results144 (qi (v := .bool _) rfl) ?_
 exact ⟨rfl, hS.nil⟩
theorem snan_c (n : Int) (w0 : World) (I0 : Imm) (hI : Sat I0 w0) : Ctr prog 117 [.int .i64 n] w0 (fun v w' => v = .bool false ∧ Ext w0 I0 w' I0) := by
 refine fn (n := 6) func117 rfl rfl rfl ?_
 have hS := St.start hI
 refine QwR (qq hS (Qab rfl) (QoR (qq hS (Qmi rfl) (qq hS (Qmi rfl) ?_))))
 refine qq hS (g_neqF rfl rfl rfl) ?_
 refine qq hS (Qab rfl) (QoN (wpIn_ret ?_))
 refine ret1 results117 (qi (v := .bool _) rfl) ?_
 exact ⟨rfl, hS.nil⟩
theorem cless_c (a b : Int) (w0 : World) (I0 : Imm) (hI : Sat I0 w0) : Ctr prog 116 [.int .i64 a, .int .i64 b] w0 (fun v w' => v = .bool (decide (a < b)) ∧ Ext w0 I0 w' I0) := by
 refine fn (n := 17) func116 rfl rfl rfl ?_
 have hS := St.start hI
 refine QwR (qq hS (Qab rfl) (QoR (qq hS (Qmi rfl) ?_)))
 refine qe (qj call144 rfl (cnan_c a _ I0 hS.imm)) ?_
 rintro _ w_1 ⟨rfl, hE⟩
 replace hS := hS.callE hE
 refine qq hS (Qmb rfl) ?_
 refine qsf rfl rfl rfl ?_
 refine qsf rfl rfl rfl ?_
 refine qsf rfl rfl rfl ?_
 refine qq hS (g_and (b := false) rfl rfl (fun h => (by cases h))) ?_
 refine qq hS (Qmb rfl) ?_
 refine qqs rfl rfl hS (Qmi rfl) ?_
 refine qqs rfl rfl hS (Qmi rfl) ?_
 refine qqs rfl rfl hS (g_lss rfl rfl) ?_
 refine qq hS (g_or rfl rfl (fun _ => rfl)) ?_
 refine qq hS (Qab rfl) (QoN (wpIn_ret ?_))
 refine ret1 results116 (qi (v := .bool _) rfl) ?_
 exact ⟨rfl, hS.nil⟩
end Go.Proofs.YtcajgkfgjpfmaaaGreat
