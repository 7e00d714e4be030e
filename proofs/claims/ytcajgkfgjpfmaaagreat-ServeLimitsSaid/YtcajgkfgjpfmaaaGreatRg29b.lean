/- inlayref29: All, Path, Reach, Ints: what they compute. Conditions: a valid graph. -/
import Derived.Test.YtcajgkfgjpfmaaaGreatRg29
set_option linter.unusedSimpArgs false
set_option linter.unusedVariables false
namespace Go.Proofs.YtcajgkfgjpfmaaaGreat
open Tryz
open Go Go.RowKit Go.Inl
theorem zP (ad bd : Option Addr) (cap capb : Nat) (a b : List Int) (w0 : World) (I0 : Imm) (hI : Sat I0 w0) (ha : RFl I0 1 intC (.slice ad a.length cap) a) (hb : RFl I0 1 intC (.slice bd b.length capb) b) :
 Ctr prog 35 [.slice ad a.length cap, .slice bd b.length capb] w0 (fun v w' => v = .bool (decide (a = b)) ∧ Ext w0 I0 w' I0) := by
 have hle := RSl.le ha
 simp only [maxLen] at hle
 refine fn (n := 26) func35 rfl rfl rfl ?_
 have hS := St.start hI
 refine QwR (qq hS (Qab rfl) (QoN (wpIn_seq (QwR (qq hS (qh _) ?_)))))
 refine qq hS (qs rfl underlying31 ha rfl) ?_
 refine qq hS (qh _) ?_
 refine qq hS (qs rfl underlying31 hb rfl) ?_
 refine qq hS (g_neq rfl rfl) ?_
 refine QoN ?_
 refine qk rfl ?_ ?_
 ·
  intro hc10
  simp only [Bool.not_eq_true', decide_eq_false_iff_not, Bool.not_eq_false', decide_eq_true_eq] at hc10
  have e : decide (a = b) = false := by rw [decide_eq_false_iff_not]; intro h; subst h; omega
  refine QwR (qq hS (Qab rfl) (QoN (wpIn_ret ?_)))
  refine thenR ?_
  refine ret1 results35 (qi (v := .bool _) rfl) ?_
  exact ⟨by rw [e], hS.nil⟩
 ·
  intro hc10
  simp only [Bool.not_eq_true', decide_eq_false_iff_not, Bool.not_eq_false', decide_eq_true_eq] at hc10
  have hlen : a.length = b.length := by omega
  refine wpIn_skip (thenN (wpIn_seq (QwR (qq hS (Qai rfl) (QoN ?_)))))
  refine wpIn_block ?_
  refine loop (fun (k : Nat) σ w => okS σ [(0, .slice ad a.length cap), (1, .slice bd b.length capb), (5, .int .i64 k)] ∧ St [] w0 I0 I0 w [] ∧ k ≤ a.length ∧ a.take k = b.take k) (fun k => a.length - k) (0) ?_ ?_
  ·
   exact ⟨⟨rfl, rfl, rfl, trivial⟩, hS.sel [], by omega, rfl⟩
  ·
   rintro k σ w_l ⟨hs, hS, hk0, heq⟩
   rw [← qr hs]; clear hs
   refine wpIn_seq (QwR (qq hS (Qmi rfl) (qq hS (qh _) ?_)))
   refine qq hS (qs rfl underlying31 ha rfl) ?_
   refine qq hS (g_lss rfl rfl) ?_
   refine QoN ?_
   refine qk rfl ?_ ?_
   ·
    intro hc14
    try simp only [zA, zO, zN, zI, zF, zM, zT, zU] at hc14
    obtain ⟨x, hxi⟩ : ∃ x, a[k]? = some x := ⟨_, List.getElem?_eq_getElem (by omega)⟩
    obtain ⟨y, hyi⟩ : ∃ y, b[k]? = some y := ⟨_, List.getElem?_eq_getElem (by omega)⟩
    have hxA := ha.at hxi
    have hyA := hb.at hyi
    refine wpIn_skip (thenN (wpIn_seq (wpIn_block (wpIn_seq ?_))))
    refine draw (.cons 0 .pure (.cons 1 .pure (.cons 2 .pure (.cons 3 .held (.cons 4 .pure (.cons 5 .pure (.cons 6 .pure (.cons 7 .held (.cons 8 .pure .nil))))))))) mixed (by kernel_rfl) hS ?_
    intro w_1 hS
    refine sp rfl (qh _) ?_
    refine sp rfl (Qmi rfl) ?_
    refine sp rfl (g_ixI underlying31 sizeOf3 ha rfl rfl (by omega) (by omega)) ?_
    refine sh rfl (qy isAgg3 hxA rfl rfl) ?_
    refine sp rfl (qh _) ?_
    refine sp rfl (Qmi rfl) ?_
    refine sp rfl (g_ixI underlying31 sizeOf3 hb rfl rfl (by omega) (by omega)) ?_
    refine sh rfl (qy isAgg3 hyA rfl rfl) ?_
    refine sp rfl (g_neq rfl rfl) ?_
    refine sn (thenN ?_)
    refine qk rfl ?_ ?_
    ·
     intro hc25
     try simp only [zA, zO, zN, zI, zF, zM, zT, zU] at hc25
     have e := dec_ne hxi hyi hc25
     refine QwR (qq hS (Qab rfl) (QoN (wpIn_ret ?_)))
     refine blkR (thenR (thenR (blkR (thenR ?_))))
     refine ret1 results35 (qi (v := .bool _) rfl) ?_
     exact ⟨by rw [e], hS.nil⟩
    ·
     intro hc25
     try simp only [zA, zO, zN, zI, zF, zM, zT, zU] at hc25
     have heq2 := take_eq hxi hyi heq hc25
     refine wpIn_skip (blkN (thenN (reg (qq hS (Qmi rfl) ?_))))
     refine qq hS (g_add rfl rfl (by omega) (by omega)) ?_
     refine qq hS (Qai rfl) ?_
     exact ⟨k + 1, _, rfl, ⟨⟨rfl, rfl, rfl, trivial⟩, hS.sel [], by omega, heq2⟩, by omega⟩
   ·
    intro hc14
    try simp only [zA, zO, zN, zI, zF, zM, zT, zU] at hc14
    have hk : k = a.length := by omega
    subst hk
    have e := dec_take hlen heq
    refine wpIn_exit ?_
    refine thenE (thenE (blkE ?_))
    refine thenN (QwR (qq hS (Qab rfl) (QoN (wpIn_ret ?_))))
    refine ret1 results35 (qi (v := .bool _) rfl) ?_
    exact ⟨by rw [e], hS.nil⟩
end Go.Proofs.YtcajgkfgjpfmaaaGreat
