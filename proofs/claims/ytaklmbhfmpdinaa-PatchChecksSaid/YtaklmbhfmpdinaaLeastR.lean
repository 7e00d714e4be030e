/- inlayref08.Least, patch.kind: what they compute. Conditions: symbols are right. -/
import Derived.Test.YtaklmbhfmpdinaaFits
import Derived.Test.YtaklmbhfmpdinaaKCut
namespace Go.Proofs.Ytaklmbhfmpdinaa
open Go Go.RowKit Go.Inl
set_option linter.unusedSimpArgs false
set_option linter.unusedVariables false
def kindP (s : Sym) : Int := if s.old = false then 4 else if s.b ≠ 0 then 2 else 1

theorem kindP_c (s : Sym) (w0 : World) (I0 : Imm) (hI : Sat I0 w0) : Ctr Try.prog 41 [symV s] w0 (fun v w' => v = .int .i64 (kindP s) ∧ Ext w0 I0 w' I0) := by
  refine fn (n := 11) Try.func41 rfl rfl rfl ?_
  have hS := St.start hI
  refine wpIn_seq ?_
  refine reg ?_
  refine qe (d_box (cs := [.bool _, .int .i64 _, .int .u8 _]) hS rfl) ?_
  clear hS
  rintro _ w_1 ⟨b1, rfl, hS⟩
  refine qq hS (g_assignv (v := .int .i64 _) rfl) ?_
  refine ol_nil (thenN ?_)
  refine wpIn_seq ?_
  refine wpIn_block ?_
  refine wpIn_seq ?_
  refine reg ?_
  refine qq hS (g_fieldAddr (o' := 0) Try.underlying64 rfl Try.sizeOf4 rfl rfl rfl) ?_
  refine qq hS (g_ldO1 0 Try.isAgg4 rfl rfl rfl) ?_
  refine qq hS (g_not rfl) ?_
  refine qq hS (g_assignv (v := .bool _) rfl) ?_
  refine ol_nil (thenN ?_)
  refine cond_s rfl ?_ ?_
  ·
    intro hc3
    simp only [Bool.not_eq_true', Bool.not_eq_false'] at hc3
    have e : kindP s = 4 := by unfold kindP; rw [if_pos hc3]
    refine wpIn_seq ?_
    refine reg ?_
    refine qq hS (g_assignv (v := .int .i64 _) rfl) ?_
    refine ol_nil (thenN ?_)
    refine wpIn_ret ?_
    refine blkR (thenR ?_)
    refine ret1 Try.results41 (rv_tmp (v := .int .i64 _) rfl) ?_
    rw [e]; exact ⟨rfl, hS.nil⟩
  ·
    intro hc3
    simp only [Bool.not_eq_true', Bool.not_eq_false'] at hc3
    refine wpIn_seq ?_
    refine reg ?_
    refine qq hS (g_fieldAddr (o' := 2) Try.underlying64 rfl Try.sizeOf5 rfl rfl rfl) ?_
    refine qq hS (g_ldO1 0 Try.isAgg5 rfl rfl rfl) ?_
    refine qq hS (g_neq rfl rfl) ?_
    refine qq hS (g_assignv (v := .bool _) rfl) ?_
    refine ol_nil (thenN ?_)
    refine cond_s rfl ?_ ?_
    ·
      intro hc7
      simp only [Bool.not_eq_true', Bool.not_eq_false', decide_eq_true_eq, decide_eq_false_iff_not] at hc7
      have e : kindP s = 2 := by unfold kindP; rw [if_neg (by rw [hc3]; decide), if_pos hc7]
      refine wpIn_seq ?_
      refine reg ?_
      refine qq hS (g_assignv (v := .int .i64 _) rfl) ?_
      refine ol_nil (thenN ?_)
      refine wpIn_ret ?_
      refine blkR (thenR ?_)
      refine ret1 Try.results41 (rv_tmp (v := .int .i64 _) rfl) ?_
      rw [e]; exact ⟨rfl, hS.nil⟩
    ·
      intro hc7
      simp only [Bool.not_eq_true', Bool.not_eq_false', decide_eq_true_eq, decide_eq_false_iff_not] at hc7
      have e : kindP s = 1 := by unfold kindP; rw [if_neg (by rw [hc3]; decide), if_neg (by simpa using hc7)]
      refine wpIn_skip ?_
      refine blkN (thenN ?_)
      refine wpIn_seq ?_
      refine reg ?_
      refine qq hS (g_assignv (v := .int .i64 _) rfl) ?_
      refine ol_nil (thenN ?_)
      refine wpIn_ret ?_
      refine ret1 Try.results41 (rv_tmp (v := .int .i64 _) rfl) ?_
      rw [e]; exact ⟨rfl, hS.nil⟩


end Go.Proofs.Ytaklmbhfmpdinaa

