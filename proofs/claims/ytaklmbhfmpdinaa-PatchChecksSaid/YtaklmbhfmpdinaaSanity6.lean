/- inlaylaw06.sanity: it is true. Conditions: none. -/
import Derived.Test.YtaklmbhfmpdinaaApply
import Derived.Test.YtaklmbhfmpdinaaOf
namespace Go.Proofs.Ytaklmbhfmpdinaa
open Go Go.RowKit Go.Inl
set_option linter.unusedSimpArgs false
set_option linter.unusedVariables false
def okPat6 (p : PatL) : Bool := okM p.in_ && okM p.out && p.ops.all okOp && decide ((p.ops.length : Int) ≤ 1099511627776)
theorem okPat6_s {p : PatL} (h : okPat6 p = true) : p.wf := by
  simp only [okPat6, Bool.and_eq_true, decide_eq_true_eq] at h
  exact ⟨okM_s h.1.1.1, okM_s h.1.1.2, okOps h.1.2, h.2⟩
theorem apply_E (p : PatL) (ad bd : Option Addr) (m cap n capb : Nat) (old : List Int) (R : List Int × Int) (w0 : World) (I0 : Imm) (hI : Sat I0 w0) (hops : ROps I0 (.slice ad m cap) p.ops) (hp : p.wf) (hl : p.lifted = false) (ho : RBytes I0 (.slice bd n capb) old) (hn : n = old.length) (hR : applyP old p = R) :
    Ctr Try.prog 9 [.slice bd n capb, .agg #[.bool p.lifted, .int .i64 p.in_, .int .i64 p.out, .slice ad m cap]] w0 (fun v w' => ∃ I' a c, v = .tuple #[.slice a R.1.length c, .int .i64 R.2] ∧ Ext w0 I0 w' I' ∧ RBytes I' (.slice a R.1.length c) R.1) := by
  subst hn; subst hR; exact apply_c p ad bd m cap capb old w0 I0 hI hops hp hl ho
theorem check_E (p : PatL) (ad : Option Addr) (m cap : Nat) (n e : Int) (w0 : World) (I0 : Imm) (hI : Sat I0 w0) (hops : ROps I0 (.slice ad m cap) p.ops) (hp : p.wf) (he : checkP p = (n, e)) :
    Ctr Try.prog 7 [.agg #[.bool p.lifted, .int .i64 p.in_, .int .i64 p.out, .slice ad m cap]] w0 (fun v w' => v = .tuple #[.int .i64 n, .int .i64 e] ∧ Ext w0 I0 w' I0) := by
  have h := check_c p ad m cap w0 I0 hI hops hp
  rw [he] at h
  exact h
theorem patchOf_E (ad : Option Addr) (cap n : Nat) (l : List Sym) (size : Int) (C : PatL × Int) (w0 : World) (I0 : Imm) (hI : Sat I0 w0) (hl : RSyms I0 (.slice ad n cap) l) (hn : n = l.length) (hw : ∀ s ∈ l, s.wf) (he : ofPP l size = C) :
    Ctr Try.prog 16 [.slice ad n cap, .int .i64 size] w0 (fun v w' => ∃ I' a m c, v = .tuple #[.agg #[.bool C.1.lifted, .int .i64 C.1.in_, .int .i64 C.1.out, .slice a m c], .int .i64 C.2] ∧ Ext w0 I0 w' I' ∧ ROps I' (.slice a m c) C.1.ops) := by
  subst hn; subst he; exact patchOf_c ad cap l size w0 I0 hI hl hw
theorem sameB_E (va vb : Value) (a b : List Int) (w0 : World) (I0 : Imm) (hI : Sat I0 w0) (ha : RBytes I0 va a) (hb : RBytes I0 vb b) (he : a = b) :
    Ctr Try.prog 15 [va, vb] w0 (fun v w' => v = .bool true ∧ Ext w0 I0 w' I0) := by
  have h := sameB_c va vb a b w0 I0 hI ha hb
  rw [decide_eq_true he] at h
  exact h
theorem sameSyms_E (va vb : Value) (a b : List Sym) (w0 : World) (I0 : Imm) (hI : Sat I0 w0) (ha : RSyms I0 va a) (hb : RSyms I0 vb b) (he : symsEq a b = true) :
    Ctr Try.prog 17 [va, vb] w0 (fun v w' => v = .bool true ∧ Ext w0 I0 w' I0) := by
  have h := sameSyms_c va vb a b w0 I0 hI ha hb
  rw [he] at h
  exact h
theorem costN_E (p : PatL) (ad : Option Addr) (m cap : Nat) (n : Int) (w0 : World) (I0 : Imm) (hI : Sat I0 w0) (hops : ROps I0 (.slice ad m cap) p.ops) (hp : p.wf) (hok : (checkP p).2 = 0) (he : sumC p.ops = n) :
    Ctr Try.prog 19 [.agg #[.bool p.lifted, .int .i64 p.in_, .int .i64 p.out, .slice ad m cap]] w0 (fun v w' => v = .int .i64 n ∧ Ext w0 I0 w' I0) := by
  subst he; exact patchCost_ok p ad m cap w0 I0 hI hops hp hok

set_option maxRecDepth 20000 in
set_option maxHeartbeats 4000000 in
theorem sanity6_c (w0 : World) (I0 : Imm) (hI : Sat I0 w0) :
    Ctr Try.prog 5 [] w0 (fun v w' => ∃ I', v = .bool true ∧ Ext w0 I0 w' I') := by
  refine fn (n := 166) Try.func5 rfl rfl rfl ?_
  have hS := St.start hI
  refine wpIn_seq ?_
  refine reg ?_
  refine qq hS (g_assignv (v := .bool _) rfl) ?_
  refine ol_nil (thenN ?_)
  refine wpIn_seq ?_
  refine reg ?_
  refine qe (d_lit (vs := [.int .u8 _, .int .u8 _, .int .u8 _]) (cs := [.int .u8 _, .int .u8 _, .int .u8 _]) hS Try.underlying33 Try.sizeOf5 Try.zeroValue5 rfl rfl rfl rfl (fun v hv => by simp only [List.mem_cons, List.not_mem_nil, or_false] at hv; rcases hv with rfl | rfl | rfl <;> rfl) rfl) ?_
  clear hS
  rintro _ w_1 ⟨b20, rfl, hS⟩
  have hF := hS.freeze1
  clear hS
  obtain ⟨I20, hS, hI20, hb20⟩ := hF
  have h20 := RFl.ofAt byteC_len ([1, 2, 3] : List Int) hb20 rfl (by decide)
  refine qq hS (g_assign _) ?_
  refine ol_nil (thenN ?_)
  refine wpIn_seq ?_
  refine reg ?_
  refine qq hS (g_buildv (pl := [(0, 1), (1, 1), (2, 1), (3, 1), (4, 1)]) (cs := [.int .i64 _, .int .i64 _, .int .i64 _, .int .u8 _, .slice _ _ _]) Try.zeroValue35 Try.underlying35 (fun w => by simp [Try.sizeOf3, Try.sizeOf33, Try.sizeOf5]) (mp (v := .int .i64 _) rfl (mp (v := .int .i64 _) rfl (mp (v := .int .i64 _) rfl mp0))) rfl) ?_
  refine qq hS (g_buildv (pl := [(0, 1), (1, 1), (2, 1), (3, 1), (4, 1)]) (cs := [.int .i64 _, .int .i64 _, .int .i64 _, .int .u8 _, .slice _ _ _]) Try.zeroValue35 Try.underlying35 (fun w => by simp [Try.sizeOf3, Try.sizeOf33, Try.sizeOf5]) (mp (v := .int .i64 _) rfl (mp (v := .int .i64 _) rfl (mp (v := .int .u8 _) rfl mp0))) rfl) ?_
  refine qe (d_lit (vs := [.agg #[.int .i64 _, .int .i64 _, .int .i64 _, .int .u8 _, .slice _ _ _], .agg #[.int .i64 _, .int .i64 _, .int .i64 _, .int .u8 _, .slice _ _ _]]) (cs := [.int .i64 _, .int .i64 _, .int .i64 _, .int .u8 _, .slice _ _ _, .int .i64 _, .int .i64 _, .int .i64 _, .int .u8 _, .slice _ _ _]) hS Try.underlying22 Try.sizeOf35 Try.zeroValue35 rfl rfl rfl rfl (fun v hv => by simp only [List.mem_cons, List.not_mem_nil, or_false] at hv; rcases hv with rfl | rfl <;> rfl) rfl) ?_
  clear hS
  rintro _ w_2 ⟨b23, rfl, hS⟩
  have hF := hS.freeze1
  clear hS
  obtain ⟨I23, hS, hI23, hb23⟩ := hF
  replace h20 := h20.mono hI23
  have h23 : ROps _ (.slice (some ⟨b23, 0, none⟩) 2 2) [⟨1, 1, 2, 0, []⟩, ⟨3, 0, 2, 9, []⟩] := RSl.ofAt (css := [[.int .i64 1, .int .i64 1, .int .i64 2, .int .u8 0, .slice none 0 0], [.int .i64 3, .int .i64 0, .int .i64 2, .int .u8 9, .slice none 0 0]]) hb23 rfl (by simp) (All2.cons ⟨_, _, _, rfl, RFl.nil⟩ (All2.cons ⟨_, _, _, rfl, RFl.nil⟩ (All2.nil _))) rfl (by decide)
  refine qq hS (g_buildv (pl := [(0, 1), (1, 1), (2, 1), (3, 1)]) (cs := [.bool _, .int .i64 _, .int .i64 _, .slice _ _ _]) Try.zeroValue24 Try.underlying24 (fun w => by simp [Try.sizeOf22, Try.sizeOf3, Try.sizeOf4]) (mp (v := .int .i64 _) rfl (mp (v := .int .i64 _) rfl (mp (v := .slice _ _ _) rfl mp0))) rfl) ?_
  refine qe (d_alloc (cs := [.bool _, .int .i64 _, .int .i64 _, .slice _ _ _]) hS Try.zeroValue24 rfl) ?_
  clear hS
  rintro _ w_3 ⟨b2, rfl, hS⟩
  refine qe (d_store 0 hS Try.sizeOf24 rfl rfl rfl (vs := [.bool _, .int .i64 _, .int .i64 _, .slice _ _ _]) rfl rfl rfl (Nat.le_of_ble_eq_true rfl) (cs' := [_, _, _, _]) rfl) ?_
  clear hS
  rintro _ w_4 ⟨rfl, hS⟩
  refine ol_nil (thenN ?_)
  refine wpIn_seq ?_
  refine reg ?_
  refine qe (d_lit (vs := [.int .u8 _, .int .u8 _]) (cs := [.int .u8 _, .int .u8 _]) hS Try.underlying33 Try.sizeOf5 Try.zeroValue5 rfl rfl rfl rfl (fun v hv => by simp only [List.mem_cons, List.not_mem_nil, or_false] at hv; rcases hv with rfl | rfl <;> rfl) rfl) ?_
  clear hS
  rintro _ w_5 ⟨b25, rfl, hS⟩
  have hF := hS.freeze1
  clear hS
  obtain ⟨I25, hS, hI25, hb25⟩ := hF
  replace h20 := h20.mono hI25
  replace h23 := h23.mono hI25
  have h25 := RFl.ofAt byteC_len ([255, 1] : List Int) hb25 rfl (by decide)
  refine qq hS (g_buildv (pl := [(0, 1), (1, 1), (2, 1), (3, 1), (4, 1)]) (cs := [.int .i64 _, .int .i64 _, .int .i64 _, .int .u8 _, .slice _ _ _]) Try.zeroValue35 Try.underlying35 (fun w => by simp [Try.sizeOf3, Try.sizeOf33, Try.sizeOf5]) (mp (v := .int .i64 _) rfl (mp (v := .int .i64 _) rfl (mp (v := .slice _ _ _) rfl mp0))) rfl) ?_
  refine qe (d_lit (vs := [.agg #[.int .i64 _, .int .i64 _, .int .i64 _, .int .u8 _, .slice _ _ _]]) (cs := [.int .i64 _, .int .i64 _, .int .i64 _, .int .u8 _, .slice _ _ _]) hS Try.underlying22 Try.sizeOf35 Try.zeroValue35 rfl rfl rfl rfl (fun v hv => by simp only [List.mem_cons, List.not_mem_nil, or_false] at hv; subst hv; rfl) rfl) ?_
  clear hS
  rintro _ w_6 ⟨b27, rfl, hS⟩
  have hF := hS.freeze1
  clear hS
  obtain ⟨I27, hS, hI27, hb27⟩ := hF
  replace h20 := h20.mono hI27
  replace h23 := h23.mono hI27
  replace h25 := h25.mono hI27
  have h27 : ROps _ (.slice (some ⟨b27, 0, none⟩) 1 1) [⟨2, 0, 2, 0, [255, 1]⟩] := RSl.ofAt (css := [[.int .i64 2, .int .i64 0, .int .i64 2, .int .u8 0, .slice (some ⟨b25, 0, none⟩) 2 2]]) hb27 rfl (by simp) (All2.cons ⟨_, _, _, rfl, h25⟩ (All2.nil _)) rfl (by decide)
  refine qq hS (g_buildv (pl := [(0, 1), (1, 1), (2, 1), (3, 1)]) (cs := [.bool _, .int .i64 _, .int .i64 _, .slice _ _ _]) Try.zeroValue24 Try.underlying24 (fun w => by simp [Try.sizeOf22, Try.sizeOf3, Try.sizeOf4]) (mp (v := .int .i64 _) rfl (mp (v := .int .i64 _) rfl (mp (v := .slice _ _ _) rfl mp0))) rfl) ?_
  refine qe (d_alloc (cs := [.bool _, .int .i64 _, .int .i64 _, .slice _ _ _]) hS Try.zeroValue24 rfl) ?_
  clear hS
  rintro _ w_7 ⟨b3, rfl, hS⟩
  refine qe (d_store 0 hS Try.sizeOf24 rfl rfl rfl (vs := [.bool _, .int .i64 _, .int .i64 _, .slice _ _ _]) rfl rfl rfl (Nat.le_of_ble_eq_true rfl) (cs' := [_, _, _, _]) rfl) ?_
  clear hS
  rintro _ w_8 ⟨rfl, hS⟩
  refine ol_nil (thenN ?_)
  refine wpIn_seq ?_
  refine reg ?_
  refine qq hS (g_move _) ?_
  refine qq hS (g_ldO 1 (vs := [.bool _, .int .i64 _, .int .i64 _, .slice _ _ _]) Try.sizeOf24 Try.isAgg24 rfl rfl rfl rfl) ?_
  refine qe (d_call Try.call9 rfl (apply_E (⟨false, 3, 4, [⟨1, 1, 2, 0, []⟩, ⟨3, 0, 2, 9, []⟩]⟩ : PatL) _ _ _ _ _ _ ([1, 2, 3] : List Int) ([2, 3, 9, 9], 0) _ _ hS.imm h23 (okPat6_s (by kernel_rfl)) rfl h20 rfl (by kernel_rfl))) ?_
  rintro _ w_9 ⟨I_f, a32, c32, rfl, hE, h32⟩
  replace hS := hS.callE hE
  replace h20 := h20.mono hE.ext
  replace h23 := h23.mono hE.ext
  replace h25 := h25.mono hE.ext
  replace h27 := h27.mono hE.ext
  refine qq hS (g_move _) ?_
  refine qq hS (g_extract rfl rfl) ?_
  refine qq hS (g_extract (v := .int .i64 _) rfl rfl) ?_
  refine qq hS (g_assign _) ?_
  refine qq hS (g_assignv (v := .int .i64 _) rfl) ?_
  refine ol_nil (thenN ?_)
  refine wpIn_seq ?_
  refine reg ?_
  refine qq hS (g_move _) ?_
  refine qq hS (g_ldO 0 (vs := [.bool _, .int .i64 _, .int .i64 _, .slice _ _ _]) Try.sizeOf24 Try.isAgg24 rfl rfl rfl rfl) ?_
  refine qe (d_call Try.call9 rfl (apply_E (⟨false, 3, 2, [⟨2, 0, 2, 0, [255, 1]⟩]⟩ : PatL) _ _ _ _ _ _ ([1, 2, 3] : List Int) ([0, 3], 0) _ _ hS.imm h27 (okPat6_s (by kernel_rfl)) rfl h20 rfl (by kernel_rfl))) ?_
  rintro _ w_10 ⟨I_f, a38, c38, rfl, hE, h38⟩
  replace hS := hS.callE hE
  replace h20 := h20.mono hE.ext
  replace h23 := h23.mono hE.ext
  replace h25 := h25.mono hE.ext
  replace h27 := h27.mono hE.ext
  replace h32 := h32.mono hE.ext
  refine qq hS (g_move _) ?_
  refine qq hS (g_extract rfl rfl) ?_
  refine qq hS (g_extract (v := .int .i64 _) rfl rfl) ?_
  refine qq hS (g_assign _) ?_
  refine qq hS (g_assignv (v := .int .i64 _) rfl) ?_
  refine ol_nil (thenN ?_)
  refine wpIn_seq ?_
  refine reg ?_
  refine qq hS (g_ldO 1 (vs := [.bool _, .int .i64 _, .int .i64 _, .slice _ _ _]) Try.sizeOf24 Try.isAgg24 rfl rfl rfl rfl) ?_
  refine qe (d_call Try.call10 rfl (symbols_e (⟨false, 3, 4, [⟨1, 1, 2, 0, []⟩, ⟨3, 0, 2, 9, []⟩]⟩ : PatL) _ _ _ (([⟨true, 1, 0⟩, ⟨true, 2, 0⟩, ⟨false, 0, 9⟩, ⟨false, 0, 9⟩] : List Sym), 0) _ _ hS.imm h23 (okPat6_s (by kernel_rfl)) (by kernel_rfl))) ?_
  rintro _ w_11 ⟨I_f, a43, c43, rfl, hE, h43⟩
  replace hS := hS.callE hE
  replace h20 := h20.mono hE.ext
  replace h23 := h23.mono hE.ext
  replace h25 := h25.mono hE.ext
  replace h27 := h27.mono hE.ext
  replace h32 := h32.mono hE.ext
  replace h38 := h38.mono hE.ext
  refine qq hS (g_move _) ?_
  refine qq hS (g_extract rfl rfl) ?_
  refine qq hS (g_extract (v := .int .i64 _) rfl rfl) ?_
  refine qq hS (g_assign _) ?_
  refine qq hS (g_assignv (v := .int .i64 _) rfl) ?_
  refine ol_nil (thenN ?_)
  refine wpIn_seq ?_
  refine reg ?_
  refine qq hS (g_buildv (pl := [(0, 1), (1, 1), (2, 1), (3, 1), (4, 1)]) (cs := [.int .i64 _, .int .i64 _, .int .i64 _, .int .u8 _, .slice _ _ _]) Try.zeroValue35 Try.underlying35 (fun w => by simp [Try.sizeOf3, Try.sizeOf33, Try.sizeOf5]) (mp (v := .int .i64 _) rfl (mp (v := .int .i64 _) rfl (mp (v := .int .i64 _) rfl mp0))) rfl) ?_
  refine qe (d_lit (vs := [.agg #[.int .i64 _, .int .i64 _, .int .i64 _, .int .u8 _, .slice _ _ _]]) (cs := [.int .i64 _, .int .i64 _, .int .i64 _, .int .u8 _, .slice _ _ _]) hS Try.underlying22 Try.sizeOf35 Try.zeroValue35 rfl rfl rfl rfl (fun v hv => by simp only [List.mem_cons, List.not_mem_nil, or_false] at hv; subst hv; rfl) rfl) ?_
  clear hS
  rintro _ w_12 ⟨b48, rfl, hS⟩
  have hF := hS.freeze1
  clear hS
  obtain ⟨I48, hS, hI48, hb48⟩ := hF
  replace h20 := h20.mono hI48
  replace h23 := h23.mono hI48
  replace h25 := h25.mono hI48
  replace h27 := h27.mono hI48
  replace h32 := h32.mono hI48
  replace h38 := h38.mono hI48
  replace h43 := h43.mono hI48
  have h48 : ROps _ (.slice (some ⟨b48, 0, none⟩) 1 1) [⟨1, 2, 2, 0, []⟩] := RSl.ofAt (css := [[.int .i64 1, .int .i64 2, .int .i64 2, .int .u8 0, .slice none 0 0]]) hb48 rfl (by simp) (All2.cons ⟨_, _, _, rfl, RFl.nil⟩ (All2.nil _)) rfl (by decide)
  refine qq hS (g_buildv (pl := [(0, 1), (1, 1), (2, 1), (3, 1)]) (cs := [.bool _, .int .i64 _, .int .i64 _, .slice _ _ _]) Try.zeroValue24 Try.underlying24 (fun w => by simp [Try.sizeOf22, Try.sizeOf3, Try.sizeOf4]) (mp (v := .int .i64 _) rfl (mp (v := .int .i64 _) rfl (mp (v := .slice _ _ _) rfl mp0))) rfl) ?_
  refine qe (d_call Try.call7 rfl (check_E (⟨false, 3, 2, [⟨1, 2, 2, 0, []⟩]⟩ : PatL) _ _ _ 0 60 _ _ hS.imm h48 (okPat6_s (by kernel_rfl)) (by kernel_rfl))) ?_
  rintro _ w_13 ⟨rfl, hE⟩
  replace hS := hS.callE hE
  refine qq hS (g_move _) ?_
  refine qq hS (g_extract (v := .int .i64 _) rfl rfl) ?_
  refine qq hS (g_extract (v := .int .i64 _) rfl rfl) ?_
  refine qq hS (g_assignv (v := .int .i64 _) rfl) ?_
  refine qq hS (g_assignv (v := .int .i64 _) rfl) ?_
  refine ol_nil (thenN ?_)
  refine wpIn_seq ?_
  refine reg ?_
  refine qe (d_lit (vs := [.int .u8 _]) (cs := [.int .u8 _]) hS Try.underlying33 Try.sizeOf5 Try.zeroValue5 rfl rfl rfl rfl (fun v hv => by simp only [List.mem_cons, List.not_mem_nil, or_false] at hv; subst hv; rfl) rfl) ?_
  clear hS
  rintro _ w_14 ⟨b54, rfl, hS⟩
  have hF := hS.freeze1
  clear hS
  obtain ⟨I54, hS, hI54, hb54⟩ := hF
  replace h20 := h20.mono hI54
  replace h23 := h23.mono hI54
  replace h25 := h25.mono hI54
  replace h27 := h27.mono hI54
  replace h32 := h32.mono hI54
  replace h38 := h38.mono hI54
  replace h43 := h43.mono hI54
  replace h48 := h48.mono hI54
  have h54 := RFl.ofAt byteC_len ([7] : List Int) hb54 rfl (by decide)
  refine qq hS (g_buildv (pl := [(0, 1), (1, 1), (2, 1), (3, 1), (4, 1)]) (cs := [.int .i64 _, .int .i64 _, .int .i64 _, .int .u8 _, .slice _ _ _]) Try.zeroValue35 Try.underlying35 (fun w => by simp [Try.sizeOf3, Try.sizeOf33, Try.sizeOf5]) (mp (v := .int .i64 _) rfl (mp (v := .int .i64 _) rfl (mp (v := .slice _ _ _) rfl mp0))) rfl) ?_
  refine qe (d_lit (vs := [.agg #[.int .i64 _, .int .i64 _, .int .i64 _, .int .u8 _, .slice _ _ _]]) (cs := [.int .i64 _, .int .i64 _, .int .i64 _, .int .u8 _, .slice _ _ _]) hS Try.underlying22 Try.sizeOf35 Try.zeroValue35 rfl rfl rfl rfl (fun v hv => by simp only [List.mem_cons, List.not_mem_nil, or_false] at hv; subst hv; rfl) rfl) ?_
  clear hS
  rintro _ w_15 ⟨b56, rfl, hS⟩
  have hF := hS.freeze1
  clear hS
  obtain ⟨I56, hS, hI56, hb56⟩ := hF
  replace h20 := h20.mono hI56
  replace h23 := h23.mono hI56
  replace h25 := h25.mono hI56
  replace h27 := h27.mono hI56
  replace h32 := h32.mono hI56
  replace h38 := h38.mono hI56
  replace h43 := h43.mono hI56
  replace h48 := h48.mono hI56
  replace h54 := h54.mono hI56
  have h56 : ROps _ (.slice (some ⟨b56, 0, none⟩) 1 1) [⟨4, 0, 1, 0, [7]⟩] := RSl.ofAt (css := [[.int .i64 4, .int .i64 0, .int .i64 1, .int .u8 0, .slice (some ⟨b54, 0, none⟩) 1 1]]) hb56 rfl (by simp) (All2.cons ⟨_, _, _, rfl, h54⟩ (All2.nil _)) rfl (by decide)
  refine qq hS (g_buildv (pl := [(0, 1), (1, 1), (2, 1), (3, 1)]) (cs := [.bool _, .int .i64 _, .int .i64 _, .slice _ _ _]) Try.zeroValue24 Try.underlying24 (fun w => by simp [Try.sizeOf22, Try.sizeOf3, Try.sizeOf4]) (mp (v := .int .i64 _) rfl (mp (v := .int .i64 _) rfl (mp (v := .slice _ _ _) rfl mp0))) rfl) ?_
  refine qe (d_call Try.call7 rfl (check_E (⟨false, 3, 2, [⟨4, 0, 1, 0, [7]⟩]⟩ : PatL) _ _ _ 1 60 _ _ hS.imm h56 (okPat6_s (by kernel_rfl)) (by kernel_rfl))) ?_
  rintro _ w_16 ⟨rfl, hE⟩
  replace hS := hS.callE hE
  refine qq hS (g_move _) ?_
  refine qq hS (g_extract (v := .int .i64 _) rfl rfl) ?_
  refine qq hS (g_extract (v := .int .i64 _) rfl rfl) ?_
  refine qq hS (g_assignv (v := .int .i64 _) rfl) ?_
  refine qq hS (g_assignv (v := .int .i64 _) rfl) ?_
  refine ol_nil (thenN ?_)
  refine wpIn_seq ?_
  refine reg ?_
  refine qq hS (g_buildv (pl := [(0, 1), (1, 1), (2, 1)]) (cs := [.bool _, .int .i64 _, .int .u8 _]) Try.zeroValue64 Try.underlying64 (fun w => by simp [Try.sizeOf3, Try.sizeOf4, Try.sizeOf5]) (mp (v := .bool _) rfl (mp (v := .int .i64 _) rfl mp0)) rfl) ?_
  refine qq hS (g_buildv (pl := [(0, 1), (1, 1), (2, 1)]) (cs := [.bool _, .int .i64 _, .int .u8 _]) Try.zeroValue64 Try.underlying64 (fun w => by simp [Try.sizeOf3, Try.sizeOf4, Try.sizeOf5]) (mp (v := .bool _) rfl (mp (v := .int .i64 _) rfl mp0)) rfl) ?_
  refine qq hS (g_buildv (pl := [(0, 1), (1, 1), (2, 1)]) (cs := [.bool _, .int .i64 _, .int .u8 _]) Try.zeroValue64 Try.underlying64 (fun w => by simp [Try.sizeOf3, Try.sizeOf4, Try.sizeOf5]) (mp (v := .int .u8 _) rfl mp0) rfl) ?_
  refine qq hS (g_buildv (pl := [(0, 1), (1, 1), (2, 1)]) (cs := [.bool _, .int .i64 _, .int .u8 _]) Try.zeroValue64 Try.underlying64 (fun w => by simp [Try.sizeOf3, Try.sizeOf4, Try.sizeOf5]) (mp (v := .int .u8 _) rfl mp0) rfl) ?_
  refine qe (d_lit (vs := [.agg #[.bool _, .int .i64 _, .int .u8 _], .agg #[.bool _, .int .i64 _, .int .u8 _], .agg #[.bool _, .int .i64 _, .int .u8 _], .agg #[.bool _, .int .i64 _, .int .u8 _]]) (cs := [.bool _, .int .i64 _, .int .u8 _, .bool _, .int .i64 _, .int .u8 _, .bool _, .int .i64 _, .int .u8 _, .bool _, .int .i64 _, .int .u8 _]) hS Try.underlying43 Try.sizeOf64 Try.zeroValue64 rfl rfl rfl rfl (fun v hv => by simp only [List.mem_cons, List.not_mem_nil, or_false] at hv; rcases hv with rfl | rfl | rfl | rfl <;> rfl) rfl) ?_
  clear hS
  rintro _ w_17 ⟨b66, rfl, hS⟩
  have hF := hS.freeze1
  clear hS
  obtain ⟨I66, hS, hI66, hb66⟩ := hF
  replace h20 := h20.mono hI66
  replace h23 := h23.mono hI66
  replace h25 := h25.mono hI66
  replace h27 := h27.mono hI66
  replace h32 := h32.mono hI66
  replace h38 := h38.mono hI66
  replace h43 := h43.mono hI66
  replace h48 := h48.mono hI66
  replace h54 := h54.mono hI66
  replace h56 := h56.mono hI66
  have h66 := RFl.ofAt symC_len ([⟨true, 1, 0⟩, ⟨true, 2, 0⟩, ⟨false, 0, 9⟩, ⟨false, 0, 9⟩] : List Sym) hb66 rfl (by decide)
  refine qe (d_call Try.call16 rfl (patchOf_E _ _ _ ([⟨true, 1, 0⟩, ⟨true, 2, 0⟩, ⟨false, 0, 9⟩, ⟨false, 0, 9⟩] : List Sym) 3 ((⟨false, 3, 4, [⟨1, 1, 2, 0, []⟩, ⟨4, 0, 2, 0, [9, 9]⟩]⟩ : PatL), 0) _ _ hS.imm h66 rfl (okSyms (by kernel_rfl)) (by kernel_rfl))) ?_
  rintro _ w_18 ⟨I_f, a67, m67, c67, rfl, hE, h67⟩
  replace hS := hS.callE hE
  replace h20 := h20.mono hE.ext
  replace h23 := h23.mono hE.ext
  replace h25 := h25.mono hE.ext
  replace h27 := h27.mono hE.ext
  replace h32 := h32.mono hE.ext
  replace h38 := h38.mono hE.ext
  replace h43 := h43.mono hE.ext
  replace h48 := h48.mono hE.ext
  replace h54 := h54.mono hE.ext
  replace h56 := h56.mono hE.ext
  replace h66 := h66.mono hE.ext
  refine qq hS (g_move _) ?_
  refine qq hS (g_extract rfl rfl) ?_
  refine qq hS (g_extract (v := .int .i64 _) rfl rfl) ?_
  refine qe (d_alloc (cs := [.bool _, .int .i64 _, .int .i64 _, .slice _ _ _]) hS Try.zeroValue24 rfl) ?_
  clear hS
  rintro _ w_19 ⟨b14, rfl, hS⟩
  refine qe (d_store 0 hS Try.sizeOf24 rfl rfl rfl (vs := [.bool _, .int .i64 _, .int .i64 _, .slice _ _ _]) rfl rfl rfl (Nat.le_of_ble_eq_true rfl) (cs' := [_, _, _, _]) rfl) ?_
  clear hS
  rintro _ w_20 ⟨rfl, hS⟩
  refine qq hS (g_assignv (v := .int .i64 _) rfl) ?_
  refine ol_nil (thenN ?_)
  refine wpIn_seq ?_
  refine draw (.cons 0 .pure (.cons 1 .pure (.cons 2 .held (.cons 3 .eff (.cons 4 .pure (.cons 5 .pure (.cons 6 .pure (.cons 7 .pure (.cons 8 .pure .nil))))))))) mixed (by kernel_rfl) hS ?_
  intro w_21 hS
  refine sp rfl (g_move _) ?_
  refine sp rfl (g_sliceHN (h0 := 2) Try.underlying33 Try.sizeOf5 rfl rfl (by decide) (by decide) rfl) ?_
  refine sh rfl (g_ldO 2 (vs := [.bool _, .int .i64 _, .int .i64 _, .slice _ _ _]) Try.sizeOf24 Try.isAgg24 rfl rfl rfl rfl) ?_
  have hS0 := hS
  refine se rfl (d_call Try.call9 rfl (apply_E (⟨false, 3, 4, [⟨1, 1, 2, 0, []⟩, ⟨3, 0, 2, 9, []⟩]⟩ : PatL) _ _ _ _ _ _ ([1, 2] : List Int) ([], 61) _ _ hS.imm h23 (okPat6_s (by kernel_rfl)) rfl (show RBytes _ (.slice (some ⟨b20, 0, none⟩) 2 3) [1, 2] from (RSl.resl2 h20 0 2 (by decide) (by decide)).1) rfl (by kernel_rfl))) ?_
  rintro _ w_22 ⟨I_f, a74, c74, rfl, hE, h74⟩
  replace hS := hS.call hE
  replace h20 := h20.mono hE.ext
  replace h23 := h23.mono hE.ext
  replace h25 := h25.mono hE.ext
  replace h27 := h27.mono hE.ext
  replace h32 := h32.mono hE.ext
  replace h38 := h38.mono hE.ext
  replace h43 := h43.mono hE.ext
  replace h48 := h48.mono hE.ext
  replace h54 := h54.mono hE.ext
  replace h56 := h56.mono hE.ext
  replace h66 := h66.mono hE.ext
  replace h67 := h67.mono hE.ext
  refine ⟨_, _, hS0.le hE.ext (List.Sublist.refl _), hS, ?_⟩
  refine sp rfl (g_move _) ?_
  refine sp rfl (g_extract rfl rfl) ?_
  refine sp rfl (g_extract (v := .int .i64 _) rfl rfl) ?_
  refine sp rfl (g_assign _) ?_
  refine sp rfl (g_assignv (v := .int .i64 _) rfl) ?_
  refine sn (thenN ?_)
  refine wpIn_seq ?_
  refine reg ?_
  refine qq hS (g_buildv (pl := [(0, 1), (1, 1), (2, 1), (3, 1), (4, 1)]) (cs := [.int .i64 _, .int .i64 _, .int .i64 _, .int .u8 _, .slice _ _ _]) Try.zeroValue35 Try.underlying35 (fun w => by simp [Try.sizeOf3, Try.sizeOf33, Try.sizeOf5]) (mp (v := .int .i64 _) rfl (mp (v := .int .i64 _) rfl (mp (v := .int .i64 _) rfl mp0))) rfl) ?_
  refine qe (d_lit (vs := [.int .u8 _, .int .u8 _]) (cs := [.int .u8 _, .int .u8 _]) hS Try.underlying33 Try.sizeOf5 Try.zeroValue5 rfl rfl rfl rfl (fun v hv => by simp only [List.mem_cons, List.not_mem_nil, or_false] at hv; rcases hv with rfl | rfl <;> rfl) rfl) ?_
  clear hS
  rintro _ w_23 ⟨b78, rfl, hS⟩
  have hF := hS.freeze1
  clear hS
  obtain ⟨I78, hS, hI78, hb78⟩ := hF
  replace h20 := h20.mono hI78
  replace h23 := h23.mono hI78
  replace h25 := h25.mono hI78
  replace h27 := h27.mono hI78
  replace h32 := h32.mono hI78
  replace h38 := h38.mono hI78
  replace h43 := h43.mono hI78
  replace h48 := h48.mono hI78
  replace h54 := h54.mono hI78
  replace h56 := h56.mono hI78
  replace h66 := h66.mono hI78
  replace h67 := h67.mono hI78
  replace h74 := h74.mono hI78
  have h78 := RFl.ofAt byteC_len ([9, 9] : List Int) hb78 rfl (by decide)
  refine qq hS (g_buildv (pl := [(0, 1), (1, 1), (2, 1), (3, 1), (4, 1)]) (cs := [.int .i64 _, .int .i64 _, .int .i64 _, .int .u8 _, .slice _ _ _]) Try.zeroValue35 Try.underlying35 (fun w => by simp [Try.sizeOf3, Try.sizeOf33, Try.sizeOf5]) (mp (v := .int .i64 _) rfl (mp (v := .int .i64 _) rfl (mp (v := .slice _ _ _) rfl mp0))) rfl) ?_
  refine qe (d_lit (vs := [.agg #[.int .i64 _, .int .i64 _, .int .i64 _, .int .u8 _, .slice _ _ _], .agg #[.int .i64 _, .int .i64 _, .int .i64 _, .int .u8 _, .slice _ _ _]]) (cs := [.int .i64 _, .int .i64 _, .int .i64 _, .int .u8 _, .slice _ _ _, .int .i64 _, .int .i64 _, .int .i64 _, .int .u8 _, .slice _ _ _]) hS Try.underlying22 Try.sizeOf35 Try.zeroValue35 rfl rfl rfl rfl (fun v hv => by simp only [List.mem_cons, List.not_mem_nil, or_false] at hv; rcases hv with rfl | rfl <;> rfl) rfl) ?_
  clear hS
  rintro _ w_24 ⟨b80, rfl, hS⟩
  have hF := hS.freeze1
  clear hS
  obtain ⟨I80, hS, hI80, hb80⟩ := hF
  replace h20 := h20.mono hI80
  replace h23 := h23.mono hI80
  replace h25 := h25.mono hI80
  replace h27 := h27.mono hI80
  replace h32 := h32.mono hI80
  replace h38 := h38.mono hI80
  replace h43 := h43.mono hI80
  replace h48 := h48.mono hI80
  replace h54 := h54.mono hI80
  replace h56 := h56.mono hI80
  replace h66 := h66.mono hI80
  replace h67 := h67.mono hI80
  replace h74 := h74.mono hI80
  replace h78 := h78.mono hI80
  have h80 : ROps _ (.slice (some ⟨b80, 0, none⟩) 2 2) [⟨1, 1, 2, 0, []⟩, ⟨4, 0, 2, 0, [9, 9]⟩] := RSl.ofAt (css := [[.int .i64 1, .int .i64 1, .int .i64 2, .int .u8 0, .slice none 0 0], [.int .i64 4, .int .i64 0, .int .i64 2, .int .u8 0, .slice (some ⟨b78, 0, none⟩) 2 2]]) hb80 rfl (by simp) (All2.cons ⟨_, _, _, rfl, RFl.nil⟩ (All2.cons ⟨_, _, _, rfl, h78⟩ (All2.nil _))) rfl (by decide)
  refine qq hS (g_buildv (pl := [(0, 1), (1, 1), (2, 1), (3, 1)]) (cs := [.bool _, .int .i64 _, .int .i64 _, .slice _ _ _]) Try.zeroValue24 Try.underlying24 (fun w => by simp [Try.sizeOf22, Try.sizeOf3, Try.sizeOf4]) (mp (v := .int .i64 _) rfl (mp (v := .int .i64 _) rfl (mp (v := .slice _ _ _) rfl mp0))) rfl) ?_
  refine qe (d_alloc (cs := [.bool _, .int .i64 _, .int .i64 _, .slice _ _ _]) hS Try.zeroValue24 rfl) ?_
  clear hS
  rintro _ w_25 ⟨b18, rfl, hS⟩
  refine qe (d_store 0 hS Try.sizeOf24 rfl rfl rfl (vs := [.bool _, .int .i64 _, .int .i64 _, .slice _ _ _]) rfl rfl rfl (Nat.le_of_ble_eq_true rfl) (cs' := [_, _, _, _]) rfl) ?_
  clear hS
  rintro _ w_26 ⟨rfl, hS⟩
  refine ol_nil (thenN ?_)
  refine wpIn_seq ?_
  refine reg ?_
  refine qq hS (g_movev (v := .int .i64 _) rfl) ?_
  refine qq hS (g_eql rfl rfl) ?_
  refine qq hS (g_movev (v := .bool _) rfl) ?_
  refine qqs rfl rfl hS (g_move _) ?_
  refine qes rfl rfl (d_lit (vs := [.int .u8 _, .int .u8 _, .int .u8 _, .int .u8 _]) (cs := [.int .u8 _, .int .u8 _, .int .u8 _, .int .u8 _]) hS Try.underlying33 Try.sizeOf5 Try.zeroValue5 rfl rfl rfl rfl (fun v hv => by simp only [List.mem_cons, List.not_mem_nil, or_false] at hv; rcases hv with rfl | rfl | rfl | rfl <;> rfl) rfl) ?_
  clear hS
  rintro _ w_27 ⟨b86, rfl, hS⟩
  have hF := hS.freeze1
  clear hS
  obtain ⟨I86, hS, hI86, hb86⟩ := hF
  replace h20 := h20.mono hI86
  replace h23 := h23.mono hI86
  replace h25 := h25.mono hI86
  replace h27 := h27.mono hI86
  replace h32 := h32.mono hI86
  replace h38 := h38.mono hI86
  replace h43 := h43.mono hI86
  replace h48 := h48.mono hI86
  replace h54 := h54.mono hI86
  replace h56 := h56.mono hI86
  replace h66 := h66.mono hI86
  replace h67 := h67.mono hI86
  replace h74 := h74.mono hI86
  replace h78 := h78.mono hI86
  replace h80 := h80.mono hI86
  have h86 := RFl.ofAt byteC_len ([2, 3, 9, 9] : List Int) hb86 rfl (by decide)
  refine qes rfl rfl (d_call Try.call15 rfl (sameB_E _ _ [2, 3, 9, 9] ([2, 3, 9, 9] : List Int) _ _ hS.imm h32 h86 rfl)) ?_
  rintro _ w_28 ⟨rfl, hE⟩
  replace hS := hS.callE hE
  refine qq hS (g_and rfl rfl (fun _ => rfl)) ?_
  refine qq hS (g_movev (v := .bool _) rfl) ?_
  refine qqs rfl rfl hS (g_movev (v := .int .i64 _) rfl) ?_
  refine qqs rfl rfl hS (g_eql rfl rfl) ?_
  refine qq hS (g_and rfl rfl (fun _ => rfl)) ?_
  refine qq hS (g_movev (v := .bool _) rfl) ?_
  refine qqs rfl rfl hS (g_move _) ?_
  refine qes rfl rfl (d_lit (vs := [.int .u8 _, .int .u8 _]) (cs := [.int .u8 _, .int .u8 _]) hS Try.underlying33 Try.sizeOf5 Try.zeroValue5 rfl rfl rfl rfl (fun v hv => by simp only [List.mem_cons, List.not_mem_nil, or_false] at hv; rcases hv with rfl | rfl <;> rfl) rfl) ?_
  clear hS
  rintro _ w_29 ⟨b95, rfl, hS⟩
  have hF := hS.freeze1
  clear hS
  obtain ⟨I95, hS, hI95, hb95⟩ := hF
  replace h20 := h20.mono hI95
  replace h23 := h23.mono hI95
  replace h25 := h25.mono hI95
  replace h27 := h27.mono hI95
  replace h32 := h32.mono hI95
  replace h38 := h38.mono hI95
  replace h43 := h43.mono hI95
  replace h48 := h48.mono hI95
  replace h54 := h54.mono hI95
  replace h56 := h56.mono hI95
  replace h66 := h66.mono hI95
  replace h67 := h67.mono hI95
  replace h74 := h74.mono hI95
  replace h78 := h78.mono hI95
  replace h80 := h80.mono hI95
  replace h86 := h86.mono hI95
  have h95 := RFl.ofAt byteC_len ([0, 3] : List Int) hb95 rfl (by decide)
  refine qes rfl rfl (d_call Try.call15 rfl (sameB_E _ _ [0, 3] ([0, 3] : List Int) _ _ hS.imm h38 h95 rfl)) ?_
  rintro _ w_30 ⟨rfl, hE⟩
  replace hS := hS.callE hE
  refine qq hS (g_and rfl rfl (fun _ => rfl)) ?_
  refine qq hS (g_movev (v := .bool _) rfl) ?_
  refine qqs rfl rfl hS (g_movev (v := .int .i64 _) rfl) ?_
  refine qqs rfl rfl hS (g_eql rfl rfl) ?_
  refine qq hS (g_and rfl rfl (fun _ => rfl)) ?_
  refine qq hS (g_movev (v := .bool _) rfl) ?_
  refine qqs rfl rfl hS (g_move _) ?_
  refine qqs rfl rfl hS (g_buildv (pl := [(0, 1), (1, 1), (2, 1)]) (cs := [.bool _, .int .i64 _, .int .u8 _]) Try.zeroValue64 Try.underlying64 (fun w => by simp [Try.sizeOf3, Try.sizeOf4, Try.sizeOf5]) (mp (v := .bool _) rfl (mp (v := .int .i64 _) rfl mp0)) rfl) ?_
  refine qqs rfl rfl hS (g_buildv (pl := [(0, 1), (1, 1), (2, 1)]) (cs := [.bool _, .int .i64 _, .int .u8 _]) Try.zeroValue64 Try.underlying64 (fun w => by simp [Try.sizeOf3, Try.sizeOf4, Try.sizeOf5]) (mp (v := .bool _) rfl (mp (v := .int .i64 _) rfl mp0)) rfl) ?_
  refine qqs rfl rfl hS (g_buildv (pl := [(0, 1), (1, 1), (2, 1)]) (cs := [.bool _, .int .i64 _, .int .u8 _]) Try.zeroValue64 Try.underlying64 (fun w => by simp [Try.sizeOf3, Try.sizeOf4, Try.sizeOf5]) (mp (v := .int .u8 _) rfl mp0) rfl) ?_
  refine qqs rfl rfl hS (g_buildv (pl := [(0, 1), (1, 1), (2, 1)]) (cs := [.bool _, .int .i64 _, .int .u8 _]) Try.zeroValue64 Try.underlying64 (fun w => by simp [Try.sizeOf3, Try.sizeOf4, Try.sizeOf5]) (mp (v := .int .u8 _) rfl mp0) rfl) ?_
  refine qes rfl rfl (d_lit (vs := [.agg #[.bool _, .int .i64 _, .int .u8 _], .agg #[.bool _, .int .i64 _, .int .u8 _], .agg #[.bool _, .int .i64 _, .int .u8 _], .agg #[.bool _, .int .i64 _, .int .u8 _]]) (cs := [.bool _, .int .i64 _, .int .u8 _, .bool _, .int .i64 _, .int .u8 _, .bool _, .int .i64 _, .int .u8 _, .bool _, .int .i64 _, .int .u8 _]) hS Try.underlying43 Try.sizeOf64 Try.zeroValue64 rfl rfl rfl rfl (fun v hv => by simp only [List.mem_cons, List.not_mem_nil, or_false] at hv; rcases hv with rfl | rfl | rfl | rfl <;> rfl) rfl) ?_
  clear hS
  rintro _ w_31 ⟨b108, rfl, hS⟩
  have hF := hS.freeze1
  clear hS
  obtain ⟨I108, hS, hI108, hb108⟩ := hF
  replace h20 := h20.mono hI108
  replace h23 := h23.mono hI108
  replace h25 := h25.mono hI108
  replace h27 := h27.mono hI108
  replace h32 := h32.mono hI108
  replace h38 := h38.mono hI108
  replace h43 := h43.mono hI108
  replace h48 := h48.mono hI108
  replace h54 := h54.mono hI108
  replace h56 := h56.mono hI108
  replace h66 := h66.mono hI108
  replace h67 := h67.mono hI108
  replace h74 := h74.mono hI108
  replace h78 := h78.mono hI108
  replace h80 := h80.mono hI108
  replace h86 := h86.mono hI108
  replace h95 := h95.mono hI108
  have h108 := RFl.ofAt symC_len ([⟨true, 1, 0⟩, ⟨true, 2, 0⟩, ⟨false, 0, 9⟩, ⟨false, 0, 9⟩] : List Sym) hb108 rfl (by decide)
  refine qes rfl rfl (d_call Try.call17 rfl (sameSyms_E _ _ ([⟨true, 1, 0⟩, ⟨true, 2, 0⟩, ⟨false, 0, 9⟩, ⟨false, 0, 9⟩] : List Sym) ([⟨true, 1, 0⟩, ⟨true, 2, 0⟩, ⟨false, 0, 9⟩, ⟨false, 0, 9⟩] : List Sym) _ _ hS.imm h43 h108 (by kernel_rfl))) ?_
  rintro _ w_32 ⟨rfl, hE⟩
  replace hS := hS.callE hE
  refine qq hS (g_and rfl rfl (fun _ => rfl)) ?_
  refine qq hS (g_assignv (v := .bool _) rfl) ?_
  refine ol_nil (thenN ?_)
  refine wpIn_seq ?_
  refine reg ?_
  refine qq hS (g_movev (v := .bool _) rfl) ?_
  refine qq hS (g_movev (v := .bool _) rfl) ?_
  refine qqs rfl rfl hS (g_movev (v := .int .i64 _) rfl) ?_
  refine qqs rfl rfl hS (g_eql rfl rfl) ?_
  refine qq hS (g_and rfl rfl (fun _ => rfl)) ?_
  refine qq hS (g_movev (v := .bool _) rfl) ?_
  refine qqs rfl rfl hS (g_movev (v := .int .i64 _) rfl) ?_
  refine qqs rfl rfl hS (g_eql rfl rfl) ?_
  refine qq hS (g_and rfl rfl (fun _ => rfl)) ?_
  refine qq hS (g_movev (v := .bool _) rfl) ?_
  refine qqs rfl rfl hS (g_movev (v := .int .i64 _) rfl) ?_
  refine qqs rfl rfl hS (g_eql rfl rfl) ?_
  refine qq hS (g_and rfl rfl (fun _ => rfl)) ?_
  refine qq hS (g_movev (v := .bool _) rfl) ?_
  refine qqs rfl rfl hS (g_movev (v := .int .i64 _) rfl) ?_
  refine qqs rfl rfl hS (g_eql rfl rfl) ?_
  refine qq hS (g_and rfl rfl (fun _ => rfl)) ?_
  refine qq hS (g_movev (v := .bool _) rfl) ?_
  refine qqs rfl rfl hS (g_movev (v := .int .i64 _) rfl) ?_
  refine qqs rfl rfl hS (g_eql rfl rfl) ?_
  refine qq hS (g_and rfl rfl (fun _ => rfl)) ?_
  refine qq hS (g_movev (v := .bool _) rfl) ?_
  refine qqs rfl rfl hS (g_ldO 1 (vs := [.bool _, .int .i64 _, .int .i64 _, .slice _ _ _]) Try.sizeOf24 Try.isAgg24 rfl rfl rfl rfl) ?_
  refine qqs rfl rfl hS (g_ldO 0 (vs := [.bool _, .int .i64 _, .int .i64 _, .slice _ _ _]) Try.sizeOf24 Try.isAgg24 rfl rfl rfl rfl) ?_
  refine qes rfl rfl (d_call Try.call18 rfl (sameR_e (⟨false, 3, 4, [⟨1, 1, 2, 0, []⟩, ⟨4, 0, 2, 0, [9, 9]⟩]⟩ : PatL) (⟨false, 3, 4, [⟨1, 1, 2, 0, []⟩, ⟨4, 0, 2, 0, [9, 9]⟩]⟩ : PatL) _ _ _ _ _ _ true _ _ hS.imm h67 (okPat6_s (by kernel_rfl)) h80 (okPat6_s (by kernel_rfl)) (by kernel_rfl))) ?_
  rintro _ w_33 ⟨rfl, hE⟩
  replace hS := hS.callE hE
  refine qq hS (g_and rfl rfl (fun _ => rfl)) ?_
  refine qq hS (g_movev (v := .bool _) rfl) ?_
  refine qqs rfl rfl hS (g_movev (v := .int .i64 _) rfl) ?_
  refine qqs rfl rfl hS (g_eql rfl rfl) ?_
  refine qq hS (g_and rfl rfl (fun _ => rfl)) ?_
  refine qq hS (g_movev (v := .bool _) rfl) ?_
  refine qqs rfl rfl hS (g_ldO 3 (vs := [.bool _, .int .i64 _, .int .i64 _, .slice _ _ _]) Try.sizeOf24 Try.isAgg24 rfl rfl rfl rfl) ?_
  refine qes rfl rfl (d_call Try.call19 rfl (costN_E (⟨false, 3, 4, [⟨1, 1, 2, 0, []⟩, ⟨3, 0, 2, 9, []⟩]⟩ : PatL) _ _ _ 8 _ _ hS.imm h23 (okPat6_s (by kernel_rfl)) (by kernel_rfl) (by kernel_rfl))) ?_
  rintro _ w_34 ⟨rfl, hE⟩
  replace hS := hS.callE hE
  refine qqs rfl rfl hS (g_eql rfl rfl) ?_
  refine qq hS (g_and rfl rfl (fun _ => rfl)) ?_
  refine qq hS (g_movev (v := .bool _) rfl) ?_
  refine qqs rfl rfl hS (g_ldO 2 (vs := [.bool _, .int .i64 _, .int .i64 _, .slice _ _ _]) Try.sizeOf24 Try.isAgg24 rfl rfl rfl rfl) ?_
  refine qes rfl rfl (d_call Try.call19 rfl (costN_E (⟨false, 3, 2, [⟨2, 0, 2, 0, [255, 1]⟩]⟩ : PatL) _ _ _ 6 _ _ hS.imm h27 (okPat6_s (by kernel_rfl)) (by kernel_rfl) (by kernel_rfl))) ?_
  rintro _ w_35 ⟨rfl, hE⟩
  replace hS := hS.callE hE
  refine qqs rfl rfl hS (g_eql rfl rfl) ?_
  refine qq hS (g_and rfl rfl (fun _ => rfl)) ?_
  refine qq hS (g_movev (v := .bool _) rfl) ?_
  refine qqs rfl rfl hS (g_ldO 0 (vs := [.bool _, .int .i64 _, .int .i64 _, .slice _ _ _]) Try.sizeOf24 Try.isAgg24 rfl rfl rfl rfl) ?_
  refine qes rfl rfl (d_call Try.call19 rfl (costN_E (⟨false, 3, 4, [⟨1, 1, 2, 0, []⟩, ⟨4, 0, 2, 0, [9, 9]⟩]⟩ : PatL) _ _ _ 8 _ _ hS.imm h80 (okPat6_s (by kernel_rfl)) (by kernel_rfl) (by kernel_rfl))) ?_
  rintro _ w_36 ⟨rfl, hE⟩
  replace hS := hS.callE hE
  refine qqs rfl rfl hS (g_eql rfl rfl) ?_
  refine qq hS (g_and rfl rfl (fun _ => rfl)) ?_
  refine qq hS (g_movev (v := .bool _) rfl) ?_
  refine qes rfl rfl (d_call Try.call14 rfl (patchWhole_c 3 _ _ hS.imm (by decide))) ?_
  rintro _ w_37 ⟨I_f, a157, m157, c157, rfl, hE, h157⟩
  replace hS := hS.callE hE
  replace h20 := h20.mono hE.ext
  replace h23 := h23.mono hE.ext
  replace h25 := h25.mono hE.ext
  replace h27 := h27.mono hE.ext
  replace h32 := h32.mono hE.ext
  replace h38 := h38.mono hE.ext
  replace h43 := h43.mono hE.ext
  replace h48 := h48.mono hE.ext
  replace h54 := h54.mono hE.ext
  replace h56 := h56.mono hE.ext
  replace h66 := h66.mono hE.ext
  replace h67 := h67.mono hE.ext
  replace h74 := h74.mono hE.ext
  replace h78 := h78.mono hE.ext
  replace h80 := h80.mono hE.ext
  replace h86 := h86.mono hE.ext
  replace h95 := h95.mono hE.ext
  replace h108 := h108.mono hE.ext
  refine qes rfl rfl (d_call Try.call20 rfl (refWhole_c 3 _ _ hS.imm (by decide))) ?_
  rintro _ w_38 ⟨I_f, a158, m158, c158, rfl, hE, h158⟩
  replace hS := hS.callE hE
  replace h20 := h20.mono hE.ext
  replace h23 := h23.mono hE.ext
  replace h25 := h25.mono hE.ext
  replace h27 := h27.mono hE.ext
  replace h32 := h32.mono hE.ext
  replace h38 := h38.mono hE.ext
  replace h43 := h43.mono hE.ext
  replace h48 := h48.mono hE.ext
  replace h54 := h54.mono hE.ext
  replace h56 := h56.mono hE.ext
  replace h66 := h66.mono hE.ext
  replace h67 := h67.mono hE.ext
  replace h74 := h74.mono hE.ext
  replace h78 := h78.mono hE.ext
  replace h80 := h80.mono hE.ext
  replace h86 := h86.mono hE.ext
  replace h95 := h95.mono hE.ext
  replace h108 := h108.mono hE.ext
  replace h157 := h157.mono hE.ext
  refine qes rfl rfl (d_call Try.call18 rfl (sameR_e (wholeP 3) (wholeP 3) _ _ _ _ _ _ true _ _ hS.imm h157 (okPat6_s (by kernel_rfl)) h158 (okPat6_s (by kernel_rfl)) (by kernel_rfl))) ?_
  rintro _ w_39 ⟨rfl, hE⟩
  replace hS := hS.callE hE
  refine qq hS (g_and rfl rfl (fun _ => rfl)) ?_
  refine qq hS (g_movev (v := .bool _) rfl) ?_
  refine qes rfl rfl (d_call Try.call14 rfl (patchWhole_c 0 _ _ hS.imm (by decide))) ?_
  rintro _ w_40 ⟨I_f, a162, m162, c162, rfl, hE, h162⟩
  replace hS := hS.callE hE
  replace h20 := h20.mono hE.ext
  replace h23 := h23.mono hE.ext
  replace h25 := h25.mono hE.ext
  replace h27 := h27.mono hE.ext
  replace h32 := h32.mono hE.ext
  replace h38 := h38.mono hE.ext
  replace h43 := h43.mono hE.ext
  replace h48 := h48.mono hE.ext
  replace h54 := h54.mono hE.ext
  replace h56 := h56.mono hE.ext
  replace h66 := h66.mono hE.ext
  replace h67 := h67.mono hE.ext
  replace h74 := h74.mono hE.ext
  replace h78 := h78.mono hE.ext
  replace h80 := h80.mono hE.ext
  replace h86 := h86.mono hE.ext
  replace h95 := h95.mono hE.ext
  replace h108 := h108.mono hE.ext
  replace h157 := h157.mono hE.ext
  replace h158 := h158.mono hE.ext
  refine qqs rfl rfl hS (g_buildv (pl := [(0, 1), (1, 1), (2, 1), (3, 1)]) (cs := [.bool _, .int .i64 _, .int .i64 _, .slice _ _ _]) Try.zeroValue24 Try.underlying24 (fun w => by simp [Try.sizeOf22, Try.sizeOf3, Try.sizeOf4]) mp0 rfl) ?_
  refine qes rfl rfl (d_call Try.call18 rfl (sameR_e (wholeP 0) PatL.zero _ _ _ _ _ _ true _ _ hS.imm h162 (okPat6_s (by kernel_rfl)) RSl.nilR (okPat6_s (by kernel_rfl)) (by kernel_rfl))) ?_
  rintro _ w_41 ⟨rfl, hE⟩
  replace hS := hS.callE hE
  refine qq hS (g_and rfl rfl (fun _ => rfl)) ?_
  refine qq hS (g_assignv (v := .bool _) rfl) ?_
  refine ol_nil (thenN ?_)
  refine wpIn_ret ?_
  refine ret1 Try.results5 (rv_tmp (v := .bool _) rfl) ?_
  exact ⟨_, rfl, hS.nil⟩

end Go.Proofs.Ytaklmbhfmpdinaa

