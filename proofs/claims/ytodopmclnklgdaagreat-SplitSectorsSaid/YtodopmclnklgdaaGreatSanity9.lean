/- inlaylaw09.sanity: it is true. Conditions: none. -/
import Derived.Test.YtodopmclnklgdaaGreatKComp
namespace Go.Proofs.YtodopmclnklgdaaGreat
open Go Go.RowKit Go.Inl
set_option linter.unusedSimpArgs false
set_option linter.unusedVariables false
def okPat (p : PatL) : Bool := okM p.in_ && okM p.out && p.ops.all okOp && decide ((p.ops.length : Int) ≤ 1099511627776)
theorem okPat_s {p : PatL} (h : okPat p = true) : p.wf := by
  simp only [okPat, Bool.and_eq_true, decide_eq_true_eq] at h
  exact ⟨okM_s h.1.1.1, okM_s h.1.1.2, okOps h.1.2, h.2⟩
theorem compose_E (p q : PatL) (C : PatL × Int) (ad bd : Option Addr) (m cap mb capb : Nat) (w0 : World) (I0 : Imm) (hI : Sat I0 w0) (hops : ROps I0 (.slice ad m cap) p.ops) (hp : p.wf) (hoq : ROps I0 (.slice bd mb capb) q.ops) (hq : q.wf) (he : composeP p q = C) :
    Ctr Tryz.prog 58 [.agg #[.bool p.lifted, .int .i64 p.in_, .int .i64 p.out, .slice ad m cap], .agg #[.bool q.lifted, .int .i64 q.in_, .int .i64 q.out, .slice bd mb capb]] w0 (fun v w' => ∃ I' a m c, v = .tuple #[.agg #[.bool C.1.lifted, .int .i64 C.1.in_, .int .i64 C.1.out, .slice a m c], .int .i64 C.2] ∧ Ext w0 I0 w' I' ∧ ROps I' (.slice a m c) C.1.ops) := by
  subst he; exact compose_c p q ad bd m cap mb capb w0 I0 hI hops hp hoq hq
theorem all_E (ad : Option Addr) (m cap : Nat) (l : List PatL) (C : PatL × Int) (w0 : World) (I0 : Imm) (hI : Sat I0 w0) (hl : RPats I0 (.slice ad m cap) l) (hm : m = l.length) (hw : ∀ p ∈ l, p.wf) (hn : l.length ≤ 65536) (he : allP l = C) :
    Ctr Tryz.prog 22 [.slice ad m cap] w0 (fun v w' => ∃ I' a m c, v = .tuple #[.agg #[.bool C.1.lifted, .int .i64 C.1.in_, .int .i64 C.1.out, .slice a m c], .int .i64 C.2] ∧ Ext w0 I0 w' I' ∧ ROps I' (.slice a m c) C.1.ops) := by
  subst hm; subst he; exact all_c ad cap l w0 I0 hI hl hw hn
theorem through_E (ad bd : Option Addr) (m n cap capb : Nat) (la lb : List Sym) (T : List Sym × Int) (w0 : World) (I0 : Imm) (hI : Sat I0 w0) (ha : RSyms I0 (.slice ad m cap) la) (hm : m = la.length) (hb : RSyms I0 (.slice bd n capb) lb) (hnl : n = lb.length) (hwb : ∀ s ∈ lb, s.wf) (hn : lb.length ≤ 65536) (he : throughP la lb = T) :
    Ctr Tryz.prog 59 [.slice ad m cap, .slice bd n capb] w0 (fun v w' => ∃ I' a c, v = .tuple #[.slice a T.1.length c, .int .i64 T.2] ∧ Ext w0 I0 w' I' ∧ RSyms I' (.slice a T.1.length c) T.1) := by
  subst hm; subst hnl; exact through_e ad bd cap capb la lb T w0 I0 hI ha hb hwb hn he

set_option maxRecDepth 20000 in
set_option maxHeartbeats 4000000 in
theorem sanity9_c (w0 : World) (I0 : Imm) (hI : Sat I0 w0) :
    Ctr Tryz.prog 20 [] w0 (fun v w' => ∃ I', v = .bool true ∧ Ext w0 I0 w' I') := by
  refine fn (n := 134) Tryz.func20 rfl rfl rfl ?_
  have hS := St.start hI
  refine wpIn_seq ?_
  refine reg ?_
  refine qq hS (g_assignv (v := .bool _) rfl) ?_
  refine ol_nil (thenN ?_)
  refine wpIn_seq ?_
  refine reg ?_
  refine qq hS (g_buildv (pl := [(0, 1), (1, 1), (2, 1), (3, 1), (4, 1)]) (cs := [.int .i64 _, .int .i64 _, .int .i64 _, .int .u8 _, .slice _ _ _]) Tryz.zeroValue85 Tryz.underlying85 (fun w => by simp [Tryz.sizeOf25, Tryz.sizeOf3, Tryz.sizeOf5]) (mp (v := .int .i64 _) rfl (mp (v := .int .i64 _) rfl (mp (v := .int .i64 _) rfl mp0))) rfl) ?_
  refine qe (d_lit (vs := [.agg #[.int .i64 _, .int .i64 _, .int .i64 _, .int .u8 _, .slice _ _ _]]) (cs := [.int .i64 _, .int .i64 _, .int .i64 _, .int .u8 _, .slice _ _ _]) hS Tryz.underlying27 Tryz.sizeOf85 Tryz.zeroValue85 rfl rfl rfl rfl (fun v hv => by simp only [List.mem_cons, List.not_mem_nil, or_false] at hv; subst hv; rfl) rfl) ?_
  clear hS
  rintro _ w_1 ⟨b24, rfl, hS⟩
  have hF := hS.freeze1
  clear hS
  obtain ⟨I24, hS, hI24, hb24⟩ := hF
  have h24 : ROps _ (.slice (some ⟨b24, 0, none⟩) 1 1) [⟨1, 1, 2, 0, []⟩] := RSl.ofAt (css := [[.int .i64 1, .int .i64 1, .int .i64 2, .int .u8 0, .slice none 0 0]]) hb24 rfl (by simp) (All2.cons ⟨_, _, _, rfl, RFl.nil⟩ (All2.nil _)) rfl (by decide)
  refine qq hS (g_buildv (pl := [(0, 1), (1, 1), (2, 1), (3, 1)]) (cs := [.bool _, .int .i64 _, .int .i64 _, .slice _ _ _]) Tryz.zeroValue29 Tryz.underlying29 (fun w => by simp [Tryz.sizeOf27, Tryz.sizeOf3, Tryz.sizeOf4]) (mp (v := .int .i64 _) rfl (mp (v := .int .i64 _) rfl (mp rfl mp0))) rfl) ?_
  refine qe (d_alloc (cs := [.bool _, .int .i64 _, .int .i64 _, .slice _ _ _]) hS Tryz.zeroValue29 rfl) ?_
  clear hS
  rintro _ w_2 ⟨b1, rfl, hS⟩
  refine qe (d_store 0 hS Tryz.sizeOf29 rfl rfl rfl (vs := [.bool _, .int .i64 _, .int .i64 _, .slice _ _ _]) rfl rfl rfl (Nat.le_of_ble_eq_true rfl) (cs' := [_, _, _, _]) rfl) ?_
  clear hS
  rintro _ w_3 ⟨rfl, hS⟩
  refine ol_nil (thenN ?_)
  refine wpIn_seq ?_
  refine reg ?_
  refine qq hS (g_buildv (pl := [(0, 1), (1, 1), (2, 1), (3, 1), (4, 1)]) (cs := [.int .i64 _, .int .i64 _, .int .i64 _, .int .u8 _, .slice _ _ _]) Tryz.zeroValue85 Tryz.underlying85 (fun w => by simp [Tryz.sizeOf25, Tryz.sizeOf3, Tryz.sizeOf5]) (mp (v := .int .i64 _) rfl (mp (v := .int .i64 _) rfl (mp (v := .int .i64 _) rfl mp0))) rfl) ?_
  refine qq hS (g_buildv (pl := [(0, 1), (1, 1), (2, 1), (3, 1), (4, 1)]) (cs := [.int .i64 _, .int .i64 _, .int .i64 _, .int .u8 _, .slice _ _ _]) Tryz.zeroValue85 Tryz.underlying85 (fun w => by simp [Tryz.sizeOf25, Tryz.sizeOf3, Tryz.sizeOf5]) (mp (v := .int .i64 _) rfl (mp (v := .int .i64 _) rfl (mp (v := .int .u8 _) rfl mp0))) rfl) ?_
  refine qe (d_lit (vs := [.agg #[.int .i64 _, .int .i64 _, .int .i64 _, .int .u8 _, .slice _ _ _], .agg #[.int .i64 _, .int .i64 _, .int .i64 _, .int .u8 _, .slice _ _ _]]) (cs := [.int .i64 _, .int .i64 _, .int .i64 _, .int .u8 _, .slice _ _ _, .int .i64 _, .int .i64 _, .int .i64 _, .int .u8 _, .slice _ _ _]) hS Tryz.underlying27 Tryz.sizeOf85 Tryz.zeroValue85 rfl rfl rfl rfl (fun v hv => by simp only [List.mem_cons, List.not_mem_nil, or_false] at hv; rcases hv with rfl | rfl <;> rfl) rfl) ?_
  clear hS
  rintro _ w_4 ⟨b28, rfl, hS⟩
  have hF := hS.freeze1
  clear hS
  obtain ⟨I28, hS, hI28, hb28⟩ := hF
  replace h24 := h24.mono hI28
  have h28 : ROps _ (.slice (some ⟨b28, 0, none⟩) 2 2) [⟨1, 1, 1, 0, []⟩, ⟨3, 0, 1, 9, []⟩] := RSl.ofAt (css := [[.int .i64 1, .int .i64 1, .int .i64 1, .int .u8 0, .slice none 0 0], [.int .i64 3, .int .i64 0, .int .i64 1, .int .u8 9, .slice none 0 0]]) hb28 rfl (by simp) (All2.cons ⟨_, _, _, rfl, RFl.nil⟩ (All2.cons ⟨_, _, _, rfl, RFl.nil⟩ (All2.nil _))) rfl (by decide)
  refine qq hS (g_buildv (pl := [(0, 1), (1, 1), (2, 1), (3, 1)]) (cs := [.bool _, .int .i64 _, .int .i64 _, .slice _ _ _]) Tryz.zeroValue29 Tryz.underlying29 (fun w => by simp [Tryz.sizeOf27, Tryz.sizeOf3, Tryz.sizeOf4]) (mp (v := .int .i64 _) rfl (mp (v := .int .i64 _) rfl (mp rfl mp0))) rfl) ?_
  refine qe (d_alloc (cs := [.bool _, .int .i64 _, .int .i64 _, .slice _ _ _]) hS Tryz.zeroValue29 rfl) ?_
  clear hS
  rintro _ w_5 ⟨b2, rfl, hS⟩
  refine qe (d_store 0 hS Tryz.sizeOf29 rfl rfl rfl (vs := [.bool _, .int .i64 _, .int .i64 _, .slice _ _ _]) rfl rfl rfl (Nat.le_of_ble_eq_true rfl) (cs' := [_, _, _, _]) rfl) ?_
  clear hS
  rintro _ w_6 ⟨rfl, hS⟩
  refine ol_nil (thenN ?_)
  refine wpIn_seq ?_
  refine reg ?_
  refine qe (d_lit (vs := [.int .u8 _, .int .u8 _]) (cs := [.int .u8 _, .int .u8 _]) hS Tryz.underlying25 Tryz.sizeOf5 Tryz.zeroValue5 rfl rfl rfl rfl (fun v hv => by simp only [List.mem_cons, List.not_mem_nil, or_false] at hv; rcases hv with rfl | rfl <;> rfl) rfl) ?_
  clear hS
  rintro _ w_7 ⟨b30, rfl, hS⟩
  have hF := hS.freeze1
  clear hS
  obtain ⟨I30, hS, hI30, hb30⟩ := hF
  replace h24 := h24.mono hI30
  replace h28 := h28.mono hI30
  have h30 := RFl.ofAt byteC_len ([1, 2] : List Int) hb30 rfl (by decide)
  refine qq hS (g_buildv (pl := [(0, 1), (1, 1), (2, 1), (3, 1), (4, 1)]) (cs := [.int .i64 _, .int .i64 _, .int .i64 _, .int .u8 _, .slice _ _ _]) Tryz.zeroValue85 Tryz.underlying85 (fun w => by simp [Tryz.sizeOf25, Tryz.sizeOf3, Tryz.sizeOf5]) (mp (v := .int .i64 _) rfl (mp (v := .int .i64 _) rfl (mp rfl mp0))) rfl) ?_
  refine qe (d_lit (vs := [.agg #[.int .i64 _, .int .i64 _, .int .i64 _, .int .u8 _, .slice _ _ _]]) (cs := [.int .i64 _, .int .i64 _, .int .i64 _, .int .u8 _, .slice _ _ _]) hS Tryz.underlying27 Tryz.sizeOf85 Tryz.zeroValue85 rfl rfl rfl rfl (fun v hv => by simp only [List.mem_cons, List.not_mem_nil, or_false] at hv; subst hv; rfl) rfl) ?_
  clear hS
  rintro _ w_8 ⟨b32, rfl, hS⟩
  have hF := hS.freeze1
  clear hS
  obtain ⟨I32, hS, hI32, hb32⟩ := hF
  replace h24 := h24.mono hI32
  replace h28 := h28.mono hI32
  replace h30 := h30.mono hI32
  have h32 : ROps _ (.slice (some ⟨b32, 0, none⟩) 1 1) [⟨2, 0, 2, 0, [1, 2]⟩] := RSl.ofAt (css := [[.int .i64 2, .int .i64 0, .int .i64 2, .int .u8 0, .slice (some ⟨b30, 0, none⟩) 2 2]]) hb32 rfl (by simp) (All2.cons ⟨_, _, _, rfl, h30⟩ (All2.nil _)) rfl (by decide)
  refine qq hS (g_buildv (pl := [(0, 1), (1, 1), (2, 1), (3, 1)]) (cs := [.bool _, .int .i64 _, .int .i64 _, .slice _ _ _]) Tryz.zeroValue29 Tryz.underlying29 (fun w => by simp [Tryz.sizeOf27, Tryz.sizeOf3, Tryz.sizeOf4]) (mp (v := .int .i64 _) rfl (mp (v := .int .i64 _) rfl (mp rfl mp0))) rfl) ?_
  refine qe (d_alloc (cs := [.bool _, .int .i64 _, .int .i64 _, .slice _ _ _]) hS Tryz.zeroValue29 rfl) ?_
  clear hS
  rintro _ w_9 ⟨b3, rfl, hS⟩
  refine qe (d_store 0 hS Tryz.sizeOf29 rfl rfl rfl (vs := [.bool _, .int .i64 _, .int .i64 _, .slice _ _ _]) rfl rfl rfl (Nat.le_of_ble_eq_true rfl) (cs' := [_, _, _, _]) rfl) ?_
  clear hS
  rintro _ w_10 ⟨rfl, hS⟩
  refine ol_nil (thenN ?_)
  refine wpIn_seq ?_
  refine reg ?_
  refine qe (d_lit (vs := [.int .u8 _, .int .u8 _]) (cs := [.int .u8 _, .int .u8 _]) hS Tryz.underlying25 Tryz.sizeOf5 Tryz.zeroValue5 rfl rfl rfl rfl (fun v hv => by simp only [List.mem_cons, List.not_mem_nil, or_false] at hv; rcases hv with rfl | rfl <;> rfl) rfl) ?_
  clear hS
  rintro _ w_11 ⟨b34, rfl, hS⟩
  have hF := hS.freeze1
  clear hS
  obtain ⟨I34, hS, hI34, hb34⟩ := hF
  replace h24 := h24.mono hI34
  replace h28 := h28.mono hI34
  replace h30 := h30.mono hI34
  replace h32 := h32.mono hI34
  have h34 := RFl.ofAt byteC_len ([255, 254] : List Int) hb34 rfl (by decide)
  refine qq hS (g_buildv (pl := [(0, 1), (1, 1), (2, 1), (3, 1), (4, 1)]) (cs := [.int .i64 _, .int .i64 _, .int .i64 _, .int .u8 _, .slice _ _ _]) Tryz.zeroValue85 Tryz.underlying85 (fun w => by simp [Tryz.sizeOf25, Tryz.sizeOf3, Tryz.sizeOf5]) (mp (v := .int .i64 _) rfl (mp (v := .int .i64 _) rfl (mp rfl mp0))) rfl) ?_
  refine qe (d_lit (vs := [.agg #[.int .i64 _, .int .i64 _, .int .i64 _, .int .u8 _, .slice _ _ _]]) (cs := [.int .i64 _, .int .i64 _, .int .i64 _, .int .u8 _, .slice _ _ _]) hS Tryz.underlying27 Tryz.sizeOf85 Tryz.zeroValue85 rfl rfl rfl rfl (fun v hv => by simp only [List.mem_cons, List.not_mem_nil, or_false] at hv; subst hv; rfl) rfl) ?_
  clear hS
  rintro _ w_12 ⟨b36, rfl, hS⟩
  have hF := hS.freeze1
  clear hS
  obtain ⟨I36, hS, hI36, hb36⟩ := hF
  replace h24 := h24.mono hI36
  replace h28 := h28.mono hI36
  replace h30 := h30.mono hI36
  replace h32 := h32.mono hI36
  replace h34 := h34.mono hI36
  have h36 : ROps _ (.slice (some ⟨b36, 0, none⟩) 1 1) [⟨2, 0, 2, 0, [255, 254]⟩] := RSl.ofAt (css := [[.int .i64 2, .int .i64 0, .int .i64 2, .int .u8 0, .slice (some ⟨b34, 0, none⟩) 2 2]]) hb36 rfl (by simp) (All2.cons ⟨_, _, _, rfl, h34⟩ (All2.nil _)) rfl (by decide)
  refine qq hS (g_buildv (pl := [(0, 1), (1, 1), (2, 1), (3, 1)]) (cs := [.bool _, .int .i64 _, .int .i64 _, .slice _ _ _]) Tryz.zeroValue29 Tryz.underlying29 (fun w => by simp [Tryz.sizeOf27, Tryz.sizeOf3, Tryz.sizeOf4]) (mp (v := .int .i64 _) rfl (mp (v := .int .i64 _) rfl (mp rfl mp0))) rfl) ?_
  refine qe (d_alloc (cs := [.bool _, .int .i64 _, .int .i64 _, .slice _ _ _]) hS Tryz.zeroValue29 rfl) ?_
  clear hS
  rintro _ w_13 ⟨b4, rfl, hS⟩
  refine qe (d_store 0 hS Tryz.sizeOf29 rfl rfl rfl (vs := [.bool _, .int .i64 _, .int .i64 _, .slice _ _ _]) rfl rfl rfl (Nat.le_of_ble_eq_true rfl) (cs' := [_, _, _, _]) rfl) ?_
  clear hS
  rintro _ w_14 ⟨rfl, hS⟩
  refine ol_nil (thenN ?_)
  refine wpIn_seq ?_
  refine reg ?_
  refine qq hS (g_buildv (pl := [(0, 1), (1, 1), (2, 1), (3, 1), (4, 1)]) (cs := [.int .i64 _, .int .i64 _, .int .i64 _, .int .u8 _, .slice _ _ _]) Tryz.zeroValue85 Tryz.underlying85 (fun w => by simp [Tryz.sizeOf25, Tryz.sizeOf3, Tryz.sizeOf5]) (mp (v := .int .i64 _) rfl (mp (v := .int .i64 _) rfl (mp (v := .int .u8 _) rfl mp0))) rfl) ?_
  refine qe (d_lit (vs := [.agg #[.int .i64 _, .int .i64 _, .int .i64 _, .int .u8 _, .slice _ _ _]]) (cs := [.int .i64 _, .int .i64 _, .int .i64 _, .int .u8 _, .slice _ _ _]) hS Tryz.underlying27 Tryz.sizeOf85 Tryz.zeroValue85 rfl rfl rfl rfl (fun v hv => by simp only [List.mem_cons, List.not_mem_nil, or_false] at hv; subst hv; rfl) rfl) ?_
  clear hS
  rintro _ w_15 ⟨b39, rfl, hS⟩
  have hF := hS.freeze1
  clear hS
  obtain ⟨I39, hS, hI39, hb39⟩ := hF
  replace h24 := h24.mono hI39
  replace h28 := h28.mono hI39
  replace h30 := h30.mono hI39
  replace h32 := h32.mono hI39
  replace h34 := h34.mono hI39
  replace h36 := h36.mono hI39
  have h39 : ROps _ (.slice (some ⟨b39, 0, none⟩) 1 1) [⟨3, 0, 4, 5, []⟩] := RSl.ofAt (css := [[.int .i64 3, .int .i64 0, .int .i64 4, .int .u8 5, .slice none 0 0]]) hb39 rfl (by simp) (All2.cons ⟨_, _, _, rfl, RFl.nil⟩ (All2.nil _)) rfl (by decide)
  refine qq hS (g_buildv (pl := [(0, 1), (1, 1), (2, 1), (3, 1)]) (cs := [.bool _, .int .i64 _, .int .i64 _, .slice _ _ _]) Tryz.zeroValue29 Tryz.underlying29 (fun w => by simp [Tryz.sizeOf27, Tryz.sizeOf3, Tryz.sizeOf4]) (mp (v := .int .i64 _) rfl (mp rfl mp0)) rfl) ?_
  refine qe (d_alloc (cs := [.bool _, .int .i64 _, .int .i64 _, .slice _ _ _]) hS Tryz.zeroValue29 rfl) ?_
  clear hS
  rintro _ w_16 ⟨b5, rfl, hS⟩
  refine qe (d_store 0 hS Tryz.sizeOf29 rfl rfl rfl (vs := [.bool _, .int .i64 _, .int .i64 _, .slice _ _ _]) rfl rfl rfl (Nat.le_of_ble_eq_true rfl) (cs' := [_, _, _, _]) rfl) ?_
  clear hS
  rintro _ w_17 ⟨rfl, hS⟩
  refine ol_nil (thenN ?_)
  refine wpIn_seq ?_
  refine reg ?_
  refine qq hS (g_buildv (pl := [(0, 1), (1, 1), (2, 1), (3, 1), (4, 1)]) (cs := [.int .i64 _, .int .i64 _, .int .i64 _, .int .u8 _, .slice _ _ _]) Tryz.zeroValue85 Tryz.underlying85 (fun w => by simp [Tryz.sizeOf25, Tryz.sizeOf3, Tryz.sizeOf5]) (mp (v := .int .i64 _) rfl (mp (v := .int .i64 _) rfl mp0)) rfl) ?_
  refine qe (d_lit (vs := [.agg #[.int .i64 _, .int .i64 _, .int .i64 _, .int .u8 _, .slice _ _ _]]) (cs := [.int .i64 _, .int .i64 _, .int .i64 _, .int .u8 _, .slice _ _ _]) hS Tryz.underlying27 Tryz.sizeOf85 Tryz.zeroValue85 rfl rfl rfl rfl (fun v hv => by simp only [List.mem_cons, List.not_mem_nil, or_false] at hv; subst hv; rfl) rfl) ?_
  clear hS
  rintro _ w_18 ⟨b42, rfl, hS⟩
  have hF := hS.freeze1
  clear hS
  obtain ⟨I42, hS, hI42, hb42⟩ := hF
  replace h24 := h24.mono hI42
  replace h28 := h28.mono hI42
  replace h30 := h30.mono hI42
  replace h32 := h32.mono hI42
  replace h34 := h34.mono hI42
  replace h36 := h36.mono hI42
  replace h39 := h39.mono hI42
  have h42 : ROps _ (.slice (some ⟨b42, 0, none⟩) 1 1) [⟨1, 0, 2, 0, []⟩] := RSl.ofAt (css := [[.int .i64 1, .int .i64 0, .int .i64 2, .int .u8 0, .slice none 0 0]]) hb42 rfl (by simp) (All2.cons ⟨_, _, _, rfl, RFl.nil⟩ (All2.nil _)) rfl (by decide)
  refine qq hS (g_buildv (pl := [(0, 1), (1, 1), (2, 1), (3, 1)]) (cs := [.bool _, .int .i64 _, .int .i64 _, .slice _ _ _]) Tryz.zeroValue29 Tryz.underlying29 (fun w => by simp [Tryz.sizeOf27, Tryz.sizeOf3, Tryz.sizeOf4]) (mp (v := .int .i64 _) rfl (mp (v := .int .i64 _) rfl (mp rfl mp0))) rfl) ?_
  refine qe (d_alloc (cs := [.bool _, .int .i64 _, .int .i64 _, .slice _ _ _]) hS Tryz.zeroValue29 rfl) ?_
  clear hS
  rintro _ w_19 ⟨b6, rfl, hS⟩
  refine qe (d_store 0 hS Tryz.sizeOf29 rfl rfl rfl (vs := [.bool _, .int .i64 _, .int .i64 _, .slice _ _ _]) rfl rfl rfl (Nat.le_of_ble_eq_true rfl) (cs' := [_, _, _, _]) rfl) ?_
  clear hS
  rintro _ w_20 ⟨rfl, hS⟩
  refine ol_nil (thenN ?_)
  refine wpIn_seq ?_
  refine reg ?_
  refine qq hS (g_ldO 5 (vs := [.bool _, .int .i64 _, .int .i64 _, .slice _ _ _]) Tryz.sizeOf29 Tryz.isAgg29 rfl rfl rfl rfl) ?_
  refine qq hS (g_ldO 4 (vs := [.bool _, .int .i64 _, .int .i64 _, .slice _ _ _]) Tryz.sizeOf29 Tryz.isAgg29 rfl rfl rfl rfl) ?_
  refine qe (d_call Tryz.call58 rfl (compose_E (⟨false, 3, 2, [⟨1, 1, 2, 0, []⟩]⟩ : PatL) (⟨false, 2, 2, [⟨1, 1, 1, 0, []⟩, ⟨3, 0, 1, 9, []⟩]⟩ : PatL) ((⟨false, 3, 2, [⟨1, 2, 1, 0, []⟩, ⟨4, 0, 1, 0, [9]⟩]⟩ : PatL), 0) _ _ _ _ _ _ _ _ hS.imm h24 (okPat_s (by kernel_rfl)) h28 (okPat_s (by kernel_rfl)) (by kernel_rfl))) ?_
  rintro _ w_21 ⟨I_f, a47, m47, c47, rfl, hE, h47⟩
  replace hS := hS.callE hE
  replace h24 := h24.mono hE.ext
  replace h28 := h28.mono hE.ext
  replace h30 := h30.mono hE.ext
  replace h32 := h32.mono hE.ext
  replace h34 := h34.mono hE.ext
  replace h36 := h36.mono hE.ext
  replace h39 := h39.mono hE.ext
  replace h42 := h42.mono hE.ext
  refine qq hS (g_move _) ?_
  refine qq hS (g_extract rfl rfl) ?_
  refine qq hS (g_extract (v := .int .i64 _) rfl rfl) ?_
  refine qe (d_alloc (cs := [.bool _, .int .i64 _, .int .i64 _, .slice _ _ _]) hS Tryz.zeroValue29 rfl) ?_
  clear hS
  rintro _ w_22 ⟨b7, rfl, hS⟩
  refine qe (d_store 0 hS Tryz.sizeOf29 rfl rfl rfl (vs := [.bool _, .int .i64 _, .int .i64 _, .slice _ _ _]) rfl rfl rfl (Nat.le_of_ble_eq_true rfl) (cs' := [_, _, _, _]) rfl) ?_
  clear hS
  rintro _ w_23 ⟨rfl, hS⟩
  refine qq hS (g_assignv (v := .int .i64 _) rfl) ?_
  refine ol_nil (thenN ?_)
  refine wpIn_seq ?_
  refine reg ?_
  refine qq hS (g_ldO 4 (vs := [.bool _, .int .i64 _, .int .i64 _, .slice _ _ _]) Tryz.sizeOf29 Tryz.isAgg29 rfl rfl rfl rfl) ?_
  refine qq hS (g_ldO 3 (vs := [.bool _, .int .i64 _, .int .i64 _, .slice _ _ _]) Tryz.sizeOf29 Tryz.isAgg29 rfl rfl rfl rfl) ?_
  refine qe (d_call Tryz.call58 rfl (compose_E (⟨false, 2, 2, [⟨2, 0, 2, 0, [1, 2]⟩]⟩ : PatL) (⟨false, 2, 2, [⟨2, 0, 2, 0, [255, 254]⟩]⟩ : PatL) ((⟨false, 2, 2, [⟨1, 0, 2, 0, []⟩]⟩ : PatL), 0) _ _ _ _ _ _ _ _ hS.imm h32 (okPat_s (by kernel_rfl)) h36 (okPat_s (by kernel_rfl)) (by kernel_rfl))) ?_
  rintro _ w_24 ⟨I_f, a53, m53, c53, rfl, hE, h53⟩
  replace hS := hS.callE hE
  replace h24 := h24.mono hE.ext
  replace h28 := h28.mono hE.ext
  replace h30 := h30.mono hE.ext
  replace h32 := h32.mono hE.ext
  replace h34 := h34.mono hE.ext
  replace h36 := h36.mono hE.ext
  replace h39 := h39.mono hE.ext
  replace h42 := h42.mono hE.ext
  replace h47 := h47.mono hE.ext
  refine qq hS (g_move _) ?_
  refine qq hS (g_extract rfl rfl) ?_
  refine qq hS (g_extract (v := .int .i64 _) rfl rfl) ?_
  refine qe (d_alloc (cs := [.bool _, .int .i64 _, .int .i64 _, .slice _ _ _]) hS Tryz.zeroValue29 rfl) ?_
  clear hS
  rintro _ w_25 ⟨b9, rfl, hS⟩
  refine qe (d_store 0 hS Tryz.sizeOf29 rfl rfl rfl (vs := [.bool _, .int .i64 _, .int .i64 _, .slice _ _ _]) rfl rfl rfl (Nat.le_of_ble_eq_true rfl) (cs' := [_, _, _, _]) rfl) ?_
  clear hS
  rintro _ w_26 ⟨rfl, hS⟩
  refine qq hS (g_assignv (v := .int .i64 _) rfl) ?_
  refine ol_nil (thenN ?_)
  refine wpIn_seq ?_
  refine reg ?_
  refine qq hS (g_ldO 3 (vs := [.bool _, .int .i64 _, .int .i64 _, .slice _ _ _]) Tryz.sizeOf29 Tryz.isAgg29 rfl rfl rfl rfl) ?_
  refine qq hS (g_ldO 2 (vs := [.bool _, .int .i64 _, .int .i64 _, .slice _ _ _]) Tryz.sizeOf29 Tryz.isAgg29 rfl rfl rfl rfl) ?_
  refine qe (d_call Tryz.call58 rfl (compose_E (⟨false, 0, 4, [⟨3, 0, 4, 5, []⟩]⟩ : PatL) (⟨false, 4, 2, [⟨1, 0, 2, 0, []⟩]⟩ : PatL) ((⟨false, 0, 2, [⟨3, 0, 2, 5, []⟩]⟩ : PatL), 0) _ _ _ _ _ _ _ _ hS.imm h39 (okPat_s (by kernel_rfl)) h42 (okPat_s (by kernel_rfl)) (by kernel_rfl))) ?_
  rintro _ w_27 ⟨I_f, a59, m59, c59, rfl, hE, h59⟩
  replace hS := hS.callE hE
  replace h24 := h24.mono hE.ext
  replace h28 := h28.mono hE.ext
  replace h30 := h30.mono hE.ext
  replace h32 := h32.mono hE.ext
  replace h34 := h34.mono hE.ext
  replace h36 := h36.mono hE.ext
  replace h39 := h39.mono hE.ext
  replace h42 := h42.mono hE.ext
  replace h47 := h47.mono hE.ext
  replace h53 := h53.mono hE.ext
  refine qq hS (g_move _) ?_
  refine qq hS (g_extract rfl rfl) ?_
  refine qq hS (g_extract (v := .int .i64 _) rfl rfl) ?_
  refine qe (d_alloc (cs := [.bool _, .int .i64 _, .int .i64 _, .slice _ _ _]) hS Tryz.zeroValue29 rfl) ?_
  clear hS
  rintro _ w_28 ⟨b11, rfl, hS⟩
  refine qe (d_store 0 hS Tryz.sizeOf29 rfl rfl rfl (vs := [.bool _, .int .i64 _, .int .i64 _, .slice _ _ _]) rfl rfl rfl (Nat.le_of_ble_eq_true rfl) (cs' := [_, _, _, _]) rfl) ?_
  clear hS
  rintro _ w_29 ⟨rfl, hS⟩
  refine qq hS (g_assignv (v := .int .i64 _) rfl) ?_
  refine ol_nil (thenN ?_)
  refine wpIn_seq ?_
  refine reg ?_
  refine qq hS (g_ldO 8 (vs := [.bool _, .int .i64 _, .int .i64 _, .slice _ _ _]) Tryz.sizeOf29 Tryz.isAgg29 rfl rfl rfl rfl) ?_
  refine qq hS (g_ldO 3 (vs := [.bool _, .int .i64 _, .int .i64 _, .slice _ _ _]) Tryz.sizeOf29 Tryz.isAgg29 rfl rfl rfl rfl) ?_
  refine qe (d_call Tryz.call58 rfl (compose_E (⟨false, 3, 2, [⟨1, 1, 2, 0, []⟩]⟩ : PatL) (⟨false, 4, 2, [⟨1, 0, 2, 0, []⟩]⟩ : PatL) (PatL.zero, 61) _ _ _ _ _ _ _ _ hS.imm h24 (okPat_s (by kernel_rfl)) h42 (okPat_s (by kernel_rfl)) (by kernel_rfl))) ?_
  rintro _ w_30 ⟨I_f, a65, m65, c65, rfl, hE, h65⟩
  replace hS := hS.callE hE
  replace h24 := h24.mono hE.ext
  replace h28 := h28.mono hE.ext
  replace h30 := h30.mono hE.ext
  replace h32 := h32.mono hE.ext
  replace h34 := h34.mono hE.ext
  replace h36 := h36.mono hE.ext
  replace h39 := h39.mono hE.ext
  replace h42 := h42.mono hE.ext
  replace h47 := h47.mono hE.ext
  replace h53 := h53.mono hE.ext
  replace h59 := h59.mono hE.ext
  refine qq hS (g_move _) ?_
  refine qq hS (g_extract rfl rfl) ?_
  refine qq hS (g_extract (v := .int .i64 _) rfl rfl) ?_
  refine qe (d_alloc (cs := [.bool _, .int .i64 _, .int .i64 _, .slice _ _ _]) hS Tryz.zeroValue29 rfl) ?_
  clear hS
  rintro _ w_31 ⟨b13, rfl, hS⟩
  refine qe (d_store 0 hS Tryz.sizeOf29 rfl rfl rfl (vs := [.bool _, .int .i64 _, .int .i64 _, .slice _ _ _]) rfl rfl rfl (Nat.le_of_ble_eq_true rfl) (cs' := [_, _, _, _]) rfl) ?_
  clear hS
  rintro _ w_32 ⟨rfl, hS⟩
  refine qq hS (g_assignv (v := .int .i64 _) rfl) ?_
  refine ol_nil (thenN ?_)
  refine wpIn_seq ?_
  refine reg ?_
  refine qe (d_call Tryz.call22 rfl (all_E none 0 0 [] (PatL.zero, 1) _ _ hS.imm RSl.nilR rfl (by simp) (by decide) (by kernel_rfl))) ?_
  rintro _ w_33 ⟨I_f, a69, m69, c69, rfl, hE, h69⟩
  replace hS := hS.callE hE
  replace h24 := h24.mono hE.ext
  replace h28 := h28.mono hE.ext
  replace h30 := h30.mono hE.ext
  replace h32 := h32.mono hE.ext
  replace h34 := h34.mono hE.ext
  replace h36 := h36.mono hE.ext
  replace h39 := h39.mono hE.ext
  replace h42 := h42.mono hE.ext
  replace h47 := h47.mono hE.ext
  replace h53 := h53.mono hE.ext
  replace h59 := h59.mono hE.ext
  replace h65 := h65.mono hE.ext
  refine qq hS (g_move _) ?_
  refine qq hS (g_extract rfl rfl) ?_
  refine qq hS (g_extract (v := .int .i64 _) rfl rfl) ?_
  refine qe (d_alloc (cs := [.bool _, .int .i64 _, .int .i64 _, .slice _ _ _]) hS Tryz.zeroValue29 rfl) ?_
  clear hS
  rintro _ w_34 ⟨b15, rfl, hS⟩
  refine qe (d_store 0 hS Tryz.sizeOf29 rfl rfl rfl (vs := [.bool _, .int .i64 _, .int .i64 _, .slice _ _ _]) rfl rfl rfl (Nat.le_of_ble_eq_true rfl) (cs' := [_, _, _, _]) rfl) ?_
  clear hS
  rintro _ w_35 ⟨rfl, hS⟩
  refine qq hS (g_assignv (v := .int .i64 _) rfl) ?_
  refine ol_nil (thenN ?_)
  refine wpIn_seq ?_
  refine reg ?_
  refine qq hS (g_ldO 9 (vs := [.bool _, .int .i64 _, .int .i64 _, .slice _ _ _]) Tryz.sizeOf29 Tryz.isAgg29 rfl rfl rfl rfl) ?_
  refine qe (d_alloc (cs := [.bool _, .int .i64 _, .int .i64 _, .slice _ _ _]) hS Tryz.zeroValue29 rfl) ?_
  clear hS
  rintro _ w_36 ⟨b17, rfl, hS⟩
  refine qe (d_store 0 hS Tryz.sizeOf29 rfl rfl rfl (vs := [.bool _, .int .i64 _, .int .i64 _, .slice _ _ _]) rfl rfl rfl (Nat.le_of_ble_eq_true rfl) (cs' := [_, _, _, _]) rfl) ?_
  clear hS
  rintro _ w_37 ⟨rfl, hS⟩
  refine ol_nil (thenN ?_)
  refine wpIn_seq ?_
  refine reg ?_
  refine qq hS (g_fieldAddr (o' := 0) Tryz.underlying29 rfl Tryz.sizeOf4 rfl rfl rfl) ?_
  refine qe (d_store 0 hS Tryz.sizeOf4 rfl rfl rfl (vs := [.bool _]) rfl rfl rfl (Nat.le_of_ble_eq_true rfl) (cs' := [_, _, _, _]) rfl) ?_
  clear hS
  rintro _ w_38 ⟨rfl, hS⟩
  refine ol_nil (thenN ?_)
  refine wpIn_seq ?_
  refine reg ?_
  refine qq hS (g_ldO 11 (vs := [.bool _, .int .i64 _, .int .i64 _, .slice _ _ _]) Tryz.sizeOf29 Tryz.isAgg29 rfl rfl rfl rfl) ?_
  refine qq hS (g_ldO 0 (vs := [.bool _, .int .i64 _, .int .i64 _, .slice _ _ _]) Tryz.sizeOf29 Tryz.isAgg29 rfl rfl rfl rfl) ?_
  refine qe (d_call Tryz.call58 rfl (compose_E (⟨false, 3, 2, [⟨1, 1, 2, 0, []⟩]⟩ : PatL) (⟨true, 2, 2, [⟨1, 1, 1, 0, []⟩, ⟨3, 0, 1, 9, []⟩]⟩ : PatL) (PatL.zero, 62) _ _ _ _ _ _ _ _ hS.imm h24 (okPat_s (by kernel_rfl)) h28 (okPat_s (by kernel_rfl)) (by kernel_rfl))) ?_
  rintro _ w_39 ⟨I_f, a77, m77, c77, rfl, hE, h77⟩
  replace hS := hS.callE hE
  replace h24 := h24.mono hE.ext
  replace h28 := h28.mono hE.ext
  replace h30 := h30.mono hE.ext
  replace h32 := h32.mono hE.ext
  replace h34 := h34.mono hE.ext
  replace h36 := h36.mono hE.ext
  replace h39 := h39.mono hE.ext
  replace h42 := h42.mono hE.ext
  replace h47 := h47.mono hE.ext
  replace h53 := h53.mono hE.ext
  replace h59 := h59.mono hE.ext
  replace h65 := h65.mono hE.ext
  replace h69 := h69.mono hE.ext
  refine qq hS (g_move _) ?_
  refine qq hS (g_extract rfl rfl) ?_
  refine qq hS (g_extract (v := .int .i64 _) rfl rfl) ?_
  refine qe (d_alloc (cs := [.bool _, .int .i64 _, .int .i64 _, .slice _ _ _]) hS Tryz.zeroValue29 rfl) ?_
  clear hS
  rintro _ w_40 ⟨b18, rfl, hS⟩
  refine qe (d_store 0 hS Tryz.sizeOf29 rfl rfl rfl (vs := [.bool _, .int .i64 _, .int .i64 _, .slice _ _ _]) rfl rfl rfl (Nat.le_of_ble_eq_true rfl) (cs' := [_, _, _, _]) rfl) ?_
  clear hS
  rintro _ w_41 ⟨rfl, hS⟩
  refine qq hS (g_assignv (v := .int .i64 _) rfl) ?_
  refine ol_nil (thenN ?_)
  refine wpIn_seq ?_
  refine reg ?_
  refine qq hS (g_buildv (pl := [(0, 1), (1, 1), (2, 1)]) (cs := [.bool _, .int .i64 _, .int .u8 _]) Tryz.zeroValue81 Tryz.underlying81 (fun w => by simp [Tryz.sizeOf3, Tryz.sizeOf4, Tryz.sizeOf5]) (mp (v := .bool _) rfl mp0) rfl) ?_
  refine qe (d_lit (vs := [.agg #[.bool _, .int .i64 _, .int .u8 _]]) (cs := [.bool _, .int .i64 _, .int .u8 _]) hS Tryz.underlying83 Tryz.sizeOf81 Tryz.zeroValue81 rfl rfl rfl rfl (fun v hv => by simp only [List.mem_cons, List.not_mem_nil, or_false] at hv; subst hv; rfl) rfl) ?_
  clear hS
  rintro _ w_42 ⟨b82, rfl, hS⟩
  have hF := hS.freeze1
  clear hS
  obtain ⟨I82, hS, hI82, hb82⟩ := hF
  replace h24 := h24.mono hI82
  replace h28 := h28.mono hI82
  replace h30 := h30.mono hI82
  replace h32 := h32.mono hI82
  replace h34 := h34.mono hI82
  replace h36 := h36.mono hI82
  replace h39 := h39.mono hI82
  replace h42 := h42.mono hI82
  replace h47 := h47.mono hI82
  replace h53 := h53.mono hI82
  replace h59 := h59.mono hI82
  replace h65 := h65.mono hI82
  replace h69 := h69.mono hI82
  replace h77 := h77.mono hI82
  have h82 := RFl.ofAt symC_len ([⟨true, 0, 0⟩] : List Sym) hb82 rfl (by decide)
  refine qe (d_call Tryz.call59 rfl (through_E none _ 0 1 0 _ [] ([⟨true, 0, 0⟩] : List Sym) ([], 61) _ _ hS.imm RFl.nil rfl h82 rfl (okSyms (by kernel_rfl)) (by decide) (by kernel_rfl))) ?_
  rintro _ w_43 ⟨I_f, a83, c83, rfl, hE, h83⟩
  replace hS := hS.callE hE
  replace h24 := h24.mono hE.ext
  replace h28 := h28.mono hE.ext
  replace h30 := h30.mono hE.ext
  replace h32 := h32.mono hE.ext
  replace h34 := h34.mono hE.ext
  replace h36 := h36.mono hE.ext
  replace h39 := h39.mono hE.ext
  replace h42 := h42.mono hE.ext
  replace h47 := h47.mono hE.ext
  replace h53 := h53.mono hE.ext
  replace h59 := h59.mono hE.ext
  replace h65 := h65.mono hE.ext
  replace h69 := h69.mono hE.ext
  replace h77 := h77.mono hE.ext
  replace h82 := h82.mono hE.ext
  refine qq hS (g_move _) ?_
  refine qq hS (g_extract rfl rfl) ?_
  refine qq hS (g_extract (v := .int .i64 _) rfl rfl) ?_
  refine qq hS (g_assign _) ?_
  refine qq hS (g_assignv (v := .int .i64 _) rfl) ?_
  refine ol_nil (thenN ?_)
  refine wpIn_seq ?_
  refine draw (.cons 0 .pure (.cons 1 .pure (.cons 2 .pure (.cons 3 .held (.cons 4 .pure (.cons 5 .eff (.cons 6 .pure (.cons 7 .eff (.cons 8 .pure (.cons 9 .eff (.cons 10 .pure (.cons 11 .pure (.cons 12 .pure (.cons 13 .pure (.cons 14 .pure (.cons 15 .pure (.cons 16 .held (.cons 17 .eff (.cons 18 .eff (.cons 19 .pure (.cons 20 .pure .nil))))))))))))))))))))) mixed (by kernel_rfl) hS ?_
  intro w_44 hS
  refine sp rfl (g_movev (v := .int .i64 _) rfl) ?_
  refine sp rfl (g_eql rfl rfl) ?_
  refine sp rfl (g_movev (v := .bool _) rfl) ?_
  refine sht rfl rfl rfl (g_ldO 6 (vs := [.bool _, .int .i64 _, .int .i64 _, .slice _ _ _]) Tryz.sizeOf29 Tryz.isAgg29 rfl rfl rfl rfl) ?_
  refine spt rfl rfl rfl (g_buildv (pl := [(0, 1), (1, 1), (2, 1), (3, 1), (4, 1)]) (cs := [.int .i64 _, .int .i64 _, .int .i64 _, .int .u8 _, .slice _ _ _]) Tryz.zeroValue85 Tryz.underlying85 (fun w => by simp [Tryz.sizeOf25, Tryz.sizeOf3, Tryz.sizeOf5]) (mp (v := .int .i64 _) rfl (mp (v := .int .i64 _) rfl (mp (v := .int .i64 _) rfl mp0))) rfl) ?_
  have hS0 := hS
  refine Inl.set rfl rfl rfl (d_lit (vs := [.int .u8 _]) (cs := [.int .u8 _]) hS Tryz.underlying25 Tryz.sizeOf5 Tryz.zeroValue5 rfl rfl rfl rfl (fun v hv => by simp only [List.mem_cons, List.not_mem_nil, or_false] at hv; subst hv; rfl) rfl) ?_
  rintro _ w_45 ⟨b91, rfl, hS⟩
  have hF := hS.freeze1
  clear hS
  obtain ⟨I91, hS, hI91, hb91⟩ := hF
  replace h24 := h24.mono hI91
  replace h28 := h28.mono hI91
  replace h30 := h30.mono hI91
  replace h32 := h32.mono hI91
  replace h34 := h34.mono hI91
  replace h36 := h36.mono hI91
  replace h39 := h39.mono hI91
  replace h42 := h42.mono hI91
  replace h47 := h47.mono hI91
  replace h53 := h53.mono hI91
  replace h59 := h59.mono hI91
  replace h65 := h65.mono hI91
  replace h69 := h69.mono hI91
  replace h77 := h77.mono hI91
  replace h82 := h82.mono hI91
  replace h83 := h83.mono hI91
  have h91 := RFl.ofAt byteC_len ([9] : List Int) hb91 rfl (by decide)
  refine ⟨_, _, hS0.le hI91 (List.Sublist.refl _), hS, ?_⟩
  refine spt rfl rfl rfl (g_buildv (pl := [(0, 1), (1, 1), (2, 1), (3, 1), (4, 1)]) (cs := [.int .i64 _, .int .i64 _, .int .i64 _, .int .u8 _, .slice _ _ _]) Tryz.zeroValue85 Tryz.underlying85 (fun w => by simp [Tryz.sizeOf25, Tryz.sizeOf3, Tryz.sizeOf5]) (mp (v := .int .i64 _) rfl (mp (v := .int .i64 _) rfl (mp rfl mp0))) rfl) ?_
  have hS0 := hS
  refine Inl.set rfl rfl rfl (d_lit (vs := [.agg #[.int .i64 _, .int .i64 _, .int .i64 _, .int .u8 _, .slice _ _ _], .agg #[.int .i64 _, .int .i64 _, .int .i64 _, .int .u8 _, .slice _ _ _]]) (cs := [.int .i64 _, .int .i64 _, .int .i64 _, .int .u8 _, .slice _ _ _, .int .i64 _, .int .i64 _, .int .i64 _, .int .u8 _, .slice _ _ _]) hS Tryz.underlying27 Tryz.sizeOf85 Tryz.zeroValue85 rfl rfl rfl rfl (fun v hv => by simp only [List.mem_cons, List.not_mem_nil, or_false] at hv; rcases hv with rfl | rfl <;> rfl) rfl) ?_
  rintro _ w_46 ⟨b93, rfl, hS⟩
  have hF := hS.freeze1
  clear hS
  obtain ⟨I93, hS, hI93, hb93⟩ := hF
  replace h24 := h24.mono hI93
  replace h28 := h28.mono hI93
  replace h30 := h30.mono hI93
  replace h32 := h32.mono hI93
  replace h34 := h34.mono hI93
  replace h36 := h36.mono hI93
  replace h39 := h39.mono hI93
  replace h42 := h42.mono hI93
  replace h47 := h47.mono hI93
  replace h53 := h53.mono hI93
  replace h59 := h59.mono hI93
  replace h65 := h65.mono hI93
  replace h69 := h69.mono hI93
  replace h77 := h77.mono hI93
  replace h82 := h82.mono hI93
  replace h83 := h83.mono hI93
  replace h91 := h91.mono hI93
  have h93 : ROps _ (.slice (some ⟨b93, 0, none⟩) 2 2) [⟨1, 2, 1, 0, []⟩, ⟨4, 0, 1, 0, [9]⟩] := RSl.ofAt (css := [[.int .i64 1, .int .i64 2, .int .i64 1, .int .u8 0, .slice none 0 0], [.int .i64 4, .int .i64 0, .int .i64 1, .int .u8 0, .slice (some ⟨b91, 0, none⟩) 1 1]]) hb93 rfl (by simp) (All2.cons ⟨_, _, _, rfl, RFl.nil⟩ (All2.cons ⟨_, _, _, rfl, h91⟩ (All2.nil _))) rfl (by decide)
  refine ⟨_, _, hS0.le hI93 (List.Sublist.refl _), hS, ?_⟩
  refine spt rfl rfl rfl (g_buildv (pl := [(0, 1), (1, 1), (2, 1), (3, 1)]) (cs := [.bool _, .int .i64 _, .int .i64 _, .slice _ _ _]) Tryz.zeroValue29 Tryz.underlying29 (fun w => by simp [Tryz.sizeOf27, Tryz.sizeOf3, Tryz.sizeOf4]) (mp (v := .int .i64 _) rfl (mp (v := .int .i64 _) rfl (mp rfl mp0))) rfl) ?_
  have hS0 := hS
  refine Inl.set rfl rfl rfl (d_call Tryz.call40 rfl (sameR_e (⟨false, 3, 2, [⟨1, 2, 1, 0, []⟩, ⟨4, 0, 1, 0, [9]⟩]⟩ : PatL) (⟨false, 3, 2, [⟨1, 2, 1, 0, []⟩, ⟨4, 0, 1, 0, [9]⟩]⟩ : PatL) _ _ _ _ _ _ true _ _ hS.imm h47 (okPat_s (by kernel_rfl)) h93 (okPat_s (by kernel_rfl)) (by kernel_rfl))) ?_
  rintro _ w_47 ⟨rfl, hE⟩
  replace hS := hS.call hE
  refine ⟨_, _, hS0.le hE.ext (List.Sublist.refl _), hS, ?_⟩
  refine sp rfl (g_and rfl rfl (fun _ => rfl)) ?_
  refine sp rfl (g_movev (v := .bool _) rfl) ?_
  refine spt rfl rfl rfl (g_movev (v := .int .i64 _) rfl) ?_
  refine spt rfl rfl rfl (g_eql rfl rfl) ?_
  refine sp rfl (g_and rfl rfl (fun _ => rfl)) ?_
  refine sp rfl (g_movev (v := .bool _) rfl) ?_
  refine sht rfl rfl rfl (g_ldO 5 (vs := [.bool _, .int .i64 _, .int .i64 _, .slice _ _ _]) Tryz.sizeOf29 Tryz.isAgg29 rfl rfl rfl rfl) ?_
  have hS0 := hS
  refine Inl.set rfl rfl rfl (d_call Tryz.call60 rfl (refWhole_c 2 _ _ hS.imm (by decide))) ?_
  rintro _ w_48 ⟨I_f, a103, m103, c103, rfl, hE, h103⟩
  replace hS := hS.call hE
  replace h24 := h24.mono hE.ext
  replace h28 := h28.mono hE.ext
  replace h30 := h30.mono hE.ext
  replace h32 := h32.mono hE.ext
  replace h34 := h34.mono hE.ext
  replace h36 := h36.mono hE.ext
  replace h39 := h39.mono hE.ext
  replace h42 := h42.mono hE.ext
  replace h47 := h47.mono hE.ext
  replace h53 := h53.mono hE.ext
  replace h59 := h59.mono hE.ext
  replace h65 := h65.mono hE.ext
  replace h69 := h69.mono hE.ext
  replace h77 := h77.mono hE.ext
  replace h82 := h82.mono hE.ext
  replace h83 := h83.mono hE.ext
  replace h91 := h91.mono hE.ext
  replace h93 := h93.mono hE.ext
  refine ⟨_, _, hS0.le hE.ext (List.Sublist.refl _), hS, ?_⟩
  have hS0 := hS
  refine Inl.set rfl rfl rfl (d_call Tryz.call40 rfl (sameR_e (⟨false, 2, 2, [⟨1, 0, 2, 0, []⟩]⟩ : PatL) (wholeP 2) _ _ _ _ _ _ true _ _ hS.imm h53 (okPat_s (by kernel_rfl)) h103 (okPat_s (by kernel_rfl)) (by kernel_rfl))) ?_
  rintro _ w_49 ⟨rfl, hE⟩
  replace hS := hS.call hE
  refine ⟨_, _, hS0.le hE.ext (List.Sublist.refl _), hS, ?_⟩
  refine sp rfl (g_and rfl rfl (fun _ => rfl)) ?_
  refine sp rfl (g_assignv (v := .bool _) rfl) ?_
  refine sn (thenN ?_)
  refine wpIn_seq ?_
  refine reg ?_
  refine qq hS (g_movev (v := .bool _) rfl) ?_
  refine qq hS (g_movev (v := .bool _) rfl) ?_
  refine qqs rfl rfl hS (g_movev (v := .int .i64 _) rfl) ?_
  refine qqs rfl rfl hS (g_eql rfl rfl) ?_
  refine qq hS (g_and rfl rfl (fun _ => rfl)) ?_
  refine qq hS (g_movev (v := .bool _) rfl) ?_
  refine qqs rfl rfl hS (g_ldO 4 (vs := [.bool _, .int .i64 _, .int .i64 _, .slice _ _ _]) Tryz.sizeOf29 Tryz.isAgg29 rfl rfl rfl rfl) ?_
  refine qqs rfl rfl hS (g_buildv (pl := [(0, 1), (1, 1), (2, 1), (3, 1), (4, 1)]) (cs := [.int .i64 _, .int .i64 _, .int .i64 _, .int .u8 _, .slice _ _ _]) Tryz.zeroValue85 Tryz.underlying85 (fun w => by simp [Tryz.sizeOf25, Tryz.sizeOf3, Tryz.sizeOf5]) (mp (v := .int .i64 _) rfl (mp (v := .int .i64 _) rfl (mp (v := .int .u8 _) rfl mp0))) rfl) ?_
  refine qes rfl rfl (d_lit (vs := [.agg #[.int .i64 _, .int .i64 _, .int .i64 _, .int .u8 _, .slice _ _ _]]) (cs := [.int .i64 _, .int .i64 _, .int .i64 _, .int .u8 _, .slice _ _ _]) hS Tryz.underlying27 Tryz.sizeOf85 Tryz.zeroValue85 rfl rfl rfl rfl (fun v hv => by simp only [List.mem_cons, List.not_mem_nil, or_false] at hv; subst hv; rfl) rfl) ?_
  clear hS
  rintro _ w_50 ⟨b114, rfl, hS⟩
  have hF := hS.freeze1
  clear hS
  obtain ⟨I114, hS, hI114, hb114⟩ := hF
  replace h24 := h24.mono hI114
  replace h28 := h28.mono hI114
  replace h30 := h30.mono hI114
  replace h32 := h32.mono hI114
  replace h34 := h34.mono hI114
  replace h36 := h36.mono hI114
  replace h39 := h39.mono hI114
  replace h42 := h42.mono hI114
  replace h47 := h47.mono hI114
  replace h53 := h53.mono hI114
  replace h59 := h59.mono hI114
  replace h65 := h65.mono hI114
  replace h69 := h69.mono hI114
  replace h77 := h77.mono hI114
  replace h82 := h82.mono hI114
  replace h83 := h83.mono hI114
  replace h91 := h91.mono hI114
  replace h93 := h93.mono hI114
  replace h103 := h103.mono hI114
  have h114 : ROps _ (.slice (some ⟨b114, 0, none⟩) 1 1) [⟨3, 0, 2, 5, []⟩] := RSl.ofAt (css := [[.int .i64 3, .int .i64 0, .int .i64 2, .int .u8 5, .slice none 0 0]]) hb114 rfl (by simp) (All2.cons ⟨_, _, _, rfl, RFl.nil⟩ (All2.nil _)) rfl (by decide)
  refine qqs rfl rfl hS (g_buildv (pl := [(0, 1), (1, 1), (2, 1), (3, 1)]) (cs := [.bool _, .int .i64 _, .int .i64 _, .slice _ _ _]) Tryz.zeroValue29 Tryz.underlying29 (fun w => by simp [Tryz.sizeOf27, Tryz.sizeOf3, Tryz.sizeOf4]) (mp (v := .int .i64 _) rfl (mp rfl mp0)) rfl) ?_
  refine qes rfl rfl (d_call Tryz.call40 rfl (sameR_e (⟨false, 0, 2, [⟨3, 0, 2, 5, []⟩]⟩ : PatL) (⟨false, 0, 2, [⟨3, 0, 2, 5, []⟩]⟩ : PatL) _ _ _ _ _ _ true _ _ hS.imm h59 (okPat_s (by kernel_rfl)) h114 (okPat_s (by kernel_rfl)) (by kernel_rfl))) ?_
  rintro _ w_51 ⟨rfl, hE⟩
  replace hS := hS.callE hE
  refine qq hS (g_and rfl rfl (fun _ => rfl)) ?_
  refine qq hS (g_movev (v := .bool _) rfl) ?_
  refine qqs rfl rfl hS (g_movev (v := .int .i64 _) rfl) ?_
  refine qqs rfl rfl hS (g_eql rfl rfl) ?_
  refine qq hS (g_and rfl rfl (fun _ => rfl)) ?_
  refine qq hS (g_movev (v := .bool _) rfl) ?_
  refine qqs rfl rfl hS (g_movev (v := .int .i64 _) rfl) ?_
  refine qqs rfl rfl hS (g_eql rfl rfl) ?_
  refine qq hS (g_and rfl rfl (fun _ => rfl)) ?_
  refine qq hS (g_movev (v := .bool _) rfl) ?_
  refine qqs rfl rfl hS (g_movev (v := .int .i64 _) rfl) ?_
  refine qqs rfl rfl hS (g_eql rfl rfl) ?_
  refine qq hS (g_and rfl rfl (fun _ => rfl)) ?_
  refine qq hS (g_movev (v := .bool _) rfl) ?_
  refine qqs rfl rfl hS (g_movev (v := .int .i64 _) rfl) ?_
  refine qqs rfl rfl hS (g_eql rfl rfl) ?_
  refine qq hS (g_and rfl rfl (fun _ => rfl)) ?_
  refine qq hS (g_assignv (v := .bool _) rfl) ?_
  refine ol_nil (thenN ?_)
  refine wpIn_ret ?_
  refine ret1 Tryz.results20 (rv_tmp (v := .bool _) rfl) ?_
  exact ⟨_, rfl, hS.nil⟩

end Go.Proofs.YtodopmclnklgdaaGreat

