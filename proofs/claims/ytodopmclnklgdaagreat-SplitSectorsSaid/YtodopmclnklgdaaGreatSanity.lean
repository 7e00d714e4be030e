/- inlaylaw08.sanity: it is true. Conditions: none. -/
import Derived.Test.YtodopmclnklgdaaGreatLaw1
namespace Go.Proofs.YtodopmclnklgdaaGreat
open Go Go.RowKit Go.Inl
set_option linter.unusedSimpArgs false
set_option linter.unusedVariables false
theorem lit_wf {bs : List Int} (h : ∀ b ∈ bs, 0 ≤ b ∧ b ≤ 255) : ∀ s ∈ litS bs, s.wf := by
  intro s hs
  obtain ⟨b, hb, rfl⟩ := List.mem_map.1 hs
  exact ⟨by dsimp only; omega, by dsimp only; omega, (h b hb).1, (h b hb).2⟩
def okB (b : Int) : Bool := decide (0 ≤ b) && decide (b ≤ 255)
def okM (b : Int) : Bool := decide (-1099511627776 ≤ b) && decide (b ≤ 1099511627776)
def okSym (s : Sym) : Bool := okM s.at_ && okB s.b
def okOp (x : OpL) : Bool := okM x.kind && okM x.from_ && okM x.len && okB x.b && x.data.all okB
theorem okB_s {b : Int} (h : okB b = true) : 0 ≤ b ∧ b ≤ 255 := by simpa [okB] using h
theorem okM_s {b : Int} (h : okM b = true) : Mid b := by unfold Mid; simpa [okM] using h
theorem okSyms {l : List Sym} (h : l.all okSym = true) : ∀ s ∈ l, s.wf := fun s hs => by
  have := List.all_eq_true.1 h s hs
  simp only [okSym, Bool.and_eq_true] at this
  exact ⟨(okM_s this.1).1, (okM_s this.1).2, (okB_s this.2).1, (okB_s this.2).2⟩
theorem okOps {l : List OpL} (h : l.all okOp = true) : ∀ x ∈ l, x.wf := fun x hx => by
  have := List.all_eq_true.1 h x hx
  simp only [okOp, Bool.and_eq_true] at this
  obtain ⟨⟨⟨⟨h1, h2⟩, h3⟩, h4⟩, h5⟩ := this
  exact ⟨okM_s h1, okM_s h2, okM_s h3, okB_s h4, fun y hy => okB_s (List.all_eq_true.1 h5 y hy)⟩
def p2 : PatL := ⟨true, 2, 0, []⟩
def p3 : PatL := ⟨false, 2, 0, []⟩
def p1 : PatL := ⟨false, 0, 1, []⟩
theorem small_wf (a : Bool) (n m : Int) (hn : Mid n) (hm : Mid m) : (⟨a, n, m, []⟩ : PatL).wf := ⟨hn, hm, fun x hx => by simp at hx, by simp⟩
theorem mid2 : Mid 2 := ⟨by decide, by decide⟩
theorem mid1 : Mid 1 := ⟨by decide, by decide⟩
theorem mid0 : Mid 0 := ⟨by decide, by decide⟩

set_option maxHeartbeats 4000000 in
theorem sanity_c (w0 : World) (I0 : Imm) (hI : Sat I0 w0) :
    Ctr Tryz.prog 12 [] w0 (fun v w' => ∃ I', v = .bool true ∧ Ext w0 I0 w' I') := by
  refine fn (n := 124) Tryz.func12 rfl rfl rfl ?_
  have hS := St.start hI
  refine wpIn_seq ?_
  refine reg ?_
  refine qq hS (g_assignv (v := .bool _) rfl) ?_
  refine ol_nil (thenN ?_)
  refine wpIn_seq ?_
  refine reg ?_
  refine qe (d_call Tryz.call45 rfl (old_c _ _ _ _ hS.imm)) ?_
  rintro _ w_1 ⟨rfl, hE⟩
  replace hS := hS.callE hE
  refine qe (d_call Tryz.call45 rfl (old_c _ _ _ _ hS.imm)) ?_
  rintro _ w_2 ⟨rfl, hE⟩
  replace hS := hS.callE hE
  refine qe (d_call Tryz.call45 rfl (old_c _ _ _ _ hS.imm)) ?_
  rintro _ w_3 ⟨rfl, hE⟩
  replace hS := hS.callE hE
  refine qe (d_lit (vs := [.agg #[.bool _, .int .i64 _, .int .u8 _], .agg #[.bool _, .int .i64 _, .int .u8 _], .agg #[.bool _, .int .i64 _, .int .u8 _]]) (cs := [.bool _, .int .i64 _, .int .u8 _, .bool _, .int .i64 _, .int .u8 _, .bool _, .int .i64 _, .int .u8 _]) hS Tryz.underlying83 Tryz.sizeOf81 Tryz.zeroValue81 rfl rfl rfl rfl (fun v hv => by simp only [List.mem_cons, List.not_mem_nil, or_false] at hv; rcases hv with rfl | rfl | rfl <;> rfl) rfl) ?_
  clear hS
  rintro _ w_4 ⟨b16, rfl, hS⟩
  have hF := hS.freeze1
  clear hS
  obtain ⟨I16, hS, hI16, hb16⟩ := hF
  have h16 := RFl.ofAt symC_len ([⟨true, 0, 0⟩, ⟨true, 1, 0⟩, ⟨true, 2, 0⟩] : List Sym) hb16 rfl (by decide)
  refine qq hS (g_buildv (pl := [(0, 1), (1, 1), (2, 1), (3, 1), (4, 1)]) (cs := [.int .i64 _, .int .i64 _, .int .i64 _, .int .u8 _, .slice _ _ _]) Tryz.zeroValue85 Tryz.underlying85 (fun w => by simp [Tryz.sizeOf25, Tryz.sizeOf3, Tryz.sizeOf5]) (mp (v := .int .i64 _) rfl (mp (v := .int .i64 _) rfl mp0)) rfl) ?_
  refine qe (d_lit (vs := [.agg #[.int .i64 _, .int .i64 _, .int .i64 _, .int .u8 _, .slice _ _ _]]) (cs := [.int .i64 _, .int .i64 _, .int .i64 _, .int .u8 _, .slice _ _ _]) hS Tryz.underlying27 Tryz.sizeOf85 Tryz.zeroValue85 rfl rfl rfl rfl (fun v hv => by simp only [List.mem_cons, List.not_mem_nil, or_false] at hv; subst hv; rfl) rfl) ?_
  clear hS
  rintro _ w_5 ⟨b18, rfl, hS⟩
  have hF := hS.freeze1
  clear hS
  obtain ⟨I18, hS, hI18, hb18⟩ := hF
  replace h16 := h16.mono hI18
  have h18 : ROps _ (.slice (some ⟨b18, 0, none⟩) 1 1) [⟨1, 0, 3, 0, []⟩] := RSl.ofAt (css := [[.int .i64 1, .int .i64 0, .int .i64 3, .int .u8 0, .slice none 0 0]]) hb18 rfl (by simp) (All2.one ⟨_, _, _, rfl, RFl.nil⟩) rfl (by decide)
  refine qe (d_call Tryz.call44 rfl (forms_t _ _ _ _ _ _ _ _ _ _ hS.imm h16 rfl (okSyms (by kernel_rfl)) h18 (okOps (by kernel_rfl)) (by kernel_rfl))) ?_
  rintro _ w_6 ⟨I_f, rfl, hE⟩
  replace hS := hS.callE hE
  replace h16 := h16.mono hE.ext
  replace h18 := h18.mono hE.ext
  clear h16 h18
  refine qq hS (g_movev (v := .bool _) rfl) ?_
  refine qes rfl rfl (d_call Tryz.call45 rfl (old_c _ _ _ _ hS.imm)) ?_
  rintro _ w_7 ⟨rfl, hE⟩
  replace hS := hS.callE hE
  refine qes rfl rfl (d_call Tryz.call45 rfl (old_c _ _ _ _ hS.imm)) ?_
  rintro _ w_8 ⟨rfl, hE⟩
  replace hS := hS.callE hE
  refine qes rfl rfl (d_call Tryz.call45 rfl (old_c _ _ _ _ hS.imm)) ?_
  rintro _ w_9 ⟨rfl, hE⟩
  replace hS := hS.callE hE
  refine qes rfl rfl (d_lit (vs := [.agg #[.bool _, .int .i64 _, .int .u8 _], .agg #[.bool _, .int .i64 _, .int .u8 _], .agg #[.bool _, .int .i64 _, .int .u8 _]]) (cs := [.bool _, .int .i64 _, .int .u8 _, .bool _, .int .i64 _, .int .u8 _, .bool _, .int .i64 _, .int .u8 _]) hS Tryz.underlying83 Tryz.sizeOf81 Tryz.zeroValue81 rfl rfl rfl rfl (fun v hv => by simp only [List.mem_cons, List.not_mem_nil, or_false] at hv; rcases hv with rfl | rfl | rfl <;> rfl) rfl) ?_
  clear hS
  rintro _ w_10 ⟨b24, rfl, hS⟩
  have hF := hS.freeze1
  clear hS
  obtain ⟨I24, hS, hI24, hb24⟩ := hF
  have h24 := RFl.ofAt symC_len ([⟨true, 0, 0⟩, ⟨true, 1, 1⟩, ⟨true, 2, 0⟩] : List Sym) hb24 rfl (by decide)
  refine qes rfl rfl (d_lit (vs := [.int .u8 _, .int .u8 _, .int .u8 _]) (cs := [.int .u8 _, .int .u8 _, .int .u8 _]) hS Tryz.underlying25 Tryz.sizeOf5 Tryz.zeroValue5 rfl rfl rfl rfl (fun v hv => by simp only [List.mem_cons, List.not_mem_nil, or_false] at hv; rcases hv with rfl | rfl | rfl <;> rfl) rfl) ?_
  clear hS
  rintro _ w_11 ⟨b25, rfl, hS⟩
  have hF := hS.freeze1
  clear hS
  obtain ⟨I25, hS, hI25, hb25⟩ := hF
  replace h24 := h24.mono hI25
  have h25 := RFl.ofAt byteC_len ([0, 1, 0] : List Int) hb25 rfl (by decide)
  refine qqs rfl rfl hS (g_buildv (pl := [(0, 1), (1, 1), (2, 1), (3, 1), (4, 1)]) (cs := [.int .i64 _, .int .i64 _, .int .i64 _, .int .u8 _, .slice _ _ _]) Tryz.zeroValue85 Tryz.underlying85 (fun w => by simp [Tryz.sizeOf25, Tryz.sizeOf3, Tryz.sizeOf5]) (mp (v := .int .i64 _) rfl (mp (v := .int .i64 _) rfl (mp rfl mp0))) rfl) ?_
  refine qes rfl rfl (d_lit (vs := [.agg #[.int .i64 _, .int .i64 _, .int .i64 _, .int .u8 _, .slice _ _ _]]) (cs := [.int .i64 _, .int .i64 _, .int .i64 _, .int .u8 _, .slice _ _ _]) hS Tryz.underlying27 Tryz.sizeOf85 Tryz.zeroValue85 rfl rfl rfl rfl (fun v hv => by simp only [List.mem_cons, List.not_mem_nil, or_false] at hv; subst hv; rfl) rfl) ?_
  clear hS
  rintro _ w_12 ⟨b27, rfl, hS⟩
  have hF := hS.freeze1
  clear hS
  obtain ⟨I27, hS, hI27, hb27⟩ := hF
  replace h24 := h24.mono hI27
  replace h25 := h25.mono hI27
  have h27 : ROps _ (.slice (some ⟨b27, 0, none⟩) 1 1) [⟨2, 0, 3, 0, [0, 1, 0]⟩] := RSl.ofAt (css := [[.int .i64 2, .int .i64 0, .int .i64 3, .int .u8 0, .slice (some ⟨b25, 0, none⟩) 3 3]]) hb27 rfl (by simp) (All2.one ⟨_, _, _, rfl, h25⟩) rfl (by decide)
  refine qes rfl rfl (d_call Tryz.call44 rfl (forms_t _ _ _ _ _ _ _ _ _ _ hS.imm h24 rfl (okSyms (by kernel_rfl)) h27 (okOps (by kernel_rfl)) (by kernel_rfl))) ?_
  rintro _ w_13 ⟨I_f, rfl, hE⟩
  replace hS := hS.callE hE
  replace h24 := h24.mono hE.ext
  replace h25 := h25.mono hE.ext
  replace h27 := h27.mono hE.ext
  clear h24 h27 h25
  refine qq hS (g_and rfl rfl (fun _ => rfl)) ?_
  refine qq hS (g_assignv (v := .bool _) rfl) ?_
  refine ol_nil (thenN ?_)
  refine wpIn_seq ?_
  refine reg ?_
  refine qe (d_lit (vs := [.int .u8 _]) (cs := [.int .u8 _]) hS Tryz.underlying25 Tryz.sizeOf5 Tryz.zeroValue5 rfl rfl rfl rfl (fun v hv => by simp only [List.mem_cons, List.not_mem_nil, or_false] at hv; subst hv; rfl) rfl) ?_
  clear hS
  rintro _ w_14 ⟨b30, rfl, hS⟩
  have hF := hS.freeze1
  clear hS
  obtain ⟨I30, hS, hI30, hb30⟩ := hF
  have h30 := RFl.ofAt byteC_len ([5] : List Int) hb30 rfl (by decide)
  refine qe (d_call Tryz.call46 rfl (literals_c _ _ _ _ _ hS.imm h30 (by decide))) ?_
  rintro _ w_15 ⟨I_f, a31, m31, c31, rfl, hE, h31, hm31⟩
  replace hS := hS.callE hE
  replace h30 := h30.mono hE.ext
  refine qe (d_lit (vs := [.int .u8 _]) (cs := [.int .u8 _]) hS Tryz.underlying25 Tryz.sizeOf5 Tryz.zeroValue5 rfl rfl rfl rfl (fun v hv => by simp only [List.mem_cons, List.not_mem_nil, or_false] at hv; subst hv; rfl) rfl) ?_
  clear hS
  rintro _ w_16 ⟨b32, rfl, hS⟩
  have hF := hS.freeze1
  clear hS
  obtain ⟨I32, hS, hI32, hb32⟩ := hF
  replace h30 := h30.mono hI32
  replace h31 := h31.mono hI32
  have h32 := RFl.ofAt byteC_len ([5] : List Int) hb32 rfl (by decide)
  refine qq hS (g_buildv (pl := [(0, 1), (1, 1), (2, 1), (3, 1), (4, 1)]) (cs := [.int .i64 _, .int .i64 _, .int .i64 _, .int .u8 _, .slice _ _ _]) Tryz.zeroValue85 Tryz.underlying85 (fun w => by simp [Tryz.sizeOf25, Tryz.sizeOf3, Tryz.sizeOf5]) (mp (v := .int .i64 _) rfl (mp (v := .int .i64 _) rfl (mp rfl mp0))) rfl) ?_
  refine qe (d_lit (vs := [.agg #[.int .i64 _, .int .i64 _, .int .i64 _, .int .u8 _, .slice _ _ _]]) (cs := [.int .i64 _, .int .i64 _, .int .i64 _, .int .u8 _, .slice _ _ _]) hS Tryz.underlying27 Tryz.sizeOf85 Tryz.zeroValue85 rfl rfl rfl rfl (fun v hv => by simp only [List.mem_cons, List.not_mem_nil, or_false] at hv; subst hv; rfl) rfl) ?_
  clear hS
  rintro _ w_17 ⟨b34, rfl, hS⟩
  have hF := hS.freeze1
  clear hS
  obtain ⟨I34, hS, hI34, hb34⟩ := hF
  replace h30 := h30.mono hI34
  replace h31 := h31.mono hI34
  replace h32 := h32.mono hI34
  have h34 : ROps _ (.slice (some ⟨b34, 0, none⟩) 1 1) [⟨4, 0, 1, 0, [5]⟩] := RSl.ofAt (css := [[.int .i64 4, .int .i64 0, .int .i64 1, .int .u8 0, .slice (some ⟨b32, 0, none⟩) 1 1]]) hb34 rfl (by simp) (All2.one ⟨_, _, _, rfl, h32⟩) rfl (by decide)
  refine qe (d_call Tryz.call44 rfl (forms_t _ _ _ _ _ _ _ _ _ _ hS.imm h31 hm31 (okSyms (by kernel_rfl)) h34 (okOps (by kernel_rfl)) (by kernel_rfl))) ?_
  rintro _ w_18 ⟨I_f, rfl, hE⟩
  replace hS := hS.callE hE
  replace h30 := h30.mono hE.ext
  replace h31 := h31.mono hE.ext
  replace h32 := h32.mono hE.ext
  replace h34 := h34.mono hE.ext
  clear h31 h34 hm31 h30 h32
  refine qq hS (g_movev (v := .bool _) rfl) ?_
  refine qes rfl rfl (d_lit (vs := [.int .u8 _, .int .u8 _]) (cs := [.int .u8 _, .int .u8 _]) hS Tryz.underlying25 Tryz.sizeOf5 Tryz.zeroValue5 rfl rfl rfl rfl (fun v hv => by simp only [List.mem_cons, List.not_mem_nil, or_false] at hv; rcases hv with rfl | rfl <;> rfl) rfl) ?_
  clear hS
  rintro _ w_19 ⟨b37, rfl, hS⟩
  have hF := hS.freeze1
  clear hS
  obtain ⟨I37, hS, hI37, hb37⟩ := hF
  have h37 := RFl.ofAt byteC_len ([5, 5] : List Int) hb37 rfl (by decide)
  refine qes rfl rfl (d_call Tryz.call46 rfl (literals_c _ _ _ _ _ hS.imm h37 (by decide))) ?_
  rintro _ w_20 ⟨I_f, a38, m38, c38, rfl, hE, h38, hm38⟩
  replace hS := hS.callE hE
  replace h37 := h37.mono hE.ext
  refine qqs rfl rfl hS (g_buildv (pl := [(0, 1), (1, 1), (2, 1), (3, 1), (4, 1)]) (cs := [.int .i64 _, .int .i64 _, .int .i64 _, .int .u8 _, .slice _ _ _]) Tryz.zeroValue85 Tryz.underlying85 (fun w => by simp [Tryz.sizeOf25, Tryz.sizeOf3, Tryz.sizeOf5]) (mp (v := .int .i64 _) rfl (mp (v := .int .i64 _) rfl (mp (v := .int .u8 _) rfl mp0))) rfl) ?_
  refine qes rfl rfl (d_lit (vs := [.agg #[.int .i64 _, .int .i64 _, .int .i64 _, .int .u8 _, .slice _ _ _]]) (cs := [.int .i64 _, .int .i64 _, .int .i64 _, .int .u8 _, .slice _ _ _]) hS Tryz.underlying27 Tryz.sizeOf85 Tryz.zeroValue85 rfl rfl rfl rfl (fun v hv => by simp only [List.mem_cons, List.not_mem_nil, or_false] at hv; subst hv; rfl) rfl) ?_
  clear hS
  rintro _ w_21 ⟨b40, rfl, hS⟩
  have hF := hS.freeze1
  clear hS
  obtain ⟨I40, hS, hI40, hb40⟩ := hF
  replace h37 := h37.mono hI40
  replace h38 := h38.mono hI40
  have h40 : ROps _ (.slice (some ⟨b40, 0, none⟩) 1 1) [⟨3, 0, 2, 5, []⟩] := RSl.ofAt (css := [[.int .i64 3, .int .i64 0, .int .i64 2, .int .u8 5, .slice none 0 0]]) hb40 rfl (by simp) (All2.one ⟨_, _, _, rfl, RFl.nil⟩) rfl (by decide)
  refine qes rfl rfl (d_call Tryz.call44 rfl (forms_t _ _ _ _ _ _ _ _ _ _ hS.imm h38 hm38 (okSyms (by kernel_rfl)) h40 (okOps (by kernel_rfl)) (by kernel_rfl))) ?_
  rintro _ w_22 ⟨I_f, rfl, hE⟩
  replace hS := hS.callE hE
  replace h37 := h37.mono hE.ext
  replace h38 := h38.mono hE.ext
  replace h40 := h40.mono hE.ext
  clear h38 h40 hm38 h37
  refine qq hS (g_and rfl rfl (fun _ => rfl)) ?_
  refine qq hS (g_assignv (v := .bool _) rfl) ?_
  refine ol_nil (thenN ?_)
  refine wpIn_seq ?_
  refine reg ?_
  refine qe (d_lit (vs := [.int .u8 _, .int .u8 _, .int .u8 _, .int .u8 _, .int .u8 _, .int .u8 _]) (cs := [.int .u8 _, .int .u8 _, .int .u8 _, .int .u8 _, .int .u8 _, .int .u8 _]) hS Tryz.underlying25 Tryz.sizeOf5 Tryz.zeroValue5 rfl rfl rfl rfl (fun v hv => by simp only [List.mem_cons, List.not_mem_nil, or_false] at hv; rcases hv with rfl | rfl | rfl | rfl | rfl | rfl <;> rfl) rfl) ?_
  clear hS
  rintro _ w_23 ⟨b43, rfl, hS⟩
  have hF := hS.freeze1
  clear hS
  obtain ⟨I43, hS, hI43, hb43⟩ := hF
  have h43 := RFl.ofAt byteC_len ([1, 7, 7, 7, 7, 2] : List Int) hb43 rfl (by decide)
  refine qe (d_call Tryz.call46 rfl (literals_c _ _ _ _ _ hS.imm h43 (by decide))) ?_
  rintro _ w_24 ⟨I_f, a44, m44, c44, rfl, hE, h44, hm44⟩
  replace hS := hS.callE hE
  replace h43 := h43.mono hE.ext
  refine qe (d_lit (vs := [.int .u8 _, .int .u8 _, .int .u8 _, .int .u8 _, .int .u8 _, .int .u8 _]) (cs := [.int .u8 _, .int .u8 _, .int .u8 _, .int .u8 _, .int .u8 _, .int .u8 _]) hS Tryz.underlying25 Tryz.sizeOf5 Tryz.zeroValue5 rfl rfl rfl rfl (fun v hv => by simp only [List.mem_cons, List.not_mem_nil, or_false] at hv; rcases hv with rfl | rfl | rfl | rfl | rfl | rfl <;> rfl) rfl) ?_
  clear hS
  rintro _ w_25 ⟨b45, rfl, hS⟩
  have hF := hS.freeze1
  clear hS
  obtain ⟨I45, hS, hI45, hb45⟩ := hF
  replace h43 := h43.mono hI45
  replace h44 := h44.mono hI45
  have h45 := RFl.ofAt byteC_len ([1, 7, 7, 7, 7, 2] : List Int) hb45 rfl (by decide)
  refine qq hS (g_buildv (pl := [(0, 1), (1, 1), (2, 1), (3, 1), (4, 1)]) (cs := [.int .i64 _, .int .i64 _, .int .i64 _, .int .u8 _, .slice _ _ _]) Tryz.zeroValue85 Tryz.underlying85 (fun w => by simp [Tryz.sizeOf25, Tryz.sizeOf3, Tryz.sizeOf5]) (mp (v := .int .i64 _) rfl (mp (v := .int .i64 _) rfl (mp rfl mp0))) rfl) ?_
  refine qe (d_lit (vs := [.agg #[.int .i64 _, .int .i64 _, .int .i64 _, .int .u8 _, .slice _ _ _]]) (cs := [.int .i64 _, .int .i64 _, .int .i64 _, .int .u8 _, .slice _ _ _]) hS Tryz.underlying27 Tryz.sizeOf85 Tryz.zeroValue85 rfl rfl rfl rfl (fun v hv => by simp only [List.mem_cons, List.not_mem_nil, or_false] at hv; subst hv; rfl) rfl) ?_
  clear hS
  rintro _ w_26 ⟨b47, rfl, hS⟩
  have hF := hS.freeze1
  clear hS
  obtain ⟨I47, hS, hI47, hb47⟩ := hF
  replace h43 := h43.mono hI47
  replace h44 := h44.mono hI47
  replace h45 := h45.mono hI47
  have h47 : ROps _ (.slice (some ⟨b47, 0, none⟩) 1 1) [⟨4, 0, 6, 0, [1, 7, 7, 7, 7, 2]⟩] := RSl.ofAt (css := [[.int .i64 4, .int .i64 0, .int .i64 6, .int .u8 0, .slice (some ⟨b45, 0, none⟩) 6 6]]) hb47 rfl (by simp) (All2.one ⟨_, _, _, rfl, h45⟩) rfl (by decide)
  refine qe (d_call Tryz.call44 rfl (forms_t _ _ _ _ _ _ _ _ _ _ hS.imm h44 hm44 (okSyms (by kernel_rfl)) h47 (okOps (by kernel_rfl)) (by kernel_rfl))) ?_
  rintro _ w_27 ⟨I_f, rfl, hE⟩
  replace hS := hS.callE hE
  replace h43 := h43.mono hE.ext
  replace h44 := h44.mono hE.ext
  replace h45 := h45.mono hE.ext
  replace h47 := h47.mono hE.ext
  clear h44 h47 hm44 h43 h45
  refine qq hS (g_movev (v := .bool _) rfl) ?_
  refine qes rfl rfl (d_lit (vs := [.int .u8 _, .int .u8 _, .int .u8 _, .int .u8 _, .int .u8 _, .int .u8 _, .int .u8 _, .int .u8 _, .int .u8 _, .int .u8 _, .int .u8 _, .int .u8 _]) (cs := [.int .u8 _, .int .u8 _, .int .u8 _, .int .u8 _, .int .u8 _, .int .u8 _, .int .u8 _, .int .u8 _, .int .u8 _, .int .u8 _, .int .u8 _, .int .u8 _]) hS Tryz.underlying25 Tryz.sizeOf5 Tryz.zeroValue5 rfl rfl rfl rfl (fun v hv => by simp only [List.mem_cons, List.not_mem_nil, or_false] at hv; rcases hv with rfl | rfl | rfl | rfl | rfl | rfl | rfl | rfl | rfl | rfl | rfl | rfl <;> rfl) rfl) ?_
  clear hS
  rintro _ w_28 ⟨b50, rfl, hS⟩
  have hF := hS.freeze1
  clear hS
  obtain ⟨I50, hS, hI50, hb50⟩ := hF
  have h50 := RFl.ofAt byteC_len ([1, 7, 7, 7, 7, 7, 7, 7, 7, 7, 7, 7] : List Int) hb50 rfl (by decide)
  refine qes rfl rfl (d_call Tryz.call46 rfl (literals_c _ _ _ _ _ hS.imm h50 (by decide))) ?_
  rintro _ w_29 ⟨I_f, a51, m51, c51, rfl, hE, h51, hm51⟩
  replace hS := hS.callE hE
  replace h50 := h50.mono hE.ext
  refine qes rfl rfl (d_lit (vs := [.int .u8 _]) (cs := [.int .u8 _]) hS Tryz.underlying25 Tryz.sizeOf5 Tryz.zeroValue5 rfl rfl rfl rfl (fun v hv => by simp only [List.mem_cons, List.not_mem_nil, or_false] at hv; subst hv; rfl) rfl) ?_
  clear hS
  rintro _ w_30 ⟨b52, rfl, hS⟩
  have hF := hS.freeze1
  clear hS
  obtain ⟨I52, hS, hI52, hb52⟩ := hF
  replace h50 := h50.mono hI52
  replace h51 := h51.mono hI52
  have h52 := RFl.ofAt byteC_len ([1] : List Int) hb52 rfl (by decide)
  refine qqs rfl rfl hS (g_buildv (pl := [(0, 1), (1, 1), (2, 1), (3, 1), (4, 1)]) (cs := [.int .i64 _, .int .i64 _, .int .i64 _, .int .u8 _, .slice _ _ _]) Tryz.zeroValue85 Tryz.underlying85 (fun w => by simp [Tryz.sizeOf25, Tryz.sizeOf3, Tryz.sizeOf5]) (mp (v := .int .i64 _) rfl (mp (v := .int .i64 _) rfl (mp rfl mp0))) rfl) ?_
  refine qqs rfl rfl hS (g_buildv (pl := [(0, 1), (1, 1), (2, 1), (3, 1), (4, 1)]) (cs := [.int .i64 _, .int .i64 _, .int .i64 _, .int .u8 _, .slice _ _ _]) Tryz.zeroValue85 Tryz.underlying85 (fun w => by simp [Tryz.sizeOf25, Tryz.sizeOf3, Tryz.sizeOf5]) (mp (v := .int .i64 _) rfl (mp (v := .int .i64 _) rfl (mp (v := .int .u8 _) rfl mp0))) rfl) ?_
  refine qes rfl rfl (d_lit (vs := [.agg #[.int .i64 _, .int .i64 _, .int .i64 _, .int .u8 _, .slice _ _ _], .agg #[.int .i64 _, .int .i64 _, .int .i64 _, .int .u8 _, .slice _ _ _]]) (cs := [.int .i64 _, .int .i64 _, .int .i64 _, .int .u8 _, .slice _ _ _, .int .i64 _, .int .i64 _, .int .i64 _, .int .u8 _, .slice _ _ _]) hS Tryz.underlying27 Tryz.sizeOf85 Tryz.zeroValue85 rfl rfl rfl rfl (fun v hv => by simp only [List.mem_cons, List.not_mem_nil, or_false] at hv; rcases hv with rfl | rfl <;> rfl) rfl) ?_
  clear hS
  rintro _ w_31 ⟨b55, rfl, hS⟩
  have hF := hS.freeze1
  clear hS
  obtain ⟨I55, hS, hI55, hb55⟩ := hF
  replace h50 := h50.mono hI55
  replace h51 := h51.mono hI55
  replace h52 := h52.mono hI55
  have h55 : ROps _ (.slice (some ⟨b55, 0, none⟩) 2 2) [⟨4, 0, 1, 0, [1]⟩, ⟨3, 0, 11, 7, []⟩] := RSl.ofAt (css := [[.int .i64 4, .int .i64 0, .int .i64 1, .int .u8 0, .slice (some ⟨b52, 0, none⟩) 1 1], [.int .i64 3, .int .i64 0, .int .i64 11, .int .u8 7, .slice none 0 0]]) hb55 rfl (by simp) (All2.two ⟨_, _, _, rfl, h52⟩ ⟨_, _, _, rfl, RFl.nil⟩) rfl (by decide)
  refine qes rfl rfl (d_call Tryz.call44 rfl (forms_t _ _ _ _ _ _ _ _ _ _ hS.imm h51 hm51 (okSyms (by kernel_rfl)) h55 (okOps (by kernel_rfl)) (by kernel_rfl))) ?_
  rintro _ w_32 ⟨I_f, rfl, hE⟩
  replace hS := hS.callE hE
  replace h50 := h50.mono hE.ext
  replace h51 := h51.mono hE.ext
  replace h52 := h52.mono hE.ext
  replace h55 := h55.mono hE.ext
  clear h51 h55 hm51 h50 h52
  refine qq hS (g_and rfl rfl (fun _ => rfl)) ?_
  refine qq hS (g_assignv (v := .bool _) rfl) ?_
  refine ol_nil (thenN ?_)
  refine wpIn_seq ?_
  refine reg ?_
  refine qe (d_call Tryz.call45 rfl (old_c _ _ _ _ hS.imm)) ?_
  rintro _ w_33 ⟨rfl, hE⟩
  replace hS := hS.callE hE
  refine qe (d_lit (vs := [.agg #[.bool _, .int .i64 _, .int .u8 _]]) (cs := [.bool _, .int .i64 _, .int .u8 _]) hS Tryz.underlying83 Tryz.sizeOf81 Tryz.zeroValue81 rfl rfl rfl rfl (fun v hv => by simp only [List.mem_cons, List.not_mem_nil, or_false] at hv; subst hv; rfl) rfl) ?_
  clear hS
  rintro _ w_34 ⟨b60, rfl, hS⟩
  have hF := hS.freeze1
  clear hS
  obtain ⟨I60, hS, hI60, hb60⟩ := hF
  have h60 := RFl.ofAt symC_len ([⟨true, 4, 0⟩] : List Sym) hb60 rfl (by decide)
  refine qe (d_call Tryz.call47 rfl (cheapest_e _ _ _ _ 4 PatL.zero 60 _ _ hS.imm h60 rfl (okSyms (by kernel_rfl)) (by kernel_rfl))) ?_
  rintro _ w_35 ⟨I_f, a61, m61, c61, rfl, hE, h61⟩
  replace hS := hS.callE hE
  replace h60 := h60.mono hE.ext
  refine qq hS (g_move _) ?_
  refine qq hS (g_extract rfl rfl) ?_
  refine qq hS (g_extract (v := .int .i64 _) rfl rfl) ?_
  refine qe (d_alloc (cs := [.bool _, .int .i64 _, .int .i64 _, .slice _ _ _]) hS Tryz.zeroValue29 rfl) ?_
  clear hS
  rintro _ w_36 ⟨b4, rfl, hS⟩
  refine qe (d_store 0 hS Tryz.sizeOf29 rfl rfl rfl (vs := [.bool _, .int .i64 _, .int .i64 _, .slice _ _ _]) rfl rfl rfl (Nat.le_of_ble_eq_true rfl) (cs' := [_, _, _, _]) rfl) ?_
  clear hS
  rintro _ w_37 ⟨rfl, hS⟩
  refine qq hS (g_assignv (v := .int .i64 _) rfl) ?_
  refine ol_nil (thenN ?_)
  refine wpIn_seq ?_
  refine reg ?_
  refine qe (d_call Tryz.call47 rfl (cheapest_e none 0 0 [] (-1) PatL.zero 60 _ _ hS.imm RFl.nil rfl (okSyms (by kernel_rfl)) (by kernel_rfl))) ?_
  rintro _ w_38 ⟨I_f, a65, m65, c65, rfl, hE, h65⟩
  replace hS := hS.callE hE
  replace h60 := h60.mono hE.ext
  replace h61 := h61.mono hE.ext
  refine qq hS (g_move _) ?_
  refine qq hS (g_extract rfl rfl) ?_
  refine qq hS (g_extract (v := .int .i64 _) rfl rfl) ?_
  refine qe (d_alloc (cs := [.bool _, .int .i64 _, .int .i64 _, .slice _ _ _]) hS Tryz.zeroValue29 rfl) ?_
  clear hS
  rintro _ w_39 ⟨b6, rfl, hS⟩
  refine qe (d_store 0 hS Tryz.sizeOf29 rfl rfl rfl (vs := [.bool _, .int .i64 _, .int .i64 _, .slice _ _ _]) rfl rfl rfl (Nat.le_of_ble_eq_true rfl) (cs' := [_, _, _, _]) rfl) ?_
  clear hS
  rintro _ w_40 ⟨rfl, hS⟩
  refine qq hS (g_assignv (v := .int .i64 _) rfl) ?_
  refine ol_nil (thenN ?_)
  refine wpIn_seq ?_
  refine reg ?_
  refine qq hS (g_buildv (pl := [(0, 1), (1, 1), (2, 1), (3, 1)]) (cs := [.bool _, .int .i64 _, .int .i64 _, .slice _ _ _]) Tryz.zeroValue29 Tryz.underlying29 (fun w => by simp [Tryz.sizeOf27, Tryz.sizeOf3, Tryz.sizeOf4]) (mp (v := .int .i64 _) rfl mp0) rfl) ?_
  refine qe (d_call Tryz.call14 rfl (form_e p1 none 0 0 PatL.zero 60 _ _ hS.imm RSl.nilR (small_wf _ _ _ mid0 mid1) (by kernel_rfl))) ?_
  rintro _ w_41 ⟨I_f, a70, m70, c70, rfl, hE, h70⟩
  replace hS := hS.callE hE
  replace h60 := h60.mono hE.ext
  replace h61 := h61.mono hE.ext
  replace h65 := h65.mono hE.ext
  refine qq hS (g_move _) ?_
  refine qq hS (g_extract rfl rfl) ?_
  refine qq hS (g_extract (v := .int .i64 _) rfl rfl) ?_
  refine qe (d_alloc (cs := [.bool _, .int .i64 _, .int .i64 _, .slice _ _ _]) hS Tryz.zeroValue29 rfl) ?_
  clear hS
  rintro _ w_42 ⟨b8, rfl, hS⟩
  refine qe (d_store 0 hS Tryz.sizeOf29 rfl rfl rfl (vs := [.bool _, .int .i64 _, .int .i64 _, .slice _ _ _]) rfl rfl rfl (Nat.le_of_ble_eq_true rfl) (cs' := [_, _, _, _]) rfl) ?_
  clear hS
  rintro _ w_43 ⟨rfl, hS⟩
  refine qq hS (g_assignv (v := .int .i64 _) rfl) ?_
  refine ol_nil (thenN ?_)
  refine wpIn_seq ?_
  refine reg ?_
  refine qq hS (g_buildv (pl := [(0, 1), (1, 1), (2, 1), (3, 1)]) (cs := [.bool _, .int .i64 _, .int .i64 _, .slice _ _ _]) Tryz.zeroValue29 Tryz.underlying29 (fun w => by simp [Tryz.sizeOf27, Tryz.sizeOf3, Tryz.sizeOf4]) (mp (v := .bool _) rfl (mp (v := .int .i64 _) rfl mp0)) rfl) ?_
  refine qe (d_call Tryz.call14 rfl (form_e p2 none 0 0 p2 0 _ _ hS.imm RSl.nilR (small_wf _ _ _ mid2 mid0) (by kernel_rfl))) ?_
  rintro _ w_44 ⟨I_f, a75, m75, c75, rfl, hE, h75⟩
  replace hS := hS.callE hE
  replace h60 := h60.mono hE.ext
  replace h61 := h61.mono hE.ext
  replace h65 := h65.mono hE.ext
  replace h70 := h70.mono hE.ext
  refine qq hS (g_move _) ?_
  refine qq hS (g_extract rfl rfl) ?_
  refine qq hS (g_extract (v := .int .i64 _) rfl rfl) ?_
  refine qe (d_alloc (cs := [.bool _, .int .i64 _, .int .i64 _, .slice _ _ _]) hS Tryz.zeroValue29 rfl) ?_
  clear hS
  rintro _ w_45 ⟨b10, rfl, hS⟩
  refine qe (d_store 0 hS Tryz.sizeOf29 rfl rfl rfl (vs := [.bool _, .int .i64 _, .int .i64 _, .slice _ _ _]) rfl rfl rfl (Nat.le_of_ble_eq_true rfl) (cs' := [_, _, _, _]) rfl) ?_
  clear hS
  rintro _ w_46 ⟨rfl, hS⟩
  refine qq hS (g_assignv (v := .int .i64 _) rfl) ?_
  refine ol_nil (thenN ?_)
  refine wpIn_seq ?_
  refine reg ?_
  refine qq hS (g_movev (v := .int .i64 _) rfl) ?_
  refine qq hS (g_eql rfl rfl) ?_
  refine qq hS (g_movev (v := .bool _) rfl) ?_
  refine qqs rfl rfl hS (g_movev (v := .int .i64 _) rfl) ?_
  refine qqs rfl rfl hS (g_eql rfl rfl) ?_
  refine qq hS (g_and rfl rfl (fun _ => rfl)) ?_
  refine qq hS (g_movev (v := .bool _) rfl) ?_
  refine qqs rfl rfl hS (g_movev (v := .int .i64 _) rfl) ?_
  refine qqs rfl rfl hS (g_eql rfl rfl) ?_
  refine qq hS (g_and rfl rfl (fun _ => rfl)) ?_
  refine qq hS (g_movev (v := .bool _) rfl) ?_
  refine qqs rfl rfl hS (g_movev (v := .int .i64 _) rfl) ?_
  refine qqs rfl rfl hS (g_eql rfl rfl) ?_
  refine qq hS (g_and rfl rfl (fun _ => rfl)) ?_
  refine qq hS (g_movev (v := .bool _) rfl) ?_
  refine qqs rfl rfl hS (g_ldO 0 (vs := [.bool _, .int .i64 _, .int .i64 _, .slice _ _ _]) Tryz.sizeOf29 Tryz.isAgg29 rfl rfl rfl rfl) ?_
  refine qqs rfl rfl hS (g_buildv (pl := [(0, 1), (1, 1), (2, 1), (3, 1)]) (cs := [.bool _, .int .i64 _, .int .i64 _, .slice _ _ _]) Tryz.zeroValue29 Tryz.underlying29 (fun w => by simp [Tryz.sizeOf27, Tryz.sizeOf3, Tryz.sizeOf4]) (mp (v := .bool _) rfl (mp (v := .int .i64 _) rfl mp0)) rfl) ?_
  refine qes rfl rfl (d_call Tryz.call40 rfl (sameR_e p2 p2 a75 none m75 c75 0 0 true _ _ hS.imm h75 (small_wf _ _ _ mid2 mid0) RSl.nilR (small_wf _ _ _ mid2 mid0) (by kernel_rfl))) ?_
  rintro _ w_47 ⟨rfl, hE⟩
  replace hS := hS.callE hE
  refine qq hS (g_and rfl rfl (fun _ => rfl)) ?_
  refine qq hS (g_assignv (v := .bool _) rfl) ?_
  refine ol_nil (thenN ?_)
  refine wpIn_seq ?_
  refine reg ?_
  refine qq hS (g_movev (v := .bool _) rfl) ?_
  refine qq hS (g_movev (v := .bool _) rfl) ?_
  refine qqs rfl rfl hS (g_movev (v := .bool _) rfl) ?_
  refine qq hS (g_and rfl rfl (fun _ => rfl)) ?_
  refine qq hS (g_movev (v := .bool _) rfl) ?_
  refine qqs rfl rfl hS (g_movev (v := .bool _) rfl) ?_
  refine qq hS (g_and rfl rfl (fun _ => rfl)) ?_
  refine qq hS (g_movev (v := .bool _) rfl) ?_
  refine qqs rfl rfl hS (g_movev (v := .bool _) rfl) ?_
  refine qq hS (g_and rfl rfl (fun _ => rfl)) ?_
  refine qq hS (g_movev (v := .bool _) rfl) ?_
  refine qqs rfl rfl hS (g_ldO 0 (vs := [.bool _, .int .i64 _, .int .i64 _, .slice _ _ _]) Tryz.sizeOf29 Tryz.isAgg29 rfl rfl rfl rfl) ?_
  refine qqs rfl rfl hS (g_ldO 0 (vs := [.bool _, .int .i64 _, .int .i64 _, .slice _ _ _]) Tryz.sizeOf29 Tryz.isAgg29 rfl rfl rfl rfl) ?_
  refine qes rfl rfl (d_call Tryz.call16 rfl (same_e p2 p2 a75 a75 m75 c75 m75 c75 true _ _ hS.imm h75 (small_wf _ _ _ mid2 mid0) h75 (small_wf _ _ _ mid2 mid0) (by kernel_rfl))) ?_
  rintro _ w_48 ⟨I_f, rfl, hE⟩
  replace hS := hS.callE hE
  replace h60 := h60.mono hE.ext
  replace h61 := h61.mono hE.ext
  replace h65 := h65.mono hE.ext
  replace h70 := h70.mono hE.ext
  replace h75 := h75.mono hE.ext
  refine qq hS (g_and rfl rfl (fun _ => rfl)) ?_
  refine qq hS (g_movev (v := .bool _) rfl) ?_
  refine qqs rfl rfl hS (g_ldO 0 (vs := [.bool _, .int .i64 _, .int .i64 _, .slice _ _ _]) Tryz.sizeOf29 Tryz.isAgg29 rfl rfl rfl rfl) ?_
  refine qqs rfl rfl hS (g_buildv (pl := [(0, 1), (1, 1), (2, 1), (3, 1)]) (cs := [.bool _, .int .i64 _, .int .i64 _, .slice _ _ _]) Tryz.zeroValue29 Tryz.underlying29 (fun w => by simp [Tryz.sizeOf27, Tryz.sizeOf3, Tryz.sizeOf4]) (mp (v := .int .i64 _) rfl mp0) rfl) ?_
  refine qes rfl rfl (d_call Tryz.call16 rfl (same_e p2 p3 a75 none m75 c75 0 0 false _ _ hS.imm h75 (small_wf _ _ _ mid2 mid0) RSl.nilR (small_wf _ _ _ mid2 mid0) (by kernel_rfl))) ?_
  rintro _ w_49 ⟨I_f, rfl, hE⟩
  replace hS := hS.callE hE
  replace h60 := h60.mono hE.ext
  replace h61 := h61.mono hE.ext
  replace h65 := h65.mono hE.ext
  replace h70 := h70.mono hE.ext
  replace h75 := h75.mono hE.ext
  refine qqs rfl rfl hS (g_not rfl) ?_
  refine qq hS (g_and rfl rfl (fun _ => rfl)) ?_
  refine qq hS (g_movev (v := .bool _) rfl) ?_
  refine qqs rfl rfl hS (g_buildv (pl := [(0, 1), (1, 1), (2, 1), (3, 1)]) (cs := [.bool _, .int .i64 _, .int .i64 _, .slice _ _ _]) Tryz.zeroValue29 Tryz.underlying29 (fun w => by simp [Tryz.sizeOf27, Tryz.sizeOf3, Tryz.sizeOf4]) (mp (v := .int .i64 _) rfl mp0) rfl) ?_
  refine qqs rfl rfl hS (g_buildv (pl := [(0, 1), (1, 1), (2, 1), (3, 1)]) (cs := [.bool _, .int .i64 _, .int .i64 _, .slice _ _ _]) Tryz.zeroValue29 Tryz.underlying29 (fun w => by simp [Tryz.sizeOf27, Tryz.sizeOf3, Tryz.sizeOf4]) (mp (v := .int .i64 _) rfl mp0) rfl) ?_
  refine qes rfl rfl (d_call Tryz.call16 rfl (same_e p1 p1 none none 0 0 0 0 false _ _ hS.imm RSl.nilR (small_wf _ _ _ mid0 mid1) RSl.nilR (small_wf _ _ _ mid0 mid1) (by kernel_rfl))) ?_
  rintro _ w_50 ⟨I_f, rfl, hE⟩
  replace hS := hS.callE hE
  replace h60 := h60.mono hE.ext
  replace h61 := h61.mono hE.ext
  replace h65 := h65.mono hE.ext
  replace h70 := h70.mono hE.ext
  replace h75 := h75.mono hE.ext
  refine qqs rfl rfl hS (g_not rfl) ?_
  refine qq hS (g_and rfl rfl (fun _ => rfl)) ?_
  refine qq hS (g_assignv (v := .bool _) rfl) ?_
  refine ol_nil (thenN ?_)
  refine wpIn_ret ?_
  refine ret1 Tryz.results12 (rv_tmp (v := .bool _) rfl) ?_
  exact ⟨_, rfl, hS.nil⟩

end Go.Proofs.YtodopmclnklgdaaGreat

