/- inlaylaw12.given and sanity. Conditions: none. -/
import Derived.Test.YtodopmclnklgdaaGreatKSplit
import Derived.Test.YtodopmclnklgdaaGreatSanity9
namespace Go.Proofs.YtodopmclnklgdaaGreat
open Go Go.RowKit Go.Inl
set_option linter.unusedSimpArgs false
set_option linter.unusedVariables false
theorem split_E (p : PatL) (l : List SecL) (A : List PatL × Int) (ad sd : Option Addr) (m cap n scap : Nat) (w0 : World) (I0 : Imm) (hI : Sat I0 w0) (hops : ROps I0 (.slice ad m cap) p.ops) (hp : p.wf) (ho : p.out ≤ 4096) (hl : RSecs I0 (.slice sd n scap) l) (hn : n = l.length) (hok : SecsOk l) (he : splitP p l = A) :
    Ctr Tryz.prog 43 [.agg #[.bool p.lifted, .int .i64 p.in_, .int .i64 p.out, .slice ad m cap], .slice sd n scap] w0 (fun v w' => ∃ I' a c, v = .tuple #[.slice a A.1.length c, .int .i64 A.2] ∧ Ext w0 I0 w' I' ∧ RPats I' (.slice a A.1.length c) A.1) := by
  subst hn he; exact split_c p l ad sd m cap scap w0 I0 hI hops hp ho hl hok
theorem sectors_E (p : PatL) (size : Int) (A : List PatL × Int) (ad : Option Addr) (m cap : Nat) (w0 : World) (I0 : Imm) (hI : Sat I0 w0) (hops : ROps I0 (.slice ad m cap) p.ops) (hp : p.wf) (ho : p.out ≤ 4096) (hs : Mid size) (he : sectorsP p size = A) :
    Ctr Tryz.prog 38 [.agg #[.bool p.lifted, .int .i64 p.in_, .int .i64 p.out, .slice ad m cap], .int .i64 size] w0 (fun v w' => ∃ I' a c, v = .tuple #[.slice a A.1.length c, .int .i64 A.2] ∧ Ext w0 I0 w' I' ∧ RPats I' (.slice a A.1.length c) A.1) := by
  subst he; exact sectors_c p size ad m cap w0 I0 hI hops hp ho hs
theorem join_E (l : List PatL) (C : PatL × Int) (ad : Option Addr) (m cap : Nat) (w0 : World) (I0 : Imm) (hI : Sat I0 w0) (hl : RPats I0 (.slice ad m cap) l) (hm : m = l.length) (hw : ∀ p ∈ l, p.wf) (hn : l.length ≤ 64) (he : joinP l = C) :
    Ctr Tryz.prog 39 [.slice ad m cap] w0 (fun v w' => ∃ I' a m c, v = .tuple #[.agg #[.bool C.1.lifted, .int .i64 C.1.in_, .int .i64 C.1.out, .slice a m c], .int .i64 C.2] ∧ Ext w0 I0 w' I' ∧ ROps I' (.slice a m c) C.1.ops) := by
  subst hm he; exact join_c ad cap l w0 I0 hI hl hw hn
theorem split_L (p : PatL) (l : List SecL) (A : List PatL) (e : Int) (k : Nat) (ad sd : Option Addr) (m cap n scap : Nat) (w0 : World) (I0 : Imm) (hI : Sat I0 w0) (hops : ROps I0 (.slice ad m cap) p.ops) (hp : p.wf) (ho : p.out ≤ 4096) (hl : RSecs I0 (.slice sd n scap) l) (hn : n = l.length) (hok : SecsOk l) (he : splitP p l = (A, e)) (hk : A.length = k) :
    Ctr Tryz.prog 43 [.agg #[.bool p.lifted, .int .i64 p.in_, .int .i64 p.out, .slice ad m cap], .slice sd n scap] w0 (fun v w' => ∃ I' a c, v = .tuple #[.slice a k c, .int .i64 e] ∧ Ext w0 I0 w' I' ∧ RPats I' (.slice a k c) A) := by
  subst hk; exact split_E p l (A, e) ad sd m cap n scap w0 I0 hI hops hp ho hl hn hok he
theorem sectors_L (p : PatL) (size : Int) (A : List PatL) (e : Int) (k : Nat) (ad : Option Addr) (m cap : Nat) (w0 : World) (I0 : Imm) (hI : Sat I0 w0) (hops : ROps I0 (.slice ad m cap) p.ops) (hp : p.wf) (ho : p.out ≤ 4096) (hs : Mid size) (he : sectorsP p size = (A, e)) (hk : A.length = k) :
    Ctr Tryz.prog 38 [.agg #[.bool p.lifted, .int .i64 p.in_, .int .i64 p.out, .slice ad m cap], .int .i64 size] w0 (fun v w' => ∃ I' a c, v = .tuple #[.slice a k c, .int .i64 e] ∧ Ext w0 I0 w' I' ∧ RPats I' (.slice a k c) A) := by
  subst hk; exact sectors_E p size (A, e) ad m cap w0 I0 hI hops hp ho hs he
theorem join_L (l : List PatL) (b : Bool) (i o : Int) (ops : List OpL) (e : Int) (ad : Option Addr) (m cap : Nat) (w0 : World) (I0 : Imm) (hI : Sat I0 w0) (hl : RPats I0 (.slice ad m cap) l) (hm : m = l.length) (hw : ∀ p ∈ l, p.wf) (hn : l.length ≤ 64) (he : joinP l = (⟨b, i, o, ops⟩, e)) :
    Ctr Tryz.prog 39 [.slice ad m cap] w0 (fun v w' => ∃ I' a m c, v = .tuple #[.agg #[.bool b, .int .i64 i, .int .i64 o, .slice a m c], .int .i64 e] ∧ Ext w0 I0 w' I' ∧ ROps I' (.slice a m c) ops) :=
  join_E l (⟨b, i, o, ops⟩, e) ad m cap w0 I0 hI hl hm hw hn he
theorem samePL_T (l : List PatL) (ad bd : Option Addr) (m n cap capb : Nat) (w0 : World) (I0 : Imm) (hI : Sat I0 w0) (ha : RPats I0 (.slice ad m cap) l) (hb : RPats I0 (.slice bd n capb) l) (hm : m = l.length) (hn : n = l.length) (hw : ∀ p ∈ l, p.wf) :
    Ctr Tryz.prog 77 [.slice ad m cap, .slice bd n capb] w0 (fun v w' => v = .bool true ∧ Ext w0 I0 w' I0) := by
  have h := samePL_c ad bd m n cap capb l l w0 I0 hI ha hb hm hn hw hw
  rw [samePL_refl] at h; exact h
theorem okPats {l : List PatL} (h : l.all okPat = true) : ∀ p ∈ l, p.wf := fun p hp => okPat_s (List.all_eq_true.1 h p hp)
theorem secsOk_one {s : SecL} (hn : NameOk s.name) (h0 : 0 ≤ s.from_) (h1 : s.from_ < s.to) (h2 : s.to ≤ 1000000) (hc : s.code = false) : SecsOk [s] := by
  refine ⟨by simp, ?_, ?_⟩
  · intro k t ht
    cases k with
    | zero => simp at ht; subst ht; exact ⟨hn, by simpa [lastTo] using h0, h1, h2, fun h => by rw [hc] at h; cases h⟩
    | succ k => simp at ht
  · intro i k a b hik ha hb
    cases k with
    | zero => omega
    | succ k => simp at hb
theorem secsOk_nil : SecsOk [] := ⟨by simp, by simp, by simp⟩
theorem nameX : NameOk ⟨#[120]⟩ := by
  refine ⟨by decide, by decide, fun i hi => ?_⟩
  have : i = 0 := by have : (⟨#[120]⟩ : ByteArray).size = 1 := rfl; omega
  subst this
  decide

theorem given_c (w0 : World) (I0 : Imm) (hI : Sat I0 w0) :
    Ctr Tryz.prog 76 [] w0 (fun v w' => ∃ I' a m c, v = .agg #[.bool false, .int .i64 3, .int .i64 5, .slice a m c] ∧ Ext w0 I0 w' I' ∧ ROps I' (.slice a m c) ((⟨false, 3, 5, [⟨1, 0, 3, 0, []⟩, ⟨4, 0, 2, 0, [7, 8]⟩]⟩ : PatL)).ops) := by
  refine fn (n := 6) Tryz.func76 rfl rfl rfl ?_
  have hS := St.start hI
  refine wpIn_seq ?_
  refine reg ?_
  refine qe (d_alloc (cs := [.bool _, .int .i64 _, .int .i64 _, .slice _ _ _]) hS Tryz.zeroValue29 rfl) ?_
  clear hS
  rintro _ w_1 ⟨b0, rfl, hS⟩
  refine ol_nil (thenN ?_)
  refine wpIn_seq ?_
  refine reg ?_
  refine qq hS (g_buildv (pl := [(0, 1), (1, 1), (2, 1), (3, 1), (4, 1)]) (cs := [.int .i64 _, .int .i64 _, .int .i64 _, .int .u8 _, .slice _ _ _]) Tryz.zeroValue85 Tryz.underlying85 (fun w => by simp [Tryz.sizeOf25, Tryz.sizeOf3, Tryz.sizeOf5]) (mp (v := .int .i64 _) rfl (mp (v := .int .i64 _) rfl mp0)) rfl) ?_
  refine qe (d_lit (vs := [.int .u8 _, .int .u8 _]) (cs := [.int .u8 _, .int .u8 _]) hS Tryz.underlying25 Tryz.sizeOf5 Tryz.zeroValue5 rfl rfl rfl rfl (fun v hv => by simp only [List.mem_cons, List.not_mem_nil, or_false] at hv; rcases hv with rfl | rfl <;> rfl) rfl) ?_
  clear hS
  rintro _ w_2 ⟨b2, rfl, hS⟩
  have hF := hS.freeze1
  clear hS
  obtain ⟨I2, hS, hI2, hb2⟩ := hF
  have h2 := RFl.ofAt byteC_len ([7, 8] : List Int) hb2 rfl (by decide)
  refine qq hS (g_buildv (pl := [(0, 1), (1, 1), (2, 1), (3, 1), (4, 1)]) (cs := [.int .i64 _, .int .i64 _, .int .i64 _, .int .u8 _, .slice _ _ _]) Tryz.zeroValue85 Tryz.underlying85 (fun w => by simp [Tryz.sizeOf25, Tryz.sizeOf3, Tryz.sizeOf5]) (mp (v := .int .i64 _) rfl (mp (v := .int .i64 _) rfl (mp rfl mp0))) rfl) ?_
  refine qe (d_lit (vs := [.agg #[.int .i64 _, .int .i64 _, .int .i64 _, .int .u8 _, .slice _ _ _], .agg #[.int .i64 _, .int .i64 _, .int .i64 _, .int .u8 _, .slice _ _ _]]) (cs := [.int .i64 _, .int .i64 _, .int .i64 _, .int .u8 _, .slice _ _ _, .int .i64 _, .int .i64 _, .int .i64 _, .int .u8 _, .slice _ _ _]) hS Tryz.underlying27 Tryz.sizeOf85 Tryz.zeroValue85 rfl rfl rfl rfl (fun v hv => by simp only [List.mem_cons, List.not_mem_nil, or_false] at hv; rcases hv with rfl | rfl <;> rfl) rfl) ?_
  clear hS
  rintro _ w_3 ⟨b4, rfl, hS⟩
  have hF := hS.freeze1
  clear hS
  obtain ⟨I4, hS, hI4, hb4⟩ := hF
  replace h2 := h2.mono hI4
  have h4 : ROps _ (.slice (some ⟨b4, 0, none⟩) 2 2) [⟨1, 0, 3, 0, []⟩, ⟨4, 0, 2, 0, [7, 8]⟩] := RSl.ofAt (css := [[.int .i64 1, .int .i64 0, .int .i64 3, .int .u8 0, .slice none 0 0], [.int .i64 4, .int .i64 0, .int .i64 2, .int .u8 0, .slice (some ⟨b2, 0, none⟩) 2 2]]) hb4 rfl (by simp) (All2.cons ⟨_, _, _, rfl, RFl.nil⟩ (All2.cons ⟨_, _, _, rfl, h2⟩ (All2.nil _))) rfl (by decide)
  refine qq hS (g_buildv (pl := [(0, 1), (1, 1), (2, 1), (3, 1)]) (cs := [.bool _, .int .i64 _, .int .i64 _, .slice _ _ _]) Tryz.zeroValue29 Tryz.underlying29 (fun w => by simp [Tryz.sizeOf27, Tryz.sizeOf3, Tryz.sizeOf4]) (mp (v := .int .i64 _) rfl (mp (v := .int .i64 _) rfl (mp rfl mp0))) rfl) ?_
  refine qe (d_store 0 hS Tryz.sizeOf29 rfl rfl rfl (vs := [.bool _, .int .i64 _, .int .i64 _, .slice _ _ _]) rfl rfl rfl (Nat.le_of_ble_eq_true rfl) (cs' := [_, _, _, _]) rfl) ?_
  clear hS
  rintro _ w_4 ⟨rfl, hS⟩
  refine ol_nil (thenN ?_)
  refine wpIn_ret ?_
  refine ret1 Tryz.results76 (rv_cel 0 hS Tryz.sizeOf29 Tryz.isAgg29 rfl rfl rfl) ?_
  exact ⟨_, _, _, _, rfl, hS.nil, h4⟩

set_option maxRecDepth 20000 in
set_option maxHeartbeats 4000000 in
theorem sanity12_c (w0 : World) (I0 : Imm) (hI : Sat I0 w0) :
    Ctr Tryz.prog 37 [] w0 (fun v w' => ∃ I', v = .bool true ∧ Ext w0 I0 w' I') := by
  refine fn (n := 106) Tryz.func37 rfl rfl rfl ?_
  have hS := St.start hI
  refine wpIn_seq ?_
  refine reg ?_
  refine qq hS (g_assignv (v := .bool _) rfl) ?_
  refine ol_nil (thenN ?_)
  refine wpIn_seq ?_
  refine reg ?_
  refine qe (d_call Tryz.call76 rfl (given_c _ _ hS.imm)) ?_
  rintro _ w_1 ⟨I_f, a16, m16, c16, rfl, hE, h16⟩
  replace hS := hS.callE hE
  refine qe (d_alloc (cs := [.bool _, .int .i64 _, .int .i64 _, .slice _ _ _]) hS Tryz.zeroValue29 rfl) ?_
  clear hS
  rintro _ w_2 ⟨b1, rfl, hS⟩
  refine qe (d_store 0 hS Tryz.sizeOf29 rfl rfl rfl (vs := [.bool _, .int .i64 _, .int .i64 _, .slice _ _ _]) rfl rfl rfl (Nat.le_of_ble_eq_true rfl) (cs' := [_, _, _, _]) rfl) ?_
  clear hS
  rintro _ w_3 ⟨rfl, hS⟩
  refine ol_nil (thenN ?_)
  refine wpIn_seq ?_
  refine reg ?_
  refine qq hS (g_ldO 0 (vs := [.bool _, .int .i64 _, .int .i64 _, .slice _ _ _]) Tryz.sizeOf29 Tryz.isAgg29 rfl rfl rfl rfl) ?_
  refine qe (d_call Tryz.call38 rfl (sectors_L (⟨false, 3, 5, [⟨1, 0, 3, 0, []⟩, ⟨4, 0, 2, 0, [7, 8]⟩]⟩ : PatL) 2 [(⟨false, 3, 2, [⟨1, 0, 2, 0, []⟩]⟩ : PatL), (⟨false, 3, 2, [⟨1, 2, 1, 0, []⟩, ⟨4, 0, 1, 0, [7]⟩]⟩ : PatL), (⟨false, 3, 1, [⟨4, 0, 1, 0, [8]⟩]⟩ : PatL)] 0 3 _ _ _ _ _ hS.imm h16 (okPat_s (by kernel_rfl)) (by decide) (by unfold Mid; omega) (by kernel_rfl) rfl)) ?_
  rintro _ w_4 ⟨I_f, a19, c19, rfl, hE, h19⟩
  replace hS := hS.callE hE
  replace h16 := h16.mono hE.ext
  refine qq hS (g_move _) ?_
  refine qq hS (g_extract rfl rfl) ?_
  refine qq hS (g_extract (v := .int .i64 _) rfl rfl) ?_
  refine qq hS (g_assign _) ?_
  refine qq hS (g_assignv (v := .int .i64 _) rfl) ?_
  refine ol_nil (thenN ?_)
  refine wpIn_seq ?_
  refine reg ?_
  refine qq hS (g_ldO 0 (vs := [.bool _, .int .i64 _, .int .i64 _, .slice _ _ _]) Tryz.sizeOf29 Tryz.isAgg29 rfl rfl rfl rfl) ?_
  refine qq hS (g_buildv (pl := [(0, 1), (1, 1), (2, 1), (3, 1)]) (cs := [.string _, .int .i64 _, .int .i64 _, .bool _]) Tryz.zeroValue77 Tryz.underlying77 (fun w => by simp [Tryz.sizeOf3, Tryz.sizeOf4, Tryz.sizeOf9]) (mp rfl (mp (v := .int .i64 _) rfl (mp (v := .int .i64 _) rfl mp0))) rfl) ?_
  refine qe (d_lit (vs := [.agg #[.string _, .int .i64 _, .int .i64 _, .bool _]]) (cs := [.string _, .int .i64 _, .int .i64 _, .bool _]) hS Tryz.underlying73 Tryz.sizeOf77 Tryz.zeroValue77 rfl rfl rfl rfl (fun v hv => by simp only [List.mem_cons, List.not_mem_nil, or_false] at hv; subst hv; rfl) rfl) ?_
  clear hS
  rintro _ w_5 ⟨b25, rfl, hS⟩
  have hF := hS.freeze1
  clear hS
  obtain ⟨I25, hS, hI25, hb25⟩ := hF
  replace h16 := h16.mono hI25
  replace h19 := h19.mono hI25
  have h25 : RSecs _ (.slice (some ⟨b25, 0, none⟩) 1 1) [⟨⟨#[120]⟩, 1, 4, false⟩] := RFl.ofAt secC_len [⟨⟨#[120]⟩, 1, 4, false⟩] hb25 rfl (by show 1 ≤ maxLen; decide)
  refine qe (d_call Tryz.call43 rfl (split_L (⟨false, 3, 5, [⟨1, 0, 3, 0, []⟩, ⟨4, 0, 2, 0, [7, 8]⟩]⟩ : PatL) [⟨⟨#[120]⟩, 1, 4, false⟩] [(⟨false, 3, 3, [⟨1, 1, 2, 0, []⟩, ⟨4, 0, 1, 0, [7]⟩]⟩ : PatL)] 0 1 _ _ _ _ _ _ _ _ hS.imm h16 (okPat_s (by kernel_rfl)) (by decide) h25 rfl (secsOk_one nameX (by decide) (by decide) (by decide) rfl) (by kernel_rfl) rfl)) ?_
  rintro _ w_6 ⟨I_f, a26, c26, rfl, hE, h26⟩
  replace hS := hS.callE hE
  replace h16 := h16.mono hE.ext
  replace h19 := h19.mono hE.ext
  replace h25 := h25.mono hE.ext
  refine qq hS (g_move _) ?_
  refine qq hS (g_extract rfl rfl) ?_
  refine qq hS (g_extract (v := .int .i64 _) rfl rfl) ?_
  refine qq hS (g_assign _) ?_
  refine qq hS (g_assignv (v := .int .i64 _) rfl) ?_
  refine ol_nil (thenN ?_)
  refine wpIn_seq ?_
  refine reg ?_
  refine qq hS (g_ldO 0 (vs := [.bool _, .int .i64 _, .int .i64 _, .slice _ _ _]) Tryz.sizeOf29 Tryz.isAgg29 rfl rfl rfl rfl) ?_
  refine qq hS (g_buildv (pl := [(0, 1), (1, 1), (2, 1), (3, 1)]) (cs := [.string _, .int .i64 _, .int .i64 _, .bool _]) Tryz.zeroValue77 Tryz.underlying77 (fun w => by simp [Tryz.sizeOf3, Tryz.sizeOf4, Tryz.sizeOf9]) (mp rfl (mp (v := .int .i64 _) rfl (mp (v := .int .i64 _) rfl mp0))) rfl) ?_
  refine qe (d_lit (vs := [.agg #[.string _, .int .i64 _, .int .i64 _, .bool _]]) (cs := [.string _, .int .i64 _, .int .i64 _, .bool _]) hS Tryz.underlying73 Tryz.sizeOf77 Tryz.zeroValue77 rfl rfl rfl rfl (fun v hv => by simp only [List.mem_cons, List.not_mem_nil, or_false] at hv; subst hv; rfl) rfl) ?_
  clear hS
  rintro _ w_7 ⟨b32, rfl, hS⟩
  have hF := hS.freeze1
  clear hS
  obtain ⟨I32, hS, hI32, hb32⟩ := hF
  replace h16 := h16.mono hI32
  replace h19 := h19.mono hI32
  replace h25 := h25.mono hI32
  replace h26 := h26.mono hI32
  have h32 : RSecs _ (.slice (some ⟨b32, 0, none⟩) 1 1) [⟨⟨#[120]⟩, 4, 6, false⟩] := RFl.ofAt secC_len [⟨⟨#[120]⟩, 4, 6, false⟩] hb32 rfl (by show 1 ≤ maxLen; decide)
  refine qe (d_call Tryz.call43 rfl (split_L (⟨false, 3, 5, [⟨1, 0, 3, 0, []⟩, ⟨4, 0, 2, 0, [7, 8]⟩]⟩ : PatL) [⟨⟨#[120]⟩, 4, 6, false⟩] [] 120 0 _ _ _ _ _ _ _ _ hS.imm h16 (okPat_s (by kernel_rfl)) (by decide) h32 rfl (secsOk_one nameX (by decide) (by decide) (by decide) rfl) (by kernel_rfl) rfl)) ?_
  rintro _ w_8 ⟨I_f, a33, c33, rfl, hE, h33⟩
  replace hS := hS.callE hE
  replace h16 := h16.mono hE.ext
  replace h19 := h19.mono hE.ext
  replace h25 := h25.mono hE.ext
  replace h26 := h26.mono hE.ext
  replace h32 := h32.mono hE.ext
  refine qq hS (g_move _) ?_
  refine qq hS (g_extract rfl rfl) ?_
  refine qq hS (g_extract (v := .int .i64 _) rfl rfl) ?_
  refine qq hS (g_assign _) ?_
  refine qq hS (g_assignv (v := .int .i64 _) rfl) ?_
  refine ol_nil (thenN ?_)
  refine wpIn_seq ?_
  refine reg ?_
  refine qq hS (g_ldO 0 (vs := [.bool _, .int .i64 _, .int .i64 _, .slice _ _ _]) Tryz.sizeOf29 Tryz.isAgg29 rfl rfl rfl rfl) ?_
  refine qe (d_call Tryz.call38 rfl (sectors_L (⟨false, 3, 5, [⟨1, 0, 3, 0, []⟩, ⟨4, 0, 2, 0, [7, 8]⟩]⟩ : PatL) 0 [] 1 0 _ _ _ _ _ hS.imm h16 (okPat_s (by kernel_rfl)) (by decide) (by unfold Mid; omega) (by kernel_rfl) rfl)) ?_
  rintro _ w_9 ⟨I_f, a38, c38, rfl, hE, h38⟩
  replace hS := hS.callE hE
  replace h16 := h16.mono hE.ext
  replace h19 := h19.mono hE.ext
  replace h25 := h25.mono hE.ext
  replace h26 := h26.mono hE.ext
  replace h32 := h32.mono hE.ext
  replace h33 := h33.mono hE.ext
  refine qq hS (g_move _) ?_
  refine qq hS (g_extract rfl rfl) ?_
  refine qq hS (g_extract (v := .int .i64 _) rfl rfl) ?_
  refine qq hS (g_assign _) ?_
  refine qq hS (g_assignv (v := .int .i64 _) rfl) ?_
  refine ol_nil (thenN ?_)
  refine wpIn_seq ?_
  refine reg ?_
  refine qe (d_call Tryz.call39 rfl (join_L [] false 0 0 [] 1 none 0 0 _ _ hS.imm RSl.nilR rfl (by simp) (by decide) (by kernel_rfl))) ?_
  rintro _ w_10 ⟨I_f, a42, m42, c42, rfl, hE, h42⟩
  replace hS := hS.callE hE
  replace h16 := h16.mono hE.ext
  replace h19 := h19.mono hE.ext
  replace h25 := h25.mono hE.ext
  replace h26 := h26.mono hE.ext
  replace h32 := h32.mono hE.ext
  replace h33 := h33.mono hE.ext
  replace h38 := h38.mono hE.ext
  refine qq hS (g_move _) ?_
  refine qq hS (g_extract rfl rfl) ?_
  refine qq hS (g_extract (v := .int .i64 _) rfl rfl) ?_
  refine qe (d_alloc (cs := [.bool _, .int .i64 _, .int .i64 _, .slice _ _ _]) hS Tryz.zeroValue29 rfl) ?_
  clear hS
  rintro _ w_11 ⟨b10, rfl, hS⟩
  refine qe (d_store 0 hS Tryz.sizeOf29 rfl rfl rfl (vs := [.bool _, .int .i64 _, .int .i64 _, .slice _ _ _]) rfl rfl rfl (Nat.le_of_ble_eq_true rfl) (cs' := [_, _, _, _]) rfl) ?_
  clear hS
  rintro _ w_12 ⟨rfl, hS⟩
  refine qq hS (g_assignv (v := .int .i64 _) rfl) ?_
  refine ol_nil (thenN ?_)
  refine wpIn_seq ?_
  refine reg ?_
  refine qq hS (g_buildv (pl := [(0, 1), (1, 1), (2, 1), (3, 1), (4, 1)]) (cs := [.int .i64 _, .int .i64 _, .int .i64 _, .int .u8 _, .slice _ _ _]) Tryz.zeroValue85 Tryz.underlying85 (fun w => by simp [Tryz.sizeOf25, Tryz.sizeOf3, Tryz.sizeOf5]) (mp (v := .int .i64 _) rfl (mp (v := .int .i64 _) rfl mp0)) rfl) ?_
  refine qe (d_lit (vs := [.agg #[.int .i64 _, .int .i64 _, .int .i64 _, .int .u8 _, .slice _ _ _]]) (cs := [.int .i64 _, .int .i64 _, .int .i64 _, .int .u8 _, .slice _ _ _]) hS Tryz.underlying27 Tryz.sizeOf85 Tryz.zeroValue85 rfl rfl rfl rfl (fun v hv => by simp only [List.mem_cons, List.not_mem_nil, or_false] at hv; subst hv; rfl) rfl) ?_
  clear hS
  rintro _ w_13 ⟨b46, rfl, hS⟩
  have hF := hS.freeze1
  clear hS
  obtain ⟨I46, hS, hI46, hb46⟩ := hF
  replace h16 := h16.mono hI46
  replace h19 := h19.mono hI46
  replace h25 := h25.mono hI46
  replace h26 := h26.mono hI46
  replace h32 := h32.mono hI46
  replace h33 := h33.mono hI46
  replace h38 := h38.mono hI46
  replace h42 := h42.mono hI46
  have h46 : ROps _ (.slice (some ⟨b46, 0, none⟩) 1 1) [⟨1, 0, 2, 0, []⟩] := RSl.ofAt (css := [[.int .i64 1, .int .i64 0, .int .i64 2, .int .u8 0, .slice none 0 0]]) hb46 rfl (by simp) (All2.cons ⟨_, _, _, rfl, RFl.nil⟩ (All2.nil _)) rfl (by decide)
  refine qq hS (g_buildv (pl := [(0, 1), (1, 1), (2, 1), (3, 1)]) (cs := [.bool _, .int .i64 _, .int .i64 _, .slice _ _ _]) Tryz.zeroValue29 Tryz.underlying29 (fun w => by simp [Tryz.sizeOf27, Tryz.sizeOf3, Tryz.sizeOf4]) (mp (v := .int .i64 _) rfl (mp (v := .int .i64 _) rfl (mp rfl mp0))) rfl) ?_
  refine qq hS (g_buildv (pl := [(0, 1), (1, 1), (2, 1), (3, 1), (4, 1)]) (cs := [.int .i64 _, .int .i64 _, .int .i64 _, .int .u8 _, .slice _ _ _]) Tryz.zeroValue85 Tryz.underlying85 (fun w => by simp [Tryz.sizeOf25, Tryz.sizeOf3, Tryz.sizeOf5]) (mp (v := .int .i64 _) rfl (mp (v := .int .i64 _) rfl (mp (v := .int .i64 _) rfl mp0))) rfl) ?_
  refine qe (d_lit (vs := [.int .u8 _]) (cs := [.int .u8 _]) hS Tryz.underlying25 Tryz.sizeOf5 Tryz.zeroValue5 rfl rfl rfl rfl (fun v hv => by simp only [List.mem_cons, List.not_mem_nil, or_false] at hv; subst hv; rfl) rfl) ?_
  clear hS
  rintro _ w_14 ⟨b49, rfl, hS⟩
  have hF := hS.freeze1
  clear hS
  obtain ⟨I49, hS, hI49, hb49⟩ := hF
  replace h16 := h16.mono hI49
  replace h19 := h19.mono hI49
  replace h25 := h25.mono hI49
  replace h26 := h26.mono hI49
  replace h32 := h32.mono hI49
  replace h33 := h33.mono hI49
  replace h38 := h38.mono hI49
  replace h42 := h42.mono hI49
  replace h46 := h46.mono hI49
  have h49 := RFl.ofAt byteC_len ([7] : List Int) hb49 rfl (by decide)
  refine qq hS (g_buildv (pl := [(0, 1), (1, 1), (2, 1), (3, 1), (4, 1)]) (cs := [.int .i64 _, .int .i64 _, .int .i64 _, .int .u8 _, .slice _ _ _]) Tryz.zeroValue85 Tryz.underlying85 (fun w => by simp [Tryz.sizeOf25, Tryz.sizeOf3, Tryz.sizeOf5]) (mp (v := .int .i64 _) rfl (mp (v := .int .i64 _) rfl (mp rfl mp0))) rfl) ?_
  refine qe (d_lit (vs := [.agg #[.int .i64 _, .int .i64 _, .int .i64 _, .int .u8 _, .slice _ _ _], .agg #[.int .i64 _, .int .i64 _, .int .i64 _, .int .u8 _, .slice _ _ _]]) (cs := [.int .i64 _, .int .i64 _, .int .i64 _, .int .u8 _, .slice _ _ _, .int .i64 _, .int .i64 _, .int .i64 _, .int .u8 _, .slice _ _ _]) hS Tryz.underlying27 Tryz.sizeOf85 Tryz.zeroValue85 rfl rfl rfl rfl (fun v hv => by simp only [List.mem_cons, List.not_mem_nil, or_false] at hv; rcases hv with rfl | rfl <;> rfl) rfl) ?_
  clear hS
  rintro _ w_15 ⟨b51, rfl, hS⟩
  have hF := hS.freeze1
  clear hS
  obtain ⟨I51, hS, hI51, hb51⟩ := hF
  replace h16 := h16.mono hI51
  replace h19 := h19.mono hI51
  replace h25 := h25.mono hI51
  replace h26 := h26.mono hI51
  replace h32 := h32.mono hI51
  replace h33 := h33.mono hI51
  replace h38 := h38.mono hI51
  replace h42 := h42.mono hI51
  replace h46 := h46.mono hI51
  replace h49 := h49.mono hI51
  have h51 : ROps _ (.slice (some ⟨b51, 0, none⟩) 2 2) [⟨1, 2, 1, 0, []⟩, ⟨4, 0, 1, 0, [7]⟩] := RSl.ofAt (css := [[.int .i64 1, .int .i64 2, .int .i64 1, .int .u8 0, .slice none 0 0], [.int .i64 4, .int .i64 0, .int .i64 1, .int .u8 0, .slice (some ⟨b49, 0, none⟩) 1 1]]) hb51 rfl (by simp) (All2.cons ⟨_, _, _, rfl, RFl.nil⟩ (All2.cons ⟨_, _, _, rfl, h49⟩ (All2.nil _))) rfl (by decide)
  refine qq hS (g_buildv (pl := [(0, 1), (1, 1), (2, 1), (3, 1)]) (cs := [.bool _, .int .i64 _, .int .i64 _, .slice _ _ _]) Tryz.zeroValue29 Tryz.underlying29 (fun w => by simp [Tryz.sizeOf27, Tryz.sizeOf3, Tryz.sizeOf4]) (mp (v := .int .i64 _) rfl (mp (v := .int .i64 _) rfl (mp rfl mp0))) rfl) ?_
  refine qe (d_lit (vs := [.int .u8 _]) (cs := [.int .u8 _]) hS Tryz.underlying25 Tryz.sizeOf5 Tryz.zeroValue5 rfl rfl rfl rfl (fun v hv => by simp only [List.mem_cons, List.not_mem_nil, or_false] at hv; subst hv; rfl) rfl) ?_
  clear hS
  rintro _ w_16 ⟨b53, rfl, hS⟩
  have hF := hS.freeze1
  clear hS
  obtain ⟨I53, hS, hI53, hb53⟩ := hF
  replace h16 := h16.mono hI53
  replace h19 := h19.mono hI53
  replace h25 := h25.mono hI53
  replace h26 := h26.mono hI53
  replace h32 := h32.mono hI53
  replace h33 := h33.mono hI53
  replace h38 := h38.mono hI53
  replace h42 := h42.mono hI53
  replace h46 := h46.mono hI53
  replace h49 := h49.mono hI53
  replace h51 := h51.mono hI53
  have h53 := RFl.ofAt byteC_len ([8] : List Int) hb53 rfl (by decide)
  refine qq hS (g_buildv (pl := [(0, 1), (1, 1), (2, 1), (3, 1), (4, 1)]) (cs := [.int .i64 _, .int .i64 _, .int .i64 _, .int .u8 _, .slice _ _ _]) Tryz.zeroValue85 Tryz.underlying85 (fun w => by simp [Tryz.sizeOf25, Tryz.sizeOf3, Tryz.sizeOf5]) (mp (v := .int .i64 _) rfl (mp (v := .int .i64 _) rfl (mp rfl mp0))) rfl) ?_
  refine qe (d_lit (vs := [.agg #[.int .i64 _, .int .i64 _, .int .i64 _, .int .u8 _, .slice _ _ _]]) (cs := [.int .i64 _, .int .i64 _, .int .i64 _, .int .u8 _, .slice _ _ _]) hS Tryz.underlying27 Tryz.sizeOf85 Tryz.zeroValue85 rfl rfl rfl rfl (fun v hv => by simp only [List.mem_cons, List.not_mem_nil, or_false] at hv; subst hv; rfl) rfl) ?_
  clear hS
  rintro _ w_17 ⟨b55, rfl, hS⟩
  have hF := hS.freeze1
  clear hS
  obtain ⟨I55, hS, hI55, hb55⟩ := hF
  replace h16 := h16.mono hI55
  replace h19 := h19.mono hI55
  replace h25 := h25.mono hI55
  replace h26 := h26.mono hI55
  replace h32 := h32.mono hI55
  replace h33 := h33.mono hI55
  replace h38 := h38.mono hI55
  replace h42 := h42.mono hI55
  replace h46 := h46.mono hI55
  replace h49 := h49.mono hI55
  replace h51 := h51.mono hI55
  replace h53 := h53.mono hI55
  have h55 : ROps _ (.slice (some ⟨b55, 0, none⟩) 1 1) [⟨4, 0, 1, 0, [8]⟩] := RSl.ofAt (css := [[.int .i64 4, .int .i64 0, .int .i64 1, .int .u8 0, .slice (some ⟨b53, 0, none⟩) 1 1]]) hb55 rfl (by simp) (All2.cons ⟨_, _, _, rfl, h53⟩ (All2.nil _)) rfl (by decide)
  refine qq hS (g_buildv (pl := [(0, 1), (1, 1), (2, 1), (3, 1)]) (cs := [.bool _, .int .i64 _, .int .i64 _, .slice _ _ _]) Tryz.zeroValue29 Tryz.underlying29 (fun w => by simp [Tryz.sizeOf27, Tryz.sizeOf3, Tryz.sizeOf4]) (mp (v := .int .i64 _) rfl (mp (v := .int .i64 _) rfl (mp rfl mp0))) rfl) ?_
  refine qe (d_lit (vs := [.agg #[.bool _, .int .i64 _, .int .i64 _, .slice _ _ _], .agg #[.bool _, .int .i64 _, .int .i64 _, .slice _ _ _], .agg #[.bool _, .int .i64 _, .int .i64 _, .slice _ _ _]]) (cs := [.bool _, .int .i64 _, .int .i64 _, .slice _ _ _, .bool _, .int .i64 _, .int .i64 _, .slice _ _ _, .bool _, .int .i64 _, .int .i64 _, .slice _ _ _]) hS Tryz.underlying42 Tryz.sizeOf29 Tryz.zeroValue29 rfl rfl rfl rfl (fun v hv => by simp only [List.mem_cons, List.not_mem_nil, or_false] at hv; rcases hv with rfl | rfl | rfl <;> rfl) rfl) ?_
  clear hS
  rintro _ w_18 ⟨b57, rfl, hS⟩
  have hF := hS.freeze1
  clear hS
  obtain ⟨I57, hS, hI57, hb57⟩ := hF
  replace h16 := h16.mono hI57
  replace h19 := h19.mono hI57
  replace h25 := h25.mono hI57
  replace h26 := h26.mono hI57
  replace h32 := h32.mono hI57
  replace h33 := h33.mono hI57
  replace h38 := h38.mono hI57
  replace h42 := h42.mono hI57
  replace h46 := h46.mono hI57
  replace h49 := h49.mono hI57
  replace h51 := h51.mono hI57
  replace h53 := h53.mono hI57
  replace h55 := h55.mono hI57
  have h57 : RPats _ (.slice (some ⟨b57, 0, none⟩) 3 3) [(⟨false, 3, 2, [⟨1, 0, 2, 0, []⟩]⟩ : PatL), (⟨false, 3, 2, [⟨1, 2, 1, 0, []⟩, ⟨4, 0, 1, 0, [7]⟩]⟩ : PatL), (⟨false, 3, 1, [⟨4, 0, 1, 0, [8]⟩]⟩ : PatL)] := RSl.ofAt (css := [[.bool false, .int .i64 3, .int .i64 2, .slice (some ⟨b46, 0, none⟩) 1 1], [.bool false, .int .i64 3, .int .i64 2, .slice (some ⟨b51, 0, none⟩) 2 2], [.bool false, .int .i64 3, .int .i64 1, .slice (some ⟨b55, 0, none⟩) 1 1]]) hb57 rfl (by simp) (All2.cons ⟨_, _, _, rfl, h46⟩ (All2.cons ⟨_, _, _, rfl, h51⟩ (All2.cons ⟨_, _, _, rfl, h55⟩ (All2.nil _)))) rfl (by show 3 ≤ maxLen; decide)
  refine qq hS (g_assign _) ?_
  refine ol_nil (thenN ?_)
  refine wpIn_seq ?_
  refine reg ?_
  refine qq hS (g_move _) ?_
  refine qe (d_call Tryz.call39 rfl (join_L [(⟨false, 3, 2, [⟨1, 0, 2, 0, []⟩]⟩ : PatL), (⟨false, 3, 2, [⟨1, 2, 1, 0, []⟩, ⟨4, 0, 1, 0, [7]⟩]⟩ : PatL), (⟨false, 3, 1, [⟨4, 0, 1, 0, [8]⟩]⟩ : PatL)] false 3 5 [⟨1, 0, 3, 0, []⟩, ⟨4, 0, 2, 0, [7, 8]⟩] 0 _ _ _ _ _ hS.imm h57 rfl (okPats (by kernel_rfl)) (by decide) (by kernel_rfl))) ?_
  rintro _ w_19 ⟨I_f, a60, m60, c60, rfl, hE, h60⟩
  replace hS := hS.callE hE
  replace h16 := h16.mono hE.ext
  replace h19 := h19.mono hE.ext
  replace h25 := h25.mono hE.ext
  replace h26 := h26.mono hE.ext
  replace h32 := h32.mono hE.ext
  replace h33 := h33.mono hE.ext
  replace h38 := h38.mono hE.ext
  replace h42 := h42.mono hE.ext
  replace h46 := h46.mono hE.ext
  replace h49 := h49.mono hE.ext
  replace h51 := h51.mono hE.ext
  replace h53 := h53.mono hE.ext
  replace h55 := h55.mono hE.ext
  replace h57 := h57.mono hE.ext
  refine qq hS (g_move _) ?_
  refine qq hS (g_extract rfl rfl) ?_
  refine qq hS (g_extract (v := .int .i64 _) rfl rfl) ?_
  refine qe (d_alloc (cs := [.bool _, .int .i64 _, .int .i64 _, .slice _ _ _]) hS Tryz.zeroValue29 rfl) ?_
  clear hS
  rintro _ w_20 ⟨b13, rfl, hS⟩
  refine qe (d_store 0 hS Tryz.sizeOf29 rfl rfl rfl (vs := [.bool _, .int .i64 _, .int .i64 _, .slice _ _ _]) rfl rfl rfl (Nat.le_of_ble_eq_true rfl) (cs' := [_, _, _, _]) rfl) ?_
  clear hS
  rintro _ w_21 ⟨rfl, hS⟩
  refine qq hS (g_assignv (v := .int .i64 _) rfl) ?_
  refine ol_nil (thenN ?_)
  refine wpIn_seq ?_
  refine reg ?_
  refine qq hS (g_buildv (pl := [(0, 1), (1, 1), (2, 1), (3, 1), (4, 1)]) (cs := [.int .i64 _, .int .i64 _, .int .i64 _, .int .u8 _, .slice _ _ _]) Tryz.zeroValue85 Tryz.underlying85 (fun w => by simp [Tryz.sizeOf25, Tryz.sizeOf3, Tryz.sizeOf5]) (mp (v := .int .i64 _) rfl (mp (v := .int .i64 _) rfl (mp (v := .int .i64 _) rfl mp0))) rfl) ?_
  refine qe (d_lit (vs := [.int .u8 _]) (cs := [.int .u8 _]) hS Tryz.underlying25 Tryz.sizeOf5 Tryz.zeroValue5 rfl rfl rfl rfl (fun v hv => by simp only [List.mem_cons, List.not_mem_nil, or_false] at hv; subst hv; rfl) rfl) ?_
  clear hS
  rintro _ w_22 ⟨b64, rfl, hS⟩
  have hF := hS.freeze1
  clear hS
  obtain ⟨I64, hS, hI64, hb64⟩ := hF
  replace h16 := h16.mono hI64
  replace h19 := h19.mono hI64
  replace h25 := h25.mono hI64
  replace h26 := h26.mono hI64
  replace h32 := h32.mono hI64
  replace h33 := h33.mono hI64
  replace h38 := h38.mono hI64
  replace h42 := h42.mono hI64
  replace h46 := h46.mono hI64
  replace h49 := h49.mono hI64
  replace h51 := h51.mono hI64
  replace h53 := h53.mono hI64
  replace h55 := h55.mono hI64
  replace h57 := h57.mono hI64
  replace h60 := h60.mono hI64
  have h64 := RFl.ofAt byteC_len ([7] : List Int) hb64 rfl (by decide)
  refine qq hS (g_buildv (pl := [(0, 1), (1, 1), (2, 1), (3, 1), (4, 1)]) (cs := [.int .i64 _, .int .i64 _, .int .i64 _, .int .u8 _, .slice _ _ _]) Tryz.zeroValue85 Tryz.underlying85 (fun w => by simp [Tryz.sizeOf25, Tryz.sizeOf3, Tryz.sizeOf5]) (mp (v := .int .i64 _) rfl (mp (v := .int .i64 _) rfl (mp rfl mp0))) rfl) ?_
  refine qe (d_lit (vs := [.agg #[.int .i64 _, .int .i64 _, .int .i64 _, .int .u8 _, .slice _ _ _], .agg #[.int .i64 _, .int .i64 _, .int .i64 _, .int .u8 _, .slice _ _ _]]) (cs := [.int .i64 _, .int .i64 _, .int .i64 _, .int .u8 _, .slice _ _ _, .int .i64 _, .int .i64 _, .int .i64 _, .int .u8 _, .slice _ _ _]) hS Tryz.underlying27 Tryz.sizeOf85 Tryz.zeroValue85 rfl rfl rfl rfl (fun v hv => by simp only [List.mem_cons, List.not_mem_nil, or_false] at hv; rcases hv with rfl | rfl <;> rfl) rfl) ?_
  clear hS
  rintro _ w_23 ⟨b66, rfl, hS⟩
  have hF := hS.freeze1
  clear hS
  obtain ⟨I66, hS, hI66, hb66⟩ := hF
  replace h16 := h16.mono hI66
  replace h19 := h19.mono hI66
  replace h25 := h25.mono hI66
  replace h26 := h26.mono hI66
  replace h32 := h32.mono hI66
  replace h33 := h33.mono hI66
  replace h38 := h38.mono hI66
  replace h42 := h42.mono hI66
  replace h46 := h46.mono hI66
  replace h49 := h49.mono hI66
  replace h51 := h51.mono hI66
  replace h53 := h53.mono hI66
  replace h55 := h55.mono hI66
  replace h57 := h57.mono hI66
  replace h60 := h60.mono hI66
  replace h64 := h64.mono hI66
  have h66 : ROps _ (.slice (some ⟨b66, 0, none⟩) 2 2) [⟨1, 1, 2, 0, []⟩, ⟨4, 0, 1, 0, [7]⟩] := RSl.ofAt (css := [[.int .i64 1, .int .i64 1, .int .i64 2, .int .u8 0, .slice none 0 0], [.int .i64 4, .int .i64 0, .int .i64 1, .int .u8 0, .slice (some ⟨b64, 0, none⟩) 1 1]]) hb66 rfl (by simp) (All2.cons ⟨_, _, _, rfl, RFl.nil⟩ (All2.cons ⟨_, _, _, rfl, h64⟩ (All2.nil _))) rfl (by decide)
  refine qq hS (g_buildv (pl := [(0, 1), (1, 1), (2, 1), (3, 1)]) (cs := [.bool _, .int .i64 _, .int .i64 _, .slice _ _ _]) Tryz.zeroValue29 Tryz.underlying29 (fun w => by simp [Tryz.sizeOf27, Tryz.sizeOf3, Tryz.sizeOf4]) (mp (v := .int .i64 _) rfl (mp (v := .int .i64 _) rfl (mp rfl mp0))) rfl) ?_
  refine qe (d_alloc (cs := [.bool _, .int .i64 _, .int .i64 _, .slice _ _ _]) hS Tryz.zeroValue29 rfl) ?_
  clear hS
  rintro _ w_24 ⟨b15, rfl, hS⟩
  refine qe (d_store 0 hS Tryz.sizeOf29 rfl rfl rfl (vs := [.bool _, .int .i64 _, .int .i64 _, .slice _ _ _]) rfl rfl rfl (Nat.le_of_ble_eq_true rfl) (cs' := [_, _, _, _]) rfl) ?_
  clear hS
  rintro _ w_25 ⟨rfl, hS⟩
  refine ol_nil (thenN ?_)
  refine wpIn_seq ?_
  refine reg ?_
  refine qq hS (g_movev (v := .int .i64 _) rfl) ?_
  refine qq hS (g_eql rfl rfl) ?_
  refine qq hS (g_movev (v := .bool _) rfl) ?_
  refine qqs rfl rfl hS (g_move _) ?_
  refine qqs rfl rfl hS (g_move _) ?_
  refine qes rfl rfl (d_call Tryz.call77 rfl (samePL_T [(⟨false, 3, 2, [⟨1, 0, 2, 0, []⟩]⟩ : PatL), (⟨false, 3, 2, [⟨1, 2, 1, 0, []⟩, ⟨4, 0, 1, 0, [7]⟩]⟩ : PatL), (⟨false, 3, 1, [⟨4, 0, 1, 0, [8]⟩]⟩ : PatL)] _ _ _ _ _ _ _ _ hS.imm h19 h57 rfl rfl (okPats (by kernel_rfl)))) ?_
  rintro _ w_26 ⟨rfl, hE⟩
  replace hS := hS.callE hE
  refine qq hS (g_and rfl rfl (fun _ => rfl)) ?_
  refine qq hS (g_movev (v := .bool _) rfl) ?_
  refine qqs rfl rfl hS (g_movev (v := .int .i64 _) rfl) ?_
  refine qqs rfl rfl hS (g_eql rfl rfl) ?_
  refine qq hS (g_and rfl rfl (fun _ => rfl)) ?_
  refine qq hS (g_movev (v := .bool _) rfl) ?_
  refine qqs rfl rfl hS (g_move _) ?_
  refine qqs rfl rfl hS (g_ldO 0 (vs := [.bool _, .int .i64 _, .int .i64 _, .slice _ _ _]) Tryz.sizeOf29 Tryz.isAgg29 rfl rfl rfl rfl) ?_
  refine qes rfl rfl (d_lit (vs := [.agg #[.bool _, .int .i64 _, .int .i64 _, .slice _ _ _]]) (cs := [.bool _, .int .i64 _, .int .i64 _, .slice _ _ _]) hS Tryz.underlying42 Tryz.sizeOf29 Tryz.zeroValue29 rfl rfl rfl rfl (fun v hv => by simp only [List.mem_cons, List.not_mem_nil, or_false] at hv; subst hv; rfl) rfl) ?_
  clear hS
  rintro _ w_27 ⟨b82, rfl, hS⟩
  have hF := hS.freeze1
  clear hS
  obtain ⟨I82, hS, hI82, hb82⟩ := hF
  replace h16 := h16.mono hI82
  replace h19 := h19.mono hI82
  replace h25 := h25.mono hI82
  replace h26 := h26.mono hI82
  replace h32 := h32.mono hI82
  replace h33 := h33.mono hI82
  replace h38 := h38.mono hI82
  replace h42 := h42.mono hI82
  replace h46 := h46.mono hI82
  replace h49 := h49.mono hI82
  replace h51 := h51.mono hI82
  replace h53 := h53.mono hI82
  replace h55 := h55.mono hI82
  replace h57 := h57.mono hI82
  replace h60 := h60.mono hI82
  replace h64 := h64.mono hI82
  replace h66 := h66.mono hI82
  have h82 : RPats _ (.slice (some ⟨b82, 0, none⟩) 1 1) [(⟨false, 3, 3, [⟨1, 1, 2, 0, []⟩, ⟨4, 0, 1, 0, [7]⟩]⟩ : PatL)] := RSl.ofAt (css := [[.bool false, .int .i64 3, .int .i64 3, .slice (some ⟨b66, 0, none⟩) 2 2]]) hb82 rfl (by simp) (All2.cons ⟨_, _, _, rfl, h66⟩ (All2.nil _)) rfl (by show 1 ≤ maxLen; decide)
  refine qes rfl rfl (d_call Tryz.call77 rfl (samePL_T [(⟨false, 3, 3, [⟨1, 1, 2, 0, []⟩, ⟨4, 0, 1, 0, [7]⟩]⟩ : PatL)] _ _ _ _ _ _ _ _ hS.imm h26 h82 rfl rfl (okPats (by kernel_rfl)))) ?_
  rintro _ w_28 ⟨rfl, hE⟩
  replace hS := hS.callE hE
  refine qq hS (g_and rfl rfl (fun _ => rfl)) ?_
  refine qq hS (g_movev (v := .bool _) rfl) ?_
  refine qqs rfl rfl hS (g_movev (v := .int .i64 _) rfl) ?_
  refine qqs rfl rfl hS (g_eql rfl rfl) ?_
  refine qq hS (g_and rfl rfl (fun _ => rfl)) ?_
  refine qq hS (g_movev (v := .bool _) rfl) ?_
  refine qqs rfl rfl hS (g_movev (v := .int .i64 _) rfl) ?_
  refine qqs rfl rfl hS (g_eql rfl rfl) ?_
  refine qq hS (g_and rfl rfl (fun _ => rfl)) ?_
  refine qq hS (g_movev (v := .bool _) rfl) ?_
  refine qqs rfl rfl hS (g_movev (v := .int .i64 _) rfl) ?_
  refine qqs rfl rfl hS (g_eql rfl rfl) ?_
  refine qq hS (g_and rfl rfl (fun _ => rfl)) ?_
  refine qq hS (g_movev (v := .bool _) rfl) ?_
  refine qqs rfl rfl hS (g_movev (v := .int .i64 _) rfl) ?_
  refine qqs rfl rfl hS (g_eql rfl rfl) ?_
  refine qq hS (g_and rfl rfl (fun _ => rfl)) ?_
  refine qq hS (g_movev (v := .bool _) rfl) ?_
  refine qqs rfl rfl hS (g_ldO 1 (vs := [.bool _, .int .i64 _, .int .i64 _, .slice _ _ _]) Tryz.sizeOf29 Tryz.isAgg29 rfl rfl rfl rfl) ?_
  refine qqs rfl rfl hS (g_ldO 3 (vs := [.bool _, .int .i64 _, .int .i64 _, .slice _ _ _]) Tryz.sizeOf29 Tryz.isAgg29 rfl rfl rfl rfl) ?_
  refine qes rfl rfl (d_call Tryz.call40 rfl (same_T (⟨false, 3, 5, [⟨1, 0, 3, 0, []⟩, ⟨4, 0, 2, 0, [7, 8]⟩]⟩ : PatL) _ _ _ _ _ _ _ _ hS.imm h60 h16 (okPat_s (by kernel_rfl)))) ?_
  rintro _ w_29 ⟨rfl, hE⟩
  replace hS := hS.callE hE
  refine qq hS (g_and rfl rfl (fun _ => rfl)) ?_
  refine qq hS (g_assignv (v := .bool _) rfl) ?_
  refine ol_nil (thenN ?_)
  refine wpIn_ret ?_
  refine ret1 Tryz.results37 (rv_tmp (v := .bool _) rfl) ?_
  exact ⟨_, rfl, hS.nil⟩

end Go.Proofs.YtodopmclnklgdaaGreat

