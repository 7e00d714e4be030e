/- inlaylaw10.InverseMatchesReference: its function answers true. Conditions: arguments are of their kinds. -/
import Derived.Test.YtaklmbhfmpdinaaGreatKInvR
import Derived.Test.YtaklmbhfmpdinaaGreatIBack
set_option linter.unusedSimpArgs false
set_option linter.unusedVariables false
namespace Go.Proofs.YtaklmbhfmpdinaaGreat
open Tryz
open Go Go.RowKit Go.Inl
theorem invertA_E (p : PatL) (ad bd : Option Addr) (m cap capb : Nat) (old : List Int) (q : PatL) (e : Int) (w0 : World) (I0 : Imm) (hI : Sat I0 w0) (hops : ROps I0 (.slice ad m cap) p.ops) (hp : p.wf) (ho : RBytes I0 (.slice bd old.length capb) old) (hob : Byts old) (hon : old.length ≤ 4294967296) (he : invertA old p = (q, e)) :
 Ctr prog 10 [.slice bd old.length capb, .agg #[.bool p.lifted, .int .i64 p.in_, .int .i64 p.out, .slice ad m cap]] w0 (fun v w' => ∃ I' a m c, v = .tuple #[.agg #[.bool q.lifted, .int .i64 q.in_, .int .i64 q.out, .slice a m c], .int .i64 e] ∧ Ext w0 I0 w' I' ∧ ROps I' (.slice a m c) q.ops) := by
 cases h : p.lifted
 · rw [invertA_f h] at he
   have := invert_c p ad bd m cap capb old q e w0 I0 hI hops hp h ho hob he
   rw [h] at this
   exact this
 · rw [invertA_t h] at he
   have := invertL_c p ad bd m cap capb old q e w0 I0 hI hops hp h ho hob hon he
   rw [h] at this
   exact this
theorem cheapP_wf0z : PatL.zero.wf := ⟨by unfold Mid; decide, by unfold Mid; decide, fun x hx => (by cases hx), by decide⟩
theorem codeOr_b {old : List Int} {p : PatL} (h : Byts old) : Byts (codeOr old p) := by
 unfold codeOr
 split
 · exact jw _
 · exact h
theorem withL_wf {b : Bool} {p : PatL} (h : p.wf) : (withL b p).wf := ⟨h.in_, h.out, h.ops, h.len⟩
theorem invertA_wf {old : List Int} {p : PatL} (hb : Byts old) : (invertA old p).1.wf := by
 have hz : PatL.zero.wf := cheapP_wf0z
 unfold invertA
 split
 · exact hz
 · split
   · exact hz
   · have hl := jf p
     exact withL_wf (cheapP_wf (kW (by omega) (codeOr_b hb)))
def RImg (I : Imm) (cs : List Value) (Z : List Int) : Prop := ∃ ad cap, cs = [.slice ad Z.length cap] ∧ RBytes I (.slice ad Z.length cap) Z
def RImgs (I : Imm) (v : Value) (l : List (List Int)) : Prop := RSl I 1 (RImg I) v l
theorem RImgs.mono {I J : Imm} {v : Value} {l : List (List Int)} (h : RImgs I v l) (hs : Inl.Sub I J) : RImgs J v l := RSl.mono h hs fun _ _ ⟨a, c, h1, h2⟩ => ⟨a, c, h1, h2.mono hs⟩
theorem noCode_of3 {W : List Int} (h : W.length ≤ 16384) : noCode (bytesP W) = false := by
 unfold noCode; rw [qv, decide_eq_true (show 4 * W.length % 4 = 0 by omega), decide_eq_false (by omega)]; rfl
theorem code_len3 {W : List Int} (hw : Wrds W) (h : W.length ≤ 64) : (codeF (bytesP W)).length ≤ 4096 := by
 have h1 : (liftP W).words.length = W.length := ji _ _ _
 have h2 : (liftP W).marks.length = W.length := jj _ _
 have h3 : (liftP W).labels.length ≤ W.length := jE _
 have h4 := kN (liftP W)
 have h5 : codeF (bytesP W) = formP (liftP W) := by unfold codeF; rw [qv, show 4 * W.length / 4 = W.length by omega, kR hw]
 rw [h5]; omega
theorem same_K2 (p : PatL) (ad bd : Option Addr) (m cap mb capb : Nat) (w0 : World) (I0 : Imm) (hI : Sat I0 w0) (hops : ROps I0 (.slice ad m cap) p.ops) (hoq : ROps I0 (.slice bd mb capb) p.ops) (hp : p.wf) :
 Ctr prog 14 [.agg #[.bool p.lifted, .int .i64 p.in_, .int .i64 p.out, .slice ad m cap], .agg #[.bool p.lifted, .int .i64 p.in_, .int .i64 p.out, .slice bd mb capb]] w0 (fun v w' => v = .bool true ∧ Ext w0 I0 w' I0) :=
 sameR_e p p ad bd m cap mb capb true w0 I0 hI hops hp hoq hp (samePR_refl p)
theorem limited_c (ad : Option Addr) (cap n : Nat) (b : List Int) (w0 : World) (I0 : Imm) (hI : Sat I0 w0) (hl : RBytes I0 (.slice ad b.length cap) b) :
 Ctr prog 9 [.slice ad b.length cap, .int .i64 n] w0 (fun v w' => ∃ a c, v = .slice a (b.take n).length c ∧ Ext w0 I0 w' I0 ∧ RBytes I0 (.slice a (b.take n).length c) (b.take n)) := by
 have hle := RSl.le hl
 simp only [maxLen] at hle
 have hcap := vx hl
 refine fn (n := 13) func9 rfl rfl rfl ?_
 have hS := St.start hI
 refine QwR (qq hS (qf _) (QoN (wpIn_seq (QwR (qq hS (qb _) ?_)))))
 refine qq hS (qo rfl underlying25 hl rfl) ?_
 refine qq hS (Qmi rfl) ?_
 refine qq hS (g_gtr rfl rfl) ?_
 refine QoN ?_
 refine qh rfl ?_ ?_
 ·
  intro hc8
  try simp only [zA, zO, zN, zI, zF, zM, zT, zU] at hc8
  have hs11 := RSl.slH hl n (by omega)
  obtain ⟨a11, c11, hv11, _⟩ := hs11.len
  rw [hv11] at hs11
  refine QwR (qq hS (qb _) (qq hS (Qmi rfl) ?_))
  refine qq hS (g_toV (g_sliceHN (h0 := n) underlying25 sizeOf5 rfl rfl (by omega) (by omega) (by omega)) hv11) ?_
  refine qq hS (qf _) (QoN (wpIn_ret ?_))
  refine thenR ?_
  refine ret1 results9 (qd rfl) ?_
  first | exact ⟨a11, c11, rfl, hS.nil, hs11⟩ | exact ⟨ad, cap, by rw [ht] <;> rfl, hS.nil, by rw [ht]; exact hl⟩
 ·
  intro hc8
  try simp only [zA, zO, zN, zI, zF, zM, zT, zU] at hc8
  have ht : b.take n = b := List.take_of_length_le (by omega)
  refine wpIn_skip (thenN (QwR (qq hS (qb _) (qq hS (qf _) (QoN ?_)))))
  refine wpIn_ret ?_
  refine ret1 results9 (qd rfl) ?_
  first | exact ⟨a11, c11, rfl, hS.nil, hs11⟩ | exact ⟨ad, cap, by rw [ht] <;> rfl, hS.nil, by rw [ht]; exact hl⟩
set_option maxRecDepth 20000 in
set_option maxHeartbeats 4000000 in
theorem imref_c (cd ed : Option Addr) (capc cape : Nat) (lc le : List Q4) (r : Int) (ad bd : Option Addr) (cap capb : Nat) (l : List Q4) (bs : List Int) (w0 : World) (I0 : Imm) (hI : Sat I0 w0) (hr : 0 ≤ r ∧ r ≤ 255) (h4 : RFl I0 4 q4C (.slice ad l.length cap) l) (hq : ∀ q ∈ l, q.wf) (hb : RBytes I0 (.slice bd bs.length capb) bs) (hbb : ∀ y ∈ bs, 0 ≤ y ∧ y ≤ 255) (hc : RFl I0 4 q4C (.slice cd lc.length capc) lc) (hcq : ∀ q ∈ lc, q.wf) (he : RFl I0 4 q4C (.slice ed le.length cape) le) (heq : ∀ q ∈ le, q.wf) :
 Ctr prog 3 [.agg #[.int .u8 r, .slice ad l.length cap], .slice bd bs.length capb, .agg #[.slice cd lc.length capc, .slice ed le.length cape]] w0 (fun v w' => ∃ I', v = .bool true ∧ Ext w0 I0 w' I') := by
 have hr13 : 0 ≤ r % 13 ∧ r % 13 ≤ 65536 := by omega
 have hpw := madeP_wf (size := r % 13) hq hr13
 obtain ⟨hpk, hpo, hpl⟩ := madeP_ok (size := r % 13) hq hr13
 have hlf : (madeP l (r % 13)).lifted = false := rfl
 have hin0 : (madeP l (r % 13)).in_ = r % 13 := rfl
 obtain ⟨p, hp⟩ : ∃ p, madeP l (r % 13) = p := ⟨_, rfl⟩
 rw [hp] at hpw hpk hpo hpl hlf hin0
 obtain ⟨k1, k2, k3, k4, k5, k6, k7⟩ := qV hpk
 have hOl := yc bs p.in_.toNat
 have hOb := inputP_bd (n := p.in_.toNat) hbb
 obtain ⟨O, hO⟩ : ∃ O, inputP bs p.in_.toNat = O := ⟨_, rfl⟩
 rw [hO] at hOl hOb
 have hin : p.in_ = O.length := by omega
 have hXA := applyP_right hpk hin
 have hlb := RSl.le hb
 simp only [maxLen] at hlb
 refine fn (n := 126) func3 rfl rfl rfl ?_
 have hS := St.start hI
 refine QwR ?_
 refine qe (d_box (cs := [.int .u8 _, .slice _ _ _]) hS rfl) ?_
 clear hS
 rintro _ w_1 ⟨b3, rfl, hS⟩
 refine qe (d_box (cs := [.slice _ _ _, .slice _ _ _]) hS rfl) ?_
 clear hS
 rintro _ w_2 ⟨b5, rfl, hS⟩
 refine qq hS (Qab rfl) (QoR ?_)
 refine qe (qi call5 rfl (sanity10_c _ _ hS.imm)) ?_
 rintro _ w_3 ⟨I_f, rfl, hE⟩
 replace hS := hS.callE hE
 replace h4 := h4.mono hE.ext
 replace hb := hb.mono hE.ext
 replace hc := hc.mono hE.ext
 replace he := he.mono hE.ext
 refine qq hS (Qab rfl) (QoR ?_)
 refine qq hS (g_ldO 1 (vs := [.int .u8 _, .slice _ _ _]) sizeOf24 isAgg24 rfl rfl rfl rfl) ?_
 refine qq hS (qb _) ?_
 refine qe (qi call6 rfl (two_c r ad bd cap capb l bs p O _ _ hS.imm hr h4 hq hb hbb hp hO)) ?_
 rintro _ w_4 ⟨I_f, a28, m28, c28, b28, d28, rfl, hE, h28, k28⟩
 replace hS := hS.callE hE
 replace h4 := h4.mono hE.ext
 replace hb := hb.mono hE.ext
 replace hc := hc.mono hE.ext
 replace he := he.mono hE.ext
 refine qq hS (qb _) ?_
 refine qq hS (ql rfl rfl) ?_
 refine qq hS (ql rfl rfl) ?_
 refine qe (qk (cs := [.bool _, .int .i64 _, .int .i64 _, .slice _ _ _]) hS zeroValue31 rfl) ?_
 clear hS
 rintro _ w_5 ⟨b8, rfl, hS⟩
 refine qe (qg 0 hS sizeOf31 rfl rfl rfl (vs := [.bool _, .int .i64 _, .int .i64 _, .slice _ _ _]) rfl rfl rfl (Nat.le_of_ble_eq_true rfl) (cs' := [_, _, _, _]) rfl) ?_
 clear hS
 rintro _ w_6 ⟨rfl, hS⟩
 refine qq hS (qf _) (QoR ?_)
 refine qq hS (g_ldO 0 (vs := [.bool _, .int .i64 _, .int .i64 _, .slice _ _ _]) sizeOf31 isAgg31 rfl rfl rfl rfl) ?_
 refine qe (qk (cs := [.bool _, .int .i64 _, .int .i64 _, .slice _ _ _]) hS zeroValue31 rfl) ?_
 clear hS
 rintro _ w_7 ⟨b10, rfl, hS⟩
 refine qe (qg 0 hS sizeOf31 rfl rfl rfl (vs := [.bool _, .int .i64 _, .int .i64 _, .slice _ _ _]) rfl rfl rfl (Nat.le_of_ble_eq_true rfl) (cs' := [_, _, _, _]) rfl) ?_
 clear hS
 rintro _ w_8 ⟨rfl, hS⟩
 refine QoR ?_
 refine qq hS (qa (o' := 2) underlying31 rfl sizeOf3 rfl rfl rfl) ?_
 refine qq hS (qc 0 isAgg3 rfl rfl rfl) ?_
 refine qq hS (qb _) ?_
 refine qq hS (qo rfl underlying25 hb rfl) ?_
 refine qq hS (g_rem rfl rfl (by omega) (by omega)) ?_
 refine qq hS (g_sub rfl rfl (by omega) (by omega)) ?_
 refine qq hS (g_add rfl rfl (by omega) (by omega)) ?_
 refine qq hS (qa (o' := 2) underlying31 rfl sizeOf3 rfl rfl rfl) ?_
 refine qe (qg 0 hS sizeOf3 rfl rfl rfl (vs := [.int .i64 _]) rfl rfl rfl (Nat.le_of_ble_eq_true rfl) (cs' := [_, _, _, _]) rfl) ?_
 clear hS
 rintro _ w_9 ⟨rfl, hS⟩
 refine QoR ?_
 refine qq hS (qP (o' := 0) underlying27 sizeOf26 rfl rfl (by decide) (by decide) rfl) ?_
 refine qq hS (qc 2 isAgg26 rfl rfl rfl) ?_
 refine qe (qi call7 rfl (code_c cd capc lc 12 _ _ hS.imm hc hcq (by omega))) ?_
 rintro _ w_10 ⟨I_f, a42, c42, V, rfl, hE, h42, hVw, hVn⟩
 replace hS := hS.callE hE
 replace h4 := h4.mono hE.ext
 replace hb := hb.mono hE.ext
 replace hc := hc.mono hE.ext
 replace he := he.mono hE.ext
 replace h28 := h28.mono hE.ext
 replace k28 := k28.mono hE.ext
 refine qq hS (qf _) (QoR (qq hS (qb _) ?_))
 refine qq hS (qP (o' := 1) underlying27 sizeOf26 rfl rfl (by decide) (by decide) rfl) ?_
 refine qq hS (qc 2 isAgg26 rfl rfl rfl) ?_
 refine qe (qi call7 rfl (code_c ed cape le 12 _ _ hS.imm he heq (by omega))) ?_
 rintro _ w_11 ⟨I_f, a46, c46, W, rfl, hE, h46, hWw, hWn⟩
 replace hS := hS.callE hE
 replace h4 := h4.mono hE.ext
 replace hb := hb.mono hE.ext
 replace hc := hc.mono hE.ext
 replace he := he.mono hE.ext
 replace h28 := h28.mono hE.ext
 replace k28 := k28.mono hE.ext
 replace h42 := h42.mono hE.ext
 refine qe (qi call8 rfl (lifted_c a42 a46 c42 c46 (bytesP V) (bytesP W) _ _ hS.imm h42 (jI V) h46 (jI W) (noCode_of3 (by omega)) (noCode_of3 (by omega)))) ?_
 rintro _ w_12 ⟨I_f, a47, m47, c47, n, rfl, hE, hnx, hny, hnt, h47⟩
 replace hS := hS.callE hE
 replace h4 := h4.mono hE.ext
 replace hb := hb.mono hE.ext
 replace hc := hc.mono hE.ext
 replace he := he.mono hE.ext
 replace h28 := h28.mono hE.ext
 replace k28 := k28.mono hE.ext
 replace h42 := h42.mono hE.ext
 replace h46 := h46.mono hE.ext
 obtain ⟨X, hX⟩ : ∃ X, codeF (bytesP V) = X := ⟨_, rfl⟩
 obtain ⟨Y, hY⟩ : ∃ Y, codeF (bytesP W) = Y := ⟨_, rfl⟩
 rw [hX, hY] at h47 hnt
 rw [hX] at hnx ⊢
 rw [hY] at hny ⊢
 have hVl := qv V
 have hWl := qv W
 have hXl : X.length ≤ 4096 := by rw [← hX]; exact code_len3 hVw (by omega)
 have hYl : Y.length ≤ 4096 := by rw [← hY]; exact code_len3 hWw (by omega)
 have hYb : Byts Y := by rw [← hY]; exact jw _
 have hPw := lifN_wf hnx hny (by omega) (by omega) hYb
 refine qe (qk (cs := [.bool _, .int .i64 _, .int .i64 _, .slice _ _ _]) hS zeroValue31 rfl) ?_
 clear hS
 rintro _ w_13 ⟨b12, rfl, hS⟩
 refine qe (qg 0 hS sizeOf31 rfl rfl rfl (vs := [.bool _, .int .i64 _, .int .i64 _, .slice _ _ _]) rfl rfl rfl (Nat.le_of_ble_eq_true rfl) (cs' := [_, _, _, _]) rfl) ?_
 clear hS
 rintro _ w_14 ⟨rfl, hS⟩
 refine QoR ?_
 refine qq hS (g_ldO 2 (vs := [.bool _, .int .i64 _, .int .i64 _, .slice _ _ _]) sizeOf31 isAgg31 rfl rfl rfl rfl) ?_
 refine qq hS (g_ldO 1 (vs := [.bool _, .int .i64 _, .int .i64 _, .slice _ _ _]) sizeOf31 isAgg31 rfl rfl rfl rfl) ?_
 refine qq hS (g_ldO 0 (vs := [.bool _, .int .i64 _, .int .i64 _, .slice _ _ _]) sizeOf31 isAgg31 rfl rfl rfl rfl) ?_
 refine qq hS (g_ldO 2 (vs := [.bool _, .int .i64 _, .int .i64 _, .slice _ _ _]) sizeOf31 isAgg31 rfl rfl rfl rfl) ?_
 refine qq hS (g_ldO 0 (vs := [.bool _, .int .i64 _, .int .i64 _, .slice _ _ _]) sizeOf31 isAgg31 rfl rfl rfl rfl) ?_
 refine qe (d_lit (vs := [.agg #[.bool _, .int .i64 _, .int .i64 _, .slice _ _ _], .agg #[.bool _, .int .i64 _, .int .i64 _, .slice _ _ _], .agg #[.bool _, .int .i64 _, .int .i64 _, .slice _ _ _], .agg #[.bool _, .int .i64 _, .int .i64 _, .slice _ _ _], .agg #[.bool _, .int .i64 _, .int .i64 _, .slice _ _ _]]) (cs := [.bool _, .int .i64 _, .int .i64 _, .slice _ _ _, .bool _, .int .i64 _, .int .i64 _, .slice _ _ _, .bool _, .int .i64 _, .int .i64 _, .slice _ _ _, .bool _, .int .i64 _, .int .i64 _, .slice _ _ _, .bool _, .int .i64 _, .int .i64 _, .slice _ _ _]) hS underlying36 sizeOf31 zeroValue31 rfl rfl rfl rfl (fun v hv => by simp only [List.mem_cons, List.not_mem_nil, or_false] at hv; rcases hv with rfl | rfl | rfl | rfl | rfl <;> rfl) rfl) ?_
 clear hS
 rintro _ w_15 ⟨b53, rfl, hS⟩
 have hF := hS.freeze1
 clear hS
 obtain ⟨I53, hS, hI53, hb53⟩ := hF
 replace h4 := h4.mono hI53
 replace hb := hb.mono hI53
 replace hc := hc.mono hI53
 replace he := he.mono hI53
 replace h28 := h28.mono hI53
 replace k28 := k28.mono hI53
 replace h42 := h42.mono hI53
 replace h46 := h46.mono hI53
 replace h47 := h47.mono hI53
 have h53 : RPats _ (.slice (some ⟨b53, 0, none⟩) 5 5) [p, (⟨p.lifted, p.in_, p.out + ((bs.length : Int) % 3 - 1), p.ops⟩ : PatL), (lifN X Y n), p, (lifN X Y n)] := RSl.ofAt (css := [[.bool p.lifted, .int .i64 p.in_, .int .i64 p.out, .slice a28 m28 c28], [.bool p.lifted, .int .i64 p.in_, .int .i64 (p.out + ((bs.length : Int) % 3 - 1)), .slice a28 m28 c28], [.bool true, .int .i64 (X.length : Int), .int .i64 (Y.length : Int), .slice a47 m47 c47], [.bool p.lifted, .int .i64 p.in_, .int .i64 p.out, .slice a28 m28 c28], [.bool true, .int .i64 (X.length : Int), .int .i64 (Y.length : Int), .slice a47 m47 c47]]) hb53 rfl (by simp) (All2.cons ⟨_, _, _, rfl, h28⟩ (All2.cons ⟨_, _, _, rfl, h28⟩ (All2.cons ⟨_, _, _, rfl, h47⟩ (All2.cons ⟨_, _, _, rfl, h28⟩ (All2.cons ⟨_, _, _, rfl, h47⟩ (All2.nil _)))))) rfl (by show 5 ≤ maxLen; decide)
 refine qq hS (qf _) (QoR (qq hS (qb _) (qq hS (qb _) (qq hS (qb _) (qq hS (qb _) ?_)))))
 refine qe (qi call9 rfl (limited_c bd capb 20 bs _ _ hS.imm hb)) ?_
 rintro _ w_16 ⟨a58, c58, rfl, hE, h58⟩
 replace hS := hS.callE hE
 replace h4 := h4.mono hE.ext
 replace hb := hb.mono hE.ext
 replace hc := hc.mono hE.ext
 replace he := he.mono hE.ext
 replace h28 := h28.mono hE.ext
 replace k28 := k28.mono hE.ext
 replace h42 := h42.mono hE.ext
 replace h46 := h46.mono hE.ext
 replace h47 := h47.mono hE.ext
 replace h53 := h53.mono hE.ext
 refine qq hS (qb _) ?_
 refine qe (d_lit (vs := [.slice _ _ _, .slice _ _ _, .slice _ _ _, .slice _ _ _, .slice _ _ _]) (cs := [.slice _ _ _, .slice _ _ _, .slice _ _ _, .slice _ _ _, .slice _ _ _]) hS underlying38 sizeOf25 zeroValue25 rfl rfl rfl rfl (fun v hv => by simp only [List.mem_cons, List.not_mem_nil, or_false] at hv; rcases hv with rfl | rfl | rfl | rfl | rfl <;> rfl) rfl) ?_
 clear hS
 rintro _ w_17 ⟨b60, rfl, hS⟩
 have hF := hS.freeze1
 clear hS
 obtain ⟨I60, hS, hI60, hb60⟩ := hF
 replace h4 := h4.mono hI60
 replace hb := hb.mono hI60
 replace hc := hc.mono hI60
 replace he := he.mono hI60
 replace h28 := h28.mono hI60
 replace k28 := k28.mono hI60
 replace h42 := h42.mono hI60
 replace h46 := h46.mono hI60
 replace h47 := h47.mono hI60
 replace h53 := h53.mono hI60
 replace h58 := h58.mono hI60
 have h60 : RImgs _ (.slice (some ⟨b60, 0, none⟩) 5 5) [O, O, bytesP V, bs.take 20, O] := RSl.ofAt (css := [[.slice b28 O.length d28], [.slice b28 O.length d28], [.slice a42 (bytesP V).length c42], [.slice a58 (bs.take 20).length c58], [.slice b28 O.length d28]]) hb60 rfl (by simp) (All2.cons ⟨_, _, rfl, k28⟩ (All2.cons ⟨_, _, rfl, k28⟩ (All2.cons ⟨_, _, rfl, h42⟩ (All2.cons ⟨_, _, rfl, h58⟩ (All2.cons ⟨_, _, rfl, k28⟩ (All2.nil _)))))) rfl (by show 5 ≤ maxLen; decide)
 refine qq hS (qf _) (QoN (wpIn_seq (wpIn_seq ?_)))
 have hwf5 : ∀ q ∈ [p, (⟨p.lifted, p.in_, p.out + ((bs.length : Int) % 3 - 1), p.ops⟩ : PatL), (lifN X Y n), p, (lifN X Y n)], q.wf := by
  intro q hq5
  simp only [List.mem_cons, List.not_mem_nil, or_false] at hq5
  rcases hq5 with rfl | rfl | rfl | rfl | rfl
  · exact hpw
  · exact ⟨hpw.in_, by unfold Mid; dsimp only; omega, hpw.ops, hpw.len⟩
  · exact hPw
  · exact hpw
  · exact hPw
 have hzf5 : ∀ Z ∈ [O, O, bytesP V, bs.take 20, O], Byts Z ∧ Z.length ≤ 65536 := by
  intro Z hz5
  simp only [List.mem_cons, List.not_mem_nil, or_false] at hz5
  rcases hz5 with rfl | rfl | rfl | rfl | rfl
  · exact ⟨hOb, by omega⟩
  · exact ⟨hOb, by omega⟩
  · exact ⟨jI V, by omega⟩
  · exact ⟨fun y hy => hbb y (List.mem_of_mem_take hy), by rw [List.length_take]; omega⟩
  · exact ⟨hOb, by omega⟩
 refine reg (qq hS (Qai rfl) (QoN (wpIn_block ?_)))
 refine loop (fun (i : Nat) σ w => okS σ [(7, .bool true), (13, .slice (some ⟨b53, 0, none⟩) 5 5), (14, .slice (some ⟨b60, 0, none⟩) 5 5), (15, .int .i64 i)] ∧ ∃ I, St [] w0 I0 I w [] ∧ i ≤ 5 ∧ RPats I (.slice (some ⟨b53, 0, none⟩) 5 5) [p, (⟨p.lifted, p.in_, p.out + ((bs.length : Int) % 3 - 1), p.ops⟩ : PatL), (lifN X Y n), p, (lifN X Y n)] ∧ RImgs I (.slice (some ⟨b60, 0, none⟩) 5 5) [O, O, bytesP V, bs.take 20, O]) (fun i => 5 - i) (0) ?_ ?_
 ·
  exact ⟨⟨rfl, rfl, rfl, rfl, trivial⟩, _, hS.sel [false, false, false, false, false], by omega, h53, h60⟩
 ·
  rintro i σ w_l ⟨hs, I, hS, hi5, h53, h60⟩
  rw [← qj hs]; clear hs
  refine wpIn_seq (QwR (qq hS (Qmi rfl) ?_))
  refine qq hS (g_lss rfl rfl) ?_
  refine QoN ?_
  refine qh rfl ?_ ?_
  ·
   intro hc62
   try simp only [zA, zO, zN, zI, zF, zM, zT, zU] at hc62
   obtain ⟨Q, hQi⟩ : ∃ Q, [p, (⟨p.lifted, p.in_, p.out + ((bs.length : Int) % 3 - 1), p.ops⟩ : PatL), (lifN X Y n), p, (lifN X Y n)][i]? = some Q := ⟨_, List.getElem?_eq_getElem (by simp; omega)⟩
   obtain ⟨Z, hZi⟩ : ∃ Z, [O, O, bytesP V, bs.take 20, O][i]? = some Z := ⟨_, List.getElem?_eq_getElem (by simp; omega)⟩
   have hQw := hwf5 Q (List.mem_of_getElem? hQi)
   obtain ⟨hZb, hZl⟩ := hzf5 Z (List.mem_of_getElem? hZi)
   obtain ⟨csq, hcq5, hqA, hqc⟩ := RSl.at h53 hQi
   obtain ⟨adq, mq, cq, rfl, hqo⟩ := hqc
   obtain ⟨csz, hcz5, hzA, hzc⟩ := RSl.at h60 hZi
   obtain ⟨adz, cz, rfl, hz⟩ := hzc
   have hGw := invertA_wf (p := Q) hZb
   obtain ⟨G, eG, hG⟩ : ∃ G e, invertA Z Q = (G, e) := ⟨_, _, rfl⟩
   rw [hG] at hGw
   dsimp only at hGw
   obtain ⟨RR, eR, hRR⟩ : ∃ R e, lostP Q = (R, e) := ⟨_, _, rfl⟩
   refine wpIn_skip (thenN (wpIn_seq (wpIn_block ?_)))
   refine meet (fun σ w => ∃ I b16 a16 m16 c16, okS σ [(7, .bool true), (13, .slice (some ⟨b53, 0, none⟩) 5 5), (14, .slice (some ⟨b60, 0, none⟩) 5 5), (15, .int .i64 i), (16, .pointer (some ⟨b16, 0, none⟩)), (17, .int .i64 eG)] ∧ St [] w0 I0 I w [.cel b16 31 [.bool G.lifted, .int .i64 G.in_, .int .i64 G.out, .slice a16 m16 c16]] ∧ ROps I (.slice a16 m16 c16) G.ops ∧ RPats I (.slice (some ⟨b53, 0, none⟩) 5 5) [p, (⟨p.lifted, p.in_, p.out + ((bs.length : Int) % 3 - 1), p.ops⟩ : PatL), (lifN X Y n), p, (lifN X Y n)] ∧ RImgs I (.slice (some ⟨b60, 0, none⟩) 5 5) [O, O, bytesP V, bs.take 20, O] ∧ ROps I (.slice adq mq cq) Q.ops ∧ RBytes I (.slice adz Z.length cz) Z ∧ atI I (elA (.slice (some ⟨b53, 0, none⟩) 5 5) i 4 0) [.bool Q.lifted, .int .i64 Q.in_, .int .i64 Q.out, .slice adq mq cq] ∧ atI I (elA (.slice (some ⟨b60, 0, none⟩) 5 5) i 1 0) [.slice adz Z.length cz]) ?_ ?_
   ·
    refine drawS [] (.cons 0 .pure (.cons 1 .pure (.cons 2 .pure (.cons 3 .held (.cons 4 .pure (.cons 5 .pure (.cons 6 .pure (.cons 7 .held (.fork 8 (.cons 9 .pure (.cons 10 .pure (.cons 11 .pure (.cons 12 .eff (.cons 13 .eff (.cons 14 .pure .nil)))))) 12 (.cons 8 .eff (.cons 9 .pure (.cons 10 .pure (.cons 11 .pure (.cons 13 .eff (.cons 14 .pure .nil))))))))))))))) mixed (by kernel_rfl) hS ?_
    intro w_18 hS
    refine sp rfl (qb _) ?_
    refine sp rfl (Qmi rfl) ?_
    refine sp rfl (g_ixI underlying38 sizeOf25 h60 rfl rfl (by omega) (by omega)) ?_
    refine sh rfl (qr isAgg25 hzA rfl rfl) ?_
    refine sp rfl (qb _) ?_
    refine sp rfl (Qmi rfl) ?_
    refine sp rfl (g_ixI underlying36 sizeOf31 h53 rfl rfl (by omega) (by omega)) ?_
    refine sh rfl (g_ldE (us := [.bool _, .int .i64 _, .int .i64 _, .slice _ _ _]) sizeOf31 isAgg31 hqA rfl rfl rfl) ?_
    refine sk ?_ ?_
    ·
     have hS0 := hS
     refine se rfl (qi call10 rfl (invertA_E Q adq adz mq cq cz Z G eG _ _ hS.imm hqo hQw hz hZb (by omega) hG)) ?_
     rintro _ w_19 ⟨I_f, a74, m74, c74, rfl, hE, h74⟩
     replace hS := hS.call hE
     replace h53 := h53.mono hE.ext
     replace h60 := h60.mono hE.ext
     replace hqo := hqo.mono hE.ext
     replace hz := hz.mono hE.ext
     replace hqA := hqA.mono hE.ext
     replace hzA := hzA.mono hE.ext
     refine ⟨_, _, (hS0.sel []).le hE.ext (List.Sublist.refl _), hS.sel [], ?_⟩
     refine sp rfl (qb _) ?_
     refine sp rfl (ql rfl rfl) ?_
     refine sp rfl (Qxi rfl rfl) ?_
     have hS0 := hS
     refine se rfl (qk (cs := [.bool _, .int .i64 _, .int .i64 _, .slice _ _ _]) hS zeroValue31 rfl) ?_
     rintro _ w_20 ⟨b16, rfl, hS⟩
     refine ⟨_, _, fun _ h => h, hS.sel [false], ?_⟩
     have hS0 := hS
     refine se rfl (qg 0 hS sizeOf31 rfl rfl rfl (vs := [.bool _, .int .i64 _, .int .i64 _, .slice _ _ _]) rfl rfl rfl (Nat.le_of_ble_eq_true rfl) (cs' := [_, _, _, _]) rfl) ?_
     rintro _ w_21 ⟨rfl, hS⟩
     refine ⟨_, _, fun _ h => h, hS.sel [false], ?_⟩
     refine sp rfl (Qai rfl) ?_
     refine sn (thenN ?_)
     exact ⟨_, rfl, _, _, _, _, _, ⟨rfl, rfl, rfl, rfl, rfl, rfl, trivial⟩, hS, h74, h53, h60, hqo, hz, hqA, hzA⟩
    ·
     have hS0 := hS
     refine se rfl (qk (cs := [.bool _, .int .i64 _, .int .i64 _, .slice _ _ _]) hS zeroValue31 rfl) ?_
     rintro _ w_22 ⟨b16, rfl, hS⟩
     refine ⟨_, _, fun _ h => h, hS.sel [false], ?_⟩
     have hS0 := hS
     refine se rfl (qi call10 rfl (invertA_E Q adq adz mq cq cz Z G eG _ _ hS.imm hqo hQw hz hZb (by omega) hG)) ?_
     rintro _ w_23 ⟨I_f, a74, m74, c74, rfl, hE, h74⟩
     replace hS := hS.call hE
     replace h53 := h53.mono hE.ext
     replace h60 := h60.mono hE.ext
     replace hqo := hqo.mono hE.ext
     replace hz := hz.mono hE.ext
     replace hqA := hqA.mono hE.ext
     replace hzA := hzA.mono hE.ext
     refine ⟨_, _, (hS0.sel [false]).le hE.ext (List.Sublist.refl _), hS.sel [false], ?_⟩
     refine sp rfl (qb _) ?_
     refine sp rfl (ql rfl rfl) ?_
     refine sp rfl (Qxi rfl rfl) ?_
     have hS0 := hS
     refine se rfl (qg 0 hS sizeOf31 rfl rfl rfl (vs := [.bool _, .int .i64 _, .int .i64 _, .slice _ _ _]) rfl rfl rfl (Nat.le_of_ble_eq_true rfl) (cs' := [_, _, _, _]) rfl) ?_
     rintro _ w_24 ⟨rfl, hS⟩
     refine ⟨_, _, fun _ h => h, hS.sel [false], ?_⟩
     refine sp rfl (Qai rfl) ?_
     refine sn (thenN ?_)
     exact ⟨_, rfl, _, _, _, _, _, ⟨rfl, rfl, rfl, rfl, rfl, rfl, trivial⟩, hS, h74, h53, h60, hqo, hz, hqA, hzA⟩
   ·
    rintro σ w_j ⟨I, b16, a16, m16, c16, hs, hS, h74, h53, h60, hqo, hz, hqA, hzA⟩
    rw [← qj hs]
    refine meet (fun σ w => ∃ I b18 a18 m18 c18 b16 a16 m16 c16, okS σ [(7, .bool true), (13, .slice (some ⟨b53, 0, none⟩) 5 5), (14, .slice (some ⟨b60, 0, none⟩) 5 5), (15, .int .i64 i), (16, .pointer (some ⟨b16, 0, none⟩)), (17, .int .i64 eG), (18, .pointer (some ⟨b18, 0, none⟩)), (19, .int .i64 eG)] ∧ St [] w0 I0 I w [.cel b18 31 [.bool G.lifted, .int .i64 G.in_, .int .i64 G.out, .slice a18 m18 c18], .cel b16 31 [.bool G.lifted, .int .i64 G.in_, .int .i64 G.out, .slice a16 m16 c16]] ∧ ROps I (.slice a18 m18 c18) G.ops ∧ ROps I (.slice a16 m16 c16) G.ops ∧ RPats I (.slice (some ⟨b53, 0, none⟩) 5 5) [p, (⟨p.lifted, p.in_, p.out + ((bs.length : Int) % 3 - 1), p.ops⟩ : PatL), (lifN X Y n), p, (lifN X Y n)] ∧ RImgs I (.slice (some ⟨b60, 0, none⟩) 5 5) [O, O, bytesP V, bs.take 20, O] ∧ ROps I (.slice adq mq cq) Q.ops ∧ RBytes I (.slice adz Z.length cz) Z ∧ atI I (elA (.slice (some ⟨b53, 0, none⟩) 5 5) i 4 0) [.bool Q.lifted, .int .i64 Q.in_, .int .i64 Q.out, .slice adq mq cq] ∧ atI I (elA (.slice (some ⟨b60, 0, none⟩) 5 5) i 1 0) [.slice adz Z.length cz]) ?_ ?_
    ·
     refine drawS [true] (.cons 0 .pure (.cons 1 .pure (.cons 2 .pure (.cons 3 .held (.cons 4 .pure (.cons 5 .pure (.cons 6 .pure (.cons 7 .held (.fork 8 (.cons 9 .pure (.cons 10 .pure (.cons 11 .pure (.cons 12 .eff (.cons 13 .eff (.cons 14 .pure .nil)))))) 12 (.cons 8 .eff (.cons 9 .pure (.cons 10 .pure (.cons 11 .pure (.cons 13 .eff (.cons 14 .pure .nil))))))))))))))) mixed (by kernel_rfl) hS ?_
     intro w_25 hS
     refine sp rfl (qb _) ?_
     refine sp rfl (Qmi rfl) ?_
     refine sp rfl (g_ixI underlying38 sizeOf25 h60 rfl rfl (by omega) (by omega)) ?_
     refine sh rfl (qr isAgg25 hzA rfl rfl) ?_
     refine sp rfl (qb _) ?_
     refine sp rfl (Qmi rfl) ?_
     refine sp rfl (g_ixI underlying36 sizeOf31 h53 rfl rfl (by omega) (by omega)) ?_
     refine sh rfl (g_ldE (us := [.bool _, .int .i64 _, .int .i64 _, .slice _ _ _]) sizeOf31 isAgg31 hqA rfl rfl rfl) ?_
     refine sk ?_ ?_
     ·
      have hS0 := hS
      refine se rfl (qi call11 rfl (invertR_c Q adq adz mq cq cz Z G eG _ _ hS.imm hqo hQw hz hZb hG)) ?_
      rintro _ w_26 ⟨I_f, a86, m86, c86, rfl, hE, h86⟩
      replace hS := hS.call hE
      replace h74 := h74.mono hE.ext
      replace h53 := h53.mono hE.ext
      replace h60 := h60.mono hE.ext
      replace hqo := hqo.mono hE.ext
      replace hz := hz.mono hE.ext
      replace hqA := hqA.mono hE.ext
      replace hzA := hzA.mono hE.ext
      refine ⟨_, _, (hS0.sel [true]).le hE.ext (List.Sublist.refl _), hS.sel [true], ?_⟩
      refine sp rfl (qb _) ?_
      refine sp rfl (ql rfl rfl) ?_
      refine sp rfl (Qxi rfl rfl) ?_
      have hS0 := hS
      refine se rfl (qk (cs := [.bool _, .int .i64 _, .int .i64 _, .slice _ _ _]) hS zeroValue31 rfl) ?_
      rintro _ w_27 ⟨b18, rfl, hS⟩
      refine ⟨_, _, fun _ h => h, hS.sel [false, true], ?_⟩
      have hS0 := hS
      refine se rfl (qg 0 hS sizeOf31 rfl rfl rfl (vs := [.bool _, .int .i64 _, .int .i64 _, .slice _ _ _]) rfl rfl rfl (Nat.le_of_ble_eq_true rfl) (cs' := [_, _, _, _]) rfl) ?_
      rintro _ w_28 ⟨rfl, hS⟩
      refine ⟨_, _, fun _ h => h, hS.sel [false, true], ?_⟩
      refine sp rfl (Qai rfl) ?_
      refine sn (thenN ?_)
      exact ⟨_, rfl, _, _, _, _, _, _, _, _, _, ⟨rfl, rfl, rfl, rfl, rfl, rfl, rfl, rfl, trivial⟩, hS, h86, h74, h53, h60, hqo, hz, hqA, hzA⟩
     ·
      have hS0 := hS
      refine se rfl (qk (cs := [.bool _, .int .i64 _, .int .i64 _, .slice _ _ _]) hS zeroValue31 rfl) ?_
      rintro _ w_29 ⟨b18, rfl, hS⟩
      refine ⟨_, _, fun _ h => h, hS.sel [false, true], ?_⟩
      have hS0 := hS
      refine se rfl (qi call11 rfl (invertR_c Q adq adz mq cq cz Z G eG _ _ hS.imm hqo hQw hz hZb hG)) ?_
      rintro _ w_30 ⟨I_f, a86, m86, c86, rfl, hE, h86⟩
      replace hS := hS.call hE
      replace h74 := h74.mono hE.ext
      replace h53 := h53.mono hE.ext
      replace h60 := h60.mono hE.ext
      replace hqo := hqo.mono hE.ext
      replace hz := hz.mono hE.ext
      replace hqA := hqA.mono hE.ext
      replace hzA := hzA.mono hE.ext
      refine ⟨_, _, (hS0.sel [false, true]).le hE.ext (List.Sublist.refl _), hS.sel [false, true], ?_⟩
      refine sp rfl (qb _) ?_
      refine sp rfl (ql rfl rfl) ?_
      refine sp rfl (Qxi rfl rfl) ?_
      have hS0 := hS
      refine se rfl (qg 0 hS sizeOf31 rfl rfl rfl (vs := [.bool _, .int .i64 _, .int .i64 _, .slice _ _ _]) rfl rfl rfl (Nat.le_of_ble_eq_true rfl) (cs' := [_, _, _, _]) rfl) ?_
      rintro _ w_31 ⟨rfl, hS⟩
      refine ⟨_, _, fun _ h => h, hS.sel [false, true], ?_⟩
      refine sp rfl (Qai rfl) ?_
      refine sn (thenN ?_)
      exact ⟨_, rfl, _, _, _, _, _, _, _, _, _, ⟨rfl, rfl, rfl, rfl, rfl, rfl, rfl, rfl, trivial⟩, hS, h86, h74, h53, h60, hqo, hz, hqA, hzA⟩
    ·
     rintro σ w_j ⟨I, b18, a18, m18, c18, b16, a16, m16, c16, hs, hS, h86, h74, h53, h60, hqo, hz, hqA, hzA⟩
     rw [← qj hs]
     refine QwR (qq hS (qb _) (qq hS (Qmi rfl) ?_))
     refine qq hS (g_ixI underlying36 sizeOf31 h53 rfl rfl (by omega) (by omega)) ?_
     refine qq hS (g_ldE (us := [.bool _, .int .i64 _, .int .i64 _, .slice _ _ _]) sizeOf31 isAgg31 hqA rfl rfl rfl) ?_
     refine qe (qi call12 rfl (vK Q adq mq cq RR eR _ _ hS.imm hqo hQw hRR)) ?_
     rintro _ w_32 ⟨I_f, a94, c94, rfl, hE, h94⟩
     replace hS := hS.callE hE
     replace h86 := h86.mono hE.ext
     replace h74 := h74.mono hE.ext
     replace h53 := h53.mono hE.ext
     replace h60 := h60.mono hE.ext
     replace hqo := hqo.mono hE.ext
     replace hz := hz.mono hE.ext
     replace hqA := hqA.mono hE.ext
     replace hzA := hzA.mono hE.ext
     refine qq hS (qb _) ?_
     refine qq hS (ql rfl rfl) ?_
     refine qq hS (Qxi rfl rfl) ?_
     refine qq hS (qf _) (qq hS (Qai rfl) (QoR (qq hS (qb _) (qq hS (Qmi rfl) ?_))))
     refine qq hS (g_ixI underlying36 sizeOf31 h53 rfl rfl (by omega) (by omega)) ?_
     refine qq hS (g_ldE (us := [.bool _, .int .i64 _, .int .i64 _, .slice _ _ _]) sizeOf31 isAgg31 hqA rfl rfl rfl) ?_
     refine qe (qi call13 rfl (lostR_c Q adq mq cq RR eR _ _ hS.imm hqo hQw hRR)) ?_
     rintro _ w_33 ⟨I_f, a102, c102, rfl, hE, h102⟩
     replace hS := hS.callE hE
     replace h86 := h86.mono hE.ext
     replace h74 := h74.mono hE.ext
     replace h53 := h53.mono hE.ext
     replace h60 := h60.mono hE.ext
     replace hqo := hqo.mono hE.ext
     replace hz := hz.mono hE.ext
     replace hqA := hqA.mono hE.ext
     replace hzA := hzA.mono hE.ext
     replace h94 := h94.mono hE.ext
     refine qq hS (qb _) ?_
     refine qq hS (ql rfl rfl) ?_
     refine qq hS (Qxi rfl rfl) ?_
     refine qq hS (qf _) (qq hS (Qai rfl) (QoR ?_))
     refine qq hS (g_ldO 1 (vs := [.bool _, .int .i64 _, .int .i64 _, .slice _ _ _]) sizeOf31 isAgg31 rfl rfl rfl rfl) ?_
     refine qq hS (g_ldO 0 (vs := [.bool _, .int .i64 _, .int .i64 _, .slice _ _ _]) sizeOf31 isAgg31 rfl rfl rfl rfl) ?_
     refine qe (qi call14 rfl (same_K2 G _ _ _ _ _ _ _ _ hS.imm h74 h86 hGw)) ?_
     rintro _ w_34 ⟨rfl, hE⟩
     replace hS := hS.callE hE
     refine qq hS (g_not rfl) ?_
     refine qq hS (Qmb rfl) ?_
     refine qqs rfl rfl hS (Qmi rfl) ?_
     refine qqs rfl rfl hS (Qmi rfl) ?_
     refine qqs rfl rfl hS (g_neqF rfl rfl rfl) ?_
     refine qq hS (g_or rfl rfl (fun _ => rfl)) ?_
     refine qq hS (Qmb rfl) ?_
     refine qqs rfl rfl hS (qb _) ?_
     refine qqs rfl rfl hS (qb _) ?_
     refine qes rfl rfl (qi call15 rfl (sameRg1_T RR _ _ _ _ _ _ _ _ hS.imm h94 h102 rfl rfl)) ?_
     rintro _ w_35 ⟨rfl, hE⟩
     replace hS := hS.callE hE
     refine qqs rfl rfl hS (g_not rfl) ?_
     refine qq hS (g_or rfl rfl (fun _ => rfl)) ?_
     refine qq hS (Qmb rfl) ?_
     refine qqs rfl rfl hS (Qmi rfl) ?_
     refine qqs rfl rfl hS (Qmi rfl) ?_
     refine qqs rfl rfl hS (g_neqF rfl rfl rfl) ?_
     refine qq hS (g_or rfl rfl (fun _ => rfl)) ?_
     refine QoN ?_
     refine jb (rfl) ?_
     refine wpIn_skip (blkN (thenN (reg (qq hS (Qmi rfl) ?_))))
     refine qq hS (g_add rfl rfl (by omega) (by omega)) ?_
     refine qq hS (Qai rfl) ?_
     exact ⟨i + 1, _, rfl, ⟨⟨rfl, rfl, rfl, rfl, trivial⟩, _, hS.sel [false, false], by omega, h53, h60⟩, by omega⟩
  ·
   intro hc62
   try simp only [zA, zO, zN, zI, zF, zM, zT, zU] at hc62
   refine wpIn_exit ?_
   refine thenE (thenE (blkE ?_))
   refine thenN (QwR (qq hS (Qmb rfl) (qq hS (Qab rfl) (QoN (wpIn_ret ?_)))))
   refine ret1 results3 (qd (v := .bool _) rfl) ?_
   exact ⟨_, rfl, hS.nil⟩
end Go.Proofs.YtaklmbhfmpdinaaGreat
