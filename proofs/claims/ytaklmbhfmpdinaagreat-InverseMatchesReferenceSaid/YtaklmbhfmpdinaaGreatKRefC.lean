/- inlayref02: Decode, Encode, Bytes, Made: what they compute. Conditions: as said. inlayref02.Made, inlayref02.Bytes, inlayref03.Code: words, and code of them. Conditions: numbers within bounds. -/
import Derived.Test.YtaklmbhfmpdinaaGreatRt3
set_option linter.unusedSimpArgs false
set_option linter.unusedVariables false
namespace Go.Proofs.YtaklmbhfmpdinaaGreat
open Tryz
open Go Go.RowKit Go.Inl
def sgnP (n m : Int) : Int := if m / 2 ≤ n then n - m else n
theorem sgn_low (w m : Int) : sgnP (w % m) m = lowP w m true := by
 unfold sgnP lowP
 by_cases h : m / 2 ≤ w % m
 · rw [if_pos h, if_pos (by simp [h])]
 · rw [if_neg h, if_neg (by simp [h])]
theorem zu {w at_ : Int} : decI w at_ = if octP w 0 = 0 ∨ 8 < octP w 0 then dataI w
 else if badR w (octP w 0) = true then dataI w
 else ⟨octP w 0, if 0 < regsP (octP w 0) then octP w 1 else 0, if 1 < regsP (octP w 0) then octP w 2 else 0, if 2 < regsP (octP w 0) then octP w 3 else 0,
  if targP (octP w 0) = true then at_ + 4 * lowI w (octP w 0) else lowI w (octP w 0)⟩ := rfl
theorem dec_3 {w at_ : Int} (h : octP w 0 = 1 ∨ octP w 0 = 3 ∨ octP w 0 = 4) (hb : ¬ (15 < octP w 1 ∨ 15 < octP w 2 ∨ 15 < octP w 3)) : decI w at_ = ⟨octP w 0, octP w 1, octP w 2, octP w 3, 0⟩ := by
 rw [zu]
 rcases h with h | h | h <;> rw [h] <;> simp [badR, regsP, targP, lowI, bitsP] <;> omega
theorem zb {w at_ : Int} (h : octP w 0 = 1 ∨ octP w 0 = 3 ∨ octP w 0 = 4) (hb : 15 < octP w 1 ∨ 15 < octP w 2 ∨ 15 < octP w 3) : decI w at_ = dataI w := by
 rw [zu]
 rcases h with h | h | h <;> rw [h] <;> simp [badR, regsP] <;> omega
theorem dec_j {w at_ : Int} (h : octP w 0 = 5 ∨ octP w 0 = 6) : decI w at_ = ⟨octP w 0, 0, 0, 0, at_ + 4 * sgnP (w % 16777216) 16777216⟩ := by
 rw [zu, sgn_low]
 rcases h with h | h <;> rw [h] <;> simp [badR, regsP, targP, lowI, bitsP, signP]
theorem zc {w at_ : Int} (h : octP w 0 = 2 ∨ octP w 0 = 7 ∨ octP w 0 = 8) (hb : 15 < octP w 1) : decI w at_ = dataI w := by
 rw [zu]
 rcases h with h | h | h <;> rw [h] <;> simp [badR, regsP, hb]
theorem dec_2 {w at_ : Int} (h : octP w 0 = 2) (hb : ¬ 15 < octP w 1) : decI w at_ = ⟨octP w 0, octP w 1, 0, 0, w % 65536⟩ := by
 rw [zu, h]; simp [badR, regsP, targP, lowI, bitsP, signP, lowP, hb]
theorem dec_7 {w at_ : Int} (h : octP w 0 = 7) (hb : ¬ 15 < octP w 1) : decI w at_ = ⟨octP w 0, octP w 1, 0, 0, at_ + 4 * sgnP (w % 65536) 65536⟩ := by
 rw [zu, sgn_low, h]; simp [badR, regsP, targP, lowI, bitsP, signP, hb]
theorem dec_8 {w at_ : Int} (h : octP w 0 = 8) (hb : ¬ 15 < octP w 1) : decI w at_ = ⟨octP w 0, octP w 1, 0, 0, at_ + 4 * (w % 65536)⟩ := by
 rw [zu, h]; simp [badR, regsP, targP, lowI, bitsP, signP, lowP, hb]
def refW (x : InstL) (at_ : Int) : Int := x.op * 16777216 + (if x.op = 5 ∨ x.op = 6 then (x.n - at_).tdiv 4 else x.a * 65536 + (x.n - at_).tdiv 4 % 65536) % 16777216
theorem kD {x : InstL} {at_ : Int} (h : x.op = 5 ∨ x.op = 6) : refW x at_ = x.op * 16777216 + (x.n - at_).tdiv 4 % 16777216 := by unfold refW; rw [if_pos h]
theorem jR {x : InstL} {at_ : Int} (h : ¬ (x.op = 5 ∨ x.op = 6)) : refW x at_ = x.op * 16777216 + (x.a * 65536 + (x.n - at_).tdiv 4 % 65536) % 16777216 := by unfold refW; rw [if_neg h]
def Lnkd (x : InstL) : Prop := (5 ≤ x.op ∧ x.op ≤ 8) ∧ (0 ≤ x.a ∧ x.a ≤ 255) ∧ x.b = 0 ∧ x.c = 0 ∧ (x.op = 5 ∨ x.op = 6 → x.a = 0)
theorem refW_b {x : InstL} (h : Lnkd x) (at_ : Int) : 0 ≤ refW x at_ ∧ refW x at_ < 4294967296 := by
 obtain ⟨h1, _⟩ := h
 unfold refW; omega
theorem refW_enc {x : InstL} {at_ w : Int} (h : Lnkd x) (he : Inl.encI x at_ = some w) : refW x at_ = w := by
 obtain ⟨hd, h0, h1⟩ := kP he
 obtain ⟨⟨h5, h8⟩, ⟨ha0, ha1⟩, hb, hc, ha⟩ := h
 have hE : encW x at_ = w := by
  unfold Inl.encI at he
  split at he
  · exact Option.some.inj he
  · cases he
 have hn : (x.n - at_) % 4 = 0 := by
  have hop0 : (decI w at_).op = x.op := congrArg InstL.op hd
  have hn0 : (decI w at_).n = x.n := congrArg InstL.n hd
  rw [zu] at hop0 hn0
  by_cases g1 : octP w 0 = 0 ∨ 8 < octP w 0
  · rw [if_pos g1] at hop0; have : (0 : Int) = x.op := hop0; omega
  · by_cases g2 : badR w (octP w 0) = true
    · rw [if_neg g1, if_pos g2] at hop0; have : (0 : Int) = x.op := hop0; omega
    · rw [if_neg g1, if_neg g2] at hop0 hn0
      dsimp only at hop0 hn0
      rw [if_pos (by unfold targP; simp; omega)] at hn0
      omega
 have hdiv : (x.n - at_).tdiv 4 = (x.n - at_) / 4 := Int.tdiv_eq_ediv_of_dvd (Int.dvd_of_emod_eq_zero hn)
 rw [← hE]
 unfold refW encW
 rw [hdiv]
 have e : x.op = 5 ∨ x.op = 6 ∨ x.op = 7 ∨ x.op = 8 := by omega
 rcases e with e | e | e | e <;> rw [e] <;> simp [targP, bitsP, regsP] <;> omega
theorem refE {x : InstL} {at_ : Int} (h : Lnkd x) : Inl.encI x at_ = if instEq (decI (refW x at_) at_) x = true then some (refW x at_) else none := by
 have hb := refW_b h at_
 by_cases he : instEq (decI (refW x at_) at_) x = true
 · rw [if_pos he, ← ku.1 he]
   have := encI_decI (at_ := at_) hb.1 hb.2
   rw [this, ku.1 he]
 · rw [if_neg he]
   cases hc : Inl.encI x at_ with
   | none => rfl
   | some w =>
     have hw := refW_enc h hc
     rw [hw] at he
     exact absurd (ku.2 (kP hc).1) he
theorem signed24_c (n : Int) (w0 : World) (I0 : Imm) (hI : Sat I0 w0) (h0 : 0 ≤ n) (h1 : n < 16777216) : Ctr prog 84 [.int .i64 n, .int .i64 24] w0 (fun v w' => v = .int .i64 (sgnP n 16777216) ∧ Ext w0 I0 w' I0) := by
 refine fn (n := 15) func84 rfl rfl rfl ?_
 have hS := St.start hI
 refine QwR (qq hS (Qai rfl) (QoN (wpIn_seq (QwR (qq hS (Qmi rfl) ?_)))))
 refine qq hS (Qmi rfl) ?_
 refine qq hS (g_sub rfl rfl (by omega) (by omega)) ?_
 refine qq hS (qH (s := 23) (c := 8388608) rfl rfl rfl rfl (by rw [IntKind.wrap_i64]; rfl)) ?_
 refine qq hS (g_geq rfl rfl) ?_
 refine QoN ?_
 refine qh rfl ?_ ?_
 ·
  intro hc9
  try simp only [zA, zO, zN, zI, zF, zM, zT, zU] at hc9
  have e : sgnP n 16777216 = n - 16777216 := if_pos (by omega)
  refine QwR (qq hS (Qmi rfl) (qq hS (Qmi rfl) ?_))
  refine qq hS (qH (s := 24) (c := 16777216) rfl rfl rfl rfl (by rw [IntKind.wrap_i64]; rfl)) ?_
  refine qq hS (g_sub rfl rfl (by omega) (by omega)) ?_
  refine qq hS (Qai rfl) (QoN (wpIn_ret ?_))
  refine thenR ?_
  refine ret1 results84 (qd (v := .int .i64 _) rfl) ?_
  exact ⟨by rw [e], hS.nil⟩
 ·
  intro hc9
  try simp only [zA, zO, zN, zI, zF, zM, zT, zU] at hc9
  have e : sgnP n 16777216 = n := if_neg (by omega)
  refine wpIn_skip (thenN (QwR (qq hS (Qmi rfl) (qq hS (Qai rfl) (QoN ?_)))))
  refine wpIn_ret ?_
  refine ret1 results84 (qd (v := .int .i64 _) rfl) ?_
  exact ⟨by rw [e], hS.nil⟩
theorem signed16_c (n : Int) (w0 : World) (I0 : Imm) (hI : Sat I0 w0) (h0 : 0 ≤ n) (h1 : n < 65536) : Ctr prog 84 [.int .i64 n, .int .i64 16] w0 (fun v w' => v = .int .i64 (sgnP n 65536) ∧ Ext w0 I0 w' I0) := by
 refine fn (n := 15) func84 rfl rfl rfl ?_
 have hS := St.start hI
 refine QwR (qq hS (Qai rfl) (QoN (wpIn_seq (QwR (qq hS (Qmi rfl) ?_)))))
 refine qq hS (Qmi rfl) ?_
 refine qq hS (g_sub rfl rfl (by omega) (by omega)) ?_
 refine qq hS (qH (s := 15) (c := 32768) rfl rfl rfl rfl (by rw [IntKind.wrap_i64]; rfl)) ?_
 refine qq hS (g_geq rfl rfl) ?_
 refine QoN ?_
 refine qh rfl ?_ ?_
 ·
  intro hc9
  try simp only [zA, zO, zN, zI, zF, zM, zT, zU] at hc9
  have e : sgnP n 65536 = n - 65536 := if_pos (by omega)
  refine QwR (qq hS (Qmi rfl) (qq hS (Qmi rfl) ?_))
  refine qq hS (qH (s := 16) (c := 65536) rfl rfl rfl rfl (by rw [IntKind.wrap_i64]; rfl)) ?_
  refine qq hS (g_sub rfl rfl (by omega) (by omega)) ?_
  refine qq hS (Qai rfl) (QoN (wpIn_ret ?_))
  refine thenR ?_
  refine ret1 results84 (qd (v := .int .i64 _) rfl) ?_
  exact ⟨by rw [e], hS.nil⟩
 ·
  intro hc9
  try simp only [zA, zO, zN, zI, zF, zM, zT, zU] at hc9
  have e : sgnP n 65536 = n := if_neg (by omega)
  refine wpIn_skip (thenN (QwR (qq hS (Qmi rfl) (qq hS (Qai rfl) (QoN ?_)))))
  refine wpIn_ret ?_
  refine ret1 results84 (qd (v := .int .i64 _) rfl) ?_
  exact ⟨by rw [e], hS.nil⟩
set_option maxHeartbeats 1000000 in
theorem decR_c (wd at_ : Int) (w0 : World) (I0 : Imm) (hI : Sat I0 w0) (hw0 : 0 ≤ wd) (hw1 : wd < 4294967296) (ha0 : -1099511627776 ≤ at_) (ha1 : at_ ≤ 1099511627776) :
 Ctr prog 44 [.int .u32 wd, .int .i64 at_] w0 (fun v w' => v = instV (decI wd at_) ∧ Ext w0 I0 w' I0) := by
 have ho := oct_b wd 0
 have ho1 := oct_b wd 1
 have ho2 := oct_b wd 2
 have ho3 := oct_b wd 3
 have e0 := oct0 wd hw0 hw1
 have hlw : 256 * octP wd 2 + octP wd 3 = wd % 65536 := by rw [oct2, oct3]; omega
 have hlw2 : 65536 * octP wd 1 + wd % 65536 = wd % 16777216 := by rw [oct1]; omega
 have hsb : -8388608 ≤ sgnP (wd % 16777216) 16777216 ∧ sgnP (wd % 16777216) 16777216 ≤ 16777215 := by unfold sgnP; split <;> omega
 have hsb2 : -65536 ≤ sgnP (wd % 65536) 65536 ∧ sgnP (wd % 65536) 65536 ≤ 65535 := by unfold sgnP; split <;> omega
 refine fn (n := 95) func44 rfl rfl rfl ?_
 have hS := St.start hI
 refine QwR ?_
 refine qe (qk (cs := [.int .i64 _, .int .i64 _, .int .i64 _, .int .i64 _, .int .i64 _]) hS zeroValue63 rfl) ?_
 clear hS
 rintro _ w_1 ⟨b4, rfl, hS⟩
 refine QoR (qq hS (Qmw rfl) ?_)
 refine qq hS (jo (s := 24) (c := octP wd 0) rfl rfl rfl rfl (by rw [e0]; rfl)) ?_
 refine qq hS (qD underlying58 underlying3 rfl (by omega) (by omega)) ?_
 refine qq hS (Qmw rfl) ?_
 refine qq hS (jo (s := 16) (c := wd / 65536) rfl rfl rfl rfl rfl) ?_
 refine qq hS (qQ (m := 8) (c := octP wd 1) rfl rfl rfl rfl (by rw [IntKind.wrap_u32]; show octP wd 1 % 4294967296 = _; omega)) ?_
 refine qq hS (qD underlying58 underlying3 rfl (by omega) (by omega)) ?_
 refine qq hS (Qmw rfl) ?_
 refine qq hS (jo (s := 8) (c := wd / 256) rfl rfl rfl rfl rfl) ?_
 refine qq hS (qQ (m := 8) (c := octP wd 2) rfl rfl rfl rfl (by rw [IntKind.wrap_u32]; show octP wd 2 % 4294967296 = _; omega)) ?_
 refine qq hS (qD underlying58 underlying3 rfl (by omega) (by omega)) ?_
 refine qq hS (Qmw rfl) ?_
 refine qq hS (qQ (m := 8) (c := octP wd 3) rfl rfl rfl rfl (by rw [oct3, IntKind.wrap_u32]; omega)) ?_
 refine qq hS (qD underlying58 underlying3 rfl (by omega) (by omega)) ?_
 refine qq hS (Qai rfl) (qq hS (Qai rfl) (qq hS (Qai rfl) (qq hS (Qai rfl) (QoR (qq hS (Qmi rfl) ?_)))))
 refine qq hS (g_mul rfl rfl (by omega) (by omega)) ?_
 refine qq hS (Qmi rfl) ?_
 refine qq hS (g_toV (g_add rfl rfl (by omega) (by omega)) (congrArg (Value.int .i64) hlw)) ?_
 refine qq hS (Qai rfl) (QoR (qq hS (Qmw rfl) ?_))
 refine qq hS (qD underlying58 underlying3 rfl (by omega) (by omega)) ?_
 refine qq hS (qm (pl := [(0, 1), (1, 1), (2, 1), (3, 1), (4, 1)]) (cs := [.int .i64 _, .int .i64 _, .int .i64 _, .int .i64 _, .int .i64 _]) zeroValue63 underlying63 (fun w => by simp [sizeOf3]) (mp (v := .int .i64 _) rfl (mp (v := .int .i64 _) rfl mp0)) rfl) ?_
 refine qe (qk (cs := [.int .i64 _, .int .i64 _, .int .i64 _, .int .i64 _, .int .i64 _]) hS zeroValue63 rfl) ?_
 clear hS
 rintro _ w_2 ⟨b10, rfl, hS⟩
 refine qe (qg 0 hS sizeOf63 rfl rfl rfl (vs := [.int .i64 _, .int .i64 _, .int .i64 _, .int .i64 _, .int .i64 _]) rfl rfl rfl (Nat.le_of_ble_eq_true rfl) (cs' := [_, _, _, _, _]) rfl) ?_
 clear hS
 rintro _ w_3 ⟨rfl, hS⟩
 refine QoN (wpIn_seq (QwR (qq hS (Qmi rfl) (QoN (wpIn_block ?_)))))
 refine meet (fun σ w => okS σ [(0, .int .u32 wd), (1, .int .i64 at_), (4, .pointer (some ⟨b4, 0, none⟩)), (5, .int .i64 (octP wd 0)), (6, .int .i64 (octP wd 1)), (7, .int .i64 (octP wd 2)), (8, .int .i64 (octP wd 3)), (9, .int .i64 (wd % 65536)), (10, .pointer (some ⟨b10, 0, none⟩)), (33, .int .i64 (octP wd 0)), (34, .bool (decide (octP wd 0 = 1 ∨ octP wd 0 = 3 ∨ octP wd 0 = 4)))] ∧ St [] w0 I0 I0 w [.cel b10 63 [.int .i64 0, .int .i64 0, .int .i64 0, .int .i64 0, .int .i64 wd], .cel b4 63 [.int .i64 0, .int .i64 0, .int .i64 0, .int .i64 0, .int .i64 0]]) ?_ ?_
 ·
  refine QwR ?_
  refine qq hS (g_eql rfl rfl) ?_
  refine qq hS (Qab rfl) (QoN ?_)
  refine qh rfl ?_ ?_
  ·
   intro hc34
   try simp only [zA, zO, zN, zI, zF, zM, zT, zU] at hc34
   refine wpIn_skip (thenN ?_)
   exact ⟨_, rfl, ⟨rfl, rfl, rfl, rfl, rfl, rfl, rfl, rfl, rfl, rfl, congrArg Value.bool (decide_eq_decide.2 (by omega)), trivial⟩, hS.sel [true, true]⟩
  ·
   intro hc34
   try simp only [zA, zO, zN, zI, zF, zM, zT, zU] at hc34
   refine QwR ?_
   refine qq hS (g_eql rfl rfl) ?_
   refine qq hS (Qab rfl) (QoN ?_)
   refine qh rfl ?_ ?_
   ·
    intro hc34_2
    try simp only [zA, zO, zN, zI, zF, zM, zT, zU] at hc34_2
    refine wpIn_skip (thenN ?_)
    exact ⟨_, rfl, ⟨rfl, rfl, rfl, rfl, rfl, rfl, rfl, rfl, rfl, rfl, congrArg Value.bool (decide_eq_decide.2 (by omega)), trivial⟩, hS.sel [true, true]⟩
   ·
    intro hc34_2
    try simp only [zA, zO, zN, zI, zF, zM, zT, zU] at hc34_2
    refine reg ?_
    refine qq hS (g_eql rfl rfl) ?_
    refine qq hS (Qab rfl) (QoN ?_)
    exact ⟨_, rfl, ⟨rfl, rfl, rfl, rfl, rfl, rfl, rfl, rfl, rfl, rfl, congrArg Value.bool (decide_eq_decide.2 (by omega)), trivial⟩, hS.sel [true, true]⟩
 ·
  rintro σ w_j ⟨hs, hS⟩
  rw [← qj hs]
  refine qh rfl ?_ ?_
  ·
   intro hc34_3
   try simp only [zA, zO, zN, zI, zF, zM, zT, zU] at hc34_3
   refine wpIn_seq (QwR (qq hS (Qmi rfl) ?_))
   refine qq hS (g_gtr rfl rfl) ?_
   refine qq hS (Qmb rfl) ?_
   refine qu rfl rfl hS (fun hg => (Qmi rfl)) ?_
   intro u41 hu41 hn41
   refine qu rfl rfl hS (fun hg => (g_gtr (hu41 hg) rfl)) ?_
   intro u42 hu42 hn42
   refine qq hS (g_or rfl rfl (fun hq => hu42 hq)) ?_
   refine qq hS (Qmb rfl) ?_
   refine qu rfl rfl hS (fun hg => (Qmi rfl)) ?_
   intro u45 hu45 hn45
   refine qu rfl rfl hS (fun hg => (g_gtr (hu45 hg) rfl)) ?_
   intro u46 hu46 hn46
   refine qq hS (g_or rfl rfl (fun hq => hu46 hq)) ?_
   refine QoN ?_
   refine qh rfl ?_ ?_
   ·
    intro hc47
    clear hu41 hn41 hu42 hn42 hu45 hn45 hu46 hn46
    try simp only [zA, zO, zN, zI, zF, zM, zT, zU] at hc47
    refine QwR ?_
    refine qq hS (g_ldO 0 (vs := [.int .i64 _, .int .i64 _, .int .i64 _, .int .i64 _, .int .i64 _]) sizeOf63 isAgg63 rfl rfl rfl rfl) ?_
    refine qe (qg 1 hS sizeOf63 rfl rfl rfl (vs := [.int .i64 _, .int .i64 _, .int .i64 _, .int .i64 _, .int .i64 _]) rfl rfl rfl (Nat.le_of_ble_eq_true rfl)  rfl) ?_
    clear hS
    rintro _ w_4 ⟨rfl, hS⟩
    refine QoN (wpIn_ret ?_)
    refine thenR (blkR (thenR ?_))
    refine ret1 results44 (qs 1 hS sizeOf63 isAgg63 rfl rfl rfl) ?_
    first
     | exact ⟨by rw [jt (w := wd) (at_ := at_) (by omega)]; rfl, hS.nil⟩
     | exact ⟨by rw [zb (w := wd) (at_ := at_) (by omega) (by omega)]; rfl, hS.nil⟩
     | exact ⟨by rw [dec_3 (w := wd) (at_ := at_) (by omega) (by omega)]; rfl, hS.nil⟩
     | exact ⟨by rw [dec_j (w := wd) (at_ := at_) (by omega)]; rfl, hS.nil⟩
     | exact ⟨by rw [zc (w := wd) (at_ := at_) (by omega) (by omega)]; rfl, hS.nil⟩
     | exact ⟨by rw [dec_2 (w := wd) (at_ := at_) (by omega) (by omega)]; rfl, hS.nil⟩
     | exact ⟨by rw [dec_7 (w := wd) (at_ := at_) (by omega) (by omega)]; rfl, hS.nil⟩
     | exact ⟨by rw [dec_8 (w := wd) (at_ := at_) (by omega) (by omega)]; rfl, hS.nil⟩
     | (exfalso; omega)
   ·
    intro hc47
    clear hu41 hn41 hu42 hn42 hu45 hn45 hu46 hn46
    try simp only [zA, zO, zN, zI, zF, zM, zT, zU] at hc47
    refine wpIn_skip (thenN (QwR (qq hS (Qmi rfl) (qq hS (Qmi rfl) (qq hS (Qmi rfl) ?_)))))
    refine qq hS (Qmi rfl) ?_
    refine qq hS (qm (pl := [(0, 1), (1, 1), (2, 1), (3, 1), (4, 1)]) (cs := [.int .i64 _, .int .i64 _, .int .i64 _, .int .i64 _, .int .i64 _]) zeroValue63 underlying63 (fun w => by simp [sizeOf3]) (mp (v := .int .i64 _) rfl (mp (v := .int .i64 _) rfl (mp (v := .int .i64 _) rfl (mp (v := .int .i64 _) rfl mp0)))) rfl) ?_
    refine qe (qg 1 hS sizeOf63 rfl rfl rfl (vs := [.int .i64 _, .int .i64 _, .int .i64 _, .int .i64 _, .int .i64 _]) rfl rfl rfl (Nat.le_of_ble_eq_true rfl)  rfl) ?_
    clear hS
    rintro _ w_5 ⟨rfl, hS⟩
    refine QoN (wpIn_ret ?_)
    refine blkR (thenR ?_)
    refine ret1 results44 (qs 1 hS sizeOf63 isAgg63 rfl rfl rfl) ?_
    first
     | exact ⟨by rw [jt (w := wd) (at_ := at_) (by omega)]; rfl, hS.nil⟩
     | exact ⟨by rw [zb (w := wd) (at_ := at_) (by omega) (by omega)]; rfl, hS.nil⟩
     | exact ⟨by rw [dec_3 (w := wd) (at_ := at_) (by omega) (by omega)]; rfl, hS.nil⟩
     | exact ⟨by rw [dec_j (w := wd) (at_ := at_) (by omega)]; rfl, hS.nil⟩
     | exact ⟨by rw [zc (w := wd) (at_ := at_) (by omega) (by omega)]; rfl, hS.nil⟩
     | exact ⟨by rw [dec_2 (w := wd) (at_ := at_) (by omega) (by omega)]; rfl, hS.nil⟩
     | exact ⟨by rw [dec_7 (w := wd) (at_ := at_) (by omega) (by omega)]; rfl, hS.nil⟩
     | exact ⟨by rw [dec_8 (w := wd) (at_ := at_) (by omega) (by omega)]; rfl, hS.nil⟩
     | (exfalso; omega)
  ·
   intro hc34_3
   try simp only [zA, zO, zN, zI, zF, zM, zT, zU] at hc34_3
   refine meet (fun σ w => okS σ [(0, .int .u32 wd), (1, .int .i64 at_), (4, .pointer (some ⟨b4, 0, none⟩)), (5, .int .i64 (octP wd 0)), (6, .int .i64 (octP wd 1)), (7, .int .i64 (octP wd 2)), (8, .int .i64 (octP wd 3)), (9, .int .i64 (wd % 65536)), (10, .pointer (some ⟨b10, 0, none⟩)), (33, .int .i64 (octP wd 0)), (54, .bool (decide (octP wd 0 = 5 ∨ octP wd 0 = 6)))] ∧ St [] w0 I0 I0 w [.cel b10 63 [.int .i64 0, .int .i64 0, .int .i64 0, .int .i64 0, .int .i64 wd], .cel b4 63 [.int .i64 0, .int .i64 0, .int .i64 0, .int .i64 0, .int .i64 0]]) ?_ ?_
   ·
    refine QwR ?_
    refine qq hS (g_eql rfl rfl) ?_
    refine qq hS (Qab rfl) (QoN ?_)
    refine qh rfl ?_ ?_
    ·
     intro hc54
     try simp only [zA, zO, zN, zI, zF, zM, zT, zU] at hc54
     refine wpIn_skip (thenN ?_)
     exact ⟨_, rfl, ⟨rfl, rfl, rfl, rfl, rfl, rfl, rfl, rfl, rfl, rfl, congrArg Value.bool (decide_eq_decide.2 (by omega)), trivial⟩, hS.sel [true, true]⟩
    ·
     intro hc54
     try simp only [zA, zO, zN, zI, zF, zM, zT, zU] at hc54
     refine reg ?_
     refine qq hS (g_eql rfl rfl) ?_
     refine qq hS (Qab rfl) (QoN ?_)
     exact ⟨_, rfl, ⟨rfl, rfl, rfl, rfl, rfl, rfl, rfl, rfl, rfl, rfl, congrArg Value.bool (decide_eq_decide.2 (by omega)), trivial⟩, hS.sel [true, true]⟩
   ·
    rintro σ w_j ⟨hs, hS⟩
    rw [← qj hs]
    refine qh rfl ?_ ?_
    ·
     intro hc54_2
     try simp only [zA, zO, zN, zI, zF, zM, zT, zU] at hc54_2
     refine QwR (qq hS (Qmi rfl) (qq hS (Qmi rfl) (qq hS (Qmi rfl) ?_)))
     refine qq hS (g_mul rfl rfl (by omega) (by omega)) ?_
     refine qq hS (Qmi rfl) ?_
     refine qq hS (g_toV (g_add rfl rfl (by omega) (by omega)) (congrArg (Value.int .i64) hlw2)) ?_
     refine qe (qi call84 rfl (signed24_c (wd % 16777216) _ I0 hS.imm (by omega) (by omega))) ?_
     rintro _ w_6 ⟨rfl, hE⟩
     replace hS := hS.callE hE
     refine qq hS (g_mul rfl rfl (by omega) (by omega)) ?_
     refine qq hS (g_add rfl rfl (by omega) (by omega)) ?_
     refine qq hS (qm (pl := [(0, 1), (1, 1), (2, 1), (3, 1), (4, 1)]) (cs := [.int .i64 _, .int .i64 _, .int .i64 _, .int .i64 _, .int .i64 _]) zeroValue63 underlying63 (fun w => by simp [sizeOf3]) (mp (v := .int .i64 _) rfl (mp (v := .int .i64 _) rfl mp0)) rfl) ?_
     refine qe (qg 1 hS sizeOf63 rfl rfl rfl (vs := [.int .i64 _, .int .i64 _, .int .i64 _, .int .i64 _, .int .i64 _]) rfl rfl rfl (Nat.le_of_ble_eq_true rfl)  rfl) ?_
     clear hS
     rintro _ w_7 ⟨rfl, hS⟩
     refine QoN (wpIn_ret ?_)
     refine blkR (thenR ?_)
     refine ret1 results44 (qs 1 hS sizeOf63 isAgg63 rfl rfl rfl) ?_
     first
      | exact ⟨by rw [jt (w := wd) (at_ := at_) (by omega)]; rfl, hS.nil⟩
      | exact ⟨by rw [zb (w := wd) (at_ := at_) (by omega) (by omega)]; rfl, hS.nil⟩
      | exact ⟨by rw [dec_3 (w := wd) (at_ := at_) (by omega) (by omega)]; rfl, hS.nil⟩
      | exact ⟨by rw [dec_j (w := wd) (at_ := at_) (by omega)]; rfl, hS.nil⟩
      | exact ⟨by rw [zc (w := wd) (at_ := at_) (by omega) (by omega)]; rfl, hS.nil⟩
      | exact ⟨by rw [dec_2 (w := wd) (at_ := at_) (by omega) (by omega)]; rfl, hS.nil⟩
      | exact ⟨by rw [dec_7 (w := wd) (at_ := at_) (by omega) (by omega)]; rfl, hS.nil⟩
      | exact ⟨by rw [dec_8 (w := wd) (at_ := at_) (by omega) (by omega)]; rfl, hS.nil⟩
      | (exfalso; omega)
    ·
     intro hc54_2
     try simp only [zA, zO, zN, zI, zF, zM, zT, zU] at hc54_2
     refine meet (fun σ w => okS σ [(0, .int .u32 wd), (1, .int .i64 at_), (4, .pointer (some ⟨b4, 0, none⟩)), (5, .int .i64 (octP wd 0)), (6, .int .i64 (octP wd 1)), (7, .int .i64 (octP wd 2)), (8, .int .i64 (octP wd 3)), (9, .int .i64 (wd % 65536)), (10, .pointer (some ⟨b10, 0, none⟩)), (33, .int .i64 (octP wd 0)), (67, .bool (decide (octP wd 0 = 2 ∨ octP wd 0 = 7 ∨ octP wd 0 = 8)))] ∧ St [] w0 I0 I0 w [.cel b10 63 [.int .i64 0, .int .i64 0, .int .i64 0, .int .i64 0, .int .i64 wd], .cel b4 63 [.int .i64 0, .int .i64 0, .int .i64 0, .int .i64 0, .int .i64 0]]) ?_ ?_
     ·
      refine QwR ?_
      refine qq hS (g_eql rfl rfl) ?_
      refine qq hS (Qab rfl) (QoN ?_)
      refine qh rfl ?_ ?_
      ·
       intro hc67
       try simp only [zA, zO, zN, zI, zF, zM, zT, zU] at hc67
       refine wpIn_skip (thenN ?_)
       exact ⟨_, rfl, ⟨rfl, rfl, rfl, rfl, rfl, rfl, rfl, rfl, rfl, rfl, congrArg Value.bool (decide_eq_decide.2 (by omega)), trivial⟩, hS.sel [true, true]⟩
      ·
       intro hc67
       try simp only [zA, zO, zN, zI, zF, zM, zT, zU] at hc67
       refine QwR ?_
       refine qq hS (g_eql rfl rfl) ?_
       refine qq hS (Qab rfl) (QoN ?_)
       refine qh rfl ?_ ?_
       ·
        intro hc67_2
        try simp only [zA, zO, zN, zI, zF, zM, zT, zU] at hc67_2
        refine wpIn_skip (thenN ?_)
        exact ⟨_, rfl, ⟨rfl, rfl, rfl, rfl, rfl, rfl, rfl, rfl, rfl, rfl, congrArg Value.bool (decide_eq_decide.2 (by omega)), trivial⟩, hS.sel [true, true]⟩
       ·
        intro hc67_2
        try simp only [zA, zO, zN, zI, zF, zM, zT, zU] at hc67_2
        refine reg ?_
        refine qq hS (g_eql rfl rfl) ?_
        refine qq hS (Qab rfl) (QoN ?_)
        exact ⟨_, rfl, ⟨rfl, rfl, rfl, rfl, rfl, rfl, rfl, rfl, rfl, rfl, congrArg Value.bool (decide_eq_decide.2 (by omega)), trivial⟩, hS.sel [true, true]⟩
     ·
      rintro σ w_j ⟨hs, hS⟩
      rw [← qj hs]
      refine qh rfl ?_ ?_
      ·
       intro hc67_3
       try simp only [zA, zO, zN, zI, zF, zM, zT, zU] at hc67_3
       refine wpIn_seq (QwR (qq hS (Qmi rfl) ?_))
       refine qq hS (g_gtr rfl rfl) ?_
       refine QoN ?_
       refine qh rfl ?_ ?_
       ·
        intro hc72
        try simp only [zA, zO, zN, zI, zF, zM, zT, zU] at hc72
        refine QwR ?_
        refine qq hS (g_ldO 0 (vs := [.int .i64 _, .int .i64 _, .int .i64 _, .int .i64 _, .int .i64 _]) sizeOf63 isAgg63 rfl rfl rfl rfl) ?_
        refine qe (qg 1 hS sizeOf63 rfl rfl rfl (vs := [.int .i64 _, .int .i64 _, .int .i64 _, .int .i64 _, .int .i64 _]) rfl rfl rfl (Nat.le_of_ble_eq_true rfl)  rfl) ?_
        clear hS
        rintro _ w_8 ⟨rfl, hS⟩
        refine QoN (wpIn_ret ?_)
        refine thenR (blkR (thenR ?_))
        refine ret1 results44 (qs 1 hS sizeOf63 isAgg63 rfl rfl rfl) ?_
        first
         | exact ⟨by rw [jt (w := wd) (at_ := at_) (by omega)]; rfl, hS.nil⟩
         | exact ⟨by rw [zb (w := wd) (at_ := at_) (by omega) (by omega)]; rfl, hS.nil⟩
         | exact ⟨by rw [dec_3 (w := wd) (at_ := at_) (by omega) (by omega)]; rfl, hS.nil⟩
         | exact ⟨by rw [dec_j (w := wd) (at_ := at_) (by omega)]; rfl, hS.nil⟩
         | exact ⟨by rw [zc (w := wd) (at_ := at_) (by omega) (by omega)]; rfl, hS.nil⟩
         | exact ⟨by rw [dec_2 (w := wd) (at_ := at_) (by omega) (by omega)]; rfl, hS.nil⟩
         | exact ⟨by rw [dec_7 (w := wd) (at_ := at_) (by omega) (by omega)]; rfl, hS.nil⟩
         | exact ⟨by rw [dec_8 (w := wd) (at_ := at_) (by omega) (by omega)]; rfl, hS.nil⟩
         | (exfalso; omega)
       ·
        intro hc72
        try simp only [zA, zO, zN, zI, zF, zM, zT, zU] at hc72
        refine wpIn_skip (thenN (QwR (qq hS (Qmi rfl) (qq hS (Qmi rfl) (qq hS (Qmi rfl) ?_)))))
        refine qq hS (qm (pl := [(0, 1), (1, 1), (2, 1), (3, 1), (4, 1)]) (cs := [.int .i64 _, .int .i64 _, .int .i64 _, .int .i64 _, .int .i64 _]) zeroValue63 underlying63 (fun w => by simp [sizeOf3]) (mp (v := .int .i64 _) rfl (mp (v := .int .i64 _) rfl (mp (v := .int .i64 _) rfl mp0))) rfl) ?_
        refine qe (qk (cs := [.int .i64 _, .int .i64 _, .int .i64 _, .int .i64 _, .int .i64 _]) hS zeroValue63 rfl) ?_
        clear hS
        rintro _ w_9 ⟨b11, rfl, hS⟩
        refine qe (qg 0 hS sizeOf63 rfl rfl rfl (vs := [.int .i64 _, .int .i64 _, .int .i64 _, .int .i64 _, .int .i64 _]) rfl rfl rfl (Nat.le_of_ble_eq_true rfl) (cs' := [_, _, _, _, _]) rfl) ?_
        clear hS
        rintro _ w_10 ⟨rfl, hS⟩
        refine QoN (wpIn_seq (QwR (qq hS (Qmi rfl) ?_)))
        refine qq hS (g_eql rfl rfl) ?_
        refine QoN ?_
        refine qh rfl ?_ ?_
        ·
         intro hc79
         try simp only [zA, zO, zN, zI, zF, zM, zT, zU] at hc79
         refine reg (qq hS (Qmi rfl) (qq hS (Qmi rfl) ?_))
         refine qe (qi call84 rfl (signed16_c (wd % 65536) _ I0 hS.imm (by omega) (by omega))) ?_
         rintro _ w_11 ⟨rfl, hE⟩
         replace hS := hS.callE hE
         refine qq hS (g_mul rfl rfl (by omega) (by omega)) ?_
         refine qq hS (g_add rfl rfl (by omega) (by omega)) ?_
         refine qq hS (qa (o' := 4) underlying63 rfl sizeOf3 rfl rfl rfl) ?_
         refine qe (qg 0 hS sizeOf3 rfl rfl rfl (vs := [.int .i64 _]) rfl rfl rfl (Nat.le_of_ble_eq_true rfl) (cs' := [_, _, _, _, _]) rfl) ?_
         clear hS
         rintro _ w_12 ⟨rfl, hS⟩
         refine QoN (wpIn_seq (QwR (qq hS (Qmi rfl) ?_)))
         refine qq hS (g_eql rfl rfl) ?_
         refine QoN ?_
         refine qh rfl ?_ ?_
         ·
          intro hc87
          try simp only [zA, zO, zN, zI, zF, zM, zT, zU] at hc87
          refine reg (qq hS (Qmi rfl) (qq hS (Qmi rfl) ?_))
          refine qq hS (g_mul rfl rfl (by omega) (by omega)) ?_
          refine qq hS (g_add rfl rfl (by omega) (by omega)) ?_
          refine qq hS (qa (o' := 4) underlying63 rfl sizeOf3 rfl rfl rfl) ?_
          refine qe (qg 0 hS sizeOf3 rfl rfl rfl (vs := [.int .i64 _]) rfl rfl rfl (Nat.le_of_ble_eq_true rfl) (cs' := [_, _, _, _, _]) rfl) ?_
          clear hS
          rintro _ w_13 ⟨rfl, hS⟩
          refine QoR ?_
          refine qq hS (g_ldO 0 (vs := [.int .i64 _, .int .i64 _, .int .i64 _, .int .i64 _, .int .i64 _]) sizeOf63 isAgg63 rfl rfl rfl rfl) ?_
          refine qe (qg 2 hS sizeOf63 rfl rfl rfl (vs := [.int .i64 _, .int .i64 _, .int .i64 _, .int .i64 _, .int .i64 _]) rfl rfl rfl (Nat.le_of_ble_eq_true rfl)  rfl) ?_
          clear hS
          rintro _ w_14 ⟨rfl, hS⟩
          refine QoN (wpIn_ret ?_)
          refine blkR (thenR ?_)
          refine ret1 results44 (qs 2 hS sizeOf63 isAgg63 rfl rfl rfl) ?_
          first
           | exact ⟨by rw [jt (w := wd) (at_ := at_) (by omega)]; rfl, hS.nil⟩
           | exact ⟨by rw [zb (w := wd) (at_ := at_) (by omega) (by omega)]; rfl, hS.nil⟩
           | exact ⟨by rw [dec_3 (w := wd) (at_ := at_) (by omega) (by omega)]; rfl, hS.nil⟩
           | exact ⟨by rw [dec_j (w := wd) (at_ := at_) (by omega)]; rfl, hS.nil⟩
           | exact ⟨by rw [zc (w := wd) (at_ := at_) (by omega) (by omega)]; rfl, hS.nil⟩
           | exact ⟨by rw [dec_2 (w := wd) (at_ := at_) (by omega) (by omega)]; rfl, hS.nil⟩
           | exact ⟨by rw [dec_7 (w := wd) (at_ := at_) (by omega) (by omega)]; rfl, hS.nil⟩
           | exact ⟨by rw [dec_8 (w := wd) (at_ := at_) (by omega) (by omega)]; rfl, hS.nil⟩
           | (exfalso; omega)
         ·
          intro hc87
          try simp only [zA, zO, zN, zI, zF, zM, zT, zU] at hc87
          refine wpIn_skip (thenN (QwR ?_))
          refine qq hS (g_ldO 0 (vs := [.int .i64 _, .int .i64 _, .int .i64 _, .int .i64 _, .int .i64 _]) sizeOf63 isAgg63 rfl rfl rfl rfl) ?_
          refine qe (qg 2 hS sizeOf63 rfl rfl rfl (vs := [.int .i64 _, .int .i64 _, .int .i64 _, .int .i64 _, .int .i64 _]) rfl rfl rfl (Nat.le_of_ble_eq_true rfl)  rfl) ?_
          clear hS
          rintro _ w_15 ⟨rfl, hS⟩
          refine QoN (wpIn_ret ?_)
          refine blkR (thenR ?_)
          refine ret1 results44 (qs 2 hS sizeOf63 isAgg63 rfl rfl rfl) ?_
          first
           | exact ⟨by rw [jt (w := wd) (at_ := at_) (by omega)]; rfl, hS.nil⟩
           | exact ⟨by rw [zb (w := wd) (at_ := at_) (by omega) (by omega)]; rfl, hS.nil⟩
           | exact ⟨by rw [dec_3 (w := wd) (at_ := at_) (by omega) (by omega)]; rfl, hS.nil⟩
           | exact ⟨by rw [dec_j (w := wd) (at_ := at_) (by omega)]; rfl, hS.nil⟩
           | exact ⟨by rw [zc (w := wd) (at_ := at_) (by omega) (by omega)]; rfl, hS.nil⟩
           | exact ⟨by rw [dec_2 (w := wd) (at_ := at_) (by omega) (by omega)]; rfl, hS.nil⟩
           | exact ⟨by rw [dec_7 (w := wd) (at_ := at_) (by omega) (by omega)]; rfl, hS.nil⟩
           | exact ⟨by rw [dec_8 (w := wd) (at_ := at_) (by omega) (by omega)]; rfl, hS.nil⟩
           | (exfalso; omega)
        ·
         intro hc79
         try simp only [zA, zO, zN, zI, zF, zM, zT, zU] at hc79
         refine wpIn_skip (thenN (wpIn_seq (QwR (qq hS (Qmi rfl) ?_))))
         refine qq hS (g_eql rfl rfl) ?_
         refine QoN ?_
         refine qh rfl ?_ ?_
         ·
          intro hc87
          try simp only [zA, zO, zN, zI, zF, zM, zT, zU] at hc87
          refine reg (qq hS (Qmi rfl) (qq hS (Qmi rfl) ?_))
          refine qq hS (g_mul rfl rfl (by omega) (by omega)) ?_
          refine qq hS (g_add rfl rfl (by omega) (by omega)) ?_
          refine qq hS (qa (o' := 4) underlying63 rfl sizeOf3 rfl rfl rfl) ?_
          refine qe (qg 0 hS sizeOf3 rfl rfl rfl (vs := [.int .i64 _]) rfl rfl rfl (Nat.le_of_ble_eq_true rfl) (cs' := [_, _, _, _, _]) rfl) ?_
          clear hS
          rintro _ w_16 ⟨rfl, hS⟩
          refine QoR ?_
          refine qq hS (g_ldO 0 (vs := [.int .i64 _, .int .i64 _, .int .i64 _, .int .i64 _, .int .i64 _]) sizeOf63 isAgg63 rfl rfl rfl rfl) ?_
          refine qe (qg 2 hS sizeOf63 rfl rfl rfl (vs := [.int .i64 _, .int .i64 _, .int .i64 _, .int .i64 _, .int .i64 _]) rfl rfl rfl (Nat.le_of_ble_eq_true rfl)  rfl) ?_
          clear hS
          rintro _ w_17 ⟨rfl, hS⟩
          refine QoN (wpIn_ret ?_)
          refine blkR (thenR ?_)
          refine ret1 results44 (qs 2 hS sizeOf63 isAgg63 rfl rfl rfl) ?_
          first
           | exact ⟨by rw [jt (w := wd) (at_ := at_) (by omega)]; rfl, hS.nil⟩
           | exact ⟨by rw [zb (w := wd) (at_ := at_) (by omega) (by omega)]; rfl, hS.nil⟩
           | exact ⟨by rw [dec_3 (w := wd) (at_ := at_) (by omega) (by omega)]; rfl, hS.nil⟩
           | exact ⟨by rw [dec_j (w := wd) (at_ := at_) (by omega)]; rfl, hS.nil⟩
           | exact ⟨by rw [zc (w := wd) (at_ := at_) (by omega) (by omega)]; rfl, hS.nil⟩
           | exact ⟨by rw [dec_2 (w := wd) (at_ := at_) (by omega) (by omega)]; rfl, hS.nil⟩
           | exact ⟨by rw [dec_7 (w := wd) (at_ := at_) (by omega) (by omega)]; rfl, hS.nil⟩
           | exact ⟨by rw [dec_8 (w := wd) (at_ := at_) (by omega) (by omega)]; rfl, hS.nil⟩
           | (exfalso; omega)
         ·
          intro hc87
          try simp only [zA, zO, zN, zI, zF, zM, zT, zU] at hc87
          refine wpIn_skip (thenN (QwR ?_))
          refine qq hS (g_ldO 0 (vs := [.int .i64 _, .int .i64 _, .int .i64 _, .int .i64 _, .int .i64 _]) sizeOf63 isAgg63 rfl rfl rfl rfl) ?_
          refine qe (qg 2 hS sizeOf63 rfl rfl rfl (vs := [.int .i64 _, .int .i64 _, .int .i64 _, .int .i64 _, .int .i64 _]) rfl rfl rfl (Nat.le_of_ble_eq_true rfl)  rfl) ?_
          clear hS
          rintro _ w_18 ⟨rfl, hS⟩
          refine QoN (wpIn_ret ?_)
          refine blkR (thenR ?_)
          refine ret1 results44 (qs 2 hS sizeOf63 isAgg63 rfl rfl rfl) ?_
          first
           | exact ⟨by rw [jt (w := wd) (at_ := at_) (by omega)]; rfl, hS.nil⟩
           | exact ⟨by rw [zb (w := wd) (at_ := at_) (by omega) (by omega)]; rfl, hS.nil⟩
           | exact ⟨by rw [dec_3 (w := wd) (at_ := at_) (by omega) (by omega)]; rfl, hS.nil⟩
           | exact ⟨by rw [dec_j (w := wd) (at_ := at_) (by omega)]; rfl, hS.nil⟩
           | exact ⟨by rw [zc (w := wd) (at_ := at_) (by omega) (by omega)]; rfl, hS.nil⟩
           | exact ⟨by rw [dec_2 (w := wd) (at_ := at_) (by omega) (by omega)]; rfl, hS.nil⟩
           | exact ⟨by rw [dec_7 (w := wd) (at_ := at_) (by omega) (by omega)]; rfl, hS.nil⟩
           | exact ⟨by rw [dec_8 (w := wd) (at_ := at_) (by omega) (by omega)]; rfl, hS.nil⟩
           | (exfalso; omega)
      ·
       intro hc67_3
       try simp only [zA, zO, zN, zI, zF, zM, zT, zU] at hc67_3
       refine wpIn_skip (blkN (thenN (QwR ?_)))
       refine qq hS (g_ldO 0 (vs := [.int .i64 _, .int .i64 _, .int .i64 _, .int .i64 _, .int .i64 _]) sizeOf63 isAgg63 rfl rfl rfl rfl) ?_
       refine qe (qg 1 hS sizeOf63 rfl rfl rfl (vs := [.int .i64 _, .int .i64 _, .int .i64 _, .int .i64 _, .int .i64 _]) rfl rfl rfl (Nat.le_of_ble_eq_true rfl)  rfl) ?_
       clear hS
       rintro _ w_19 ⟨rfl, hS⟩
       refine QoN (wpIn_ret ?_)
       refine ret1 results44 (qs 1 hS sizeOf63 isAgg63 rfl rfl rfl) ?_
       first
        | exact ⟨by rw [jt (w := wd) (at_ := at_) (by omega)]; rfl, hS.nil⟩
        | exact ⟨by rw [zb (w := wd) (at_ := at_) (by omega) (by omega)]; rfl, hS.nil⟩
        | exact ⟨by rw [dec_3 (w := wd) (at_ := at_) (by omega) (by omega)]; rfl, hS.nil⟩
        | exact ⟨by rw [dec_j (w := wd) (at_ := at_) (by omega)]; rfl, hS.nil⟩
        | exact ⟨by rw [zc (w := wd) (at_ := at_) (by omega) (by omega)]; rfl, hS.nil⟩
        | exact ⟨by rw [dec_2 (w := wd) (at_ := at_) (by omega) (by omega)]; rfl, hS.nil⟩
        | exact ⟨by rw [dec_7 (w := wd) (at_ := at_) (by omega) (by omega)]; rfl, hS.nil⟩
        | exact ⟨by rw [dec_8 (w := wd) (at_ := at_) (by omega) (by omega)]; rfl, hS.nil⟩
        | (exfalso; omega)
theorem yA (op n : Int) (w0 : World) (I0 : Imm) (hI : Sat I0 w0) (h0 : 0 ≤ op) (h1 : op ≤ 255) :
 Ctr prog 83 [.int .i64 op, .int .i64 n] w0 (fun v w' => v = .int .u32 (op * 16777216 + n % 16777216) ∧ Ext w0 I0 w' I0) := by
 refine fn (n := 12) func83 rfl rfl rfl ?_
 have hS := St.start hI
 refine QwR (qq hS (Qaw rfl) (QoR (qq hS (Qmi rfl) ?_)))
 refine qq hS (qz (c := op) underlying3 underlying58 rfl (by rw [IntKind.wrap_u32]; omega)) ?_
 refine qq hS (qH (s := 24) (c := op * 16777216) rfl rfl rfl rfl (by rw [IntKind.wrap_u32]; omega)) ?_
 refine qq hS (Qmi rfl) ?_
 refine qq hS (qQ (m := 24) (c := n % 16777216) rfl rfl rfl rfl (by rw [IntKind.wrap_i64]; omega)) ?_
 refine qq hS (qz (c := n % 16777216) underlying3 underlying58 rfl (by rw [IntKind.wrap_u32]; omega)) ?_
 refine qq hS (g_orD (m := 24) (c := op * 16777216 + n % 16777216) rfl rfl (by omega) (Int.lt_of_lt_of_le (show op * 16777216 < 4294967296 by omega) (Int.le_refl _)) (by omega) (by omega) (by omega) (Int.lt_of_lt_of_le (show n % 16777216 < 4294967296 by omega) (Int.le_refl _)) (by rw [IntKind.wrap_u32]; omega)) ?_
 refine qq hS (Qaw rfl) (QoN (wpIn_ret ?_))
 refine ret1 results83 (qd (v := .int .u32 _) rfl) ?_
 exact ⟨rfl, hS.nil⟩
set_option maxHeartbeats 1000000 in
theorem guess_c (x : InstL) (at_ : Int) (w0 : World) (I0 : Imm) (hI : Sat I0 w0) (hx : Lnkd x) (hx0 : -1099511627776 ≤ x.n) (hx1 : x.n ≤ 1099511627776) (ha0 : -1099511627776 ≤ at_) (ha1 : at_ ≤ 1099511627776) :
 Ctr prog 43 [instV x, .int .i64 at_] w0 (fun v w' => v = .int .u32 (refW x at_) ∧ Ext w0 I0 w' I0) := by
 obtain ⟨⟨h5, h8⟩, ⟨hA0, hA1⟩, _⟩ := hx
 have htd := tdiv4_b (m := x.n - at_) (by omega) (by omega)
 refine fn (n := 64) func43 rfl rfl rfl ?_
 have hS := St.start hI
 refine QwR ?_
 refine qe (d_box (cs := [.int .i64 _, .int .i64 _, .int .i64 _, .int .i64 _, .int .i64 _]) hS rfl) ?_
 clear hS
 rintro _ w_1 ⟨b2, rfl, hS⟩
 refine qq hS (Qaw rfl) (QoR ?_)
 refine qq hS (qa (o' := 4) underlying63 rfl sizeOf3 rfl rfl rfl) ?_
 refine qq hS (qc 0 isAgg3 rfl rfl rfl) ?_
 refine qq hS (Qmi rfl) ?_
 refine qq hS (g_sub rfl rfl (by omega) (by omega)) ?_
 refine qq hS (g_quoT (c := (x.n - at_).tdiv 4) rfl rfl (by decide) (by omega) (by omega) rfl) ?_
 refine qq hS (Qai rfl) (QoN (wpIn_seq (QwR ?_)))
 refine qq hS (qa (o' := 0) underlying63 rfl sizeOf3 rfl rfl rfl) ?_
 refine qq hS (qc 0 isAgg3 rfl rfl rfl) ?_
 refine QoN (wpIn_block (wpIn_seq (QwR ?_)))
 refine qq hS (g_eql rfl rfl) ?_
 refine qq hS (Qab rfl) (QoN ?_)
 refine qh rfl ?_ ?_
 ·
  intro hc13
  try simp only [zA, zO, zN, zI, zF, zM, zT, zU] at hc13
  exfalso; omega
 ·
  intro hc13
  try simp only [zA, zO, zN, zI, zF, zM, zT, zU] at hc13
  refine QwR ?_
  refine qq hS (g_eql rfl rfl) ?_
  refine qq hS (Qab rfl) (QoN ?_)
  refine qh rfl ?_ ?_
  ·
   intro hc13_2
   try simp only [zA, zO, zN, zI, zF, zM, zT, zU] at hc13_2
   exfalso; omega
  ·
   intro hc13_2
   try simp only [zA, zO, zN, zI, zF, zM, zT, zU] at hc13_2
   refine reg ?_
   refine qq hS (g_eql rfl rfl) ?_
   refine qq hS (Qab rfl) (QoN ?_)
   refine qh rfl ?_ ?_
   ·
    intro hc13_3
    try simp only [zA, zO, zN, zI, zF, zM, zT, zU] at hc13_3
    exfalso; omega
   ·
    intro hc13_3
    try simp only [zA, zO, zN, zI, zF, zM, zT, zU] at hc13_3
    refine QwR ?_
    refine qq hS (g_eql rfl rfl) ?_
    refine qq hS (Qab rfl) (QoN ?_)
    refine qh rfl ?_ ?_
    ·
     intro hc30
     try simp only [zA, zO, zN, zI, zF, zM, zT, zU] at hc30
     exfalso; omega
    ·
     intro hc30
     try simp only [zA, zO, zN, zI, zF, zM, zT, zU] at hc30
     refine wpIn_seq (QwR ?_)
     refine qq hS (g_eql rfl rfl) ?_
     refine qq hS (Qab rfl) (QoN ?_)
     refine qh rfl ?_ ?_
     ·
      intro hc42
      try simp only [zA, zO, zN, zI, zF, zM, zT, zU] at hc42
      refine wpIn_skip (thenN ?_)
      refine qh rfl ?_ ?_
      ·
       intro hc42_2
       try simp only [zA, zO, zN, zI, zF, zM, zT, zU] at hc42_2
       refine QwR ?_
       refine qq hS (qa (o' := 0) underlying63 rfl sizeOf3 rfl rfl rfl) ?_
       refine qq hS (qc 0 isAgg3 rfl rfl rfl) ?_
       refine qq hS (Qmi rfl) ?_
       refine qe (qi call83 rfl (yA x.op ((x.n - at_).tdiv 4) _ I0 hS.imm (by omega) (by omega))) ?_
       rintro _ w_2 ⟨rfl, hE⟩
       replace hS := hS.callE hE
       refine qq hS (Qaw rfl) (QoN (wpIn_ret ?_))
       refine blkR (thenR ?_)
       refine ret1 results43 (qd (v := .int .u32 _) rfl) ?_
       first
        | (exfalso; omega)
        | (have e := kD (x := x) (at_ := at_) (by omega); exact ⟨by rw [e], hS.nil⟩)
        | (have e := jR (x := x) (at_ := at_) (by omega); exact ⟨by rw [e], hS.nil⟩)
        | (exfalso; omega)
      ·
       intro hc42_2
       try simp only [zA, zO, zN, zI, zF, zM, zT, zU] at hc42_2
       refine wpIn_seq (QwR ?_)
       refine qq hS (g_eql rfl rfl) ?_
       refine qq hS (Qab rfl) (QoN ?_)
       refine qh rfl ?_ ?_
       ·
        intro hc49
        try simp only [zA, zO, zN, zI, zF, zM, zT, zU] at hc49
        refine wpIn_skip (thenN ?_)
        refine qh rfl ?_ ?_
        ·
         intro hc49_2
         try simp only [zA, zO, zN, zI, zF, zM, zT, zU] at hc49_2
         refine QwR ?_
         refine qq hS (qa (o' := 0) underlying63 rfl sizeOf3 rfl rfl rfl) ?_
         refine qq hS (qc 0 isAgg3 rfl rfl rfl) ?_
         refine qq hS (qa (o' := 1) underlying63 rfl sizeOf3 rfl rfl rfl) ?_
         refine qq hS (qc 0 isAgg3 rfl rfl rfl) ?_
         refine qq hS (qH (s := 16) (c := x.a * 65536) rfl rfl rfl rfl (by rw [IntKind.wrap_i64]; omega)) ?_
         refine qq hS (Qmi rfl) ?_
         refine qq hS (qQ (m := 16) (c := (x.n - at_).tdiv 4 % 65536) rfl rfl rfl rfl (by rw [IntKind.wrap_i64]; omega)) ?_
         refine qq hS (g_orD (m := 16) (c := x.a * 65536 + (x.n - at_).tdiv 4 % 65536) rfl rfl (by omega) (Int.lt_of_lt_of_le (show x.a * 65536 < 4294967296 by omega) (by decide)) (by omega) (by omega) (by omega) (Int.lt_of_lt_of_le (show (x.n - at_).tdiv 4 % 65536 < 4294967296 by omega) (by decide)) (by rw [IntKind.wrap_i64]; omega)) ?_
         refine qe (qi call83 rfl (yA x.op (x.a * 65536 + (x.n - at_).tdiv 4 % 65536) _ I0 hS.imm (by omega) (by omega))) ?_
         rintro _ w_3 ⟨rfl, hE⟩
         replace hS := hS.callE hE
         refine qq hS (Qaw rfl) (QoN (wpIn_ret ?_))
         refine blkR (thenR ?_)
         refine ret1 results43 (qd (v := .int .u32 _) rfl) ?_
         first
          | (exfalso; omega)
          | (have e := kD (x := x) (at_ := at_) (by omega); exact ⟨by rw [e], hS.nil⟩)
          | (have e := jR (x := x) (at_ := at_) (by omega); exact ⟨by rw [e], hS.nil⟩)
          | (exfalso; omega)
        ·
         intro hc49_2
         try simp only [zA, zO, zN, zI, zF, zM, zT, zU] at hc49_2
         refine wpIn_skip (blkN (thenN (QwR ?_)))
         refine qq hS (qa (o' := 4) underlying63 rfl sizeOf3 rfl rfl rfl) ?_
         refine qq hS (qc 0 isAgg3 rfl rfl rfl) ?_
         refine qq hS (kF underlying3 underlying58 rfl) ?_
         refine qq hS (Qaw rfl) (QoN (wpIn_ret ?_))
         refine ret1 results43 (qd (v := .int .u32 _) rfl) ?_
         first
          | (exfalso; omega)
          | (have e := kD (x := x) (at_ := at_) (by omega); exact ⟨by rw [e], hS.nil⟩)
          | (have e := jR (x := x) (at_ := at_) (by omega); exact ⟨by rw [e], hS.nil⟩)
          | (exfalso; omega)
       ·
        intro hc49
        try simp only [zA, zO, zN, zI, zF, zM, zT, zU] at hc49
        refine reg ?_
        refine qq hS (g_eql rfl rfl) ?_
        refine qq hS (Qab rfl) (QoN ?_)
        refine qh rfl ?_ ?_
        ·
         intro hc49_2
         try simp only [zA, zO, zN, zI, zF, zM, zT, zU] at hc49_2
         refine QwR ?_
         refine qq hS (qa (o' := 0) underlying63 rfl sizeOf3 rfl rfl rfl) ?_
         refine qq hS (qc 0 isAgg3 rfl rfl rfl) ?_
         refine qq hS (qa (o' := 1) underlying63 rfl sizeOf3 rfl rfl rfl) ?_
         refine qq hS (qc 0 isAgg3 rfl rfl rfl) ?_
         refine qq hS (qH (s := 16) (c := x.a * 65536) rfl rfl rfl rfl (by rw [IntKind.wrap_i64]; omega)) ?_
         refine qq hS (Qmi rfl) ?_
         refine qq hS (qQ (m := 16) (c := (x.n - at_).tdiv 4 % 65536) rfl rfl rfl rfl (by rw [IntKind.wrap_i64]; omega)) ?_
         refine qq hS (g_orD (m := 16) (c := x.a * 65536 + (x.n - at_).tdiv 4 % 65536) rfl rfl (by omega) (Int.lt_of_lt_of_le (show x.a * 65536 < 4294967296 by omega) (by decide)) (by omega) (by omega) (by omega) (Int.lt_of_lt_of_le (show (x.n - at_).tdiv 4 % 65536 < 4294967296 by omega) (by decide)) (by rw [IntKind.wrap_i64]; omega)) ?_
         refine qe (qi call83 rfl (yA x.op (x.a * 65536 + (x.n - at_).tdiv 4 % 65536) _ I0 hS.imm (by omega) (by omega))) ?_
         rintro _ w_4 ⟨rfl, hE⟩
         replace hS := hS.callE hE
         refine qq hS (Qaw rfl) (QoN (wpIn_ret ?_))
         refine blkR (thenR ?_)
         refine ret1 results43 (qd (v := .int .u32 _) rfl) ?_
         first
          | (exfalso; omega)
          | (have e := kD (x := x) (at_ := at_) (by omega); exact ⟨by rw [e], hS.nil⟩)
          | (have e := jR (x := x) (at_ := at_) (by omega); exact ⟨by rw [e], hS.nil⟩)
          | (exfalso; omega)
        ·
         intro hc49_2
         try simp only [zA, zO, zN, zI, zF, zM, zT, zU] at hc49_2
         refine wpIn_skip (blkN (thenN (QwR ?_)))
         refine qq hS (qa (o' := 4) underlying63 rfl sizeOf3 rfl rfl rfl) ?_
         refine qq hS (qc 0 isAgg3 rfl rfl rfl) ?_
         refine qq hS (kF underlying3 underlying58 rfl) ?_
         refine qq hS (Qaw rfl) (QoN (wpIn_ret ?_))
         refine ret1 results43 (qd (v := .int .u32 _) rfl) ?_
         first
          | (exfalso; omega)
          | (have e := kD (x := x) (at_ := at_) (by omega); exact ⟨by rw [e], hS.nil⟩)
          | (have e := jR (x := x) (at_ := at_) (by omega); exact ⟨by rw [e], hS.nil⟩)
          | (exfalso; omega)
     ·
      intro hc42
      try simp only [zA, zO, zN, zI, zF, zM, zT, zU] at hc42
      refine reg ?_
      refine qq hS (g_eql rfl rfl) ?_
      refine qq hS (Qab rfl) (QoN ?_)
      refine qh rfl ?_ ?_
      ·
       intro hc42_2
       try simp only [zA, zO, zN, zI, zF, zM, zT, zU] at hc42_2
       refine QwR ?_
       refine qq hS (qa (o' := 0) underlying63 rfl sizeOf3 rfl rfl rfl) ?_
       refine qq hS (qc 0 isAgg3 rfl rfl rfl) ?_
       refine qq hS (Qmi rfl) ?_
       refine qe (qi call83 rfl (yA x.op ((x.n - at_).tdiv 4) _ I0 hS.imm (by omega) (by omega))) ?_
       rintro _ w_5 ⟨rfl, hE⟩
       replace hS := hS.callE hE
       refine qq hS (Qaw rfl) (QoN (wpIn_ret ?_))
       refine blkR (thenR ?_)
       refine ret1 results43 (qd (v := .int .u32 _) rfl) ?_
       first
        | (exfalso; omega)
        | (have e := kD (x := x) (at_ := at_) (by omega); exact ⟨by rw [e], hS.nil⟩)
        | (have e := jR (x := x) (at_ := at_) (by omega); exact ⟨by rw [e], hS.nil⟩)
        | (exfalso; omega)
      ·
       intro hc42_2
       try simp only [zA, zO, zN, zI, zF, zM, zT, zU] at hc42_2
       refine wpIn_seq (QwR ?_)
       refine qq hS (g_eql rfl rfl) ?_
       refine qq hS (Qab rfl) (QoN ?_)
       refine qh rfl ?_ ?_
       ·
        intro hc49
        try simp only [zA, zO, zN, zI, zF, zM, zT, zU] at hc49
        refine wpIn_skip (thenN ?_)
        refine qh rfl ?_ ?_
        ·
         intro hc49_2
         try simp only [zA, zO, zN, zI, zF, zM, zT, zU] at hc49_2
         refine QwR ?_
         refine qq hS (qa (o' := 0) underlying63 rfl sizeOf3 rfl rfl rfl) ?_
         refine qq hS (qc 0 isAgg3 rfl rfl rfl) ?_
         refine qq hS (qa (o' := 1) underlying63 rfl sizeOf3 rfl rfl rfl) ?_
         refine qq hS (qc 0 isAgg3 rfl rfl rfl) ?_
         refine qq hS (qH (s := 16) (c := x.a * 65536) rfl rfl rfl rfl (by rw [IntKind.wrap_i64]; omega)) ?_
         refine qq hS (Qmi rfl) ?_
         refine qq hS (qQ (m := 16) (c := (x.n - at_).tdiv 4 % 65536) rfl rfl rfl rfl (by rw [IntKind.wrap_i64]; omega)) ?_
         refine qq hS (g_orD (m := 16) (c := x.a * 65536 + (x.n - at_).tdiv 4 % 65536) rfl rfl (by omega) (Int.lt_of_lt_of_le (show x.a * 65536 < 4294967296 by omega) (by decide)) (by omega) (by omega) (by omega) (Int.lt_of_lt_of_le (show (x.n - at_).tdiv 4 % 65536 < 4294967296 by omega) (by decide)) (by rw [IntKind.wrap_i64]; omega)) ?_
         refine qe (qi call83 rfl (yA x.op (x.a * 65536 + (x.n - at_).tdiv 4 % 65536) _ I0 hS.imm (by omega) (by omega))) ?_
         rintro _ w_6 ⟨rfl, hE⟩
         replace hS := hS.callE hE
         refine qq hS (Qaw rfl) (QoN (wpIn_ret ?_))
         refine blkR (thenR ?_)
         refine ret1 results43 (qd (v := .int .u32 _) rfl) ?_
         first
          | (exfalso; omega)
          | (have e := kD (x := x) (at_ := at_) (by omega); exact ⟨by rw [e], hS.nil⟩)
          | (have e := jR (x := x) (at_ := at_) (by omega); exact ⟨by rw [e], hS.nil⟩)
          | (exfalso; omega)
        ·
         intro hc49_2
         try simp only [zA, zO, zN, zI, zF, zM, zT, zU] at hc49_2
         refine wpIn_skip (blkN (thenN (QwR ?_)))
         refine qq hS (qa (o' := 4) underlying63 rfl sizeOf3 rfl rfl rfl) ?_
         refine qq hS (qc 0 isAgg3 rfl rfl rfl) ?_
         refine qq hS (kF underlying3 underlying58 rfl) ?_
         refine qq hS (Qaw rfl) (QoN (wpIn_ret ?_))
         refine ret1 results43 (qd (v := .int .u32 _) rfl) ?_
         first
          | (exfalso; omega)
          | (have e := kD (x := x) (at_ := at_) (by omega); exact ⟨by rw [e], hS.nil⟩)
          | (have e := jR (x := x) (at_ := at_) (by omega); exact ⟨by rw [e], hS.nil⟩)
          | (exfalso; omega)
       ·
        intro hc49
        try simp only [zA, zO, zN, zI, zF, zM, zT, zU] at hc49
        refine reg ?_
        refine qq hS (g_eql rfl rfl) ?_
        refine qq hS (Qab rfl) (QoN ?_)
        refine qh rfl ?_ ?_
        ·
         intro hc49_2
         try simp only [zA, zO, zN, zI, zF, zM, zT, zU] at hc49_2
         refine QwR ?_
         refine qq hS (qa (o' := 0) underlying63 rfl sizeOf3 rfl rfl rfl) ?_
         refine qq hS (qc 0 isAgg3 rfl rfl rfl) ?_
         refine qq hS (qa (o' := 1) underlying63 rfl sizeOf3 rfl rfl rfl) ?_
         refine qq hS (qc 0 isAgg3 rfl rfl rfl) ?_
         refine qq hS (qH (s := 16) (c := x.a * 65536) rfl rfl rfl rfl (by rw [IntKind.wrap_i64]; omega)) ?_
         refine qq hS (Qmi rfl) ?_
         refine qq hS (qQ (m := 16) (c := (x.n - at_).tdiv 4 % 65536) rfl rfl rfl rfl (by rw [IntKind.wrap_i64]; omega)) ?_
         refine qq hS (g_orD (m := 16) (c := x.a * 65536 + (x.n - at_).tdiv 4 % 65536) rfl rfl (by omega) (Int.lt_of_lt_of_le (show x.a * 65536 < 4294967296 by omega) (by decide)) (by omega) (by omega) (by omega) (Int.lt_of_lt_of_le (show (x.n - at_).tdiv 4 % 65536 < 4294967296 by omega) (by decide)) (by rw [IntKind.wrap_i64]; omega)) ?_
         refine qe (qi call83 rfl (yA x.op (x.a * 65536 + (x.n - at_).tdiv 4 % 65536) _ I0 hS.imm (by omega) (by omega))) ?_
         rintro _ w_7 ⟨rfl, hE⟩
         replace hS := hS.callE hE
         refine qq hS (Qaw rfl) (QoN (wpIn_ret ?_))
         refine blkR (thenR ?_)
         refine ret1 results43 (qd (v := .int .u32 _) rfl) ?_
         first
          | (exfalso; omega)
          | (have e := kD (x := x) (at_ := at_) (by omega); exact ⟨by rw [e], hS.nil⟩)
          | (have e := jR (x := x) (at_ := at_) (by omega); exact ⟨by rw [e], hS.nil⟩)
          | (exfalso; omega)
        ·
         intro hc49_2
         try simp only [zA, zO, zN, zI, zF, zM, zT, zU] at hc49_2
         refine wpIn_skip (blkN (thenN (QwR ?_)))
         refine qq hS (qa (o' := 4) underlying63 rfl sizeOf3 rfl rfl rfl) ?_
         refine qq hS (qc 0 isAgg3 rfl rfl rfl) ?_
         refine qq hS (kF underlying3 underlying58 rfl) ?_
         refine qq hS (Qaw rfl) (QoN (wpIn_ret ?_))
         refine ret1 results43 (qd (v := .int .u32 _) rfl) ?_
         first
          | (exfalso; omega)
          | (have e := kD (x := x) (at_ := at_) (by omega); exact ⟨by rw [e], hS.nil⟩)
          | (have e := jR (x := x) (at_ := at_) (by omega); exact ⟨by rw [e], hS.nil⟩)
          | (exfalso; omega)
theorem encR_c (x : InstL) (at_ : Int) (w0 : World) (I0 : Imm) (hI : Sat I0 w0) (hx : Lnkd x) (hx0 : -1099511627776 ≤ x.n) (hx1 : x.n ≤ 1099511627776) (ha0 : -1099511627776 ≤ at_) (ha1 : at_ ≤ 1099511627776) :
 Ctr prog 21 [instV x, .int .i64 at_] w0 (fun v w' => v = encV (Inl.encI x at_) ∧ Ext w0 I0 w' I0) := by
 have hrb := refW_b hx at_
 have hre := refE (at_ := at_) hx
 refine fn (n := 16) func21 rfl rfl rfl ?_
 have hS := St.start hI
 refine QwR ?_
 refine qe (d_box (cs := [.int .i64 _, .int .i64 _, .int .i64 _, .int .i64 _, .int .i64 _]) hS rfl) ?_
 clear hS
 rintro _ w_1 ⟨b2, rfl, hS⟩
 refine qq hS (Qaw rfl) (qq hS (Qai rfl) (QoR ?_))
 refine qq hS (g_ldO 0 (vs := [.int .i64 _, .int .i64 _, .int .i64 _, .int .i64 _, .int .i64 _]) sizeOf63 isAgg63 rfl rfl rfl rfl) ?_
 refine qq hS (Qmi rfl) ?_
 refine qe (qi call43 rfl (guess_c x at_ _ I0 hS.imm hx hx0 hx1 ha0 ha1)) ?_
 rintro _ w_2 ⟨rfl, hE⟩
 replace hS := hS.callE hE
 refine qq hS (Qaw rfl) (QoN (wpIn_seq (wpIn_seq ?_)))
 refine draw (.cons 0 .pure (.cons 1 .pure (.cons 3 .held (.cons 2 .eff (.cons 4 .pure .nil))))) mixed (by kernel_rfl) hS ?_
 intro w_3 hS
 refine sp rfl (Qmw rfl) (sp rfl (Qmi rfl) ?_)
 refine sh rfl (g_ldO 0 (vs := [.int .i64 _, .int .i64 _, .int .i64 _, .int .i64 _, .int .i64 _]) sizeOf63 isAgg63 rfl rfl rfl rfl) ?_
 have hS0 := hS
 refine se rfl (qi call44 rfl (decR_c (refW x at_) at_ _ I0 hS.imm hrb.1 hrb.2 ha0 ha1)) ?_
 rintro _ w_4 ⟨rfl, hE⟩
 replace hS := hS.call hE
 refine ⟨_, _, hS0.le hE.ext (List.Sublist.refl _), hS, ?_⟩
 refine sp rfl (neqInst (decI (refW x at_) at_) x rfl rfl) ?_
 refine sn (thenN ?_)
 refine qh rfl ?_ ?_
 ·
  intro hc14
  try simp only [zA, zO, zN, zI, zF, zM, zT, zU] at hc14
  rw [if_neg (by rw [hc14]; decide)] at hre
  refine QwR (qq hS (Qaw rfl) (qq hS (Qai rfl) (QoN (wpIn_ret ?_))))
  refine thenR ?_
  refine ret2 results21 (qd (v := .int .u32 _) rfl) (qd (v := .int .i64 _) rfl) ?_
  exact ⟨by rw [hre]; rfl, hS.nil⟩
 ·
  intro hc14
  try simp only [zA, zO, zN, zI, zF, zM, zT, zU] at hc14
  rw [if_pos hc14] at hre
  refine wpIn_skip (thenN (QwR (qq hS (Qmw rfl) (qq hS (Qaw rfl) (qq hS (Qai rfl) ?_)))))
  refine QoN (wpIn_ret ?_)
  refine ret2 results21 (qd (v := .int .u32 _) rfl) (qd (v := .int .i64 _) rfl) ?_
  exact ⟨by rw [hre]; rfl, hS.nil⟩
end Go.Proofs.YtaklmbhfmpdinaaGreat
namespace Go.Proofs.YtaklmbhfmpdinaaGreat
open Tryz
open Go Go.RowKit Go.Inl
structure CdW where
 k : Nat
 a : Option Addr
 c : Nat
 W : List Int
theorem wrds_snoc {l : List Int} {w : Int} (h : Wrds l) (hw : 0 ≤ w ∧ w < 4294967296) : Wrds (l ++ [w]) := by
 intro y hy
 rcases List.mem_append.1 hy with h' | h'
 · exact h y h'
 · rw [List.mem_singleton] at h'; subst h'; exact hw
set_option maxHeartbeats 1000000 in
theorem made2_c (q : Q4) (w0 : World) (I0 : Imm) (hI : Sat I0 w0) (hq : q.wf) : Ctr prog 20 [.agg #[.int .u8 q.a, .int .u8 q.b, .int .u8 q.c, .int .u8 q.d]] w0 (fun v w' => ∃ x : Int, v = .int .u32 x ∧ Ext w0 I0 w' I0 ∧ 0 ≤ x ∧ x < 4294967296) := by
 obtain ⟨⟨ha0, ha1⟩, ⟨hb0, hb1⟩, ⟨hc0, hc1⟩, ⟨hd0, hd1⟩⟩ := hq
 refine fn (n := 49) func20 rfl rfl rfl ?_
 have hS := St.start hI
 refine QwR ?_
 refine qe (d_box (cs := [.int .u8 _, .int .u8 _, .int .u8 _, .int .u8 _]) hS rfl) ?_
 clear hS
 rintro _ w_1 ⟨b1, rfl, hS⟩
 refine qq hS (Qaw rfl) (QoN (wpIn_seq ?_))
 refine draw (.cons 0 .pure (.cons 1 .held (.cons 2 .pure (.cons 3 .pure (.cons 4 .pure (.cons 5 .held (.cons 6 .pure (.cons 7 .pure (.cons 8 .pure .nil))))))))) mixed (by kernel_rfl) hS ?_
 intro w_2 hS
 refine sp rfl (qP (o' := 0) underlying61 sizeOf5 rfl rfl (by decide) (by decide) rfl) ?_
 refine sh rfl (qc 0 isAgg5 rfl rfl rfl) ?_
 refine sp rfl (g_rem rfl rfl (by omega) (by omega)) ?_
 refine sp rfl (qz (c := q.a % 10) underlying5 underlying58 rfl (by rw [IntKind.wrap_u32]; omega)) ?_
 refine sp rfl (qP (o' := 1) underlying61 sizeOf5 rfl rfl (by decide) (by decide) rfl) ?_
 refine sh rfl (qc 0 isAgg5 rfl rfl rfl) ?_
 refine sp rfl (qz (c := q.b) underlying5 underlying58 rfl (by rw [IntKind.wrap_u32]; omega)) ?_
 refine sp rfl (Qaw rfl) ?_
 refine sp rfl (Qaw rfl) ?_
 refine sn (thenN ?_)
 refine meet (fun σ w => ∃ A : Int, okS σ [(1, .pointer (some ⟨b1, 0, none⟩)), (3, .int .u32 (q.a % 10)), (4, .int .u32 A)] ∧ St [] w0 I0 I0 w [.cel b1 61 [.int .u8 q.a, .int .u8 q.b, .int .u8 q.c, .int .u8 q.d]] ∧ 0 ≤ A ∧ A ≤ 255) ?_ ?_
 ·
  refine QwR ?_
  refine qq hS (qP (o' := 0) underlying61 sizeOf5 rfl rfl (by decide) (by decide) rfl) ?_
  refine qq hS (qc 0 isAgg5 rfl rfl rfl) ?_
  refine qq hS (g_lss rfl rfl) ?_
  refine QoN ?_
  refine qh rfl ?_ ?_
  ·
   intro hc16
   try simp only [zA, zO, zN, zI, zF, zM, zT, zU] at hc16
   refine reg (qq hS (Qmw rfl) ?_)
   refine qq hS (g_rem rfl rfl (by omega) (by omega)) ?_
   refine qq hS (Qaw rfl) (QoN ?_)
   exact ⟨_, rfl, _, ⟨rfl, rfl, rfl, trivial⟩, hS, by omega, by omega⟩
  ·
   intro hc16
   try simp only [zA, zO, zN, zI, zF, zM, zT, zU] at hc16
   refine wpIn_skip (thenN ?_)
   exact ⟨_, rfl, _, ⟨rfl, rfl, rfl, trivial⟩, hS, by omega, by omega⟩
 ·
  rintro σ w_j ⟨A, hs, hS, hA0, hA1⟩
  rw [← qj hs]
  refine wpIn_seq ?_
  refine draw (.cons 0 .pure (.cons 1 .held (.cons 2 .pure (.cons 3 .pure (.cons 4 .held (.cons 5 .pure (.cons 6 .pure (.cons 7 .pure .nil)))))))) mixed (by kernel_rfl) hS ?_
  intro w_3 hS
  refine sp rfl (qP (o' := 2) underlying61 sizeOf5 rfl rfl (by decide) (by decide) rfl) ?_
  refine sh rfl (qc 0 isAgg5 rfl rfl rfl) ?_
  refine sp rfl (qz (c := q.c) underlying5 underlying58 rfl (by rw [IntKind.wrap_u32]; omega)) ?_
  refine sp rfl (qP (o' := 3) underlying61 sizeOf5 rfl rfl (by decide) (by decide) rfl) ?_
  refine sh rfl (qc 0 isAgg5 rfl rfl rfl) ?_
  refine sp rfl (qz (c := q.d) underlying5 underlying58 rfl (by rw [IntKind.wrap_u32]; omega)) ?_
  refine sp rfl (Qaw rfl) ?_
  refine sp rfl (Qaw rfl) ?_
  refine sn (thenN ?_)
  refine meet (fun σ w => ∃ B C : Int, okS σ [(3, .int .u32 (q.a % 10)), (4, .int .u32 A), (5, .int .u32 B), (6, .int .u32 C)] ∧ St [] w0 I0 I0 w [.cel b1 61 [.int .u8 q.a, .int .u8 q.b, .int .u8 q.c, .int .u8 q.d]] ∧ (0 ≤ B ∧ B ≤ 255) ∧ 0 ≤ C ∧ C ≤ 255) ?_ ?_
  ·
   refine QwR (qq hS (Qmw rfl) ?_)
   refine qq hS (g_eql rfl rfl) ?_
   refine qq hS (Qmb rfl) ?_
   refine qu rfl rfl hS (fun hg => (Qmw rfl)) ?_
   intro u28 hu28 hn28
   refine qu rfl rfl hS (fun hg => (g_eql (hu28 hg) rfl)) ?_
   intro u29 hu29 hn29
   refine qq hS (g_or rfl rfl (fun hq => hu29 hq)) ?_
   refine qq hS (Qmb rfl) ?_
   refine qu rfl rfl hS (fun hg => (Qmw rfl)) ?_
   intro u32 hu32 hn32
   refine qu rfl rfl hS (fun hg => (g_eql (hu32 hg) rfl)) ?_
   intro u33 hu33 hn33
   refine qq hS (g_or rfl rfl (fun hq => hu33 hq)) ?_
   refine QoN ?_
   refine qh rfl ?_ ?_
   ·
    intro hc34
    clear hu28 hn28 hu29 hn29 hu32 hn32 hu33 hn33
    try simp only [zA, zO, zN, zI, zF, zM, zT, zU] at hc34
    refine reg (qq hS (Qmw rfl) ?_)
    refine qq hS (g_rem rfl rfl (by omega) (by omega)) ?_
    refine qq hS (Qmw rfl) ?_
    refine qq hS (g_rem rfl rfl (by omega) (by omega)) ?_
    refine qq hS (Qaw rfl) (qq hS (Qaw rfl) (QoN ?_))
    exact ⟨_, rfl, _, _, ⟨rfl, rfl, rfl, rfl, trivial⟩, hS, ⟨by omega, by omega⟩, by omega, by omega⟩
   ·
    intro hc34
    clear hu28 hn28 hu29 hn29 hu32 hn32 hu33 hn33
    try simp only [zA, zO, zN, zI, zF, zM, zT, zU] at hc34
    refine wpIn_skip (thenN ?_)
    exact ⟨_, rfl, _, _, ⟨rfl, rfl, rfl, rfl, trivial⟩, hS, ⟨by omega, by omega⟩, by omega, by omega⟩
  ·
   rintro σ w_k ⟨B, C, hs, hS, ⟨hB0, hB1⟩, hC0, hC1⟩
   rw [← qj hs]
   refine QwR (qq hS (Qmw rfl) ?_)
   refine qq hS (qH (s := 24) (c := q.a % 10 * 16777216) rfl rfl rfl rfl (by rw [IntKind.wrap_u32]; omega)) ?_
   refine qq hS (Qmw rfl) ?_
   refine qq hS (qH (s := 16) (c := A * 65536) rfl rfl rfl rfl (by rw [IntKind.wrap_u32]; omega)) ?_
   refine qq hS (g_orD (m := 24) (c := q.a % 10 * 16777216 + A * 65536) rfl rfl (by omega) (Int.lt_of_lt_of_le (show q.a % 10 * 16777216 < 4294967296 by omega) (Int.le_refl _)) (by omega) (by omega) (by omega) (Int.lt_of_lt_of_le (show A * 65536 < 4294967296 by omega) (Int.le_refl _)) (by rw [IntKind.wrap_u32]; omega)) ?_
   refine qq hS (Qmw rfl) ?_
   refine qq hS (qH (s := 8) (c := B * 256) rfl rfl rfl rfl (by rw [IntKind.wrap_u32]; omega)) ?_
   refine qq hS (g_orD (m := 16) (c := q.a % 10 * 16777216 + A * 65536 + B * 256) rfl rfl (by omega) (Int.lt_of_lt_of_le (show q.a % 10 * 16777216 + A * 65536 < 4294967296 by omega) (Int.le_refl _)) (by omega) (by omega) (by omega) (Int.lt_of_lt_of_le (show B * 256 < 4294967296 by omega) (Int.le_refl _)) (by rw [IntKind.wrap_u32]; omega)) ?_
   refine qq hS (Qmw rfl) ?_
   refine qq hS (g_orD (m := 8) (c := q.a % 10 * 16777216 + A * 65536 + B * 256 + C) rfl rfl (by omega) (Int.lt_of_lt_of_le (show q.a % 10 * 16777216 + A * 65536 + B * 256 < 4294967296 by omega) (Int.le_refl _)) (by omega) (by omega) (by omega) (Int.lt_of_lt_of_le (show C < 4294967296 by omega) (Int.le_refl _)) (by rw [IntKind.wrap_u32]; omega)) ?_
   refine qq hS (Qaw rfl) (QoN (wpIn_ret ?_))
   refine ret1 results20 (qd (v := .int .u32 _) rfl) ?_
   exact ⟨_, rfl, hS.nil, by omega, by omega⟩
set_option maxHeartbeats 1000000 in
theorem bytes2_c (ad : Option Addr) (cap : Nat) (l : List Int) (w0 : World) (I0 : Imm) (hI : Sat I0 w0) (hl : RFl I0 1 u32C (.slice ad l.length cap) l) (hw : Wrds l) (hn : l.length ≤ 1073741824) :
 Ctr prog 22 [.slice ad l.length cap] w0 (fun v w' => ∃ I' a c, v = .slice a (bytesP l).length c ∧ Ext w0 I0 w' I' ∧ RBytes I' (.slice a (bytesP l).length c) (bytesP l)) := by
 refine fn (n := 39) func22 rfl rfl rfl ?_
 have hS := St.start hI
 refine QwR (qq hS (qf _) (QoR ?_))
 refine qe (qI hS underlying25 sizeOf5) ?_
 clear hS
 rintro _ w_1 ⟨hS, b5_, rfl⟩
 refine qq hS (qf _) (QoN (wpIn_seq (QwR (qq hS (Qai rfl) (QoN ?_)))))
 refine wpIn_block ?_
 refine loop (fun (x : BtW) σ w => okS σ [(0, .slice ad l.length cap), (3, .slice x.a (4 * x.k) x.c), (4, .int .i64 x.k)] ∧ St [] w0 I0 I0 w [.row (.slice x.a (4 * x.k) x.c) 5 1 (4 * x.k) (flat byteC (bytesP (l.take x.k)))] ∧ x.k ≤ l.length) (fun x => l.length - x.k) (⟨0, some ⟨b5_, 0, none⟩, 0⟩) ?_ ?_
 ·
  exact ⟨⟨rfl, rfl, rfl, trivial⟩, hS.sel [true], by dsimp only; omega⟩
 ·
  rintro ⟨k, a, c⟩ σ w_l ⟨hs, hS, hk⟩
  dsimp only at hs hS hk ⊢
  rw [← qj hs]; clear hs
  refine wpIn_seq (QwR (qq hS (Qmi rfl) (qq hS (qb _) ?_)))
  refine qq hS (qo rfl underlying57 hl rfl) ?_
  refine qq hS (g_lss rfl rfl) ?_
  refine QoN ?_
  refine qh rfl ?_ ?_
  ·
   intro hc9
   try simp only [zA, zO, zN, zI, zF, zM, zT, zU] at hc9
   obtain ⟨y, hyi⟩ : ∃ y, l[k]? = some y := ⟨_, List.getElem?_eq_getElem (by omega)⟩
   have hsA := hl.at hyi
   have hyb := hw y (List.mem_of_getElem? hyi)
   refine wpIn_skip (thenN (wpIn_seq (wpIn_block ?_)))
   refine draw (.cons 0 .pure (.cons 1 .pure (.cons 2 .pure (.cons 3 .pure (.cons 4 .held (.cons 5 .pure (.cons 6 .pure (.cons 7 .pure (.cons 8 .pure (.cons 9 .pure (.cons 10 .held (.cons 11 .pure (.cons 12 .pure (.cons 13 .pure (.cons 14 .pure (.cons 15 .pure (.cons 16 .held (.cons 17 .pure (.cons 18 .pure (.cons 19 .pure (.cons 20 .pure (.cons 21 .pure (.cons 22 .held (.cons 23 .pure (.cons 24 .eff (.cons 25 .bar (.cons 26 .pure .nil))))))))))))))))))))))))))) mixed (by kernel_rfl) hS ?_
   intro w_2 hS
   refine sp rfl (qb _) ?_
   refine sp rfl (qb _) ?_
   refine sp rfl (Qmi rfl) ?_
   refine sp rfl (g_ixI underlying57 sizeOf58 hl rfl rfl (by omega) (by omega)) ?_
   refine sh rfl (qr isAgg58 hsA rfl rfl) ?_
   refine sp rfl (jo (s := 24) (c := y / 16777216) rfl rfl rfl rfl rfl) ?_
   refine sp rfl (qz (c := octP y 0) underlying58 underlying5 rfl (by rw [IntKind.wrap_u8]; rfl)) ?_
   refine sp rfl (qb _) ?_
   refine sp rfl (Qmi rfl) ?_
   refine sp rfl (g_ixI underlying57 sizeOf58 hl rfl rfl (by omega) (by omega)) ?_
   refine sh rfl (qr isAgg58 hsA rfl rfl) ?_
   refine sp rfl (jo (s := 16) (c := y / 65536) rfl rfl rfl rfl rfl) ?_
   refine sp rfl (qz (c := octP y 1) underlying58 underlying5 rfl (by rw [IntKind.wrap_u8]; rfl)) ?_
   refine sp rfl (qb _) ?_
   refine sp rfl (Qmi rfl) ?_
   refine sp rfl (g_ixI underlying57 sizeOf58 hl rfl rfl (by omega) (by omega)) ?_
   refine sh rfl (qr isAgg58 hsA rfl rfl) ?_
   refine sp rfl (jo (s := 8) (c := y / 256) rfl rfl rfl rfl rfl) ?_
   refine sp rfl (qz (c := octP y 2) underlying58 underlying5 rfl (by rw [IntKind.wrap_u8]; rfl)) ?_
   refine sp rfl (qb _) ?_
   refine sp rfl (Qmi rfl) ?_
   refine sp rfl (g_ixI underlying57 sizeOf58 hl rfl rfl (by omega) (by omega)) ?_
   refine sh rfl (qr isAgg58 hsA rfl rfl) ?_
   refine sp rfl (qz (c := octP y 3) underlying58 underlying5 rfl (by rw [IntKind.wrap_u8, oct3])) ?_
   have hS0 := hS
   refine se rfl (d_lit (vs := [.int .u8 _, .int .u8 _, .int .u8 _, .int .u8 _]) (cs := [.int .u8 _, .int .u8 _, .int .u8 _, .int .u8 _]) hS underlying25 sizeOf5 zeroValue5 rfl rfl rfl rfl (fun v hv => by simp only [List.mem_cons, List.not_mem_nil, or_false] at hv; rcases hv with rfl | rfl | rfl | rfl <;> rfl) rfl) ?_
   rintro _ w_3 ⟨b36, rfl, hS⟩
   refine ⟨_, _, hS0.le (Sub.refl _) (List.sublist_cons_self _ _), hS, ?_⟩
   refine sb rfl (qt 1 0 hS rfl underlying25 info5 rfl rfl rfl rfl rfl rfl rfl rfl (by omega) (by omega)) ?_
   rintro _ w_4 ⟨a37, p37, rfl, hS⟩
   refine ⟨_, _, hS, ?_⟩
   refine sp rfl (qf _) ?_
   refine sn (blkN (thenN ?_))
   refine reg (qq hS (Qmi rfl) ?_)
   refine qq hS (g_add rfl rfl (by omega) (by omega)) ?_
   refine qq hS (Qai rfl) ?_
   refine ⟨⟨k + 1, a37, p37⟩, _, rfl, ⟨⟨rfl, rfl, rfl, trivial⟩, ?_, by dsimp only; omega⟩, by dsimp only; omega⟩
   dsimp only
   rw [qL hyi, bytesP_snoc, qp]
   exact hS.sel [false, true]
  ·
   intro hc9
   try simp only [zA, zO, zN, zI, zF, zM, zT, zU] at hc9
   have hkn : k = l.length := by omega
   subst hkn
   refine wpIn_exit ?_
   refine thenE (thenE (blkE ?_))
   refine thenN (QwR (qq hS (qb _) (qq hS (qf _) (QoN (wpIn_ret ?_)))))
   refine ret1 results22 (qd rfl) ?_
   rw [List.take_length] at hS
   obtain ⟨I1, hE1, hI1, hd1⟩ := qE qW (xs := bytesP l) (hS.sel [true]) (qv l).symm
   rw [qv]
   exact ⟨I1, a, c, rfl, hE1, hd1⟩
theorem bytes2_E (ad : Option Addr) (cap n : Nat) (l : List Int) (w0 : World) (I0 : Imm) (hI : Sat I0 w0) (hl : RFl I0 1 u32C (.slice ad n cap) l) (hw : Wrds l) (hn : n = l.length) (hn1 : n ≤ 1073741824) :
 Ctr prog 22 [.slice ad n cap] w0 (fun v w' => ∃ I' a c, v = .slice a (bytesP l).length c ∧ Ext w0 I0 w' I' ∧ RBytes I' (.slice a (bytesP l).length c) (bytesP l)) := by
 subst hn; exact bytes2_c ad cap l w0 I0 hI hl hw hn1
theorem vR {X Y : InstL} {at_ : Int} (hX : X = Y) (w0 : World) (I0 : Imm) (hI : Sat I0 w0) (hx : Lnkd X) (hx0 : -1099511627776 ≤ X.n) (hx1 : X.n ≤ 1099511627776) (ha0 : -1099511627776 ≤ at_) (ha1 : at_ ≤ 1099511627776) (h : Inl.encI X at_ = none) :
 Ctr prog 21 [instV Y, .int .i64 at_] w0 (fun v w' => v = .tuple #[.int .u32 0, .int .i64 20] ∧ Ext w0 I0 w' I0) := by
 subst hX
 have := encR_c X at_ w0 I0 hI hx hx0 hx1 ha0 ha1; rw [h] at this; exact this
theorem vQ {X Y : InstL} {at_ wv : Int} (hX : X = Y) (w0 : World) (I0 : Imm) (hI : Sat I0 w0) (hx : Lnkd X) (hx0 : -1099511627776 ≤ X.n) (hx1 : X.n ≤ 1099511627776) (ha0 : -1099511627776 ≤ at_) (ha1 : at_ ≤ 1099511627776) (h : Inl.encI X at_ = some wv) :
 Ctr prog 21 [instV Y, .int .i64 at_] w0 (fun v w' => v = .tuple #[.int .u32 wv, .int .i64 0] ∧ Ext w0 I0 w' I0) := by
 subst hX
 have := encR_c X at_ w0 I0 hI hx hx0 hx1 ha0 ha1; rw [h] at this; exact this
set_option maxHeartbeats 2000000 in
theorem code_c (ad : Option Addr) (cap : Nat) (l : List Q4) (n : Nat) (w0 : World) (I0 : Imm) (hI : Sat I0 w0) (hl : RFl I0 4 q4C (.slice ad l.length cap) l) (hq : ∀ q ∈ l, q.wf) (hn : n ≤ 64) :
 Ctr prog 7 [.slice ad l.length cap, .int .i64 n] w0 (fun v w' => ∃ I' a c W, v = .slice a (bytesP W).length c ∧ Ext w0 I0 w' I' ∧ RBytes I' (.slice a (bytesP W).length c) (bytesP W) ∧ Wrds W ∧ W.length ≤ n) := by
 have hle := RSl.le hl
 simp only [maxLen] at hle
 obtain ⟨sz, hsz⟩ : ∃ sz : Nat, min l.length n = sz := ⟨_, rfl⟩
 have hmn : (if (l.length : Int) ≤ (n : Int) then (l.length : Int) else (n : Int)) = (sz : Int) := by split <;> omega
 refine fn (n := 84) func7 rfl rfl rfl ?_
 have hS := St.start hI
 refine QwR (qq hS (qf _) (QoR ?_))
 refine qe (qI hS underlying57 sizeOf58) ?_
 clear hS
 rintro _ w_1 ⟨hS, b13_, rfl⟩
 refine qq hS (qb _) ?_
 refine qq hS (qo rfl underlying26 hl rfl) ?_
 refine qq hS (Qmi rfl) ?_
 refine qq hS (g_minI (c := (sz : Int)) rfl rfl hmn) ?_
 refine qq hS (qf _) (qq hS (Qai rfl) (QoN (wpIn_seq (QwR (qq hS (Qai rfl) ?_)))))
 refine QoN (wpIn_block ?_)
 refine loop (fun (x : CdW) σ w => okS σ [(0, .slice ad l.length cap), (5, .slice x.a x.k x.c), (6, .int .i64 sz), (7, .int .i64 x.k)] ∧ St [] w0 I0 I0 w [.row (.slice x.a x.k x.c) 58 1 x.k (flat u32C x.W)] ∧ x.k ≤ sz ∧ x.W.length = x.k ∧ Wrds x.W) (fun x => sz - x.k) (⟨0, some ⟨b13_, 0, none⟩, 0, []⟩) ?_ ?_
 ·
  exact ⟨⟨rfl, rfl, rfl, rfl, trivial⟩, hS.sel [true], by dsimp only; omega, rfl, fun w hw => by cases hw⟩
 ·
  rintro ⟨k, a, c, W⟩ σ w_l ⟨hs, hS, hk, hWl, hWw⟩
  dsimp only at hs hS hk hWl hWw ⊢
  rw [← qj hs]; clear hs
  refine wpIn_seq (QwR (qq hS (Qmi rfl) (qq hS (Qmi rfl) ?_)))
  refine qq hS (g_lss rfl rfl) ?_
  refine QoN ?_
  refine qh rfl ?_ ?_
  ·
   intro hc20
   try simp only [zA, zO, zN, zI, zF, zM, zT, zU] at hc20
   obtain ⟨q, hqi⟩ : ∃ q, l[k]? = some q := ⟨_, List.getElem?_eq_getElem (by omega)⟩
   have hqA := hl.at hqi
   have hqw := hq q (List.mem_of_getElem? hqi)
   obtain ⟨⟨ha0, ha1⟩, ⟨hb0, hb1⟩, ⟨hc0, hc1⟩, ⟨hd0, hd1⟩⟩ := id hqw
   refine wpIn_skip (thenN (wpIn_seq (wpIn_block (QwR (qq hS (qb _) ?_)))))
   refine qq hS (Qmi rfl) ?_
   refine qq hS (g_ixI underlying26 sizeOf61 hl rfl rfl (by omega) (by omega)) ?_
   refine qq hS (g_ldE (us := [.int .u8 _, .int .u8 _, .int .u8 _, .int .u8 _]) sizeOf61 isAgg61 hqA rfl rfl rfl) ?_
   refine qe (qi call20 rfl (made2_c q _ I0 hS.imm hqw)) ?_
   rintro _ w_2 ⟨x1, rfl, hE, hx0, hx1⟩
   replace hS := hS.callE hE
   refine qq hS (Qaw rfl) (QoR (qq hS (qb _) (qq hS (Qmi rfl) ?_)))
   refine qq hS (g_ixI underlying26 sizeOf61 hl rfl rfl (by omega) (by omega)) ?_
   refine qq hS (zp (c' := 0) underlying61 sizeOf5 rfl rfl (by decide) (by decide) rfl) ?_
   refine qq hS (qr isAgg5 hqA rfl rfl) ?_
   refine qq hS (qD underlying5 underlying3 rfl (by omega) (by omega)) ?_
   refine qq hS (g_rem rfl rfl (by omega) (by omega)) ?_
   refine qq hS (Qai rfl) (QoN ?_)
   refine meet (fun σ w => ∃ y : Int, okS σ [(0, .slice ad l.length cap), (5, .slice a k c), (6, .int .i64 sz), (7, .int .i64 k), (8, .int .u32 y)] ∧ St [] w0 I0 I0 w [.row (.slice a k c) 58 1 k (flat u32C W)] ∧ 0 ≤ y ∧ y < 4294967296) ?_ ?_
   ·
    refine QwR (qq hS (Qmi rfl) ?_)
    refine qq hS (g_geq rfl rfl) ?_
    refine qq hS (Qmb rfl) ?_
    refine qu rfl rfl hS (fun hg => (Qmi rfl)) ?_
    intro u38 hu38 hn38
    refine qu rfl rfl hS (fun hg => (g_leq (hu38 hg) rfl)) ?_
    intro u39 hu39 hn39
    refine qq hS (g_and rfl rfl (fun hq => hu39 hq)) ?_
    refine QoN ?_
    refine qh rfl ?_ ?_
    ·
     intro hc40
     clear hu38 hn38 hu39 hn39
     try simp only [zA, zO, zN, zI, zF, zM, zT, zU] at hc40
     have hmod : 0 ≤ q.c % ((sz : Int) + 2) ∧ q.c % ((sz : Int) + 2) < (sz : Int) + 2 := ⟨Int.emod_nonneg _ (by omega), Int.emod_lt_of_pos _ (by omega)⟩
     refine QwR (qq hS (Qmi rfl) (qq hS (qb _) (qq hS (Qmi rfl) ?_)))
     refine qq hS (g_ixI underlying26 sizeOf61 hl rfl rfl (by omega) (by omega)) ?_
     refine qq hS (zp (c' := 2) underlying61 sizeOf5 rfl rfl (by decide) (by decide) rfl) ?_
     refine qq hS (qr isAgg5 hqA rfl rfl) ?_
     refine qq hS (qD underlying5 underlying3 rfl (by omega) (by omega)) ?_
     refine qq hS (Qmi rfl) ?_
     refine qq hS (g_add rfl rfl (by omega) (by omega)) ?_
     refine qq hS (g_rem rfl rfl (by omega) (by omega)) ?_
     refine qq hS (g_sub rfl rfl (by omega) (by omega)) ?_
     refine qq hS (g_mul rfl rfl (by omega) (by omega)) ?_
     refine qq hS (qm (pl := [(0, 1), (1, 1), (2, 1), (3, 1), (4, 1)]) (cs := [.int .i64 _, .int .i64 _, .int .i64 _, .int .i64 _, .int .i64 _]) zeroValue63 underlying63 (fun w => by simp [sizeOf3]) (mp (v := .int .i64 _) rfl (mp (v := .int .i64 _) rfl mp0)) rfl) ?_
     refine qe (qk (cs := [.int .i64 _, .int .i64 _, .int .i64 _, .int .i64 _, .int .i64 _]) hS zeroValue63 rfl) ?_
     clear hS
     rintro _ w_3 ⟨b10, rfl, hS⟩
     refine qe (qg 0 hS sizeOf63 rfl rfl rfl (vs := [.int .i64 _, .int .i64 _, .int .i64 _, .int .i64 _, .int .i64 _]) rfl rfl rfl (Nat.le_of_ble_eq_true rfl) (cs' := [_, _, _, _, _]) rfl) ?_
     clear hS
     rintro _ w_4 ⟨rfl, hS⟩
     refine QoN (wpIn_seq (QwR (qq hS (Qmi rfl) ?_)))
     refine qq hS (g_eql rfl rfl) ?_
     refine qq hS (Qmb rfl) ?_
     refine qu rfl rfl hS (fun hg => (Qmi rfl)) ?_
     intro u57 hu57 hn57
     refine qu rfl rfl hS (fun hg => (g_eql (hu57 hg) rfl)) ?_
     intro u58 hu58 hn58
     refine qq hS (g_or rfl rfl (fun hq => hu58 hq)) ?_
     refine QoN ?_
     refine qh rfl ?_ ?_
     ·
      intro hc59
      clear hu57 hn57 hu58 hn58
      try simp only [zA, zO, zN, zI, zF, zM, zT, zU] at hc59
      obtain ⟨X, hX⟩ : ∃ X : InstL, X = ⟨q.a % 16, q.b % 16, 0, 0, 4 * (q.c % ((sz : Int) + 2) - 1)⟩ := ⟨_, rfl⟩
      have hLk : Lnkd X := by rw [hX]; exact ⟨⟨by dsimp only; omega, by dsimp only; omega⟩, ⟨by dsimp only; omega, by dsimp only; omega⟩, rfl, rfl, fun h => by dsimp only at h ⊢ <;> omega⟩
      have hXn : -1099511627776 ≤ X.n ∧ X.n ≤ 1099511627776 := by rw [hX]; dsimp only; omega
      have hes : Inl.encI X (4 * (k : Int)) = none ∨ ∃ wv, Inl.encI X (4 * (k : Int)) = some wv := by cases Inl.encI X (4 * (k : Int)); exact .inl rfl; exact .inr ⟨_, rfl⟩
      refine reg (qq hS (qb _) (qq hS (Qmi rfl) ?_))
      refine qq hS (g_ixI underlying26 sizeOf61 hl rfl rfl (by omega) (by omega)) ?_
      refine qq hS (zp (c' := 1) underlying61 sizeOf5 rfl rfl (by decide) (by decide) rfl) ?_
      refine qq hS (qr isAgg5 hqA rfl rfl) ?_
      refine qq hS (qD underlying5 underlying3 rfl (by omega) (by omega)) ?_
      refine qq hS (g_rem rfl rfl (by omega) (by omega)) ?_
      refine qq hS (qa (o' := 1) underlying63 rfl sizeOf3 rfl rfl rfl) ?_
      refine qe (qg 0 hS sizeOf3 rfl rfl rfl (vs := [.int .i64 _]) rfl rfl rfl (Nat.le_of_ble_eq_true rfl) (cs' := [_, _, _, _, _]) rfl) ?_
      clear hS
      rintro _ w_5 ⟨rfl, hS⟩
      refine QoN (wpIn_seq ?_)
      refine hes.elim (fun he2 => ?_) (fun he2 => ?_)
      ·
       refine reg ?_
       refine qq hS (g_ldO 0 (vs := [.int .i64 _, .int .i64 _, .int .i64 _, .int .i64 _, .int .i64 _]) sizeOf63 isAgg63 rfl rfl rfl rfl) ?_
       refine qq hS (Qmi rfl) ?_
       refine qq hS (g_mul rfl rfl (by omega) (by omega)) ?_
       refine qe (qi call21 rfl (vR hX _ I0 hS.imm hLk hXn.1 hXn.2 (by omega) (by omega) he2)) ?_
       rintro _ w_6 ⟨rfl, hE⟩
       replace hS := hS.callE hE
       refine qq hS (qb _) ?_
       refine qq hS (ql (v := .int .u32 _) rfl rfl) ?_
       refine qq hS (Qxi rfl rfl) ?_
       refine qq hS (Qaw rfl) (qq hS (Qai rfl) (QoR (qq hS (Qmi rfl) ?_)))
       refine qq hS (g_toV (g_eql rfl rfl) (congrArg Value.bool (decide_eq_false (by decide)))) ?_
       refine QoN ?_
       refine jb (rfl) ?_
       refine wpIn_skip (thenN ?_)
       first | exact ⟨_, rfl, _, ⟨rfl, rfl, rfl, rfl, rfl, trivial⟩, (hS.sel [false, true]), hx0, hx1⟩ | exact ⟨_, rfl, _, ⟨rfl, rfl, rfl, rfl, rfl, trivial⟩, (hS.sel [false, true]), hwvb⟩
      ·
       obtain ⟨wv, he2⟩ := he2
       have hwvb := (kP he2).2
       refine reg ?_
       refine qq hS (g_ldO 0 (vs := [.int .i64 _, .int .i64 _, .int .i64 _, .int .i64 _, .int .i64 _]) sizeOf63 isAgg63 rfl rfl rfl rfl) ?_
       refine qq hS (Qmi rfl) ?_
       refine qq hS (g_mul rfl rfl (by omega) (by omega)) ?_
       refine qe (qi call21 rfl (vQ hX _ I0 hS.imm hLk hXn.1 hXn.2 (by omega) (by omega) he2)) ?_
       rintro _ w_7 ⟨rfl, hE⟩
       replace hS := hS.callE hE
       refine qq hS (qb _) ?_
       refine qq hS (ql (v := .int .u32 _) rfl rfl) ?_
       refine qq hS (Qxi rfl rfl) ?_
       refine qq hS (Qaw rfl) (qq hS (Qai rfl) (QoR (qq hS (Qmi rfl) ?_)))
       refine qq hS (g_toV (g_eql rfl rfl) (congrArg Value.bool (decide_eq_true rfl))) ?_
       refine QoN ?_
       refine jc (rfl) ?_
       refine reg (qq hS (Qmw rfl) (qq hS (Qaw rfl) (QoN ?_)))
       first | exact ⟨_, rfl, _, ⟨rfl, rfl, rfl, rfl, rfl, trivial⟩, (hS.sel [false, true]), hx0, hx1⟩ | exact ⟨_, rfl, _, ⟨rfl, rfl, rfl, rfl, rfl, trivial⟩, (hS.sel [false, true]), hwvb⟩
     ·
      intro hc59
      clear hu57 hn57 hu58 hn58
      try simp only [zA, zO, zN, zI, zF, zM, zT, zU] at hc59
      obtain ⟨X, hX⟩ : ∃ X : InstL, X = ⟨q.a % 16, 0, 0, 0, 4 * (q.c % ((sz : Int) + 2) - 1)⟩ := ⟨_, rfl⟩
      have hLk : Lnkd X := by rw [hX]; exact ⟨⟨by dsimp only; omega, by dsimp only; omega⟩, ⟨by dsimp only; omega, by dsimp only; omega⟩, rfl, rfl, fun h => by dsimp only at h ⊢ <;> omega⟩
      have hXn : -1099511627776 ≤ X.n ∧ X.n ≤ 1099511627776 := by rw [hX]; dsimp only; omega
      have hes : Inl.encI X (4 * (k : Int)) = none ∨ ∃ wv, Inl.encI X (4 * (k : Int)) = some wv := by cases Inl.encI X (4 * (k : Int)); exact .inl rfl; exact .inr ⟨_, rfl⟩
      refine wpIn_skip (thenN (wpIn_seq ?_))
      refine hes.elim (fun he2 => ?_) (fun he2 => ?_)
      ·
       refine reg ?_
       refine qq hS (g_ldO 0 (vs := [.int .i64 _, .int .i64 _, .int .i64 _, .int .i64 _, .int .i64 _]) sizeOf63 isAgg63 rfl rfl rfl rfl) ?_
       refine qq hS (Qmi rfl) ?_
       refine qq hS (g_mul rfl rfl (by omega) (by omega)) ?_
       refine qe (qi call21 rfl (vR hX _ I0 hS.imm hLk hXn.1 hXn.2 (by omega) (by omega) he2)) ?_
       rintro _ w_8 ⟨rfl, hE⟩
       replace hS := hS.callE hE
       refine qq hS (qb _) ?_
       refine qq hS (ql (v := .int .u32 _) rfl rfl) ?_
       refine qq hS (Qxi rfl rfl) ?_
       refine qq hS (Qaw rfl) (qq hS (Qai rfl) (QoR (qq hS (Qmi rfl) ?_)))
       refine qq hS (g_toV (g_eql rfl rfl) (congrArg Value.bool (decide_eq_false (by decide)))) ?_
       refine QoN ?_
       refine jb (rfl) ?_
       refine wpIn_skip (thenN ?_)
       first | exact ⟨_, rfl, _, ⟨rfl, rfl, rfl, rfl, rfl, trivial⟩, (hS.sel [false, true]), hx0, hx1⟩ | exact ⟨_, rfl, _, ⟨rfl, rfl, rfl, rfl, rfl, trivial⟩, (hS.sel [false, true]), hwvb⟩
      ·
       obtain ⟨wv, he2⟩ := he2
       have hwvb := (kP he2).2
       refine reg ?_
       refine qq hS (g_ldO 0 (vs := [.int .i64 _, .int .i64 _, .int .i64 _, .int .i64 _, .int .i64 _]) sizeOf63 isAgg63 rfl rfl rfl rfl) ?_
       refine qq hS (Qmi rfl) ?_
       refine qq hS (g_mul rfl rfl (by omega) (by omega)) ?_
       refine qe (qi call21 rfl (vQ hX _ I0 hS.imm hLk hXn.1 hXn.2 (by omega) (by omega) he2)) ?_
       rintro _ w_9 ⟨rfl, hE⟩
       replace hS := hS.callE hE
       refine qq hS (qb _) ?_
       refine qq hS (ql (v := .int .u32 _) rfl rfl) ?_
       refine qq hS (Qxi rfl rfl) ?_
       refine qq hS (Qaw rfl) (qq hS (Qai rfl) (QoR (qq hS (Qmi rfl) ?_)))
       refine qq hS (g_toV (g_eql rfl rfl) (congrArg Value.bool (decide_eq_true rfl))) ?_
       refine QoN ?_
       refine jc (rfl) ?_
       refine reg (qq hS (Qmw rfl) (qq hS (Qaw rfl) (QoN ?_)))
       first | exact ⟨_, rfl, _, ⟨rfl, rfl, rfl, rfl, rfl, trivial⟩, (hS.sel [false, true]), hx0, hx1⟩ | exact ⟨_, rfl, _, ⟨rfl, rfl, rfl, rfl, rfl, trivial⟩, (hS.sel [false, true]), hwvb⟩
    ·
     intro hc40
     clear hu38 hn38 hu39 hn39
     try simp only [zA, zO, zN, zI, zF, zM, zT, zU] at hc40
     refine wpIn_skip (thenN ?_)
     first | exact ⟨_, rfl, _, ⟨rfl, rfl, rfl, rfl, rfl, trivial⟩, hS, hx0, hx1⟩ | exact ⟨_, rfl, _, ⟨rfl, rfl, rfl, rfl, rfl, trivial⟩, hS, hwvb⟩
   ·
    rintro σ w_j ⟨y, hs, hS, hy0, hy1⟩
    rw [← qj hs]
    refine reg (qq hS (qb _) (qq hS (Qmw rfl) ?_))
    refine qe (d_lit (vs := [.int .u32 _]) (cs := [.int .u32 _]) hS underlying57 sizeOf58 zeroValue58 rfl rfl rfl rfl (fun v hv => by simp only [List.mem_cons, List.not_mem_nil, or_false] at hv; subst hv; rfl) rfl) ?_
    clear hS
    rintro _ w_10 ⟨b80, rfl, hS⟩
    refine qe (qt 1 0 hS rfl underlying57 info58 rfl rfl rfl rfl rfl rfl rfl rfl (by omega) (by omega)) ?_
    clear hS
    rintro _ w_11 ⟨a81, p81, rfl, hS⟩
    refine qq hS (qf _) ?_
    refine qx (blkN (thenN ?_))
    refine reg (qq hS (Qmi rfl) ?_)
    refine qq hS (g_add rfl rfl (by omega) (by omega)) ?_
    refine qq hS (Qai rfl) ?_
    refine ⟨⟨k + 1, a81, p81, W ++ [y]⟩, _, rfl, ⟨⟨rfl, rfl, rfl, rfl, trivial⟩, ?_, by dsimp only; omega, by dsimp only; rw [List.length_append, hWl]; rfl, wrds_snoc hWw ⟨hy0, hy1⟩⟩, by dsimp only; omega⟩
    dsimp only
    rw [qp, qA]
    exact hS.sel [false, true]
  ·
   intro hc20
   try simp only [zA, zO, zN, zI, zF, zM, zT, zU] at hc20
   refine wpIn_exit ?_
   refine thenE (thenE (blkE ?_))
   refine thenN (wpIn_seq ?_)
   subst hWl
   have hF := St.freezeRow (u := .slice a W.length c) (m := W.length) (xs := W) qN (by exact hS.ord [0]) (rfl)
   clear hS
   obtain ⟨I_hws, hS, hI_hws, hws⟩ := hF
   refine reg (qq hS (qb _) ?_)
   refine qe (qi call22 rfl (bytes2_E a c W.length W _ _ hS.imm hws hWw rfl (by omega))) ?_
   rintro _ w_12 ⟨I_f, a83, c83, rfl, hE, h83⟩
   replace hS := hS.callE hE
   replace hws := hws.mono hE.ext
   refine qq hS (qf _) (QoN (wpIn_ret ?_))
   refine ret1 results7 (qd rfl) ?_
   exact ⟨_, a83, c83, W, rfl, hS.nil, h83, hWw, by omega⟩
end Go.Proofs.YtaklmbhfmpdinaaGreat
