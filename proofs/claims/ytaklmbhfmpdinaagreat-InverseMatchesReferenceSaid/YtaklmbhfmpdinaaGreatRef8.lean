/- inlayref08.Cheapest, Form, Same: what they compute, namely the same as package normal. Conditions: numbers within bounds. -/
import Derived.Test.YtaklmbhfmpdinaaGreatList
import Derived.Test.YtaklmbhfmpdinaaGreatKCut
set_option linter.unusedSimpArgs false
set_option linter.unusedVariables false
namespace Go.Proofs.YtaklmbhfmpdinaaGreat
open Tryz
open Go Go.RowKit Go.Inl
theorem strange_right (n : Int) (s : Sym) : strange n s = !rightSymR s n := by
 unfold strange rightSymR inS
 cases s.old
 · simp
 · simp only [Bool.true_and, Bool.not_true, Bool.false_and, Bool.or_false, if_true]
   by_cases h1 : s.at_ < 0
   · rw [decide_eq_true h1, decide_eq_false (show ¬ 0 ≤ s.at_ by omega)]; rfl
   · rw [decide_eq_false h1, decide_eq_true (show 0 ≤ s.at_ by omega)]
     by_cases h2 : n ≤ s.at_
     · rw [decide_eq_true h2, decide_eq_false (show ¬ s.at_ ≤ n - 1 by omega)]; rfl
     · rw [decide_eq_false h2, decide_eq_true (show s.at_ ≤ n - 1 by omega)]; rfl
theorem rightP_of {x : OpL} {n : Int} (h : rightR x n = true) : 1 ≤ x.len ∧ x.len ≤ 65536 ∧ rightP x n = true := by
 unfold rightR rightP insideP inS at *
 simp only [Bool.and_eq_true, decide_eq_true_eq] at *
 obtain ⟨⟨h1, h2⟩, h3⟩ := h
 refine ⟨h1, h2, ?_⟩
 by_cases k1 : x.kind = 1
 · simp [k1] at h3 ⊢; omega
 · by_cases k2 : x.kind = 2
   · simp [k2] at h3 ⊢; omega
   · by_cases k3 : x.kind = 3
     · simp [k3] at h3 ⊢; omega
     · by_cases k4 : x.kind = 4
       · simp [k4] at h3 ⊢; omega
       · simp [k1, k2, k3, k4] at h3
theorem checkRGo_ok8 {n out : Int} : ∀ (l : List OpL) (sum i : Int), (checkRGo n out l sum i).2 = 0 → OpsOk n l ∧ sum + ((symsOf l).length : Int) = out
 | [], sum, i, h => by
   unfold checkRGo at h
   split at h
   · exact ⟨fun x hx => by simp at hx, by simp [symsOf]; omega⟩
   · simp at h
 | x :: l, sum, i, h => by
   unfold checkRGo at h
   split at h
   · simp at h
   · rename_i hb
     simp only [Bool.or_eq_true, Bool.not_eq_true', decide_eq_true_eq, not_or, Bool.not_eq_false] at hb
     obtain ⟨h1, h2, h3⟩ := rightP_of hb.1
     obtain ⟨h4, h5⟩ := checkRGo_ok8 l _ _ h
     refine ⟨fun y hy => ?_, ?_⟩
     · rcases List.mem_cons.1 hy with rfl | hy
       · exact ⟨h1, h3⟩
       · exact h4 y hy
     · rw [jl, List.length_append, qR]; omega
theorem checkR_iff (p : PatL) : (checkR p).2 = 0 ↔ (checkP p).2 = 0 := by
 refine ⟨fun h => ?_, checkR_of⟩
 unfold checkR at h
 split at h
 · simp at h
 · rename_i hb
   simp only [inS, Bool.or_eq_true, Bool.not_eq_true', Bool.and_eq_false_iff, decide_eq_true_eq, decide_eq_false_iff_not, not_or] at hb
   obtain ⟨h1, h2⟩ := checkRGo_ok8 _ _ _ h
   exact checkP_right (by omega) h1 (by omega) (by omega) (by omega)
theorem symbolsR_eq (p : PatL) : symbolsR p = symbolsP p := by
 unfold symbolsR symbolsP
 by_cases h : (checkP p).2 = 0
 · rw [if_pos ((checkR_iff p).2 h), if_pos h]
 · rw [if_neg (fun h' => h ((checkR_iff p).1 h')), if_neg h]
   rcases checkP_60 p with h' | h'
   · rw [h']
   · exact absurd h' h
set_option maxHeartbeats 1000000 in
theorem refCheapest_c (ad : Option Addr) (cap : Nat) (l : List Sym) (size : Int) (w0 : World) (I0 : Imm) (hI : Sat I0 w0) (hl : RSyms I0 (.slice ad l.length cap) l) (hw : ∀ s ∈ l, s.wf) (hs : Mid size) :
 Ctr prog 32 [.slice ad l.length cap, .int .i64 size] w0 (fun v w' => ∃ I' a m c, v = .tuple #[.agg #[.bool (cheapP l size).1.lifted, .int .i64 (cheapP l size).1.in_, .int .i64 (cheapP l size).1.out, .slice a m c], .int .i64 (cheapP l size).2] ∧ Ext w0 I0 w' I' ∧ ROps I' (.slice a m c) (cheapP l size).1.ops) := by
 have hll := RSl.le hl
 simp only [maxLen] at hll
 refine fn (n := 43) func32 rfl rfl rfl ?_
 have hS := St.start hI
 refine QwR ?_
 refine qe (qk (cs := [.bool _, .int .i64 _, .int .i64 _, .slice _ _ _]) hS zeroValue31 rfl) ?_
 clear hS
 rintro _ w_1 ⟨b4, rfl, hS⟩
 refine qq hS (Qai rfl) (QoN (wpIn_seq (QwR (qq hS (Qmi rfl) ?_))))
 refine qe (qi call72 rfl (refIn_c size 0 65536 _ I0 hS.imm)) ?_
 rintro _ w_2 ⟨rfl, hE⟩
 replace hS := hS.callE hE
 refine qq hS (g_not rfl) ?_
 refine qq hS (Qmb rfl) ?_
 refine qu rfl rfl hS (fun hg => (qb _)) ?_
 intro u12 hu12 hn12
 refine qu rfl rfl hS (fun hg => (qo rfl underlying74 hl (hu12 hg))) ?_
 intro u13 hu13 hn13
 refine qu rfl rfl hS (fun hg => (g_gtr (hu13 hg) rfl)) ?_
 intro u14 hu14 hn14
 refine qq hS (g_or rfl rfl (fun hq => hu14 hq)) ?_
 refine QoN ?_
 refine qh rfl ?_ ?_
 ·
  intro hc15
  clear hu12 hn12 hu13 hn13 hu14 hn14
  have e : cheapP l size = (PatL.zero, 60) := by
   unfold cheapP
   rw [if_pos]
   simp only [inS, Bool.or_eq_true, Bool.not_eq_true', Bool.and_eq_false_iff, decide_eq_true_eq, decide_eq_false_iff_not] at hc15 ⊢
   omega
  refine QwR ?_
  refine qq hS (qm (pl := [(0, 1), (1, 1), (2, 1), (3, 1)]) (cs := [.bool _, .int .i64 _, .int .i64 _, .slice _ _ _]) zeroValue31 underlying31 (fun w => by simp [sizeOf29, sizeOf3, sizeOf4]) mp0 rfl) ?_
  refine qe (qg 0 hS sizeOf31 rfl rfl rfl (vs := [.bool _, .int .i64 _, .int .i64 _, .slice _ _ _]) rfl rfl rfl (Nat.le_of_ble_eq_true rfl) (cs' := [_, _, _, _]) rfl) ?_
  clear hS
  rintro _ w_3 ⟨rfl, hS⟩
  refine qq hS (Qai rfl) (QoN (wpIn_ret ?_))
  refine thenR ?_
  refine ret2 results32 (qs 0 hS sizeOf31 isAgg31 rfl rfl rfl) (qd (v := .int .i64 _) rfl) ?_
  rw [e]; exact ⟨_, none, 0, 0, rfl, hS.nil, RSl.nilR⟩
 ·
  intro hc15
  clear hu12 hn12 hu13 hn13 hu14 hn14
  simp only [inS, Bool.or_eq_false_iff, Bool.not_eq_false', Bool.and_eq_true, decide_eq_true_eq, decide_eq_false_iff_not] at hc15
  obtain ⟨⟨hn0, hn1⟩, hn2'⟩ := hc15
  have hn2 : l.length ≤ 65536 := by omega
  refine wpIn_skip (thenN (wpIn_seq (QwR (qq hS (Qai rfl) (QoN ?_)))))
  refine wpIn_block ?_
  refine loop (fun (i : Nat) σ w => okS σ [(0, .slice ad l.length cap), (1, .int .i64 size), (4, .pointer (some ⟨b4, 0, none⟩)), (6, .int .i64 i)] ∧ St [] w0 I0 I0 w [.cel b4 31 [.bool false, .int .i64 0, .int .i64 0, .slice none 0 0]] ∧ i ≤ l.length ∧ ∀ s ∈ l.take i, strange size s = false) (fun i => l.length - i) (0) ?_ ?_
  ·
   exact ⟨⟨rfl, rfl, rfl, rfl, trivial⟩, hS.sel [true], by simp, by simp⟩
  ·
   rintro i σ w_l ⟨hs, hS, hi0, hbad⟩
   rw [← qj hs]; clear hs
   refine wpIn_seq (QwR (qq hS (Qmi rfl) (qq hS (qb _) ?_)))
   refine qq hS (qo rfl underlying74 hl rfl) ?_
   refine qq hS (g_lss rfl rfl) ?_
   refine QoN ?_
   refine qh rfl ?_ ?_
   ·
    intro hc20
    try simp only [zA, zO, zN, zI, zF, zM, zT, zU] at hc20
    obtain ⟨s, hsi⟩ : ∃ s, l[i]? = some s := ⟨_, List.getElem?_eq_getElem (by omega)⟩
    have hsA := hl.at hsi
    refine wpIn_skip (thenN (wpIn_seq (wpIn_block (QwR (qq hS (qb _) ?_)))))
    refine qq hS (Qmi rfl) ?_
    refine qq hS (g_ixI underlying74 sizeOf80 hl rfl rfl (by omega) (by omega)) ?_
    refine qq hS (g_ldE (us := [.bool _, .int .i64 _, .int .u8 _]) sizeOf80 isAgg80 hsA rfl rfl rfl) ?_
    refine qq hS (Qmi rfl) ?_
    refine qe (qi call73 rfl (rightSym_c s size _ I0 hS.imm hs)) ?_
    rintro _ w_4 ⟨rfl, hE⟩
    replace hS := hS.callE hE
    refine qq hS (g_not rfl) ?_
    refine QoN ?_
    refine qh rfl ?_ ?_
    ·
     intro hc29
     simp only [Bool.not_eq_true', Bool.not_eq_false'] at hc29
     have e : cheapP l size = (PatL.zero, 60) := by
      unfold cheapP
      rw [if_pos]
      have : l.any (strange size) = true := List.any_eq_true.2 ⟨s, List.mem_of_getElem? hsi, by rw [strange_right, hc29]; rfl⟩
      rw [this, Bool.or_true]
     refine QwR ?_
     refine qq hS (qm (pl := [(0, 1), (1, 1), (2, 1), (3, 1)]) (cs := [.bool _, .int .i64 _, .int .i64 _, .slice _ _ _]) zeroValue31 underlying31 (fun w => by simp [sizeOf29, sizeOf3, sizeOf4]) mp0 rfl) ?_
     refine qe (qg 0 hS sizeOf31 rfl rfl rfl (vs := [.bool _, .int .i64 _, .int .i64 _, .slice _ _ _]) rfl rfl rfl (Nat.le_of_ble_eq_true rfl) (cs' := [_, _, _, _]) rfl) ?_
     clear hS
     rintro _ w_5 ⟨rfl, hS⟩
     refine qq hS (Qai rfl) (QoN (wpIn_ret ?_))
     refine blkR (thenR (thenR (blkR (thenR ?_))))
     refine ret2 results32 (qs 0 hS sizeOf31 isAgg31 rfl rfl rfl) (qd (v := .int .i64 _) rfl) ?_
     rw [e]; exact ⟨_, none, 0, 0, rfl, hS.nil, RSl.nilR⟩
    ·
     intro hc29
     simp only [Bool.not_eq_true', Bool.not_eq_false'] at hc29
     have hsg : strange size s = false := by rw [strange_right, hc29]; rfl
     refine wpIn_skip (blkN (thenN (reg (qq hS (Qmi rfl) ?_))))
     refine qq hS (g_add rfl rfl (by omega) (by omega)) ?_
     refine qq hS (Qai rfl) ?_
     exact ⟨i + 1, _, rfl, ⟨⟨rfl, rfl, rfl, rfl, trivial⟩, hS.sel [true], by omega, yy hsi hbad hsg⟩, by omega⟩
   ·
    intro hc20
    try simp only [zA, zO, zN, zI, zF, zM, zT, zU] at hc20
    have hil : i = l.length := by omega
    subst hil
    rw [List.take_length] at hbad
    have hok : okL size l := hbad
    have hbest := (optL_spec hok).2.2.2
    refine wpIn_exit ?_
    refine thenE (thenE (blkE ?_))
    refine thenN (QwR (qq hS (Qmi rfl) (qq hS (qb _) ?_)))
    refine qq hS (qo rfl underlying74 hl rfl) ?_
    refine qq hS (qb _) ?_
    refine qe (qi call74 rfl (list_c ad cap l size _ _ hS.imm hl hw hn2 hok)) ?_
    rintro _ w_6 ⟨I3, a3, m3, c3, rfl, hE, h3⟩
    replace hS := hS.callE hE
    refine qq hS (qm (pl := [(0, 1), (1, 1), (2, 1), (3, 1)]) (cs := [.bool _, .int .i64 _, .int .i64 _, .slice _ _ _]) zeroValue31 underlying31 (fun w => by simp [sizeOf29, sizeOf3, sizeOf4]) (mp (v := .int .i64 _) rfl (mp (v := .int .i64 _) rfl (mp rfl mp0))) rfl) ?_
    refine qe (qk (cs := [.bool _, .int .i64 _, .int .i64 _, .slice _ _ _]) hS zeroValue31 rfl) ?_
    clear hS
    rintro _ w_7 ⟨b7, rfl, hS⟩
    refine qe (qg 0 hS sizeOf31 rfl rfl rfl (vs := [.bool _, .int .i64 _, .int .i64 _, .slice _ _ _]) rfl rfl rfl (Nat.le_of_ble_eq_true rfl) (cs' := [_, _, _, _]) rfl) ?_
    clear hS
    rintro _ w_8 ⟨rfl, hS⟩
    refine QoN (wpIn_seq (QwR ?_))
    refine qq hS (qa (o' := 3) underlying31 rfl sizeOf29 rfl rfl rfl) ?_
    refine qq hS (qc 0 isAgg29 rfl rfl rfl) ?_
    refine qq hS (qo rfl underlying29 h3 rfl) ?_
    refine qq hS (g_gtr rfl rfl) ?_
    refine QoN ?_
    refine qh rfl ?_ ?_
    ·
     intro hc40
     try simp only [zA, zO, zN, zI, zF, zM, zT, zU] at hc40
     have e : cheapP l size = (PatL.zero, 2) := by
      unfold cheapP
      have h2 : l.any (strange size) = false := by rw [List.any_eq_false]; intro s hs; rw [hok s hs]; simp
      rw [if_neg (by simp [h2]; omega), if_pos (by show 4096 < (bestP l).ops; omega)]
     refine QwR ?_
     refine qq hS (qm (pl := [(0, 1), (1, 1), (2, 1), (3, 1)]) (cs := [.bool _, .int .i64 _, .int .i64 _, .slice _ _ _]) zeroValue31 underlying31 (fun w => by simp [sizeOf29, sizeOf3, sizeOf4]) mp0 rfl) ?_
     refine qe (qg 1 hS sizeOf31 rfl rfl rfl (vs := [.bool _, .int .i64 _, .int .i64 _, .slice _ _ _]) rfl rfl rfl (Nat.le_of_ble_eq_true rfl) (cs' := [_, _, _, _]) rfl) ?_
     clear hS
     rintro _ w_9 ⟨rfl, hS⟩
     refine qq hS (Qai rfl) (QoN (wpIn_ret ?_))
     refine thenR ?_
     refine ret2 results32 (qs 1 hS sizeOf31 isAgg31 rfl rfl rfl) (qd (v := .int .i64 _) rfl) ?_
     rw [e]; exact ⟨_, none, 0, 0, rfl, hS.nil, RSl.nilR⟩
    ·
     intro hc40
     try simp only [zA, zO, zN, zI, zF, zM, zT, zU] at hc40
     have e : cheapP l size = (⟨false, size, l.length, optL l⟩, 0) := by
      unfold cheapP
      have h2 : l.any (strange size) = false := by rw [List.any_eq_false]; intro s hs; rw [hok s hs]; simp
      rw [if_neg (by simp [h2]; omega), if_neg (by show ¬ 4096 < (bestP l).ops; omega)]
      rfl
     refine wpIn_skip (thenN (QwR ?_))
     refine qq hS (g_ldO 0 (vs := [.bool _, .int .i64 _, .int .i64 _, .slice _ _ _]) sizeOf31 isAgg31 rfl rfl rfl rfl) ?_
     refine qe (qg 1 hS sizeOf31 rfl rfl rfl (vs := [.bool _, .int .i64 _, .int .i64 _, .slice _ _ _]) rfl rfl rfl (Nat.le_of_ble_eq_true rfl) (cs' := [_, _, _, _]) rfl) ?_
     clear hS
     rintro _ w_10 ⟨rfl, hS⟩
     refine qq hS (Qai rfl) (QoN (wpIn_ret ?_))
     refine ret2 results32 (qs 1 hS sizeOf31 isAgg31 rfl rfl rfl) (qd (v := .int .i64 _) rfl) ?_
     rw [e]; exact ⟨_, a3, m3, c3, rfl, hS.nil, h3⟩
end Go.Proofs.YtaklmbhfmpdinaaGreat
