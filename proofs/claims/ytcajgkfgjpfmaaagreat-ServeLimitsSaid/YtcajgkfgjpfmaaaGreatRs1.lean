/- inlayref30: Fit, Has, Insert, chain, Length, Version, Unlimited: what they compute. Conditions: good servers where it is said. -/
import Derived.Test.YtcajgkfgjpfmaaaGreatRs0
set_option linter.unusedSimpArgs false
set_option linter.unusedVariables false
namespace Go.Proofs.YtcajgkfgjpfmaaaGreat
open Tryz
open Go Go.RowKit Go.Inl
theorem hasStep {l : List Int} {k : Nat} {x v : Int} (hall : ∀ i, i < k → l[i]? ≠ some v) (hxi : l[k]? = some x) (hc : ¬ x = v) : ∀ i, i < k + 1 → l[i]? ≠ some v := fun i hi h => by
 rcases Nat.lt_succ_iff_lt_or_eq.1 hi with g | g
 · exact hall i g h
 · subst g; rw [hxi] at h; exact hc (Option.some.inj h)
def versP (s : SrvL) (n : Int) : Int := if s.g.vs.length = 0 ∨ 200 ≤ n then n else s.g.vs.getD (n % (s.g.vs.length : Int)).toNat 0
theorem getD_get30 {l : List Int} {k : Nat} {d : Int} (h : k < l.length) : l[k]? = some (l.getD k d) := by rw [List.getD_eq_getElem?_getD, List.getElem?_eq_getElem h]; rfl
theorem getN30 {l : List Int} {i : Nat} {x d : Int} (h : l[i]? = some x) : l.getD i d = x := by rw [List.getD_eq_getElem?_getD, h]; rfl
theorem lt_step30 {l : List Int} {n y : Int} {k : Nat} (h : ∀ i, i < k → ∀ z, l[i]? = some z → z < n) (hy : l[k]? = some y) (e : y < n) : ∀ i, i < k + 1 → ∀ z, l[i]? = some z → z < n := fun i hi z hz => by
 rcases Nat.lt_succ_iff_lt_or_eq.1 hi with g | g
 · exact h i g z hz
 · subst g; rw [hy] at hz; cases hz; exact e
theorem has_c (ad : Option Addr) (cap : Nat) (l : List Int) (v : Int) (w0 : World) (I0 : Imm) (hI : Sat I0 w0) (hl : RFl I0 1 intC (.slice ad l.length cap) l) :
 Ctr prog 32 [.slice ad l.length cap, .int .i64 v] w0 (fun u w' => u = .bool (decide (v ∈ l)) ∧ Ext w0 I0 w' I0) := by
 have hle := RSl.le hl
 simp only [maxLen] at hle
 refine fn (n := 18) func32 rfl rfl rfl ?_
 have hS := St.start hI
 refine QwR (qq hS (Qab rfl) (QoN (wpIn_seq (QwR (qq hS (Qai rfl) ?_)))))
 refine QoN (wpIn_block ?_)
 refine loop (fun (k : Nat) σ w => okS σ [(0, .slice ad l.length cap), (1, .int .i64 v), (5, .int .i64 k)] ∧ St [] w0 I0 I0 w [] ∧ k ≤ l.length ∧ ∀ i, i < k → l[i]? ≠ some v) (fun k => l.length - k) (0) ?_ ?_
 ·
  exact ⟨⟨rfl, rfl, rfl, trivial⟩, hS.sel [], by omega, fun i hi => by omega⟩
 ·
  rintro k σ w_l ⟨hs, hS, hk0, hall⟩
  rw [← qr hs]; clear hs
  refine wpIn_seq (QwR (qq hS (Qmi rfl) (qq hS (qh _) ?_)))
  refine qq hS (qs rfl underlying31 hl rfl) ?_
  refine qq hS (g_lss rfl rfl) ?_
  refine QoN ?_
  refine qk rfl ?_ ?_
  ·
   intro hc9
   try simp only [zA, zO, zN, zI, zF, zM, zT, zU] at hc9
   obtain ⟨x, hxi⟩ : ∃ x, l[k]? = some x := ⟨_, List.getElem?_eq_getElem (by omega)⟩
   have hxA := hl.at hxi
   refine wpIn_skip (thenN (wpIn_seq (wpIn_block (QwR (qq hS (qh _) ?_)))))
   refine qq hS (Qmi rfl) ?_
   refine qq hS (g_ixI underlying31 sizeOf3 hl rfl rfl (by omega) (by omega)) ?_
   refine qq hS (qy isAgg3 hxA rfl rfl) ?_
   refine qq hS (Qmi rfl) ?_
   refine qq hS (g_eql rfl rfl) ?_
   refine QoN ?_
   refine qk rfl ?_ ?_
   ·
    intro hc17
    try simp only [zA, zO, zN, zI, zF, zM, zT, zU] at hc17
    subst hc17
    have e : decide (x ∈ l) = true := decide_eq_true (List.mem_of_getElem? hxi)
    refine QwR (qq hS (Qab rfl) (QoN (wpIn_ret ?_)))
    refine blkR (thenR (thenR (blkR (thenR ?_))))
    refine ret1 results32 (qi (v := .bool _) rfl) ?_
    exact ⟨by rw [e] <;> rfl, hS.nil⟩
   ·
    intro hc17
    try simp only [zA, zO, zN, zI, zF, zM, zT, zU] at hc17
    have hnx := hasStep hall hxi hc17
    refine wpIn_skip (blkN (thenN (reg (qq hS (Qmi rfl) ?_))))
    refine qq hS (g_add rfl rfl (by omega) (by omega)) ?_
    refine qq hS (Qai rfl) ?_
    exact ⟨k + 1, _, rfl, ⟨⟨rfl, rfl, rfl, trivial⟩, hS.sel [], by omega, hnx⟩, by omega⟩
  ·
   intro hc9
   try simp only [zA, zO, zN, zI, zF, zM, zT, zU] at hc9
   obtain rfl : k = l.length := by omega
   have e : decide (v ∈ l) = false := decide_eq_false (take_no hall)
   refine wpIn_exit ?_
   refine thenE (thenE (blkE ?_))
   refine thenN (QwR (qq hS (Qab rfl) (QoN (wpIn_ret ?_))))
   refine ret1 results32 (qi (v := .bool _) rfl) ?_
   exact ⟨by rw [e] <;> rfl, hS.nil⟩
theorem insert30_c (ad : Option Addr) (cap : Nat) (l : List Int) (n : Int) (w0 : World) (I0 : Imm) (hI : Sat I0 w0) (hl : RFl I0 1 intC (.slice ad l.length cap) l) (hs : l.Pairwise (· < ·)) (hn : l.length ≤ 1073741824) :
 Ctr prog 45 [.slice ad l.length cap, .int .i64 n] w0 (fun v w' => ∃ I' a c, v = .slice a (insI l n).length c ∧ Ext w0 I0 w' I' ∧ RFl I' 1 intC (.slice a (insI l n).length c) (insI l n)) := by
 have hle := RSl.le hl
 simp only [maxLen] at hle
 have hcap := (RSl.len_cap hl).1
 refine fn (n := 39) func45 rfl rfl rfl ?_
 have hS := St.start hI
 refine QwR (qq hS (qp _) (QoN (wpIn_seq (QwR (qq hS (qh _) ?_)))))
 refine qq hS (Qmi rfl) ?_
 refine qe (qj call32 rfl (has_c ad cap l n _ I0 hS.imm hl)) ?_
 rintro _ w_1 ⟨rfl, hE⟩
 replace hS := hS.callE hE
 refine QoN ?_
 refine qk rfl ?_ ?_
 ·
  intro hc9
  try simp only [zA, zO, zN, zI, zF, zM, zT, zU] at hc9
  have hm : n ∈ l := by simpa using hc9
  have e := zQ hs hm
  refine QwR (qq hS (qh _) (qq hS (qp _) (QoN (wpIn_ret ?_))))
  refine thenR ?_
  refine ret1 results45 (qi rfl) ?_
  first
   | exact ⟨I0, ad, cap, by rw [e] <;> rfl, hS.nil, by rw [e]; exact hl⟩
   | (have e2 : insI l n = l.take k ++ ([n] ++ l.drop k) := e
      rw [e2]
      have hm2 : 0 + (l.take k).length + 1 + (l.drop k).length = (l.take k ++ ([n] ++ l.drop k)).length := by simp only [List.length_append, List.length_singleton]; omega
      obtain ⟨I1, hE1, hI1, hd1⟩ := qS qB (xs := l.take k ++ ([n] ++ l.drop k)) (m := (l.take k ++ ([n] ++ l.drop k)).length) (by rw [← hm2, qv, qv, qV, ← List.append_assoc]; exact hS.sel []) rfl
      exact ⟨I1, a38, p38, by rw [← hm2] <;> rfl, hE1, by rw [← hm2]; exact hd1⟩)
 ·
  intro hc9
  try simp only [zA, zO, zN, zI, zF, zM, zT, zU] at hc9
  have hm : n ∉ l := by simpa using hc9
  refine wpIn_skip (thenN (QwR (qq hS (Qai rfl) (QoN (wpIn_seq ?_)))))
  refine wpIn_block ?_
  refine loop (fun (k : Nat) σ w => okS σ [(0, .slice ad l.length cap), (1, .int .i64 n), (5, .int .i64 k)] ∧ St [] w0 I0 I0 w [] ∧ k ≤ l.length ∧ ∀ i, i < k → ∀ z, l[i]? = some z → z < n) (fun k => l.length - k) (0) ?_ ?_
  ·
   exact ⟨⟨rfl, rfl, rfl, trivial⟩, hS.sel [], by omega, fun i hi => by omega⟩
  ·
   rintro k σ w_l ⟨hs, hS, hk, hlt⟩
   rw [← qr hs]; clear hs
   have hxA : k < l.length → atI I0 (elA (.slice ad l.length cap) k 1 0) [.int .i64 (l.getD k 0)] := fun h => hl.at (getD_get30 h)
   refine wpIn_seq (QwR (qq hS (Qmi rfl) (qq hS (qh _) ?_)))
   refine qq hS (qs rfl underlying31 hl rfl) ?_
   refine qq hS (g_lss rfl rfl) ?_
   refine qq hS (Qmb rfl) ?_
   refine qu rfl rfl hS (fun hg => (qh _)) ?_
   intro u16 hu16 hn16
   refine qu rfl rfl hS (fun hg => (Qmi rfl)) ?_
   intro u17 hu17 hn17
   refine qu rfl rfl hS (fun hg => (g_ixI underlying31 sizeOf3 hl (hu16 hg) (hu17 hg) (by have := of_decide_eq_true hg; omega) (by have := of_decide_eq_true hg; omega))) ?_
   intro u18 hu18 hn18
   refine qu rfl rfl hS (fun hg => (qy isAgg3 (hxA (by have := of_decide_eq_true hg; omega)) (hu18 hg) rfl)) ?_
   intro u19 hu19 hn19
   refine qu rfl rfl hS (fun hg => (Qmi rfl)) ?_
   intro u20 hu20 hn20
   refine qu rfl rfl hS (fun hg => (g_lss (hu19 hg) (hu20 hg))) ?_
   intro u21 hu21 hn21
   refine qq hS (g_and rfl rfl (fun hq => hu21 hq)) ?_
   refine QoN ?_
   refine qk rfl ?_ ?_
   ·
    intro hc22
    clear hu16 hn16 hu17 hn17 hu18 hn18 hu19 hn19 hu20 hn20 hu21 hn21
    try simp only [zA, zO, zN, zI, zF, zM, zT, zU] at hc22
    have hkl : k < l.length := by have := hc22.1; omega
    obtain ⟨y, hyi⟩ : ∃ y, l[k]? = some y := ⟨_, List.getElem?_eq_getElem hkl⟩
    have hyn : l.getD k 0 < n := hc22.2
    rw [getN30 hyi] at hyn
    have hlt2 := lt_step30 hlt hyi hyn
    refine wpIn_skip (thenN (wpIn_block (reg (qq hS (Qmi rfl) ?_))))
    refine qq hS (g_add rfl rfl (by omega) (by omega)) ?_
    refine qq hS (Qai rfl) ?_
    exact ⟨k + 1, _, rfl, ⟨⟨rfl, rfl, rfl, trivial⟩, hS.sel [], by omega, hlt2⟩, by omega⟩
   ·
    intro hc22
    clear hu16 hn16 hu17 hn17 hu18 hn18 hu19 hn19 hu20 hn20 hu21 hn21
    try simp only [zA, zO, zN, zI, zF, zM, zT, zU] at hc22
    have hend : ∀ y, l[k]? = some y → n ≤ y := fun y hy => by
     have h1 := (List.getElem?_eq_some_iff.1 hy).1
     have h2 := getN30 (d := 0) hy
     have h3 := hc22 (by omega)
     omega
    have e := yt hk hm hlt hend
    refine wpIn_exit ?_
    refine thenE (thenE (blkE ?_))
    refine thenN (wpIn_seq ?_)
    have hs29 := RSl.slH hl k hk
    have hs38 := RSl.slL hl k hk
    obtain ⟨a29, c29, hv29, _⟩ := hs29.len
    obtain ⟨a38, c38, hv38, _⟩ := hs38.len
    rw [hv29] at hs29
    rw [hv38] at hs38
    have hl29 : (l.take k).length = k := by rw [List.length_take]; omega
    have hl38 : (l.drop k).length = l.length - k := List.length_drop
    refine reg ?_
    refine qe (jW hS underlying31 sizeOf3) ?_
    clear hS
    rintro _ w_2 ⟨hS, b25_, rfl⟩
    refine qq hS (qh _) (qq hS (Qmi rfl) ?_)
    refine qq hS (g_toV (jI (h0 := k) underlying31 sizeOf3 rfl rfl (by omega) (by omega) (by omega)) hv29) ?_
    refine qe (kQ 0 hS rfl underlying31 info3 rfl rfl rfl rfl qB (fun _ => rfl) hs29 rfl (by omega) (by omega)) ?_
    clear hS
    rintro _ w_3 ⟨a29, p29, rfl, hS⟩
    refine qq hS (qp _) (QoR (qq hS (qh _) (qq hS (Qmi rfl) ?_)))
    refine qe (d_lit (vs := [.int .i64 _]) (cs := [.int .i64 _]) hS underlying31 sizeOf3 zeroValue3 rfl rfl rfl rfl (fun v hv => by simp only [List.mem_cons, List.not_mem_nil, or_false] at hv; subst hv; rfl) rfl) ?_
    clear hS
    rintro _ w_4 ⟨b32, rfl, hS⟩
    refine qe (qF 1 0 hS rfl underlying31 info3 rfl rfl rfl rfl rfl rfl rfl rfl (by omega) (by omega)) ?_
    clear hS
    rintro _ w_5 ⟨a33, p33, rfl, hS⟩
    refine qq hS (qp _) (QoR (qq hS (qh _) (qq hS (qh _) (qq hS (Qmi rfl) ?_))))
    refine qq hS (g_toV (kS (l0 := k) underlying31 sizeOf3 rfl rfl (by omega) (by omega) (by omega)) hv38) ?_
    refine qe (kQ 1 hS rfl underlying31 info3 rfl rfl rfl rfl qB (fun _ => rfl) hs38 rfl (by omega) (by omega)) ?_
    clear hS
    rintro _ w_6 ⟨a38, p38, rfl, hS⟩
    refine qq hS (qp _) (QoN (wpIn_ret ?_))
    refine ret1 results45 (qi rfl) ?_
    first
     | exact ⟨I0, ad, cap, by rw [e] <;> rfl, hS.nil, by rw [e]; exact hl⟩
     | (have e2 : insI l n = l.take k ++ ([n] ++ l.drop k) := e
        rw [e2]
        have hm2 : 0 + (l.take k).length + 1 + (l.drop k).length = (l.take k ++ ([n] ++ l.drop k)).length := by simp only [List.length_append, List.length_singleton]; omega
        obtain ⟨I1, hE1, hI1, hd1⟩ := qS qB (xs := l.take k ++ ([n] ++ l.drop k)) (m := (l.take k ++ ([n] ++ l.drop k)).length) (by rw [← hm2, qv, qv, qV, ← List.append_assoc]; exact hS.sel [false, true]) rfl
        exact ⟨I1, a38, p38, by rw [← hm2] <;> rfl, hE1, by rw [← hm2]; exact hd1⟩)
theorem ju (v : Int) (w0 : World) (I0 : Imm) (hI : Sat I0 w0) (h0 : 0 ≤ v) (h1 : v ≤ 1000000) : Ctr prog 39 [.int .i64 v] w0 (fun u w' => u = .int .i64 (lenV v) ∧ Ext w0 I0 w' I0) := by
 refine fn (n := 7) func39 rfl rfl rfl ?_
 have hS := St.start hI
 refine QwR (qq hS (Qai rfl) (QoR (qq hS (Qmi rfl) ?_)))
 refine qq hS (g_mul rfl rfl (by omega) (by omega)) ?_
 refine qq hS (g_rem rfl rfl (by omega) (by omega)) ?_
 refine qq hS (g_add rfl rfl (by omega) (by omega)) ?_
 refine qq hS (Qai rfl) (QoN (wpIn_ret ?_))
 refine ret1 results39 (qi (v := .int .i64 _) rfl) ?_
 exact ⟨rfl, hS.nil⟩
theorem version_c (s : SrvL) (A : SrvA) (n : Int) (w0 : World) (I0 : Imm) (hI : Sat I0 w0) (hs : RSrv I0 A s) (hn : 0 ≤ n ∧ n ≤ 255) :
 Ctr prog 14 [.agg #[.slice A.a0 s.g.vs.length A.c0, .slice A.a1 s.g.ls.length A.c1, .slice A.a2 s.ps.length A.c2, .slice A.a3 s.gone.length A.c3, .slice A.a4 s.cache.length A.c4], .int .u8 n] w0 (fun u w' => u = .int .i64 (versP s n) ∧ Ext w0 I0 w' I0) := by
 have hle := RSl.le hs.g.vs
 simp only [maxLen] at hle
 refine fn (n := 28) func14 rfl rfl rfl ?_
 have hS := St.start hI
 refine QwR ?_
 refine qe (d_box (cs := [.slice _ _ _, .slice _ _ _, .slice _ _ _, .slice _ _ _, .slice _ _ _]) hS rfl) ?_
 clear hS
 rintro _ w_1 ⟨b2, rfl, hS⟩
 refine qq hS (Qai rfl) (QoN (wpIn_seq (QwR ?_)))
 refine qq hS (qb (o' := 0) underlying38 rfl sizeOf34 rfl rfl rfl) ?_
 refine qq hS (qb (o' := 0) underlying34 rfl sizeOf31 rfl rfl rfl) ?_
 refine qq hS (qf 0 isAgg31 rfl rfl rfl) ?_
 refine qq hS (qs rfl underlying31 hs.g.vs rfl) ?_
 refine qq hS (g_eql rfl rfl) ?_
 refine qq hS (Qmb rfl) ?_
 refine qu rfl rfl hS (fun hg => (qK (v := .int .u8 _) rfl)) ?_
 intro u11 hu11 hn11
 refine qu rfl rfl hS (fun hg => (g_geq (hu11 hg) rfl)) ?_
 intro u12 hu12 hn12
 refine qq hS (g_or rfl rfl (fun hq => hu12 hq)) ?_
 refine QoN ?_
 refine qk rfl ?_ ?_
 ·
  intro hc13
  clear hu11 hn11 hu12 hn12
  try simp only [zA, zO, zN, zI, zF, zM, zT, zU] at hc13
  have e : versP s n = n := by
   unfold versP
   rw [if_pos (by omega)]
  refine QwR ?_
  refine qq hS (qK (v := .int .u8 _) rfl) ?_
  refine qq hS (qT underlying5 underlying3 rfl (by omega) (by omega)) ?_
  refine qq hS (Qai rfl) (QoN (wpIn_ret ?_))
  refine thenR ?_
  refine ret1 results14 (qi (v := .int .i64 _) rfl) ?_
  exact ⟨by rw [e] <;> rfl, hS.nil⟩
 ·
  intro hc13
  clear hu11 hn11 hu12 hn12
  try simp only [zA, zO, zN, zI, zF, zM, zT, zU] at hc13
  have e : versP s n = s.g.vs.getD (n % (s.g.vs.length : Int)).toNat 0 := if_neg (by omega)
  have m1 := Int.emod_nonneg n (show (s.g.vs.length : Int) ≠ 0 by omega)
  have m2 := Int.emod_lt_of_pos n (show 0 < (s.g.vs.length : Int) by omega)
  obtain ⟨x, hxi⟩ : ∃ x, s.g.vs[(n % (s.g.vs.length : Int)).toNat]? = some x := ⟨_, List.getElem?_eq_getElem (by omega)⟩
  have hxA := hs.g.vs.at hxi
  rw [getN30 hxi] at e
  refine wpIn_skip (thenN (wpIn_seq ?_))
  refine draw (.cons 0 .pure (.cons 1 .pure (.cons 2 .held (.cons 3 .pure (.cons 4 .pure (.cons 5 .pure (.cons 6 .pure (.cons 7 .held (.cons 8 .pure (.cons 9 .pure (.cons 10 .pure (.cons 11 .held (.cons 12 .pure .nil))))))))))))) mixed (by kernel_rfl) hS ?_
  intro w_2 hS
  refine sp rfl (qb (o' := 0) underlying38 rfl sizeOf34 rfl rfl rfl) ?_
  refine sp rfl (qb (o' := 0) underlying34 rfl sizeOf31 rfl rfl rfl) ?_
  refine sh rfl (qf 0 isAgg31 rfl rfl rfl) ?_
  refine sp rfl (qK (v := .int .u8 _) rfl) ?_
  refine sp rfl (qT underlying5 underlying3 rfl (by omega) (by omega)) ?_
  refine sp rfl (qb (o' := 0) underlying38 rfl sizeOf34 rfl rfl rfl) ?_
  refine sp rfl (qb (o' := 0) underlying34 rfl sizeOf31 rfl rfl rfl) ?_
  refine sh rfl (qf 0 isAgg31 rfl rfl rfl) ?_
  refine sp rfl (qs rfl underlying31 hs.g.vs rfl) ?_
  refine sp rfl (g_rem rfl rfl (by omega) (by omega)) ?_
  refine sp rfl (g_ixI underlying31 sizeOf3 hs.g.vs rfl rfl (by omega) (by omega)) ?_
  refine sh rfl (qy isAgg3 hxA rfl rfl) ?_
  refine sp rfl (Qai rfl) ?_
  refine sn (thenN ?_)
  refine wpIn_ret ?_
  refine ret1 results14 (qi (v := .int .i64 _) rfl) ?_
  exact ⟨by rw [e] <;> rfl, hS.nil⟩
end Go.Proofs.YtcajgkfgjpfmaaaGreat
