/- inlayref06.Run, and inlayref06.Apply for right patches that are not lifted: what they compute. Conditions: numbers within bounds. -/
import Derived.Test.YtaklmbhfmpdinaaGreatPSymbols
import Derived.Test.YtaklmbhfmpdinaaGreatFits
import Derived.Test.YtaklmbhfmpdinaaGreatKCut
import Derived.Test.YtaklmbhfmpdinaaGreatKRef6
import Derived.Test.YtaklmbhfmpdinaaGreatKCore3
set_option linter.unusedSimpArgs false
set_option linter.unusedVariables false
namespace Go.Proofs.YtaklmbhfmpdinaaGreat
open Tryz
open Go Go.RowKit Go.Inl
theorem checkGo_right {n : Int} : ∀ (l : List OpL) (left i : Int), (checkGo n l left i).2 = 0 → (checkGo n l left i).1 = i + l.length
 | [], left, i, h => by
   unfold checkGo at h ⊢
   split at h
   · cases h
   · rename_i h2; rw [if_neg h2]; simp
 | x :: r, left, i, h => by
   unfold checkGo at h ⊢
   split at h
   · cases h
   · rename_i h2
     rw [if_neg h2, checkGo_right r _ _ h, List.length_cons]; omega
set_option maxHeartbeats 1000000 in
theorem refRun_c (ad bd : Option Addr) (cap capb : Nat) (lo : List Int) (l : List Sym) (w0 : World) (I0 : Imm) (hI : Sat I0 w0) (ha : RBytes I0 (.slice ad lo.length cap) lo) (hb : RSyms I0 (.slice bd l.length capb) l) (hwb : ∀ s ∈ l, s.wf) (hn : l.length ≤ 65536) :
 Ctr prog 69 [.slice ad lo.length cap, .slice bd l.length capb] w0 (fun v w' => ∃ I' a c, v = .tuple #[.slice a (runP lo l).1.length c, .int .i64 (runP lo l).2] ∧ Ext w0 I0 w' I' ∧ RBytes I' (.slice a (runP lo l).1.length c) (runP lo l).1) := by
 have hll := RSl.le hb
 have hlla := RSl.le ha
 simp only [maxLen] at hll hlla
 refine fn (n := 51) func69 rfl rfl rfl ?_
 have hS := St.start hI
 refine QwR (qq hS (qf _) (qq hS (Qai rfl) (QoR ?_)))
 refine qe (qI hS underlying25 sizeOf5) ?_
 clear hS
 rintro _ w_1 ⟨hS, b9_, rfl⟩
 refine qq hS (qf _) (QoN (wpIn_seq (QwR (qq hS (Qai rfl) (QoN ?_)))))
 refine wpIn_block ?_
 refine loop (fun (x : Nat × Option Addr × Nat) σ w => okS σ [(0, .slice ad lo.length cap), (1, .slice bd l.length capb), (6, .slice x.2.1 x.1 x.2.2), (7, .int .i64 x.1)] ∧ St [] w0 I0 I0 w [.row (.slice x.2.1 x.1 x.2.2) 5 1 x.1 (flat byteC ((l.take x.1).map (runB lo)))] ∧ x.1 ≤ l.length ∧ ∀ s ∈ l.take x.1, badT lo.length s = false) (fun x => l.length - x.1) ((0, some ⟨b9_, 0, none⟩, 0)) ?_ ?_
 ·
  exact ⟨⟨rfl, rfl, rfl, rfl, trivial⟩, hS.sel [true], by simp, by simp⟩
 ·
  rintro ⟨k, a, c⟩ σ w_l ⟨hs, hS, hk0, hbad⟩
  dsimp only at hs hS hk0 hbad ⊢
  rw [← qj hs]; clear hs
  refine wpIn_seq (QwR (qq hS (Qmi rfl) (qq hS (qb _) ?_)))
  refine qq hS (qo rfl underlying74 hb rfl) ?_
  refine qq hS (g_lss rfl rfl) ?_
  refine QoN ?_
  refine qh rfl ?_ ?_
  ·
   intro hc13
   try simp only [zA, zO, zN, zI, zF, zM, zT, zU] at hc13
   obtain ⟨s, hsi⟩ : ∃ s, l[k]? = some s := ⟨_, List.getElem?_eq_getElem (by omega)⟩
   have hsA := hb.at hsi
   have hsm := List.mem_of_getElem? hsi
   obtain ⟨sw1, sw2, sw3, sw4⟩ := hwb s hsm
   refine wpIn_skip (thenN (wpIn_seq (wpIn_block (QwR (qq hS (qb _) ?_)))))
   refine qq hS (Qmi rfl) ?_
   refine qq hS (g_ixI underlying74 sizeOf80 hb rfl rfl (by omega) (by omega)) ?_
   refine qq hS (qG (c' := 2) underlying80 rfl sizeOf5 rfl rfl rfl) ?_
   refine qq hS (qr isAgg5 hsA rfl rfl) ?_
   refine qq hS (jk (v := .int .u8 _) rfl) ?_
   refine QoN ?_
   refine meet (fun σ w => okS σ [(0, .slice ad lo.length cap), (1, .slice bd l.length capb), (6, .slice a k c), (7, .int .i64 k), (8, .int .u8 (runB lo s))] ∧ St [] w0 I0 I0 w [.row (.slice a k c) 5 1 k (flat byteC ((l.take k).map (runB lo)))] ∧ badT lo.length s = false) ?_ ?_
   ·
    refine QwR (qq hS (qb _) (qq hS (Qmi rfl) ?_))
    refine qq hS (g_ixI underlying74 sizeOf80 hb rfl rfl (by omega) (by omega)) ?_
    refine qq hS (qG (c' := 0) underlying80 rfl sizeOf4 rfl rfl rfl) ?_
    refine qq hS (qr isAgg4 hsA rfl rfl) ?_
    refine QoN ?_
    refine qh rfl ?_ ?_
    ·
     intro hc25
     try simp only [zA, zO, zN, zI, zF, zM, zT, zU] at hc25
     have hso : s.old = true := hc25
     refine wpIn_seq (QwR (qq hS (qb _) (qq hS (Qmi rfl) ?_)))
     refine qq hS (g_ixI underlying74 sizeOf80 hb rfl rfl (by omega) (by omega)) ?_
     refine qq hS (qG (c' := 1) underlying80 rfl sizeOf3 rfl rfl rfl) ?_
     refine qq hS (qr isAgg3 hsA rfl rfl) ?_
     refine qq hS (qb _) ?_
     refine qq hS (qo rfl underlying25 ha rfl) ?_
     refine qq hS (g_sub rfl rfl (by omega) (by omega)) ?_
     refine qe (qi call75 rfl (in_c _ _ _ _ I0 hS.imm)) ?_
     rintro _ w_2 ⟨rfl, hE⟩
     replace hS := hS.callE hE
     refine qq hS (g_not rfl) ?_
     refine QoN ?_
     refine qh rfl ?_ ?_
     ·
      intro hc35
      have hbd : badT lo.length s = true := by
       unfold badT; rw [hso, Bool.true_and]
       unfold inS at hc35
       simp at hc35 ⊢; omega
      have e := runP_bad hsm hbd
      refine QwR (qq hS (qf _) (qq hS (Qai rfl) (QoN (wpIn_ret ?_))))
      refine thenR (thenR (blkR (thenR (thenR (blkR (thenR ?_))))))
      refine ret2 results69 (qd rfl) (qd (v := .int .i64 _) rfl) ?_
      rw [e]; exact ⟨_, none, 0, rfl, hS.nil, RFl.nil⟩
     ·
      intro hc35
      have hbd : badT lo.length s = false := by
       unfold badT; rw [hso, Bool.true_and]
       unfold inS at hc35
       simp at hc35 ⊢; omega
      have hin : 0 ≤ s.at_ ∧ s.at_ < lo.length := by
       unfold badT at hbd; rw [hso, Bool.true_and] at hbd
       simp at hbd; omega
      obtain ⟨x, hxi⟩ : ∃ x, lo[s.at_.toNat]? = some x := ⟨_, List.getElem?_eq_getElem (by omega)⟩
      have hxA := ha.at hxi
      have ht := runB_old hso hxi
      refine wpIn_skip (thenN (reg ?_))
      refine qq hS (qO (v := .int .u8 _) rfl) ?_
      refine qq hS (qb _) (qq hS (qb _) (qq hS (Qmi rfl) ?_))
      refine qq hS (g_ixI underlying74 sizeOf80 hb rfl rfl (by omega) (by omega)) ?_
      refine qq hS (qG (c' := 1) underlying80 rfl sizeOf3 rfl rfl rfl) ?_
      refine qq hS (qr isAgg3 hsA rfl rfl) ?_
      refine qq hS (g_ixI underlying25 sizeOf5 ha rfl rfl (by omega) (by omega)) ?_
      refine qq hS (qr isAgg5 hxA rfl rfl) ?_
      refine qq hS (g_addw rfl rfl) ?_
      refine qq hS (jk (v := .int .u8 _) rfl) ?_
      refine QoN ?_
      exact ⟨_, rfl, ⟨rfl, rfl, rfl, rfl, by rw [ht]; rfl, trivial⟩, hS.sel [true], hbd⟩
    ·
     intro hc25
     try simp only [zA, zO, zN, zI, zF, zM, zT, zU] at hc25
     have hso : s.old = false := hc25
     have hbd : badT lo.length s = false := by unfold badT; rw [hso]; rfl
     have ht := runB_lit (a := lo) hso
     refine wpIn_skip (thenN ?_)
     exact ⟨_, rfl, ⟨rfl, rfl, rfl, rfl, by rw [ht]; rfl, trivial⟩, hS.sel [true], hbd⟩
   ·
    rintro σ w ⟨hs, hS, hbd⟩
    rw [← qj hs]
    refine reg (qq hS (qb _) ?_)
    refine qq hS (qO (v := .int .u8 _) rfl) ?_
    refine qe (d_lit (vs := [.int .u8 _]) (cs := [.int .u8 _]) hS underlying25 sizeOf5 zeroValue5 rfl rfl rfl rfl (fun v hv => by simp only [List.mem_cons, List.not_mem_nil, or_false] at hv; subst hv; rfl) rfl) ?_
    clear hS
    rintro _ w_3 ⟨b_3, rfl, hS⟩
    refine qe (qt 1 0 hS rfl underlying25 info5 rfl rfl rfl rfl rfl rfl rfl rfl (by omega) (by omega)) ?_
    clear hS
    rintro _ w_4 ⟨a49, p49, rfl, hS⟩
    refine qq hS (qf _) ?_
    refine qx (blkN (thenN ?_))
    refine reg (qq hS (Qmi rfl) ?_)
    refine qq hS (g_add rfl rfl (by omega) (by omega)) ?_
    refine qq hS (Qai rfl) ?_
    refine ⟨(k + 1, a49, p49), _, rfl, ⟨⟨rfl, rfl, rfl, rfl, trivial⟩, ?_, by dsimp only; omega, yy hsi hbad hbd⟩, by dsimp only; omega⟩
    dsimp only
    rw [qL hsi, List.map_append, qp, List.map_cons, List.map_nil, qA]
    exact hS.sel [false, true]
  ·
   intro hc13
   try simp only [zA, zO, zN, zI, zF, zM, zT, zU] at hc13
   have hk : k = l.length := by omega
   subst hk
   rw [List.take_length] at hS hbad
   have e := runP_good hbad
   refine wpIn_exit ?_
   refine thenE (thenE (blkE ?_))
   refine thenN (QwR (qq hS (qb _) (qq hS (qf _) (qq hS (Qai rfl) (QoN ?_)))))
   refine wpIn_ret ?_
   refine ret2 results69 (qd rfl) (qd (v := .int .i64 _) rfl) ?_
   obtain ⟨I1, hE1, hI1, hd1⟩ := qE qW (xs := l.map (runB lo)) (hS.sel [true]) (by simp)
   have hlm : (l.map (runB lo)).length = l.length := List.length_map _
   have hl1 : (runP lo l).1.length = l.length := by rw [e]; exact hlm
   rw [hl1]
   exact ⟨I1, a, c, by rw [e]; rfl, hE1, by rw [e]; exact hd1⟩
theorem refRun_L (ad bd : Option Addr) (m n cap capb : Nat) (lo : List Int) (l : List Sym) (R : List Int) (e : Int) (w0 : World) (I0 : Imm) (hI : Sat I0 w0) (ha : RBytes I0 (.slice ad m cap) lo) (hm : m = lo.length) (hb : RSyms I0 (.slice bd n capb) l) (hnl : n = l.length) (hwb : ∀ s ∈ l, s.wf) (hn : l.length ≤ 65536) (he : runP lo l = (R, e)) :
 Ctr prog 69 [.slice ad m cap, .slice bd n capb] w0 (fun v w' => ∃ I' a c, v = .tuple #[.slice a R.length c, .int .i64 e] ∧ Ext w0 I0 w' I' ∧ RBytes I' (.slice a R.length c) R) := by
 subst hm; subst hnl
 have h := refRun_c ad bd cap capb lo l w0 I0 hI ha hb hwb hn
 rw [he] at h
 exact h
set_option maxHeartbeats 1000000 in
theorem refApply_L (p : PatL) (ad bd : Option Addr) (m cap n capb : Nat) (old R : List Int) (e : Int) (w0 : World) (I0 : Imm) (hI : Sat I0 w0) (hops : ROps I0 (.slice ad m cap) p.ops) (hp : p.wf) (hl : p.lifted = false) (hk : (checkP p).2 = 0) (ho : RBytes I0 (.slice bd n capb) old) (hn : n = old.length) (hR : applyP old p = (R, e)) :
 Ctr prog 31 [.slice bd n capb, .agg #[.bool p.lifted, .int .i64 p.in_, .int .i64 p.out, .slice ad m cap]] w0 (fun v w' => ∃ I' a c, v = .tuple #[.slice a R.length c, .int .i64 e] ∧ Ext w0 I0 w' I' ∧ RBytes I' (.slice a R.length c) R) := by
 subst hn
 have hA := jD hk
 have hwA := jO hp
 rw [hA] at hwA
 dsimp only at hwA
 obtain ⟨k1, k2, k3, k4, k5, k6, k7⟩ := qV hk
 have hlo := RSl.le ho
 simp only [maxLen] at hlo
 refine fn (n := 61) func31 rfl rfl rfl ?_
 have hS := St.start hI
 refine QwR ?_
 refine qe (d_box (cs := [.bool _, .int .i64 _, .int .i64 _, .slice _ _ _]) hS rfl) ?_
 clear hS
 rintro _ w_1 ⟨b3, rfl, hS⟩
 refine qq hS (qf _) (qq hS (Qai rfl) (QoR ?_))
 refine qq hS (g_ldO 0 (vs := [.bool _, .int .i64 _, .int .i64 _, .slice _ _ _]) sizeOf31 isAgg31 rfl rfl rfl rfl) ?_
 refine qe (qi call30 rfl (symbolsR_e p ad m cap (symsOf p.ops, 0) _ _ hS.imm hops hp hA)) ?_
 rintro _ w_2 ⟨I_f, a17, c17, rfl, hE, h17⟩
 replace hS := hS.callE hE
 replace hops := hops.mono hE.ext
 replace ho := ho.mono hE.ext
 refine qq hS (qb _) ?_
 refine qq hS (ql rfl rfl) ?_
 refine qq hS (Qxi rfl rfl) ?_
 refine qq hS (qf _) (qq hS (Qai rfl) (QoN (wpIn_seq (QwR (qq hS (Qmi rfl) ?_)))))
 refine qq hS (g_neq rfl rfl) ?_
 refine QoN ?_
 refine jb (rfl) ?_
 refine wpIn_skip (thenN (QwR (qq hS (qb _) (qq hS (qf _) (QoN ?_)))))
 refine wpIn_seq (QwR ?_)
 refine qq hS (qa (o' := 0) underlying31 rfl sizeOf4 rfl rfl rfl) ?_
 refine qq hS (qc 0 isAgg4 rfl rfl rfl) ?_
 refine QoN ?_
 refine jb (congrArg Value.bool hl) ?_
 refine wpIn_skip (thenN (wpIn_seq (QwR (qq hS (qb _) ?_))))
 refine qq hS (qo rfl underlying25 ho rfl) ?_
 refine qq hS (qa (o' := 1) underlying31 rfl sizeOf3 rfl rfl rfl) ?_
 refine qq hS (qc 0 isAgg3 rfl rfl rfl) ?_
 refine qq hS (g_neq rfl rfl) ?_
 refine QoN ?_
 refine qh rfl ?_ ?_
 ·
  intro hc39
  try simp only [zA, zO, zN, zI, zF, zM, zT, zU] at hc39
  have hx : applyP old p = ([], 61) := by unfold applyP; rw [hA, if_pos rfl, if_neg (by omega)]
  rw [hR] at hx
  obtain ⟨hx1, hx2⟩ := Prod.mk.inj hx
  subst hx1
  subst hx2
  refine QwR (qq hS (qf _) (qq hS (Qai rfl) (QoN (wpIn_ret ?_))))
  refine thenR ?_
  refine ret2 results31 (qd rfl) (qd (v := .int .i64 _) rfl) ?_
  exact ⟨_, none, 0, rfl, hS.nil, RFl.nil⟩
 ·
  intro hc39
  try simp only [zA, zO, zN, zI, zF, zM, zT, zU] at hc39
  have hrr := zV (lo := old) hk (by omega)
  have hx := applyP_right (lo := old) hk (by omega)
  rw [hR] at hx
  obtain ⟨hx1, hx2⟩ := Prod.mk.inj hx
  rw [← hx1] at hrr
  subst hx2
  refine wpIn_skip (thenN (QwR (qq hS (qb _) (qq hS (qb _) ?_))))
  refine qe (qi call69 rfl (refRun_L _ _ _ _ _ _ old (symsOf p.ops) R 0 _ _ hS.imm ho rfl h17 rfl hwA (by omega) hrr)) ?_
  rintro _ w_3 ⟨I_f, a43, c43, rfl, hE, h43⟩
  replace hS := hS.callE hE
  replace hops := hops.mono hE.ext
  replace ho := ho.mono hE.ext
  replace h17 := h17.mono hE.ext
  refine qq hS (qb _) ?_
  refine qq hS (ql rfl rfl) ?_
  refine qq hS (Qxi rfl rfl) ?_
  refine qq hS (qf _) (qq hS (Qai rfl) (QoN (wpIn_seq (QwR ?_))))
  refine qq hS (qa (o' := 0) underlying31 rfl sizeOf4 rfl rfl rfl) ?_
  refine qq hS (qc 0 isAgg4 rfl rfl rfl) ?_
  refine qq hS (g_not rfl) ?_
  refine QoN ?_
  refine jc (congrArg Value.bool (by simp [hl])) ?_
  refine QwR (qq hS (qb _) (qq hS (qf _) (qq hS (Qai rfl) (QoN (wpIn_ret ?_)))))
  refine thenR ?_
  refine ret2 results31 (qd rfl) (qd (v := .int .i64 _) rfl) ?_
  exact ⟨_, a43, c43, rfl, hS.nil, h43⟩
end Go.Proofs.YtaklmbhfmpdinaaGreat
