/- inst.Words and inst.Bytes: what they compute. Conditions: bytes are bytes, words are words. -/
import Derived.Test.YtaklmbhfmpdinaaGreatKInst
import Derived.Test.YtaklmbhfmpdinaaGreatKLaw
set_option linter.unusedSimpArgs false
set_option linter.unusedVariables false
namespace Go.Proofs.YtaklmbhfmpdinaaGreat
open Tryz
open Go Go.RowKit Go.Inl
theorem g_toV {P : Program} {ρ : Operand → Value} {S : World → Prop} {op : Op} {ty : TypeId} {v v' : Value} (h : Gives P ρ S op ty v) (e : v = v') : Gives P ρ S op ty v' := by subst e; exact h
theorem yT {b : List Int} {n i : Nat} (h : n + i < b.length) : (b.drop n)[i]? = some (b.getD (n + i) 0) := by
 rw [List.getElem?_drop, List.getD_eq_getElem?_getD, List.getElem?_eq_getElem h]; rfl
structure WdW where
 k : Nat
 ar : Option Addr
 cr : Nat
 a : Option Addr
 c : Nat
theorem zm {P : Program} {n : Nat} {σ : Nat → Value} {S : World → Prop} {t t' ty : TypeId} {x y : Operand} {k : IntKind} {a b : Int} (hx : ev n σ x = .int k a) (hy : ev n σ y = .int k b) (h : a ≠ b) : Gives P (ev n σ) S (.binOp .neq t x y t') ty (.bool true) := g_toV (g_neq hx hy) (by rw [decide_eq_false h]; rfl)
theorem g_neqF {P : Program} {n : Nat} {σ : Nat → Value} {S : World → Prop} {t t' ty : TypeId} {x y : Operand} {k : IntKind} {a b : Int} (hx : ev n σ x = .int k a) (hy : ev n σ y = .int k b) (h : a = b) : Gives P (ev n σ) S (.binOp .neq t x y t') ty (.bool false) := g_toV (g_neq hx hy) (by rw [decide_eq_true h]; rfl)
def oct4 (w : Int) (j : Nat) : List Int := (List.range j).map (octP w)
theorem oct4_succ (w : Int) (j : Nat) : oct4 w (j + 1) = oct4 w j ++ [octP w j] := by unfold oct4; rw [List.range_succ, List.map_append]; rfl
theorem oct4_four (w : Int) : oct4 w 4 = bytes4 w := rfl
structure BtW where
 k : Nat
 a : Option Addr
 c : Nat
set_option maxHeartbeats 1000000 in
theorem vt (ad : Option Addr) (cap n : Nat) (b : List Int) (w0 : World) (I0 : Imm) (hI : Sat I0 w0) (hl : RBytes I0 (.slice ad b.length cap) b) (hb : Byts b) (hn : b.length = 4 * n) (hn1 : n ≤ 1073741824) :
 Ctr prog 54 [.slice ad b.length cap] w0 (fun v w' => ∃ I' a c, v = .tuple #[.slice a n c, .int .i64 0] ∧ Ext w0 I0 w' I' ∧ RFl I' 1 u32C (.slice a n c) (wordsN b n)) := by
 refine fn (n := 40) func54 rfl rfl rfl ?_
 have hS := St.start hI
 refine QwR (qq hS (qf _) (qq hS (Qai rfl) (QoN (wpIn_seq (QwR ?_)))))
 refine qq hS (qb _) ?_
 refine qq hS (qo rfl underlying25 hl rfl) ?_
 refine qq hS (g_rem rfl rfl (by omega) (by omega)) ?_
 refine qq hS (g_neqF rfl rfl (by omega)) ?_
 refine QoN ?_
 refine jb (rfl) ?_
 refine wpIn_skip (thenN (QwR (qq hS (qf _) (QoN (wpIn_seq ?_)))))
 refine wpIn_block ?_
 refine loop (fun (x : WdW) σ w => okS σ [(0, .slice x.ar (b.drop (4 * x.k)).length x.cr), (4, .slice x.a x.k x.c)] ∧ St [] w0 I0 I0 w [.row (.slice x.a x.k x.c) 58 1 x.k (flat u32C (wordsN b x.k))] ∧ x.k ≤ n ∧ RBytes I0 (.slice x.ar (b.drop (4 * x.k)).length x.cr) (b.drop (4 * x.k))) (fun x => n - x.k) (⟨0, ad, cap, none, 0⟩) ?_ ?_
 ·
  exact ⟨⟨rfl, rfl, trivial⟩, (hS.sel []).nilRow _ _, by dsimp only; omega, hl⟩
 ·
  rintro ⟨k, ar, cr, a, c⟩ σ w_l ⟨hs, hS, hk, hr⟩
  dsimp only at hs hS hk hr ⊢
  rw [← qj hs]; clear hs
  have hdl : (b.drop (4 * k)).length = b.length - 4 * k := List.length_drop
  refine wpIn_seq (QwR (qq hS (qb _) ?_))
  refine qq hS (qo rfl underlying25 hr rfl) ?_
  refine qq hS (g_gtr rfl rfl) ?_
  refine QoN ?_
  refine qh rfl ?_ ?_
  ·
   intro hc11
   try simp only [zA, zO, zN, zI, zF, zM, zT, zU] at hc11
   have hA0 := hr.at (yT (i := 0) (show 4 * k + 0 < b.length by omega))
   have hy0 := qF hb (4 * k + 0)
   have hA1 := hr.at (yT (i := 1) (show 4 * k + 1 < b.length by omega))
   have hy1 := qF hb (4 * k + 1)
   have hA2 := hr.at (yT (i := 2) (show 4 * k + 2 < b.length by omega))
   have hy2 := qF hb (4 * k + 2)
   have hA3 := hr.at (yT (i := 3) (show 4 * k + 3 < b.length by omega))
   have hy3 := qF hb (4 * k + 3)
   have hw4 : word4 b k = b.getD (4 * k + 0) 0 * 16777216 + b.getD (4 * k + 1) 0 * 65536 + b.getD (4 * k + 2) 0 * 256 + b.getD (4 * k + 3) 0 := rfl
   have hwb := vu hb k
   refine wpIn_skip (thenN (wpIn_seq (wpIn_block ?_)))
   refine draw (.cons 0 .pure (.cons 1 .pure (.cons 2 .pure (.cons 3 .held (.cons 4 .pure (.cons 5 .pure (.cons 6 .pure (.cons 7 .pure (.cons 8 .held (.cons 9 .pure (.cons 10 .pure (.cons 11 .pure (.cons 12 .pure (.cons 13 .pure (.cons 14 .held (.cons 15 .pure (.cons 16 .pure (.cons 17 .pure (.cons 18 .pure (.cons 19 .pure (.cons 20 .held (.cons 21 .pure (.cons 22 .pure (.cons 23 .eff (.cons 24 .bar (.cons 25 .pure .nil)))))))))))))))))))))))))) mixed (by kernel_rfl) hS ?_
   intro w_1 hS
   refine sp rfl (qb _) ?_
   refine sp rfl (qb _) ?_
   refine sp rfl (g_ixI underlying25 sizeOf5 hr rfl rfl (by omega) (by omega)) ?_
   refine sh rfl (qr isAgg5 hA0 rfl rfl) ?_
   refine sp rfl (qz (c := b.getD (4 * k + 0) 0) underlying5 underlying58 rfl (by rw [IntKind.wrap_u32]; omega)) ?_
   refine sp rfl (qH (s := 24) (c := b.getD (4 * k + 0) 0 * 16777216) rfl rfl rfl rfl (by rw [IntKind.wrap_u32]; omega)) ?_
   refine sp rfl (qb _) ?_
   refine sp rfl (g_ixI underlying25 sizeOf5 hr rfl rfl (by omega) (by omega)) ?_
   refine sh rfl (qr isAgg5 hA1 rfl rfl) ?_
   refine sp rfl (qz (c := b.getD (4 * k + 1) 0) underlying5 underlying58 rfl (by rw [IntKind.wrap_u32]; omega)) ?_
   refine sp rfl (qH (s := 16) (c := b.getD (4 * k + 1) 0 * 65536) rfl rfl rfl rfl (by rw [IntKind.wrap_u32]; omega)) ?_
   refine sp rfl (g_orD (m := 24) (c := b.getD (4 * k + 0) 0 * 16777216 + b.getD (4 * k + 1) 0 * 65536) rfl rfl (by omega) (Int.lt_of_lt_of_le (show b.getD (4 * k + 0) 0 * 16777216 < 4294967296 by omega) (Int.le_refl _)) (by omega) (by omega) (by omega) (Int.lt_of_lt_of_le (show b.getD (4 * k + 1) 0 * 65536 < 4294967296 by omega) (Int.le_refl _)) (by rw [IntKind.wrap_u32]; omega)) ?_
   refine sp rfl (qb _) ?_
   refine sp rfl (g_ixI underlying25 sizeOf5 hr rfl rfl (by omega) (by omega)) ?_
   refine sh rfl (qr isAgg5 hA2 rfl rfl) ?_
   refine sp rfl (qz (c := b.getD (4 * k + 2) 0) underlying5 underlying58 rfl (by rw [IntKind.wrap_u32]; omega)) ?_
   refine sp rfl (qH (s := 8) (c := b.getD (4 * k + 2) 0 * 256) rfl rfl rfl rfl (by rw [IntKind.wrap_u32]; omega)) ?_
   refine sp rfl (g_orD (m := 16) (c := b.getD (4 * k + 0) 0 * 16777216 + b.getD (4 * k + 1) 0 * 65536 + b.getD (4 * k + 2) 0 * 256) rfl rfl (by omega) (Int.lt_of_lt_of_le (show b.getD (4 * k + 0) 0 * 16777216 + b.getD (4 * k + 1) 0 * 65536 < 4294967296 by omega) (Int.le_refl _)) (by omega) (by omega) (by omega) (Int.lt_of_lt_of_le (show b.getD (4 * k + 2) 0 * 256 < 4294967296 by omega) (Int.le_refl _)) (by rw [IntKind.wrap_u32]; omega)) ?_
   refine sp rfl (qb _) ?_
   refine sp rfl (g_ixI underlying25 sizeOf5 hr rfl rfl (by omega) (by omega)) ?_
   refine sh rfl (qr isAgg5 hA3 rfl rfl) ?_
   refine sp rfl (qz (c := b.getD (4 * k + 3) 0) underlying5 underlying58 rfl (by rw [IntKind.wrap_u32]; omega)) ?_
   refine sp rfl (g_orD (m := 8) (c := b.getD (4 * k + 0) 0 * 16777216 + b.getD (4 * k + 1) 0 * 65536 + b.getD (4 * k + 2) 0 * 256 + b.getD (4 * k + 3) 0) rfl rfl (by omega) (Int.lt_of_lt_of_le (show b.getD (4 * k + 0) 0 * 16777216 + b.getD (4 * k + 1) 0 * 65536 + b.getD (4 * k + 2) 0 * 256 < 4294967296 by omega) (Int.le_refl _)) (by omega) (by omega) (by omega) (Int.lt_of_lt_of_le (show b.getD (4 * k + 3) 0 < 4294967296 by omega) (Int.le_refl _)) (by rw [IntKind.wrap_u32]; omega)) ?_
   have hS0 := hS
   refine se rfl (d_lit (vs := [.int .u32 _]) (cs := [.int .u32 _]) hS underlying57 sizeOf58 zeroValue58 rfl rfl rfl rfl (fun v hv => by simp only [List.mem_cons, List.not_mem_nil, or_false] at hv; subst hv; rfl) rfl) ?_
   rintro _ w_2 ⟨b37, rfl, hS⟩
   refine ⟨_, _, hS0.le (Sub.refl _) (List.sublist_cons_self _ _), hS, ?_⟩
   refine sb rfl (qt 1 0 hS rfl underlying57 info58 rfl rfl rfl rfl rfl rfl rfl rfl (by omega) (by omega)) ?_
   rintro _ w_3 ⟨a38, p38, rfl, hS⟩
   refine ⟨_, _, hS, ?_⟩
   refine sp rfl (qf _) ?_
   refine sn (blkN (thenN ?_))
   refine reg (qq hS (qb _) ?_)
   have hs13 := RSl.slL hr 4 (by rw [List.length_drop]; omega)
   obtain ⟨a13, c13, hv13, _⟩ := hs13.len
   rw [hv13, List.drop_drop, show 4 * k + 4 = 4 * (k + 1) by omega] at hs13
   rw [List.drop_drop, show 4 * k + 4 = 4 * (k + 1) by omega] at hv13
   refine qq hS (g_toV (jF (l0 := 4) underlying25 sizeOf5 rfl rfl (by decide) (by omega) rfl) hv13) ?_
   refine qq hS (qf _) ?_
   refine ⟨⟨k + 1, a13, c13, a38, p38⟩, _, rfl, ⟨⟨rfl, rfl, trivial⟩, ?_, by dsimp only; omega, hs13⟩, by dsimp only; omega⟩
   dsimp only
   rw [wordsN_succ, qp, qA, hw4]
   exact hS.sel [false, true]
  ·
   intro hc11
   try simp only [zA, zO, zN, zI, zF, zM, zT, zU] at hc11
   have hkn : k = n := by omega
   subst hkn
   refine wpIn_exit ?_
   refine thenE (thenE (blkE ?_))
   refine thenN (QwR (qq hS (qb _) (qq hS (qf _) (qq hS (Qai rfl) (QoN ?_)))))
   refine wpIn_ret ?_
   refine ret2 results54 (qd rfl) (qd (v := .int .i64 _) rfl) ?_
   obtain ⟨I1, hE1, hI1, hd1⟩ := qE qN (xs := wordsN b k) (hS.sel [true]) (qX b k).symm
   exact ⟨I1, a, c, rfl, hE1, hd1⟩
theorem words_bad (ad : Option Addr) (cap : Nat) (b : List Int) (w0 : World) (I0 : Imm) (hI : Sat I0 w0) (hl : RBytes I0 (.slice ad b.length cap) b) (hn : b.length % 4 ≠ 0) :
 Ctr prog 54 [.slice ad b.length cap] w0 (fun v w' => v = .tuple #[.slice none 0 0, .int .i64 61] ∧ Ext w0 I0 w' I0) := by
 refine fn (n := 40) func54 rfl rfl rfl ?_
 have hS := St.start hI
 refine QwR (qq hS (qf _) (qq hS (Qai rfl) (QoN (wpIn_seq (QwR ?_)))))
 refine qq hS (qb _) ?_
 refine qq hS (qo rfl underlying25 hl rfl) ?_
 refine qq hS (g_rem rfl rfl (by omega) (by omega)) ?_
 refine qq hS (zm rfl rfl (by omega)) ?_
 refine QoN ?_
 refine jc (rfl) ?_
 refine QwR (qq hS (qf _) (qq hS (Qai rfl) (QoN (wpIn_ret ?_))))
 refine thenR ?_
 refine ret2 results54 (qd rfl) (qd (v := .int .i64 _) rfl) ?_
 exact ⟨rfl, hS.nil⟩
set_option maxHeartbeats 1000000 in
theorem bytes_o (ad : Option Addr) (cap : Nat) (l : List Int) (w0 : World) (I0 : Imm) (hI : Sat I0 w0) (hl : RFl I0 1 u32C (.slice ad l.length cap) l) (hw : Wrds l) (hn : l.length ≤ 1073741824) :
 Ctr prog 63 [.slice ad l.length cap] w0 (fun v w' => ∃ a c, v = .slice a (4 * l.length) c ∧ St [] w0 I0 I0 w' [.row (.slice a (4 * l.length) c) 5 1 (4 * l.length) (flat byteC (bytesP l))]) := by
 refine fn (n := 26) func63 rfl rfl rfl ?_
 have hS := St.start hI
 refine QwR (qq hS (qf _) (QoR (qq hS (qf _) (QoN (wpIn_seq ?_)))))
 refine QwR (qq hS (qb _) ?_)
 refine qq hS (qo rfl underlying57 hl rfl) ?_
 refine qq hS (Qmi rfl) (QoN (wpIn_block ?_))
 refine loop (fun (x : BtW) σ w => okS σ [(3, .slice x.a (4 * x.k) x.c), (7, .slice ad l.length cap), (8, .int .i64 l.length), (9, .int .i64 x.k)] ∧ St [] w0 I0 I0 w [.row (.slice x.a (4 * x.k) x.c) 5 1 (4 * x.k) (flat byteC (bytesP (l.take x.k)))] ∧ x.k ≤ l.length) (fun x => l.length - x.k) (⟨0, none, 0⟩) ?_ ?_
 ·
  exact ⟨⟨rfl, rfl, rfl, rfl, trivial⟩, (hS.sel []).nilRow _ _, by dsimp only; omega⟩
 ·
  rintro ⟨k, a, c⟩ σ w_l ⟨hs, hS, hk⟩
  dsimp only at hs hS hk ⊢
  rw [← qj hs]; clear hs
  refine QwR ?_
  refine qq hS (g_lss rfl rfl) ?_
  refine QoN (wpIn_seq ?_)
  refine qh rfl ?_ ?_
  ·
   intro hc10
   try simp only [zA, zO, zN, zI, zF, zM, zT, zU] at hc10
   obtain ⟨y, hyi⟩ : ∃ y, l[k]? = some y := ⟨_, List.getElem?_eq_getElem (by omega)⟩
   have hsA := hl.at hyi
   have hyb := hw y (List.mem_of_getElem? hyi)
   refine wpIn_skip (thenN (wpIn_seq (wpIn_block (QwR ?_))))
   refine qq hS (g_ixI underlying57 sizeOf58 hl rfl rfl (by omega) (by omega)) ?_
   refine qq hS (qr isAgg58 hsA rfl rfl) ?_
   refine qq hS (Qaw rfl) (QoR (qq hS (Qmi rfl) (QoN (wpIn_block ?_))))
   refine loop (fun (z : BtW) σ w => okS σ [(3, .slice z.a (4 * k + z.k) z.c), (5, .int .u32 y), (7, .slice ad l.length cap), (8, .int .i64 l.length), (9, .int .i64 k), (13, .int .i64 z.k)] ∧ St [] w0 I0 I0 w [.row (.slice z.a (4 * k + z.k) z.c) 5 1 (4 * k + z.k) (flat byteC (bytesP (l.take k)) ++ flat byteC (oct4 y z.k))] ∧ z.k ≤ 4) (fun z => 4 - z.k) (⟨0, a, c⟩) ?_ ?_
   ·
    refine ⟨⟨rfl, rfl, rfl, rfl, rfl, rfl, trivial⟩, ?_, by dsimp only; omega⟩
    dsimp only
    rw [show oct4 y 0 = [] from rfl, show flat byteC [] = [] from rfl, List.append_nil]
    exact hS.sel [true]
   ·
    rintro ⟨j, a2, c2⟩ σ w_l ⟨hs, hS, hj⟩
    dsimp only at hs hS hj ⊢
    rw [← qj hs]; clear hs
    refine QwR ?_
    refine qq hS (g_lss rfl rfl) ?_
    refine QoN (wpIn_seq ?_)
    refine qh rfl ?_ ?_
    ·
     intro hc14
     try simp only [zA, zO, zN, zI, zF, zM, zT, zU] at hc14
     refine wpIn_skip (thenN (wpIn_seq (wpIn_block (QwR (qq hS (Qmi rfl) ?_)))))
     refine qq hS (Qai rfl) (QoN (reg (qq hS (qb _) (qq hS (Qmw rfl) (qq hS (Qmi rfl) ?_)))))
     refine qe (qi call93 rfl (yp y j _ I0 hS.imm hyb.1 hyb.2 (by omega))) ?_
     rintro _ w_1 ⟨rfl, hE⟩
     replace hS := hS.callE hE
     refine qq hS (qz (c := octP y j) underlying3 underlying5 rfl (by have := oct_b y j; rw [IntKind.wrap_u8]; omega)) ?_
     refine qe (d_lit (vs := [.int .u8 _]) (cs := [.int .u8 _]) hS underlying25 sizeOf5 zeroValue5 rfl rfl rfl rfl (fun v hv => by simp only [List.mem_cons, List.not_mem_nil, or_false] at hv; subst hv; rfl) rfl) ?_
     clear hS
     rintro _ w_2 ⟨b21, rfl, hS⟩
     refine qe (qt 1 0 hS rfl underlying25 info5 rfl rfl rfl rfl rfl rfl rfl rfl (by omega) (by omega)) ?_
     clear hS
     rintro _ w_3 ⟨a22, p22, rfl, hS⟩
     refine qq hS (qf _) ?_
     refine qx (blkN (thenN ?_))
     refine reg ?_
     refine qq hS (g_add rfl rfl (by omega) (by omega)) ?_
     refine qq hS (Qmi rfl) ?_
     refine ⟨⟨j + 1, a22, p22⟩, _, rfl, ⟨⟨rfl, rfl, rfl, rfl, rfl, rfl, trivial⟩, ?_, by dsimp only; omega⟩, by dsimp only; omega⟩
     dsimp only
     rw [oct4_succ, qp, qA, ← List.append_assoc]
     exact hS.sel [false, true]
    ·
     intro hc14
     try simp only [zA, zO, zN, zI, zF, zM, zT, zU] at hc14
     have hj : j = 4 := by omega
     subst hj
     refine wpIn_exit ?_
     refine thenE (thenE (blkE ?_))
     refine blkN (thenN (reg ?_))
     refine qq hS (g_add rfl rfl (by omega) (by omega)) ?_
     refine qq hS (Qmi rfl) ?_
     refine ⟨⟨k + 1, a2, c2⟩, _, rfl, ⟨⟨rfl, rfl, rfl, rfl, trivial⟩, ?_, by dsimp only; omega⟩, by dsimp only; omega⟩
     dsimp only
     rw [qL hyi, bytesP_snoc, ← oct4_four, qp]
     exact hS.sel [true]
  ·
   intro hc10
   try simp only [zA, zO, zN, zI, zF, zM, zT, zU] at hc10
   have hkn : k = l.length := by omega
   subst hkn
   refine wpIn_exit ?_
   refine thenE (thenE (blkE ?_))
   refine thenN (QwR (qq hS (qb _) (qq hS (qf _) (QoN (wpIn_ret ?_)))))
   refine ret1 results63 (qd rfl) ?_
   rw [List.take_length] at hS
   exact ⟨a, c, rfl, hS.sel [true]⟩
theorem bytes_c (ad : Option Addr) (cap : Nat) (l : List Int) (w0 : World) (I0 : Imm) (hI : Sat I0 w0) (hl : RFl I0 1 u32C (.slice ad l.length cap) l) (hw : Wrds l) (hn : l.length ≤ 1073741824) :
 Ctr prog 63 [.slice ad l.length cap] w0 (fun v w' => ∃ I' a c, v = .slice a (4 * l.length) c ∧ Ext w0 I0 w' I' ∧ RBytes I' (.slice a (4 * l.length) c) (bytesP l)) :=
 (bytes_o ad cap l w0 I0 hI hl hw hn).mono fun v w' ⟨a, c, hv, hS⟩ => by
   obtain ⟨I1, hE, _, hr⟩ := qE qW hS (qv l).symm
   exact ⟨I1, a, c, hv, hE, hr⟩
end Go.Proofs.YtaklmbhfmpdinaaGreat
