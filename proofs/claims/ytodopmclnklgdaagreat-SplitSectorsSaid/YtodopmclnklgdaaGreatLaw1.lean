/- The functions of package inlaylaw08 that look at fixed examples: what they compute. Conditions: numbers within bounds. -/
import Derived.Test.YtodopmclnklgdaaGreatKRef6
import Derived.Test.YtodopmclnklgdaaGreatKCore2
namespace Go.Proofs.YtodopmclnklgdaaGreat
open Go Go.RowKit Go.Inl
set_option linter.unusedSimpArgs false
set_option linter.unusedVariables false
theorem opS_wf {kind : Int} {l : List Sym} (hk : Mid kind) (hw : ∀ s ∈ l, s.wf) (hn : l.length ≤ 1000000) : (opS kind l).wf := by
  have hh : (l.headD ⟨false, 0, 0⟩).wf := by
    cases l with
    | nil => exact ⟨by decide, by decide, by decide, by decide⟩
    | cons s l => exact hw s (by simp)
  obtain ⟨h1, h2, h3, h4⟩ := hh
  refine ⟨hk, ?_, ?_, ?_, ?_⟩
  · show Mid (if kind = 1 ∨ kind = 2 then _ else _)
    unfold Mid
    split <;> omega
  · show Mid (l.length : Int)
    unfold Mid
    omega
  · show 0 ≤ (if kind = 3 then _ else _) ∧ (if kind = 3 then _ else _) ≤ 255
    split <;> omega
  · intro y hy
    have hy' : y ∈ if kind = 2 ∨ kind = 4 then l.map (·.b) else [] := hy
    split at hy'
    · obtain ⟨s, hs, rfl⟩ := List.mem_map.1 hy'
      exact ⟨(hw s hs).2.2.1, (hw s hs).2.2.2⟩
    · simp at hy'
theorem opsT_wf {l : List Sym} (hw : ∀ s ∈ l, s.wf) (hn : l.length ≤ 1000000) : ∀ (f i : Nat), ∀ x ∈ opsT (tab l) l f i, x.wf
  | 0, i, x, hx => by simp [opsT] at hx
  | f + 1, i, x, hx => by
    by_cases hi : i < l.length
    · have htl := tab_length l
      obtain ⟨p, hp⟩ : ∃ p, (tab l)[i]? = some p := ⟨_, List.getElem?_eq_getElem (by omega)⟩
      rw [opsT_step hi hp] at hx
      rcases List.mem_cons.1 hx with rfl | hx
      · refine opS_wf (tab_kind l i p hp) (fun s hs => hw s (List.mem_of_mem_take (List.mem_of_mem_drop hs))) ?_
        rw [List.length_drop, List.length_take]; omega
      · exact opsT_wf hw hn f _ x hx
    · rw [opsT_end hi] at hx; simp at hx
theorem opsT_len (t : List Pl) (l : List Sym) : ∀ (f i : Nat), (opsT t l f i).length ≤ f
  | 0, i => by simp [opsT]
  | f + 1, i => by
    by_cases hi : i < l.length
    · simp only [opsT, hi, if_true, List.length_cons]
      have := opsT_len t l f (i + (t.getD i Pl.zero).length.toNat)
      omega
    · rw [opsT_end hi]; simp
theorem zero_wf : PatL.zero.wf := ⟨⟨by decide, by decide⟩, ⟨by decide, by decide⟩, fun x hx => by simp [PatL.zero] at hx, by decide⟩
theorem cheapP_wf {l : List Sym} {n : Int} (hw : ∀ s ∈ l, s.wf) : (cheapP l n).1.wf := by
  unfold cheapP
  split
  · exact zero_wf
  · rename_i h
    simp only [Bool.or_eq_true, decide_eq_true_eq, not_or] at h
    split
    · exact zero_wf
    · refine ⟨⟨by dsimp only; omega, by dsimp only; omega⟩, ⟨by dsimp only; omega, by dsimp only; omega⟩, opsT_wf hw (by omega) _ _, ?_⟩
      have := opsT_len (tab l) l (l.length + 1) 0
      dsimp only; omega
theorem formP_wf {p : PatL} (hp : p.wf) : (formP p).1.wf := by
  have h := cheapP_wf (n := p.in_) (symsOf_wf hp)
  unfold formP
  split
  · dsimp only
    split
    · exact ⟨h.in_, h.out, h.ops, h.len⟩
    · exact h
  · exact zero_wf
theorem wf_bytes {p : PatL} (hp : p.wf) : ∀ x ∈ p.ops, ∀ z ∈ x.data, 0 ≤ z ∧ z ≤ 255 := fun x hx => (hp.ops x hx).data
def litS (bs : List Int) : List Sym := bs.map fun b => ⟨false, 0, b⟩
def formsP (l : List Sym) (ops : List OpL) : Bool := decide ((cheapP l 4).2 = 0) && samePR (cheapP l 4).1 ⟨false, 4, l.length, ops⟩

theorem cheapest_e (ad : Option Addr) (m cap : Nat) (l : List Sym) (size : Int) (q : PatL) (e : Int) (w0 : World) (I0 : Imm) (hI : Sat I0 w0) (hl : RSyms I0 (.slice ad m cap) l) (hm : m = l.length) (hw : ∀ s ∈ l, s.wf) (he : cheapP l size = (q, e)) :
    Ctr Tryz.prog 47 [.slice ad m cap, .int .i64 size] w0 (fun v w' => ∃ I' a m c, v = .tuple #[.agg #[.bool q.lifted, .int .i64 q.in_, .int .i64 q.out, .slice a m c], .int .i64 e] ∧ Ext w0 I0 w' I' ∧ ROps I' (.slice a m c) q.ops) := by
  subst hm
  have h := cheapest_c ad cap l size w0 I0 hI hl hw
  rw [he] at h
  exact h
theorem form_e (p : PatL) (ad : Option Addr) (m cap : Nat) (q : PatL) (e : Int) (w0 : World) (I0 : Imm) (hI : Sat I0 w0) (hops : ROps I0 (.slice ad m cap) p.ops) (hp : p.wf) (he : formP p = (q, e)) :
    Ctr Tryz.prog 14 [.agg #[.bool p.lifted, .int .i64 p.in_, .int .i64 p.out, .slice ad m cap]] w0 (fun v w' => ∃ I' a m c, v = .tuple #[.agg #[.bool q.lifted, .int .i64 q.in_, .int .i64 q.out, .slice a m c], .int .i64 e] ∧ Ext w0 I0 w' I' ∧ ROps I' (.slice a m c) q.ops) := by
  have h := form_c p ad m cap w0 I0 hI hops hp
  rw [he] at h
  exact h
theorem same_e (p q : PatL) (ad bd : Option Addr) (m cap mb capb : Nat) (b : Bool) (w0 : World) (I0 : Imm) (hI : Sat I0 w0) (hops : ROps I0 (.slice ad m cap) p.ops) (hp : p.wf) (hoq : ROps I0 (.slice bd mb capb) q.ops) (hq : q.wf) (he : sameP p q = b) :
    Ctr Tryz.prog 16 [.agg #[.bool p.lifted, .int .i64 p.in_, .int .i64 p.out, .slice ad m cap], .agg #[.bool q.lifted, .int .i64 q.in_, .int .i64 q.out, .slice bd mb capb]] w0 (fun v w' => ∃ I', v = .bool b ∧ Ext w0 I0 w' I') := by
  have h := same_c p q ad bd m cap mb capb w0 I0 hI hops hp hoq hq
  rw [he] at h
  exact h
theorem sameR_e (p q : PatL) (ad bd : Option Addr) (m cap mb capb : Nat) (b : Bool) (w0 : World) (I0 : Imm) (hI : Sat I0 w0) (hops : ROps I0 (.slice ad m cap) p.ops) (hp : p.wf) (hoq : ROps I0 (.slice bd mb capb) q.ops) (hq : q.wf) (he : samePR p q = b) :
    Ctr Tryz.prog 40 [.agg #[.bool p.lifted, .int .i64 p.in_, .int .i64 p.out, .slice ad m cap], .agg #[.bool q.lifted, .int .i64 q.in_, .int .i64 q.out, .slice bd mb capb]] w0 (fun v w' => v = .bool b ∧ Ext w0 I0 w' I0) := by
  have h := sameR_c p q ad bd m cap mb capb w0 I0 hI hops (wf_bytes hp) hoq (wf_bytes hq)
  rw [he] at h
  exact h

theorem old_c (n b : Int) (w0 : World) (I0 : Imm) (hI : Sat I0 w0) : Ctr Tryz.prog 45 [.int .i64 n, .int .u8 b] w0 (fun v w' => v = symV ⟨true, n, b⟩ ∧ Ext w0 I0 w' I0) := by
  refine fn (n := 8) Tryz.func45 rfl rfl rfl ?_
  have hS := St.start hI
  refine wpIn_seq ?_
  refine reg ?_
  refine qe (d_alloc (cs := [.bool _, .int .i64 _, .int .u8 _]) hS Tryz.zeroValue81 rfl) ?_
  clear hS
  rintro _ w_1 ⟨b_1, rfl, hS⟩
  refine ol_nil (thenN ?_)
  refine wpIn_seq ?_
  refine reg ?_
  refine qq hS (g_movev (v := .int .i64 _) rfl) ?_
  refine qq hS (g_movev (v := .int .u8 _) rfl) ?_
  refine qq hS (g_buildv (pl := [(0, 1), (1, 1), (2, 1)]) (cs := [.bool _, .int .i64 _, .int .u8 _]) Tryz.zeroValue81 Tryz.underlying81 (fun w => by simp [Tryz.sizeOf3, Tryz.sizeOf4, Tryz.sizeOf5]) (mp (v := .bool _) rfl (mp (v := .int .i64 _) rfl (mp (v := .int .u8 _) rfl mp0))) rfl) ?_
  refine qe (d_store 0 hS Tryz.sizeOf81 rfl rfl rfl (vs := [.bool _, .int .i64 _, .int .u8 _]) rfl rfl rfl (Nat.le_of_ble_eq_true rfl) (cs' := [_, _, _]) rfl) ?_
  clear hS
  rintro _ w_2 ⟨rfl, hS⟩
  refine ol_nil (thenN ?_)
  refine wpIn_ret ?_
  refine ret1 Tryz.results45 (rv_cel 0 hS Tryz.sizeOf81 Tryz.isAgg81 rfl rfl rfl) ?_
  exact ⟨rfl, hS.nil⟩

theorem literals_c (ad : Option Addr) (cap : Nat) (l : List Int) (w0 : World) (I0 : Imm) (hI : Sat I0 w0) (hl : RBytes I0 (.slice ad l.length cap) l) (hn : l.length ≤ 1000000) :
    Ctr Tryz.prog 46 [.slice ad l.length cap] w0 (fun v w' => ∃ I' a m c, v = .slice a m c ∧ Ext w0 I0 w' I' ∧ RSyms I' (.slice a m c) (litS l) ∧ m = (litS l).length) := by
  have hll := RSl.le hl
  simp only [maxLen] at hll
  refine fn (n := 21) Tryz.func46 rfl rfl rfl ?_
  have hS := St.start hI
  refine wpIn_seq ?_
  refine reg ?_
  refine qq hS (g_assign _) ?_
  refine ol_nil (thenN ?_)
  refine wpIn_seq ?_
  refine reg ?_
  refine qe (d_buildSlice0 hS Tryz.underlying83 Tryz.sizeOf81) ?_
  clear hS
  rintro _ w_1 ⟨hS, b5_, rfl⟩
  refine qq hS (g_assign _) ?_
  refine ol_nil (thenN ?_)
  refine wpIn_seq ?_
  refine wpIn_seq ?_
  refine reg ?_
  refine qq hS (g_assignv (v := .int .i64 _) rfl) ?_
  refine ol_nil (thenN ?_)
  refine wpIn_block ?_
  refine loop (fun (x : Nat × Option Addr × Nat) σ w => okS σ [(0, .slice ad l.length cap), (3, .slice x.2.1 x.1 x.2.2), (4, .int .i64 x.1)] ∧ St [] w0 I0 I0 w [.row (.slice x.2.1 x.1 x.2.2) 81 3 x.1 (flat symC (litS (l.take x.1)))] ∧ x.1 ≤ l.length) (fun x => l.length - x.1) ((0, some ⟨b5_, 0, none⟩, 0)) ?_ ?_
  ·
    exact ⟨⟨rfl, rfl, rfl, trivial⟩, hS.sel [true], by simp⟩
  ·
    rintro ⟨k, a, c⟩ σ w_l ⟨hs, hS, hk0⟩
    dsimp only at hs hS hk0 ⊢
    rw [← upds_self hs]; clear hs
    refine wpIn_seq ?_
    refine wpIn_seq ?_
    refine reg ?_
    refine qq hS (g_movev (v := .int .i64 _) rfl) ?_
    refine qq hS (g_move _) ?_
    refine qq hS (g_lenI rfl Tryz.underlying25 hl rfl) ?_
    refine qq hS (g_lss rfl rfl) ?_
    refine ol_nil (thenN ?_)
    refine cond_s rfl ?_ ?_
    ·
      intro hc9
      try simp only [Bool.and_eq_true, Bool.or_eq_true, Bool.not_eq_true', Bool.and_eq_false_imp, Bool.or_eq_false_iff, Bool.not_eq_false', decide_eq_true_eq, decide_eq_false_iff_not] at hc9
      obtain ⟨b, hbi⟩ : ∃ b, l[k]? = some b := ⟨_, List.getElem?_eq_getElem (by omega)⟩
      have hbA := hl.at hbi
      refine wpIn_skip ?_
      refine thenN ?_
      refine wpIn_seq ?_
      refine wpIn_block ?_
      refine reg ?_
      refine qq hS (g_move _) ?_
      refine qq hS (g_move _) ?_
      refine qq hS (g_movev (v := .int .i64 _) rfl) ?_
      refine qq hS (g_ixI Tryz.underlying25 Tryz.sizeOf5 hl rfl rfl (by omega) (by omega)) ?_
      refine qq hS (g_ldE1 Tryz.isAgg5 hbA rfl rfl) ?_
      refine qq hS (g_buildv (pl := [(0, 1), (1, 1), (2, 1)]) (cs := [.bool _, .int .i64 _, .int .u8 _]) Tryz.zeroValue81 Tryz.underlying81 (fun w => by simp [Tryz.sizeOf3, Tryz.sizeOf4, Tryz.sizeOf5]) (mp (v := .int .u8 _) rfl mp0) rfl) ?_
      refine qe (d_lit (vs := [.agg #[.bool _, .int .i64 _, .int .u8 _]]) (cs := [.bool _, .int .i64 _, .int .u8 _]) hS Tryz.underlying83 Tryz.sizeOf81 Tryz.zeroValue81 rfl rfl rfl rfl (fun v hv => by simp only [List.mem_cons, List.not_mem_nil, or_false] at hv; subst hv; rfl) rfl) ?_
      clear hS
      rintro _ w_2 ⟨b_2, rfl, hS⟩
      refine qe (i_appendO 1 0 hS rfl Tryz.underlying83 info81 rfl rfl rfl rfl rfl rfl rfl rfl (by omega) (by omega)) ?_
      clear hS
      rintro _ w_3 ⟨a19, p19, rfl, hS⟩
      refine qq hS (g_assign _) ?_
      refine ol_nil (blkN (thenN ?_))
      refine reg ?_
      refine qq hS (g_movev (v := .int .i64 _) rfl) ?_
      refine qq hS (g_add rfl rfl (by omega) (by omega)) ?_
      refine qq hS (g_assignv (v := .int .i64 _) rfl) ?_
      refine ol_nil (thenN ?_)
      refine ⟨(k + 1, a19, p19), _, rfl, ⟨⟨rfl, rfl, rfl, trivial⟩, ?_, by dsimp only; omega⟩, by dsimp only; omega⟩
      dsimp only
      rw [take_snoc hbi, litS, List.map_append, flat_append, List.map_cons, List.map_nil, flat_one]
      exact hS.sel [false, true]
    ·
      intro hc9
      try simp only [Bool.and_eq_true, Bool.or_eq_true, Bool.not_eq_true', Bool.and_eq_false_imp, Bool.or_eq_false_iff, Bool.not_eq_false', decide_eq_true_eq, decide_eq_false_iff_not] at hc9
      have hk : k = l.length := by omega
      subst hk
      rw [List.take_length] at hS
      refine wpIn_exit ?_
      refine thenE (thenE (blkE ?_))
      refine thenN ?_
      refine wpIn_seq ?_
      refine reg ?_
      refine qq hS (g_move _) ?_
      refine qq hS (g_assign _) ?_
      refine ol_nil (thenN ?_)
      refine wpIn_ret ?_
      refine ret1 Tryz.results46 (rv_tmp rfl) ?_
      obtain ⟨I1, hE1, hI1, hd1⟩ := row_freeze1 symC_len (xs := litS l) (hS.sel [true]) (by simp [litS])
      exact ⟨I1, a, l.length, c, rfl, hE1, hd1, by simp [litS]⟩

theorem forms_c (ad bd : Option Addr) (n cap mb capb : Nat) (l : List Sym) (ops : List OpL) (w0 : World) (I0 : Imm) (hI : Sat I0 w0) (hl : RSyms I0 (.slice ad n cap) l) (hn : n = l.length) (hw : ∀ s ∈ l, s.wf) (ho : ROps I0 (.slice bd mb capb) ops) (hwo : ∀ x ∈ ops, x.wf) :
    Ctr Tryz.prog 44 [.slice ad n cap, .slice bd mb capb] w0 (fun v w' => ∃ I', v = .bool (formsP l ops) ∧ Ext w0 I0 w' I') := by
  subst hn
  refine fn (n := 22) Tryz.func44 rfl rfl rfl ?_
  have hS := St.start hI
  refine wpIn_seq ?_
  refine reg ?_
  refine qq hS (g_assignv (v := .bool _) rfl) ?_
  refine ol_nil (thenN ?_)
  refine wpIn_seq ?_
  refine reg ?_
  refine qq hS (g_move _) ?_
  refine qe (d_call Tryz.call47 rfl (cheapest_c ad cap l 4 _ _ hS.imm hl hw)) ?_
  rintro _ w_1 ⟨I1, a1, m1, c1, rfl, hE, hr⟩
  replace hS := hS.callE hE
  replace hl := hl.mono hE.ext
  replace ho := ho.mono hE.ext
  refine qq hS (g_move _) ?_
  refine qq hS (g_extract rfl rfl) ?_
  refine qq hS (g_extract (v := .int .i64 _) rfl rfl) ?_
  refine qe (d_alloc (cs := [.bool _, .int .i64 _, .int .i64 _, .slice _ _ _]) hS Tryz.zeroValue29 rfl) ?_
  clear hS
  rintro _ w_2 ⟨b5, rfl, hS⟩
  refine qe (d_store 0 hS Tryz.sizeOf29 rfl rfl rfl (vs := [.bool _, .int .i64 _, .int .i64 _, .slice _ _ _]) rfl rfl rfl (Nat.le_of_ble_eq_true rfl) (cs' := [_, _, _, _]) rfl) ?_
  clear hS
  rintro _ w_3 ⟨rfl, hS⟩
  refine qq hS (g_assignv (v := .int .i64 _) rfl) ?_
  refine ol_nil (thenN ?_)
  refine wpIn_seq ?_
  refine reg ?_
  refine qq hS (g_movev (v := .int .i64 _) rfl) ?_
  refine qq hS (g_eql rfl rfl) ?_
  refine qq hS (g_movev (v := .bool _) rfl) ?_
  refine qu rfl rfl hS (fun hg => (g_ldO 0 (vs := [.bool _, .int .i64 _, .int .i64 _, .slice _ _ _]) Tryz.sizeOf29 Tryz.isAgg29 rfl rfl rfl rfl)) ?_
  intro u15 hu15 hn15
  refine qu rfl rfl hS (fun hg => (g_move _)) ?_
  intro u16 hu16 hn16
  refine qu rfl rfl hS (fun hg => (g_lenI rfl Tryz.underlying83 hl (hu16 hg))) ?_
  intro u17 hu17 hn17
  refine qu rfl rfl hS (fun hg => (g_move _)) ?_
  intro u18 hu18 hn18
  refine qu rfl rfl hS (fun hg => (g_buildv (pl := [(0, 1), (1, 1), (2, 1), (3, 1)]) (cs := [.bool _, .int .i64 _, .int .i64 _, .slice _ _ _]) Tryz.zeroValue29 Tryz.underlying29 (fun w => by simp [Tryz.sizeOf27, Tryz.sizeOf3, Tryz.sizeOf4]) (mp (v := .int .i64 _) rfl (mp (v := .int .i64 _) (hu17 hg) (mp (hu18 hg) mp0))) rfl)) ?_
  intro u19 hu19 hn19
  refine cvu rfl rfl hS (fun hg => (d_call Tryz.call40 (ml (hu15 hg) (ml (hu19 hg) ml0)) (sameR_c (cheapP l 4).1 ⟨false, 4, l.length, ops⟩ a1 bd m1 c1 mb capb _ _ hS.imm hr (wf_bytes (cheapP_wf hw)) ho (fun x hx => (hwo x hx).data)))) ?_
  intro w_5 u20 hS hu20 hn20
  refine qq hS (g_and rfl rfl (fun hq => hu20 hq)) ?_
  refine qq hS (g_assignv (v := .bool _) rfl) ?_
  refine ol_nil (thenN ?_)
  refine wpIn_ret ?_
  refine ret1 Tryz.results44 (rv_tmp (v := .bool _) rfl) ?_
  exact ⟨I1, rfl, hS.nil⟩

theorem forms_t (ad bd : Option Addr) (n cap mb capb : Nat) (l : List Sym) (ops : List OpL) (w0 : World) (I0 : Imm) (hI : Sat I0 w0) (hl : RSyms I0 (.slice ad n cap) l) (hn : n = l.length) (hw : ∀ s ∈ l, s.wf) (ho : ROps I0 (.slice bd mb capb) ops) (hwo : ∀ x ∈ ops, x.wf) (hf : formsP l ops = true) :
    Ctr Tryz.prog 44 [.slice ad n cap, .slice bd mb capb] w0 (fun v w' => ∃ I', v = .bool true ∧ Ext w0 I0 w' I') := by
  have h := forms_c ad bd n cap mb capb l ops w0 I0 hI hl hn hw ho hwo
  rw [hf] at h
  exact h

end Go.Proofs.YtodopmclnklgdaaGreat

