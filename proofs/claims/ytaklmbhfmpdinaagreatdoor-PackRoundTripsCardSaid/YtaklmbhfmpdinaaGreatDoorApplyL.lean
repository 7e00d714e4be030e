/- patch.Apply for lifted patches: what it computes. Conditions: numbers within bounds. -/
import Derived.Test.YtaklmbhfmpdinaaGreatDoorKLab
import Derived.Test.YtaklmbhfmpdinaaGreatDoorPParts
import Derived.Test.YtaklmbhfmpdinaaGreatDoorKLaw
namespace Go.Proofs.YtaklmbhfmpdinaaGreatDoor
open Go Go.RowKit Go.Inl
set_option linter.unusedSimpArgs false
set_option linter.unusedVariables false
/-- The form of code. -/
def codeF (b : List Int) : List Int := formP (liftP (wordsN b (b.length / 4)))
def noCode (b : List Int) : Bool := !decide (b.length % 4 = 0) || decide (65536 < b.length)
def applyLP (old : List Int) (p : PatL) : List Int × Int :=
  if (symbolsP p).2 = 0 then
    if noCode old = true then ([], 30)
    else if ((codeF old).length : Int) = p.in_ then
      if (runP (codeF old) (symbolsP p).1).2 = 0 then
        if (readR (runP (codeF old) (symbolsP p).1).1).2 = 0 then lowR (readR (runP (codeF old) (symbolsP p).1).1).1 else ([], 30)
      else runP (codeF old) (symbolsP p).1
    else ([], 61)
  else ([], (symbolsP p).2)
theorem runP_byts {o : List Int} {l : List Sym} (ho : Byts o) (hl : ∀ s ∈ l, s.wf) : Byts (runP o l).1 := by
  unfold runP
  split
  · intro y hy; cases hy
  · intro y hy
    obtain ⟨s, hs, rfl⟩ := List.mem_map.1 hy
    exact runB_bd (hl s hs)
theorem zero_b : Wrds LiftL.zero.words ∧ Labs LiftL.zero.labels := ⟨by intro w hw; simp [LiftL.zero] at hw, by intro w hw; simp [LiftL.zero] at hw⟩
theorem readR_x {b : List Int} (hb : Byts b) : Wrds (readR b).1.words ∧ Labs (readR b).1.labels := by
  unfold readR
  split
  · exact zero_b
  · split
    · exact ⟨readX_wrds hb, readX_labs hb (nL_b hb).2⟩
    · exact zero_b
theorem formP_byts (x : LiftL) : Byts (formP x) := by
  have h1 : Byts (headF x) := by
    intro y hy
    rcases List.mem_append.1 hy with h | h
    · exact twoP_byts _ y h
    · exact twoP_byts _ y h
  have h2 : Byts (formL x.labels x.labels.length) := by
    intro y hy
    obtain ⟨i, _, h⟩ := List.mem_flatMap.1 hy
    exact twoP_byts _ y h
  have h3 : Byts (marksB x.marks ((x.marks.length + 7) / 8)) := by
    intro y hy
    obtain ⟨i, _, rfl⟩ := List.mem_map.1 hy
    have hb := bitsU_b (chunk x.marks i) (chunk x.marks i).length
    have hl : (chunk x.marks i).length ≤ 8 := by rw [chunk_len]; split <;> omega
    obtain ⟨j, hj⟩ : ∃ j, (chunk x.marks i).length = j := ⟨_, rfl⟩
    rw [hj] at hb hl ⊢
    have hp : (2 : Int) ^ j ≤ 256 := by
      have h9 : j = 0 ∨ j = 1 ∨ j = 2 ∨ j = 3 ∨ j = 4 ∨ j = 5 ∨ j = 6 ∨ j = 7 ∨ j = 8 := by omega
      rcases h9 with h | h | h | h | h | h | h | h | h <;> rw [h] <;> decide
    exact ⟨hb.1, by omega⟩
  intro y hy
  unfold formP at hy
  rcases List.mem_append.1 hy with h | h
  · rcases List.mem_append.1 h with h | h
    · rcases List.mem_append.1 h with h | h
      · exact h1 y h
      · exact h2 y h
    · exact h3 y h
  · exact bytesP_byts _ y h
theorem liftW_wrds {ws ls : List Int} (hw : Wrds ws) (hl : ls.length ≤ 65536) : ∀ (l : List Nat), (∀ i ∈ l, (instAt ws i).n ∈ ls) → Wrds (liftW ws ls l) := by
  have key : ∀ (l : List Nat) (acc : List Int), Wrds acc → (∀ i ∈ l, (instAt ws i).n ∈ ls) → Wrds (l.foldl (fun acc i => acc.set i (numAt ws ls i)) acc) := by
    intro l
    induction l with
    | nil => intro acc h _; exact h
    | cons i l ih =>
      intro acc h hi
      rw [List.foldl_cons]
      refine ih _ ?_ (fun j hj => hi j (List.mem_cons_of_mem _ hj))
      intro w hw'
      rcases List.mem_or_eq_of_mem_set hw' with h' | h'
      · exact h w h'
      · subst h'
        have hm := hi i (List.mem_cons_self ..)
        have hix := (List.getElem?_eq_some_iff.1 (idxP_at hm)).1
        have hy := wrds_getD hw i
        unfold numAt numP
        have hf : fieldM (instAt ws i).op = 24 ∨ fieldM (instAt ws i).op = 16 := by unfold fieldM; split <;> simp
        rcases hf with hf | hf <;> rw [hf] <;> omega
  intro l h
  exact key l ws hw h
theorem liftP_wrds {ws : List Int} (hw : Wrds ws) (hn : ws.length ≤ 65536) : Wrds (liftP ws).words :=
  liftW_wrds hw (by have := labelsP_len ws; omega) _ (fun i hi => labelsP_mem.2 (mem_tgts hi))
theorem liftP_labs {ws : List Int} (hn : ws.length ≤ 65536) : ∀ n ∈ (liftP ws).labels, 0 ≤ n ∧ n < 4 * (ws.length : Int) := by
  intro n hn'
  obtain ⟨i, hi, rfl⟩ := List.mem_map.1 (labelsP_mem.1 hn')
  have := (lks_mem.1 hi).2
  unfold lnk linkedP at this
  simp only [Bool.and_eq_true, decide_eq_true_eq] at this
  exact this.2
theorem noCode_f {b : List Int} (h : noCode b = false) : b.length = 4 * (b.length / 4) ∧ b.length / 4 ≤ 16384 := by
  unfold noCode at h
  rw [Bool.or_eq_false_iff, Bool.not_eq_false', decide_eq_true_iff, decide_eq_false_iff_not] at h
  omega
theorem noCode_t {b : List Int} (h : noCode b = true) : b.length % 4 ≠ 0 ∨ (b.length % 4 = 0 ∧ 65536 < b.length) := by
  unfold noCode at h
  rw [Bool.or_eq_true, Bool.not_eq_true', decide_eq_false_iff_not, decide_eq_true_iff] at h
  omega

theorem lift_odd (ad : Option Addr) (cap : Nat) (b : List Int) (w0 : World) (I0 : Imm) (hI : Sat I0 w0) (hl : RBytes I0 (.slice ad b.length cap) b) (h : b.length % 4 ≠ 0) :
    Ctr Tryz.prog 33 [.slice ad b.length cap] w0 (fun v w' => ∃ I', v = .tuple #[.agg #[.slice none 0 0, .slice none 0 0, .slice none 0 0], .int .i64 30] ∧ Ext w0 I0 w' I') := by
  refine fnM (n := 78) Tryz.func33 rfl rfl rfl ?_
  have hS := St.start hI
  refine wpIn_seq ?_
  refine reg ?_
  refine qe (d_alloc (cs := [.slice _ _ _, .slice _ _ _, .slice _ _ _]) hS Tryz.zeroValue76 rfl) ?_
  clear hS
  rintro _ w_1 ⟨b2, rfl, hS⟩
  refine qq hS (g_assignv (v := .int .i64 _) rfl) ?_
  refine ol_nil (thenN ?_)
  refine wpIn_seq ?_
  refine reg ?_
  refine qq hS (g_move _) ?_
  refine qe (d_call Tryz.call71 rfl (words_bad ad cap b _ _ hS.imm hl h)) ?_
  rintro _ w_2 ⟨rfl, hE⟩
  replace hS := hS.callE hE
  refine qq hS (g_move _) ?_
  refine qq hS (g_extract rfl rfl) ?_
  refine qq hS (g_extract (v := .int .i64 _) rfl rfl) ?_
  refine qe (d_alloc (cs := [.slice _ _ _]) hS Tryz.zeroValue72 rfl) ?_
  clear hS
  rintro _ w_3 ⟨b4, rfl, hS⟩
  refine qe (d_store 0 hS Tryz.sizeOf72 rfl rfl rfl (vs := [.slice _ _ _]) rfl rfl rfl (Nat.le_of_ble_eq_true rfl) (cs' := [_]) rfl) ?_
  clear hS
  rintro _ w_4 ⟨rfl, hS⟩
  refine qq hS (g_assignv (v := .int .i64 _) rfl) ?_
  refine ol_nil (thenN ?_)
  refine wpIn_seq ?_
  refine wpIn_seq ?_
  refine reg ?_
  refine qq hS (g_movev (v := .int .i64 _) rfl) ?_
  refine qq hS (g_neqT rfl rfl (by decide)) ?_
  refine qq hS (g_movev (v := .bool _) rfl) ?_
  refine qsf rfl rfl rfl ?_
  refine qsf rfl rfl rfl ?_
  refine qsf rfl rfl rfl ?_
  refine qq hS (g_or (b := true) rfl rfl (fun h => (by cases h))) ?_
  refine ol_nil (thenN ?_)
  refine cond_t (rfl) ?_
  refine wpIn_seq ?_
  refine reg ?_
  refine qq hS (g_buildv (pl := [(0, 1), (1, 1), (2, 1)]) (cs := [.slice _ _ _, .slice _ _ _, .slice _ _ _]) Tryz.zeroValue76 Tryz.underlying76 (fun w => by simp [Tryz.sizeOf72, Tryz.sizeOf73, Tryz.sizeOf74]) mp0 rfl) ?_
  refine qe (d_store 1 hS Tryz.sizeOf76 rfl rfl rfl (vs := [.slice _ _ _, .slice _ _ _, .slice _ _ _]) rfl rfl rfl (Nat.le_of_ble_eq_true rfl) (cs' := [_, _, _]) rfl) ?_
  clear hS
  rintro _ w_5 ⟨rfl, hS⟩
  refine qq hS (g_assignv (v := .int .i64 _) rfl) ?_
  refine ol_nil (thenN ?_)
  refine wpIn_ret ?_
  refine thenR ?_
  refine retM2 Tryz.results33 (rv_cel 1 hS Tryz.sizeOf76 Tryz.isAgg76 rfl rfl rfl) (rv_tmp (v := .int .i64 _) rfl) ?_
  exact ⟨_, rfl, hS.nil⟩

theorem lift_big (ad : Option Addr) (cap : Nat) (b : List Int) (w0 : World) (I0 : Imm) (hI : Sat I0 w0) (hl : RBytes I0 (.slice ad b.length cap) b) (hb : Byts b) (h : b.length % 4 = 0) (h2 : 65536 < b.length) (h3 : b.length ≤ 4294967296) :
    Ctr Tryz.prog 33 [.slice ad b.length cap] w0 (fun v w' => ∃ I', v = .tuple #[.agg #[.slice none 0 0, .slice none 0 0, .slice none 0 0], .int .i64 30] ∧ Ext w0 I0 w' I') := by
  refine fnM (n := 78) Tryz.func33 rfl rfl rfl ?_
  have hS := St.start hI
  refine wpIn_seq ?_
  refine reg ?_
  refine qe (d_alloc (cs := [.slice _ _ _, .slice _ _ _, .slice _ _ _]) hS Tryz.zeroValue76 rfl) ?_
  clear hS
  rintro _ w_1 ⟨b2, rfl, hS⟩
  refine qq hS (g_assignv (v := .int .i64 _) rfl) ?_
  refine ol_nil (thenN ?_)
  refine wpIn_seq ?_
  refine reg ?_
  refine qq hS (g_move _) ?_
  refine qe (d_call Tryz.call71 rfl (words_c ad cap (b.length / 4) b _ _ hS.imm hl hb (by omega) (by omega))) ?_
  rintro _ w_2 ⟨I_f, a15, c15, rfl, hE, h15⟩
  replace hS := hS.callE hE
  replace hl := hl.mono hE.ext
  refine qq hS (g_move _) ?_
  refine qq hS (g_extract rfl rfl) ?_
  refine qq hS (g_extract (v := .int .i64 _) rfl rfl) ?_
  refine qe (d_alloc (cs := [.slice _ _ _]) hS Tryz.zeroValue72 rfl) ?_
  clear hS
  rintro _ w_3 ⟨b4, rfl, hS⟩
  refine qe (d_store 0 hS Tryz.sizeOf72 rfl rfl rfl (vs := [.slice _ _ _]) rfl rfl rfl (Nat.le_of_ble_eq_true rfl) (cs' := [_]) rfl) ?_
  clear hS
  rintro _ w_4 ⟨rfl, hS⟩
  refine qq hS (g_assignv (v := .int .i64 _) rfl) ?_
  refine ol_nil (thenN ?_)
  refine wpIn_seq ?_
  refine wpIn_seq ?_
  refine reg ?_
  refine qq hS (g_movev (v := .int .i64 _) rfl) ?_
  refine qq hS (g_neqF rfl rfl rfl) ?_
  refine qq hS (g_movev (v := .bool _) rfl) ?_
  refine qqs rfl rfl hS (g_move _) ?_
  refine qqs rfl rfl hS (g_lenI rfl Tryz.underlying22 hl rfl) ?_
  refine qqs rfl rfl hS (g_toV (g_gtr rfl rfl) (congrArg Value.bool (decide_eq_true (show (65536 : Int) < (b.length : Int) by omega)))) ?_
  refine qq hS (g_or (b := true) rfl rfl (fun _ => rfl)) ?_
  refine ol_nil (thenN ?_)
  refine cond_t (rfl) ?_
  refine wpIn_seq ?_
  refine reg ?_
  refine qq hS (g_buildv (pl := [(0, 1), (1, 1), (2, 1)]) (cs := [.slice _ _ _, .slice _ _ _, .slice _ _ _]) Tryz.zeroValue76 Tryz.underlying76 (fun w => by simp [Tryz.sizeOf72, Tryz.sizeOf73, Tryz.sizeOf74]) mp0 rfl) ?_
  refine qe (d_store 1 hS Tryz.sizeOf76 rfl rfl rfl (vs := [.slice _ _ _, .slice _ _ _, .slice _ _ _]) rfl rfl rfl (Nat.le_of_ble_eq_true rfl) (cs' := [_, _, _]) rfl) ?_
  clear hS
  rintro _ w_5 ⟨rfl, hS⟩
  refine qq hS (g_assignv (v := .int .i64 _) rfl) ?_
  refine ol_nil (thenN ?_)
  refine wpIn_ret ?_
  refine thenR ?_
  refine retM2 Tryz.results33 (rv_cel 1 hS Tryz.sizeOf76 Tryz.isAgg76 rfl rfl rfl) (rv_tmp (v := .int .i64 _) rfl) ?_
  exact ⟨_, rfl, hS.nil⟩

theorem lift_no (ad : Option Addr) (cap : Nat) (b : List Int) (w0 : World) (I0 : Imm) (hI : Sat I0 w0) (hl : RBytes I0 (.slice ad b.length cap) b) (hb : Byts b) (h : noCode b = true) (h3 : b.length ≤ 4294967296) :
    Ctr Tryz.prog 33 [.slice ad b.length cap] w0 (fun v w' => ∃ I', v = .tuple #[.agg #[.slice none 0 0, .slice none 0 0, .slice none 0 0], .int .i64 30] ∧ Ext w0 I0 w' I') := by
  rcases noCode_t h with h | ⟨h, h2⟩
  · exact lift_odd ad cap b w0 I0 hI hl h
  · exact lift_big ad cap b w0 I0 hI hl hb h h2 h3
theorem lift_ok (ad : Option Addr) (cap : Nat) (b : List Int) (x : LiftL) (w0 : World) (I0 : Imm) (hI : Sat I0 w0) (hl : RBytes I0 (.slice ad b.length cap) b) (hb : Byts b) (h : noCode b = false) (hx : liftP (wordsN b (b.length / 4)) = x) :
    Ctr Tryz.prog 33 [.slice ad b.length cap] w0 (fun v w' => ∃ I' a0 c0 a1 c1 a2 c2, v = .tuple #[.agg #[.slice a0 x.words.length c0, .slice a1 x.marks.length c1, .slice a2 x.labels.length c2], .int .i64 0] ∧ Ext w0 I0 w' I' ∧ RLf I' a0 c0 a1 c1 a2 c2 x) := by
  obtain ⟨h1, h2⟩ := noCode_f h
  refine (lift_c ad cap (b.length / 4) b w0 I0 hI hl hb h1 h2).mono ?_
  rintro v w' ⟨I', a0, c0, a1, c1, a2, c2, hv, hE, g1, g2, g3⟩
  have e1 : x.words.length = b.length / 4 := by rw [← hx]; exact (liftW_len _ _ _).trans (wordsN_len _ _)
  have e2 : x.marks.length = b.length / 4 := by rw [← hx]; exact (liftM_len _ _).trans (wordsN_len _ _)
  have e3 : x.labels.length = (labelsP (wordsN b (b.length / 4))).length := by rw [← hx]; rfl
  refine ⟨I', a0, c0, a1, c1, a2, c2, by rw [e1, e2, e3]; exact hv, hE, ?_, ?_, ?_⟩
  · rw [e1, ← hx]; exact g1
  · rw [e2, ← hx]; exact g2
  · rw [e3, ← hx]; exact g3

set_option maxHeartbeats 2000000 in
theorem applyl_c (p : PatL) (ad bd : Option Addr) (m cap capb : Nat) (old : List Int) (R : List Int) (e : Int) (w0 : World) (I0 : Imm) (hI : Sat I0 w0) (hops : ROps I0 (.slice ad m cap) p.ops) (hp : p.wf) (hl : p.lifted = true) (ho : RBytes I0 (.slice bd old.length capb) old) (hob : Byts old) (hon : old.length ≤ 4294967296) (hR : applyLP old p = (R, e)) :
    Ctr Tryz.prog 10 [.slice bd old.length capb, .agg #[.bool p.lifted, .int .i64 p.in_, .int .i64 p.out, .slice ad m cap]] w0 (fun v w' => ∃ I' a c, v = .tuple #[.slice a R.length c, .int .i64 e] ∧ Ext w0 I0 w' I' ∧ RBytes I' (.slice a R.length c) R) := by
  have hwA := symsOf_wf hp
  have hlA := symbolsP_len p
  unfold applyLP at hR
  obtain ⟨A, eA, hA⟩ : ∃ A e, symbolsP p = (A, e) := ⟨_, _, rfl⟩
  rw [hA] at hR hwA hlA
  dsimp only at hR hwA hlA
  refine fn (n := 62) Tryz.func10 rfl rfl rfl ?_
  have hS := St.start hI
  refine wpIn_seq ?_
  refine reg ?_
  refine qe (d_box (cs := [.bool _, .int .i64 _, .int .i64 _, .slice _ _ _]) hS rfl) ?_
  clear hS
  rintro _ w_1 ⟨b3, rfl, hS⟩
  refine qq hS (g_assign _) ?_
  refine qq hS (g_assignv (v := .int .i64 _) rfl) ?_
  refine ol_nil (thenN ?_)
  refine wpIn_seq ?_
  refine reg ?_
  refine qq hS (g_ldO 0 (vs := [.bool _, .int .i64 _, .int .i64 _, .slice _ _ _]) Tryz.sizeOf26 Tryz.isAgg26 rfl rfl rfl rfl) ?_
  refine qe (d_call Tryz.call30 rfl (symbols_L p ad m cap A eA _ _ hS.imm hops hp hA)) ?_
  rintro _ w_2 ⟨I_f, a13, c13, rfl, hE, h13⟩
  replace hS := hS.callE hE
  replace hops := hops.mono hE.ext
  replace ho := ho.mono hE.ext
  refine qq hS (g_move _) ?_
  refine qq hS (g_extract rfl rfl) ?_
  refine qq hS (g_extract (v := .int .i64 _) rfl rfl) ?_
  refine qq hS (g_assign _) ?_
  refine qq hS (g_assignv (v := .int .i64 _) rfl) ?_
  refine ol_nil (thenN ?_)
  refine wpIn_seq ?_
  refine wpIn_seq ?_
  refine reg ?_
  refine qq hS (g_movev (v := .int .i64 _) rfl) ?_
  refine qq hS (g_neq rfl rfl) ?_
  refine ol_nil (thenN ?_)
  refine cond_s rfl ?_ ?_
  ·
    intro hc18
    try simp only [Bool.and_eq_true, Bool.or_eq_true, Bool.not_eq_true', Bool.and_eq_false_imp, Bool.or_eq_false_iff, Bool.not_eq_false', decide_eq_true_eq, decide_eq_false_iff_not] at hc18
    rw [if_neg hc18] at hR
    obtain ⟨rfl, rfl⟩ := Prod.mk.inj hR
    refine wpIn_seq ?_
    refine reg ?_
    refine qq hS (g_movev (v := .int .i64 _) rfl) ?_
    refine qq hS (g_assign _) ?_
    refine qq hS (g_assignv (v := .int .i64 _) rfl) ?_
    refine ol_nil (thenN ?_)
    refine wpIn_ret ?_
    refine thenR ?_
    refine ret2 Tryz.results10 (rv_tmp rfl) (rv_tmp (v := .int .i64 _) rfl) ?_
    first | exact ⟨_, none, 0, rfl, hS.nil, RFl.nil⟩ | exact ⟨_, a39, c39, rfl, hS.nil, h39⟩ | exact ⟨_, a59, c59, rfl, hS.nil, h59⟩
  ·
    intro hc18
    try simp only [Bool.and_eq_true, Bool.or_eq_true, Bool.not_eq_true', Bool.and_eq_false_imp, Bool.or_eq_false_iff, Bool.not_eq_false', decide_eq_true_eq, decide_eq_false_iff_not] at hc18
    rw [if_pos hc18] at hR
    refine wpIn_skip ?_
    refine thenN ?_
    refine wpIn_seq ?_
    refine wpIn_seq ?_
    refine reg ?_
    refine qq hS (g_fieldAddr (o' := 0) Tryz.underlying26 rfl Tryz.sizeOf4 rfl rfl rfl) ?_
    refine qq hS (g_ldO1 0 Tryz.isAgg4 rfl rfl rfl) ?_
    refine ol_nil (thenN ?_)
    refine cond_t (congrArg Value.bool hl) ?_
    refine wpIn_seq ?_
    have hnc : noCode old = true ∨ noCode old = false := by cases noCode old <;> simp
    refine hnc.elim (fun hnc => ?_) (fun hnc => ?_)
    ·
      rw [if_pos hnc] at hR
      obtain ⟨rfl, rfl⟩ := Prod.mk.inj hR
      refine reg ?_
      refine qq hS (g_move _) ?_
      refine qe (d_call Tryz.call33 rfl (lift_no bd capb old _ _ hS.imm ho hob hnc hon)) ?_
      rintro _ w_3 ⟨I_f, rfl, hE⟩
      replace hS := hS.callE hE
      replace hops := hops.mono hE.ext
      replace ho := ho.mono hE.ext
      replace h13 := h13.mono hE.ext
      refine qq hS (g_move _) ?_
      refine qq hS (g_extract rfl rfl) ?_
      refine qq hS (g_extract (v := .int .i64 _) rfl rfl) ?_
      refine qe (d_alloc (cs := [.slice _ _ _, .slice _ _ _, .slice _ _ _]) hS Tryz.zeroValue76 rfl) ?_
      clear hS
      rintro _ w_4 ⟨b8, rfl, hS⟩
      refine qe (d_store 0 hS Tryz.sizeOf76 rfl rfl rfl (vs := [.slice _ _ _, .slice _ _ _, .slice _ _ _]) rfl rfl rfl (Nat.le_of_ble_eq_true rfl) (cs' := [_, _, _]) rfl) ?_
      clear hS
      rintro _ w_5 ⟨rfl, hS⟩
      refine qq hS (g_assignv (v := .int .i64 _) rfl) ?_
      refine ol_nil (thenN ?_)
      refine wpIn_seq ?_
      refine wpIn_seq ?_
      refine reg ?_
      refine qq hS (g_movev (v := .int .i64 _) rfl) ?_
      refine qq hS (g_neqT rfl rfl (by decide)) ?_
      refine ol_nil (thenN ?_)
      refine cond_t (rfl) ?_
      refine wpIn_seq ?_
      refine reg ?_
      refine qq hS (g_assign _) ?_
      refine qq hS (g_assignv (v := .int .i64 _) rfl) ?_
      refine ol_nil (thenN ?_)
      refine wpIn_ret ?_
      refine thenR (thenR ?_)
      refine ret2 Tryz.results10 (rv_tmp rfl) (rv_tmp (v := .int .i64 _) rfl) ?_
      first | exact ⟨_, none, 0, rfl, hS.nil, RFl.nil⟩ | exact ⟨_, a39, c39, rfl, hS.nil, h39⟩ | exact ⟨_, a59, c59, rfl, hS.nil, h59⟩
    ·
      rw [if_neg (by rw [hnc]; decide)] at hR
      obtain ⟨x, hxe⟩ : ∃ x, liftP (wordsN old (old.length / 4)) = x := ⟨_, rfl⟩
      obtain ⟨hn4, hn5⟩ := noCode_f hnc
      have hwl := wordsN_len old (old.length / 4)
      have hxw : Wrds x.words := by rw [← hxe]; exact liftP_wrds (wordsN_wrds hob _) (by rw [hwl]; omega)
      have hxl : Labs x.labels := by rw [← hxe]; intro n hn; have := liftP_labs (ws := wordsN old (old.length / 4)) (by rw [hwl]; omega) n hn; rw [hwl] at this; omega
      have hx1 : x.words.length = old.length / 4 := by rw [← hxe]; exact (liftW_len _ _ _).trans hwl
      have hx2 : x.marks.length = old.length / 4 := by rw [← hxe]; exact (liftM_len _ _).trans hwl
      have hx3 : x.labels.length ≤ old.length / 4 := by rw [← hxe]; have := labelsP_len (wordsN old (old.length / 4)); rw [hwl] at this; exact this
      refine reg ?_
      refine qq hS (g_move _) ?_
      refine qe (d_call Tryz.call33 rfl (lift_ok bd capb old x _ _ hS.imm ho hob hnc hxe)) ?_
      rintro _ w_6 ⟨I_f, a0, c0, a1, c1, a2, c2, rfl, hE, hx⟩
      replace hS := hS.callE hE
      replace hops := hops.mono hE.ext
      replace ho := ho.mono hE.ext
      replace h13 := h13.mono hE.ext
      refine qq hS (g_move _) ?_
      refine qq hS (g_extract rfl rfl) ?_
      refine qq hS (g_extract (v := .int .i64 _) rfl rfl) ?_
      refine qe (d_alloc (cs := [.slice _ _ _, .slice _ _ _, .slice _ _ _]) hS Tryz.zeroValue76 rfl) ?_
      clear hS
      rintro _ w_7 ⟨b8, rfl, hS⟩
      refine qe (d_store 0 hS Tryz.sizeOf76 rfl rfl rfl (vs := [.slice _ _ _, .slice _ _ _, .slice _ _ _]) rfl rfl rfl (Nat.le_of_ble_eq_true rfl) (cs' := [_, _, _]) rfl) ?_
      clear hS
      rintro _ w_8 ⟨rfl, hS⟩
      refine qq hS (g_assignv (v := .int .i64 _) rfl) ?_
      refine ol_nil (thenN ?_)
      refine wpIn_seq ?_
      refine wpIn_seq ?_
      refine reg ?_
      refine qq hS (g_movev (v := .int .i64 _) rfl) ?_
      refine qq hS (g_neqF rfl rfl rfl) ?_
      refine ol_nil (thenN ?_)
      refine cond_f (rfl) ?_
      refine wpIn_skip ?_
      refine thenN ?_
      refine reg ?_
      refine qq hS (g_ldO 0 (vs := [.slice _ _ _, .slice _ _ _, .slice _ _ _]) Tryz.sizeOf76 Tryz.isAgg76 rfl rfl rfl rfl) ?_
      refine qe (d_call Tryz.call34 rfl (lform_c x a0 a1 a2 c0 c1 c2 _ _ hS.imm hx hxw hxl (by omega) (by omega) (by omega))) ?_
      rintro _ w_9 ⟨I_f, a30, c30, rfl, hE, h30⟩
      replace hS := hS.callE hE
      replace hops := hops.mono hE.ext
      replace ho := ho.mono hE.ext
      replace h13 := h13.mono hE.ext
      replace hx := hx.mono hE.ext
      refine qq hS (g_assign _) ?_
      refine ol_nil (thenN ?_)
      refine wpIn_seq ?_
      refine wpIn_seq ?_
      refine reg ?_
      refine qq hS (g_move _) ?_
      refine qq hS (g_lenI rfl Tryz.underlying22 h30 rfl) ?_
      refine qq hS (g_fieldAddr (o' := 1) Tryz.underlying26 rfl Tryz.sizeOf3 rfl rfl rfl) ?_
      refine qq hS (g_ldO1 1 Tryz.isAgg3 rfl rfl rfl) ?_
      refine qq hS (g_neq rfl rfl) ?_
      refine ol_nil (thenN ?_)
      refine cond_s rfl ?_ ?_
      ·
        intro hc35
        try simp only [Bool.and_eq_true, Bool.or_eq_true, Bool.not_eq_true', Bool.and_eq_false_imp, Bool.or_eq_false_iff, Bool.not_eq_false', decide_eq_true_eq, decide_eq_false_iff_not] at hc35
        rw [if_neg (by show ¬ ((formP (liftP (wordsN old (old.length / 4)))).length : Int) = p.in_; rw [hxe]; omega)] at hR
        obtain ⟨rfl, rfl⟩ := Prod.mk.inj hR
        refine wpIn_seq ?_
        refine reg ?_
        refine qq hS (g_assign _) ?_
        refine qq hS (g_assignv (v := .int .i64 _) rfl) ?_
        refine ol_nil (thenN ?_)
        refine wpIn_ret ?_
        refine thenR ?_
        refine ret2 Tryz.results10 (rv_tmp rfl) (rv_tmp (v := .int .i64 _) rfl) ?_
        first | exact ⟨_, none, 0, rfl, hS.nil, RFl.nil⟩ | exact ⟨_, a39, c39, rfl, hS.nil, h39⟩ | exact ⟨_, a59, c59, rfl, hS.nil, h59⟩
      ·
        intro hc35
        try simp only [Bool.and_eq_true, Bool.or_eq_true, Bool.not_eq_true', Bool.and_eq_false_imp, Bool.or_eq_false_iff, Bool.not_eq_false', decide_eq_true_eq, decide_eq_false_iff_not] at hc35
        rw [if_pos (by show ((formP (liftP (wordsN old (old.length / 4)))).length : Int) = p.in_; rw [hxe]; omega)] at hR
        obtain ⟨Q, eQ, hQ⟩ : ∃ Q e, runP (formP x) A = (Q, e) := ⟨_, _, rfl⟩
        have hcf : codeF old = formP x := by unfold codeF; rw [hxe]
        have hQb : Byts Q := by have := runP_byts (o := formP x) (l := A) (formP_byts x) hwA; rw [hQ] at this; exact this
        rw [hcf, hQ] at hR
        dsimp only at hR
        refine wpIn_skip ?_
        refine thenN ?_
        refine wpIn_seq ?_
        refine reg ?_
        refine qq hS (g_move _) ?_
        refine qq hS (g_move _) ?_
        refine qe (d_call Tryz.call35 rfl (run_e a30 a13 c30 c13 (formP x) A (Q, eQ) _ _ hS.imm h30 h13 hwA hlA hQ)) ?_
        rintro _ w_10 ⟨I_f, a39, c39, rfl, hE, h39⟩
        replace hS := hS.callE hE
        replace hops := hops.mono hE.ext
        replace ho := ho.mono hE.ext
        replace h13 := h13.mono hE.ext
        replace hx := hx.mono hE.ext
        replace h30 := h30.mono hE.ext
        refine qq hS (g_move _) ?_
        refine qq hS (g_extract rfl rfl) ?_
        refine qq hS (g_extract (v := .int .i64 _) rfl rfl) ?_
        refine qq hS (g_assign _) ?_
        refine qq hS (g_assignv (v := .int .i64 _) rfl) ?_
        refine ol_nil (thenN ?_)
        refine wpIn_seq ?_
        refine wpIn_seq ?_
        refine reg ?_
        refine qq hS (g_movev (v := .int .i64 _) rfl) ?_
        refine qq hS (g_neq rfl rfl) ?_
        refine qq hS (g_movev (v := .bool _) rfl) ?_
        refine qu rfl rfl hS (fun hg => (g_fieldAddr (o' := 0) Tryz.underlying26 rfl Tryz.sizeOf4 rfl rfl rfl)) ?_
        intro u45 hu45 hn45
        refine qu rfl rfl hS (fun hg => (g_ldO1 1 Tryz.isAgg4 rfl (hu45 hg) rfl)) ?_
        intro u46 hu46 hn46
        refine qu rfl rfl hS (fun hg => (g_not (hu46 hg))) ?_
        intro u47 hu47 hn47
        refine qq hS (g_or rfl rfl (fun hq => hu47 hq)) ?_
        refine ol_nil (thenN ?_)
        refine cond_s rfl ?_ ?_
        ·
          intro hc48
          clear hu45 hn45 hu46 hn46 hu47 hn47
          have hq : eQ ≠ 0 := by intro h; rw [h] at hc48; simp [hl] at hc48
          rw [if_neg hq] at hR
          obtain ⟨rfl, rfl⟩ := Prod.mk.inj hR
          refine wpIn_seq ?_
          refine reg ?_
          refine qq hS (g_move _) ?_
          refine qq hS (g_movev (v := .int .i64 _) rfl) ?_
          refine qq hS (g_assign _) ?_
          refine qq hS (g_assignv (v := .int .i64 _) rfl) ?_
          refine ol_nil (thenN ?_)
          refine wpIn_ret ?_
          refine thenR ?_
          refine ret2 Tryz.results10 (rv_tmp rfl) (rv_tmp (v := .int .i64 _) rfl) ?_
          first | exact ⟨_, none, 0, rfl, hS.nil, RFl.nil⟩ | exact ⟨_, a39, c39, rfl, hS.nil, h39⟩ | exact ⟨_, a59, c59, rfl, hS.nil, h59⟩
        ·
          intro hc48
          clear hu45 hn45 hu46 hn46 hu47 hn47
          have hq : eQ = 0 := by simp [hl] at hc48; exact hc48
          rw [if_pos hq] at hR
          obtain ⟨y, ey, hy⟩ : ∃ y e, readR Q = (y, e) := ⟨_, _, rfl⟩
          have hyb := readR_x hQb
          rw [hy] at hR hyb
          dsimp only at hR hyb
          refine wpIn_skip ?_
          refine thenN ?_
          refine wpIn_seq ?_
          refine reg ?_
          refine qq hS (g_move _) ?_
          refine qe (d_call Tryz.call36 rfl (lread_c Q a39 c39 y ey _ _ hS.imm h39 hQb hy)) ?_
          rintro _ w_11 ⟨I_f, a0y, c0y, a1y, c1y, a2y, c2y, rfl, hE, h53⟩
          replace hS := hS.callE hE
          replace hops := hops.mono hE.ext
          replace ho := ho.mono hE.ext
          replace h13 := h13.mono hE.ext
          replace hx := hx.mono hE.ext
          replace h30 := h30.mono hE.ext
          replace h39 := h39.mono hE.ext
          refine qq hS (g_move _) ?_
          refine qq hS (g_extract rfl rfl) ?_
          refine qq hS (g_extract (v := .int .i64 _) rfl rfl) ?_
          refine qe (d_alloc (cs := [.slice _ _ _, .slice _ _ _, .slice _ _ _]) hS Tryz.zeroValue76 rfl) ?_
          clear hS
          rintro _ w_12 ⟨b11, rfl, hS⟩
          refine qe (d_store 0 hS Tryz.sizeOf76 rfl rfl rfl (vs := [.slice _ _ _, .slice _ _ _, .slice _ _ _]) rfl rfl rfl (Nat.le_of_ble_eq_true rfl) (cs' := [_, _, _]) rfl) ?_
          clear hS
          rintro _ w_13 ⟨rfl, hS⟩
          refine qq hS (g_assignv (v := .int .i64 _) rfl) ?_
          refine ol_nil (thenN ?_)
          refine wpIn_seq ?_
          refine wpIn_seq ?_
          refine reg ?_
          refine qq hS (g_movev (v := .int .i64 _) rfl) ?_
          refine qq hS (g_neq rfl rfl) ?_
          refine ol_nil (thenN ?_)
          refine cond_s rfl ?_ ?_
          ·
            intro hc57
            try simp only [Bool.and_eq_true, Bool.or_eq_true, Bool.not_eq_true', Bool.and_eq_false_imp, Bool.or_eq_false_iff, Bool.not_eq_false', decide_eq_true_eq, decide_eq_false_iff_not] at hc57
            rw [if_neg hc57] at hR
            obtain ⟨rfl, rfl⟩ := Prod.mk.inj hR
            refine wpIn_seq ?_
            refine reg ?_
            refine qq hS (g_assign _) ?_
            refine qq hS (g_assignv (v := .int .i64 _) rfl) ?_
            refine ol_nil (thenN ?_)
            refine wpIn_ret ?_
            refine thenR ?_
            refine ret2 Tryz.results10 (rv_tmp rfl) (rv_tmp (v := .int .i64 _) rfl) ?_
            first | exact ⟨_, none, 0, rfl, hS.nil, RFl.nil⟩ | exact ⟨_, a39, c39, rfl, hS.nil, h39⟩ | exact ⟨_, a59, c59, rfl, hS.nil, h59⟩
          ·
            intro hc57
            try simp only [Bool.and_eq_true, Bool.or_eq_true, Bool.not_eq_true', Bool.and_eq_false_imp, Bool.or_eq_false_iff, Bool.not_eq_false', decide_eq_true_eq, decide_eq_false_iff_not] at hc57
            rw [if_pos hc57] at hR
            refine wpIn_skip ?_
            refine thenN ?_
            refine wpIn_seq ?_
            refine reg ?_
            refine qq hS (g_ldO 0 (vs := [.slice _ _ _, .slice _ _ _, .slice _ _ _]) Tryz.sizeOf76 Tryz.isAgg76 rfl rfl rfl rfl) ?_
            refine qe (d_call Tryz.call37 rfl (lowerL_c y a0y a1y a2y c0y c1y c2y R e _ _ hS.imm h53 hyb.1 hyb.2 hR)) ?_
            rintro _ w_14 ⟨I_f, a59, c59, rfl, hE, h59⟩
            replace hS := hS.callE hE
            replace hops := hops.mono hE.ext
            replace ho := ho.mono hE.ext
            replace h13 := h13.mono hE.ext
            replace hx := hx.mono hE.ext
            replace h30 := h30.mono hE.ext
            replace h39 := h39.mono hE.ext
            replace h53 := h53.mono hE.ext
            refine qq hS (g_extract rfl rfl) ?_
            refine qq hS (g_extract (v := .int .i64 _) rfl rfl) ?_
            refine qq hS (g_assign _) ?_
            refine qq hS (g_assignv (v := .int .i64 _) rfl) ?_
            refine ol_nil (thenN ?_)
            refine wpIn_ret ?_
            refine ret2 Tryz.results10 (rv_tmp rfl) (rv_tmp (v := .int .i64 _) rfl) ?_
            first | exact ⟨_, none, 0, rfl, hS.nil, RFl.nil⟩ | exact ⟨_, a39, c39, rfl, hS.nil, h39⟩ | exact ⟨_, a59, c59, rfl, hS.nil, h59⟩

end Go.Proofs.YtaklmbhfmpdinaaGreatDoor

