/- merge.Touched, Read, Clashes, Merge, Commute: what they compute. Conditions: numbers within bounds. -/
import Derived.Test.YtodopmclnklgdaaGreatLoad
import Derived.Test.YtodopmclnklgdaaGreatLaw1
namespace Go.Proofs.YtodopmclnklgdaaGreat
open Go Go.RowKit Go.Inl
set_option linter.unusedSimpArgs false
set_option linter.unusedVariables false
theorem evs_one {evs : List EvL} {p : PatL} (h : evs.map (·.p) = [p]) : ∃ e, evs = [e] ∧ e.p = p := by
  match evs, h with
  | [e], h => exact ⟨e, rfl, by simpa using h⟩
  | [], h => simp at h
  | _ :: _ :: _, h => simp at h
theorem evs_two {evs : List EvL} {p q : PatL} (h : evs.map (·.p) = [p, q]) : ∃ e f, evs = [e, f] ∧ e.p = p ∧ f.p = q := by
  match evs, h with
  | [e, f], h => simp at h; exact ⟨e, f, rfl, h.1, h.2⟩
  | [], h => simp at h
  | [_], h => simp at h
  | _ :: _ :: _ :: _, h => simp at h
theorem checkM_all {l : List PatL} (h : checkM l = 0) : (∀ p ∈ l, (checkP p).2 = 0) ∧ (∀ p ∈ l, p.lifted = (l.headD PatL.zero).lifted) ∧ ∀ p ∈ l, p.in_ = p.out ∧ p.in_ = (l.headD PatL.zero).in_ := by
  unfold checkM at h
  split at h
  · cases h
  · rename_i h1
    split at h
    · cases h
    · rename_i h2
      split at h
      · cases h
      · rename_i h3
        simp only [Bool.not_eq_true, List.any_eq_false] at h1 h2 h3
        refine ⟨fun p hp => by simpa using h1 p hp, fun p hp => by simpa using h2 p hp, fun p hp => ?_⟩
        have := h3 p hp
        unfold evenQ at this
        simpa using this
theorem symsP_len {p : PatL} (h : (checkP p).2 = 0) : ((symsP p).length : Int) = p.out := (checkP_ok h).2.1
theorem symsP_wf {p : PatL} (hp : p.wf) (h : (checkP p).2 = 0) : ∀ s ∈ symsP p, s.wf := by
  intro s hs
  refine symsOf_wf hp s ?_
  rw [symbolsP_ok h]; exact hs
theorem marksIt (N : Nat) (f : Nat → Bool) (va : Value) (b c : Nat) (I0 : Imm) (hb : atI I0 ⟨b, 0, none⟩ [va]) (hc : atI I0 ⟨c, 0, none⟩ [.func (.func 69) #[] [].toArray]) (hl : RBools I0 va (marks N f)) :
    IterC Tryz.prog 112 [.pointer (some ⟨b, 0, none⟩), .pointer (some ⟨c, 0, none⟩)] (plA (plc N f)) (plc N f).length I0 := by
  have h := placesB_it (marks N f) va b c 69 [] f I0 hb hc hl Tryz.call69 (fun I i x w hx _ hs => by
    have hi : i < N := by have := (List.getElem?_eq_some_iff.1 hx).1; rwa [marks_len] at this
    rw [marks_at hi] at hx
    obtain rfl := Option.some.inj hx
    exact set_c i (f i) w I hs)
  rw [marks_len] at h; exact h
theorem plc_bd {N : Nat} {f : Nat → Bool} (h : N ≤ 65536) : (∀ i ∈ plc N f, i < 65536) ∧ (plc N f).length ≤ 65536 := by
  refine ⟨fun i hi => ?_, ?_⟩
  · have := (mem_plc.1 hi).1; omega
  · have := plc_le N f; omega
theorem mergeS_wf {s t : List Sym} (hl : s.length = t.length) (hs : ∀ x ∈ s, x.wf) (ht : ∀ x ∈ t, x.wf) : ∀ x ∈ mergeS s t, x.wf := by
  intro x hx
  obtain ⟨i, hi, rfl⟩ := List.mem_map.1 hx
  have hit := List.mem_range.1 hi
  have k1 : sAt s i ∈ s := by
    unfold sAt
    rw [List.getD_eq_getElem?_getD, List.getElem?_eq_getElem (by omega)]
    exact List.getElem_mem _
  have k2 : sAt t i ∈ t := by
    unfold sAt
    rw [List.getD_eq_getElem?_getD, List.getElem?_eq_getElem hit]
    exact List.getElem_mem _
  split
  · exact hs _ k1
  · exact ht _ k2
theorem cheap_lift {b : Bool} {p : PatL} (h : p.wf) : PatL.wf { p with lifted := b } := ⟨h.in_, h.out, h.ops, h.len⟩
theorem two_wf {p q : PatL} (hp : p.wf) (hq : q.wf) : ∀ x ∈ [p, q], x.wf := by
  intro x hx
  simp only [List.mem_cons, List.not_mem_nil, or_false] at hx
  rcases hx with rfl | rfl
  · exact hp
  · exact hq
theorem slN {α : Type} {I : Imm} {sz : Nat} {enc : α → List Value} {v : Value} {xs : List α} {N : Nat} (h : RFl I sz enc v xs) (hn : xs.length = N) : ∃ a c, v = .slice a N c := by
  obtain ⟨a, c, e⟩ := RSl.sl h
  exact ⟨a, c, by rw [← hn]; exact e⟩
theorem newB_up {I0 I : Imm} {w0 w : World} {v : Value} (hs : Inl.Sub I0 I) (hz : w0.heap.size ≤ w.heap.size) (h : NewB I w v) : NewB I0 w0 v := newB_of hs fun b hb => ⟨(h b hb).1, Nat.le_trans hz (h b hb).2⟩
theorem disturbs_yes {S T : List Sym} {N i : Nat} (hS : S.length = N) (hT : T.length = N) (hi : i < N ∧ touched S i = true) (h : (touched T i || readUp T N i) = true) : disturbs S T = true := by
  unfold disturbs
  rw [hS, hT]
  exact List.any_eq_true.2 ⟨i, List.mem_range.2 hi.1, by rw [hi.2, Bool.true_and]; exact h⟩
theorem disturbs_no {S T : List Sym} {N : Nat} (hS : S.length = N) (hT : T.length = N) (h : ∀ i ∈ plc N (touched S), (touched T i || readUp T N i) = false) : disturbs S T = false := by
  unfold disturbs
  rw [hS, hT, List.any_eq_false]
  intro i hi
  cases hf : touched S i with
  | false => simp
  | true => rw [h i (mem_plc.2 ⟨List.mem_range.1 hi, hf⟩)]; decide
theorem form_wf {p : PatL} (hp : p.wf) : (formP p).1.wf := by
  unfold formP
  split
  · dsimp only
    split
    · have h := cheapP_wf (n := p.in_) (symsOf_wf hp)
      exact ⟨h.in_, h.out, h.ops, h.len⟩
    · exact cheapP_wf (symsOf_wf hp)
  · exact zero_wf
theorem form_E (p : PatL) (A : PatL) (e : Int) (ad : Option Addr) (m cap : Nat) (w0 : World) (I0 : Imm) (hI : Sat I0 w0) (hops : ROps I0 (.slice ad m cap) p.ops) (hp : p.wf) (he : formP p = (A, e)) :
    Ctr Tryz.prog 14 [.agg #[.bool p.lifted, .int .i64 p.in_, .int .i64 p.out, .slice ad m cap]] w0 (fun v w' => ∃ I' a m c, v = .tuple #[.agg #[.bool A.lifted, .int .i64 A.in_, .int .i64 A.out, .slice a m c], .int .i64 e] ∧ Ext w0 I0 w' I' ∧ ROps I' (.slice a m c) A.ops) := by
  have h := form_c p ad m cap w0 I0 hI hops hp
  rw [he] at h
  exact h

set_option maxHeartbeats 1000000 in
theorem touched_E (p : PatL) (ad : Option Addr) (m cap : Nat) (A : List (Int × Int) × Int) (w0 : World) (I0 : Imm) (hI : Sat I0 w0) (hp : p.wf) (hpo : ROps I0 (.slice ad m cap) p.ops) (he : touchedP p = A) :
    Ctr Tryz.prog 26 [.agg #[.bool p.lifted, .int .i64 p.in_, .int .i64 p.out, .slice ad m cap]] w0 (fun v w' => ∃ I' a c, v = .tuple #[.slice a A.1.length c, .int .i64 A.2] ∧ Ext w0 I0 w' I' ∧ RRgs I' (.slice a A.1.length c) A.1) := by
  refine fn (n := 21) Tryz.func26 rfl rfl rfl ?_
  have hS := St.start hI
  refine wpIn_seq ?_
  refine reg ?_
  refine qe (d_box (cs := [.bool _, .int .i64 _, .int .i64 _, .slice _ _ _]) hS rfl) ?_
  clear hS
  rintro _ w_1 ⟨b1, rfl, hS⟩
  refine qq hS (g_assign _) ?_
  refine qq hS (g_assignv (v := .int .i64 _) rfl) ?_
  refine ol_nil (thenN ?_)
  refine wpIn_seq ?_
  refine reg ?_
  refine qq hS (g_ldO 0 (vs := [.bool _, .int .i64 _, .int .i64 _, .slice _ _ _]) Tryz.sizeOf29 Tryz.isAgg29 rfl rfl rfl rfl) ?_
  refine qe (d_lit (vs := [.agg #[.bool _, .int .i64 _, .int .i64 _, .slice _ _ _]]) (cs := [.bool _, .int .i64 _, .int .i64 _, .slice _ _ _]) hS Tryz.underlying42 Tryz.sizeOf29 Tryz.zeroValue29 rfl rfl rfl rfl (fun v hv => by simp only [List.mem_cons, List.not_mem_nil, or_false] at hv; subst hv; rfl) rfl) ?_
  clear hS
  rintro _ w_2 ⟨b8, rfl, hS⟩
  have hF := hS.freeze1
  clear hS
  obtain ⟨I8, hS, hI8, hb8⟩ := hF
  replace hpo := hpo.mono hI8
  have h8 : RPats _ (.slice (some ⟨b8, 0, none⟩) 1 1) [p] := RSl.ofAt (css := [[.bool p.lifted, .int .i64 p.in_, .int .i64 p.out, .slice ad m cap]]) hb8 rfl (by simp) (All2.cons ⟨_, _, _, rfl, hpo⟩ (All2.nil _)) rfl (by show 1 ≤ maxLen; decide)
  refine qe (d_call Tryz.call66 rfl (load_c [p] (some ⟨b8, 0, none⟩) 1 _ _ hS.imm h8 (by simpa using hp) (by simp) (by simp))) ?_
  rintro _ w_3 ⟨I9, a9, n9, c9, evs, rfl, hE, hok⟩
  replace hS := hS.callE hE
  replace hpo := hpo.mono hE.ext
  replace h8 := h8.mono hE.ext
  refine qq hS (g_move _) ?_
  refine qq hS (g_extract rfl rfl) ?_
  refine qq hS (g_extract (v := .int .i64 _) rfl rfl) ?_
  refine qq hS (g_assign _) ?_
  refine qq hS (g_assignv (v := .int .i64 _) rfl) ?_
  refine ol_nil (thenN ?_)
  refine wpIn_seq ?_
  refine wpIn_seq ?_
  refine reg ?_
  refine qq hS (g_movev (v := .int .i64 _) rfl) ?_
  refine qq hS (g_neq rfl rfl) ?_
  refine ol_nil (thenN ?_)
  refine cond_s rfl ?_ ?_
  ·
    intro hc13
    try simp only [Bool.and_eq_true, Bool.or_eq_true, Bool.not_eq_true', Bool.and_eq_false_imp, Bool.or_eq_false_iff, Bool.not_eq_false', decide_eq_true_eq, decide_eq_false_iff_not] at hc13
    have e : A = ([], checkM [p]) := by rw [← he]; unfold touchedP; rw [if_pos hc13]
    subst e
    refine wpIn_seq ?_
    refine reg ?_
    refine qq hS (g_movev (v := .int .i64 _) rfl) ?_
    refine qq hS (g_assign _) ?_
    refine qq hS (g_assignv (v := .int .i64 _) rfl) ?_
    refine ol_nil (thenN ?_)
    refine wpIn_ret ?_
    refine thenR ?_
    refine ret2 Tryz.results26 (rv_tmp rfl) (rv_tmp (v := .int .i64 _) rfl) ?_
    exact ⟨_, none, 0, rfl, hS.nil, RFl.nil⟩
  ·
    intro hc13
    try simp only [Bool.and_eq_true, Bool.or_eq_true, Bool.not_eq_true', Bool.and_eq_false_imp, Bool.or_eq_false_iff, Bool.not_eq_false', decide_eq_true_eq, decide_eq_false_iff_not] at hc13
    obtain ⟨rfl, hok⟩ := hok hc13
    obtain ⟨e, rfl, hep⟩ := evs_one hok.ld.ps
    obtain ⟨eq, ao, mo, co, vs, vt, vr⟩ := e
    dsimp only at hep
    subst hep
    have hck := checkM_all hc13
    have hcp := hck.1 eq (by simp)
    have hNl := symsP_len hcp
    have hb6 := (checkP_ok hcp)
    have ht2 := hok.ld.two 0 _ (by simp) rfl
    have ht := ht2.touches
    have hr := ht2.reads
    dsimp only at ht hr
    obtain ⟨N, hN⟩ : ∃ N, (symsP eq).length = N := ⟨_, rfl⟩
    rw [hN] at ht hr hNl
    have hN6 : N ≤ 65536 := by omega
    obtain ⟨hpb1, hpb2⟩ := plc_bd (f := (touched (symsP eq))) hN6
    obtain ⟨at_, ct, rfl⟩ := RSl.sl ht
    obtain ⟨ar, cr, rfl⟩ := RSl.sl hr
    simp only [marks_len] at ht hr hok ⊢
    have hrow := hok.row
    have hevA := hrow.at (i := 0) rfl
    have e : A = (rngL (plc N (touched (symsP eq))), 0) := by rw [← he]; unfold touchedP; rw [if_neg (by rw [hc13]; decide), hN]; rfl
    subst e
    refine wpIn_skip ?_
    refine thenN ?_
    refine wpIn_seq ?_
    refine reg ?_
    refine qq hS (g_move _) ?_
    refine qq hS (g_ixI Tryz.underlying118 Tryz.sizeOf126 hrow rfl rfl (by decide) (by simp)) ?_
    refine qq hS (g_fieldE (c' := 5) Tryz.underlying126 rfl Tryz.sizeOf59 rfl rfl rfl) ?_
    refine qq hS (g_ldE1 Tryz.isAgg59 hevA rfl rfl) ?_
    refine qe (d_call Tryz.call68 rfl (placesB_c _ _ _ 69 [] _ _ hS.imm)) ?_
    rintro _ w_4 ⟨I19, b19, c19, rfl, hE, hb19, hc19⟩
    replace hS := hS.callE hE
    replace hpo := hpo.mono hE.ext
    replace h8 := h8.mono hE.ext
    replace ht := ht.mono hE.ext
    replace hr := hr.mono hE.ext
    refine qe (d_call Tryz.call67 rfl (ranges_c (plc N (touched (symsP eq))) 112 [.pointer (some ⟨b19, 0, none⟩), .pointer (some ⟨c19, 0, none⟩)] _ _ hS.imm hpb1 hpb2 Tryz.call112 (marksIt N (touched (symsP eq)) _ _ _ _ hb19 hc19 ht))) ?_
    rintro _ w_5 ⟨I20, a20, c20, rfl, hE, h20⟩
    replace hS := hS.callE hE
    replace hpo := hpo.mono hE.ext
    replace h8 := h8.mono hE.ext
    replace ht := ht.mono hE.ext
    replace hr := hr.mono hE.ext
    replace hb19 := hb19.mono hE.ext
    replace hc19 := hc19.mono hE.ext
    refine qq hS (g_assign _) ?_
    refine qq hS (g_assignv (v := .int .i64 _) rfl) ?_
    refine ol_nil (thenN ?_)
    refine wpIn_ret ?_
    refine ret2 Tryz.results26 (rv_tmp rfl) (rv_tmp (v := .int .i64 _) rfl) ?_
    exact ⟨_, a20, c20, by rw [hc13]; rfl, hS.nil, h20⟩

set_option maxHeartbeats 1000000 in
theorem read_E (p : PatL) (ad : Option Addr) (m cap : Nat) (A : List (Int × Int) × Int) (w0 : World) (I0 : Imm) (hI : Sat I0 w0) (hp : p.wf) (hpo : ROps I0 (.slice ad m cap) p.ops) (he : readP p = A) :
    Ctr Tryz.prog 27 [.agg #[.bool p.lifted, .int .i64 p.in_, .int .i64 p.out, .slice ad m cap]] w0 (fun v w' => ∃ I' a c, v = .tuple #[.slice a A.1.length c, .int .i64 A.2] ∧ Ext w0 I0 w' I' ∧ RRgs I' (.slice a A.1.length c) A.1) := by
  refine fn (n := 21) Tryz.func27 rfl rfl rfl ?_
  have hS := St.start hI
  refine wpIn_seq ?_
  refine reg ?_
  refine qe (d_box (cs := [.bool _, .int .i64 _, .int .i64 _, .slice _ _ _]) hS rfl) ?_
  clear hS
  rintro _ w_1 ⟨b1, rfl, hS⟩
  refine qq hS (g_assign _) ?_
  refine qq hS (g_assignv (v := .int .i64 _) rfl) ?_
  refine ol_nil (thenN ?_)
  refine wpIn_seq ?_
  refine reg ?_
  refine qq hS (g_ldO 0 (vs := [.bool _, .int .i64 _, .int .i64 _, .slice _ _ _]) Tryz.sizeOf29 Tryz.isAgg29 rfl rfl rfl rfl) ?_
  refine qe (d_lit (vs := [.agg #[.bool _, .int .i64 _, .int .i64 _, .slice _ _ _]]) (cs := [.bool _, .int .i64 _, .int .i64 _, .slice _ _ _]) hS Tryz.underlying42 Tryz.sizeOf29 Tryz.zeroValue29 rfl rfl rfl rfl (fun v hv => by simp only [List.mem_cons, List.not_mem_nil, or_false] at hv; subst hv; rfl) rfl) ?_
  clear hS
  rintro _ w_2 ⟨b8, rfl, hS⟩
  have hF := hS.freeze1
  clear hS
  obtain ⟨I8, hS, hI8, hb8⟩ := hF
  replace hpo := hpo.mono hI8
  have h8 : RPats _ (.slice (some ⟨b8, 0, none⟩) 1 1) [p] := RSl.ofAt (css := [[.bool p.lifted, .int .i64 p.in_, .int .i64 p.out, .slice ad m cap]]) hb8 rfl (by simp) (All2.cons ⟨_, _, _, rfl, hpo⟩ (All2.nil _)) rfl (by show 1 ≤ maxLen; decide)
  refine qe (d_call Tryz.call66 rfl (load_c [p] (some ⟨b8, 0, none⟩) 1 _ _ hS.imm h8 (by simpa using hp) (by simp) (by simp))) ?_
  rintro _ w_3 ⟨I9, a9, n9, c9, evs, rfl, hE, hok⟩
  replace hS := hS.callE hE
  replace hpo := hpo.mono hE.ext
  replace h8 := h8.mono hE.ext
  refine qq hS (g_move _) ?_
  refine qq hS (g_extract rfl rfl) ?_
  refine qq hS (g_extract (v := .int .i64 _) rfl rfl) ?_
  refine qq hS (g_assign _) ?_
  refine qq hS (g_assignv (v := .int .i64 _) rfl) ?_
  refine ol_nil (thenN ?_)
  refine wpIn_seq ?_
  refine wpIn_seq ?_
  refine reg ?_
  refine qq hS (g_movev (v := .int .i64 _) rfl) ?_
  refine qq hS (g_neq rfl rfl) ?_
  refine ol_nil (thenN ?_)
  refine cond_s rfl ?_ ?_
  ·
    intro hc13
    try simp only [Bool.and_eq_true, Bool.or_eq_true, Bool.not_eq_true', Bool.and_eq_false_imp, Bool.or_eq_false_iff, Bool.not_eq_false', decide_eq_true_eq, decide_eq_false_iff_not] at hc13
    have e : A = ([], checkM [p]) := by rw [← he]; unfold readP; rw [if_pos hc13]
    subst e
    refine wpIn_seq ?_
    refine reg ?_
    refine qq hS (g_movev (v := .int .i64 _) rfl) ?_
    refine qq hS (g_assign _) ?_
    refine qq hS (g_assignv (v := .int .i64 _) rfl) ?_
    refine ol_nil (thenN ?_)
    refine wpIn_ret ?_
    refine thenR ?_
    refine ret2 Tryz.results27 (rv_tmp rfl) (rv_tmp (v := .int .i64 _) rfl) ?_
    exact ⟨_, none, 0, rfl, hS.nil, RFl.nil⟩
  ·
    intro hc13
    try simp only [Bool.and_eq_true, Bool.or_eq_true, Bool.not_eq_true', Bool.and_eq_false_imp, Bool.or_eq_false_iff, Bool.not_eq_false', decide_eq_true_eq, decide_eq_false_iff_not] at hc13
    obtain ⟨rfl, hok⟩ := hok hc13
    obtain ⟨e, rfl, hep⟩ := evs_one hok.ld.ps
    obtain ⟨eq, ao, mo, co, vs, vt, vr⟩ := e
    dsimp only at hep
    subst hep
    have hck := checkM_all hc13
    have hcp := hck.1 eq (by simp)
    have hNl := symsP_len hcp
    have hb6 := (checkP_ok hcp)
    have ht2 := hok.ld.two 0 _ (by simp) rfl
    have ht := ht2.touches
    have hr := ht2.reads
    dsimp only at ht hr
    obtain ⟨N, hN⟩ : ∃ N, (symsP eq).length = N := ⟨_, rfl⟩
    rw [hN] at ht hr hNl
    have hN6 : N ≤ 65536 := by omega
    obtain ⟨hpb1, hpb2⟩ := plc_bd (f := (readUp (symsP eq) N)) hN6
    obtain ⟨at_, ct, rfl⟩ := RSl.sl ht
    obtain ⟨ar, cr, rfl⟩ := RSl.sl hr
    simp only [marks_len] at ht hr hok ⊢
    have hrow := hok.row
    have hevA := hrow.at (i := 0) rfl
    have e : A = (rngL (plc N (readUp (symsP eq) N)), 0) := by rw [← he]; unfold readP; rw [if_neg (by rw [hc13]; decide), hN]; rfl
    subst e
    refine wpIn_skip ?_
    refine thenN ?_
    refine wpIn_seq ?_
    refine reg ?_
    refine qq hS (g_move _) ?_
    refine qq hS (g_ixI Tryz.underlying118 Tryz.sizeOf126 hrow rfl rfl (by decide) (by simp)) ?_
    refine qq hS (g_fieldE (c' := 6) Tryz.underlying126 rfl Tryz.sizeOf59 rfl rfl rfl) ?_
    refine qq hS (g_ldE1 Tryz.isAgg59 hevA rfl rfl) ?_
    refine qe (d_call Tryz.call68 rfl (placesB_c _ _ _ 69 [] _ _ hS.imm)) ?_
    rintro _ w_4 ⟨I19, b19, c19, rfl, hE, hb19, hc19⟩
    replace hS := hS.callE hE
    replace hpo := hpo.mono hE.ext
    replace h8 := h8.mono hE.ext
    replace ht := ht.mono hE.ext
    replace hr := hr.mono hE.ext
    refine qe (d_call Tryz.call67 rfl (ranges_c (plc N (readUp (symsP eq) N)) 112 [.pointer (some ⟨b19, 0, none⟩), .pointer (some ⟨c19, 0, none⟩)] _ _ hS.imm hpb1 hpb2 Tryz.call112 (marksIt N (readUp (symsP eq) N) _ _ _ _ hb19 hc19 hr))) ?_
    rintro _ w_5 ⟨I20, a20, c20, rfl, hE, h20⟩
    replace hS := hS.callE hE
    replace hpo := hpo.mono hE.ext
    replace h8 := h8.mono hE.ext
    replace ht := ht.mono hE.ext
    replace hr := hr.mono hE.ext
    replace hb19 := hb19.mono hE.ext
    replace hc19 := hc19.mono hE.ext
    refine qq hS (g_assign _) ?_
    refine qq hS (g_assignv (v := .int .i64 _) rfl) ?_
    refine ol_nil (thenN ?_)
    refine wpIn_ret ?_
    refine ret2 Tryz.results27 (rv_tmp rfl) (rv_tmp (v := .int .i64 _) rfl) ?_
    exact ⟨_, a20, c20, by rw [hc13]; rfl, hS.nil, h20⟩

set_option maxHeartbeats 1000000 in
theorem clash1_c (p0 p1 p2 p3 vs vt vr q0 q1 q2 q3 us ut ur : Value) (S T : List Sym) (N i b2 b3 : Nat) (x : Sym) (w0 : World) (I0 : Imm) (hI : Sat I0 w0) (h2 : atI I0 ⟨b2, 0, none⟩ [p0, p1, p2, p3, vs, vt, vr]) (h3 : atI I0 ⟨b3, 0, none⟩ [q0, q1, q2, q3, us, ut, ur]) (ht : RBools I0 vt (marks N (touched S))) (hu : RBools I0 ut (marks N (touched T)))
    (hs : RSyms I0 us T) (hT : T.length = N) (hx : S[i]? = some x) (hi : i < N) :
    Ctr Tryz.prog 118 [.int .i64 (i : Nat), symV x, .pointer (some ⟨b2, 0, none⟩), .pointer (some ⟨b3, 0, none⟩)] w0 (fun v w' => v = .bool (clashAt S T i) ∧ Ext w0 I0 w' I0) := by
  have htA := ht.at (marks_at hi)
  have huA := hu.at (marks_at hi)
  obtain ⟨y, hy⟩ : ∃ y, T[i]? = some y := ⟨_, List.getElem?_eq_getElem (by omega)⟩
  have hsA := hs.at hy
  have htl := marks_len N (touched S)
  have hul := marks_len N (touched T)
  refine fn (n := 28) Tryz.func118 rfl rfl rfl ?_
  have hS := St.start hI
  refine wpIn_seq ?_
  refine reg ?_
  refine qe (d_box (cs := [.bool _, .int .i64 _, .int .u8 _]) hS rfl) ?_
  clear hS
  rintro _ w_1 ⟨b5, rfl, hS⟩
  refine qq hS (g_assignv (v := .bool _) rfl) ?_
  refine ol_nil (thenN ?_)
  refine wpIn_seq ?_
  refine draw (.cons 0 .pure (.cons 1 .held (.cons 2 .pure (.cons 3 .pure (.cons 4 .held (.cons 5 .pure (.cons 6 .pure (.cons 7 .held (.cons 8 .pure (.cons 9 .pure (.cons 10 .held (.cons 11 .pure (.cons 12 .pure (.cons 13 .held (.cons 14 .pure (.cons 15 .held (.cons 16 .pure (.cons 17 .pure (.cons 18 .held (.cons 19 .pure (.cons 20 .pure (.cons 21 .pure .nil)))))))))))))))))))))) mixed (by kernel_rfl) hS ?_
  intro w_2 hS
  refine sp rfl (g_fieldAddr (o' := 5) Tryz.underlying126 rfl Tryz.sizeOf59 rfl rfl rfl) ?_
  refine sh rfl (g_ldB1 (c := 5) Tryz.isAgg59 h2 rfl rfl) ?_
  refine sp rfl (g_movev (v := .int .i64 _) rfl) ?_
  refine sp rfl (g_ixI Tryz.underlying59 Tryz.sizeOf4 ht rfl rfl (by omega) (by omega)) ?_
  refine sh rfl (g_ldE1 Tryz.isAgg4 htA rfl rfl) ?_
  refine sp rfl (g_movev (v := .bool _) rfl) ?_
  refine spu rfl rfl rfl (fun hg => (g_fieldAddr (o' := 5) Tryz.underlying126 rfl Tryz.sizeOf59 rfl rfl rfl)) ?_
  intro u13 hu13 hn13
  refine shu rfl rfl rfl (fun hg => (g_ldB1 (c := 5) Tryz.isAgg59 h3 (hu13 hg) rfl)) ?_
  intro u14 hu14 hn14
  refine spu rfl rfl rfl (fun hg => (g_movev (v := .int .i64 _) rfl)) ?_
  intro u15 hu15 hn15
  refine spu rfl rfl rfl (fun hg => (g_ixI Tryz.underlying59 Tryz.sizeOf4 hu (hu14 hg) (hu15 hg) (by omega) (by omega))) ?_
  intro u16 hu16 hn16
  refine shu rfl rfl rfl (fun hg => (g_ldE1 Tryz.isAgg4 huA (hu16 hg) rfl)) ?_
  intro u17 hu17 hn17
  refine sp rfl (g_and rfl rfl (fun hq => hu17 hq)) ?_
  refine sp rfl (g_movev (v := .bool _) rfl) ?_
  refine shu rfl rfl rfl (fun hg => (g_ldO 0 (vs := [.bool _, .int .i64 _, .int .u8 _]) Tryz.sizeOf81 Tryz.isAgg81 rfl rfl rfl rfl)) ?_
  intro u20 hu20 hn20
  refine spu rfl rfl rfl (fun hg => (g_fieldAddr (o' := 4) Tryz.underlying126 rfl Tryz.sizeOf83 rfl rfl rfl)) ?_
  intro u21 hu21 hn21
  refine shu rfl rfl rfl (fun hg => (g_ldB1 (c := 4) Tryz.isAgg83 h3 (hu21 hg) rfl)) ?_
  intro u22 hu22 hn22
  refine spu rfl rfl rfl (fun hg => (g_movev (v := .int .i64 _) rfl)) ?_
  intro u23 hu23 hn23
  refine spu rfl rfl rfl (fun hg => (g_ixI Tryz.underlying83 Tryz.sizeOf81 hs (hu22 hg) (hu23 hg) (by omega) (by omega))) ?_
  intro u24 hu24 hn24
  refine shu rfl rfl rfl (fun hg => (g_ldE (us := [.bool _, .int .i64 _, .int .u8 _]) Tryz.sizeOf81 Tryz.isAgg81 hsA (hu24 hg) rfl rfl)) ?_
  intro u25 hu25 hn25
  refine spu rfl rfl rfl (fun hg => (neqSym x y (hu20 hg) (hu25 hg))) ?_
  intro u26 hu26 hn26
  refine sp rfl (g_and rfl rfl (fun hq => hu26 hq)) ?_
  refine sp rfl (g_assignv (v := .bool _) rfl) ?_
  refine sn (thenN ?_)
  refine wpIn_ret ?_
  refine ret1 Tryz.results118 (rv_tmp (v := .bool _) rfl) ?_
  exact ⟨by unfold clashAt; rw [sAt_of hx, sAt_of hy], hS.nil⟩

set_option maxHeartbeats 1000000 in
theorem clashes_c (l1 l2 : Bool) (i1 o1 i2 o2 : Int) (p3 vt vr q3 us ut ur : Value) (a_s : Option Addr) (cs N : Nat) (S T : List Sym) (w0 : World) (I0 : Imm) (hI : Sat I0 w0) (hv : RSyms I0 (.slice a_s N cs) S) (ht : RBools I0 vt (marks N (touched S))) (hu : RBools I0 ut (marks N (touched T))) (hs : RSyms I0 us T) (hSl : S.length = N) (hT : T.length = N) (hN : N ≤ 65536) :
    Ctr Tryz.prog 73 [.agg #[.bool l1, .int .i64 i1, .int .i64 o1, p3, .slice a_s N cs, vt, vr], .agg #[.bool l2, .int .i64 i2, .int .i64 o2, q3, us, ut, ur]] w0 (fun v w' => ∃ I' a c, v = .slice a (clashL S T).length c ∧ Ext w0 I0 w' I' ∧ RRgs I' (.slice a (clashL S T).length c) (clashL S T)) := by
  subst hSl
  obtain ⟨hpb1, hpb2⟩ := plc_bd (f := clashAt S T) hN
  refine fn (n := 10) Tryz.func73 rfl rfl rfl ?_
  have hS := St.start hI
  refine wpIn_seq ?_
  refine reg ?_
  refine qe (d_box (cs := [.bool _, .int .i64 _, .int .i64 _, _, _, _, _]) hS rfl) ?_
  clear hS
  rintro _ w_1 ⟨b2, rfl, hS⟩
  refine qe (d_box (cs := [.bool _, .int .i64 _, .int .i64 _, _, _, _, _]) hS rfl) ?_
  clear hS
  rintro _ w_2 ⟨b3, rfl, hS⟩
  refine qq hS (g_assign _) ?_
  refine ol_nil (thenN ?_)
  refine wpIn_seq ?_
  refine reg ?_
  refine qq hS (g_fieldAddr (o' := 4) Tryz.underlying126 rfl Tryz.sizeOf83 rfl rfl rfl) ?_
  refine qq hS (g_ldO1 1 Tryz.isAgg83 rfl rfl rfl) ?_
  refine qq hS (g_makeFuncL ml0 (ml rfl (ml rfl ml0))) ?_
  obtain ⟨I2, hS2, hI2, hb3⟩ := hS.freeze1
  obtain ⟨I3, hS3, hI3, hb2⟩ := hS2.freeze1
  replace hb3 := hb3.mono hI3
  replace hv := hv.mono (hI2.trans hI3)
  replace ht := ht.mono (hI2.trans hI3)
  replace hu := hu.mono (hI2.trans hI3)
  replace hs := hs.mono (hI2.trans hI3)
  clear hS hS2
  replace hS := hS3
  clear hS3
  refine qe (d_call Tryz.call117 rfl (placesS_c _ _ _ 118 [.pointer (some ⟨b2, 0, none⟩), .pointer (some ⟨b3, 0, none⟩)] _ _ hS.imm)) ?_
  rintro _ w_3 ⟨I8, b8, c8, rfl, hE, hb8, hc8⟩
  replace hS := hS.callE hE
  replace hv := hv.mono hE.ext
  replace ht := ht.mono hE.ext
  replace hu := hu.mono hE.ext
  replace hs := hs.mono hE.ext
  replace hb2 := hb2.mono hE.ext
  replace hb3 := hb3.mono hE.ext
  refine qe (d_call Tryz.call67 rfl (ranges_c (plc S.length (clashAt S T)) 145 [.pointer (some ⟨b8, 0, none⟩), .pointer (some ⟨c8, 0, none⟩)] _ _ hS.imm hpb1 hpb2 Tryz.call145 (placesS_it S _ b8 c8 118 [.pointer (some ⟨b2, 0, none⟩), .pointer (some ⟨b3, 0, none⟩)] (clashAt S T) _ hb8 hc8 hv Tryz.call118
              (fun I i x w hx hsb hsat => clash1_c _ _ _ _ _ _ _ _ _ _ _ _ _ _ S T S.length i b2 b3 x w I hsat (hb2.mono hsb) (hb3.mono hsb) (ht.mono hsb) (hu.mono hsb) (hs.mono hsb) hT hx (List.getElem?_eq_some_iff.1 hx).1)))) ?_
  rintro _ w_4 ⟨I9, a9, c9, rfl, hE, h9⟩
  replace hS := hS.callE hE
  replace hv := hv.mono hE.ext
  replace ht := ht.mono hE.ext
  replace hu := hu.mono hE.ext
  replace hs := hs.mono hE.ext
  replace hb2 := hb2.mono hE.ext
  replace hb3 := hb3.mono hE.ext
  replace hb8 := hb8.mono hE.ext
  replace hc8 := hc8.mono hE.ext
  refine qq hS (g_assign _) ?_
  refine ol_nil (thenN ?_)
  refine wpIn_ret ?_
  refine ret1 Tryz.results73 (rv_tmp rfl) ?_
  exact ⟨_, a9, c9, rfl, hS.nil, h9⟩

set_option maxHeartbeats 1000000 in
theorem clashesP_E (p : PatL) (ad : Option Addr) (m cap : Nat) (q : PatL) (bd : Option Addr) (n capb : Nat) (A : List (Int × Int) × Int) (w0 : World) (I0 : Imm) (hI : Sat I0 w0) (hp : p.wf) (hpo : ROps I0 (.slice ad m cap) p.ops) (hq : q.wf) (hqo : ROps I0 (.slice bd n capb) q.ops) (he : clashP p q = A) :
    Ctr Tryz.prog 64 [.agg #[.bool p.lifted, .int .i64 p.in_, .int .i64 p.out, .slice ad m cap], .agg #[.bool q.lifted, .int .i64 q.in_, .int .i64 q.out, .slice bd n capb]] w0 (fun v w' => ∃ I' a c, v = .tuple #[.slice a A.1.length c, .int .i64 A.2] ∧ Ext w0 I0 w' I' ∧ RRgs I' (.slice a A.1.length c) A.1) := by
  refine fn (n := 25) Tryz.func64 rfl rfl rfl ?_
  have hS := St.start hI
  refine wpIn_seq ?_
  refine reg ?_
  refine qe (d_box (cs := [.bool _, .int .i64 _, .int .i64 _, .slice _ _ _]) hS rfl) ?_
  clear hS
  rintro _ w_1 ⟨b2, rfl, hS⟩
  refine qe (d_box (cs := [.bool _, .int .i64 _, .int .i64 _, .slice _ _ _]) hS rfl) ?_
  clear hS
  rintro _ w_2 ⟨b3, rfl, hS⟩
  refine qq hS (g_assign _) ?_
  refine qq hS (g_assignv (v := .int .i64 _) rfl) ?_
  refine ol_nil (thenN ?_)
  refine wpIn_seq ?_
  refine reg ?_
  refine qq hS (g_ldO 1 (vs := [.bool _, .int .i64 _, .int .i64 _, .slice _ _ _]) Tryz.sizeOf29 Tryz.isAgg29 rfl rfl rfl rfl) ?_
  refine qq hS (g_ldO 0 (vs := [.bool _, .int .i64 _, .int .i64 _, .slice _ _ _]) Tryz.sizeOf29 Tryz.isAgg29 rfl rfl rfl rfl) ?_
  refine qe (d_lit (vs := [.agg #[.bool _, .int .i64 _, .int .i64 _, .slice _ _ _], .agg #[.bool _, .int .i64 _, .int .i64 _, .slice _ _ _]]) (cs := [.bool _, .int .i64 _, .int .i64 _, .slice _ _ _, .bool _, .int .i64 _, .int .i64 _, .slice _ _ _]) hS Tryz.underlying42 Tryz.sizeOf29 Tryz.zeroValue29 rfl rfl rfl rfl (fun v hv => by simp only [List.mem_cons, List.not_mem_nil, or_false] at hv; rcases hv with rfl | rfl <;> rfl) rfl) ?_
  clear hS
  rintro _ w_3 ⟨b11, rfl, hS⟩
  have hF := hS.freeze1
  clear hS
  obtain ⟨I11, hS, hI11, hb11⟩ := hF
  replace hpo := hpo.mono hI11
  replace hqo := hqo.mono hI11
  have h11 : RPats _ (.slice (some ⟨b11, 0, none⟩) 2 2) [p, q] := RSl.ofAt (css := [[.bool p.lifted, .int .i64 p.in_, .int .i64 p.out, .slice ad m cap], [.bool q.lifted, .int .i64 q.in_, .int .i64 q.out, .slice bd n capb]]) hb11 rfl (by simp) (All2.two ⟨_, _, _, rfl, hpo⟩ ⟨_, _, _, rfl, hqo⟩) rfl (by show 2 ≤ maxLen; decide)
  refine qe (d_call Tryz.call66 rfl (load_c [p, q] (some ⟨b11, 0, none⟩) 2 _ _ hS.imm h11 (two_wf hp hq) (by simp) (by simp))) ?_
  rintro _ w_4 ⟨I12, a12, n12, c12, evs, rfl, hE, hok⟩
  replace hS := hS.callE hE
  replace hpo := hpo.mono hE.ext
  replace hqo := hqo.mono hE.ext
  replace h11 := h11.mono hE.ext
  refine qq hS (g_move _) ?_
  refine qq hS (g_extract rfl rfl) ?_
  refine qq hS (g_extract (v := .int .i64 _) rfl rfl) ?_
  refine qq hS (g_assign _) ?_
  refine qq hS (g_assignv (v := .int .i64 _) rfl) ?_
  refine ol_nil (thenN ?_)
  refine wpIn_seq ?_
  refine wpIn_seq ?_
  refine reg ?_
  refine qq hS (g_movev (v := .int .i64 _) rfl) ?_
  refine qq hS (g_neq rfl rfl) ?_
  refine ol_nil (thenN ?_)
  refine cond_s rfl ?_ ?_
  ·
    intro hc16
    try simp only [Bool.and_eq_true, Bool.or_eq_true, Bool.not_eq_true', Bool.and_eq_false_imp, Bool.or_eq_false_iff, Bool.not_eq_false', decide_eq_true_eq, decide_eq_false_iff_not] at hc16
    have e : A = ([], checkM [p, q]) := by rw [← he]; unfold clashP; rw [if_pos hc16]
    subst e
    refine wpIn_seq ?_
    refine reg ?_
    refine qq hS (g_movev (v := .int .i64 _) rfl) ?_
    refine qq hS (g_assign _) ?_
    refine qq hS (g_assignv (v := .int .i64 _) rfl) ?_
    refine ol_nil (thenN ?_)
    refine wpIn_ret ?_
    refine thenR ?_
    refine ret2 Tryz.results64 (rv_tmp rfl) (rv_tmp (v := .int .i64 _) rfl) ?_
    exact ⟨_, none, 0, rfl, hS.nil, RFl.nil⟩
  ·
    intro hc16
    try simp only [Bool.and_eq_true, Bool.or_eq_true, Bool.not_eq_true', Bool.and_eq_false_imp, Bool.or_eq_false_iff, Bool.not_eq_false', decide_eq_true_eq, decide_eq_false_iff_not] at hc16
    obtain ⟨rfl, hok⟩ := hok hc16
    obtain ⟨e, f, rfl, hep, hfp⟩ := evs_two hok.ld.ps
    obtain ⟨eq, ao, mo, co, vs, vt, vr⟩ := e
    obtain ⟨fq, bo, no, do_, us, ut, ur⟩ := f
    dsimp only at hep hfp
    subst hep hfp
    have hck := checkM_all hc16
    have hcp := hck.1 eq (by simp)
    have hcq := hck.1 fq (by simp)
    have hlq : fq.lifted = eq.lifted := hck.2.1 fq (by simp)
    have hpe := hck.2.2 eq (by simp)
    have hqe := hck.2.2 fq (by simp)
    have hqi : fq.in_ = eq.in_ := hqe.2
    have hNl := symsP_len hcp
    have hMl := symsP_len hcq
    have hb6 := checkP_ok hcp
    have ht2 := hok.ld.two 0 _ (by simp) rfl
    have hu2 := hok.ld.two 1 _ (by simp) rfl
    have ht := ht2.touches
    have hr := ht2.reads
    have hut := hu2.touches
    have hur := hu2.reads
    have hs1 := (hok.ld.one _ (List.mem_cons_self ..)).1.syms
    have hs2 := (hok.ld.one _ (List.mem_cons_of_mem _ (List.mem_cons_self ..))).1.syms
    have hn2 := (hok.ld.one _ (List.mem_cons_of_mem _ (List.mem_cons_self ..))).2
    have hap := hok.apart _ (List.mem_cons_of_mem _ (List.mem_cons_self ..))
    have hss := hok.ld.ss 0 1 _ _ (by decide) rfl rfl
    have hst := (hok.ld.ts 0 1 _ _ (by simp) rfl rfl).1
    dsimp only at ht hr hut hur hs1 hs2 hn2 hap hss hst
    have hrow := hok.row
    have hevA := hrow.at (i := 0) rfl
    have hevB := hrow.at (i := 1) rfl
    clear ht2 hu2 hok
    obtain ⟨N, hN⟩ : ∃ N, (symsP eq).length = N := ⟨_, rfl⟩
    have hM : (symsP fq).length = N := by omega
    rw [hN] at ht hr hNl hs1
    rw [hM] at hut hur hMl hs2
    have hN6 : N ≤ 65536 := by omega
    have hS1 := hs1.flat symC_len hN.symm
    have hS2 := hs2.flat symC_len hM.symm
    obtain ⟨a_s, cs, rfl⟩ := slN hS1 hN
    obtain ⟨bs, ds, rfl⟩ := slN hS2 hM
    obtain ⟨at_, ct, rfl⟩ := slN ht (marks_len _ _)
    obtain ⟨au, cu, rfl⟩ := slN hut (marks_len _ _)
    obtain ⟨ar, cr, rfl⟩ := slN hr (marks_len _ _)
    obtain ⟨av, cv, rfl⟩ := slN hur (marks_len _ _)
    have e : A = (clashL (symsP eq) (symsP fq), 0) := by rw [← he]; unfold clashP; rw [if_neg (by rw [hc16]; decide)]
    subst e
    refine wpIn_skip ?_
    refine thenN ?_
    refine wpIn_seq ?_
    refine draw (.cons 0 .pure (.cons 1 .pure (.cons 2 .held (.cons 3 .pure (.cons 4 .pure (.cons 5 .held (.cons 6 .eff (.cons 7 .pure (.cons 8 .pure .nil))))))))) mixed (by kernel_rfl) hS ?_
    intro w_5 hS
    refine sp rfl (g_move _) ?_
    refine sp rfl (g_ixI Tryz.underlying118 Tryz.sizeOf126 hrow rfl rfl (by decide) (by simp)) ?_
    refine sh rfl (g_ldE (us := [.bool _, .int .i64 _, .int .i64 _, .slice _ _ _, .slice _ _ _, .slice _ _ _, .slice _ _ _]) Tryz.sizeOf126 Tryz.isAgg126 hevA rfl rfl rfl) ?_
    refine sp rfl (g_move _) ?_
    refine sp rfl (g_ixI Tryz.underlying118 Tryz.sizeOf126 hrow rfl rfl (by decide) (by simp)) ?_
    refine sh rfl (g_ldE (us := [.bool _, .int .i64 _, .int .i64 _, .slice _ _ _, .slice _ _ _, .slice _ _ _, .slice _ _ _]) Tryz.sizeOf126 Tryz.isAgg126 hevB rfl rfl rfl) ?_
    have hS0 := hS
    refine se rfl (d_call Tryz.call73 rfl (clashes_c _ _ _ _ _ _ _ _ _ _ _ _ _ _ _ N (symsP eq) (symsP fq) _ _ hS.imm hS1 ht hut hS2 hN hM hN6)) ?_
    rintro _ w_6 ⟨I24, a24, c24, rfl, hE, h24⟩
    replace hS := hS.call hE
    replace hpo := hpo.mono hE.ext
    replace hqo := hqo.mono hE.ext
    replace h11 := h11.mono hE.ext
    replace hrow := hrow.mono hE.ext
    replace hevA := hevA.mono hE.ext
    replace hevB := hevB.mono hE.ext
    replace hS1 := hS1.mono hE.ext
    replace hS2 := hS2.mono hE.ext
    replace ht := ht.mono hE.ext
    replace hr := hr.mono hE.ext
    replace hut := hut.mono hE.ext
    replace hur := hur.mono hE.ext
    replace hs2 := hs2.mono hE.ext
    refine ⟨_, _, hS0.le hE.ext (List.Sublist.refl _), hS, ?_⟩
    refine sp rfl (g_assign _) ?_
    refine sp rfl (g_assignv (v := .int .i64 _) rfl) ?_
    refine sn (thenN ?_)
    refine wpIn_ret ?_
    refine ret2 Tryz.results64 (rv_tmp rfl) (rv_tmp (v := .int .i64 _) rfl) ?_
    exact ⟨_, a24, c24, rfl, hS.nil, h24⟩

set_option maxHeartbeats 2000000 in
theorem merge_E (p : PatL) (ad : Option Addr) (m cap : Nat) (q : PatL) (bd : Option Addr) (n capb : Nat) (A : PatL × Int) (w0 : World) (I0 : Imm) (hI : Sat I0 w0) (hp : p.wf) (hpo : ROps I0 (.slice ad m cap) p.ops) (hq : q.wf) (hqo : ROps I0 (.slice bd n capb) q.ops) (he : mergeP p q = A) :
    Ctr Tryz.prog 31 [.agg #[.bool p.lifted, .int .i64 p.in_, .int .i64 p.out, .slice ad m cap], .agg #[.bool q.lifted, .int .i64 q.in_, .int .i64 q.out, .slice bd n capb]] w0 (fun v w' => ∃ I' a m c, v = .tuple #[.agg #[.bool A.1.lifted, .int .i64 A.1.in_, .int .i64 A.1.out, .slice a m c], .int .i64 A.2] ∧ Ext w0 I0 w' I' ∧ ROps I' (.slice a m c) A.1.ops) := by
  refine fnM (n := 69) Tryz.func31 rfl rfl rfl ?_
  have hS := St.start hI
  refine wpIn_seq ?_
  refine reg ?_
  refine qe (d_box (cs := [.bool _, .int .i64 _, .int .i64 _, .slice _ _ _]) hS rfl) ?_
  clear hS
  rintro _ w_1 ⟨b2, rfl, hS⟩
  refine qe (d_box (cs := [.bool _, .int .i64 _, .int .i64 _, .slice _ _ _]) hS rfl) ?_
  clear hS
  rintro _ w_2 ⟨b3, rfl, hS⟩
  refine qe (d_alloc (cs := [.bool _, .int .i64 _, .int .i64 _, .slice _ _ _]) hS Tryz.zeroValue29 rfl) ?_
  clear hS
  rintro _ w_3 ⟨b4, rfl, hS⟩
  refine qq hS (g_assignv (v := .int .i64 _) rfl) ?_
  refine ol_nil (thenN ?_)
  refine wpIn_seq ?_
  refine reg ?_
  refine qq hS (g_ldO 2 (vs := [.bool _, .int .i64 _, .int .i64 _, .slice _ _ _]) Tryz.sizeOf29 Tryz.isAgg29 rfl rfl rfl rfl) ?_
  refine qq hS (g_ldO 1 (vs := [.bool _, .int .i64 _, .int .i64 _, .slice _ _ _]) Tryz.sizeOf29 Tryz.isAgg29 rfl rfl rfl rfl) ?_
  refine qe (d_lit (vs := [.agg #[.bool _, .int .i64 _, .int .i64 _, .slice _ _ _], .agg #[.bool _, .int .i64 _, .int .i64 _, .slice _ _ _]]) (cs := [.bool _, .int .i64 _, .int .i64 _, .slice _ _ _, .bool _, .int .i64 _, .int .i64 _, .slice _ _ _]) hS Tryz.underlying42 Tryz.sizeOf29 Tryz.zeroValue29 rfl rfl rfl rfl (fun v hv => by simp only [List.mem_cons, List.not_mem_nil, or_false] at hv; rcases hv with rfl | rfl <;> rfl) rfl) ?_
  clear hS
  rintro _ w_4 ⟨b14, rfl, hS⟩
  have hF := hS.freeze1
  clear hS
  obtain ⟨I14, hS, hI14, hb14⟩ := hF
  replace hpo := hpo.mono hI14
  replace hqo := hqo.mono hI14
  have h14 : RPats _ (.slice (some ⟨b14, 0, none⟩) 2 2) [p, q] := RSl.ofAt (css := [[.bool p.lifted, .int .i64 p.in_, .int .i64 p.out, .slice ad m cap], [.bool q.lifted, .int .i64 q.in_, .int .i64 q.out, .slice bd n capb]]) hb14 rfl (by simp) (All2.two ⟨_, _, _, rfl, hpo⟩ ⟨_, _, _, rfl, hqo⟩) rfl (by show 2 ≤ maxLen; decide)
  have hx15 := hS.ext
  have hz15 := hS.size
  refine qe (d_call Tryz.call66 rfl (load_c [p, q] (some ⟨b14, 0, none⟩) 2 _ _ hS.imm h14 (two_wf hp hq) (by simp) (by simp))) ?_
  rintro _ w_5 ⟨I15, a15, n15, c15, evs, rfl, hE, hok⟩
  replace hS := hS.callE hE
  replace hpo := hpo.mono hE.ext
  replace hqo := hqo.mono hE.ext
  replace h14 := h14.mono hE.ext
  refine qq hS (g_move _) ?_
  refine qq hS (g_extract rfl rfl) ?_
  refine qq hS (g_extract (v := .int .i64 _) rfl rfl) ?_
  refine qe (d_alloc (cs := [.slice _ _ _]) hS Tryz.zeroValue118 rfl) ?_
  clear hS
  rintro _ w_6 ⟨b6, rfl, hS⟩
  refine qe (d_store 0 hS Tryz.sizeOf118 rfl rfl rfl (vs := [.slice _ _ _]) rfl rfl rfl (Nat.le_of_ble_eq_true rfl) (cs' := [_]) rfl) ?_
  clear hS
  rintro _ w_7 ⟨rfl, hS⟩
  refine qq hS (g_assignv (v := .int .i64 _) rfl) ?_
  refine ol_nil (thenN ?_)
  refine wpIn_seq ?_
  refine wpIn_block ?_
  refine wpIn_seq ?_
  refine reg ?_
  refine qq hS (g_movev (v := .int .i64 _) rfl) ?_
  refine qq hS (g_neq rfl rfl) ?_
  refine qq hS (g_assignv (v := .bool _) rfl) ?_
  refine ol_nil (thenN ?_)
  refine cond_s rfl ?_ ?_
  ·
    intro hc18
    simp only [Bool.not_eq_true', decide_eq_false_iff_not, Bool.not_eq_false', decide_eq_true_eq] at hc18
    have e : A = (PatL.zero, checkM [p, q]) := by rw [← he]; unfold mergeP; rw [if_pos hc18]
    subst e
    refine wpIn_seq ?_
    refine reg ?_
    refine qq hS (g_buildv (pl := [(0, 1), (1, 1), (2, 1), (3, 1)]) (cs := [.bool _, .int .i64 _, .int .i64 _, .slice _ _ _]) Tryz.zeroValue29 Tryz.underlying29 (fun w => by simp [Tryz.sizeOf27, Tryz.sizeOf3, Tryz.sizeOf4]) mp0 rfl) ?_
    refine qq hS (g_movev (v := .int .i64 _) rfl) ?_
    refine qe (d_store 1 hS Tryz.sizeOf29 rfl rfl rfl (vs := [.bool _, .int .i64 _, .int .i64 _, .slice _ _ _]) rfl rfl rfl (Nat.le_of_ble_eq_true rfl) (cs' := [_, _, _, _]) rfl) ?_
    clear hS
    rintro _ w_8 ⟨rfl, hS⟩
    refine qq hS (g_assignv (v := .int .i64 _) rfl) ?_
    refine ol_nil (thenN ?_)
    refine wpIn_ret ?_
    refine blkR (thenR ?_)
    refine retM2 Tryz.results31 (rv_cel 1 hS Tryz.sizeOf29 Tryz.isAgg29 rfl rfl rfl) (rv_tmp (v := .int .i64 _) rfl) ?_
    exact ⟨_, none, 0, 0, rfl, hS.nil, RSl.nilR⟩
  ·
    intro hc18
    simp only [Bool.not_eq_true', decide_eq_false_iff_not, Bool.not_eq_false', decide_eq_true_eq] at hc18
    obtain ⟨rfl, hok⟩ := hok hc18
    obtain ⟨e, f, rfl, hep, hfp⟩ := evs_two hok.ld.ps
    obtain ⟨eq, ao, mo, co, vs, vt, vr⟩ := e
    obtain ⟨fq, bo, no, do_, us, ut, ur⟩ := f
    dsimp only at hep hfp
    subst hep hfp
    have hck := checkM_all hc18
    have hcp := hck.1 eq (by simp)
    have hcq := hck.1 fq (by simp)
    have hlq : fq.lifted = eq.lifted := hck.2.1 fq (by simp)
    have hpe := hck.2.2 eq (by simp)
    have hqe := hck.2.2 fq (by simp)
    have hqi : fq.in_ = eq.in_ := hqe.2
    have hNl := symsP_len hcp
    have hMl := symsP_len hcq
    have hb6 := checkP_ok hcp
    have ht2 := hok.ld.two 0 _ (by simp) rfl
    have hu2 := hok.ld.two 1 _ (by simp) rfl
    have ht := ht2.touches
    have hr := ht2.reads
    have hut := hu2.touches
    have hur := hu2.reads
    have hs1 := (hok.ld.one _ (List.mem_cons_self ..)).1.syms
    have hs2 := (hok.ld.one _ (List.mem_cons_of_mem _ (List.mem_cons_self ..))).1.syms
    have hn2 := (hok.ld.one _ (List.mem_cons_of_mem _ (List.mem_cons_self ..))).2
    have hap := hok.apart _ (List.mem_cons_of_mem _ (List.mem_cons_self ..))
    have hss := hok.ld.ss 0 1 _ _ (by decide) rfl rfl
    have hst := (hok.ld.ts 0 1 _ _ (by simp) rfl rfl).1
    dsimp only at ht hr hut hur hs1 hs2 hn2 hap hss hst
    have hrow := hok.row
    have hevA := hrow.at (i := 0) rfl
    have hevB := hrow.at (i := 1) rfl
    clear ht2 hu2 hok
    obtain ⟨N, hN⟩ : ∃ N, (symsP eq).length = N := ⟨_, rfl⟩
    have hM : (symsP fq).length = N := by omega
    rw [hN] at ht hr hNl hs1
    rw [hM] at hut hur hMl hs2
    have hN6 : N ≤ 65536 := by omega
    have hS1 := hs1.flat symC_len hN.symm
    have hS2 := hs2.flat symC_len hM.symm
    obtain ⟨a_s, cs, rfl⟩ := slN hS1 hN
    obtain ⟨bs, ds, rfl⟩ := slN hS2 hM
    obtain ⟨at_, ct, rfl⟩ := slN ht (marks_len _ _)
    obtain ⟨au, cu, rfl⟩ := slN hut (marks_len _ _)
    obtain ⟨ar, cr, rfl⟩ := slN hr (marks_len _ _)
    obtain ⟨av, cv, rfl⟩ := slN hur (marks_len _ _)
    have e0 : A = if clashL (symsP eq) (symsP fq) ≠ [] then (PatL.zero, 110) else if (cheapP (mergeS (symsP eq) (symsP fq)) eq.in_).2 ≠ 0 then (PatL.zero, (cheapP (mergeS (symsP eq) (symsP fq)) eq.in_).2) else ({ (cheapP (mergeS (symsP eq) (symsP fq)) eq.in_).1 with lifted := eq.lifted }, 0) := by rw [← he]; unfold mergeP; rw [if_neg (by rw [hc18]; decide)]
    clear he
    refine wpIn_seq ?_
    refine draw (.cons 0 .held (.cons 1 .pure (.cons 2 .held (.cons 3 .held (.cons 4 .pure (.cons 5 .held (.cons 6 .eff (.cons 7 .pure (.cons 8 .pure (.cons 9 .pure .nil)))))))))) mixed (by kernel_rfl) hS ?_
    intro w_9 hS
    refine sh rfl (g_ldO1 0 Tryz.isAgg118 rfl rfl rfl) ?_
    refine sp rfl (g_ixI Tryz.underlying118 Tryz.sizeOf126 hrow rfl rfl (by decide) (by simp)) ?_
    refine sh rfl (g_ldE (us := [.bool _, .int .i64 _, .int .i64 _, .slice _ _ _, .slice _ _ _, .slice _ _ _, .slice _ _ _]) Tryz.sizeOf126 Tryz.isAgg126 hevA rfl rfl rfl) ?_
    refine sh rfl (g_ldO1 0 Tryz.isAgg118 rfl rfl rfl) ?_
    refine sp rfl (g_ixI Tryz.underlying118 Tryz.sizeOf126 hrow rfl rfl (by decide) (by simp)) ?_
    refine sh rfl (g_ldE (us := [.bool _, .int .i64 _, .int .i64 _, .slice _ _ _, .slice _ _ _, .slice _ _ _, .slice _ _ _]) Tryz.sizeOf126 Tryz.isAgg126 hevB rfl rfl rfl) ?_
    have hS0 := hS
    refine se rfl (d_call Tryz.call73 rfl (clashes_c _ _ _ _ _ _ _ _ _ _ _ _ _ _ _ N (symsP eq) (symsP fq) _ _ hS.imm hS1 ht hut hS2 hN hM hN6)) ?_
    rintro _ w_10 ⟨I30, a30, c30, rfl, hE, h30⟩
    replace hS := hS.call hE
    replace hpo := hpo.mono hE.ext
    replace hqo := hqo.mono hE.ext
    replace h14 := h14.mono hE.ext
    replace hrow := hrow.mono hE.ext
    replace hevA := hevA.mono hE.ext
    replace hevB := hevB.mono hE.ext
    replace hS1 := hS1.mono hE.ext
    replace hS2 := hS2.mono hE.ext
    replace ht := ht.mono hE.ext
    replace hr := hr.mono hE.ext
    replace hut := hut.mono hE.ext
    replace hur := hur.mono hE.ext
    replace hs2 := hs2.mono hE.ext
    refine ⟨_, _, hS0.le hE.ext (List.Sublist.refl _), hS, ?_⟩
    refine sp rfl (g_lenI rfl Tryz.underlying51 h30 rfl) ?_
    refine sp rfl (g_gtr rfl rfl) ?_
    refine sp rfl (g_assignv (v := .bool _) rfl) ?_
    refine sn (thenN ?_)
    refine cond_s rfl ?_ ?_
    ·
      intro hc23
      try simp only [Bool.and_eq_true, Bool.or_eq_true, Bool.not_eq_true', Bool.and_eq_false_imp, Bool.or_eq_false_iff, Bool.not_eq_false', decide_eq_true_eq, decide_eq_false_iff_not] at hc23
      have e : A = (PatL.zero, 110) := by rw [e0, if_pos (fun h => by rw [h] at hc23; simp at hc23)]
      subst e
      refine wpIn_seq ?_
      refine reg ?_
      refine qq hS (g_buildv (pl := [(0, 1), (1, 1), (2, 1), (3, 1)]) (cs := [.bool _, .int .i64 _, .int .i64 _, .slice _ _ _]) Tryz.zeroValue29 Tryz.underlying29 (fun w => by simp [Tryz.sizeOf27, Tryz.sizeOf3, Tryz.sizeOf4]) mp0 rfl) ?_
      refine qe (d_store 1 hS Tryz.sizeOf29 rfl rfl rfl (vs := [.bool _, .int .i64 _, .int .i64 _, .slice _ _ _]) rfl rfl rfl (Nat.le_of_ble_eq_true rfl) (cs' := [_, _, _, _]) rfl) ?_
      clear hS
      rintro _ w_11 ⟨rfl, hS⟩
      refine qq hS (g_assignv (v := .int .i64 _) rfl) ?_
      refine ol_nil (thenN ?_)
      refine wpIn_ret ?_
      refine blkR (thenR ?_)
      refine retM2 Tryz.results31 (rv_cel 1 hS Tryz.sizeOf29 Tryz.isAgg29 rfl rfl rfl) (rv_tmp (v := .int .i64 _) rfl) ?_
      exact ⟨_, none, 0, 0, rfl, hS.nil, RSl.nilR⟩
    ·
      intro hc23
      try simp only [Bool.and_eq_true, Bool.or_eq_true, Bool.not_eq_true', Bool.and_eq_false_imp, Bool.or_eq_false_iff, Bool.not_eq_false', decide_eq_true_eq, decide_eq_false_iff_not] at hc23
      have hcl : clashL (symsP eq) (symsP fq) = [] := by
        cases hl : clashL (symsP eq) (symsP fq) with
        | nil => rfl
        | cons x r => rw [hl] at hc23; simp at hc23
      rw [if_neg (fun h => h hcl)] at e0
      refine wpIn_skip ?_
      refine blkN (thenN ?_)
      refine wpIn_seq ?_
      refine reg ?_
      refine qq hS (g_ldO1 0 Tryz.isAgg118 rfl rfl rfl) ?_
      refine qq hS (g_ixI Tryz.underlying118 Tryz.sizeOf126 hrow rfl rfl (by decide) (by simp)) ?_
      refine qq hS (g_fieldE (c' := 4) Tryz.underlying126 rfl Tryz.sizeOf83 rfl rfl rfl) ?_
      refine qq hS (g_ldE1 Tryz.isAgg83 hevB rfl rfl) ?_
      refine qe (d_alloc (cs := [.slice _ _ _]) hS Tryz.zeroValue83 rfl) ?_
      clear hS
      rintro _ w_12 ⟨b8, rfl, hS⟩
      refine qe (d_store 0 hS Tryz.sizeOf83 rfl rfl rfl (vs := [.slice _ _ _]) rfl rfl rfl (Nat.le_of_ble_eq_true rfl) (cs' := [_]) rfl) ?_
      clear hS
      rintro _ w_13 ⟨rfl, hS⟩
      refine ol_nil (thenN ?_)
      refine wpIn_seq ?_
      refine wpIn_seq ?_
      have hn3 := newB_up hx15 hz15 hn2
      obtain ⟨J, hSJ, hJI, hJb⟩ := hS.thaw hs2 hn3
      have aprow := hrow.at_block (J := J) (fun b hb => hJb b (fun h => hap b h hb))
      have apt := ht.at_block (J := J) (fun b hb => hJb b (fun h => hst b h hb))
      have aps := hS1.at_block (J := J) (fun b hb => hJb b (fun h => hss b h hb))
      clear hS hevA hevB hrow ht hS1 hs2 hS2 hut hur hr
      replace hS := hSJ
      clear hSJ
      have hrow := aprow
      have ht := apt
      have hS1 := aps
      have hevA := hrow.at (i := 0) rfl
      clear aprow apt aps
      refine reg ?_
      refine qq hS (g_ldO1 2 Tryz.isAgg118 rfl rfl rfl) ?_
      refine qq hS (g_ixI Tryz.underlying118 Tryz.sizeOf126 hrow rfl rfl (by decide) (by simp)) ?_
      refine qq hS (g_fieldE (c' := 5) Tryz.underlying126 rfl Tryz.sizeOf59 rfl rfl rfl) ?_
      refine qq hS (g_ldE1 Tryz.isAgg59 hevA rfl rfl) ?_
      refine qe (d_call Tryz.call68 rfl (placesB_c _ _ _ 69 [] _ _ hS.imm)) ?_
      rintro _ w_14 ⟨I42, b42, c42, rfl, hE, hb42, hc42⟩
      replace hS := hS.callE hE
      replace hrow := hrow.mono hE.ext
      replace hevA := hevA.mono hE.ext
      replace hS1 := hS1.mono hE.ext
      replace ht := ht.mono hE.ext
      refine ol_nil (thenN ?_)
      refine wpIn_block ?_
      refine range_wp (N := (plc N (touched (symsP eq))).length) (arg := plA (plc N (touched (symsP eq)))) (fun k I L => L = [.row (.slice bs N ds) 81 3 N (flat symC (mergeBy (symsP eq) (symsP fq) ((plc N (touched (symsP eq))).take k))), .cel b8 83 [.slice bs N ds], .cel b6 118 [.slice a15 [eq, fq].length c15], .cel b4 29 [.bool false, .int .i64 0, .int .i64 0, .slice none 0 0], .cel b2 29 [.bool eq.lifted, .int .i64 eq.in_, .int .i64 eq.out, .slice ad m cap]] ∧ Inl.Sub I42 I) (fun k c I L => False) (hS.sel [true, true, true, true, false, true]) rfl Tryz.call112 (marksIt N (touched (symsP eq)) _ b42 c42 _ hb42 hc42 ht) (fun _ => rfl) ?_ (⟨by rw [List.take_zero]; rfl, Inl.Sub.refl _⟩) ?_ ?_ ?_
      ·
        rintro k I I' L ⟨h, h2⟩ hs
        exact ⟨h, h2.trans hs⟩
      ·
        rintro k l D oR oB I1 w1 L1 X1 hk ⟨rfl, hsub1⟩ hS
        obtain ⟨i, hi⟩ : ∃ i, (plc N (touched (symsP eq)))[k]? = some i := ⟨_, List.getElem?_eq_getElem hk⟩
        rw [plA_at hi]
        have him := mem_plc.1 (List.mem_of_getElem? hi)
        replace hrow := hrow.mono hsub1
        replace hS1 := hS1.mono hsub1
        replace hevA := hevA.mono hsub1
        obtain ⟨s, hsi⟩ : ∃ s, (symsP eq)[i]? = some s := ⟨_, List.getElem?_eq_getElem (by omega)⟩
        have hsA := hS1.at hsi
        have hlu : (mergeBy (symsP eq) (symsP fq) ((plc N (touched (symsP eq))).take k)).length = N := by rw [mergeBy_len, hM]
        obtain ⟨u, hui⟩ : ∃ u, (mergeBy (symsP eq) (symsP fq) ((plc N (touched (symsP eq))).take k))[i]? = some u := ⟨_, List.getElem?_eq_getElem (by omega)⟩
        show Code.wpIn _ _ _ _ _ (act _ [] (upd _ 43 _)) _
        refine reg ?_
        refine qq hS (g_assignv (v := .int .i64 _) rfl) ?_
        refine ol_nil ?_
        refine thenN ⟨_, _, _, rfl, hS, ?_⟩
        intro w_b hS
        refine wpIn_block ?_
        refine draw (.cons 0 .held (.cons 1 .pure (.cons 2 .held (.cons 3 .pure (.cons 4 .pure (.cons 5 .held (.cons 6 .pure (.cons 7 .pure (.cons 8 .held (.cons 9 .held (.cons 10 .bar .nil))))))))))) mixed (by kernel_rfl) hS ?_
        intro w_15 hS
        refine sh rfl (g_ldO1 3 Tryz.isAgg83 rfl rfl rfl) ?_
        refine sp rfl (g_movev (v := .int .i64 _) rfl) ?_
        refine sh rfl (g_ldO1 4 Tryz.isAgg118 rfl rfl rfl) ?_
        refine sp rfl (g_ixI Tryz.underlying118 Tryz.sizeOf126 hrow rfl rfl (by decide) (by simp)) ?_
        refine sp rfl (g_fieldE (c' := 4) Tryz.underlying126 rfl Tryz.sizeOf83 rfl rfl rfl) ?_
        refine sh rfl (g_ldE1 Tryz.isAgg83 hevA rfl rfl) ?_
        refine sp rfl (g_movev (v := .int .i64 _) rfl) ?_
        refine sp rfl (g_ixI Tryz.underlying83 Tryz.sizeOf81 hS1 rfl rfl (by omega) (by omega)) ?_
        refine sh rfl (g_ldE (us := [.bool _, .int .i64 _, .int .u8 _]) Tryz.sizeOf81 Tryz.isAgg81 hsA rfl rfl rfl) ?_
        refine sh rfl (g_ixR 2 Tryz.underlying83 Tryz.sizeOf81 rfl rfl rfl (by omega) (by omega)) ?_
        refine sb rfl (d_storeRow 2 symC_len s hS hlu.symm hui Tryz.sizeOf81 rfl rfl rfl (vs := [.bool _, .int .i64 _, .int .u8 _]) rfl rfl rfl rfl rfl) ?_
        rintro _ w_16 ⟨rfl, hS⟩
        refine ⟨_, _, hS, ?_⟩
        refine sn (blkN ?_)
        refine ⟨_, _, hS, ?_, hsub1⟩
        rw [take_snoc hi, mergeBy_snoc, sAt_of hsi]; rfl
      ·
        rintro D I1 w1 L1 ⟨rfl, hsub1⟩ hS
        refine blkN (thenN ?_)
        refine wpIn_seq ?_
        rw [List.take_length, mergeBy_plc, show mergeUp (symsP eq) (symsP fq) N = mergeS (symsP eq) (symsP fq) by unfold mergeS; rw [hM]] at hS
        have hml : N = (mergeS (symsP eq) (symsP fq)).length := by unfold mergeS; rw [mergeUp_len, hM]
        have hmw := mergeS_wf (hN.trans hM.symm) (symsP_wf hp hcp) (symsP_wf hq hcq)
        obtain ⟨I9, hS9, hI9, h55⟩ := St.freezeRow symC_len (hS.ord [1, 0, 2, 3, 4, 5]) hml
        clear hS
        replace hS := hS9
        clear hS9
        obtain ⟨C, hC⟩ : ∃ C, cheapP (mergeS (symsP eq) (symsP fq)) eq.in_ = C := ⟨_, rfl⟩
        rw [hC] at e0
        refine reg ?_
        refine qq hS (g_ldO1 1 Tryz.isAgg83 rfl rfl rfl) ?_
        refine qq hS (g_fieldAddr (o' := 1) Tryz.underlying29 rfl Tryz.sizeOf3 rfl rfl rfl) ?_
        refine qq hS (g_ldO1 4 Tryz.isAgg3 rfl rfl rfl) ?_
        refine qe (d_call Tryz.call47 rfl (cheapest_e bs _ ds (mergeS (symsP eq) (symsP fq)) eq.in_ C.1 C.2 _ _ hS.imm h55 hml hmw hC)) ?_
        rintro _ w_17 ⟨I58, a58, m58, c58, rfl, hE, h58⟩
        replace hS := hS.callE hE
        refine qq hS (g_move _) ?_
        refine qq hS (g_extract rfl rfl) ?_
        refine qq hS (g_extract (v := .int .i64 _) rfl rfl) ?_
        refine qe (d_alloc (cs := [.bool _, .int .i64 _, .int .i64 _, .slice _ _ _]) hS Tryz.zeroValue29 rfl) ?_
        clear hS
        rintro _ w_18 ⟨b10, rfl, hS⟩
        refine qe (d_store 0 hS Tryz.sizeOf29 rfl rfl rfl (vs := [.bool _, .int .i64 _, .int .i64 _, .slice _ _ _]) rfl rfl rfl (Nat.le_of_ble_eq_true rfl) (cs' := [_, _, _, _]) rfl) ?_
        clear hS
        rintro _ w_19 ⟨rfl, hS⟩
        refine qq hS (g_assignv (v := .int .i64 _) rfl) ?_
        refine ol_nil (thenN ?_)
        refine wpIn_seq ?_
        refine wpIn_seq ?_
        refine reg ?_
        refine qq hS (g_movev (v := .int .i64 _) rfl) ?_
        refine qq hS (g_neq rfl rfl) ?_
        refine ol_nil (thenN ?_)
        refine cond_s rfl ?_ ?_
        ·
          intro hc62
          try simp only [Bool.and_eq_true, Bool.or_eq_true, Bool.not_eq_true', Bool.and_eq_false_imp, Bool.or_eq_false_iff, Bool.not_eq_false', decide_eq_true_eq, decide_eq_false_iff_not] at hc62
          rw [if_pos hc62] at e0
          subst e0
          refine wpIn_seq ?_
          refine reg ?_
          refine qq hS (g_buildv (pl := [(0, 1), (1, 1), (2, 1), (3, 1)]) (cs := [.bool _, .int .i64 _, .int .i64 _, .slice _ _ _]) Tryz.zeroValue29 Tryz.underlying29 (fun w => by simp [Tryz.sizeOf27, Tryz.sizeOf3, Tryz.sizeOf4]) mp0 rfl) ?_
          refine qq hS (g_movev (v := .int .i64 _) rfl) ?_
          refine qe (d_store 4 hS Tryz.sizeOf29 rfl rfl rfl (vs := [.bool _, .int .i64 _, .int .i64 _, .slice _ _ _]) rfl rfl rfl (Nat.le_of_ble_eq_true rfl) (cs' := [_, _, _, _]) rfl) ?_
          clear hS
          rintro _ w_20 ⟨rfl, hS⟩
          refine qq hS (g_assignv (v := .int .i64 _) rfl) ?_
          refine ol_nil (thenN ?_)
          refine wpIn_ret ?_
          refine thenR ?_
          refine retD2 Tryz.results31 hS (k := 1) rfl (fun w_r hS => ⟨_, _, (rv_cel 4 hS Tryz.sizeOf29 Tryz.isAgg29 rfl rfl rfl), (rv_tmp (v := .int .i64 _) rfl), ?_⟩)
          exact ⟨_, none, 0, 0, rfl, hS.nil, RSl.nilR⟩
        ·
          intro hc62
          try simp only [Bool.and_eq_true, Bool.or_eq_true, Bool.not_eq_true', Bool.and_eq_false_imp, Bool.or_eq_false_iff, Bool.not_eq_false', decide_eq_true_eq, decide_eq_false_iff_not] at hc62
          rw [if_neg (fun h => h hc62)] at e0
          subst e0
          refine wpIn_skip ?_
          refine thenN ?_
          refine wpIn_seq ?_
          refine reg ?_
          refine qq hS (g_fieldAddr (o' := 0) Tryz.underlying29 rfl Tryz.sizeOf4 rfl rfl rfl) ?_
          refine qq hS (g_ldO1 5 Tryz.isAgg4 rfl rfl rfl) ?_
          refine qq hS (g_fieldAddr (o' := 0) Tryz.underlying29 rfl Tryz.sizeOf4 rfl rfl rfl) ?_
          refine qe (d_store 0 hS Tryz.sizeOf4 rfl rfl rfl (vs := [.bool _]) rfl rfl rfl (Nat.le_of_ble_eq_true rfl) (cs' := [_, _, _, _]) rfl) ?_
          clear hS
          rintro _ w_21 ⟨rfl, hS⟩
          refine ol_nil (thenN ?_)
          refine wpIn_seq ?_
          refine reg ?_
          refine qq hS (g_ldO 0 (vs := [.bool _, .int .i64 _, .int .i64 _, .slice _ _ _]) Tryz.sizeOf29 Tryz.isAgg29 rfl rfl rfl rfl) ?_
          refine qe (d_store 4 hS Tryz.sizeOf29 rfl rfl rfl (vs := [.bool _, .int .i64 _, .int .i64 _, .slice _ _ _]) rfl rfl rfl (Nat.le_of_ble_eq_true rfl) (cs' := [_, _, _, _]) rfl) ?_
          clear hS
          rintro _ w_22 ⟨rfl, hS⟩
          refine qq hS (g_assignv (v := .int .i64 _) rfl) ?_
          refine ol_nil (thenN ?_)
          refine wpIn_ret ?_
          refine retD2 Tryz.results31 hS (k := 1) rfl (fun w_r hS => ⟨_, _, (rv_cel 4 hS Tryz.sizeOf29 Tryz.isAgg29 rfl rfl rfl), (rv_tmp (v := .int .i64 _) rfl), ?_⟩)
          exact ⟨_, a58, m58, c58, rfl, hS.nil, h58⟩
      ·
        rintro D k c I1 w1 L1 hk h hS
        exact h.elim

set_option maxHeartbeats 1000000 in
theorem disturbs_c (l1 l2 : Bool) (i1 o1 i2 o2 : Int) (p3 vs vr q3 us ut ur : Value) (at_ : Option Addr) (ct N : Nat) (S T : List Sym) (w0 : World) (I0 : Imm) (hI : Sat I0 w0) (ht : RBools I0 (.slice at_ N ct) (marks N (touched S))) (hu : RBools I0 ut (marks N (touched T))) (hr : RBools I0 ur (marks N (readUp T N))) (hSl : S.length = N) (hT : T.length = N) (hN : N ≤ 65536) :
    Ctr Tryz.prog 119 [.agg #[.bool l1, .int .i64 i1, .int .i64 o1, p3, vs, .slice at_ N ct, vr], .agg #[.bool l2, .int .i64 i2, .int .i64 o2, q3, us, ut, ur]] w0 (fun v w' => v = .bool (disturbs S T) ∧ Ext w0 I0 w' I0) := by
  have hul := marks_len N (touched T)
  have hrl := marks_len N (readUp T N)
  refine fnM (n := 22) Tryz.func119 rfl rfl rfl ?_
  have hS := St.start hI
  refine wpIn_seq ?_
  refine reg ?_
  refine qe (d_box (cs := [.bool _, .int .i64 _, .int .i64 _, _, _, _, _]) hS rfl) ?_
  clear hS
  rintro _ w_1 ⟨b2, rfl, hS⟩
  refine qe (d_box (cs := [.bool _, .int .i64 _, .int .i64 _, _, _, _, _]) hS rfl) ?_
  clear hS
  rintro _ w_2 ⟨b3, rfl, hS⟩
  refine qe (d_alloc (cs := [.bool _]) hS Tryz.zeroValue4 rfl) ?_
  clear hS
  rintro _ w_3 ⟨b4, rfl, hS⟩
  refine ol_nil (thenN ?_)
  refine wpIn_seq ?_
  refine wpIn_seq ?_
  refine reg ?_
  refine qq hS (g_fieldAddr (o' := 5) Tryz.underlying126 rfl Tryz.sizeOf59 rfl rfl rfl) ?_
  refine qq hS (g_ldO1 2 Tryz.isAgg59 rfl rfl rfl) ?_
  refine qe (d_call Tryz.call68 rfl (placesB_c _ _ _ 69 [] _ _ hS.imm)) ?_
  rintro _ w_4 ⟨I8, b8, c8, rfl, hE, hb8, hc8⟩
  replace hS := hS.callE hE
  replace ht := ht.mono hE.ext
  replace hu := hu.mono hE.ext
  replace hr := hr.mono hE.ext
  refine ol_nil (thenN ?_)
  refine wpIn_block ?_
  refine range_wp (N := (plc N (touched S)).length) (arg := plA (plc N (touched S))) (fun k I L => L = [.cel b3 126 [.bool l2, .int .i64 i2, .int .i64 o2, q3, us, ut, ur], .cel b4 4 [.bool false]] ∧ Inl.Sub I8 I ∧ ∀ i ∈ (plc N (touched S)).take k, (touched T i || readUp T N i) = false) (fun k c I L => c = .ret ∧ L = [.cel b3 126 [.bool l2, .int .i64 i2, .int .i64 o2, q3, us, ut, ur], .cel b4 4 [.bool true]] ∧ disturbs S T = true) (hS.ord [1, 0]) rfl Tryz.call112 (marksIt N (touched S) _ b8 c8 _ hb8 hc8 ht) (fun _ => rfl) ?_ (⟨rfl, Inl.Sub.refl _, by simp⟩) ?_ ?_ ?_
  ·
    rintro k I I' L ⟨h, h2, h3⟩ hs
    exact ⟨h, h2.trans hs, h3⟩
  ·
    rintro k l D oR oB I1 w1 L1 X1 hk ⟨rfl, hsub1, hall⟩ hS
    obtain ⟨i, hi⟩ : ∃ i, (plc N (touched S))[k]? = some i := ⟨_, List.getElem?_eq_getElem hk⟩
    rw [plA_at hi]
    have him := mem_plc.1 (List.mem_of_getElem? hi)
    replace hu := hu.mono hsub1
    replace hr := hr.mono hsub1
    have huA := hu.at (marks_at him.1)
    have hrA := hr.at (marks_at him.1)
    show Code.wpIn _ _ _ _ _ (act _ [] (upd _ 9 _)) _
    refine reg ?_
    refine qq hS (g_assignv (v := .int .i64 _) rfl) ?_
    refine ol_nil ?_
    refine thenN ⟨_, _, _, rfl, hS, ?_⟩
    intro w_b hS
    refine wpIn_block ?_
    refine wpIn_seq ?_
    refine reg ?_
    refine qq hS (g_fieldAddr (o' := 5) Tryz.underlying126 rfl Tryz.sizeOf59 rfl rfl rfl) ?_
    refine qq hS (g_ldO1 2 Tryz.isAgg59 rfl rfl rfl) ?_
    refine qq hS (g_movev (v := .int .i64 _) rfl) ?_
    refine qq hS (g_ixI Tryz.underlying59 Tryz.sizeOf4 hu rfl rfl (by omega) (by omega)) ?_
    refine qq hS (g_ldE1 Tryz.isAgg4 huA rfl rfl) ?_
    refine qq hS (g_movev (v := .bool _) rfl) ?_
    refine qu rfl rfl hS (fun hg => (g_fieldAddr (o' := 6) Tryz.underlying126 rfl Tryz.sizeOf59 rfl rfl rfl)) ?_
    intro u16 hu16 hn16
    refine qu rfl rfl hS (fun hg => (g_ldO1 2 Tryz.isAgg59 rfl (hu16 hg) rfl)) ?_
    intro u17 hu17 hn17
    refine qu rfl rfl hS (fun hg => (g_movev (v := .int .i64 _) rfl)) ?_
    intro u18 hu18 hn18
    refine qu rfl rfl hS (fun hg => (g_ixI Tryz.underlying59 Tryz.sizeOf4 hr (hu17 hg) (hu18 hg) (by omega) (by omega))) ?_
    intro u19 hu19 hn19
    refine qu rfl rfl hS (fun hg => (g_ldE1 Tryz.isAgg4 hrA (hu19 hg) rfl)) ?_
    intro u20 hu20 hn20
    refine qq hS (g_or rfl rfl (fun hq => hu20 hq)) ?_
    refine ol_nil (thenN ?_)
    refine cond_s rfl ?_ ?_
    ·
      intro hc21
      clear hu16 hn16 hu17 hn17 hu18 hn18 hu19 hn19 hu20 hn20
      refine wpIn_seq ?_
      refine reg ?_
      refine qe (d_store 3 hS Tryz.sizeOf4 rfl rfl rfl (vs := [.bool _]) rfl rfl rfl (Nat.le_of_ble_eq_true rfl) (cs' := [_]) rfl) ?_
      clear hS
      rintro _ w_5 ⟨rfl, hS⟩
      refine ol_nil (thenN ?_)
      refine wpIn_ret ?_
      refine blkR ?_
      exact ⟨_, _, hS, rfl, rfl, disturbs_yes hSl hT him hc21⟩
    ·
      intro hc21
      clear hu16 hn16 hu17 hn17 hu18 hn18 hu19 hn19 hu20 hn20
      refine wpIn_skip ?_
      refine blkN ?_
      exact ⟨_, _, hS, rfl, hsub1, any_take hi hall hc21⟩
  ·
    rintro D I1 w1 L1 ⟨rfl, hsub1, hall⟩ hS
    refine blkN (thenN ?_)
    refine wpIn_seq ?_
    refine reg ?_
    refine qe (d_store 2 hS Tryz.sizeOf4 rfl rfl rfl (vs := [.bool _]) rfl rfl rfl (Nat.le_of_ble_eq_true rfl) (cs' := [_]) rfl) ?_
    clear hS
    rintro _ w_6 ⟨rfl, hS⟩
    refine ol_nil (thenN ?_)
    refine wpIn_ret ?_
    refine retD1 Tryz.results119 hS (k := 0) rfl (fun w_r hS => ⟨_, (rv_cel1 2 hS Tryz.isAgg4 rfl rfl rfl), ?_⟩)
    rw [List.take_length] at hall
    exact ⟨by rw [disturbs_no hSl hT hall], hS.nil.back⟩
  ·
    rintro D k c I1 w1 L1 hk ⟨rfl, rfl, hdis⟩ hS
    refine wpIn_ret ?_
    refine blkR (thenR ?_)
    refine retD1 Tryz.results119 hS (k := 0) rfl (fun w_r hS => ⟨_, (rv_cel1 2 hS Tryz.isAgg4 rfl rfl rfl), ?_⟩)
    exact ⟨by rw [hdis], hS.nil.back⟩

set_option maxHeartbeats 2000000 in
theorem commute_E (p : PatL) (ad : Option Addr) (m cap : Nat) (q : PatL) (bd : Option Addr) (n capb : Nat) (A : ExcL) (w0 : World) (I0 : Imm) (hI : Sat I0 w0) (hp : p.wf) (hpo : ROps I0 (.slice ad m cap) p.ops) (hq : q.wf) (hqo : ROps I0 (.slice bd n capb) q.ops) (he : commuteP p q = A) :
    Ctr Tryz.prog 74 [.agg #[.bool p.lifted, .int .i64 p.in_, .int .i64 p.out, .slice ad m cap], .agg #[.bool q.lifted, .int .i64 q.in_, .int .i64 q.out, .slice bd n capb]] w0 (fun v w' => ∃ I' a m c b n d, v = .tuple #[.agg #[.bool A.q.lifted, .int .i64 A.q.in_, .int .i64 A.q.out, .slice a m c], .agg #[.bool A.p.lifted, .int .i64 A.p.in_, .int .i64 A.p.out, .slice b n d], .int .i64 A.e] ∧ Ext w0 I0 w' I' ∧ ROps I' (.slice a m c) A.q.ops ∧ ROps I' (.slice b n d) A.p.ops) := by
  refine fn (n := 64) Tryz.func74 rfl rfl rfl ?_
  have hS := St.start hI
  refine wpIn_seq ?_
  refine reg ?_
  refine qe (d_box (cs := [.bool _, .int .i64 _, .int .i64 _, .slice _ _ _]) hS rfl) ?_
  clear hS
  rintro _ w_1 ⟨b2, rfl, hS⟩
  refine qe (d_box (cs := [.bool _, .int .i64 _, .int .i64 _, .slice _ _ _]) hS rfl) ?_
  clear hS
  rintro _ w_2 ⟨b3, rfl, hS⟩
  refine qe (d_alloc (cs := [.bool _, .int .i64 _, .int .i64 _, .slice _ _ _]) hS Tryz.zeroValue29 rfl) ?_
  clear hS
  rintro _ w_3 ⟨b4, rfl, hS⟩
  refine qe (d_alloc (cs := [.bool _, .int .i64 _, .int .i64 _, .slice _ _ _]) hS Tryz.zeroValue29 rfl) ?_
  clear hS
  rintro _ w_4 ⟨b5, rfl, hS⟩
  refine qq hS (g_assignv (v := .int .i64 _) rfl) ?_
  refine ol_nil (thenN ?_)
  refine wpIn_seq ?_
  refine reg ?_
  refine qq hS (g_ldO 3 (vs := [.bool _, .int .i64 _, .int .i64 _, .slice _ _ _]) Tryz.sizeOf29 Tryz.isAgg29 rfl rfl rfl rfl) ?_
  refine qq hS (g_ldO 2 (vs := [.bool _, .int .i64 _, .int .i64 _, .slice _ _ _]) Tryz.sizeOf29 Tryz.isAgg29 rfl rfl rfl rfl) ?_
  refine qe (d_lit (vs := [.agg #[.bool _, .int .i64 _, .int .i64 _, .slice _ _ _], .agg #[.bool _, .int .i64 _, .int .i64 _, .slice _ _ _]]) (cs := [.bool _, .int .i64 _, .int .i64 _, .slice _ _ _, .bool _, .int .i64 _, .int .i64 _, .slice _ _ _]) hS Tryz.underlying42 Tryz.sizeOf29 Tryz.zeroValue29 rfl rfl rfl rfl (fun v hv => by simp only [List.mem_cons, List.not_mem_nil, or_false] at hv; rcases hv with rfl | rfl <;> rfl) rfl) ?_
  clear hS
  rintro _ w_5 ⟨b15, rfl, hS⟩
  have hF := hS.freeze1
  clear hS
  obtain ⟨I15, hS, hI15, hb15⟩ := hF
  replace hpo := hpo.mono hI15
  replace hqo := hqo.mono hI15
  have h15 : RPats _ (.slice (some ⟨b15, 0, none⟩) 2 2) [p, q] := RSl.ofAt (css := [[.bool p.lifted, .int .i64 p.in_, .int .i64 p.out, .slice ad m cap], [.bool q.lifted, .int .i64 q.in_, .int .i64 q.out, .slice bd n capb]]) hb15 rfl (by simp) (All2.two ⟨_, _, _, rfl, hpo⟩ ⟨_, _, _, rfl, hqo⟩) rfl (by show 2 ≤ maxLen; decide)
  refine qe (d_call Tryz.call66 rfl (load_c [p, q] (some ⟨b15, 0, none⟩) 2 _ _ hS.imm h15 (two_wf hp hq) (by simp) (by simp))) ?_
  rintro _ w_6 ⟨I16, a16, n16, c16, evs, rfl, hE, hok⟩
  replace hS := hS.callE hE
  replace hpo := hpo.mono hE.ext
  replace hqo := hqo.mono hE.ext
  replace h15 := h15.mono hE.ext
  refine qq hS (g_move _) ?_
  refine qq hS (g_extract rfl rfl) ?_
  refine qq hS (g_extract (v := .int .i64 _) rfl rfl) ?_
  refine qq hS (g_assign _) ?_
  refine qq hS (g_assignv (v := .int .i64 _) rfl) ?_
  refine ol_nil (thenN ?_)
  refine wpIn_seq ?_
  refine wpIn_block ?_
  refine wpIn_seq ?_
  refine reg ?_
  refine qq hS (g_movev (v := .int .i64 _) rfl) ?_
  refine qq hS (g_neq rfl rfl) ?_
  refine qq hS (g_assignv (v := .bool _) rfl) ?_
  refine ol_nil (thenN ?_)
  refine cond_s rfl ?_ ?_
  ·
    intro hc19
    simp only [Bool.not_eq_true', decide_eq_false_iff_not, Bool.not_eq_false', decide_eq_true_eq] at hc19
    have e : A = ⟨PatL.zero, PatL.zero, checkM [p, q]⟩ := by rw [← he]; unfold commuteP; rw [if_pos hc19]
    subst e
    refine wpIn_seq ?_
    refine reg ?_
    refine qq hS (g_buildv (pl := [(0, 1), (1, 1), (2, 1), (3, 1)]) (cs := [.bool _, .int .i64 _, .int .i64 _, .slice _ _ _]) Tryz.zeroValue29 Tryz.underlying29 (fun w => by simp [Tryz.sizeOf27, Tryz.sizeOf3, Tryz.sizeOf4]) mp0 rfl) ?_
    refine qq hS (g_buildv (pl := [(0, 1), (1, 1), (2, 1), (3, 1)]) (cs := [.bool _, .int .i64 _, .int .i64 _, .slice _ _ _]) Tryz.zeroValue29 Tryz.underlying29 (fun w => by simp [Tryz.sizeOf27, Tryz.sizeOf3, Tryz.sizeOf4]) mp0 rfl) ?_
    refine qq hS (g_movev (v := .int .i64 _) rfl) ?_
    refine qe (d_store 1 hS Tryz.sizeOf29 rfl rfl rfl (vs := [.bool _, .int .i64 _, .int .i64 _, .slice _ _ _]) rfl rfl rfl (Nat.le_of_ble_eq_true rfl) (cs' := [_, _, _, _]) rfl) ?_
    clear hS
    rintro _ w_7 ⟨rfl, hS⟩
    refine qe (d_store 0 hS Tryz.sizeOf29 rfl rfl rfl (vs := [.bool _, .int .i64 _, .int .i64 _, .slice _ _ _]) rfl rfl rfl (Nat.le_of_ble_eq_true rfl) (cs' := [_, _, _, _]) rfl) ?_
    clear hS
    rintro _ w_8 ⟨rfl, hS⟩
    refine qq hS (g_assignv (v := .int .i64 _) rfl) ?_
    refine ol_nil (thenN ?_)
    refine wpIn_ret ?_
    refine blkR (thenR ?_)
    refine ret3 Tryz.results74 (rv_cel 1 hS Tryz.sizeOf29 Tryz.isAgg29 rfl rfl rfl) (rv_cel 0 hS Tryz.sizeOf29 Tryz.isAgg29 rfl rfl rfl) (rv_tmp (v := .int .i64 _) rfl) ?_
    exact ⟨_, none, 0, 0, none, 0, 0, rfl, hS.nil, RSl.nilR, RSl.nilR⟩
  ·
    intro hc19
    simp only [Bool.not_eq_true', decide_eq_false_iff_not, Bool.not_eq_false', decide_eq_true_eq] at hc19
    obtain ⟨rfl, hok⟩ := hok hc19
    obtain ⟨e, f, rfl, hep, hfp⟩ := evs_two hok.ld.ps
    obtain ⟨eq, ao, mo, co, vs, vt, vr⟩ := e
    obtain ⟨fq, bo, no, do_, us, ut, ur⟩ := f
    dsimp only at hep hfp
    subst hep hfp
    have hck := checkM_all hc19
    have hcp := hck.1 eq (by simp)
    have hcq := hck.1 fq (by simp)
    have hlq : fq.lifted = eq.lifted := hck.2.1 fq (by simp)
    have hpe := hck.2.2 eq (by simp)
    have hqe := hck.2.2 fq (by simp)
    have hqi : fq.in_ = eq.in_ := hqe.2
    have hNl := symsP_len hcp
    have hMl := symsP_len hcq
    have hb6 := checkP_ok hcp
    have ht2 := hok.ld.two 0 _ (by simp) rfl
    have hu2 := hok.ld.two 1 _ (by simp) rfl
    have ht := ht2.touches
    have hr := ht2.reads
    have hut := hu2.touches
    have hur := hu2.reads
    have hs1 := (hok.ld.one _ (List.mem_cons_self ..)).1.syms
    have hs2 := (hok.ld.one _ (List.mem_cons_of_mem _ (List.mem_cons_self ..))).1.syms
    have hn2 := (hok.ld.one _ (List.mem_cons_of_mem _ (List.mem_cons_self ..))).2
    have hap := hok.apart _ (List.mem_cons_of_mem _ (List.mem_cons_self ..))
    have hss := hok.ld.ss 0 1 _ _ (by decide) rfl rfl
    have hst := (hok.ld.ts 0 1 _ _ (by simp) rfl rfl).1
    dsimp only at ht hr hut hur hs1 hs2 hn2 hap hss hst
    have hrow := hok.row
    have hevA := hrow.at (i := 0) rfl
    have hevB := hrow.at (i := 1) rfl
    clear ht2 hu2 hok
    obtain ⟨N, hN⟩ : ∃ N, (symsP eq).length = N := ⟨_, rfl⟩
    have hM : (symsP fq).length = N := by omega
    rw [hN] at ht hr hNl hs1
    rw [hM] at hut hur hMl hs2
    have hN6 : N ≤ 65536 := by omega
    have hS1 := hs1.flat symC_len hN.symm
    have hS2 := hs2.flat symC_len hM.symm
    obtain ⟨a_s, cs, rfl⟩ := slN hS1 hN
    obtain ⟨bs, ds, rfl⟩ := slN hS2 hM
    obtain ⟨at_, ct, rfl⟩ := slN ht (marks_len _ _)
    obtain ⟨au, cu, rfl⟩ := slN hut (marks_len _ _)
    obtain ⟨ar, cr, rfl⟩ := slN hr (marks_len _ _)
    obtain ⟨av, cv, rfl⟩ := slN hur (marks_len _ _)
    have e0 : A = if (disturbs (symsP eq) (symsP fq) || disturbs (symsP fq) (symsP eq)) = true then ⟨PatL.zero, PatL.zero, 110⟩ else if (formP fq).2 ≠ 0 ∨ (formP eq).2 ≠ 0 then ⟨PatL.zero, PatL.zero, 2⟩ else ⟨(formP fq).1, (formP eq).1, 0⟩ := by rw [← he]; unfold commuteP; rw [if_neg (by rw [hc19]; decide)]
    clear he
    obtain ⟨F, hF⟩ : ∃ F, formP fq = F := ⟨_, rfl⟩
    obtain ⟨G, hG⟩ : ∃ F, formP eq = F := ⟨_, rfl⟩
    rw [hF, hG] at e0
    refine wpIn_seq ?_
    refine draw (.cons 0 .pure (.cons 1 .pure (.cons 2 .held (.cons 3 .pure (.cons 4 .pure (.cons 5 .held (.cons 6 .eff (.cons 7 .pure (.cons 8 .pure (.cons 9 .pure (.cons 10 .held (.cons 11 .pure (.cons 12 .pure (.cons 13 .held (.cons 14 .eff (.cons 15 .pure (.cons 16 .pure .nil))))))))))))))))) mixed (by kernel_rfl) hS ?_
    intro w_9 hS
    refine sp rfl (g_move _) ?_
    refine sp rfl (g_ixI Tryz.underlying118 Tryz.sizeOf126 hrow rfl rfl (by decide) (by simp)) ?_
    refine sh rfl (g_ldE (us := [.bool _, .int .i64 _, .int .i64 _, .slice _ _ _, .slice _ _ _, .slice _ _ _, .slice _ _ _]) Tryz.sizeOf126 Tryz.isAgg126 hevA rfl rfl rfl) ?_
    refine sp rfl (g_move _) ?_
    refine sp rfl (g_ixI Tryz.underlying118 Tryz.sizeOf126 hrow rfl rfl (by decide) (by simp)) ?_
    refine sh rfl (g_ldE (us := [.bool _, .int .i64 _, .int .i64 _, .slice _ _ _, .slice _ _ _, .slice _ _ _, .slice _ _ _]) Tryz.sizeOf126 Tryz.isAgg126 hevB rfl rfl rfl) ?_
    have hS0 := hS
    refine se rfl (d_call Tryz.call119 rfl (disturbs_c _ _ _ _ _ _ _ _ _ _ _ _ _ _ _ N (symsP eq) (symsP fq) _ _ hS.imm ht hut hur hN hM hN6)) ?_
    rintro _ w_10 ⟨rfl, hE⟩
    replace hS := hS.call hE
    refine ⟨_, _, hS0.le hE.ext (List.Sublist.refl _), hS, ?_⟩
    refine sp rfl (g_movev (v := .bool _) rfl) ?_
    refine spu rfl rfl rfl (fun hg => (g_move _)) ?_
    intro u34 hu34 hn34
    refine spu rfl rfl rfl (fun hg => (g_ixI Tryz.underlying118 Tryz.sizeOf126 hrow (hu34 hg) rfl (by decide) (by simp))) ?_
    intro u35 hu35 hn35
    refine shu rfl rfl rfl (fun hg => (g_ldE (us := [.bool _, .int .i64 _, .int .i64 _, .slice _ _ _, .slice _ _ _, .slice _ _ _, .slice _ _ _]) Tryz.sizeOf126 Tryz.isAgg126 hevB (hu35 hg) rfl rfl)) ?_
    intro u36 hu36 hn36
    refine spu rfl rfl rfl (fun hg => (g_move _)) ?_
    intro u37 hu37 hn37
    refine spu rfl rfl rfl (fun hg => (g_ixI Tryz.underlying118 Tryz.sizeOf126 hrow (hu37 hg) rfl (by decide) (by simp))) ?_
    intro u38 hu38 hn38
    refine shu rfl rfl rfl (fun hg => (g_ldE (us := [.bool _, .int .i64 _, .int .i64 _, .slice _ _ _, .slice _ _ _, .slice _ _ _, .slice _ _ _]) Tryz.sizeOf126 Tryz.isAgg126 hevA (hu38 hg) rfl rfl)) ?_
    intro u39 hu39 hn39
    refine scu rfl rfl rfl hS (fun hg => (d_call Tryz.call119 (ml (hu36 hg) (ml (hu39 hg) ml0)) (disturbs_c _ _ _ _ _ _ _ _ _ _ _ _ _ _ _ N (symsP fq) (symsP eq) _ _ hS.imm hut ht hr hM hN hN6))) ?_
    intro w_12 u40 hS hu40 hn40
    refine sp rfl (g_or rfl rfl (fun hq => hu40 hq)) ?_
    refine sp rfl (g_assignv (v := .bool _) rfl) ?_
    refine sn (thenN ?_)
    refine cond_s rfl ?_ ?_
    ·
      intro hc25
      clear hu34 hn34 hu35 hn35 hu36 hn36 hu37 hn37 hu38 hn38 hu39 hn39 hu40 hn40
      rw [if_pos hc25] at e0
      subst e0
      refine wpIn_seq ?_
      refine reg ?_
      refine qq hS (g_buildv (pl := [(0, 1), (1, 1), (2, 1), (3, 1)]) (cs := [.bool _, .int .i64 _, .int .i64 _, .slice _ _ _]) Tryz.zeroValue29 Tryz.underlying29 (fun w => by simp [Tryz.sizeOf27, Tryz.sizeOf3, Tryz.sizeOf4]) mp0 rfl) ?_
      refine qq hS (g_buildv (pl := [(0, 1), (1, 1), (2, 1), (3, 1)]) (cs := [.bool _, .int .i64 _, .int .i64 _, .slice _ _ _]) Tryz.zeroValue29 Tryz.underlying29 (fun w => by simp [Tryz.sizeOf27, Tryz.sizeOf3, Tryz.sizeOf4]) mp0 rfl) ?_
      refine qe (d_store 1 hS Tryz.sizeOf29 rfl rfl rfl (vs := [.bool _, .int .i64 _, .int .i64 _, .slice _ _ _]) rfl rfl rfl (Nat.le_of_ble_eq_true rfl) (cs' := [_, _, _, _]) rfl) ?_
      clear hS
      rintro _ w_13 ⟨rfl, hS⟩
      refine qe (d_store 0 hS Tryz.sizeOf29 rfl rfl rfl (vs := [.bool _, .int .i64 _, .int .i64 _, .slice _ _ _]) rfl rfl rfl (Nat.le_of_ble_eq_true rfl) (cs' := [_, _, _, _]) rfl) ?_
      clear hS
      rintro _ w_14 ⟨rfl, hS⟩
      refine qq hS (g_assignv (v := .int .i64 _) rfl) ?_
      refine ol_nil (thenN ?_)
      refine wpIn_ret ?_
      refine blkR (thenR ?_)
      refine ret3 Tryz.results74 (rv_cel 1 hS Tryz.sizeOf29 Tryz.isAgg29 rfl rfl rfl) (rv_cel 0 hS Tryz.sizeOf29 Tryz.isAgg29 rfl rfl rfl) (rv_tmp (v := .int .i64 _) rfl) ?_
      exact ⟨_, none, 0, 0, none, 0, 0, rfl, hS.nil, RSl.nilR, RSl.nilR⟩
    ·
      intro hc25
      clear hu34 hn34 hu35 hn35 hu36 hn36 hu37 hn37 hu38 hn38 hu39 hn39 hu40 hn40
      rw [if_neg (by rw [hc25]; decide)] at e0
      refine wpIn_skip ?_
      refine blkN (thenN ?_)
      refine wpIn_seq ?_
      refine reg ?_
      refine qq hS (g_ldO 2 (vs := [.bool _, .int .i64 _, .int .i64 _, .slice _ _ _]) Tryz.sizeOf29 Tryz.isAgg29 rfl rfl rfl rfl) ?_
      refine qe (d_call Tryz.call14 rfl (form_E fq F.1 F.2 _ _ _ _ _ hS.imm hqo hq hF)) ?_
      rintro _ w_15 ⟨I46, a46, m46, c46, rfl, hE, h46⟩
      replace hS := hS.callE hE
      replace hpo := hpo.mono hE.ext
      replace hqo := hqo.mono hE.ext
      replace h15 := h15.mono hE.ext
      replace hrow := hrow.mono hE.ext
      replace hevA := hevA.mono hE.ext
      replace hevB := hevB.mono hE.ext
      replace hS1 := hS1.mono hE.ext
      replace hS2 := hS2.mono hE.ext
      replace ht := ht.mono hE.ext
      replace hr := hr.mono hE.ext
      replace hut := hut.mono hE.ext
      replace hur := hur.mono hE.ext
      replace hs2 := hs2.mono hE.ext
      refine qq hS (g_move _) ?_
      refine qq hS (g_extract rfl rfl) ?_
      refine qq hS (g_extract (v := .int .i64 _) rfl rfl) ?_
      refine qe (d_alloc (cs := [.bool _, .int .i64 _, .int .i64 _, .slice _ _ _]) hS Tryz.zeroValue29 rfl) ?_
      clear hS
      rintro _ w_16 ⟨b9, rfl, hS⟩
      refine qe (d_store 0 hS Tryz.sizeOf29 rfl rfl rfl (vs := [.bool _, .int .i64 _, .int .i64 _, .slice _ _ _]) rfl rfl rfl (Nat.le_of_ble_eq_true rfl) (cs' := [_, _, _, _]) rfl) ?_
      clear hS
      rintro _ w_17 ⟨rfl, hS⟩
      refine qq hS (g_assignv (v := .int .i64 _) rfl) ?_
      refine ol_nil (thenN ?_)
      refine wpIn_seq ?_
      refine reg ?_
      refine qq hS (g_ldO 4 (vs := [.bool _, .int .i64 _, .int .i64 _, .slice _ _ _]) Tryz.sizeOf29 Tryz.isAgg29 rfl rfl rfl rfl) ?_
      refine qe (d_call Tryz.call14 rfl (form_E eq G.1 G.2 _ _ _ _ _ hS.imm hpo hp hG)) ?_
      rintro _ w_18 ⟨I51, a51, m51, c51, rfl, hE, h51⟩
      replace hS := hS.callE hE
      replace hpo := hpo.mono hE.ext
      replace hqo := hqo.mono hE.ext
      replace h15 := h15.mono hE.ext
      replace hrow := hrow.mono hE.ext
      replace hevA := hevA.mono hE.ext
      replace hevB := hevB.mono hE.ext
      replace hS1 := hS1.mono hE.ext
      replace hS2 := hS2.mono hE.ext
      replace ht := ht.mono hE.ext
      replace hr := hr.mono hE.ext
      replace hut := hut.mono hE.ext
      replace hur := hur.mono hE.ext
      replace hs2 := hs2.mono hE.ext
      replace h46 := h46.mono hE.ext
      refine qq hS (g_move _) ?_
      refine qq hS (g_extract rfl rfl) ?_
      refine qq hS (g_extract (v := .int .i64 _) rfl rfl) ?_
      refine qe (d_alloc (cs := [.bool _, .int .i64 _, .int .i64 _, .slice _ _ _]) hS Tryz.zeroValue29 rfl) ?_
      clear hS
      rintro _ w_19 ⟨b10, rfl, hS⟩
      refine qe (d_store 0 hS Tryz.sizeOf29 rfl rfl rfl (vs := [.bool _, .int .i64 _, .int .i64 _, .slice _ _ _]) rfl rfl rfl (Nat.le_of_ble_eq_true rfl) (cs' := [_, _, _, _]) rfl) ?_
      clear hS
      rintro _ w_20 ⟨rfl, hS⟩
      refine qq hS (g_assignv (v := .int .i64 _) rfl) ?_
      refine ol_nil (thenN ?_)
      refine wpIn_seq ?_
      refine wpIn_seq ?_
      refine reg ?_
      refine qq hS (g_movev (v := .int .i64 _) rfl) ?_
      refine qq hS (g_neq rfl rfl) ?_
      refine qq hS (g_movev (v := .bool _) rfl) ?_
      refine qu rfl rfl hS (fun hg => (g_movev (v := .int .i64 _) rfl)) ?_
      intro u57 hu57 hn57
      refine qu rfl rfl hS (fun hg => (g_neq (hu57 hg) rfl)) ?_
      intro u58 hu58 hn58
      refine qq hS (g_or rfl rfl (fun hq => hu58 hq)) ?_
      refine ol_nil (thenN ?_)
      refine cond_s rfl ?_ ?_
      ·
        intro hc59
        clear hu57 hn57 hu58 hn58
        try simp only [Bool.and_eq_true, Bool.or_eq_true, Bool.not_eq_true', Bool.and_eq_false_imp, Bool.or_eq_false_iff, Bool.not_eq_false', decide_eq_true_eq, decide_eq_false_iff_not] at hc59
        rw [if_pos (by simpa using hc59)] at e0
        subst e0
        refine wpIn_seq ?_
        refine reg ?_
        refine qq hS (g_buildv (pl := [(0, 1), (1, 1), (2, 1), (3, 1)]) (cs := [.bool _, .int .i64 _, .int .i64 _, .slice _ _ _]) Tryz.zeroValue29 Tryz.underlying29 (fun w => by simp [Tryz.sizeOf27, Tryz.sizeOf3, Tryz.sizeOf4]) mp0 rfl) ?_
        refine qq hS (g_buildv (pl := [(0, 1), (1, 1), (2, 1), (3, 1)]) (cs := [.bool _, .int .i64 _, .int .i64 _, .slice _ _ _]) Tryz.zeroValue29 Tryz.underlying29 (fun w => by simp [Tryz.sizeOf27, Tryz.sizeOf3, Tryz.sizeOf4]) mp0 rfl) ?_
        refine qe (d_store 3 hS Tryz.sizeOf29 rfl rfl rfl (vs := [.bool _, .int .i64 _, .int .i64 _, .slice _ _ _]) rfl rfl rfl (Nat.le_of_ble_eq_true rfl) (cs' := [_, _, _, _]) rfl) ?_
        clear hS
        rintro _ w_21 ⟨rfl, hS⟩
        refine qe (d_store 2 hS Tryz.sizeOf29 rfl rfl rfl (vs := [.bool _, .int .i64 _, .int .i64 _, .slice _ _ _]) rfl rfl rfl (Nat.le_of_ble_eq_true rfl) (cs' := [_, _, _, _]) rfl) ?_
        clear hS
        rintro _ w_22 ⟨rfl, hS⟩
        refine qq hS (g_assignv (v := .int .i64 _) rfl) ?_
        refine ol_nil (thenN ?_)
        refine wpIn_ret ?_
        refine thenR ?_
        refine ret3 Tryz.results74 (rv_cel 3 hS Tryz.sizeOf29 Tryz.isAgg29 rfl rfl rfl) (rv_cel 2 hS Tryz.sizeOf29 Tryz.isAgg29 rfl rfl rfl) (rv_tmp (v := .int .i64 _) rfl) ?_
        exact ⟨_, none, 0, 0, none, 0, 0, rfl, hS.nil, RSl.nilR, RSl.nilR⟩
      ·
        intro hc59
        clear hu57 hn57 hu58 hn58
        try simp only [Bool.and_eq_true, Bool.or_eq_true, Bool.not_eq_true', Bool.and_eq_false_imp, Bool.or_eq_false_iff, Bool.not_eq_false', decide_eq_true_eq, decide_eq_false_iff_not] at hc59
        rw [if_neg (by simpa using hc59)] at e0
        subst e0
        refine wpIn_skip ?_
        refine thenN ?_
        refine wpIn_seq ?_
        refine drawS [true, true, false, false, true, true] (.cons 0 .held (.cons 1 .held (.cons 2 .eff (.cons 3 .eff (.cons 4 .pure .nil))))) mixed (by kernel_rfl) hS ?_
        intro w_23 hS
        refine sh rfl (g_ldO 1 (vs := [.bool _, .int .i64 _, .int .i64 _, .slice _ _ _]) Tryz.sizeOf29 Tryz.isAgg29 rfl rfl rfl rfl) ?_
        refine sh rfl (g_ldO 0 (vs := [.bool _, .int .i64 _, .int .i64 _, .slice _ _ _]) Tryz.sizeOf29 Tryz.isAgg29 rfl rfl rfl rfl) ?_
        have hS0 := hS
        refine se rfl (d_store 3 hS Tryz.sizeOf29 rfl rfl rfl (vs := [.bool _, .int .i64 _, .int .i64 _, .slice _ _ _]) rfl rfl rfl (Nat.le_of_ble_eq_true rfl) (cs' := [_, _, _, _]) rfl) ?_
        rintro _ w_24 ⟨rfl, hS⟩
        refine ⟨_, _, fun _ h => h, hS.sel [true, true, false, false, true, true], ?_⟩
        have hS0 := hS
        refine se rfl (d_store 2 hS Tryz.sizeOf29 rfl rfl rfl (vs := [.bool _, .int .i64 _, .int .i64 _, .slice _ _ _]) rfl rfl rfl (Nat.le_of_ble_eq_true rfl) (cs' := [_, _, _, _]) rfl) ?_
        rintro _ w_25 ⟨rfl, hS⟩
        refine ⟨_, _, fun _ h => h, hS.sel [true, true, false, false, true, true], ?_⟩
        refine sp rfl (g_assignv (v := .int .i64 _) rfl) ?_
        refine sn (thenN ?_)
        refine wpIn_ret ?_
        refine ret3 Tryz.results74 (rv_cel 3 hS Tryz.sizeOf29 Tryz.isAgg29 rfl rfl rfl) (rv_cel 2 hS Tryz.sizeOf29 Tryz.isAgg29 rfl rfl rfl) (rv_tmp (v := .int .i64 _) rfl) ?_
        exact ⟨_, a46, m46, c46, a51, m51, c51, rfl, hS.nil, h46, h51⟩

end Go.Proofs.YtodopmclnklgdaaGreat

