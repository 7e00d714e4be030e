/- inlayref12.Join, parts, Same, Many: what they compute. Conditions: numbers within bounds, at most 64 patches. -/
import Derived.Test.YthningkgpanaoaaJoin
import Derived.Test.YthningkgpanaoaaRef8
import Derived.Test.YthningkgpanaoaaKComp
import Derived.Test.YthningkgpanaoaaBase9
namespace Go.Proofs.Ythningkgpanaoaa
open Go Go.RowKit Go.Inl
set_option linter.unusedSimpArgs false
set_option linter.unusedVariables false
theorem right_p (p : PatL) (ad : Option Addr) (m cap : Nat) (w0 : World) (I0 : Imm) (hI : Sat I0 w0) (hops : ROps I0 (.slice ad m cap) p.ops) (hp : p.wf) :
    Ctr Try.prog 54 [.agg #[.bool p.lifted, .int .i64 p.in_, .int .i64 p.out, .slice ad m cap]] w0 (fun v w' => v = .bool (decide ((checkP p).2 = 0)) ∧ Ext w0 I0 w' I0) := by
  have h := rightP_c p ad m cap w0 I0 hI hops hp
  rw [decide_eq_decide.2 (checkR_iff p)] at h
  exact h
theorem refSyms_ok (p : PatL) (ad : Option Addr) (m cap : Nat) (w0 : World) (I0 : Imm) (hI : Sat I0 w0) (hops : ROps I0 (.slice ad m cap) p.ops) (hp : p.wf) (hc : (checkP p).2 = 0) :
    Ctr Try.prog 28 [.agg #[.bool p.lifted, .int .i64 p.in_, .int .i64 p.out, .slice ad m cap]] w0 (fun v w' => ∃ I' a c, v = .tuple #[.slice a (symsOf p.ops).length c, .int .i64 0] ∧ Ext w0 I0 w' I' ∧ RSyms I' (.slice a (symsOf p.ops).length c) (symsOf p.ops)) := by
  have h := symbolsR_p p ad m cap w0 I0 hI hops hp
  rw [symbolsP_ok hc] at h
  exact h
theorem refCheap_V (vl : Value) (l : List Sym) (size : Int) (q : PatL) (w0 : World) (I0 : Imm) (hI : Sat I0 w0) (hl : RSyms I0 vl l) (hw : ∀ s ∈ l, s.wf) (hs : Mid size) (he : cheapP l size = (q, 0)) :
    Ctr Try.prog 50 [vl, .int .i64 size] w0 (fun v w' => ∃ I' a m c, v = .tuple #[.agg #[.bool q.lifted, .int .i64 q.in_, .int .i64 q.out, .slice a m c], .int .i64 0] ∧ Ext w0 I0 w' I' ∧ ROps I' (.slice a m c) q.ops) := by
  obtain ⟨ad, cap, rfl, _⟩ := hl.len
  exact refCheap_e ad _ cap l size (q, 0) w0 I0 hI hl rfl hw hs he
theorem cheapest_V (vl : Value) (l : List Sym) (size : Int) (q : PatL) (w0 : World) (I0 : Imm) (hI : Sat I0 w0) (hl : RSyms I0 vl l) (hw : ∀ s ∈ l, s.wf) (he : cheapP l size = (q, 0)) :
    Ctr Try.prog 49 [vl, .int .i64 size] w0 (fun v w' => ∃ I' a m c, v = .tuple #[.agg #[.bool q.lifted, .int .i64 q.in_, .int .i64 q.out, .slice a m c], .int .i64 0] ∧ Ext w0 I0 w' I' ∧ ROps I' (.slice a m c) q.ops) := by
  obtain ⟨ad, cap, rfl, _⟩ := hl.len
  exact cheapest_e ad _ cap l size q 0 w0 I0 hI hl rfl hw he
def rgC (r : Int × Int) : List Value := [.int .i64 r.1, .int .i64 r.2]
theorem rgC_len (r : Int × Int) : (rgC r).length = 2 := rfl
theorem sumO_le {l : List PatL} (h : ∀ p ∈ l, (checkP p).2 = 0) : ∀ k, sumO (l.take k) ≤ sumO l := by
  intro k
  have e : sumO l = sumO (l.take k) + sumO (l.drop k) := by
    unfold sumO
    rw [← List.sum_append, ← List.map_append, List.take_append_drop]
  have h2 := (sumO_take (l := l.drop k) (fun p hp => h p (List.mem_of_mem_drop hp)) (l.drop k).length).1
  rw [List.take_length] at h2
  omega
theorem all_eq {l : List PatL} {q : PatL → Bool} (h : ∀ p ∈ l, q p = false) : l.any q = false := by
  rw [List.any_eq_false]; intro p hp; rw [h p hp]; simp
def flatS (l : List PatL) : List Sym := l.flatMap fun p => symsOf p.ops
theorem flatS_snoc {l : List PatL} {k : Nat} {p : PatL} (h : l[k]? = some p) : flatS (l.take (k + 1)) = flatS (l.take k) ++ symsOf p.ops := by rw [take_snoc h]; simp [flatS]
theorem flatS_len {l : List PatL} (h : ∀ p ∈ l, (checkP p).2 = 0) (k : Nat) : ((flatS (l.take k)).length : Int) = sumO (l.take k) := flat_len fun p hp => h p (List.mem_of_mem_take hp)
structure FlS where
  k : Nat
  a : Option Addr
  c : Nat
theorem partP_wf {p : PatL} (hp : p.wf) (hc : (checkP p).2 = 0) (r : Int × Int) : ∀ s ∈ ((symsOf p.ops).take r.2.toNat).drop r.1.toNat, s.wf := by
  intro s hs
  refine symsOf_wf hp s ?_
  rw [symbolsP_ok hc]
  exact List.mem_of_mem_take (List.mem_of_mem_drop hs)
def samePL (a b : List PatL) : Bool := decide (a.length = b.length) && (a.zip b).all fun p => samePR p.1 p.2
theorem samePL_refl (l : List PatL) : samePL l l = true := by
  unfold samePL
  simp only [decide_true, Bool.true_and, List.all_eq_true]
  intro p hp
  obtain ⟨i, hi⟩ := List.mem_iff_getElem?.1 hp
  rw [List.getElem?_zip_eq_some] at hi
  have : p.1 = p.2 := Option.some.inj (hi.1.symm.trans hi.2)
  rw [this]; exact samePR_refl _

set_option maxHeartbeats 2000000 in
theorem refJoin_c (ad : Option Addr) (cap : Nat) (l : List PatL) (w0 : World) (I0 : Imm) (hI : Sat I0 w0) (hl : RPats I0 (.slice ad l.length cap) l) (hw : ∀ p ∈ l, p.wf) (hn : l.length ≤ 64) :
    Ctr Try.prog 42 [.slice ad l.length cap] w0 (fun v w' => ∃ I' a m c, v = .tuple #[.agg #[.bool (joinP l).1.lifted, .int .i64 (joinP l).1.in_, .int .i64 (joinP l).1.out, .slice a m c], .int .i64 (joinP l).2] ∧ Ext w0 I0 w' I' ∧ ROps I' (.slice a m c) (joinP l).1.ops) := by
  refine fn (n := 101) Try.func42 rfl rfl rfl ?_
  have hS := St.start hI
  refine wpIn_seq ?_
  refine reg ?_
  refine qe (d_alloc (cs := [.bool _, .int .i64 _, .int .i64 _, .slice _ _ _]) hS Try.zeroValue31 rfl) ?_
  clear hS
  rintro _ w_1 ⟨b2, rfl, hS⟩
  refine qq hS (g_assignv (v := .int .i64 _) rfl) ?_
  refine ol_nil (thenN ?_)
  refine wpIn_seq ?_
  refine wpIn_seq ?_
  refine reg ?_
  refine qq hS (g_move _) ?_
  refine qq hS (g_lenI rfl Try.underlying27 hl rfl) ?_
  refine qq hS (g_eql rfl rfl) ?_
  refine ol_nil (thenN ?_)
  refine cond_s rfl ?_ ?_
  ·
    intro hc14
    try simp only [Bool.and_eq_true, Bool.or_eq_true, Bool.not_eq_true', Bool.and_eq_false_imp, Bool.or_eq_false_iff, Bool.not_eq_false', decide_eq_true_eq, decide_eq_false_iff_not] at hc14
    have e : joinP l = (PatL.zero, 1) := by unfold joinP; rw [if_pos (List.length_eq_zero_iff.1 (by omega))]
    refine wpIn_seq ?_
    refine reg ?_
    refine qq hS (g_buildv (pl := [(0, 1), (1, 1), (2, 1), (3, 1)]) (cs := [.bool _, .int .i64 _, .int .i64 _, .slice _ _ _]) Try.zeroValue31 Try.underlying31 (fun w => by simp [Try.sizeOf29, Try.sizeOf3, Try.sizeOf4]) mp0 rfl) ?_
    refine qe (d_store 0 hS Try.sizeOf31 rfl rfl rfl (vs := [.bool _, .int .i64 _, .int .i64 _, .slice _ _ _]) rfl rfl rfl (Nat.le_of_ble_eq_true rfl) (cs' := [_, _, _, _]) rfl) ?_
    clear hS
    rintro _ w_2 ⟨rfl, hS⟩
    refine qq hS (g_assignv (v := .int .i64 _) rfl) ?_
    refine ol_nil (thenN ?_)
    refine wpIn_ret ?_
    refine thenR ?_
    rw [e]
    refine ret2 Try.results42 (rv_cel 0 hS Try.sizeOf31 Try.isAgg31 rfl rfl rfl) (rv_tmp (v := .int .i64 _) rfl) ?_
    first | exact ⟨_, none, 0, 0, rfl, hS.nil, RSl.nilR⟩ | exact ⟨_, a89, m89, c89, rfl, hS.nil, h89⟩
  ·
    intro hc14
    try simp only [Bool.and_eq_true, Bool.or_eq_true, Bool.not_eq_true', Bool.and_eq_false_imp, Bool.or_eq_false_iff, Bool.not_eq_false', decide_eq_true_eq, decide_eq_false_iff_not] at hc14
    have hne : l ≠ [] := by intro h; subst h; simp at hc14
    refine wpIn_skip ?_
    refine thenN ?_
    refine wpIn_seq ?_
    refine wpIn_seq ?_
    refine reg ?_
    refine qq hS (g_assignv (v := .int .i64 _) rfl) ?_
    refine ol_nil (thenN ?_)
    refine wpIn_block ?_
    refine loop (fun (k : Nat) σ w => okS σ [(0, .slice ad l.length cap), (2, .pointer (some ⟨b2, 0, none⟩)), (3, .int .i64 0), (4, .int .i64 k)] ∧ St [] w0 I0 I0 w [.cel b2 31 [.bool false, .int .i64 0, .int .i64 0, .slice none 0 0]] ∧ k ≤ l.length ∧ ∀ p ∈ l.take k, (checkP p).2 = 0) (fun k => l.length - k) (0) ?_ ?_
    ·
      exact ⟨⟨rfl, rfl, rfl, rfl, trivial⟩, hS.sel [true], by simp, by simp⟩
    ·
      rintro k σ w_l ⟨hs, hS, hk0, hchk⟩
      rw [← upds_self hs]; clear hs
      refine wpIn_seq ?_
      refine wpIn_seq ?_
      refine reg ?_
      refine qq hS (g_movev (v := .int .i64 _) rfl) ?_
      refine qq hS (g_move _) ?_
      refine qq hS (g_lenI rfl Try.underlying27 hl rfl) ?_
      refine qq hS (g_lss rfl rfl) ?_
      refine ol_nil (thenN ?_)
      refine cond_s rfl ?_ ?_
      ·
        intro hc19
        try simp only [Bool.and_eq_true, Bool.or_eq_true, Bool.not_eq_true', Bool.and_eq_false_imp, Bool.or_eq_false_iff, Bool.not_eq_false', decide_eq_true_eq, decide_eq_false_iff_not] at hc19
        obtain ⟨p, hpi⟩ : ∃ p, l[k]? = some p := ⟨_, List.getElem?_eq_getElem (by omega)⟩
        obtain ⟨cs, hcl, hpA, hpc⟩ := RSl.at hl hpi
        obtain ⟨adp, mq, cq, rfl, hpo⟩ := hpc
        have hpw := hw p (List.mem_of_getElem? hpi)
        refine wpIn_skip ?_
        refine thenN ?_
        refine wpIn_seq ?_
        refine wpIn_block ?_
        refine wpIn_seq ?_
        refine reg ?_
        refine qq hS (g_move _) ?_
        refine qq hS (g_movev (v := .int .i64 _) rfl) ?_
        refine qq hS (g_ixI Try.underlying27 Try.sizeOf31 hl rfl rfl (by omega) (by omega)) ?_
        refine qq hS (g_ldE (us := [.bool _, .int .i64 _, .int .i64 _, .slice _ _ _]) Try.sizeOf31 Try.isAgg31 hpA rfl rfl rfl) ?_
        refine qe (d_call Try.call54 rfl (right_p p adp mq cq _ _ hS.imm hpo hpw)) ?_
        rintro _ w_3 ⟨rfl, hE⟩
        replace hS := hS.callE hE
        refine qq hS (g_not rfl) ?_
        refine ol_nil (thenN ?_)
        refine cond_s rfl ?_ ?_
        ·
          intro hc27
          try simp only [Bool.and_eq_true, Bool.or_eq_true, Bool.not_eq_true', Bool.and_eq_false_imp, Bool.or_eq_false_iff, Bool.not_eq_false', decide_eq_true_eq, decide_eq_false_iff_not] at hc27
          have e : joinP l = (PatL.zero, 60) := by
            have h1 : (symbolsP p).2 ≠ 0 := fun h => hc27 (symsP_ok h).1
            rw [join_bad (List.mem_of_getElem? hpi) h1]
            congr 1
            rcases symbolsP_60 p with h | h
            · exact h
            · exact absurd h h1
          refine wpIn_seq ?_
          refine reg ?_
          refine qq hS (g_buildv (pl := [(0, 1), (1, 1), (2, 1), (3, 1)]) (cs := [.bool _, .int .i64 _, .int .i64 _, .slice _ _ _]) Try.zeroValue31 Try.underlying31 (fun w => by simp [Try.sizeOf29, Try.sizeOf3, Try.sizeOf4]) mp0 rfl) ?_
          refine qe (d_store 0 hS Try.sizeOf31 rfl rfl rfl (vs := [.bool _, .int .i64 _, .int .i64 _, .slice _ _ _]) rfl rfl rfl (Nat.le_of_ble_eq_true rfl) (cs' := [_, _, _, _]) rfl) ?_
          clear hS
          rintro _ w_4 ⟨rfl, hS⟩
          refine qq hS (g_assignv (v := .int .i64 _) rfl) ?_
          refine ol_nil (thenN ?_)
          refine wpIn_ret ?_
          refine blkR (thenR (thenR (blkR (thenR ?_))))
          rw [e]
          refine ret2 Try.results42 (rv_cel 0 hS Try.sizeOf31 Try.isAgg31 rfl rfl rfl) (rv_tmp (v := .int .i64 _) rfl) ?_
          first | exact ⟨_, none, 0, 0, rfl, hS.nil, RSl.nilR⟩ | exact ⟨_, a89, m89, c89, rfl, hS.nil, h89⟩
        ·
          intro hc27
          try simp only [Bool.and_eq_true, Bool.or_eq_true, Bool.not_eq_true', Bool.and_eq_false_imp, Bool.or_eq_false_iff, Bool.not_eq_false', decide_eq_true_eq, decide_eq_false_iff_not] at hc27
          have hpk : (checkP p).2 = 0 := hc27
          refine wpIn_skip ?_
          refine blkN (thenN ?_)
          refine reg ?_
          refine qq hS (g_movev (v := .int .i64 _) rfl) ?_
          refine qq hS (g_add rfl rfl (by omega) (by omega)) ?_
          refine qq hS (g_assignv (v := .int .i64 _) rfl) ?_
          refine ol_nil (thenN ?_)
          exact ⟨k + 1, _, rfl, ⟨⟨rfl, rfl, rfl, rfl, trivial⟩, hS.sel [true], by omega, fun y hy => by
              rw [take_snoc hpi] at hy
              rcases List.mem_append.1 hy with h | h
              · exact hchk y h
              · simp only [List.mem_singleton] at h; subst h; exact hpk⟩, by omega⟩
      ·
        intro hc19
        try simp only [Bool.and_eq_true, Bool.or_eq_true, Bool.not_eq_true', Bool.and_eq_false_imp, Bool.or_eq_false_iff, Bool.not_eq_false', decide_eq_true_eq, decide_eq_false_iff_not] at hc19
        have hk : k = l.length := by omega
        subst hk
        rw [List.take_length] at hchk
        refine wpIn_exit ?_
        refine thenE (thenE (blkE ?_))
        refine thenN ?_
        refine wpIn_seq ?_
        refine wpIn_seq ?_
        refine reg ?_
        refine qq hS (g_assignv (v := .int .i64 _) rfl) ?_
        refine ol_nil (thenN ?_)
        refine wpIn_block ?_
        obtain ⟨f, hfi⟩ : ∃ p, l[0]? = some p := ⟨_, List.getElem?_eq_getElem (by have := List.length_pos_iff.2 hne; omega)⟩
        obtain ⟨cs, hcl, hfA, hpc⟩ := RSl.at hl hfi
        obtain ⟨adf, mf, cf, rfl, hfo⟩ := hpc
        have hff : firstP l = f := by unfold firstP; rw [List.headD_eq_head?_getD, List.head?_eq_getElem?, hfi]; rfl
        have hfw := hw f (List.mem_of_getElem? hfi)
        have hdef := join_good hne hchk
        rw [hff] at hdef
        have hFw : ∀ s ∈ flatS l, s.wf := flat_wf hw hchk
        change joinP l = if _ then _ else if _ then _ else if (cheapP (flatS l) f.in_).2 ≠ 0 then (PatL.zero, (cheapP (flatS l) f.in_).2) else ({ (cheapP (flatS l) f.in_).1 with lifted := f.lifted }, 0) at hdef
        obtain ⟨C, hC⟩ : ∃ C, cheapP (flatS l) f.in_ = C := ⟨_, rfl⟩
        rw [hC] at hdef
        have hfA0 := hfA
        refine loop (fun (k : Nat) σ w => okS σ [(0, .slice ad l.length cap), (2, .pointer (some ⟨b2, 0, none⟩)), (3, .int .i64 0), (5, .int .i64 k)] ∧ St [] w0 I0 I0 w [.cel b2 31 [.bool false, .int .i64 0, .int .i64 0, .slice none 0 0]] ∧ k ≤ l.length ∧ ∀ p ∈ l.take k, (p.lifted != f.lifted) = false) (fun k => l.length - k) (0) ?_ ?_
        ·
          exact ⟨⟨rfl, rfl, rfl, rfl, trivial⟩, hS.sel [true], by simp, by simp⟩
        ·
          rintro k σ w_l ⟨hs, hS, hk0, hlf⟩
          rw [← upds_self hs]; clear hs
          refine wpIn_seq ?_
          refine wpIn_seq ?_
          refine reg ?_
          refine qq hS (g_movev (v := .int .i64 _) rfl) ?_
          refine qq hS (g_move _) ?_
          refine qq hS (g_lenI rfl Try.underlying27 hl rfl) ?_
          refine qq hS (g_lss rfl rfl) ?_
          refine ol_nil (thenN ?_)
          refine cond_s rfl ?_ ?_
          ·
            intro hc32
            try simp only [Bool.and_eq_true, Bool.or_eq_true, Bool.not_eq_true', Bool.and_eq_false_imp, Bool.or_eq_false_iff, Bool.not_eq_false', decide_eq_true_eq, decide_eq_false_iff_not] at hc32
            obtain ⟨p, hpi⟩ : ∃ p, l[k]? = some p := ⟨_, List.getElem?_eq_getElem (by omega)⟩
            obtain ⟨cs, hcl, hpA, hpc⟩ := RSl.at hl hpi
            obtain ⟨adp, mq, cq, rfl, hpo⟩ := hpc
            have hpw := hw p (List.mem_of_getElem? hpi)
            refine wpIn_skip ?_
            refine thenN ?_
            refine wpIn_seq ?_
            refine wpIn_block ?_
            refine wpIn_seq ?_
            refine draw (.cons 0 .pure (.cons 1 .pure (.cons 2 .pure (.cons 3 .pure (.cons 4 .held (.cons 5 .pure (.cons 6 .pure (.cons 7 .pure (.cons 8 .held (.cons 9 .pure .nil)))))))))) mixed (by kernel_rfl) hS ?_
            intro w_5 hS
            refine sp rfl (g_move _) ?_
            refine sp rfl (g_movev (v := .int .i64 _) rfl) ?_
            refine sp rfl (g_ixI Try.underlying27 Try.sizeOf31 hl rfl rfl (by omega) (by omega)) ?_
            refine sp rfl (g_fieldE (c' := 0) Try.underlying31 rfl Try.sizeOf4 rfl rfl rfl) ?_
            refine sh rfl (g_ldE1 Try.isAgg4 hpA rfl rfl) ?_
            refine sp rfl (g_move _) ?_
            refine sp rfl (g_ixI Try.underlying27 Try.sizeOf31 hl rfl rfl (by decide) (by omega)) ?_
            refine sp rfl (g_fieldE (c' := 0) Try.underlying31 rfl Try.sizeOf4 rfl rfl rfl) ?_
            refine sh rfl (g_ldE1 Try.isAgg4 hfA rfl rfl) ?_
            refine sp rfl (g_neqb Try.underlying4 rfl rfl) ?_
            refine sn (thenN ?_)
            refine cond_s rfl ?_ ?_
            ·
              intro hc44
              have e : joinP l = (PatL.zero, 62) := by rw [hdef, if_pos (List.any_eq_true.2 ⟨p, List.mem_of_getElem? hpi, hc44⟩)]
              refine wpIn_seq ?_
              refine reg ?_
              refine qq hS (g_buildv (pl := [(0, 1), (1, 1), (2, 1), (3, 1)]) (cs := [.bool _, .int .i64 _, .int .i64 _, .slice _ _ _]) Try.zeroValue31 Try.underlying31 (fun w => by simp [Try.sizeOf29, Try.sizeOf3, Try.sizeOf4]) mp0 rfl) ?_
              refine qe (d_store 0 hS Try.sizeOf31 rfl rfl rfl (vs := [.bool _, .int .i64 _, .int .i64 _, .slice _ _ _]) rfl rfl rfl (Nat.le_of_ble_eq_true rfl) (cs' := [_, _, _, _]) rfl) ?_
              clear hS
              rintro _ w_6 ⟨rfl, hS⟩
              refine qq hS (g_assignv (v := .int .i64 _) rfl) ?_
              refine ol_nil (thenN ?_)
              refine wpIn_ret ?_
              refine blkR (thenR (thenR (blkR (thenR ?_))))
              rw [e]
              refine ret2 Try.results42 (rv_cel 0 hS Try.sizeOf31 Try.isAgg31 rfl rfl rfl) (rv_tmp (v := .int .i64 _) rfl) ?_
              first | exact ⟨_, none, 0, 0, rfl, hS.nil, RSl.nilR⟩ | exact ⟨_, a89, m89, c89, rfl, hS.nil, h89⟩
            ·
              intro hc44
              refine wpIn_skip ?_
              refine blkN (thenN ?_)
              refine reg ?_
              refine qq hS (g_movev (v := .int .i64 _) rfl) ?_
              refine qq hS (g_add rfl rfl (by omega) (by omega)) ?_
              refine qq hS (g_assignv (v := .int .i64 _) rfl) ?_
              refine ol_nil (thenN ?_)
              exact ⟨k + 1, _, rfl, ⟨⟨rfl, rfl, rfl, rfl, trivial⟩, hS.sel [true], by omega, any_take hpi hlf hc44⟩, by omega⟩
          ·
            intro hc32
            try simp only [Bool.and_eq_true, Bool.or_eq_true, Bool.not_eq_true', Bool.and_eq_false_imp, Bool.or_eq_false_iff, Bool.not_eq_false', decide_eq_true_eq, decide_eq_false_iff_not] at hc32
            have hk : k = l.length := by omega
            subst hk
            rw [List.take_length] at hlf
            rw [if_neg (by rw [all_eq hlf]; decide)] at hdef
            refine wpIn_exit ?_
            refine thenE (thenE (blkE ?_))
            refine thenN ?_
            refine wpIn_seq ?_
            refine reg ?_
            refine qe (d_buildSlice0 hS Try.underlying37 Try.sizeOf54) ?_
            clear hS
            rintro _ w_7 ⟨hS, b46_, rfl⟩
            refine qq hS (g_assign _) ?_
            refine ol_nil (thenN ?_)
            refine wpIn_seq ?_
            refine wpIn_seq ?_
            refine reg ?_
            refine qq hS (g_assignv (v := .int .i64 _) rfl) ?_
            refine ol_nil (thenN ?_)
            refine wpIn_block ?_
            refine loop (fun (x : FlS) σ w => okS σ [(0, .slice ad l.length cap), (2, .pointer (some ⟨b2, 0, none⟩)), (3, .int .i64 0), (6, .slice x.a (flatS (l.take x.k)).length x.c), (7, .int .i64 x.k)] ∧ ∃ I, St [] w0 I0 I w [.row (.slice x.a (flatS (l.take x.k)).length x.c) 54 3 (flatS (l.take x.k)).length (flat symC (flatS (l.take x.k))), .cel b2 31 [.bool false, .int .i64 0, .int .i64 0, .slice none 0 0]] ∧ x.k ≤ l.length ∧ (∀ p ∈ l.take x.k, decide (p.in_ ≠ f.in_) = false) ∧ (flatS (l.take x.k)).length ≤ 65536) (fun x => l.length - x.k) (⟨0, some ⟨b46_, 0, none⟩, 0⟩) ?_ ?_
            ·
              exact ⟨⟨rfl, rfl, rfl, rfl, rfl, trivial⟩, _, hS.sel [true, true], by simp, by simp, by simp [flatS]⟩
            ·
              rintro ⟨k, x4a, x4c⟩ σ w_l ⟨hs, I, hS, hk0, hin, hlen⟩
              dsimp only at hs hS hk0 hin hlen ⊢
              rw [← upds_self hs]; clear hs
              refine wpIn_seq ?_
              refine wpIn_seq ?_
              refine reg ?_
              refine qq hS (g_movev (v := .int .i64 _) rfl) ?_
              refine qq hS (g_move _) ?_
              refine qq hS (g_lenI rfl Try.underlying27 (hl.mono hS.ext) rfl) ?_
              refine qq hS (g_lss rfl rfl) ?_
              refine ol_nil (thenN ?_)
              refine cond_s rfl ?_ ?_
              ·
                intro hc50
                try simp only [Bool.and_eq_true, Bool.or_eq_true, Bool.not_eq_true', Bool.and_eq_false_imp, Bool.or_eq_false_iff, Bool.not_eq_false', decide_eq_true_eq, decide_eq_false_iff_not] at hc50
                obtain ⟨p, hpi⟩ : ∃ p, l[k]? = some p := ⟨_, List.getElem?_eq_getElem (by omega)⟩
                obtain ⟨cs, hcl, hpA, hpc⟩ := RSl.at (hl.mono hS.ext) hpi
                obtain ⟨adp, mq, cq, rfl, hpo⟩ := hpc
                have hpw := hw p (List.mem_of_getElem? hpi)
                have hfA := hfA0.mono hS.ext
                have hpk := hchk p (List.mem_of_getElem? hpi)
                have hpc := checkP_ok hpk
                have hfl := flatS_len hchk (k + 1)
                have hfs := flatS_snoc hpi
                have hsl := sumO_le hchk (k + 1)
                refine wpIn_skip ?_
                refine thenN ?_
                refine wpIn_seq ?_
                refine wpIn_block ?_
                refine wpIn_seq ?_
                refine reg ?_
                refine qq hS (g_move _) ?_
                refine qq hS (g_movev (v := .int .i64 _) rfl) ?_
                refine qq hS (g_ixI Try.underlying27 Try.sizeOf31 (hl.mono hS.ext) rfl rfl (by omega) (by omega)) ?_
                refine qq hS (g_ldE (us := [.bool _, .int .i64 _, .int .i64 _, .slice _ _ _]) Try.sizeOf31 Try.isAgg31 hpA rfl rfl rfl) ?_
                refine qe (d_call Try.call28 rfl (refSyms_ok p adp mq cq _ _ hS.imm hpo hpw hpk)) ?_
                rintro _ w_8 ⟨I_f, a58, c58, rfl, hE, h58⟩
                replace hS := hS.callE hE
                replace hfA := hfA.mono hE.ext
                replace hpA := hpA.mono hE.ext
                refine qq hS (g_move _) ?_
                refine qq hS (g_extract rfl rfl) ?_
                refine qq hS (g_extract (v := .int .i64 _) rfl rfl) ?_
                refine qq hS (g_assign _) ?_
                refine qq hS (g_assignv (v := .int .i64 _) rfl) ?_
                refine ol_nil (thenN ?_)
                refine wpIn_seq ?_
                refine wpIn_seq ?_
                refine draw (.cons 0 .pure (.cons 1 .pure (.cons 2 .pure (.cons 3 .pure (.cons 4 .held (.cons 5 .pure (.cons 6 .pure (.cons 7 .pure (.cons 8 .held (.cons 9 .pure (.cons 10 .pure (.cons 11 .pure (.cons 12 .held (.cons 13 .pure (.cons 14 .pure (.cons 15 .pure (.cons 16 .pure (.cons 17 .pure .nil)))))))))))))))))) mixed (by kernel_rfl) hS ?_
                intro w_9 hS
                refine sp rfl (g_move _) ?_
                refine sp rfl (g_movev (v := .int .i64 _) rfl) ?_
                refine sp rfl (g_ixI Try.underlying27 Try.sizeOf31 (hl.mono hS.ext) rfl rfl (by omega) (by omega)) ?_
                refine sp rfl (g_fieldE (c' := 1) Try.underlying31 rfl Try.sizeOf3 rfl rfl rfl) ?_
                refine sh rfl (g_ldE1 Try.isAgg3 hpA rfl rfl) ?_
                refine sp rfl (g_move _) ?_
                refine sp rfl (g_ixI Try.underlying27 Try.sizeOf31 (hl.mono hS.ext) rfl rfl (by decide) (by omega)) ?_
                refine sp rfl (g_fieldE (c' := 1) Try.underlying31 rfl Try.sizeOf3 rfl rfl rfl) ?_
                refine sh rfl (g_ldE1 Try.isAgg3 hfA rfl rfl) ?_
                refine sp rfl (g_neq rfl rfl) ?_
                refine sp rfl (g_movev (v := .bool _) rfl) ?_
                refine spu rfl rfl rfl (fun hg => (g_move _)) ?_
                intro u72 hu72 hn72
                refine shu rfl rfl rfl (fun hg => (g_lenR 0 rfl Try.underlying37 rfl (hu72 hg))) ?_
                intro u73 hu73 hn73
                refine spu rfl rfl rfl (fun hg => (g_move _)) ?_
                intro u74 hu74 hn74
                refine spu rfl rfl rfl (fun hg => (g_lenI rfl Try.underlying37 h58 (hu74 hg))) ?_
                intro u75 hu75 hn75
                refine spu rfl rfl rfl (fun hg => (g_add (hu73 hg) (hu75 hg) (by omega) (by omega))) ?_
                intro u76 hu76 hn76
                refine spu rfl rfl rfl (fun hg => (g_gtr (hu76 hg) rfl)) ?_
                intro u77 hu77 hn77
                refine sp rfl (g_or rfl rfl (fun hq => hu77 hq)) ?_
                refine sn (thenN ?_)
                refine cond_s rfl ?_ ?_
                ·
                  intro hc78
                  clear hu72 hn72 hu73 hn73 hu74 hn74 hu75 hn75 hu76 hn76 hu77 hn77
                  try simp only [Bool.and_eq_true, Bool.or_eq_true, Bool.not_eq_true', Bool.and_eq_false_imp, Bool.or_eq_false_iff, Bool.not_eq_false', decide_eq_true_eq, decide_eq_false_iff_not] at hc78
                  have e : joinP l = (PatL.zero, 61) := by
                    rw [hdef, if_pos]
                    rcases hc78 with h | h
                    · have h1 : l.any (fun p => decide (p.in_ ≠ f.in_)) = true := List.any_eq_true.2 ⟨p, List.mem_of_getElem? hpi, by simpa using h⟩
                      rw [h1, Bool.or_true]
                    · have h1 : 65536 < sumO l := by
                        rw [hfs, List.length_append] at hfl
                        omega
                      rw [decide_eq_true h1, Bool.true_or]
                  refine wpIn_seq ?_
                  refine reg ?_
                  refine qq hS (g_buildv (pl := [(0, 1), (1, 1), (2, 1), (3, 1)]) (cs := [.bool _, .int .i64 _, .int .i64 _, .slice _ _ _]) Try.zeroValue31 Try.underlying31 (fun w => by simp [Try.sizeOf29, Try.sizeOf3, Try.sizeOf4]) mp0 rfl) ?_
                  refine qe (d_store 1 hS Try.sizeOf31 rfl rfl rfl (vs := [.bool _, .int .i64 _, .int .i64 _, .slice _ _ _]) rfl rfl rfl (Nat.le_of_ble_eq_true rfl) (cs' := [_, _, _, _]) rfl) ?_
                  clear hS
                  rintro _ w_10 ⟨rfl, hS⟩
                  refine qq hS (g_assignv (v := .int .i64 _) rfl) ?_
                  refine ol_nil (thenN ?_)
                  refine wpIn_ret ?_
                  refine thenR (blkR (thenR (thenR (blkR (thenR ?_)))))
                  rw [e]
                  refine ret2 Try.results42 (rv_cel 1 hS Try.sizeOf31 Try.isAgg31 rfl rfl rfl) (rv_tmp (v := .int .i64 _) rfl) ?_
                  first | exact ⟨_, none, 0, 0, rfl, hS.nil, RSl.nilR⟩ | exact ⟨_, a89, m89, c89, rfl, hS.nil, h89⟩
                ·
                  intro hc78
                  clear hu72 hn72 hu73 hn73 hu74 hn74 hu75 hn75 hu76 hn76 hu77 hn77
                  try simp only [Bool.and_eq_true, Bool.or_eq_true, Bool.not_eq_true', Bool.and_eq_false_imp, Bool.or_eq_false_iff, Bool.not_eq_false', decide_eq_true_eq, decide_eq_false_iff_not] at hc78
                  have hpin : decide (p.in_ ≠ f.in_) = false := by simpa using hc78.1
                  have hlen2 : (flatS (l.take (k + 1))).length ≤ 65536 := by rw [hfs, List.length_append]; omega
                  refine wpIn_skip ?_
                  refine thenN ?_
                  refine reg ?_
                  refine qq hS (g_move _) ?_
                  refine qq hS (g_move _) ?_
                  refine qe (i_appendF 0 hS rfl Try.underlying37 info54 rfl rfl rfl rfl symC_len (fun _ => rfl) h58 rfl (by omega) (by omega)) ?_
                  clear hS
                  rintro _ w_11 ⟨a82, p82, rfl, hS⟩
                  refine qq hS (g_assign _) ?_
                  refine ol_nil (blkN (thenN ?_))
                  refine reg ?_
                  refine qq hS (g_movev (v := .int .i64 _) rfl) ?_
                  refine qq hS (g_add rfl rfl (by omega) (by omega)) ?_
                  refine qq hS (g_assignv (v := .int .i64 _) rfl) ?_
                  refine ol_nil (thenN ?_)
                  refine ⟨⟨k + 1, a82, p82⟩, _, rfl, ⟨⟨rfl, rfl, rfl, ?_, rfl, trivial⟩, I_f, ?_, by dsimp only; omega, any_take hpi hin hpin, hlen2⟩, by dsimp only; omega⟩
                  · dsimp only; rw [hfs, List.length_append]; rfl
                  · dsimp only; rw [hfs, List.length_append, flat_append]; exact hS.sel [true, true]
              ·
                intro hc50
                try simp only [Bool.and_eq_true, Bool.or_eq_true, Bool.not_eq_true', Bool.and_eq_false_imp, Bool.or_eq_false_iff, Bool.not_eq_false', decide_eq_true_eq, decide_eq_false_iff_not] at hc50
                have hk : k = l.length := by omega
                subst hk
                refine wpIn_exit ?_
                refine thenE (thenE (blkE ?_))
                refine thenN ?_
                refine wpIn_seq ?_
                have hS0 := hS
                obtain ⟨I3, hS3, hI3, h6⟩ := St.freezeRow symC_len hS rfl
                clear hS
                replace hS := hS3
                clear hS3
                have hSl : (flatS (l.take l.length)).length = (flatS l).length := by rw [List.take_length]
                replace h6 : RSyms I3 (.slice x4a (flatS (l.take l.length)).length x4c) (flatS l) := by
                  have h := h6
                  rw [List.take_length] at h ⊢
                  exact h
                have hfA := hfA0.mono hS.ext
                rw [if_neg (by
                  rw [List.take_length] at hin hlen
                  have h1 := flatS_len hchk l.length
                  rw [List.take_length] at h1
                  rw [all_eq hin, Bool.or_false]
                  simp; omega)] at hdef
                refine reg ?_
                refine qq hS (g_move _) ?_
                refine qq hS (g_move _) ?_
                refine qq hS (g_ixI Try.underlying27 Try.sizeOf31 (hl.mono hS.ext) rfl rfl (by decide) (by omega)) ?_
                refine qq hS (g_fieldE (c' := 1) Try.underlying31 rfl Try.sizeOf3 rfl rfl rfl) ?_
                refine qq hS (g_ldE1 Try.isAgg3 hfA rfl rfl) ?_
                refine qe (d_call Try.call50 rfl (refCheap_e x4a _ x4c (flatS l) f.in_ C _ _ hS.imm h6 hSl hFw hfw.in_ hC)) ?_
                rintro _ w_12 ⟨I_f, a89, m89, c89, rfl, hE, h89⟩
                replace hS := hS.callE hE
                replace h6 := h6.mono hE.ext
                replace hfA := hfA.mono hE.ext
                refine qq hS (g_move _) ?_
                refine qq hS (g_extract rfl rfl) ?_
                refine qq hS (g_extract (v := .int .i64 _) rfl rfl) ?_
                refine qe (d_alloc (cs := [.bool _, .int .i64 _, .int .i64 _, .slice _ _ _]) hS Try.zeroValue31 rfl) ?_
                clear hS
                rintro _ w_13 ⟨b10, rfl, hS⟩
                refine qe (d_store 0 hS Try.sizeOf31 rfl rfl rfl (vs := [.bool _, .int .i64 _, .int .i64 _, .slice _ _ _]) rfl rfl rfl (Nat.le_of_ble_eq_true rfl) (cs' := [_, _, _, _]) rfl) ?_
                clear hS
                rintro _ w_14 ⟨rfl, hS⟩
                refine qq hS (g_assignv (v := .int .i64 _) rfl) ?_
                refine ol_nil (thenN ?_)
                refine wpIn_seq ?_
                refine wpIn_seq ?_
                refine reg ?_
                refine qq hS (g_movev (v := .int .i64 _) rfl) ?_
                refine qq hS (g_eql rfl rfl) ?_
                refine ol_nil (thenN ?_)
                refine cond_s rfl ?_ ?_
                ·
                  intro hc93
                  try simp only [Bool.and_eq_true, Bool.or_eq_true, Bool.not_eq_true', Bool.and_eq_false_imp, Bool.or_eq_false_iff, Bool.not_eq_false', decide_eq_true_eq, decide_eq_false_iff_not] at hc93
                  have e : joinP l = ({ C.1 with lifted := f.lifted }, C.2) := by rw [hdef, if_neg (by rw [hc93]; decide), hc93]
                  refine reg ?_
                  refine qq hS (g_move _) ?_
                  refine qq hS (g_ixI Try.underlying27 Try.sizeOf31 (hl.mono hS.ext) rfl rfl (by decide) (by omega)) ?_
                  refine qq hS (g_fieldE (c' := 0) Try.underlying31 rfl Try.sizeOf4 rfl rfl rfl) ?_
                  refine qq hS (g_ldE1 Try.isAgg4 hfA rfl rfl) ?_
                  refine qq hS (g_fieldAddr (o' := 0) Try.underlying31 rfl Try.sizeOf4 rfl rfl rfl) ?_
                  refine qe (d_store 0 hS Try.sizeOf4 rfl rfl rfl (vs := [.bool _]) rfl rfl rfl (Nat.le_of_ble_eq_true rfl) (cs' := [_, _, _, _]) rfl) ?_
                  clear hS
                  rintro _ w_15 ⟨rfl, hS⟩
                  refine ol_nil (thenN ?_)
                  refine wpIn_seq ?_
                  refine reg ?_
                  refine qq hS (g_ldO 0 (vs := [.bool _, .int .i64 _, .int .i64 _, .slice _ _ _]) Try.sizeOf31 Try.isAgg31 rfl rfl rfl rfl) ?_
                  refine qq hS (g_movev (v := .int .i64 _) rfl) ?_
                  refine qe (d_store 1 hS Try.sizeOf31 rfl rfl rfl (vs := [.bool _, .int .i64 _, .int .i64 _, .slice _ _ _]) rfl rfl rfl (Nat.le_of_ble_eq_true rfl) (cs' := [_, _, _, _]) rfl) ?_
                  clear hS
                  rintro _ w_16 ⟨rfl, hS⟩
                  refine qq hS (g_assignv (v := .int .i64 _) rfl) ?_
                  refine ol_nil (thenN ?_)
                  refine wpIn_ret ?_
                  rw [e]
                  refine ret2 Try.results42 (rv_cel 1 hS Try.sizeOf31 Try.isAgg31 rfl rfl rfl) (rv_tmp (v := .int .i64 _) rfl) ?_
                  first | exact ⟨_, none, 0, 0, rfl, hS.nil, RSl.nilR⟩ | exact ⟨_, a89, m89, c89, rfl, hS.nil, h89⟩
                ·
                  intro hc93
                  try simp only [Bool.and_eq_true, Bool.or_eq_true, Bool.not_eq_true', Bool.and_eq_false_imp, Bool.or_eq_false_iff, Bool.not_eq_false', decide_eq_true_eq, decide_eq_false_iff_not] at hc93
                  have e : joinP l = (C.1, C.2) := by
                    rw [hdef, if_pos hc93]
                    have := cheap_zero (l := flatS l) (n := f.in_) (by rw [hC]; exact hc93)
                    rw [hC] at this
                    rw [this]
                  refine wpIn_skip ?_
                  refine thenN ?_
                  refine wpIn_seq ?_
                  refine reg ?_
                  refine qq hS (g_ldO 0 (vs := [.bool _, .int .i64 _, .int .i64 _, .slice _ _ _]) Try.sizeOf31 Try.isAgg31 rfl rfl rfl rfl) ?_
                  refine qq hS (g_movev (v := .int .i64 _) rfl) ?_
                  refine qe (d_store 1 hS Try.sizeOf31 rfl rfl rfl (vs := [.bool _, .int .i64 _, .int .i64 _, .slice _ _ _]) rfl rfl rfl (Nat.le_of_ble_eq_true rfl) (cs' := [_, _, _, _]) rfl) ?_
                  clear hS
                  rintro _ w_17 ⟨rfl, hS⟩
                  refine qq hS (g_assignv (v := .int .i64 _) rfl) ?_
                  refine ol_nil (thenN ?_)
                  refine wpIn_ret ?_
                  rw [e]
                  refine ret2 Try.results42 (rv_cel 1 hS Try.sizeOf31 Try.isAgg31 rfl rfl rfl) (rv_tmp (v := .int .i64 _) rfl) ?_
                  first | exact ⟨_, none, 0, 0, rfl, hS.nil, RSl.nilR⟩ | exact ⟨_, a89, m89, c89, rfl, hS.nil, h89⟩

set_option maxHeartbeats 2000000 in
theorem parts_c (p : PatL) (rs : List (Int × Int)) (ad rd : Option Addr) (m cap rcap : Nat) (w0 : World) (I0 : Imm) (hI : Sat I0 w0) (hops : ROps I0 (.slice ad m cap) p.ops) (hp : p.wf) (hc : (checkP p).2 = 0) (ho : p.out ≤ 4096) (hr : RFl I0 2 rgC (.slice rd rs.length rcap) rs) (hin : RangesIn rs p.out) (hrn : rs.length ≤ 65536) :
    Ctr Try.prog 64 [.agg #[.bool p.lifted, .int .i64 p.in_, .int .i64 p.out, .slice ad m cap], .slice rd rs.length rcap] w0 (fun v w' => ∃ I' a c, v = .tuple #[.slice a (partsP p rs).length c, .int .i64 0] ∧ Ext w0 I0 w' I' ∧ RPats I' (.slice a (partsP p rs).length c) (partsP p rs)) := by
  have hrl := RSl.le hr
  simp only [maxLen] at hrl
  have hck := checkP_ok hc
  have hpin := hp.in_
  refine fn (n := 50) Try.func64 rfl rfl rfl ?_
  have hS := St.start hI
  refine wpIn_seq ?_
  refine reg ?_
  refine qe (d_box (cs := [.bool _, .int .i64 _, .int .i64 _, .slice _ _ _]) hS rfl) ?_
  clear hS
  rintro _ w_1 ⟨b2, rfl, hS⟩
  refine qq hS (g_assign _) ?_
  refine qq hS (g_assignv (v := .int .i64 _) rfl) ?_
  refine ol_nil (thenN ?_)
  refine wpIn_seq ?_
  refine reg ?_
  refine qq hS (g_ldO 0 (vs := [.bool _, .int .i64 _, .int .i64 _, .slice _ _ _]) Try.sizeOf31 Try.isAgg31 rfl rfl rfl rfl) ?_
  refine qe (d_call Try.call28 rfl (refSyms_ok p ad m cap _ _ hS.imm hops hp hc)) ?_
  rintro _ w_2 ⟨I5, a5, c5, rfl, hE, h5⟩
  replace hS := hS.callE hE
  replace hops := hops.mono hE.ext
  refine qq hS (g_move _) ?_
  refine qq hS (g_extract rfl rfl) ?_
  refine qq hS (g_extract (v := .int .i64 _) rfl rfl) ?_
  refine qq hS (g_assign _) ?_
  refine qq hS (g_assignv (v := .int .i64 _) rfl) ?_
  refine ol_nil (thenN ?_)
  refine wpIn_seq ?_
  refine reg ?_
  refine qe (d_buildSlice0 hS Try.underlying27 Try.sizeOf31) ?_
  clear hS
  rintro _ w_3 ⟨hS, b17_, rfl⟩
  refine qq hS (g_assign _) ?_
  refine ol_nil (thenN ?_)
  refine wpIn_seq ?_
  refine wpIn_seq ?_
  refine reg ?_
  refine qq hS (g_assignv (v := .int .i64 _) rfl) ?_
  refine ol_nil (thenN ?_)
  refine wpIn_block ?_
  refine loop (fun (x : ChS) σ w => okS σ [(1, .slice rd rs.length rcap), (2, .pointer (some ⟨b2, 0, none⟩)), (4, .slice none 0 0), (5, .int .i64 0), (6, .slice a5 (symsOf p.ops).length c5), (8, .slice x.a x.k x.c), (9, .int .i64 x.k)] ∧ ∃ I, St [] w0 I0 I w [.row (.slice x.a x.k x.c) 31 4 x.k x.css.flatten, .cel b2 31 [.bool p.lifted, .int .i64 p.in_, .int .i64 p.out, .slice ad m cap]] ∧ x.k ≤ rs.length ∧ All2 (RPatC I) x.css (partsP p (rs.take x.k)) ∧ (∀ cs ∈ x.css, cs.length = 4) ∧ RSyms I (.slice a5 (symsOf p.ops).length c5) (symsOf p.ops)) (fun x => rs.length - x.k) (⟨0, [], some ⟨b17_, 0, none⟩, 0⟩) ?_ ?_
  ·
    exact ⟨⟨rfl, rfl, rfl, rfl, rfl, rfl, rfl, trivial⟩, _, hS.sel [true, true], by simp, by simpa [partsP] using All2.nil _, by simp, h5⟩
  ·
    rintro ⟨k, css, a, c⟩ σ w_l ⟨hs, I, hS, hk0, hall, hcl4, h5⟩
    dsimp only at hs hS hk0 hall hcl4 h5 ⊢
    rw [← upds_self hs]; clear hs
    refine wpIn_seq ?_
    refine wpIn_seq ?_
    refine reg ?_
    refine qq hS (g_movev (v := .int .i64 _) rfl) ?_
    refine qq hS (g_move _) ?_
    refine qq hS (g_lenI rfl Try.underlying112 (hr.mono hS.ext) rfl) ?_
    refine qq hS (g_lss rfl rfl) ?_
    refine ol_nil (thenN ?_)
    refine cond_s rfl ?_ ?_
    ·
      intro hc21
      try simp only [Bool.and_eq_true, Bool.or_eq_true, Bool.not_eq_true', Bool.and_eq_false_imp, Bool.or_eq_false_iff, Bool.not_eq_false', decide_eq_true_eq, decide_eq_false_iff_not] at hc21
      obtain ⟨r, hri⟩ : ∃ r, rs[k]? = some r := ⟨_, List.getElem?_eq_getElem (by omega)⟩
      have hrA := (hr.mono hS.ext).at hri
      have hrin := hin r (List.mem_of_getElem? hri)
      have hpr : cheapP (((symsOf p.ops).take r.2.toNat).drop r.1.toNat) p.in_ = (partP p r, 0) := by unfold partP; rw [part_ok hc ho r]
      have hc5 := (h5.resl2 0 (symsOf p.ops).length (by omega) (Nat.le_refl _)).2.1
      refine wpIn_skip ?_
      refine thenN ?_
      refine wpIn_seq ?_
      refine wpIn_block ?_
      refine wpIn_seq ?_
      refine draw (.cons 0 .pure (.cons 1 .pure (.cons 2 .pure (.cons 3 .pure (.cons 4 .pure (.cons 5 .held (.cons 6 .pure (.cons 7 .pure (.cons 8 .pure (.cons 9 .pure (.cons 10 .held (.cons 11 .pure (.cons 12 .pure (.cons 13 .held (.fork 14 (.cons 15 .pure (.cons 16 .pure (.cons 17 .pure (.cons 18 .eff (.cons 19 .bar (.cons 20 .pure .nil)))))) 18 (.cons 14 .eff (.cons 15 .pure (.cons 16 .pure (.cons 17 .pure (.cons 19 .bar (.cons 20 .pure .nil))))))))))))))))))))) mixed (by kernel_rfl) hS ?_
      intro w_4 hS
      refine sp rfl (g_move _) ?_
      refine sp rfl (g_move _) ?_
      refine sp rfl (g_movev (v := .int .i64 _) rfl) ?_
      refine sp rfl (g_ixI Try.underlying112 Try.sizeOf110 (hr.mono hS.ext) rfl rfl (by omega) (by omega)) ?_
      refine sp rfl (g_fieldE (c' := 0) Try.underlying110 rfl Try.sizeOf3 rfl rfl rfl) ?_
      refine sh rfl (g_ldE1 Try.isAgg3 hrA rfl rfl) ?_
      refine sp rfl (g_move _) ?_
      refine sp rfl (g_movev (v := .int .i64 _) rfl) ?_
      refine sp rfl (g_ixI Try.underlying112 Try.sizeOf110 (hr.mono hS.ext) rfl rfl (by omega) (by omega)) ?_
      refine sp rfl (g_fieldE (c' := 1) Try.underlying110 rfl Try.sizeOf3 rfl rfl rfl) ?_
      refine sh rfl (g_ldE1 Try.isAgg3 hrA rfl rfl) ?_
      refine sp rfl (g_slice2N (l0 := r.1.toNat) (h0 := r.2.toNat) Try.underlying37 Try.sizeOf54 rfl rfl rfl (by omega) (by omega) (by omega) rfl rfl) ?_
      refine sp rfl (g_fieldAddr (o' := 1) Try.underlying31 rfl Try.sizeOf3 rfl rfl rfl) ?_
      refine sh rfl (g_ldO1 1 Try.isAgg3 rfl rfl rfl) ?_
      refine sk ?_ ?_
      ·
        have hS0 := hS
        refine se rfl (d_call Try.call50 rfl (refCheap_V _ (((symsOf p.ops).take r.2.toNat).drop r.1.toNat) p.in_ (partP p r) _ _ hS.imm (h5.resl2 r.1.toNat r.2.toNat (by omega) (by omega)).1 (partP_wf hp hc r) hpin hpr)) ?_
        rintro _ w_5 ⟨I_f, a39, m39, c39, rfl, hE, h39⟩
        replace hS := hS.call hE
        replace h5 := h5.mono hE.ext
        refine ⟨_, _, hS0.le hE.ext (List.Sublist.refl _), hS, ?_⟩
        refine sp rfl (g_move _) ?_
        refine sp rfl (g_extract rfl rfl) ?_
        refine sp rfl (g_extract (v := .int .i64 _) rfl rfl) ?_
        have hS0 := hS
        refine se rfl (d_alloc (cs := [.bool _, .int .i64 _, .int .i64 _, .slice _ _ _]) hS Try.zeroValue31 rfl) ?_
        rintro _ w_6 ⟨b10, rfl, hS⟩
        refine ⟨_, _, hS0.le (Sub.refl _) (List.sublist_cons_self _ _), hS, ?_⟩
        refine sb rfl (d_store 0 hS Try.sizeOf31 rfl rfl rfl (vs := [.bool _, .int .i64 _, .int .i64 _, .slice _ _ _]) rfl rfl rfl (Nat.le_of_ble_eq_true rfl) (cs' := [_, _, _, _]) rfl) ?_
        rintro _ w_7 ⟨rfl, hS⟩
        refine ⟨_, _, hS, ?_⟩
        refine sp rfl (g_assignv (v := .int .i64 _) rfl) ?_
        refine sn (thenN ?_)
        refine wpIn_seq ?_
        refine wpIn_seq ?_
        refine reg ?_
        refine qq hS (g_movev (v := .int .i64 _) rfl) ?_
        refine qq hS (g_neq rfl rfl) ?_
        refine ol_nil (thenN ?_)
        refine cond_f (rfl) ?_
        refine wpIn_skip ?_
        refine thenN ?_
        refine reg ?_
        refine qq hS (g_move _) ?_
        refine qq hS (g_ldO 0 (vs := [.bool _, .int .i64 _, .int .i64 _, .slice _ _ _]) Try.sizeOf31 Try.isAgg31 rfl rfl rfl rfl) ?_
        refine qe (d_lit (vs := [.agg #[.bool _, .int .i64 _, .int .i64 _, .slice _ _ _]]) (cs := [.bool _, .int .i64 _, .int .i64 _, .slice _ _ _]) hS Try.underlying27 Try.sizeOf31 Try.zeroValue31 rfl rfl rfl rfl (fun v hv => by simp only [List.mem_cons, List.not_mem_nil, or_false] at hv; subst hv; rfl) rfl) ?_
        clear hS
        rintro _ w_8 ⟨b_8, rfl, hS⟩
        refine qe (i_appendO 2 0 hS rfl Try.underlying27 info31 rfl rfl rfl rfl rfl rfl rfl rfl (by omega) (by omega)) ?_
        clear hS
        rintro _ w_9 ⟨a48, p48, rfl, hS⟩
        refine qq hS (g_assign _) ?_
        refine ol_nil (blkN (thenN ?_))
        refine reg ?_
        refine qq hS (g_movev (v := .int .i64 _) rfl) ?_
        refine qq hS (g_add rfl rfl (by omega) (by omega)) ?_
        refine qq hS (g_assignv (v := .int .i64 _) rfl) ?_
        refine ol_nil (thenN ?_)
        refine ⟨⟨k + 1, css ++ [[.bool (partP p r).lifted, .int .i64 (partP p r).in_, .int .i64 (partP p r).out, .slice a39 m39 c39]], a48, p48⟩, _, rfl, ⟨⟨rfl, rfl, rfl, rfl, rfl, rfl, rfl, trivial⟩, I_f, ?_, by dsimp only; omega, ?_, ?_, h5⟩, by dsimp only; omega⟩
        · dsimp only
          rw [List.flatten_append, List.flatten_singleton]
          exact hS.sel [false, false, true, true]
        · dsimp only
          unfold partsP at hall ⊢
          rw [take_snoc hri, List.map_append]
          exact All2.snoc (hall.mono fun _ _ h => h.mono hE.ext) ⟨_, _, _, rfl, h39⟩
        · intro cs hcs
          rcases List.mem_append.1 hcs with h | h
          · exact hcl4 cs h
          · simp only [List.mem_singleton] at h; subst h; rfl
      ·
        have hS0 := hS
        refine se rfl (d_alloc (cs := [.bool _, .int .i64 _, .int .i64 _, .slice _ _ _]) hS Try.zeroValue31 rfl) ?_
        rintro _ w_10 ⟨b10, rfl, hS⟩
        refine ⟨_, _, hS0.le (Sub.refl _) (List.sublist_cons_self _ _), hS, ?_⟩
        have hS0 := hS
        refine se rfl (d_call Try.call50 rfl (refCheap_V _ (((symsOf p.ops).take r.2.toNat).drop r.1.toNat) p.in_ (partP p r) _ _ hS.imm (h5.resl2 r.1.toNat r.2.toNat (by omega) (by omega)).1 (partP_wf hp hc r) hpin hpr)) ?_
        rintro _ w_11 ⟨I_f, a39, m39, c39, rfl, hE, h39⟩
        replace hS := hS.call hE
        replace h5 := h5.mono hE.ext
        refine ⟨_, _, hS0.le hE.ext (List.Sublist.refl _), hS, ?_⟩
        refine sp rfl (g_move _) ?_
        refine sp rfl (g_extract rfl rfl) ?_
        refine sp rfl (g_extract (v := .int .i64 _) rfl rfl) ?_
        refine sb rfl (d_store 0 hS Try.sizeOf31 rfl rfl rfl (vs := [.bool _, .int .i64 _, .int .i64 _, .slice _ _ _]) rfl rfl rfl (Nat.le_of_ble_eq_true rfl) (cs' := [_, _, _, _]) rfl) ?_
        rintro _ w_12 ⟨rfl, hS⟩
        refine ⟨_, _, hS, ?_⟩
        refine sp rfl (g_assignv (v := .int .i64 _) rfl) ?_
        refine sn (thenN ?_)
        refine wpIn_seq ?_
        refine wpIn_seq ?_
        refine reg ?_
        refine qq hS (g_movev (v := .int .i64 _) rfl) ?_
        refine qq hS (g_neq rfl rfl) ?_
        refine ol_nil (thenN ?_)
        refine cond_f (rfl) ?_
        refine wpIn_skip ?_
        refine thenN ?_
        refine reg ?_
        refine qq hS (g_move _) ?_
        refine qq hS (g_ldO 0 (vs := [.bool _, .int .i64 _, .int .i64 _, .slice _ _ _]) Try.sizeOf31 Try.isAgg31 rfl rfl rfl rfl) ?_
        refine qe (d_lit (vs := [.agg #[.bool _, .int .i64 _, .int .i64 _, .slice _ _ _]]) (cs := [.bool _, .int .i64 _, .int .i64 _, .slice _ _ _]) hS Try.underlying27 Try.sizeOf31 Try.zeroValue31 rfl rfl rfl rfl (fun v hv => by simp only [List.mem_cons, List.not_mem_nil, or_false] at hv; subst hv; rfl) rfl) ?_
        clear hS
        rintro _ w_13 ⟨b_13, rfl, hS⟩
        refine qe (i_appendO 2 0 hS rfl Try.underlying27 info31 rfl rfl rfl rfl rfl rfl rfl rfl (by omega) (by omega)) ?_
        clear hS
        rintro _ w_14 ⟨a48, p48, rfl, hS⟩
        refine qq hS (g_assign _) ?_
        refine ol_nil (blkN (thenN ?_))
        refine reg ?_
        refine qq hS (g_movev (v := .int .i64 _) rfl) ?_
        refine qq hS (g_add rfl rfl (by omega) (by omega)) ?_
        refine qq hS (g_assignv (v := .int .i64 _) rfl) ?_
        refine ol_nil (thenN ?_)
        refine ⟨⟨k + 1, css ++ [[.bool (partP p r).lifted, .int .i64 (partP p r).in_, .int .i64 (partP p r).out, .slice a39 m39 c39]], a48, p48⟩, _, rfl, ⟨⟨rfl, rfl, rfl, rfl, rfl, rfl, rfl, trivial⟩, I_f, ?_, by dsimp only; omega, ?_, ?_, h5⟩, by dsimp only; omega⟩
        · dsimp only
          rw [List.flatten_append, List.flatten_singleton]
          exact hS.sel [false, false, true, true]
        · dsimp only
          unfold partsP at hall ⊢
          rw [take_snoc hri, List.map_append]
          exact All2.snoc (hall.mono fun _ _ h => h.mono hE.ext) ⟨_, _, _, rfl, h39⟩
        · intro cs hcs
          rcases List.mem_append.1 hcs with h | h
          · exact hcl4 cs h
          · simp only [List.mem_singleton] at h; subst h; rfl
    ·
      intro hc21
      try simp only [Bool.and_eq_true, Bool.or_eq_true, Bool.not_eq_true', Bool.and_eq_false_imp, Bool.or_eq_false_iff, Bool.not_eq_false', decide_eq_true_eq, decide_eq_false_iff_not] at hc21
      have hk : k = rs.length := by omega
      subst hk
      rw [List.take_length] at hall
      refine wpIn_exit ?_
      refine thenE (thenE (blkE ?_))
      refine thenN ?_
      refine wpIn_seq ?_
      refine reg ?_
      refine qq hS (g_move _) ?_
      refine qq hS (g_assign _) ?_
      refine qq hS (g_assignv (v := .int .i64 _) rfl) ?_
      refine ol_nil (thenN ?_)
      refine wpIn_ret ?_
      refine ret2 Try.results64 (rv_tmp rfl) (rv_tmp (v := .int .i64 _) rfl) ?_
      have hlen : (partsP p rs).length = rs.length := by unfold partsP; rw [List.length_map]
      obtain ⟨I3, hS3, hI3, ho3⟩ := St.freezeRowR (hS.sel [true, false]) (xs := partsP p rs) hlen.symm hcl4 hall
      rw [hlen]
      exact ⟨I3, a, c, rfl, hS3, RSl.mono ho3 (Inl.Sub.refl _) fun _ _ h => h.mono hI3⟩

theorem samePL_c (ad bd : Option Addr) (m n cap capb : Nat) (a b : List PatL) (w0 : World) (I0 : Imm) (hI : Sat I0 w0) (ha : RPats I0 (.slice ad m cap) a) (hb : RPats I0 (.slice bd n capb) b) (hm : m = a.length) (hn : n = b.length) (hwa : ∀ p ∈ a, p.wf) (hwb : ∀ p ∈ b, p.wf) :
    Ctr Try.prog 43 [.slice ad m cap, .slice bd n capb] w0 (fun v w' => v = .bool (samePL a b) ∧ Ext w0 I0 w' I0) := by
  subst hm hn
  have hla := RSl.le ha
  have hlb := RSl.le hb
  simp only [maxLen] at hla hlb
  refine fn (n := 27) Try.func43 rfl rfl rfl ?_
  have hS := St.start hI
  refine wpIn_seq ?_
  refine reg ?_
  refine qq hS (g_assignv (v := .bool _) rfl) ?_
  refine ol_nil (thenN ?_)
  refine wpIn_seq ?_
  refine wpIn_seq ?_
  refine reg ?_
  refine qq hS (g_move _) ?_
  refine qq hS (g_lenI rfl Try.underlying27 ha rfl) ?_
  refine qq hS (g_move _) ?_
  refine qq hS (g_lenI rfl Try.underlying27 hb rfl) ?_
  refine qq hS (g_neq rfl rfl) ?_
  refine ol_nil (thenN ?_)
  refine cond_s rfl ?_ ?_
  ·
    intro hc10
    try simp only [Bool.and_eq_true, Bool.or_eq_true, Bool.not_eq_true', Bool.and_eq_false_imp, Bool.or_eq_false_iff, Bool.not_eq_false', decide_eq_true_eq, decide_eq_false_iff_not] at hc10
    have e : samePL a b = false := by unfold samePL; rw [decide_eq_false (by omega)]; rfl
    refine wpIn_seq ?_
    refine reg ?_
    refine qq hS (g_assignv (v := .bool _) rfl) ?_
    refine ol_nil (thenN ?_)
    refine wpIn_ret ?_
    refine thenR ?_
    refine ret1 Try.results43 (rv_tmp (v := .bool _) rfl) ?_
    rw [e]; exact ⟨rfl, hS.nil⟩
  ·
    intro hc10
    try simp only [Bool.and_eq_true, Bool.or_eq_true, Bool.not_eq_true', Bool.and_eq_false_imp, Bool.or_eq_false_iff, Bool.not_eq_false', decide_eq_true_eq, decide_eq_false_iff_not] at hc10
    have hab : a.length = b.length := by omega
    refine wpIn_skip ?_
    refine thenN ?_
    refine wpIn_seq ?_
    refine wpIn_seq ?_
    refine reg ?_
    refine qq hS (g_assignv (v := .int .i64 _) rfl) ?_
    refine ol_nil (thenN ?_)
    refine wpIn_block ?_
    refine loop (fun (k : Nat) σ w => okS σ [(0, .slice ad a.length cap), (1, .slice bd b.length capb), (5, .int .i64 k)] ∧ St [] w0 I0 I0 w [] ∧ k ≤ a.length ∧ ∀ x ∈ (a.zip b).take k, (!samePR x.1 x.2) = false) (fun k => a.length - k) (0) ?_ ?_
    ·
      exact ⟨⟨rfl, rfl, rfl, trivial⟩, hS.sel [], by simp, by simp⟩
    ·
      rintro k σ w_l ⟨hs, hS, hk0, hal⟩
      rw [← upds_self hs]; clear hs
      refine wpIn_seq ?_
      refine wpIn_seq ?_
      refine reg ?_
      refine qq hS (g_movev (v := .int .i64 _) rfl) ?_
      refine qq hS (g_move _) ?_
      refine qq hS (g_lenI rfl Try.underlying27 ha rfl) ?_
      refine qq hS (g_lss rfl rfl) ?_
      refine ol_nil (thenN ?_)
      refine cond_s rfl ?_ ?_
      ·
        intro hc14
        try simp only [Bool.and_eq_true, Bool.or_eq_true, Bool.not_eq_true', Bool.and_eq_false_imp, Bool.or_eq_false_iff, Bool.not_eq_false', decide_eq_true_eq, decide_eq_false_iff_not] at hc14
        obtain ⟨p, hpi⟩ : ∃ p, a[k]? = some p := ⟨_, List.getElem?_eq_getElem (by omega)⟩
        obtain ⟨cs, hcl, hpA, hpc⟩ := RSl.at ha hpi
        obtain ⟨adp, mp, cp, rfl, hpo⟩ := hpc
        obtain ⟨q, hqi⟩ : ∃ p, b[k]? = some p := ⟨_, List.getElem?_eq_getElem (by omega)⟩
        obtain ⟨cs2, hcl2, hqA, hqc⟩ := RSl.at hb hqi
        obtain ⟨adq, mq, cq, rfl, hqo⟩ := hqc
        have hzi : (a.zip b)[k]? = some (p, q) := by rw [List.getElem?_zip_eq_some]; exact ⟨hpi, hqi⟩
        refine wpIn_skip ?_
        refine thenN ?_
        refine wpIn_seq ?_
        refine wpIn_block ?_
        refine wpIn_seq ?_
        refine draw (.cons 0 .pure (.cons 1 .pure (.cons 2 .pure (.cons 3 .held (.cons 4 .pure (.cons 5 .pure (.cons 6 .pure (.cons 7 .held (.cons 8 .eff (.cons 9 .pure .nil)))))))))) mixed (by kernel_rfl) hS ?_
        intro w_1 hS
        refine sp rfl (g_move _) ?_
        refine sp rfl (g_movev (v := .int .i64 _) rfl) ?_
        refine sp rfl (g_ixI Try.underlying27 Try.sizeOf31 ha rfl rfl (by omega) (by omega)) ?_
        refine sh rfl (g_ldE (us := [.bool _, .int .i64 _, .int .i64 _, .slice _ _ _]) Try.sizeOf31 Try.isAgg31 hpA rfl rfl rfl) ?_
        refine sp rfl (g_move _) ?_
        refine sp rfl (g_movev (v := .int .i64 _) rfl) ?_
        refine sp rfl (g_ixI Try.underlying27 Try.sizeOf31 hb rfl rfl (by omega) (by omega)) ?_
        refine sh rfl (g_ldE (us := [.bool _, .int .i64 _, .int .i64 _, .slice _ _ _]) Try.sizeOf31 Try.isAgg31 hqA rfl rfl rfl) ?_
        have hS0 := hS
        refine se rfl (d_call Try.call16 rfl (sameR_c p q adp adq mp cp mq cq _ _ hS.imm hpo (fun x hx => ((hwa p (List.mem_of_getElem? hpi)).ops x hx).data) hqo (fun x hx => ((hwb q (List.mem_of_getElem? hqi)).ops x hx).data))) ?_
        rintro _ w_2 ⟨rfl, hE⟩
        replace hS := hS.call hE
        refine ⟨_, _, hS0.le hE.ext (List.Sublist.refl _), hS, ?_⟩
        refine sp rfl (g_not rfl) ?_
        refine sn (thenN ?_)
        refine cond_s rfl ?_ ?_
        ·
          intro hc26
          simp only [Bool.not_eq_true', Bool.not_eq_false'] at hc26
          have e : samePL a b = false := by
            unfold samePL
            rw [decide_eq_true hab, Bool.true_and, List.all_eq_false]
            exact ⟨(p, q), List.mem_of_getElem? hzi, by simp [hc26]⟩
          refine wpIn_seq ?_
          refine reg ?_
          refine qq hS (g_assignv (v := .bool _) rfl) ?_
          refine ol_nil (thenN ?_)
          refine wpIn_ret ?_
          refine blkR (thenR (thenR (blkR (thenR ?_))))
          refine ret1 Try.results43 (rv_tmp (v := .bool _) rfl) ?_
          rw [e]; exact ⟨rfl, hS.nil⟩
        ·
          intro hc26
          simp only [Bool.not_eq_true', Bool.not_eq_false'] at hc26
          refine wpIn_skip ?_
          refine blkN (thenN ?_)
          refine reg ?_
          refine qq hS (g_movev (v := .int .i64 _) rfl) ?_
          refine qq hS (g_add rfl rfl (by omega) (by omega)) ?_
          refine qq hS (g_assignv (v := .int .i64 _) rfl) ?_
          refine ol_nil (thenN ?_)
          exact ⟨k + 1, _, rfl, ⟨⟨rfl, rfl, rfl, trivial⟩, hS.sel [], by omega, any_take (q := fun x : PatL × PatL => !samePR x.1 x.2) hzi hal (by simpa using hc26)⟩, by omega⟩
      ·
        intro hc14
        try simp only [Bool.and_eq_true, Bool.or_eq_true, Bool.not_eq_true', Bool.and_eq_false_imp, Bool.or_eq_false_iff, Bool.not_eq_false', decide_eq_true_eq, decide_eq_false_iff_not] at hc14
        have e : samePL a b = true := by
          unfold samePL
          rw [decide_eq_true hab, Bool.true_and, List.all_eq_true]
          intro x hx
          have h := hal x (by rw [List.take_of_length_le (by rw [List.length_zip]; omega)]; exact hx)
          simpa using h
        refine wpIn_exit ?_
        refine thenE (thenE (blkE ?_))
        refine thenN ?_
        refine wpIn_seq ?_
        refine reg ?_
        refine qq hS (g_assignv (v := .bool _) rfl) ?_
        refine ol_nil (thenN ?_)
        refine wpIn_ret ?_
        refine ret1 Try.results43 (rv_tmp (v := .bool _) rfl) ?_
        rw [e]; exact ⟨rfl, hS.nil⟩

end Go.Proofs.Ythningkgpanaoaa

