/- inlayref12.Join, parts, Same, Many: what they compute. Conditions: numbers within bounds, at most 64 patches. -/
import Derived.Test.YtodopmclnklgdaaGreatJoin
import Derived.Test.YtodopmclnklgdaaGreatRef8
import Derived.Test.YtodopmclnklgdaaGreatKComp
import Derived.Test.YtodopmclnklgdaaGreatBase9
namespace Go.Proofs.YtodopmclnklgdaaGreat
open Go Go.RowKit Go.Inl
set_option linter.unusedSimpArgs false
set_option linter.unusedVariables false
theorem right_p (p : PatL) (ad : Option Addr) (m cap : Nat) (w0 : World) (I0 : Imm) (hI : Sat I0 w0) (hops : ROps I0 (.slice ad m cap) p.ops) (hp : p.wf) :
    Ctr Tryz.prog 15 [.agg #[.bool p.lifted, .int .i64 p.in_, .int .i64 p.out, .slice ad m cap]] w0 (fun v w' => v = .bool (decide ((checkP p).2 = 0)) ∧ Ext w0 I0 w' I0) := by
  have h := rightP_c p ad m cap w0 I0 hI hops hp
  rw [decide_eq_decide.2 (checkR_iff p)] at h
  exact h
theorem refSyms_ok (p : PatL) (ad : Option Addr) (m cap : Nat) (w0 : World) (I0 : Imm) (hI : Sat I0 w0) (hops : ROps I0 (.slice ad m cap) p.ops) (hp : p.wf) (hc : (checkP p).2 = 0) :
    Ctr Tryz.prog 113 [.agg #[.bool p.lifted, .int .i64 p.in_, .int .i64 p.out, .slice ad m cap]] w0 (fun v w' => ∃ I' a c, v = .tuple #[.slice a (symsOf p.ops).length c, .int .i64 0] ∧ Ext w0 I0 w' I' ∧ RSyms I' (.slice a (symsOf p.ops).length c) (symsOf p.ops)) := by
  have h := symbolsR_p p ad m cap w0 I0 hI hops hp
  rw [symbolsP_ok hc] at h
  exact h
theorem cheapest_V (vl : Value) (l : List Sym) (size : Int) (q : PatL) (w0 : World) (I0 : Imm) (hI : Sat I0 w0) (hl : RSyms I0 vl l) (hw : ∀ s ∈ l, s.wf) (he : cheapP l size = (q, 0)) :
    Ctr Tryz.prog 47 [vl, .int .i64 size] w0 (fun v w' => ∃ I' a m c, v = .tuple #[.agg #[.bool q.lifted, .int .i64 q.in_, .int .i64 q.out, .slice a m c], .int .i64 0] ∧ Ext w0 I0 w' I' ∧ ROps I' (.slice a m c) q.ops) := by
  obtain ⟨ad, cap, rfl, _⟩ := hl.len
  exact cheapest_e ad _ cap l size q 0 w0 I0 hI hl rfl hw he
def rgC (r : Int × Int) : List Value := [.int .i64 r.1, .int .i64 r.2]
theorem rgC_len (r : Int × Int) : (rgC r).length = 2 := rfl
theorem sumO_le {l : List PatL} (h : ∀ p ∈ l, (checkP p).2 = 0) : ∀ k, sumO (l.take k) ≤ sumO l := by
  intro k
  have e : sumO l = sumO (l.take k) + sumO (l.drop k) := by
    unfold sumO
    rw [← List.sum_append, ← List.map_append, List.take_append_drop]
  have h2 := (sumO_take (l := l.drop k) (fun p hp => h p (List.mem_of_mem_drop hp)) (l.drop k).length).1
  rw [List.take_length] at h2
  omega
theorem all_eq {l : List PatL} {q : PatL → Bool} (h : ∀ p ∈ l, q p = false) : l.any q = false := by
  rw [List.any_eq_false]; intro p hp; rw [h p hp]; simp
def flatS (l : List PatL) : List Sym := l.flatMap fun p => symsOf p.ops
theorem flatS_snoc {l : List PatL} {k : Nat} {p : PatL} (h : l[k]? = some p) : flatS (l.take (k + 1)) = flatS (l.take k) ++ symsOf p.ops := by rw [take_snoc h]; simp [flatS]
theorem flatS_len {l : List PatL} (h : ∀ p ∈ l, (checkP p).2 = 0) (k : Nat) : ((flatS (l.take k)).length : Int) = sumO (l.take k) := flat_len fun p hp => h p (List.mem_of_mem_take hp)
structure FlS where
  k : Nat
  a : Option Addr
  c : Nat
theorem partP_wf {p : PatL} (hp : p.wf) (hc : (checkP p).2 = 0) (r : Int × Int) : ∀ s ∈ ((symsOf p.ops).take r.2.toNat).drop r.1.toNat, s.wf := by
  intro s hs
  refine symsOf_wf hp s ?_
  rw [symbolsP_ok hc]
  exact List.mem_of_mem_take (List.mem_of_mem_drop hs)
def samePL (a b : List PatL) : Bool := decide (a.length = b.length) && (a.zip b).all fun p => samePR p.1 p.2
theorem samePL_refl (l : List PatL) : samePL l l = true := by
  unfold samePL
  simp only [decide_true, Bool.true_and, List.all_eq_true]
  intro p hp
  obtain ⟨i, hi⟩ := List.mem_iff_getElem?.1 hp
  rw [List.getElem?_zip_eq_some] at hi
  have : p.1 = p.2 := Option.some.inj (hi.1.symm.trans hi.2)
  rw [this]; exact samePR_refl _

theorem samePL_c (ad bd : Option Addr) (m n cap capb : Nat) (a b : List PatL) (w0 : World) (I0 : Imm) (hI : Sat I0 w0) (ha : RPats I0 (.slice ad m cap) a) (hb : RPats I0 (.slice bd n capb) b) (hm : m = a.length) (hn : n = b.length) (hwa : ∀ p ∈ a, p.wf) (hwb : ∀ p ∈ b, p.wf) :
    Ctr Tryz.prog 77 [.slice ad m cap, .slice bd n capb] w0 (fun v w' => v = .bool (samePL a b) ∧ Ext w0 I0 w' I0) := by
  subst hm hn
  have hla := RSl.le ha
  have hlb := RSl.le hb
  simp only [maxLen] at hla hlb
  refine fn (n := 27) Tryz.func77 rfl rfl rfl ?_
  have hS := St.start hI
  refine wpIn_seq ?_
  refine reg ?_
  refine qq hS (g_assignv (v := .bool _) rfl) ?_
  refine ol_nil (thenN ?_)
  refine wpIn_seq ?_
  refine wpIn_seq ?_
  refine reg ?_
  refine qq hS (g_move _) ?_
  refine qq hS (g_lenI rfl Tryz.underlying42 ha rfl) ?_
  refine qq hS (g_move _) ?_
  refine qq hS (g_lenI rfl Tryz.underlying42 hb rfl) ?_
  refine qq hS (g_neq rfl rfl) ?_
  refine ol_nil (thenN ?_)
  refine cond_s rfl ?_ ?_
  ·
    intro hc10
    try simp only [Bool.and_eq_true, Bool.or_eq_true, Bool.not_eq_true', Bool.and_eq_false_imp, Bool.or_eq_false_iff, Bool.not_eq_false', decide_eq_true_eq, decide_eq_false_iff_not] at hc10
    have e : samePL a b = false := by unfold samePL; rw [decide_eq_false (by omega)]; rfl
    refine wpIn_seq ?_
    refine reg ?_
    refine qq hS (g_assignv (v := .bool _) rfl) ?_
    refine ol_nil (thenN ?_)
    refine wpIn_ret ?_
    refine thenR ?_
    refine ret1 Tryz.results77 (rv_tmp (v := .bool _) rfl) ?_
    rw [e]; exact ⟨rfl, hS.nil⟩
  ·
    intro hc10
    try simp only [Bool.and_eq_true, Bool.or_eq_true, Bool.not_eq_true', Bool.and_eq_false_imp, Bool.or_eq_false_iff, Bool.not_eq_false', decide_eq_true_eq, decide_eq_false_iff_not] at hc10
    have hab : a.length = b.length := by omega
    refine wpIn_skip ?_
    refine thenN ?_
    refine wpIn_seq ?_
    refine wpIn_seq ?_
    refine reg ?_
    refine qq hS (g_assignv (v := .int .i64 _) rfl) ?_
    refine ol_nil (thenN ?_)
    refine wpIn_block ?_
    refine loop (fun (k : Nat) σ w => okS σ [(0, .slice ad a.length cap), (1, .slice bd b.length capb), (5, .int .i64 k)] ∧ St [] w0 I0 I0 w [] ∧ k ≤ a.length ∧ ∀ x ∈ (a.zip b).take k, (!samePR x.1 x.2) = false) (fun k => a.length - k) (0) ?_ ?_
    ·
      exact ⟨⟨rfl, rfl, rfl, trivial⟩, hS.sel [], by simp, by simp⟩
    ·
      rintro k σ w_l ⟨hs, hS, hk0, hal⟩
      rw [← upds_self hs]; clear hs
      refine wpIn_seq ?_
      refine wpIn_seq ?_
      refine reg ?_
      refine qq hS (g_movev (v := .int .i64 _) rfl) ?_
      refine qq hS (g_move _) ?_
      refine qq hS (g_lenI rfl Tryz.underlying42 ha rfl) ?_
      refine qq hS (g_lss rfl rfl) ?_
      refine ol_nil (thenN ?_)
      refine cond_s rfl ?_ ?_
      ·
        intro hc14
        try simp only [Bool.and_eq_true, Bool.or_eq_true, Bool.not_eq_true', Bool.and_eq_false_imp, Bool.or_eq_false_iff, Bool.not_eq_false', decide_eq_true_eq, decide_eq_false_iff_not] at hc14
        obtain ⟨p, hpi⟩ : ∃ p, a[k]? = some p := ⟨_, List.getElem?_eq_getElem (by omega)⟩
        obtain ⟨cs, hcl, hpA, hpc⟩ := RSl.at ha hpi
        obtain ⟨adp, mp, cp, rfl, hpo⟩ := hpc
        obtain ⟨q, hqi⟩ : ∃ p, b[k]? = some p := ⟨_, List.getElem?_eq_getElem (by omega)⟩
        obtain ⟨cs2, hcl2, hqA, hqc⟩ := RSl.at hb hqi
        obtain ⟨adq, mq, cq, rfl, hqo⟩ := hqc
        have hzi : (a.zip b)[k]? = some (p, q) := by rw [List.getElem?_zip_eq_some]; exact ⟨hpi, hqi⟩
        refine wpIn_skip ?_
        refine thenN ?_
        refine wpIn_seq ?_
        refine wpIn_block ?_
        refine wpIn_seq ?_
        refine draw (.cons 0 .pure (.cons 1 .pure (.cons 2 .pure (.cons 3 .held (.cons 4 .pure (.cons 5 .pure (.cons 6 .pure (.cons 7 .held (.cons 8 .eff (.cons 9 .pure .nil)))))))))) mixed (by kernel_rfl) hS ?_
        intro w_1 hS
        refine sp rfl (g_move _) ?_
        refine sp rfl (g_movev (v := .int .i64 _) rfl) ?_
        refine sp rfl (g_ixI Tryz.underlying42 Tryz.sizeOf29 ha rfl rfl (by omega) (by omega)) ?_
        refine sh rfl (g_ldE (us := [.bool _, .int .i64 _, .int .i64 _, .slice _ _ _]) Tryz.sizeOf29 Tryz.isAgg29 hpA rfl rfl rfl) ?_
        refine sp rfl (g_move _) ?_
        refine sp rfl (g_movev (v := .int .i64 _) rfl) ?_
        refine sp rfl (g_ixI Tryz.underlying42 Tryz.sizeOf29 hb rfl rfl (by omega) (by omega)) ?_
        refine sh rfl (g_ldE (us := [.bool _, .int .i64 _, .int .i64 _, .slice _ _ _]) Tryz.sizeOf29 Tryz.isAgg29 hqA rfl rfl rfl) ?_
        have hS0 := hS
        refine se rfl (d_call Tryz.call40 rfl (sameR_c p q adp adq mp cp mq cq _ _ hS.imm hpo (fun x hx => ((hwa p (List.mem_of_getElem? hpi)).ops x hx).data) hqo (fun x hx => ((hwb q (List.mem_of_getElem? hqi)).ops x hx).data))) ?_
        rintro _ w_2 ⟨rfl, hE⟩
        replace hS := hS.call hE
        refine ⟨_, _, hS0.le hE.ext (List.Sublist.refl _), hS, ?_⟩
        refine sp rfl (g_not rfl) ?_
        refine sn (thenN ?_)
        refine cond_s rfl ?_ ?_
        ·
          intro hc26
          simp only [Bool.not_eq_true', Bool.not_eq_false'] at hc26
          have e : samePL a b = false := by
            unfold samePL
            rw [decide_eq_true hab, Bool.true_and, List.all_eq_false]
            exact ⟨(p, q), List.mem_of_getElem? hzi, by simp [hc26]⟩
          refine wpIn_seq ?_
          refine reg ?_
          refine qq hS (g_assignv (v := .bool _) rfl) ?_
          refine ol_nil (thenN ?_)
          refine wpIn_ret ?_
          refine blkR (thenR (thenR (blkR (thenR ?_))))
          refine ret1 Tryz.results77 (rv_tmp (v := .bool _) rfl) ?_
          rw [e]; exact ⟨rfl, hS.nil⟩
        ·
          intro hc26
          simp only [Bool.not_eq_true', Bool.not_eq_false'] at hc26
          refine wpIn_skip ?_
          refine blkN (thenN ?_)
          refine reg ?_
          refine qq hS (g_movev (v := .int .i64 _) rfl) ?_
          refine qq hS (g_add rfl rfl (by omega) (by omega)) ?_
          refine qq hS (g_assignv (v := .int .i64 _) rfl) ?_
          refine ol_nil (thenN ?_)
          exact ⟨k + 1, _, rfl, ⟨⟨rfl, rfl, rfl, trivial⟩, hS.sel [], by omega, any_take (q := fun x : PatL × PatL => !samePR x.1 x.2) hzi hal (by simpa using hc26)⟩, by omega⟩
      ·
        intro hc14
        try simp only [Bool.and_eq_true, Bool.or_eq_true, Bool.not_eq_true', Bool.and_eq_false_imp, Bool.or_eq_false_iff, Bool.not_eq_false', decide_eq_true_eq, decide_eq_false_iff_not] at hc14
        have e : samePL a b = true := by
          unfold samePL
          rw [decide_eq_true hab, Bool.true_and, List.all_eq_true]
          intro x hx
          have h := hal x (by rw [List.take_of_length_le (by rw [List.length_zip]; omega)]; exact hx)
          simpa using h
        refine wpIn_exit ?_
        refine thenE (thenE (blkE ?_))
        refine thenN ?_
        refine wpIn_seq ?_
        refine reg ?_
        refine qq hS (g_assignv (v := .bool _) rfl) ?_
        refine ol_nil (thenN ?_)
        refine wpIn_ret ?_
        refine ret1 Tryz.results77 (rv_tmp (v := .bool _) rfl) ?_
        rw [e]; exact ⟨rfl, hS.nil⟩

end Go.Proofs.YtodopmclnklgdaaGreat

