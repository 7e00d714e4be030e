/- merge.load: it checks patches and marks what they touch and read. Conditions: numbers within bounds, at least one patch. -/
import Derived.Test.YtodopmclnklgdaaGreatPlaces
namespace Go.Proofs.YtodopmclnklgdaaGreat
open Go Go.RowKit Go.Inl
set_option linter.unusedSimpArgs false
set_option linter.unusedVariables false
structure EvL where
  p : PatL
  ao : Option Addr
  mo : Nat
  co : Nat
  vs : Value
  vt : Value
  vr : Value
def evC (e : EvL) : List Value := [.bool e.p.lifted, .int .i64 e.p.in_, .int .i64 e.p.out, .slice e.ao e.mo e.co, e.vs, e.vt, e.vr]
theorem evC_len (e : EvL) : (evC e).length = 7 := rfl
structure Ev1 (I : Imm) (e : EvL) : Prop where
  ops : ROps I (.slice e.ao e.mo e.co) e.p.ops
  syms : RowI I e.vs 81 3 (symsP e.p).length (flat symC (symsP e.p))
structure Ev2 (I : Imm) (e : EvL) : Prop where
  touches : RBools I e.vt (marks (symsP e.p).length (touched (symsP e.p)))
  reads : RBools I e.vr (marks (symsP e.p).length (readUp (symsP e.p) (symsP e.p).length))
theorem Ev1.mono {I J : Imm} {e : EvL} (h : Ev1 I e) (hs : Inl.Sub I J) : Ev1 J e := ⟨h.ops.mono hs, h.syms.mono hs⟩
theorem Ev2.mono {I J : Imm} {e : EvL} (h : Ev2 I e) (hs : Inl.Sub I J) : Ev2 J e := ⟨h.touches.mono hs, h.reads.mono hs⟩
theorem Ev1.rsyms {I : Imm} {e : EvL} (h : Ev1 I e) : RSyms I e.vs (symsP e.p) := h.syms.flat symC_len rfl
def NewB (I0 : Imm) (w0 : World) (v : Value) : Prop := ∀ b, v.ownBlock = some b → I0 b = none ∧ w0.heap.size ≤ b
def Apart (v u : Value) : Prop := ∀ b, v.ownBlock = some b → u.ownBlock ≠ some b
theorem newB_of {I0 I : Imm} {w0 : World} {v : Value} (hs : Inl.Sub I0 I) (h : ∀ b, v.ownBlock = some b → I b = none ∧ w0.heap.size ≤ b) : NewB I0 w0 v := fun b hb => by
  obtain ⟨h1, h2⟩ := h b hb
  refine ⟨?_, h2⟩
  cases hI : I0 b with
  | none => rfl
  | some o => rw [hs b o hI] at h1; cases h1
def SepE (evs : List EvL) : Prop := ∀ (i j : Nat) (e f : EvL), i ≠ j → evs[i]? = some e → evs[j]? = some f → Apart f.vs e.vs
def SepT (k : Nat) (evs : List EvL) : Prop := ∀ (i j : Nat) (e f : EvL), i < k → evs[i]? = some e → evs[j]? = some f → Apart f.vs e.vt ∧ Apart f.vs e.vr
theorem sepE_snoc {I : Imm} {evs : List EvL} {e : EvL} (h : SepE evs) (h1 : ∀ f ∈ evs, Ev1 I f) (hn : ∀ b, e.vs.ownBlock = some b → I b = none) : SepE (evs ++ [e]) := by
  have hold : ∀ f ∈ evs, ∀ b, f.vs.ownBlock = some b → e.vs.ownBlock ≠ some b := fun f hf b hb he => by
    obtain ⟨o, ho⟩ := (h1 f hf).syms.own_some hb
    rw [hn b he] at ho; cases ho
  intro i j f g hij hi hj b hb hb'
  by_cases h1 : i < evs.length
  · rw [List.getElem?_append_left h1] at hi
    by_cases h2 : j < evs.length
    · rw [List.getElem?_append_left h2] at hj
      exact h i j f g hij hi hj b hb hb'
    · rw [List.getElem?_append_right (by omega)] at hj
      have : j - evs.length = 0 := by
        have := (List.getElem?_eq_some_iff.1 hj).1
        simp at this; omega
      rw [this] at hj
      obtain rfl : e = g := by simpa using hj
      exact hold f (List.mem_of_getElem? hi) b hb' hb
  · rw [List.getElem?_append_right (by omega)] at hi
    have h0 : i - evs.length = 0 := by
      have := (List.getElem?_eq_some_iff.1 hi).1
      simp at this; omega
    rw [h0] at hi
    obtain rfl : e = f := by simpa using hi
    by_cases h2 : j < evs.length
    · rw [List.getElem?_append_left h2] at hj
      exact hold g (List.mem_of_getElem? hj) b hb hb'
    · rw [List.getElem?_append_right (by omega)] at hj
      have := (List.getElem?_eq_some_iff.1 hj).1
      simp at this
      omega
structure LdI (I0 : Imm) (w0 : World) (I : Imm) (k : Nat) (l : List PatL) (evs : List EvL) : Prop where
  ps : evs.map (·.p) = l
  one : ∀ e ∈ evs, Ev1 I e ∧ NewB I0 w0 e.vs
  two : ∀ (i : Nat) (e : EvL), i < k → evs[i]? = some e → Ev2 I e
  ss : SepE evs
  ts : SepT k evs
def evSet (e : EvL) (vt vr : Value) : EvL := ⟨e.p, e.ao, e.mo, e.co, e.vs, vt, vr⟩
theorem set_at {α : Type} {l : List α} {k i : Nat} {x y z : α} (hk : l[k]? = some x) (h : (l.set k y)[i]? = some z) : (i = k ∧ z = y) ∨ (i ≠ k ∧ l[i]? = some z) := by
  rw [List.getElem?_set] at h
  by_cases e : k = i
  · subst e
    rw [if_pos rfl, if_pos (List.getElem?_eq_some_iff.1 hk).1] at h
    exact .inl ⟨rfl, (Option.some.inj h).symm⟩
  · rw [if_neg e] at h
    exact .inr ⟨fun h => e h.symm, h⟩
theorem LdI.step {I0 I I' : Imm} {w0 : World} {k : Nat} {l : List PatL} {evs : List EvL} {ev : EvL} {vt vr : Value} (h : LdI I0 w0 I k l evs) (he : evs[k]? = some ev) (hs : Inl.Sub I I') (h2 : Ev2 I' (evSet ev vt vr))
    (ht : ∀ b, vt.ownBlock = some b → I b = none) (hr : ∀ b, vr.ownBlock = some b → I b = none) : LdI I0 w0 I' (k + 1) l (evs.set k (evSet ev vt vr)) := by
  have hmem := List.mem_of_getElem? he
  have vsat : ∀ (i : Nat) (f : EvL), (evs.set k (evSet ev vt vr))[i]? = some f → ∃ g, evs[i]? = some g ∧ g.vs = f.vs ∧ (i ≠ k → g = f) := by
    intro i f hi
    rcases set_at he hi with ⟨rfl, rfl⟩ | ⟨h1, h2⟩
    · exact ⟨ev, he, rfl, fun h => absurd rfl h⟩
    · exact ⟨f, h2, rfl, fun _ => rfl⟩
  have fresh : ∀ (v : Value), (∀ b, v.ownBlock = some b → I b = none) → ∀ g ∈ evs, Apart g.vs v := by
    intro v hv g hg b hb hb'
    obtain ⟨o, ho⟩ := (h.one g hg).1.syms.own_some hb
    rw [hv b hb'] at ho; cases ho
  refine ⟨?_, ?_, ?_, ?_, ?_⟩
  · rw [List.map_set, ← h.ps]
    apply List.ext_getElem?
    intro i
    rw [List.getElem?_set, List.length_map]
    split
    · rename_i e
      subst e
      rw [List.getElem?_map, he, if_pos (List.getElem?_eq_some_iff.1 he).1]; rfl
    · rfl
  · intro e hm
    rcases List.mem_or_eq_of_mem_set hm with hm | rfl
    · exact ⟨(h.one e hm).1.mono hs, (h.one e hm).2⟩
    · obtain ⟨k1, k2⟩ := h.one ev hmem
      exact ⟨⟨k1.ops.mono hs, k1.syms.mono hs⟩, k2⟩
  · intro i e hik hi
    rcases set_at he hi with ⟨rfl, rfl⟩ | ⟨h1, h3⟩
    · exact h2
    · exact (h.two i e (by omega) h3).mono hs
  · intro i j e f hij hi hj
    obtain ⟨g1, h1, e1, _⟩ := vsat i e hi
    obtain ⟨g2, h3, e2, _⟩ := vsat j f hj
    have := h.ss i j g1 g2 hij h1 h3
    rwa [e1, e2] at this
  · intro i j e f hik hi hj
    obtain ⟨g2, h3, e2, _⟩ := vsat j f hj
    rcases set_at he hi with ⟨rfl, rfl⟩ | ⟨h1, h4⟩
    · have a1 := fresh vt ht g2 (List.mem_of_getElem? h3)
      have a2 := fresh vr hr g2 (List.mem_of_getElem? h3)
      rw [e2] at a1 a2
      exact ⟨a1, a2⟩
    · have := h.ts i j e g2 (by omega) h4 h3
      rwa [e2] at this
structure LoadOk (I0 : Imm) (w0 : World) (I : Imm) (v : Value) (l : List PatL) (evs : List EvL) : Prop where
  row : RFl I 7 evC v evs
  ld : LdI I0 w0 I l.length l evs
  apart : ∀ e ∈ evs, Apart e.vs v
structure LdS where
  k : Nat
  evs : List EvL
  a : Option Addr
  c : Nat
structure LdT where
  k : Nat
  evs : List EvL
theorem syms_good {p : PatL} (h : (symbolsP p).2 = 0) : (checkP p).2 = 0 ∧ symbolsP p = (symsOf p.ops, 0) := by
  have hc : (checkP p).2 = 0 := by
    unfold symbolsP at h
    split at h
    · assumption
    · exact h
  exact ⟨hc, symbolsP_ok hc⟩
theorem checkGo_60m {n : Int} : ∀ (l : List OpL) (left i : Int), (checkGo n l left i).2 = 60 ∨ (checkGo n l left i).2 = 0
  | [], left, i => by unfold checkGo; split <;> simp
  | x :: l, left, i => by
    by_cases hb : (decide (x.len < 1) || decide (left < x.len) || !rightP x n) = true
    · rw [checkGo_bad hb]; exact .inl rfl
    · rw [checkGo_good (by simpa using hb)]; exact checkGo_60m l _ _
theorem check_60 {p : PatL} (h : (checkP p).2 ≠ 0) : (checkP p).2 = 60 := by
  unfold checkP at h ⊢
  split
  · rfl
  · rename_i hb
    rw [if_neg hb] at h
    rcases checkGo_60m p.ops p.out 0 (n := p.in_) with h1 | h1
    · exact h1
    · exact absurd h1 h
theorem syms_bad {p : PatL} (h : (symbolsP p).2 ≠ 0) : (checkP p).2 ≠ 0 ∧ (symbolsP p).2 = 60 := by
  unfold symbolsP at h ⊢
  split at h
  · exact absurd rfl h
  · rename_i hc
    rw [if_neg hc]
    exact ⟨hc, check_60 hc⟩
theorem checkM_op {l : List PatL} {p : PatL} (hp : p ∈ l) (h : (checkP p).2 ≠ 0) : checkM l = 60 := by
  unfold checkM; rw [if_pos (List.any_eq_true.2 ⟨p, hp, by simpa using h⟩)]
theorem checkM_ops {l : List PatL} (h : ∀ p ∈ l, (checkP p).2 = 0) : l.any (fun p => decide ((checkP p).2 ≠ 0)) = false := by
  rw [List.any_eq_false]; intro p hp; simp [h p hp]
theorem checkM_kind {l : List PatL} {p : PatL} (h : ∀ p ∈ l, (checkP p).2 = 0) (hp : p ∈ l) (hk : (p.lifted != (l.headD PatL.zero).lifted) = true) : checkM l = 62 := by
  unfold checkM; rw [if_neg (by rw [checkM_ops h]; decide), if_pos (List.any_eq_true.2 ⟨p, hp, hk⟩)]
theorem checkM_len {l : List PatL} {p : PatL} (h : ∀ p ∈ l, (checkP p).2 = 0) (hk : ∀ q ∈ l, (q.lifted != (l.headD PatL.zero).lifted) = false) (hp : p ∈ l) (he : evenQ (l.headD PatL.zero) p = true) : checkM l = 61 := by
  unfold checkM
  rw [if_neg (by rw [checkM_ops h]; decide), if_neg (by rw [List.any_eq_false.2 fun q hq => by rw [hk q hq]; decide]; decide), if_pos (List.any_eq_true.2 ⟨p, hp, he⟩)]
theorem checkM_good {l : List PatL} (h : ∀ p ∈ l, (checkP p).2 = 0) (hk : ∀ q ∈ l, (q.lifted != (l.headD PatL.zero).lifted) = false) (he : ∀ q ∈ l, evenQ (l.headD PatL.zero) q = false) : checkM l = 0 := by
  unfold checkM
  rw [if_neg (by rw [checkM_ops h]; decide), if_neg (by rw [List.any_eq_false.2 fun q hq => by rw [hk q hq]; decide]; decide), if_neg (by rw [List.any_eq_false.2 fun q hq => by rw [he q hq]; decide]; decide)]
theorem put_touch {S : List Sym} {N i : Nat} (h : touched S i = true) (hi : i < N) : putL (flat boolC (marks N (touchUp S i))) i [.bool true] = flat boolC (marks N (touchUp S (i + 1))) := by
  have h1 := putL_flat0 boolC_len true (marks N (touchUp S i)) i (by rw [marks_len]; exact hi)
  rw [Nat.mul_one] at h1
  rw [← touchUp_set S N i, h]
  exact h1
theorem put_read {S : List Sym} {N i a : Nat} (h : touched S i = true) (ho : (sAt S i).old = true) (ha : (sAt S i).at_ = a) (hi : a < N) : putL (flat boolC (marks N (readUp S i))) a [.bool true] = flat boolC (marks N (readUp S (i + 1))) := by
  have h1 := putL_flat0 boolC_len true (marks N (readUp S i)) a (by rw [marks_len]; exact hi)
  rw [Nat.mul_one] at h1
  rw [← readUp_set h ho ha]
  exact h1
theorem symbols_oE (p : PatL) (A : List Sym × Int) (ad : Option Addr) (m cap : Nat) (w0 : World) (I0 : Imm) (hI : Sat I0 w0) (hops : ROps I0 (.slice ad m cap) p.ops) (hp : p.wf) (he : symbolsP p = A) :
    Ctr Tryz.prog 49 [.agg #[.bool p.lifted, .int .i64 p.in_, .int .i64 p.out, .slice ad m cap]] w0 (fun v w' => ∃ a c, v = .tuple #[.slice a A.1.length c, .int .i64 A.2] ∧ St [] w0 I0 I0 w' [.row (.slice a A.1.length c) 81 3 A.1.length (flat symC A.1)]) := by
  subst he; exact symbols_o p ad m cap w0 I0 hI hops hp

set_option maxRecDepth 4000 in
set_option maxHeartbeats 4000000 in
theorem load_c (l : List PatL) (ad : Option Addr) (cap : Nat) (w0 : World) (I0 : Imm) (hI : Sat I0 w0) (hl : RPats I0 (.slice ad l.length cap) l) (hw : ∀ p ∈ l, p.wf) (hl0 : 0 < l.length) (hlm : l.length ≤ 65536) :
    Ctr Tryz.prog 66 [.slice ad l.length cap] w0 (fun v w' => ∃ I' a n c evs, v = .tuple #[.slice a n c, .int .i64 (checkM l)] ∧ Ext w0 I0 w' I' ∧ (checkM l = 0 → n = l.length ∧ LoadOk I0 w0 I' (.slice a n c) l evs)) := by
  refine fn (n := 119) Tryz.func66 rfl rfl rfl ?_
  have hS := St.start hI
  refine wpIn_seq ?_
  refine reg ?_
  refine qq hS (g_assign _) ?_
  refine qq hS (g_assignv (v := .int .i64 _) rfl) ?_
  refine ol_nil (thenN ?_)
  refine wpIn_seq ?_
  refine reg ?_
  refine qq hS (g_assign _) ?_
  refine ol_nil (thenN ?_)
  refine wpIn_seq ?_
  refine wpIn_seq ?_
  refine reg ?_
  refine qq hS (g_move _) ?_
  refine qq hS (g_lenI rfl Tryz.underlying42 (hl.mono hS.ext) rfl) ?_
  refine qq hS (g_movev (v := .int .i64 _) rfl) ?_
  refine ol_nil (thenN ?_)
  refine wpIn_block ?_
  refine loop (fun (x : LdS) σ w => okS σ [(0, .slice ad l.length cap), (4, .slice x.a x.k x.c), (16, .slice ad l.length cap), (17, .int .i64 l.length), (18, .int .i64 x.k)] ∧ ∃ I, St [] w0 I0 I w [.row (.slice x.a x.k x.c) 126 7 x.k (flat evC x.evs)] ∧ x.k ≤ l.length ∧ x.evs.map (·.p) = l.take x.k ∧ (∀ e ∈ x.evs, Ev1 I e ∧ NewB I0 w0 e.vs) ∧ SepE x.evs ∧ (∀ p ∈ l.take x.k, (checkP p).2 = 0)) (fun x => l.length - x.k) (⟨0, [], none, 0⟩) ?_ ?_
  ·
    exact ⟨⟨rfl, rfl, rfl, rfl, rfl, trivial⟩, _, (hS.sel []).nilRow _ _, by simp, by simp, by simp, by intro i j e f _ h; simp at h, by simp⟩
  ·
    rintro ⟨k, evs, a, c⟩ σ w_l ⟨hs, I, hS, hk0, hps, hone, hss, hchk⟩
    dsimp only at hs hS hk0 hps hone hss hchk ⊢
    rw [← upds_self hs]; clear hs
    refine wpIn_seq ?_
    refine reg ?_
    refine qq hS (g_lss rfl rfl) ?_
    refine ol_nil (thenN ?_)
    refine wpIn_seq ?_
    refine cond_s rfl ?_ ?_
    ·
      intro hc19
      try simp only [Bool.and_eq_true, Bool.or_eq_true, Bool.not_eq_true', Bool.and_eq_false_imp, Bool.or_eq_false_iff, Bool.not_eq_false', decide_eq_true_eq, decide_eq_false_iff_not] at hc19
      obtain ⟨p, hpi⟩ : ∃ p, l[k]? = some p := ⟨_, List.getElem?_eq_getElem (by omega)⟩
      obtain ⟨cs, hcl, hpA, hpc⟩ := RSl.at (hl.mono hS.ext) hpi
      obtain ⟨adp, mq, cq, rfl, hpo⟩ := hpc
      have hpw := hw p (List.mem_of_getElem? hpi)
      obtain ⟨A, hA⟩ : ∃ A, symbolsP p = A := ⟨_, rfl⟩
      refine wpIn_skip ?_
      refine thenN ?_
      refine wpIn_seq ?_
      refine wpIn_block ?_
      refine wpIn_seq ?_
      refine reg ?_
      refine qq hS (g_ixI Tryz.underlying42 Tryz.sizeOf29 (hl.mono hS.ext) rfl rfl (by omega) (by omega)) ?_
      refine qq hS (g_ldE (us := [.bool _, .int .i64 _, .int .i64 _, .slice _ _ _]) Tryz.sizeOf29 Tryz.isAgg29 hpA rfl rfl rfl) ?_
      refine qe (d_alloc (cs := [.bool _, .int .i64 _, .int .i64 _, .slice _ _ _]) hS Tryz.zeroValue29 rfl) ?_
      clear hS
      rintro _ w_1 ⟨b6, rfl, hS⟩
      refine qe (d_store 0 hS Tryz.sizeOf29 rfl rfl rfl (vs := [.bool _, .int .i64 _, .int .i64 _, .slice _ _ _]) rfl rfl rfl (Nat.le_of_ble_eq_true rfl) (cs' := [_, _, _, _]) rfl) ?_
      clear hS
      rintro _ w_2 ⟨rfl, hS⟩
      refine ol_nil (thenN ?_)
      refine wpIn_seq ?_
      refine reg ?_
      refine qq hS (g_ldO 0 (vs := [.bool _, .int .i64 _, .int .i64 _, .slice _ _ _]) Tryz.sizeOf29 Tryz.isAgg29 rfl rfl rfl rfl) ?_
      refine qe (d_call Tryz.call49 rfl (symbols_oE p A adp mq cq _ _ hS.imm hpo hpw hA)) ?_
      rintro _ w_3 ⟨a24, c24, rfl, hE⟩
      replace hS := hS.call hE
      refine qq hS (g_move _) ?_
      refine qq hS (g_extract rfl rfl) ?_
      refine qq hS (g_extract (v := .int .i64 _) rfl rfl) ?_
      refine qq hS (g_assign _) ?_
      refine qq hS (g_assignv (v := .int .i64 _) rfl) ?_
      refine ol_nil (thenN ?_)
      refine wpIn_seq ?_
      refine wpIn_seq ?_
      refine reg ?_
      refine qq hS (g_movev (v := .int .i64 _) rfl) ?_
      refine qq hS (g_neq rfl rfl) ?_
      refine ol_nil (thenN ?_)
      refine cond_s rfl ?_ ?_
      ·
        intro hc28
        try simp only [Bool.and_eq_true, Bool.or_eq_true, Bool.not_eq_true', Bool.and_eq_false_imp, Bool.or_eq_false_iff, Bool.not_eq_false', decide_eq_true_eq, decide_eq_false_iff_not] at hc28
        obtain ⟨hb1, hb2⟩ := syms_bad (p := p) (by rw [hA]; exact hc28)
        rw [hA] at hb2
        have e := checkM_op (List.mem_of_getElem? hpi) hb1
        have e2 : A.2 = checkM l := by rw [hb2, e]
        refine wpIn_seq ?_
        refine reg ?_
        refine qq hS (g_movev (v := .int .i64 _) rfl) ?_
        refine qq hS (g_assign _) ?_
        refine qq hS (g_assignv (v := .int .i64 _) rfl) ?_
        refine ol_nil (thenN ?_)
        refine wpIn_ret ?_
        refine thenR (blkR (thenR (thenR (blkR (thenR ?_)))))
        refine ret2 Tryz.results66 (rv_tmp rfl) (rv_tmp (v := .int .i64 _) rfl) ?_
        exact ⟨_, none, 0, 0, [], by first | (rw [← e2]; done) | (rw [← e2]; rfl), hS.nil, fun h => absurd h (by rw [e]; decide)⟩
      ·
        intro hc28
        try simp only [Bool.and_eq_true, Bool.or_eq_true, Bool.not_eq_true', Bool.and_eq_false_imp, Bool.or_eq_false_iff, Bool.not_eq_false', decide_eq_true_eq, decide_eq_false_iff_not] at hc28
        obtain ⟨hpk, hpg⟩ := syms_good (p := p) (by rw [hA]; exact hc28)
        rw [hA] at hpg
        subst hpg
        refine wpIn_skip ?_
        refine thenN ?_
        have hext8 := hS.ext
        obtain ⟨I8, hS8, hI8, h7, hn7⟩ := St.freezeRowI hS
        clear hS
        replace hS := hS8
        clear hS8
        refine reg ?_
        refine qq hS (g_move _) ?_
        refine qq hS (g_ldO 0 (vs := [.bool _, .int .i64 _, .int .i64 _, .slice _ _ _]) Tryz.sizeOf29 Tryz.isAgg29 rfl rfl rfl rfl) ?_
        refine qq hS (g_move _) ?_
        refine qq hS (g_buildv (pl := [(0, 4), (4, 1), (5, 1), (6, 1)]) (cs := [.bool _, .int .i64 _, .int .i64 _, .slice _ _ _, .slice _ _ _, .slice _ _ _, .slice _ _ _]) Tryz.zeroValue126 Tryz.underlying126 (fun w => by simp [Tryz.sizeOf29, Tryz.sizeOf59, Tryz.sizeOf83]) (mp (v := .agg #[.bool _, .int .i64 _, .int .i64 _, .slice _ _ _]) rfl (mp rfl mp0)) rfl) ?_
        refine qe (d_lit (vs := [.agg #[.bool _, .int .i64 _, .int .i64 _, .slice _ _ _, .slice _ _ _, .slice _ _ _, .slice _ _ _]]) (cs := [.bool _, .int .i64 _, .int .i64 _, .slice _ _ _, .slice _ _ _, .slice _ _ _, .slice _ _ _]) hS Tryz.underlying118 Tryz.sizeOf126 Tryz.zeroValue126 rfl rfl rfl rfl (fun v hv => by simp only [List.mem_cons, List.not_mem_nil, or_false] at hv; subst hv; rfl) rfl) ?_
        clear hS
        rintro _ w_4 ⟨b34, rfl, hS⟩
        refine qe (i_appendO 2 0 hS rfl Tryz.underlying118 info126 rfl rfl rfl rfl rfl rfl rfl rfl (by omega) (by omega)) ?_
        clear hS
        rintro _ w_5 ⟨a35, p35, rfl, hS⟩
        refine qq hS (g_assign _) ?_
        refine ol_nil (blkN (thenN ?_))
        refine reg ?_
        refine qq hS (g_add rfl rfl (by omega) (by omega)) ?_
        refine qq hS (g_movev (v := .int .i64 _) rfl) ?_
        refine ol_nil (thenN ?_)
        refine ⟨⟨k + 1, evs ++ [⟨p, adp, mq, cq, .slice a24 (symsOf p.ops).length c24, .slice none 0 0, .slice none 0 0⟩], a35, p35⟩, _, rfl, ⟨⟨rfl, rfl, rfl, rfl, rfl, trivial⟩, I8, ?_, by dsimp only; omega, ?_, ?_, ?_, ?_⟩, by dsimp only; omega⟩
        · dsimp only
          rw [flat_append, flat_one]
          exact hS.sel [false, false, true]
        · dsimp only
          rw [List.map_append, hps, take_snoc hpi]; rfl
        · intro e he
          rcases List.mem_append.1 he with h | h
          · exact ⟨(hone e h).1.mono hI8, (hone e h).2⟩
          · simp only [List.mem_singleton] at h; subst h
            exact ⟨⟨hpo.mono hI8, h7⟩, newB_of hext8 hn7⟩
        · exact sepE_snoc hss (fun f hf => (hone f hf).1) (fun b hb => (hn7 b hb).1)
        · intro y hy
          rw [take_snoc hpi] at hy
          rcases List.mem_append.1 hy with h | h
          · exact hchk y h
          · simp only [List.mem_singleton] at h; subst h; exact hpk
    ·
      intro hc19
      try simp only [Bool.and_eq_true, Bool.or_eq_true, Bool.not_eq_true', Bool.and_eq_false_imp, Bool.or_eq_false_iff, Bool.not_eq_false', decide_eq_true_eq, decide_eq_false_iff_not] at hc19
      have hk : k = l.length := by omega
      subst hk
      rw [List.take_length] at hps hchk
      refine wpIn_exit ?_
      refine thenE (thenE (blkE ?_))
      refine thenN ?_
      refine wpIn_seq ?_
      refine wpIn_seq ?_
      obtain ⟨f, hfi⟩ : ∃ f, l[0]? = some f := ⟨_, List.getElem?_eq_getElem hl0⟩
      have hff : l.headD PatL.zero = f := by rw [List.headD_eq_head?_getD, List.head?_eq_getElem?, hfi]; rfl
      obtain ⟨csf, hcf, hfA, hfc⟩ := RSl.at (hl.mono hS.ext) hfi
      obtain ⟨adf, mf, cf, rfl, hfo⟩ := hfc
      refine reg ?_
      refine qq hS (g_move _) ?_
      refine qq hS (g_lenI rfl Tryz.underlying42 (hl.mono hS.ext) rfl) ?_
      refine qq hS (g_movev (v := .int .i64 _) rfl) ?_
      refine ol_nil (thenN ?_)
      refine wpIn_block ?_
      refine loop (fun (k : Nat) σ w => okS σ [(0, .slice ad l.length cap), (4, .slice a l.length c), (37, .slice ad l.length cap), (38, .int .i64 l.length), (39, .int .i64 k)] ∧ St [] w0 I0 I w [.row (.slice a l.length c) 126 7 l.length (flat evC evs)] ∧ k ≤ l.length ∧ ∀ q ∈ l.take k, (q.lifted != f.lifted) = false) (fun k => l.length - k) (0) ?_ ?_
      ·
        exact ⟨⟨rfl, rfl, rfl, rfl, rfl, trivial⟩, hS.sel [true], by simp, by simp⟩
      ·
        rintro k σ w_l ⟨hs, hS, hk0, hkind⟩
        rw [← upds_self hs]; clear hs
        refine wpIn_seq ?_
        refine reg ?_
        refine qq hS (g_lss rfl rfl) ?_
        refine ol_nil (thenN ?_)
        refine wpIn_seq ?_
        refine cond_s rfl ?_ ?_
        ·
          intro hc40
          try simp only [Bool.and_eq_true, Bool.or_eq_true, Bool.not_eq_true', Bool.and_eq_false_imp, Bool.or_eq_false_iff, Bool.not_eq_false', decide_eq_true_eq, decide_eq_false_iff_not] at hc40
          obtain ⟨p, hpi⟩ : ∃ p, l[k]? = some p := ⟨_, List.getElem?_eq_getElem (by omega)⟩
          obtain ⟨cs, hcl, hpA, hpc⟩ := RSl.at (hl.mono hS.ext) hpi
          obtain ⟨adp, mq, cq, rfl, hpo⟩ := hpc
          have hpw := hw p (List.mem_of_getElem? hpi)
          refine wpIn_skip ?_
          refine thenN ?_
          refine wpIn_seq ?_
          refine wpIn_block ?_
          refine wpIn_seq ?_
          refine reg ?_
          refine qq hS (g_ixI Tryz.underlying42 Tryz.sizeOf29 (hl.mono hS.ext) rfl rfl (by omega) (by omega)) ?_
          refine qq hS (g_ldE (us := [.bool _, .int .i64 _, .int .i64 _, .slice _ _ _]) Tryz.sizeOf29 Tryz.isAgg29 hpA rfl rfl rfl) ?_
          refine qe (d_alloc (cs := [.bool _, .int .i64 _, .int .i64 _, .slice _ _ _]) hS Tryz.zeroValue29 rfl) ?_
          clear hS
          rintro _ w_6 ⟨b10, rfl, hS⟩
          refine qe (d_store 0 hS Tryz.sizeOf29 rfl rfl rfl (vs := [.bool _, .int .i64 _, .int .i64 _, .slice _ _ _]) rfl rfl rfl (Nat.le_of_ble_eq_true rfl) (cs' := [_, _, _, _]) rfl) ?_
          clear hS
          rintro _ w_7 ⟨rfl, hS⟩
          refine ol_nil (thenN ?_)
          refine wpIn_seq ?_
          refine draw (.cons 0 .pure (.cons 1 .held (.cons 2 .pure (.cons 3 .pure (.cons 4 .pure (.cons 5 .held (.cons 6 .pure .nil))))))) mixed (by kernel_rfl) hS ?_
          intro w_8 hS
          refine sp rfl (g_fieldAddr (o' := 0) Tryz.underlying29 rfl Tryz.sizeOf4 rfl rfl rfl) ?_
          refine sh rfl (g_ldO1 0 Tryz.isAgg4 rfl rfl rfl) ?_
          refine sp rfl (g_move _) ?_
          refine sp rfl (g_ixI Tryz.underlying42 Tryz.sizeOf29 (hl.mono hS.ext) rfl rfl (by decide) (by omega)) ?_
          refine sp rfl (g_fieldE (c' := 0) Tryz.underlying29 rfl Tryz.sizeOf4 rfl rfl rfl) ?_
          refine sh rfl (g_ldE1 Tryz.isAgg4 hfA rfl rfl) ?_
          refine sp rfl (g_neqb Tryz.underlying4 rfl rfl) ?_
          refine sn (thenN ?_)
          refine cond_s rfl ?_ ?_
          ·
            intro hc49
            have e := checkM_kind hchk (List.mem_of_getElem? hpi) (by rw [hff]; exact hc49)
            refine wpIn_seq ?_
            refine reg ?_
            refine qq hS (g_assign _) ?_
            refine qq hS (g_assignv (v := .int .i64 _) rfl) ?_
            refine ol_nil (thenN ?_)
            refine wpIn_ret ?_
            refine blkR (thenR (thenR (blkR (thenR ?_))))
            refine ret2 Tryz.results66 (rv_tmp rfl) (rv_tmp (v := .int .i64 _) rfl) ?_
            exact ⟨_, none, 0, 0, [], by first | (rw [e]; done) | (rw [e]; rfl), hS.nil, fun h => absurd h (by rw [e]; decide)⟩
          ·
            intro hc49
            refine wpIn_skip ?_
            refine blkN (thenN ?_)
            refine reg ?_
            refine qq hS (g_add rfl rfl (by omega) (by omega)) ?_
            refine qq hS (g_movev (v := .int .i64 _) rfl) ?_
            refine ol_nil (thenN ?_)
            exact ⟨k + 1, _, rfl, ⟨⟨rfl, rfl, rfl, rfl, rfl, trivial⟩, hS.sel [false, true], by omega, any_take (q := fun q => q.lifted != f.lifted) hpi hkind hc49⟩, by omega⟩
        ·
          intro hc40
          try simp only [Bool.and_eq_true, Bool.or_eq_true, Bool.not_eq_true', Bool.and_eq_false_imp, Bool.or_eq_false_iff, Bool.not_eq_false', decide_eq_true_eq, decide_eq_false_iff_not] at hc40
          have hk : k = l.length := by omega
          subst hk
          rw [List.take_length] at hkind
          refine wpIn_exit ?_
          refine thenE (thenE (blkE ?_))
          refine thenN ?_
          refine wpIn_seq ?_
          refine wpIn_seq ?_
          obtain ⟨b4, rest, rfl, hnc, hcm, hrl, hxl, hS9⟩ := hS.rowCel 0 rfl hl0
          replace hS := hS9
          clear hS9
          obtain ⟨I1, hI1⟩ : ∃ I1, I = I1 := ⟨_, rfl⟩
          rw [hI1] at hfA
          refine reg ?_
          refine qq hS (g_move _) ?_
          refine qq hS (g_lenI rfl Tryz.underlying42 (hl.mono hS.ext) rfl) ?_
          refine qq hS (g_movev (v := .int .i64 _) rfl) ?_
          refine ol_nil (thenN ?_)
          refine wpIn_block ?_
          refine loop (fun (x : LdT) σ w => okS σ [(0, .slice ad l.length cap), (4, .slice (some ⟨b4, 0, none⟩) l.length c), (51, .slice ad l.length cap), (52, .int .i64 l.length), (53, .int .i64 x.k)] ∧ ∃ I, St [] w0 I0 I w [.cel b4 126 (flat evC x.evs ++ rest)] ∧ x.k ≤ l.length ∧ LdI I0 w0 I x.k l x.evs ∧ (∀ q ∈ l.take x.k, evenQ f q = false) ∧ Inl.Sub I1 I) (fun x => l.length - x.k) (⟨0, evs⟩) ?_ ?_
          ·
            exact ⟨⟨rfl, rfl, rfl, rfl, rfl, trivial⟩, _, hS.sel [true], by simp, ⟨hps, hone, fun i e h => absurd h (Nat.not_lt_zero i), hss, fun i j e f h => absurd h (Nat.not_lt_zero i)⟩, by simp, hI1 ▸ Inl.Sub.refl _⟩
          ·
            rintro ⟨k, evs⟩ σ w_l ⟨hs, I, hS, hk0, hld, heven, hsub⟩
            dsimp only at hs hS hk0 hld heven hsub ⊢
            rw [← upds_self hs]; clear hs
            refine wpIn_seq ?_
            refine reg ?_
            refine qq hS (g_lss rfl rfl) ?_
            refine ol_nil (thenN ?_)
            refine wpIn_seq ?_
            refine cond_s rfl ?_ ?_
            ·
              intro hc54
              try simp only [Bool.and_eq_true, Bool.or_eq_true, Bool.not_eq_true', Bool.and_eq_false_imp, Bool.or_eq_false_iff, Bool.not_eq_false', decide_eq_true_eq, decide_eq_false_iff_not] at hc54
              obtain ⟨p, hpi⟩ : ∃ p, l[k]? = some p := ⟨_, List.getElem?_eq_getElem (by omega)⟩
              obtain ⟨cs, hcl, hpA, hpc⟩ := RSl.at (hl.mono hS.ext) hpi
              obtain ⟨adp, mq, cq, rfl, hpo⟩ := hpc
              have hpw := hw p (List.mem_of_getElem? hpi)
              obtain ⟨ev, hei, hep⟩ : ∃ ev, evs[k]? = some ev ∧ ev.p = p := by
                have h := hld.ps
                rw [← h, List.getElem?_map] at hpi
                cases he : evs[k]? with
                | none => rw [he] at hpi; simp at hpi
                | some ev => rw [he] at hpi; exact ⟨ev, rfl, by simpa using hpi⟩
              subst hep
              have hevl : evs.length = l.length := by rw [← hld.ps, List.length_map]
              have hek := List.mem_of_getElem? hpi
              have hec := checkP_ok (hchk ev.p hek)
              have hoks := (ops_ok _ hec.1).1
              have hv1 := (hld.one ev (List.mem_of_getElem? hei)).1
              obtain ⟨N, hN⟩ : ∃ N, (symsP ev.p).length = N := ⟨_, rfl⟩
              have hN1 : (N : Int) = ev.p.out := by rw [← hN]; exact hec.2.1
              refine wpIn_skip ?_
              refine thenN ?_
              refine wpIn_seq ?_
              refine wpIn_block ?_
              refine wpIn_seq ?_
              refine reg ?_
              refine qq hS (g_movev (v := .int .i64 _) rfl) ?_
              refine qq hS (g_ixI Tryz.underlying42 Tryz.sizeOf29 (hl.mono hS.ext) rfl rfl (by omega) (by omega)) ?_
              refine qq hS (g_ldE (us := [.bool _, .int .i64 _, .int .i64 _, .slice _ _ _]) Tryz.sizeOf29 Tryz.isAgg29 hpA rfl rfl rfl) ?_
              refine qe (d_alloc (cs := [.bool _, .int .i64 _, .int .i64 _, .slice _ _ _]) hS Tryz.zeroValue29 rfl) ?_
              clear hS
              rintro _ w_9 ⟨b12, rfl, hS⟩
              refine qq hS (g_assignv (v := .int .i64 _) rfl) ?_
              refine qe (d_store 0 hS Tryz.sizeOf29 rfl rfl rfl (vs := [.bool _, .int .i64 _, .int .i64 _, .slice _ _ _]) rfl rfl rfl (Nat.le_of_ble_eq_true rfl) (cs' := [_, _, _, _]) rfl) ?_
              clear hS
              rintro _ w_10 ⟨rfl, hS⟩
              refine ol_nil (thenN ?_)
              refine wpIn_seq ?_
              refine wpIn_seq ?_
              refine draw (.cons 0 .pure (.cons 1 .held (.cons 2 .pure (.cons 3 .held (.cons 4 .pure (.cons 5 .pure (.cons 6 .pure (.cons 7 .held (.cons 8 .pure (.cons 9 .pure (.cons 10 .pure (.cons 11 .held (.cons 12 .pure (.cons 13 .pure .nil)))))))))))))) mixed (by kernel_rfl) hS ?_
              intro w_11 hS
              refine sp rfl (g_fieldAddr (o' := 1) Tryz.underlying29 rfl Tryz.sizeOf3 rfl rfl rfl) ?_
              refine sh rfl (g_ldO1 0 Tryz.isAgg3 rfl rfl rfl) ?_
              refine sp rfl (g_fieldAddr (o' := 2) Tryz.underlying29 rfl Tryz.sizeOf3 rfl rfl rfl) ?_
              refine sh rfl (g_ldO1 0 Tryz.isAgg3 rfl rfl rfl) ?_
              refine sp rfl (g_neq rfl rfl) ?_
              refine sp rfl (g_movev (v := .bool _) rfl) ?_
              refine spu rfl rfl rfl (fun hg => (g_fieldAddr (o' := 1) Tryz.underlying29 rfl Tryz.sizeOf3 rfl rfl rfl)) ?_
              intro u64 hu64 hn64
              refine shu rfl rfl rfl (fun hg => (g_ldO1 0 Tryz.isAgg3 rfl (hu64 hg) rfl)) ?_
              intro u65 hu65 hn65
              refine spu rfl rfl rfl (fun hg => (g_move _)) ?_
              intro u66 hu66 hn66
              refine spu rfl rfl rfl (fun hg => (g_ixI Tryz.underlying42 Tryz.sizeOf29 (hl.mono hS.ext) (hu66 hg) rfl (by decide) (by omega))) ?_
              intro u67 hu67 hn67
              refine spu rfl rfl rfl (fun hg => (g_fieldE (c' := 1) Tryz.underlying29 rfl Tryz.sizeOf3 rfl (hu67 hg) rfl)) ?_
              intro u68 hu68 hn68
              refine shu rfl rfl rfl (fun hg => (g_ldE1 Tryz.isAgg3 (hfA.mono hsub) (hu68 hg) rfl)) ?_
              intro u69 hu69 hn69
              refine spu rfl rfl rfl (fun hg => (g_neq (hu65 hg) (hu69 hg))) ?_
              intro u70 hu70 hn70
              refine sp rfl (g_or rfl rfl (fun hq => hu70 hq)) ?_
              refine sn (thenN ?_)
              refine cond_s rfl ?_ ?_
              ·
                intro hc71
                clear hu64 hn64 hu65 hn65 hu66 hn66 hu67 hn67 hu68 hn68 hu69 hn69 hu70 hn70
                try simp only [Bool.and_eq_true, Bool.or_eq_true, Bool.not_eq_true', Bool.and_eq_false_imp, Bool.or_eq_false_iff, Bool.not_eq_false', decide_eq_true_eq, decide_eq_false_iff_not] at hc71
                have e := checkM_len hchk (by rw [hff]; exact hkind) hek (by rw [hff]; unfold evenQ; simpa using hc71)
                refine wpIn_seq ?_
                refine reg ?_
                refine qq hS (g_assign _) ?_
                refine qq hS (g_assignv (v := .int .i64 _) rfl) ?_
                refine ol_nil (thenN ?_)
                refine wpIn_ret ?_
                refine thenR (blkR (thenR (thenR (blkR (thenR ?_)))))
                refine ret2 Tryz.results66 (rv_tmp rfl) (rv_tmp (v := .int .i64 _) rfl) ?_
                exact ⟨_, none, 0, 0, [], by first | (rw [e]; done) | (rw [e]; rfl), hS.nil, fun h => absurd h (by rw [e]; decide)⟩
              ·
                intro hc71
                clear hu64 hn64 hu65 hn65 hu66 hn66 hu67 hn67 hu68 hn68 hu69 hn69 hu70 hn70
                try simp only [Bool.and_eq_true, Bool.or_eq_true, Bool.not_eq_true', Bool.and_eq_false_imp, Bool.or_eq_false_iff, Bool.not_eq_false', decide_eq_true_eq, decide_eq_false_iff_not] at hc71
                have heq : evenQ f ev.p = false := by unfold evenQ; simpa using hc71
                have hnp : ev.p.in_ = (N : Int) := by omega
                have hpre : k * 7 = (flat evC (evs.take k)).length := by rw [flat_length evC_len, List.length_take]; omega
                have hvs := hv1.rsyms
                refine wpIn_skip ?_
                refine thenN ?_
                refine wpIn_seq ?_
                rw [flat_focus rest hei] at hS
                refine reg ?_
                refine qq hS (g_move _) ?_
                refine qq hS (g_movev (v := .int .i64 _) rfl) ?_
                refine qq hS (g_indexAddrV (o := k * 7) Tryz.underlying118 Tryz.sizeOf126 rfl rfl (by omega) (by omega) rfl) ?_
                refine qq hS (g_assign _) ?_
                refine ol_nil (thenN ?_)
                refine meet (fun σ w => ∃ b79 b82, okS σ [(0, .slice ad l.length cap), (4, .slice (some ⟨b4, 0, none⟩) l.length c), (51, .slice ad l.length cap), (52, .int .i64 l.length), (53, .int .i64 k), (13, .pointer (some ⟨b4, k * 7, none⟩))] ∧ St [] w0 I0 I w [.cel b82 4 (flat boolC (List.replicate N false)), .cel b79 4 (flat boolC (List.replicate N false)), .cel b4 126 (flat evC (evs.take k) ++ ([.bool ev.p.lifted, .int .i64 ev.p.in_, .int .i64 ev.p.out, .slice ev.ao ev.mo ev.co, ev.vs, .slice (some ⟨b79, 0, none⟩) N N, .slice (some ⟨b82, 0, none⟩) N N] ++ (flat evC (evs.drop (k + 1)) ++ rest)))]) ?_ ?_
                ·
                  refine drawS [true, false] (.cons 0 .pure (.cons 1 .pure (.cons 2 .pure (.cons 3 .held (.cons 5 .pure (.cons 6 .held (.fork 4 (.cons 8 .pure (.cons 9 .pure (.fork 7 (.cons 10 .eff (.cons 11 .pure (.cons 12 .pure (.cons 13 .eff .nil)))) 10 (.cons 7 .eff (.cons 11 .pure (.cons 12 .pure (.cons 13 .eff .nil))))))) 7 (.cons 4 .eff (.cons 8 .pure (.cons 9 .pure (.cons 10 .eff (.cons 11 .pure (.cons 12 .pure (.cons 13 .eff .nil)))))))))))))) mixed (by kernel_rfl) hS ?_
                  intro w_12 hS
                  refine sp rfl (g_move _) ?_
                  refine sp rfl (g_move _) ?_
                  refine sp rfl (g_fieldAddr (o' := 1) Tryz.underlying29 rfl Tryz.sizeOf3 rfl rfl rfl) ?_
                  refine sh rfl (g_ldO1 0 Tryz.isAgg3 rfl rfl rfl) ?_
                  refine sp rfl (g_fieldAddr (o' := 1) Tryz.underlying29 rfl Tryz.sizeOf3 rfl rfl rfl) ?_
                  refine sh rfl (g_ldO1 0 Tryz.isAgg3 rfl rfl rfl) ?_
                  refine sk ?_ ?_
                  ·
                    have hS0 := hS
                    refine se rfl (d_makeF boolC_len false N hS Tryz.underlying59 info4 rfl rfl rfl rfl hnp (by omega) rfl) ?_
                    rintro _ w_13 ⟨b79, rfl, hS⟩
                    refine ⟨_, _, (hS0.sel [true, false]).le (Sub.refl _) (List.sublist_cons_self _ _), hS.sel [true, true, false], ?_⟩
                    refine sp rfl (g_nilCheck rfl) ?_
                    refine sp rfl (g_fieldAddr (o' := k * 7 + 5) Tryz.underlying126 rfl Tryz.sizeOf59 rfl rfl rfl) ?_
                    refine sk ?_ ?_
                    ·
                      have hS0 := hS
                      refine se rfl (d_makeF boolC_len false N hS Tryz.underlying59 info4 rfl rfl rfl rfl hnp (by omega) rfl) ?_
                      rintro _ w_14 ⟨b82, rfl, hS⟩
                      refine ⟨_, _, (hS0.sel [true, true, false]).le (Sub.refl _) (List.sublist_cons_self _ _), hS.sel [true, true, true, false], ?_⟩
                      have hS0 := hS
                      refine se rfl (d_storeF 3 (c := 5) hS Tryz.sizeOf59 rfl hpre rfl rfl (vs := [.slice _ _ _]) rfl rfl rfl (Nat.le_of_ble_eq_true rfl) (row' := [_, _, _, _, _, _, _]) rfl) ?_
                      rintro _ w_15 ⟨rfl, hS⟩
                      refine ⟨_, _, fun _ h => h, hS.sel [true, true, true, false], ?_⟩
                      refine sp rfl (g_nilCheck rfl) ?_
                      refine sp rfl (g_fieldAddr (o' := k * 7 + 6) Tryz.underlying126 rfl Tryz.sizeOf59 rfl rfl rfl) ?_
                      have hS0 := hS
                      refine se rfl (d_storeF 3 (c := 6) hS Tryz.sizeOf59 rfl hpre rfl rfl (vs := [.slice _ _ _]) rfl rfl rfl (Nat.le_of_ble_eq_true rfl) (row' := [_, _, _, _, _, _, _]) rfl) ?_
                      rintro _ w_16 ⟨rfl, hS⟩
                      refine ⟨_, _, fun _ h => h, hS.sel [true, true, true, false], ?_⟩
                      refine sn (thenN ?_)
                      exact ⟨_, rfl, b79, b82, ⟨rfl, rfl, rfl, rfl, rfl, rfl, trivial⟩, (hS.sel [true, true, false, true])⟩
                    ·
                      have hS0 := hS
                      refine se rfl (d_storeF 2 (c := 5) hS Tryz.sizeOf59 rfl hpre rfl rfl (vs := [.slice _ _ _]) rfl rfl rfl (Nat.le_of_ble_eq_true rfl) (row' := [_, _, _, _, _, _, _]) rfl) ?_
                      rintro _ w_17 ⟨rfl, hS⟩
                      refine ⟨_, _, fun _ h => h, hS.sel [true, true, false], ?_⟩
                      have hS0 := hS
                      refine se rfl (d_makeF boolC_len false N hS Tryz.underlying59 info4 rfl rfl rfl rfl hnp (by omega) rfl) ?_
                      rintro _ w_18 ⟨b82, rfl, hS⟩
                      refine ⟨_, _, (hS0.sel [true, true, false]).le (Sub.refl _) (List.sublist_cons_self _ _), hS.sel [true, true, true, false], ?_⟩
                      refine sp rfl (g_nilCheck rfl) ?_
                      refine sp rfl (g_fieldAddr (o' := k * 7 + 6) Tryz.underlying126 rfl Tryz.sizeOf59 rfl rfl rfl) ?_
                      have hS0 := hS
                      refine se rfl (d_storeF 3 (c := 6) hS Tryz.sizeOf59 rfl hpre rfl rfl (vs := [.slice _ _ _]) rfl rfl rfl (Nat.le_of_ble_eq_true rfl) (row' := [_, _, _, _, _, _, _]) rfl) ?_
                      rintro _ w_19 ⟨rfl, hS⟩
                      refine ⟨_, _, fun _ h => h, hS.sel [true, true, true, false], ?_⟩
                      refine sn (thenN ?_)
                      exact ⟨_, rfl, b79, b82, ⟨rfl, rfl, rfl, rfl, rfl, rfl, trivial⟩, (hS.sel [true, true, false, true])⟩
                  ·
                    have hS0 := hS
                    refine se rfl (d_makeF boolC_len false N hS Tryz.underlying59 info4 rfl rfl rfl rfl hnp (by omega) rfl) ?_
                    rintro _ w_20 ⟨b82, rfl, hS⟩
                    refine ⟨_, _, (hS0.sel [true, false]).le (Sub.refl _) (List.sublist_cons_self _ _), hS.sel [true, true, false], ?_⟩
                    have hS0 := hS
                    refine se rfl (d_makeF boolC_len false N hS Tryz.underlying59 info4 rfl rfl rfl rfl hnp (by omega) rfl) ?_
                    rintro _ w_21 ⟨b79, rfl, hS⟩
                    refine ⟨_, _, (hS0.sel [true, true, false]).le (Sub.refl _) (List.sublist_cons_self _ _), hS.sel [true, true, true, false], ?_⟩
                    refine sp rfl (g_nilCheck rfl) ?_
                    refine sp rfl (g_fieldAddr (o' := k * 7 + 5) Tryz.underlying126 rfl Tryz.sizeOf59 rfl rfl rfl) ?_
                    have hS0 := hS
                    refine se rfl (d_storeF 3 (c := 5) hS Tryz.sizeOf59 rfl hpre rfl rfl (vs := [.slice _ _ _]) rfl rfl rfl (Nat.le_of_ble_eq_true rfl) (row' := [_, _, _, _, _, _, _]) rfl) ?_
                    rintro _ w_22 ⟨rfl, hS⟩
                    refine ⟨_, _, fun _ h => h, hS.sel [true, true, true, false], ?_⟩
                    refine sp rfl (g_nilCheck rfl) ?_
                    refine sp rfl (g_fieldAddr (o' := k * 7 + 6) Tryz.underlying126 rfl Tryz.sizeOf59 rfl rfl rfl) ?_
                    have hS0 := hS
                    refine se rfl (d_storeF 3 (c := 6) hS Tryz.sizeOf59 rfl hpre rfl rfl (vs := [.slice _ _ _]) rfl rfl rfl (Nat.le_of_ble_eq_true rfl) (row' := [_, _, _, _, _, _, _]) rfl) ?_
                    rintro _ w_23 ⟨rfl, hS⟩
                    refine ⟨_, _, fun _ h => h, hS.sel [true, true, true, false], ?_⟩
                    refine sn (thenN ?_)
                    exact ⟨_, rfl, b79, b82, ⟨rfl, rfl, rfl, rfl, rfl, rfl, trivial⟩, (hS.ord [1, 0, 3])⟩
                ·
                  rintro σ w ⟨b79, b82, hs, hS⟩
                  rw [← upds_self hs]
                  refine wpIn_seq ?_
                  refine reg ?_
                  refine qq hS (g_move _) ?_
                  refine qq hS (g_nilCheck rfl) ?_
                  refine qq hS (g_fieldAddr (o' := k * 7 + 4) Tryz.underlying126 rfl Tryz.sizeOf83 rfl rfl rfl) ?_
                  refine qq hS (g_ldF1 2 (c := 4) Tryz.isAgg83 rfl hpre rfl rfl) ?_
                  refine qq hS (g_lenI rfl Tryz.underlying83 hvs rfl) ?_
                  refine qq hS (g_movev (v := .int .i64 _) rfl) ?_
                  refine ol_nil (thenN ?_)
                  refine wpIn_block ?_
                  refine loop (fun (i : Nat) σ w => okS σ [(0, .slice ad l.length cap), (4, .slice (some ⟨b4, 0, none⟩) l.length c), (51, .slice ad l.length cap), (52, .int .i64 l.length), (53, .int .i64 k), (13, .pointer (some ⟨b4, k * 7, none⟩)), (90, ev.vs), (91, .int .i64 N), (92, .int .i64 i)] ∧ St [] w0 I0 I w [.cel b82 4 (flat boolC (marks N (readUp (symsP ev.p) i))), .cel b79 4 (flat boolC (marks N (touchUp (symsP ev.p) i))), .cel b4 126 (flat evC (evs.take k) ++ ([.bool ev.p.lifted, .int .i64 ev.p.in_, .int .i64 ev.p.out, .slice ev.ao ev.mo ev.co, ev.vs, .slice (some ⟨b79, 0, none⟩) N N, .slice (some ⟨b82, 0, none⟩) N N] ++ (flat evC (evs.drop (k + 1)) ++ rest)))] ∧ i ≤ N) (fun i => N - i) (0) ?_ ?_
                  ·
                    refine ⟨⟨rfl, rfl, rfl, rfl, rfl, rfl, rfl, by rw [← hN]; rfl, rfl, trivial⟩, ?_, by omega⟩
                    rw [readUp_zero, touchUp_zero]
                    exact hS.sel [true, true, true]
                  ·
                    rintro i σ w_l ⟨hs, hS, hi0⟩
                    rw [← upds_self hs]; clear hs
                    refine wpIn_seq ?_
                    refine reg ?_
                    refine qq hS (g_lss rfl rfl) ?_
                    refine ol_nil (thenN ?_)
                    refine wpIn_seq ?_
                    refine cond_s rfl ?_ ?_
                    ·
                      intro hc93
                      try simp only [Bool.and_eq_true, Bool.or_eq_true, Bool.not_eq_true', Bool.and_eq_false_imp, Bool.or_eq_false_iff, Bool.not_eq_false', decide_eq_true_eq, decide_eq_false_iff_not] at hc93
                      obtain ⟨s, hsi⟩ : ∃ s, (symsP ev.p)[i]? = some s := ⟨_, List.getElem?_eq_getElem (by omega)⟩
                      have hsA := hvs.at hsi
                      have hsk := hoks s (List.mem_of_getElem? hsi)
                      refine wpIn_skip ?_
                      refine thenN ?_
                      refine wpIn_seq ?_
                      refine wpIn_block ?_
                      refine wpIn_seq ?_
                      refine reg ?_
                      refine qq hS (g_movev (v := .int .i64 _) rfl) ?_
                      refine qq hS (g_ixI Tryz.underlying83 Tryz.sizeOf81 hvs rfl rfl (by omega) (by omega)) ?_
                      refine qq hS (g_ldE (us := [.bool _, .int .i64 _, .int .u8 _]) Tryz.sizeOf81 Tryz.isAgg81 hsA rfl rfl rfl) ?_
                      refine qe (d_alloc (cs := [.bool _, .int .i64 _, .int .u8 _]) hS Tryz.zeroValue81 rfl) ?_
                      clear hS
                      rintro _ w_24 ⟨b15, rfl, hS⟩
                      refine qq hS (g_assignv (v := .int .i64 _) rfl) ?_
                      refine qe (d_store 0 hS Tryz.sizeOf81 rfl rfl rfl (vs := [.bool _, .int .i64 _, .int .u8 _]) rfl rfl rfl (Nat.le_of_ble_eq_true rfl) (cs' := [_, _, _]) rfl) ?_
                      clear hS
                      rintro _ w_25 ⟨rfl, hS⟩
                      refine ol_nil (thenN ?_)
                      refine wpIn_seq ?_
                      refine wpIn_seq ?_
                      refine reg ?_
                      refine qq hS (g_ldO 0 (vs := [.bool _, .int .i64 _, .int .u8 _]) Tryz.sizeOf81 Tryz.isAgg81 rfl rfl rfl rfl) ?_
                      refine qq hS (g_movev (v := .int .i64 _) rfl) ?_
                      refine qq hS (g_buildv (pl := [(0, 1), (1, 1), (2, 1)]) (cs := [.bool _, .int .i64 _, .int .u8 _]) Tryz.zeroValue81 Tryz.underlying81 (fun w => by simp [Tryz.sizeOf3, Tryz.sizeOf4, Tryz.sizeOf5]) (mp (v := .bool _) rfl (mp (v := .int .i64 _) rfl mp0)) rfl) ?_
                      refine qq hS (eqlSym s ⟨true, (i : Int), 0⟩ rfl rfl) ?_
                      refine ol_nil (thenN ?_)
                      refine cond_s rfl ?_ ?_
                      ·
                        intro hc100
                        have ht : touched (symsP ev.p) i = false := by unfold touched; rw [sAt_of hsi, hc100]; rfl
                        have hts := touchUp_skip (n := N) ht
                        have hrs := readUp_skip (l := symsP ev.p) (n := N) (k := i) (by rw [ht]; rfl)
                        refine wpIn_exit ?_
                        refine thenE (blkE ?_)
                        refine thenN ?_
                        refine reg ?_
                        refine qq hS (g_add rfl rfl (by omega) (by omega)) ?_
                        refine qq hS (g_movev (v := .int .i64 _) rfl) ?_
                        refine ol_nil (thenN ?_)
                        first
                          | (refine ⟨i + 1, _, rfl, ⟨⟨rfl, rfl, rfl, rfl, rfl, rfl, rfl, rfl, rfl, trivial⟩, ?_, by omega⟩, by omega⟩
                             rw [← hts, ← hrs]
                             exact hS.sel [false, true, true, true])
                          | (refine ⟨i + 1, _, rfl, ⟨⟨rfl, rfl, rfl, rfl, rfl, rfl, rfl, rfl, rfl, trivial⟩, ?_, by omega⟩, by omega⟩
                             rw [← hrs]
                             exact hS.sel [false, true, true, true])
                          | (refine ⟨i + 1, _, rfl, ⟨⟨rfl, rfl, rfl, rfl, rfl, rfl, rfl, rfl, rfl, trivial⟩, ?_, by omega⟩, by omega⟩
                             exact hS.sel [false, true, true, true])
                      ·
                        intro hc100
                        have ht : touched (symsP ev.p) i = true := by unfold touched; rw [sAt_of hsi, hc100]; rfl
                        refine wpIn_skip ?_
                        refine thenN ?_
                        refine wpIn_seq ?_
                        refine reg ?_
                        refine qq hS (g_move _) ?_
                        refine qq hS (g_nilCheck rfl) ?_
                        refine qq hS (g_fieldAddr (o' := k * 7 + 5) Tryz.underlying126 rfl Tryz.sizeOf59 rfl rfl rfl) ?_
                        refine qq hS (g_ldF1 3 (c := 5) Tryz.isAgg59 rfl hpre rfl rfl) ?_
                        refine qq hS (g_movev (v := .int .i64 _) rfl) ?_
                        refine qq hS (g_indexAddrV (o := i) Tryz.underlying59 Tryz.sizeOf4 rfl rfl (by omega) (by omega) (by omega)) ?_
                        refine qe (d_store 2 hS Tryz.sizeOf4 rfl rfl rfl (vs := [.bool true]) rfl rfl rfl (by rw [flat_length boolC_len, marks_len]; omega) (cs' := flat boolC (marks N (touchUp (symsP ev.p) (i + 1)))) (put_touch ht (by omega))) ?_
                        clear hS
                        rintro _ w_26 ⟨rfl, hS⟩
                        refine ol_nil (thenN ?_)
                        refine wpIn_seq ?_
                        refine reg ?_
                        refine qq hS (g_fieldAddr (o' := 0) Tryz.underlying81 rfl Tryz.sizeOf4 rfl rfl rfl) ?_
                        refine qq hS (g_ldO1 0 Tryz.isAgg4 rfl rfl rfl) ?_
                        refine ol_nil (thenN ?_)
                        refine cond_s rfl ?_ ?_
                        ·
                          intro hc108
                          have hat : 0 ≤ s.at_ ∧ s.at_ < (N : Int) := by
                            unfold strange at hsk
                            rw [hc108] at hsk
                            simp only [Bool.true_and, Bool.not_true, Bool.false_and, Bool.or_false, Bool.or_eq_false_iff, decide_eq_false_iff_not] at hsk
                            omega
                          refine draw (.cons 0 .pure (.cons 1 .pure (.cons 2 .pure (.cons 3 .held (.cons 4 .pure (.cons 5 .held (.cons 6 .pure (.cons 7 .bar .nil)))))))) mixed (by kernel_rfl) hS ?_
                          intro w_27 hS
                          refine sp rfl (g_move _) ?_
                          refine sp rfl (g_nilCheck rfl) ?_
                          refine sp rfl (g_fieldAddr (o' := k * 7 + 6) Tryz.underlying126 rfl Tryz.sizeOf59 rfl rfl rfl) ?_
                          refine sh rfl (g_ldF1 3 (c := 6) Tryz.isAgg59 rfl hpre rfl rfl) ?_
                          refine sp rfl (g_fieldAddr (o' := 1) Tryz.underlying81 rfl Tryz.sizeOf3 rfl rfl rfl) ?_
                          refine sh rfl (g_ldO1 0 Tryz.isAgg3 rfl rfl rfl) ?_
                          refine sp rfl (g_indexAddrV (o := s.at_.toNat) Tryz.underlying59 Tryz.sizeOf4 rfl rfl (by omega) (by omega) (by omega)) ?_
                          refine sb rfl (d_store 1 hS Tryz.sizeOf4 rfl rfl rfl (vs := [.bool true]) rfl rfl rfl (by rw [flat_length boolC_len, marks_len]; omega) (cs' := flat boolC (marks N (readUp (symsP ev.p) (i + 1)))) (put_read ht (by rw [sAt_of hsi]; exact hc108) (by rw [sAt_of hsi]; omega) (by omega))) ?_
                          rintro _ w_28 ⟨rfl, hS⟩
                          refine ⟨_, _, hS, ?_⟩
                          refine sn (blkN (thenN ?_))
                          refine reg ?_
                          refine qq hS (g_add rfl rfl (by omega) (by omega)) ?_
                          refine qq hS (g_movev (v := .int .i64 _) rfl) ?_
                          refine ol_nil (thenN ?_)
                          first
                            | (refine ⟨i + 1, _, rfl, ⟨⟨rfl, rfl, rfl, rfl, rfl, rfl, rfl, rfl, rfl, trivial⟩, ?_, by omega⟩, by omega⟩
                               rw [← hts, ← hrs]
                               exact hS.sel [false, true, true, true])
                            | (refine ⟨i + 1, _, rfl, ⟨⟨rfl, rfl, rfl, rfl, rfl, rfl, rfl, rfl, rfl, trivial⟩, ?_, by omega⟩, by omega⟩
                               rw [← hrs]
                               exact hS.sel [false, true, true, true])
                            | (refine ⟨i + 1, _, rfl, ⟨⟨rfl, rfl, rfl, rfl, rfl, rfl, rfl, rfl, rfl, trivial⟩, ?_, by omega⟩, by omega⟩
                               exact hS.sel [false, true, true, true])
                        ·
                          intro hc108
                          have hrs := readUp_skip (l := symsP ev.p) (n := N) (k := i) (by rw [ht, sAt_of hsi, hc108]; rfl)
                          refine wpIn_skip ?_
                          refine blkN (thenN ?_)
                          refine reg ?_
                          refine qq hS (g_add rfl rfl (by omega) (by omega)) ?_
                          refine qq hS (g_movev (v := .int .i64 _) rfl) ?_
                          refine ol_nil (thenN ?_)
                          first
                            | (refine ⟨i + 1, _, rfl, ⟨⟨rfl, rfl, rfl, rfl, rfl, rfl, rfl, rfl, rfl, trivial⟩, ?_, by omega⟩, by omega⟩
                               rw [← hts, ← hrs]
                               exact hS.sel [false, true, true, true])
                            | (refine ⟨i + 1, _, rfl, ⟨⟨rfl, rfl, rfl, rfl, rfl, rfl, rfl, rfl, rfl, trivial⟩, ?_, by omega⟩, by omega⟩
                               rw [← hrs]
                               exact hS.sel [false, true, true, true])
                            | (refine ⟨i + 1, _, rfl, ⟨⟨rfl, rfl, rfl, rfl, rfl, rfl, rfl, rfl, rfl, trivial⟩, ?_, by omega⟩, by omega⟩
                               exact hS.sel [false, true, true, true])
                    ·
                      intro hc93
                      try simp only [Bool.and_eq_true, Bool.or_eq_true, Bool.not_eq_true', Bool.and_eq_false_imp, Bool.or_eq_false_iff, Bool.not_eq_false', decide_eq_true_eq, decide_eq_false_iff_not] at hc93
                      have hi : N = i := by omega
                      subst hi
                      refine wpIn_exit ?_
                      refine thenE (thenE (blkE ?_))
                      refine blkN (thenN ?_)
                      refine reg ?_
                      refine qq hS (g_add rfl rfl (by omega) (by omega)) ?_
                      refine qq hS (g_movev (v := .int .i64 _) rfl) ?_
                      refine ol_nil (thenN ?_)
                      have hn82 : I b82 = none := own_none hS (k := 0) rfl
                      have hn79 : I b79 = none := own_none hS (k := 1) rfl
                      obtain ⟨I2, hS2, hI2, h82⟩ := hS.freezeAt 0 rfl
                      obtain ⟨I3, hS3, hI3, h79⟩ := hS2.freezeAt 0 rfl
                      have hT : RBools I3 (.slice (some ⟨b79, 0, none⟩) N N) (marks N (touched (symsP ev.p))) := by
                        have h := RFl.ofAt boolC_len (marks N (touchUp (symsP ev.p) N)) h79 rfl (by rw [marks_len]; unfold maxLen; omega)
                        rw [marks_len, touchUp_all] at h; exact h
                      have hR : RBools I3 (.slice (some ⟨b82, 0, none⟩) N N) (marks N (readUp (symsP ev.p) N)) := by
                        have h := RFl.ofAt boolC_len (marks N (readUp (symsP ev.p) N)) h82 rfl (by rw [marks_len]; unfold maxLen; omega)
                        rw [marks_len] at h; exact h.mono hI3
                      have hstep := hld.step hei (hI2.trans hI3) (vt := .slice (some ⟨b79, 0, none⟩) N N) (vr := .slice (some ⟨b82, 0, none⟩) N N) ⟨by show RBools I3 _ (marks (symsP ev.p).length _); rw [hN]; exact hT, by show RBools I3 _ (marks (symsP ev.p).length (readUp _ (symsP ev.p).length)); rw [hN]; exact hR⟩ (fun b hb => by cases hb; exact hn79) (fun b hb => by cases hb; exact hn82)
                      refine ⟨⟨k + 1, evs.set k (evSet ev (.slice (some ⟨b79, 0, none⟩) N N) (.slice (some ⟨b82, 0, none⟩) N N))⟩, _, rfl, ⟨⟨rfl, rfl, rfl, rfl, rfl, trivial⟩, I3, ?_, by dsimp only; omega, hstep, any_take hpi heven heq, hsub.trans (hI2.trans hI3)⟩, by dsimp only; omega⟩
                      dsimp only
                      rw [← flat_unfocus (enc := evC) (evSet ev (.slice (some ⟨b79, 0, none⟩) N N) (.slice (some ⟨b82, 0, none⟩) N N)) rest (by omega)]
                      exact hS3
            ·
              intro hc54
              try simp only [Bool.and_eq_true, Bool.or_eq_true, Bool.not_eq_true', Bool.and_eq_false_imp, Bool.or_eq_false_iff, Bool.not_eq_false', decide_eq_true_eq, decide_eq_false_iff_not] at hc54
              have hk : k = l.length := by omega
              subst hk
              rw [List.take_length] at heven
              have e := checkM_good hchk (by rw [hff]; exact hkind) (by rw [hff]; exact heven)
              refine wpIn_exit ?_
              refine thenE (thenE (blkE ?_))
              refine thenN ?_
              refine wpIn_seq ?_
              have hapart : ∀ e ∈ evs, Apart e.vs (.slice (some ⟨b4, 0, none⟩) l.length c) := by
                intro e he b hb hb'
                obtain ⟨o, ho⟩ := (hld.one e he).1.syms.own_some hb
                have h4 : I b4 = none := own_none hS (k := 0) rfl
                cases hb'
                rw [h4] at ho; cases ho
              have hevl : evs.length = l.length := by rw [← hld.ps, List.length_map]
              refine reg ?_
              refine qq hS (g_move _) ?_
              refine qq hS (g_assign _) ?_
              refine qq hS (g_assignv (v := .int .i64 _) rfl) ?_
              refine ol_nil (thenN ?_)
              refine wpIn_ret ?_
              refine ret2 Tryz.results66 (rv_tmp rfl) (rv_tmp (v := .int .i64 _) rfl) ?_
              have hS5 := hS.celRow 0 rfl (by rw [flat_length evC_len, hevl]) hnc hcm (by rw [List.length_append, flat_length evC_len, hevl]; rw [List.length_append] at hrl; omega)
              obtain ⟨I4, hS4, hI4, hrow⟩ := St.freezeRow evC_len hS5 hevl.symm
              refine ⟨I4, some ⟨b4, 0, none⟩, l.length, c, evs, by first | (rw [e]; done) | (rw [e]; rfl), hS4, fun _ => ⟨rfl, hrow, ⟨hld.ps, fun e he => ⟨(hld.one e he).1.mono hI4, (hld.one e he).2⟩, fun i e hi he => (hld.two i e hi he).mono hI4, hld.ss, hld.ts⟩, hapart⟩⟩

end Go.Proofs.YtodopmclnklgdaaGreat

