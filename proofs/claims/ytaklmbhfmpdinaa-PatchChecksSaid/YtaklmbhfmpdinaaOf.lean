/- patch.Of: what it computes. Conditions: numbers within bounds. -/
import Derived.Test.YtaklmbhfmpdinaaLeastR
namespace Go.Proofs.Ytaklmbhfmpdinaa
open Go Go.RowKit Go.Inl
set_option linter.unusedSimpArgs false
set_option linter.unusedVariables false
def sameK (K f : Int) (j : Nat) (t : Sym) : Bool := decide (kindP t = K) && (decide (K = 4) || decide (t.at_ = f + j))
def ofLen (K f : Int) : List Sym → Nat → Nat
  | [], _ => 0
  | t :: r, j => if sameK K f j t then ofLen K f r (j + 1) + 1 else 0
def ofGo : Nat → List Sym → List OpL
  | 0, _ => []
  | _ + 1, [] => []
  | n + 1, s :: r => opS (kindP s) ((s :: r).take (ofLen (kindP s) s.at_ (s :: r) 0)) :: ofGo n ((s :: r).drop (ofLen (kindP s) s.at_ (s :: r) 0))
def ofP (l : List Sym) : List OpL := ofGo l.length l
def ofPP (l : List Sym) (n : Int) : PatL × Int :=
  if decide (n < 0) || decide (65536 < n) || decide (65536 < (l.length : Int)) || l.any (strange n) then (PatL.zero, 60)
  else if 4096 < ((ofP l).length : Int) then (PatL.zero, 2) else (⟨false, n, l.length, ofP l⟩, 0)
theorem kindP_bd (s : Sym) : kindP s = 1 ∨ kindP s = 2 ∨ kindP s = 4 := by
  unfold kindP; repeat' split
  all_goals simp
theorem ofLen_pos (s : Sym) (r : List Sym) : 1 ≤ ofLen (kindP s) s.at_ (s :: r) 0 := by
  unfold ofLen
  rw [if_pos (by simp [sameK])]; omega
def datO (K : Int) (l : List Sym) : List Int := if K = 1 then [] else l.map (·.b)
theorem ofGo_step {m : Nat} {l : List Sym} {s : Sym} (h : l[0]? = some s) : ofGo (m + 1) l = opS (kindP s) (l.take (ofLen (kindP s) s.at_ l 0)) :: ofGo m (l.drop (ofLen (kindP s) s.at_ l 0)) := by
  cases l with
  | nil => simp at h
  | cons s' r => simp at h; subst h; rw [ofGo]
theorem ofGo_nil (m : Nat) : ofGo m [] = [] := by cases m <;> rfl
theorem ofLen_go {K f : Int} {l : List Sym} {t : Sym} {n : Nat} (h : l[n]? = some t) : ofLen K f (l.drop n) n = if sameK K f n t then ofLen K f (l.drop (n + 1)) (n + 1) + 1 else 0 := by
  rw [drop_cons h, ofLen]
theorem ofLen_end {K f : Int} {l : List Sym} {n : Nat} (h : l.length ≤ n) : ofLen K f (l.drop n) n = 0 := by rw [List.drop_of_length_le h, ofLen]
theorem datO_op {s : Sym} {l : List Sym} : datO (kindP s) l = (opS (kindP s) l).data := by
  show _ = (if kindP s = 2 ∨ kindP s = 4 then l.map (·.b) else [])
  unfold datO
  rcases kindP_bd s with h | h | h <;> simp [h]
structure OfS where
  A : Nat
  m : Nat
  done : List OpL
  css : List (List Value)
  a : Option Addr
  c : Nat
  d : Option Addr
  e : Nat

set_option maxRecDepth 20000 in
set_option maxHeartbeats 4000000 in
theorem patchOf_c (ad : Option Addr) (cap : Nat) (l : List Sym) (size : Int) (w0 : World) (I0 : Imm) (hI : Sat I0 w0) (hl : RSyms I0 (.slice ad l.length cap) l) (hw : ∀ s ∈ l, s.wf) :
    Ctr Try.prog 16 [.slice ad l.length cap, .int .i64 size] w0 (fun v w' => ∃ I' a m c, v = .tuple #[.agg #[.bool (ofPP l size).1.lifted, .int .i64 (ofPP l size).1.in_, .int .i64 (ofPP l size).1.out, .slice a m c], .int .i64 (ofPP l size).2] ∧ Ext w0 I0 w' I' ∧ ROps I' (.slice a m c) (ofPP l size).1.ops) := by
  have hll := RSl.le hl
  simp only [maxLen] at hll
  refine fn (n := 138) Try.func16 rfl rfl rfl ?_
  have hS := St.start hI
  refine wpIn_seq ?_
  refine reg ?_
  refine qe (d_alloc (cs := [.bool _, .int .i64 _, .int .i64 _, .slice _ _ _]) hS Try.zeroValue24 rfl) ?_
  clear hS
  rintro _ w_1 ⟨b4, rfl, hS⟩
  refine qq hS (g_assignv (v := .int .i64 _) rfl) ?_
  refine ol_nil (thenN ?_)
  refine wpIn_seq ?_
  refine wpIn_seq ?_
  refine reg ?_
  refine qq hS (g_movev (v := .int .i64 _) rfl) ?_
  refine qq hS (g_lss rfl rfl) ?_
  refine qq hS (g_movev (v := .bool _) rfl) ?_
  refine qu rfl rfl hS (fun hg => (g_movev (v := .int .i64 _) rfl)) ?_
  intro u13 hu13 hn13
  refine qu rfl rfl hS (fun hg => (g_gtr (hu13 hg) rfl)) ?_
  intro u14 hu14 hn14
  refine qq hS (g_or rfl rfl (fun hq => hu14 hq)) ?_
  refine qq hS (g_movev (v := .bool _) rfl) ?_
  refine qu rfl rfl hS (fun hg => (g_move _)) ?_
  intro u17 hu17 hn17
  refine qu rfl rfl hS (fun hg => (g_lenI rfl Try.underlying43 hl (hu17 hg))) ?_
  intro u18 hu18 hn18
  refine qu rfl rfl hS (fun hg => (g_gtr (hu18 hg) rfl)) ?_
  intro u19 hu19 hn19
  refine qq hS (g_or rfl rfl (fun hq => hu19 hq)) ?_
  refine ol_nil (thenN ?_)
  refine cond_s rfl ?_ ?_
  ·
    intro hc20
    clear hu13 hn13 hu14 hn14 hu17 hn17 hu18 hn18 hu19 hn19
    have e : ofPP l size = (PatL.zero, 60) := by unfold ofPP; rw [if_pos (by rw [hc20, Bool.true_or])]
    refine wpIn_seq ?_
    refine reg ?_
    refine qq hS (g_buildv (pl := [(0, 1), (1, 1), (2, 1), (3, 1)]) (cs := [.bool _, .int .i64 _, .int .i64 _, .slice _ _ _]) Try.zeroValue24 Try.underlying24 (fun w => by simp [Try.sizeOf22, Try.sizeOf3, Try.sizeOf4]) mp0 rfl) ?_
    refine qe (d_store 0 hS Try.sizeOf24 rfl rfl rfl (vs := [.bool _, .int .i64 _, .int .i64 _, .slice _ _ _]) rfl rfl rfl (Nat.le_of_ble_eq_true rfl) (cs' := [_, _, _, _]) rfl) ?_
    clear hS
    rintro _ w_2 ⟨rfl, hS⟩
    refine qq hS (g_assignv (v := .int .i64 _) rfl) ?_
    refine ol_nil (thenN ?_)
    refine wpIn_ret ?_
    refine thenR ?_
    refine ret2 Try.results16 (rv_cel 0 hS Try.sizeOf24 Try.isAgg24 rfl rfl rfl) (rv_tmp (v := .int .i64 _) rfl) ?_
    rw [e]; exact ⟨_, none, 0, 0, rfl, hS.nil, RSl.nilR⟩
  ·
    intro hc20
    clear hu13 hn13 hu14 hn14 hu17 hn17 hu18 hn18 hu19 hn19
    have hbad0 := hc20
    simp only [Bool.or_eq_false_iff, decide_eq_false_iff_not] at hc20
    obtain ⟨⟨hn0, hn1⟩, hn2⟩ := hc20
    refine wpIn_skip ?_
    refine thenN ?_
    refine wpIn_seq ?_
    refine reg ?_
    refine qq hS (g_movev (v := .int .i64 _) rfl) ?_
    refine qq hS (g_move _) ?_
    refine qq hS (g_lenI rfl Try.underlying43 hl rfl) ?_
    refine qq hS (g_buildv (pl := [(0, 1), (1, 1), (2, 1), (3, 1)]) (cs := [.bool _, .int .i64 _, .int .i64 _, .slice _ _ _]) Try.zeroValue24 Try.underlying24 (fun w => by simp [Try.sizeOf22, Try.sizeOf3, Try.sizeOf4]) (mp (v := .int .i64 _) rfl (mp (v := .int .i64 _) rfl mp0)) rfl) ?_
    refine qe (d_alloc (cs := [.bool _, .int .i64 _, .int .i64 _, .slice _ _ _]) hS Try.zeroValue24 rfl) ?_
    clear hS
    rintro _ w_3 ⟨b6, rfl, hS⟩
    refine qe (d_store 0 hS Try.sizeOf24 rfl rfl rfl (vs := [.bool _, .int .i64 _, .int .i64 _, .slice _ _ _]) rfl rfl rfl (Nat.le_of_ble_eq_true rfl) (cs' := [_, _, _, _]) rfl) ?_
    clear hS
    rintro _ w_4 ⟨rfl, hS⟩
    refine ol_nil (thenN ?_)
    refine wpIn_seq ?_
    refine wpIn_seq ?_
    refine reg ?_
    refine qq hS (g_move _) ?_
    refine qq hS (g_lenI rfl Try.underlying43 hl rfl) ?_
    refine qq hS (g_movev (v := .int .i64 _) rfl) ?_
    refine ol_nil (thenN ?_)
    refine wpIn_block ?_
    refine loop (fun (i : Nat) σ w => okS σ [(0, .slice ad l.length cap), (1, .int .i64 size), (4, .pointer (some ⟨b4, 0, none⟩)), (6, .pointer (some ⟨b6, 0, none⟩)), (26, .slice ad l.length cap), (27, .int .i64 l.length), (28, .int .i64 i)] ∧ St [] w0 I0 I0 w [.cel b6 24 [.bool false, .int .i64 size, .int .i64 l.length, .slice none 0 0], .cel b4 24 [.bool false, .int .i64 0, .int .i64 0, .slice none 0 0]] ∧ i ≤ l.length ∧ ∀ s ∈ l.take i, strange size s = false) (fun i => l.length - i) (0) ?_ ?_
    ·
      exact ⟨⟨rfl, rfl, rfl, rfl, rfl, rfl, rfl, trivial⟩, hS.sel [true, true], by simp, by simp⟩
    ·
      rintro i σ w_l ⟨hs, hS, hi0, hbad⟩
      rw [← upds_self hs]; clear hs
      refine wpIn_seq ?_
      refine reg ?_
      refine qq hS (g_lss rfl rfl) ?_
      refine ol_nil (thenN ?_)
      refine wpIn_seq ?_
      refine cond_s rfl ?_ ?_
      ·
        intro hc29
        try simp only [Bool.and_eq_true, Bool.or_eq_true, Bool.not_eq_true', Bool.and_eq_false_imp, Bool.or_eq_false_iff, Bool.not_eq_false', decide_eq_true_eq, decide_eq_false_iff_not] at hc29
        obtain ⟨s, hsi⟩ : ∃ s, l[i]? = some s := ⟨_, List.getElem?_eq_getElem (by omega)⟩
        have hsA := hl.at hsi
        refine wpIn_skip ?_
        refine thenN ?_
        refine wpIn_seq ?_
        refine wpIn_block ?_
        refine wpIn_seq ?_
        refine reg ?_
        refine qq hS (g_ixI Try.underlying43 Try.sizeOf64 hl rfl rfl (by omega) (by omega)) ?_
        refine qq hS (g_ldE (us := [.bool _, .int .i64 _, .int .u8 _]) Try.sizeOf64 Try.isAgg64 hsA rfl rfl rfl) ?_
        refine qe (d_alloc (cs := [.bool _, .int .i64 _, .int .u8 _]) hS Try.zeroValue64 rfl) ?_
        clear hS
        rintro _ w_5 ⟨b8, rfl, hS⟩
        refine qe (d_store 0 hS Try.sizeOf64 rfl rfl rfl (vs := [.bool _, .int .i64 _, .int .u8 _]) rfl rfl rfl (Nat.le_of_ble_eq_true rfl) (cs' := [_, _, _]) rfl) ?_
        clear hS
        rintro _ w_6 ⟨rfl, hS⟩
        refine ol_nil (thenN ?_)
        refine wpIn_seq ?_
        refine reg ?_
        refine qq hS (g_fieldAddr (o' := 0) Try.underlying64 rfl Try.sizeOf4 rfl rfl rfl) ?_
        refine qq hS (g_ldO1 0 Try.isAgg4 rfl rfl rfl) ?_
        refine qq hS (g_movev (v := .bool _) rfl) ?_
        refine qu rfl rfl hS (fun hg => (g_fieldAddr (o' := 1) Try.underlying64 rfl Try.sizeOf3 rfl rfl rfl)) ?_
        intro u35 hu35 hn35
        refine qu rfl rfl hS (fun hg => (g_ldO1 0 Try.isAgg3 rfl (hu35 hg) rfl)) ?_
        intro u36 hu36 hn36
        refine qu rfl rfl hS (fun hg => (g_lss (hu36 hg) rfl)) ?_
        intro u37 hu37 hn37
        refine qu rfl rfl hS (fun hg => (g_movev (hu37 hg))) ?_
        intro u38 hu38 hn38
        refine qn rfl hu38 hn38 hS (fun hg => (g_fieldAddr (o' := 1) Try.underlying64 rfl Try.sizeOf3 rfl rfl rfl)) ?_
        intro u39 hu39 hn39
        refine qn rfl hu38 hn38 hS (fun hg => (g_ldO1 0 Try.isAgg3 rfl (hu39 hg) rfl)) ?_
        intro u40 hu40 hn40
        refine qn rfl hu38 hn38 hS (fun hg => (g_movev (v := .int .i64 _) rfl)) ?_
        intro u41 hu41 hn41
        refine qn rfl hu38 hn38 hS (fun hg => (g_geq (hu40 hg) (hu41 hg))) ?_
        intro u42 hu42 hn42
        refine qu rfl rfl hS (fun hg => (g_or (hu38 hg) rfl (fun hq => hu42 ⟨hg, hq⟩))) ?_
        intro u43 hu43 hn43
        refine qq hS (g_and rfl rfl (fun hq => hu43 hq)) ?_
        refine qq hS (g_movev (v := .bool _) rfl) ?_
        refine qu rfl rfl hS (fun hg => (g_fieldAddr (o' := 0) Try.underlying64 rfl Try.sizeOf4 rfl rfl rfl)) ?_
        intro u46 hu46 hn46
        refine qu rfl rfl hS (fun hg => (g_ldO1 0 Try.isAgg4 rfl (hu46 hg) rfl)) ?_
        intro u47 hu47 hn47
        refine qu rfl rfl hS (fun hg => (g_not (hu47 hg))) ?_
        intro u48 hu48 hn48
        refine qu rfl rfl hS (fun hg => (g_movev (hu48 hg))) ?_
        intro u49 hu49 hn49
        refine qn rfl hu49 hn49 hS (fun hg => (g_fieldAddr (o' := 1) Try.underlying64 rfl Try.sizeOf3 rfl rfl rfl)) ?_
        intro u50 hu50 hn50
        refine qn rfl hu49 hn49 hS (fun hg => (g_ldO1 0 Try.isAgg3 rfl (hu50 hg) rfl)) ?_
        intro u51 hu51 hn51
        refine qn rfl hu49 hn49 hS (fun hg => (g_neq (hu51 hg) rfl)) ?_
        intro u52 hu52 hn52
        refine qu rfl rfl hS (fun hg => (g_and (hu49 hg) rfl (fun hq => hu52 ⟨hg, hq⟩))) ?_
        intro u53 hu53 hn53
        refine qq hS (g_or rfl rfl (fun hq => hu53 hq)) ?_
        refine ol_nil (thenN ?_)
        refine cond_s rfl ?_ ?_
        ·
          intro hc54
          clear hu35 hn35 hu36 hn36 hu37 hn37 hu38 hn38 hu39 hn39 hu40 hn40 hu41 hn41 hu42 hn42 hu43 hn43 hu46 hn46 hu47 hn47 hu48 hn48 hu49 hn49 hu50 hn50 hu51 hn51 hu52 hn52 hu53 hn53
          have e : ofPP l size = (PatL.zero, 60) := by
            unfold ofPP
            rw [if_pos]
            have : l.any (strange size) = true := List.any_eq_true.2 ⟨s, List.mem_of_getElem? hsi, hc54⟩
            rw [this, Bool.or_true]
          refine wpIn_seq ?_
          refine reg ?_
          refine qq hS (g_buildv (pl := [(0, 1), (1, 1), (2, 1), (3, 1)]) (cs := [.bool _, .int .i64 _, .int .i64 _, .slice _ _ _]) Try.zeroValue24 Try.underlying24 (fun w => by simp [Try.sizeOf22, Try.sizeOf3, Try.sizeOf4]) mp0 rfl) ?_
          refine qe (d_store 2 hS Try.sizeOf24 rfl rfl rfl (vs := [.bool _, .int .i64 _, .int .i64 _, .slice _ _ _]) rfl rfl rfl (Nat.le_of_ble_eq_true rfl) (cs' := [_, _, _, _]) rfl) ?_
          clear hS
          rintro _ w_7 ⟨rfl, hS⟩
          refine qq hS (g_assignv (v := .int .i64 _) rfl) ?_
          refine ol_nil (thenN ?_)
          refine wpIn_ret ?_
          refine blkR (thenR (thenR (blkR (thenR ?_))))
          refine ret2 Try.results16 (rv_cel 2 hS Try.sizeOf24 Try.isAgg24 rfl rfl rfl) (rv_tmp (v := .int .i64 _) rfl) ?_
          rw [e]; exact ⟨_, none, 0, 0, rfl, hS.nil, RSl.nilR⟩
        ·
          intro hc54
          clear hu35 hn35 hu36 hn36 hu37 hn37 hu38 hn38 hu39 hn39 hu40 hn40 hu41 hn41 hu42 hn42 hu43 hn43 hu46 hn46 hu47 hn47 hu48 hn48 hu49 hn49 hu50 hn50 hu51 hn51 hu52 hn52 hu53 hn53
          have hsg : strange size s = false := hc54
          refine wpIn_skip ?_
          refine blkN (thenN ?_)
          refine reg ?_
          refine qq hS (g_add rfl rfl (by omega) (by omega)) ?_
          refine qq hS (g_movev (v := .int .i64 _) rfl) ?_
          exact ⟨i + 1, _, rfl, ⟨⟨rfl, rfl, rfl, rfl, rfl, rfl, rfl, trivial⟩, hS.sel [false, true, true], by omega, any_take hsi hbad hsg⟩, by omega⟩
      ·
        intro hc29
        try simp only [Bool.and_eq_true, Bool.or_eq_true, Bool.not_eq_true', Bool.and_eq_false_imp, Bool.or_eq_false_iff, Bool.not_eq_false', decide_eq_true_eq, decide_eq_false_iff_not] at hc29
        have hil : i = l.length := by omega
        subst hil
        rw [List.take_length] at hbad
        have hok : okL size l := hbad
        have hany : l.any (strange size) = false := by rw [List.any_eq_false]; intro s hs; rw [hok s hs]; simp
        have e0 : ofPP l size = if 4096 < ((ofP l).length : Int) then (PatL.zero, 2) else (⟨false, size, l.length, ofP l⟩, 0) := by unfold ofPP; rw [hbad0, hany]; rfl
        refine wpIn_exit ?_
        refine thenE (thenE (blkE ?_))
        refine thenN ?_
        refine wpIn_seq ?_
        refine wpIn_block ?_
        refine loop (fun (x : OfS) σ w => okS σ [(0, .slice x.d (l.length - x.A) x.e), (4, .pointer (some ⟨b4, 0, none⟩)), (6, .pointer (some ⟨b6, 0, none⟩))] ∧ ∃ I, St [] w0 I0 I w [.row (.slice x.a x.done.length x.c) 35 5 x.done.length x.css.flatten, .cel b6 24 [.bool false, .int .i64 size, .int .i64 l.length, .slice x.a x.done.length x.c], .cel b4 24 [.bool false, .int .i64 0, .int .i64 0, .slice none 0 0]] ∧ x.A ≤ l.length ∧ l.length - x.A ≤ x.m ∧ x.done ++ ofGo x.m (l.drop x.A) = ofP l ∧ x.done.length ≤ x.A ∧ RSyms I0 (.slice x.d (l.length - x.A) x.e) (l.drop x.A) ∧ All2 (ROp I) x.css x.done ∧ (∀ cs ∈ x.css, cs.length = 5)) (fun x => l.length - x.A) (⟨0, l.length, [], [], none, 0, ad, cap⟩) ?_ ?_
        ·
          exact ⟨⟨rfl, rfl, rfl, trivial⟩, _, (hS.sel [true, true]).nilRow _ _, by simp, by simp, rfl, by simp, hl, All2.nil _, by simp⟩
        ·
          rintro ⟨A, m, done, css, a, c, d, e⟩ σ w_l ⟨hs, I, hS, hA0, hm0, hdone, hdl, hli, hall, hcl⟩
          dsimp only at hs hS hA0 hm0 hdone hdl hli hall hcl ⊢
          rw [← upds_self hs]; clear hs
          have hlen : (l.drop A).length = l.length - A := List.length_drop
          refine wpIn_seq ?_
          refine wpIn_seq ?_
          refine reg ?_
          refine qq hS (g_move _) ?_
          refine qq hS (g_lenI rfl Try.underlying43 hli rfl) ?_
          refine qq hS (g_gtr rfl rfl) ?_
          refine ol_nil (thenN ?_)
          refine cond_s rfl ?_ ?_
          ·
            intro hc59
            try simp only [Bool.and_eq_true, Bool.or_eq_true, Bool.not_eq_true', Bool.and_eq_false_imp, Bool.or_eq_false_iff, Bool.not_eq_false', decide_eq_true_eq, decide_eq_false_iff_not] at hc59
            obtain ⟨s, hsi⟩ : ∃ s, (l.drop A)[0]? = some s := ⟨_, List.getElem?_eq_getElem (by omega)⟩
            have hliI := hli.mono hS.ext
            have hsA := hliI.at hsi
            have hsm : s ∈ l := List.mem_of_mem_drop (List.mem_of_getElem? hsi)
            obtain ⟨sw1, sw2, sw3, sw4⟩ := hw s hsm
            obtain ⟨m', rfl⟩ : ∃ m', m = m' + 1 := ⟨m - 1, by omega⟩
            rw [ofGo_step hsi] at hdone
            have hpos := ofLen_pos s ((l.drop A).tail)
            rw [show s :: (l.drop A).tail = (l.drop A) by cases hd : (l.drop A) with
              | nil => rw [hd] at hsi; simp at hsi
              | cons x r => rw [hd] at hsi; simp at hsi; rw [hsi]; rfl] at hpos
            obtain ⟨N0, hN0⟩ : ∃ x, ofLen (kindP s) s.at_ (l.drop A) 0 = x := ⟨_, rfl⟩
            rw [hN0] at hpos hdone
            refine wpIn_skip ?_
            refine thenN ?_
            refine wpIn_block ?_
            refine wpIn_seq ?_
            refine draw (.cons 0 .pure (.cons 1 .pure (.cons 2 .held (.cons 4 .pure (.cons 5 .pure (.cons 6 .pure (.cons 7 .held (.fork 3 (.cons 8 .pure (.cons 9 .eff (.cons 10 .bar .nil))) 9 (.cons 3 .eff (.cons 8 .pure (.cons 10 .bar .nil))))))))))) mixed (by kernel_rfl) hS ?_
            intro w_8 hS
            refine sp rfl (g_move _) ?_
            refine sp rfl (g_ixI Try.underlying43 Try.sizeOf64 hli rfl rfl (by omega) (by omega)) ?_
            refine sh rfl (g_ldE (us := [.bool _, .int .i64 _, .int .u8 _]) Try.sizeOf64 Try.isAgg64 hsA rfl rfl rfl) ?_
            refine sp rfl (g_move _) ?_
            refine sp rfl (g_ixI Try.underlying43 Try.sizeOf64 hli rfl rfl (by omega) (by omega)) ?_
            refine sp rfl (g_fieldE (c' := 1) Try.underlying64 rfl Try.sizeOf3 rfl rfl rfl) ?_
            refine sh rfl (g_ldE1 Try.isAgg3 hsA rfl rfl) ?_
            refine sk ?_ ?_
            ·
              have hS0 := hS
              refine se rfl (d_call Try.call41 rfl (kindP_c s _ _ hS.imm)) ?_
              rintro _ w_9 ⟨rfl, hE⟩
              replace hS := hS.call hE
              refine ⟨_, _, hS0.le hE.ext (List.Sublist.refl _), hS, ?_⟩
              refine sp rfl (g_buildv (pl := [(0, 1), (1, 1), (2, 1), (3, 1), (4, 1)]) (cs := [.int .i64 _, .int .i64 _, .int .i64 _, .int .u8 _, .slice _ _ _]) Try.zeroValue35 Try.underlying35 (fun w => by simp [Try.sizeOf3, Try.sizeOf33, Try.sizeOf5]) (mp (v := .int .i64 _) rfl (mp (v := .int .i64 _) rfl mp0)) rfl) ?_
              have hS0 := hS
              refine se rfl (d_alloc (cs := [.int .i64 _, .int .i64 _, .int .i64 _, .int .u8 _, .slice _ _ _]) hS Try.zeroValue35 rfl) ?_
              rintro _ w_10 ⟨b9, rfl, hS⟩
              refine ⟨_, _, hS0.le (Sub.refl _) (List.sublist_cons_self _ _), hS, ?_⟩
              refine sb rfl (d_store 0 hS Try.sizeOf35 rfl rfl rfl (vs := [.int .i64 _, .int .i64 _, .int .i64 _, .int .u8 _, .slice _ _ _]) rfl rfl rfl (Nat.le_of_ble_eq_true rfl) (cs' := [_, _, _, _, _]) rfl) ?_
              rintro _ w_11 ⟨rfl, hS⟩
              refine ⟨_, _, hS, ?_⟩
              refine sn (thenN ?_)
              refine wpIn_seq ?_
              refine wpIn_block ?_
              refine loop (fun (x : Nat × Option Addr × Nat) σ w => okS σ [(0, .slice d (l.length - A) e), (4, .pointer (some ⟨b4, 0, none⟩)), (6, .pointer (some ⟨b6, 0, none⟩)), (9, .pointer (some ⟨b9, 0, none⟩))] ∧ St [] w0 I0 I w [.row (.slice x.2.1 (datO (kindP s) ((l.drop A).take x.1)).length x.2.2) 5 1 (datO (kindP s) ((l.drop A).take x.1)).length (flat byteC (datO (kindP s) ((l.drop A).take x.1))), .cel b9 35 [.int .i64 (kindP s), .int .i64 s.at_, .int .i64 x.1, .int .u8 0, .slice x.2.1 (datO (kindP s) ((l.drop A).take x.1)).length x.2.2], .row (.slice a done.length c) 35 5 done.length css.flatten, .cel b6 24 [.bool false, .int .i64 size, .int .i64 l.length, .slice a done.length c], .cel b4 24 [.bool false, .int .i64 0, .int .i64 0, .slice none 0 0]] ∧ x.1 ≤ (l.drop A).length ∧ ofLen (kindP s) s.at_ ((l.drop A).drop x.1) x.1 + x.1 = N0) (fun x => (l.drop A).length - x.1) ((0, none, 0)) ?_ ?_
              ·
                refine ⟨⟨rfl, rfl, rfl, rfl, trivial⟩, ?_, by simp, by simpa using hN0⟩
                have hd0 : datO (kindP s) ((l.drop A).take 0) = [] := by unfold datO; split <;> simp
                dsimp only
                rw [hd0]
                exact (hS.sel [true, true, true, true]).nilRow _ _
              ·
                rintro ⟨n, a3, c3⟩ σ w_l ⟨hs, hS, hn0, hof⟩
                dsimp only at hs hS hn0 hof ⊢
                rw [← upds_self hs]; clear hs
                obtain ⟨t, ht⟩ : ∃ t, n < l.length - A → (l.drop A)[n]? = some t := by
                  by_cases h : n < (l.drop A).length
                  · exact ⟨_, fun _ => List.getElem?_eq_getElem h⟩
                  · exact ⟨⟨false, 0, 0⟩, fun h' => absurd h' (by omega)⟩
                have htA := fun (h : n < l.length - A) => hliI.at (ht h)
                have hdn : (datO (kindP s) ((l.drop A).take n)).length ≤ n := by
                  unfold datO; split
                  · simp
                  · rw [List.length_map, List.length_take]; omega
                obtain ⟨D, hDD⟩ : ∃ D, datO (kindP s) ((l.drop A).take n) = D := ⟨_, rfl⟩
                rw [hDD] at hS hdn
                refine wpIn_seq ?_
                refine wpIn_seq ?_
                refine draw (.cons 0 .pure (.cons 1 .held (.cons 2 .pure (.cons 3 .pure (.cons 4 .pure (.cons 5 .pure (.cons 6 .pure (.cons 7 .pure (.cons 8 .held (.cons 9 .pure (.cons 10 .held (.cons 12 .pure (.cons 13 .held (.cons 11 .eff (.cons 14 .pure (.cons 15 .pure (.cons 16 .pure (.cons 17 .pure (.cons 18 .held (.cons 19 .pure (.cons 20 .pure (.cons 21 .pure (.cons 22 .pure (.cons 23 .held (.cons 24 .pure (.cons 25 .pure (.cons 26 .held (.cons 27 .pure (.cons 28 .held (.cons 29 .pure (.cons 30 .held (.cons 31 .pure (.cons 32 .pure (.cons 33 .pure (.cons 34 .pure .nil))))))))))))))))))))))))))))))))))) mixed (by kernel_rfl) hS ?_
                intro w_12 hS
                refine sp rfl (g_fieldAddr (o' := 2) Try.underlying35 rfl Try.sizeOf3 rfl rfl rfl) ?_
                refine sh rfl (g_ldO1 1 Try.isAgg3 rfl rfl rfl) ?_
                refine sp rfl (g_move _) ?_
                refine sp rfl (g_lenI rfl Try.underlying43 hli rfl) ?_
                refine sp rfl (g_lss rfl rfl) ?_
                refine sp rfl (g_movev (v := .bool _) rfl) ?_
                refine spu rfl rfl rfl (fun hg => (g_move _)) ?_
                intro u75 hu75 hn75
                refine spu rfl rfl rfl (fun hg => (g_fieldAddr (o' := 2) Try.underlying35 rfl Try.sizeOf3 rfl rfl rfl)) ?_
                intro u76 hu76 hn76
                refine shu rfl rfl rfl (fun hg => (g_ldO1 1 Try.isAgg3 rfl (hu76 hg) rfl)) ?_
                intro u77 hu77 hn77
                refine spu rfl rfl rfl (fun hg => (g_ixI Try.underlying43 Try.sizeOf64 hli (hu75 hg) (hu77 hg) (by omega) (by simp only [decide_eq_true_eq] at hg; omega))) ?_
                intro u78 hu78 hn78
                refine shu rfl rfl rfl (fun hg => (g_ldE (us := [.bool _, .int .i64 _, .int .u8 _]) Try.sizeOf64 Try.isAgg64 (htA (by simp only [decide_eq_true_eq] at hg; omega)) (hu78 hg) rfl rfl)) ?_
                intro u79 hu79 hn79
                refine spu rfl rfl rfl (fun hg => (g_fieldAddr (o' := 0) Try.underlying35 rfl Try.sizeOf3 rfl rfl rfl)) ?_
                intro u81 hu81 hn81
                refine shu rfl rfl rfl (fun hg => (g_ldO1 1 Try.isAgg3 rfl (hu81 hg) rfl)) ?_
                intro u82 hu82 hn82
                refine scu rfl rfl rfl hS (fun hg => (d_call Try.call41 (ml (hu79 hg) ml0) (kindP_c t _ _ hS.imm))) ?_
                intro w_14 u80 hS hu80 hn80
                refine spu rfl rfl rfl (fun hg => (g_eql (hu80 hg) (hu82 hg))) ?_
                intro u83 hu83 hn83
                refine sp rfl (g_and rfl rfl (fun hq => hu83 hq)) ?_
                refine sp rfl (g_movev (v := .bool _) rfl) ?_
                refine spu rfl rfl rfl (fun hg => (g_fieldAddr (o' := 0) Try.underlying35 rfl Try.sizeOf3 rfl rfl rfl)) ?_
                intro u86 hu86 hn86
                refine shu rfl rfl rfl (fun hg => (g_ldO1 1 Try.isAgg3 rfl (hu86 hg) rfl)) ?_
                intro u87 hu87 hn87
                refine spu rfl rfl rfl (fun hg => (g_eql (hu87 hg) rfl)) ?_
                intro u88 hu88 hn88
                refine spu rfl rfl rfl (fun hg => (g_movev (hu88 hg))) ?_
                intro u89 hu89 hn89
                refine spn (P := Try.prog) rfl rfl (C := _) hu89 hn89 (fun hg => (g_move _)) ?_
                intro u90 hu90 hn90
                refine spn (P := Try.prog) rfl rfl (C := _) hu89 hn89 (fun hg => (g_fieldAddr (o' := 2) Try.underlying35 rfl Try.sizeOf3 rfl rfl rfl)) ?_
                intro u91 hu91 hn91
                refine shn (P := Try.prog) rfl rfl (C := _) hu89 hn89 (fun hg => (g_ldO1 1 Try.isAgg3 rfl (hu91 hg) rfl)) ?_
                intro u92 hu92 hn92
                refine spn (P := Try.prog) rfl rfl (C := _) hu89 hn89 (fun hg => (g_ixI Try.underlying43 Try.sizeOf64 hli (hu90 hg) (hu92 hg) (by omega) (by simp only [Bool.and_eq_true, decide_eq_true_eq] at hg; omega))) ?_
                intro u93 hu93 hn93
                refine spn (P := Try.prog) rfl rfl (C := _) hu89 hn89 (fun hg => (g_fieldE (c' := 1) Try.underlying64 rfl Try.sizeOf3 rfl (hu93 hg) rfl)) ?_
                intro u94 hu94 hn94
                refine shn (P := Try.prog) rfl rfl (C := _) hu89 hn89 (fun hg => (g_ldE1 Try.isAgg3 (htA (by simp only [Bool.and_eq_true, decide_eq_true_eq] at hg; omega)) (hu94 hg) rfl)) ?_
                intro u95 hu95 hn95
                refine spn (P := Try.prog) rfl rfl (C := _) hu89 hn89 (fun hg => (g_fieldAddr (o' := 1) Try.underlying35 rfl Try.sizeOf3 rfl rfl rfl)) ?_
                intro u96 hu96 hn96
                refine shn (P := Try.prog) rfl rfl (C := _) hu89 hn89 (fun hg => (g_ldO1 1 Try.isAgg3 rfl (hu96 hg) rfl)) ?_
                intro u97 hu97 hn97
                refine spn (P := Try.prog) rfl rfl (C := _) hu89 hn89 (fun hg => (g_fieldAddr (o' := 2) Try.underlying35 rfl Try.sizeOf3 rfl rfl rfl)) ?_
                intro u98 hu98 hn98
                refine shn (P := Try.prog) rfl rfl (C := _) hu89 hn89 (fun hg => (g_ldO1 1 Try.isAgg3 rfl (hu98 hg) rfl)) ?_
                intro u99 hu99 hn99
                refine spn (P := Try.prog) rfl rfl (C := _) hu89 hn89 (fun hg => (g_add (hu97 hg) (hu99 hg) (by omega) (by omega))) ?_
                intro u100 hu100 hn100
                refine spn (P := Try.prog) rfl rfl (C := _) hu89 hn89 (fun hg => (g_eql (hu95 hg) (hu100 hg))) ?_
                intro u101 hu101 hn101
                refine spu rfl rfl rfl (fun hg => (g_or (hu89 hg) rfl (fun hq => hu101 ⟨hg, hq⟩))) ?_
                intro u102 hu102 hn102
                refine sp rfl (g_and rfl rfl (fun hq => hu102 hq)) ?_
                refine sn (thenN ?_)
                refine cond_s rfl ?_ ?_
                ·
                  intro hc103
                  clear hu75 hn75 hu76 hn76 hu77 hn77 hu78 hn78 hu79 hn79 hu81 hn81 hu82 hn82 hu80 hn80 hu83 hn83 hu86 hn86 hu87 hn87 hu88 hn88 hu89 hn89 hu90 hn90 hu91 hn91 hu92 hn92 hu93 hn93 hu94 hn94 hu95 hn95 hu96 hn96 hu97 hn97 hu98 hn98 hu99 hn99 hu100 hn100 hu101 hn101 hu102 hn102
                  simp only [Bool.and_eq_true, Bool.or_eq_true, decide_eq_true_eq] at hc103
                  obtain ⟨⟨hlt, hk1⟩, hk2⟩ := hc103
                  have hlt' : n < l.length - A := by omega
                  have hti := ht hlt'
                  have htA1 := htA hlt'
                  rw [ofLen_go hti, if_pos (by simp only [sameK, Bool.and_eq_true, Bool.or_eq_true, decide_eq_true_eq]; exact ⟨hk1, hk2⟩)] at hof
                  refine wpIn_skip ?_
                  refine thenN ?_
                  refine wpIn_block ?_
                  refine wpIn_seq ?_
                  refine wpIn_seq ?_
                  refine reg ?_
                  refine qq hS (g_fieldAddr (o' := 0) Try.underlying35 rfl Try.sizeOf3 rfl rfl rfl) ?_
                  refine qq hS (g_ldO1 1 Try.isAgg3 rfl rfl rfl) ?_
                  refine qq hS (g_neq rfl rfl) ?_
                  refine ol_nil (thenN ?_)
                  refine cond_s rfl ?_ ?_
                  ·
                    intro hc106
                    try simp only [Bool.and_eq_true, Bool.or_eq_true, Bool.not_eq_true', Bool.and_eq_false_imp, Bool.or_eq_false_iff, Bool.not_eq_false', decide_eq_true_eq, decide_eq_false_iff_not] at hc106
                    have hD : datO (kindP s) ((l.drop A).take (n + 1)) = D ++ [t.b] := by rw [← hDD]; unfold datO; rw [if_neg hc106, if_neg hc106, take_snoc hti, List.map_append]; rfl
                    refine draw (.cons 0 .pure (.cons 1 .held (.cons 2 .pure (.cons 3 .pure (.cons 4 .held (.cons 5 .pure (.cons 6 .pure (.cons 7 .held (.cons 8 .eff (.cons 9 .bar (.cons 10 .pure (.cons 11 .bar .nil)))))))))))) mixed (by kernel_rfl) hS ?_
                    intro w_15 hS
                    refine sp rfl (g_fieldAddr (o' := 4) Try.underlying35 rfl Try.sizeOf33 rfl rfl rfl) ?_
                    refine sh rfl (g_ldO1 1 Try.isAgg33 rfl rfl rfl) ?_
                    refine sp rfl (g_move _) ?_
                    refine sp rfl (g_fieldAddr (o' := 2) Try.underlying35 rfl Try.sizeOf3 rfl rfl rfl) ?_
                    refine sh rfl (g_ldO1 1 Try.isAgg3 rfl rfl rfl) ?_
                    refine sp rfl (g_ixI Try.underlying43 Try.sizeOf64 hli rfl rfl (by omega) (by omega)) ?_
                    refine sp rfl (g_fieldE (c' := 2) Try.underlying64 rfl Try.sizeOf5 rfl rfl rfl) ?_
                    refine sh rfl (g_ldE1 Try.isAgg5 htA1 rfl rfl) ?_
                    have hS0 := hS
                    refine se rfl (d_lit (vs := [.int .u8 _]) (cs := [.int .u8 _]) hS Try.underlying33 Try.sizeOf5 Try.zeroValue5 rfl rfl rfl rfl (fun v hv => by simp only [List.mem_cons, List.not_mem_nil, or_false] at hv; subst hv; rfl) rfl) ?_
                    rintro _ w_16 ⟨b_16, rfl, hS⟩
                    refine ⟨_, _, hS0.le (Sub.refl _) (List.sublist_cons_self _ _), hS, ?_⟩
                    refine sb rfl (i_appendO 1 0 hS rfl Try.underlying33 info5 rfl rfl rfl rfl rfl rfl rfl rfl (by omega) (by omega)) ?_
                    rintro _ w_17 ⟨a116, p116, rfl, hS⟩
                    refine ⟨_, _, hS, ?_⟩
                    refine sp rfl (g_fieldAddr (o' := 4) Try.underlying35 rfl Try.sizeOf33 rfl rfl rfl) ?_
                    refine sb rfl (d_store 2 hS Try.sizeOf33 rfl rfl rfl (vs := [.slice _ _ _]) rfl rfl rfl (Nat.le_of_ble_eq_true rfl) (cs' := [_, _, _, _, _]) rfl) ?_
                    rintro _ w_18 ⟨rfl, hS⟩
                    refine ⟨_, _, hS, ?_⟩
                    refine sn (thenN ?_)
                    refine reg ?_
                    refine qq hS (g_fieldAddr (o' := 2) Try.underlying35 rfl Try.sizeOf3 rfl rfl rfl) ?_
                    refine qq hS (g_ldO1 2 Try.isAgg3 rfl rfl rfl) ?_
                    refine qq hS (g_add rfl rfl (by omega) (by omega)) ?_
                    refine qq hS (g_fieldAddr (o' := 2) Try.underlying35 rfl Try.sizeOf3 rfl rfl rfl) ?_
                    refine qe (d_store 2 hS Try.sizeOf3 rfl rfl rfl (vs := [.int .i64 _]) rfl rfl rfl (Nat.le_of_ble_eq_true rfl) (cs' := [_, _, _, _, _]) rfl) ?_
                    clear hS
                    rintro _ w_19 ⟨rfl, hS⟩
                    first
                      | exact ⟨(n + 1, a3, c3), _, rfl, ⟨⟨rfl, rfl, rfl, rfl, trivial⟩, by dsimp only; rw [hD]; exact hS.sel [false, true, true, true, true, true], by dsimp only; omega, by dsimp only; omega⟩, by dsimp only; omega⟩
                      | exact ⟨(n + 1, a116, p116), _, rfl, ⟨⟨rfl, rfl, rfl, rfl, trivial⟩, by dsimp only; rw [hD, List.length_append, List.length_singleton, flat_append, flat_one]; exact hS.sel [false, true, true, true, true, true], by dsimp only; omega, by dsimp only; omega⟩, by dsimp only; omega⟩
                  ·
                    intro hc106
                    try simp only [Bool.and_eq_true, Bool.or_eq_true, Bool.not_eq_true', Bool.and_eq_false_imp, Bool.or_eq_false_iff, Bool.not_eq_false', decide_eq_true_eq, decide_eq_false_iff_not] at hc106
                    have hD : datO (kindP s) ((l.drop A).take (n + 1)) = D := by rw [← hDD]; unfold datO; rw [if_pos (by omega), if_pos (by omega)]
                    refine wpIn_skip ?_
                    refine thenN ?_
                    refine reg ?_
                    refine qq hS (g_fieldAddr (o' := 2) Try.underlying35 rfl Try.sizeOf3 rfl rfl rfl) ?_
                    refine qq hS (g_ldO1 1 Try.isAgg3 rfl rfl rfl) ?_
                    refine qq hS (g_add rfl rfl (by omega) (by omega)) ?_
                    refine qq hS (g_fieldAddr (o' := 2) Try.underlying35 rfl Try.sizeOf3 rfl rfl rfl) ?_
                    refine qe (d_store 1 hS Try.sizeOf3 rfl rfl rfl (vs := [.int .i64 _]) rfl rfl rfl (Nat.le_of_ble_eq_true rfl) (cs' := [_, _, _, _, _]) rfl) ?_
                    clear hS
                    rintro _ w_20 ⟨rfl, hS⟩
                    first
                      | exact ⟨(n + 1, a3, c3), _, rfl, ⟨⟨rfl, rfl, rfl, rfl, trivial⟩, by dsimp only; rw [hD]; exact hS.sel [true, true, true, true, true], by dsimp only; omega, by dsimp only; omega⟩, by dsimp only; omega⟩
                      | exact ⟨(n + 1, a116, p116), _, rfl, ⟨⟨rfl, rfl, rfl, rfl, trivial⟩, by dsimp only; rw [hD, List.length_append, List.length_singleton, flat_append, flat_one]; exact hS.sel [true, true, true, true, true], by dsimp only; omega, by dsimp only; omega⟩, by dsimp only; omega⟩
                ·
                  intro hc103
                  clear hu75 hn75 hu76 hn76 hu77 hn77 hu78 hn78 hu79 hn79 hu81 hn81 hu82 hn82 hu80 hn80 hu83 hn83 hu86 hn86 hu87 hn87 hu88 hn88 hu89 hn89 hu90 hn90 hu91 hn91 hu92 hn92 hu93 hn93 hu94 hn94 hu95 hn95 hu96 hn96 hu97 hn97 hu98 hn98 hu99 hn99 hu100 hn100 hu101 hn101 hu102 hn102
                  have hnE : n = N0 := by
                    by_cases hlt' : n < l.length - A
                    · rw [ofLen_go (ht hlt'), if_neg] at hof
                      · omega
                      · intro hsk
                        simp only [sameK, Bool.and_eq_true, Bool.or_eq_true, decide_eq_true_eq] at hsk
                        rw [decide_eq_true (show (n : Int) < ((l.drop A).length : Int) by omega), decide_eq_true hsk.1, Bool.and_true, Bool.true_and] at hc103
                        rcases hsk.2 with h | h
                        · rw [decide_eq_true h] at hc103; cases hc103
                        · rw [decide_eq_true h, Bool.or_true] at hc103; cases hc103
                    · rw [ofLen_end (by omega)] at hof; omega
                  have hn1 : 1 ≤ n := by omega
                  have hs0 : ((l.drop A).take n).headD ⟨false, 0, 0⟩ = s := by
                    rw [List.headD_eq_head?_getD, List.head?_eq_getElem?, List.getElem?_take, if_pos (by omega), hsi]; rfl
                  have hfrom : (opS (kindP s) ((l.drop A).take n)).from_ = s.at_ := by
                    show (if kindP s = 1 ∨ kindP s = 2 then (((l.drop A).take n).headD ⟨false, 0, 0⟩).at_ else 0) = s.at_
                    split
                    · rw [hs0]
                    · rename_i hk
                      have hso : s.old = false := by
                        cases ho : s.old with
                        | false => rfl
                        | true => exfalso; apply hk; unfold kindP; rw [ho]; by_cases hb : s.b = 0 <;> simp [hb]
                      exact (hok.at0 s hsm hso).symm
                  have hlenx : (opS (kindP s) ((l.drop A).take n)).len = n := by
                    show ((((l.drop A).take n).length : Nat) : Int) = n
                    rw [List.length_take, Nat.min_eq_left (by omega)]
                  have hbx : (opS (kindP s) ((l.drop A).take n)).b = 0 := if_neg (by have := kindP_bd s; omega)
                  rw [← hnE] at hdone
                  have hdx : (opS (kindP s) ((l.drop A).take n)).data = D := by rw [← hDD, datO_op]
                  have hkx : (opS (kindP s) ((l.drop A).take n)).kind = kindP s := rfl
                  obtain ⟨X, hX⟩ : ∃ X, (opS (kindP s) ((l.drop A).take n)) = X := ⟨_, rfl⟩
                  rw [hX] at hfrom hlenx hbx hdone hdx hkx
                  have q1 : A + n ≤ l.length := by omega
                  have q2 : l.length - (A + n) ≤ m' := by omega
                  have q3 : done.length + 1 ≤ A + n := by omega
                  have q4 : l.length - (A + n) < l.length - A := by omega
                  clear hof hX hDD
                  refine wpIn_exit ?_
                  refine thenE (thenE (blkE ?_))
                  refine thenN ?_
                  refine wpIn_seq ?_
                  obtain ⟨I9, hS, hI9, hd9⟩ := hS.freezeRow byteC_len (xs := D) rfl
                  refine reg ?_
                  refine qq hS (g_fieldAddr (o' := 3) Try.underlying24 rfl Try.sizeOf22 rfl rfl rfl) ?_
                  refine qq hS (g_ldO1 2 Try.isAgg22 rfl rfl rfl) ?_
                  refine qq hS (g_ldO 0 (vs := [.int .i64 _, .int .i64 _, .int .i64 _, .int .u8 _, .slice _ _ _]) Try.sizeOf35 Try.isAgg35 rfl rfl rfl rfl) ?_
                  refine qe (d_lit (vs := [.agg #[.int .i64 _, .int .i64 _, .int .i64 _, .int .u8 _, .slice _ _ _]]) (cs := [.int .i64 _, .int .i64 _, .int .i64 _, .int .u8 _, .slice _ _ _]) hS Try.underlying22 Try.sizeOf35 Try.zeroValue35 rfl rfl rfl rfl (fun v hv => by simp only [List.mem_cons, List.not_mem_nil, or_false] at hv; subst hv; rfl) rfl) ?_
                  clear hS
                  rintro _ w_21 ⟨b_21, rfl, hS⟩
                  refine qe (i_appendO 2 0 hS rfl Try.underlying22 info35 rfl rfl rfl rfl rfl rfl rfl rfl (by omega) (by omega)) ?_
                  clear hS
                  rintro _ w_22 ⟨a126, p126, rfl, hS⟩
                  refine qq hS (g_fieldAddr (o' := 3) Try.underlying24 rfl Try.sizeOf22 rfl rfl rfl) ?_
                  refine qe (d_store 3 hS Try.sizeOf22 rfl rfl rfl (vs := [.slice _ _ _]) rfl rfl rfl (Nat.le_of_ble_eq_true rfl) (cs' := [_, _, _, _]) rfl) ?_
                  clear hS
                  rintro _ w_23 ⟨rfl, hS⟩
                  refine ol_nil (thenN ?_)
                  refine reg ?_
                  refine qq hS (g_move _) ?_
                  refine qq hS (g_fieldAddr (o' := 2) Try.underlying35 rfl Try.sizeOf3 rfl rfl rfl) ?_
                  refine qq hS (g_ldO1 1 Try.isAgg3 rfl rfl rfl) ?_
                  refine qq hS (g_sliceLN (l0 := n) Try.underlying43 Try.sizeOf64 rfl rfl (by omega) (by omega) rfl) ?_
                  refine qq hS (g_assign _) ?_
                  refine ⟨⟨A + n, m', done ++ [X], css ++ [[.int .i64 (X).kind, .int .i64 (X).from_, .int .i64 (X).len, .int .u8 (X).b, .slice a3 D.length c3]], a126, p126, if e = n then d else d.map (·.add (n * 3)), e - n⟩, _, rfl, ⟨⟨by show Value.slice _ (l.length - A - n) _ = Value.slice _ (l.length - (A + n)) _; rw [Nat.sub_sub], rfl, rfl, trivial⟩, I9, ?_, q1, q2, by dsimp only; rw [List.append_assoc, ← List.drop_drop]; exact hdone, by dsimp only; rw [List.length_append, List.length_singleton]; exact q3, ?_, ?_, ?_⟩, q4⟩
                  · dsimp only
                    rw [List.flatten_append, List.flatten_singleton, List.length_append, List.length_singleton, hfrom, hlenx, hbx, hkx]
                    exact hS.sel [false, false, true, true, true]
                  · dsimp only
                    have := hli.slL n (by omega)
                    rw [List.drop_drop] at this
                    rw [← Nat.sub_sub]
                    exact this
                  · exact All2.snoc (hall.mono fun _ _ h => h.mono hI9) ⟨_, _, _, rfl, by rw [hdx]; exact hd9⟩
                  · intro cs hcs
                    rcases List.mem_append.1 hcs with h | h
                    · exact hcl cs h
                    · simp only [List.mem_singleton] at h; subst h; rfl
            ·
              have hS0 := hS
              refine se rfl (d_alloc (cs := [.int .i64 _, .int .i64 _, .int .i64 _, .int .u8 _, .slice _ _ _]) hS Try.zeroValue35 rfl) ?_
              rintro _ w_24 ⟨b9, rfl, hS⟩
              refine ⟨_, _, hS0.le (Sub.refl _) (List.sublist_cons_self _ _), hS, ?_⟩
              have hS0 := hS
              refine se rfl (d_call Try.call41 rfl (kindP_c s _ _ hS.imm)) ?_
              rintro _ w_25 ⟨rfl, hE⟩
              replace hS := hS.call hE
              refine ⟨_, _, hS0.le hE.ext (List.Sublist.refl _), hS, ?_⟩
              refine sp rfl (g_buildv (pl := [(0, 1), (1, 1), (2, 1), (3, 1), (4, 1)]) (cs := [.int .i64 _, .int .i64 _, .int .i64 _, .int .u8 _, .slice _ _ _]) Try.zeroValue35 Try.underlying35 (fun w => by simp [Try.sizeOf3, Try.sizeOf33, Try.sizeOf5]) (mp (v := .int .i64 _) rfl (mp (v := .int .i64 _) rfl mp0)) rfl) ?_
              refine sb rfl (d_store 0 hS Try.sizeOf35 rfl rfl rfl (vs := [.int .i64 _, .int .i64 _, .int .i64 _, .int .u8 _, .slice _ _ _]) rfl rfl rfl (Nat.le_of_ble_eq_true rfl) (cs' := [_, _, _, _, _]) rfl) ?_
              rintro _ w_26 ⟨rfl, hS⟩
              refine ⟨_, _, hS, ?_⟩
              refine sn (thenN ?_)
              refine wpIn_seq ?_
              refine wpIn_block ?_
              refine loop (fun (x : Nat × Option Addr × Nat) σ w => okS σ [(0, .slice d (l.length - A) e), (4, .pointer (some ⟨b4, 0, none⟩)), (6, .pointer (some ⟨b6, 0, none⟩)), (9, .pointer (some ⟨b9, 0, none⟩))] ∧ St [] w0 I0 I w [.row (.slice x.2.1 (datO (kindP s) ((l.drop A).take x.1)).length x.2.2) 5 1 (datO (kindP s) ((l.drop A).take x.1)).length (flat byteC (datO (kindP s) ((l.drop A).take x.1))), .cel b9 35 [.int .i64 (kindP s), .int .i64 s.at_, .int .i64 x.1, .int .u8 0, .slice x.2.1 (datO (kindP s) ((l.drop A).take x.1)).length x.2.2], .row (.slice a done.length c) 35 5 done.length css.flatten, .cel b6 24 [.bool false, .int .i64 size, .int .i64 l.length, .slice a done.length c], .cel b4 24 [.bool false, .int .i64 0, .int .i64 0, .slice none 0 0]] ∧ x.1 ≤ (l.drop A).length ∧ ofLen (kindP s) s.at_ ((l.drop A).drop x.1) x.1 + x.1 = N0) (fun x => (l.drop A).length - x.1) ((0, none, 0)) ?_ ?_
              ·
                refine ⟨⟨rfl, rfl, rfl, rfl, trivial⟩, ?_, by simp, by simpa using hN0⟩
                have hd0 : datO (kindP s) ((l.drop A).take 0) = [] := by unfold datO; split <;> simp
                dsimp only
                rw [hd0]
                exact (hS.sel [true, true, true, true]).nilRow _ _
              ·
                rintro ⟨n, a3, c3⟩ σ w_l ⟨hs, hS, hn0, hof⟩
                dsimp only at hs hS hn0 hof ⊢
                rw [← upds_self hs]; clear hs
                obtain ⟨t, ht⟩ : ∃ t, n < l.length - A → (l.drop A)[n]? = some t := by
                  by_cases h : n < (l.drop A).length
                  · exact ⟨_, fun _ => List.getElem?_eq_getElem h⟩
                  · exact ⟨⟨false, 0, 0⟩, fun h' => absurd h' (by omega)⟩
                have htA := fun (h : n < l.length - A) => hliI.at (ht h)
                have hdn : (datO (kindP s) ((l.drop A).take n)).length ≤ n := by
                  unfold datO; split
                  · simp
                  · rw [List.length_map, List.length_take]; omega
                obtain ⟨D, hDD⟩ : ∃ D, datO (kindP s) ((l.drop A).take n) = D := ⟨_, rfl⟩
                rw [hDD] at hS hdn
                refine wpIn_seq ?_
                refine wpIn_seq ?_
                refine draw (.cons 0 .pure (.cons 1 .held (.cons 2 .pure (.cons 3 .pure (.cons 4 .pure (.cons 5 .pure (.cons 6 .pure (.cons 7 .pure (.cons 8 .held (.cons 9 .pure (.cons 10 .held (.cons 12 .pure (.cons 13 .held (.cons 11 .eff (.cons 14 .pure (.cons 15 .pure (.cons 16 .pure (.cons 17 .pure (.cons 18 .held (.cons 19 .pure (.cons 20 .pure (.cons 21 .pure (.cons 22 .pure (.cons 23 .held (.cons 24 .pure (.cons 25 .pure (.cons 26 .held (.cons 27 .pure (.cons 28 .held (.cons 29 .pure (.cons 30 .held (.cons 31 .pure (.cons 32 .pure (.cons 33 .pure (.cons 34 .pure .nil))))))))))))))))))))))))))))))))))) mixed (by kernel_rfl) hS ?_
                intro w_27 hS
                refine sp rfl (g_fieldAddr (o' := 2) Try.underlying35 rfl Try.sizeOf3 rfl rfl rfl) ?_
                refine sh rfl (g_ldO1 1 Try.isAgg3 rfl rfl rfl) ?_
                refine sp rfl (g_move _) ?_
                refine sp rfl (g_lenI rfl Try.underlying43 hli rfl) ?_
                refine sp rfl (g_lss rfl rfl) ?_
                refine sp rfl (g_movev (v := .bool _) rfl) ?_
                refine spu rfl rfl rfl (fun hg => (g_move _)) ?_
                intro u75 hu75 hn75
                refine spu rfl rfl rfl (fun hg => (g_fieldAddr (o' := 2) Try.underlying35 rfl Try.sizeOf3 rfl rfl rfl)) ?_
                intro u76 hu76 hn76
                refine shu rfl rfl rfl (fun hg => (g_ldO1 1 Try.isAgg3 rfl (hu76 hg) rfl)) ?_
                intro u77 hu77 hn77
                refine spu rfl rfl rfl (fun hg => (g_ixI Try.underlying43 Try.sizeOf64 hli (hu75 hg) (hu77 hg) (by omega) (by simp only [decide_eq_true_eq] at hg; omega))) ?_
                intro u78 hu78 hn78
                refine shu rfl rfl rfl (fun hg => (g_ldE (us := [.bool _, .int .i64 _, .int .u8 _]) Try.sizeOf64 Try.isAgg64 (htA (by simp only [decide_eq_true_eq] at hg; omega)) (hu78 hg) rfl rfl)) ?_
                intro u79 hu79 hn79
                refine spu rfl rfl rfl (fun hg => (g_fieldAddr (o' := 0) Try.underlying35 rfl Try.sizeOf3 rfl rfl rfl)) ?_
                intro u81 hu81 hn81
                refine shu rfl rfl rfl (fun hg => (g_ldO1 1 Try.isAgg3 rfl (hu81 hg) rfl)) ?_
                intro u82 hu82 hn82
                refine scu rfl rfl rfl hS (fun hg => (d_call Try.call41 (ml (hu79 hg) ml0) (kindP_c t _ _ hS.imm))) ?_
                intro w_29 u80 hS hu80 hn80
                refine spu rfl rfl rfl (fun hg => (g_eql (hu80 hg) (hu82 hg))) ?_
                intro u83 hu83 hn83
                refine sp rfl (g_and rfl rfl (fun hq => hu83 hq)) ?_
                refine sp rfl (g_movev (v := .bool _) rfl) ?_
                refine spu rfl rfl rfl (fun hg => (g_fieldAddr (o' := 0) Try.underlying35 rfl Try.sizeOf3 rfl rfl rfl)) ?_
                intro u86 hu86 hn86
                refine shu rfl rfl rfl (fun hg => (g_ldO1 1 Try.isAgg3 rfl (hu86 hg) rfl)) ?_
                intro u87 hu87 hn87
                refine spu rfl rfl rfl (fun hg => (g_eql (hu87 hg) rfl)) ?_
                intro u88 hu88 hn88
                refine spu rfl rfl rfl (fun hg => (g_movev (hu88 hg))) ?_
                intro u89 hu89 hn89
                refine spn (P := Try.prog) rfl rfl (C := _) hu89 hn89 (fun hg => (g_move _)) ?_
                intro u90 hu90 hn90
                refine spn (P := Try.prog) rfl rfl (C := _) hu89 hn89 (fun hg => (g_fieldAddr (o' := 2) Try.underlying35 rfl Try.sizeOf3 rfl rfl rfl)) ?_
                intro u91 hu91 hn91
                refine shn (P := Try.prog) rfl rfl (C := _) hu89 hn89 (fun hg => (g_ldO1 1 Try.isAgg3 rfl (hu91 hg) rfl)) ?_
                intro u92 hu92 hn92
                refine spn (P := Try.prog) rfl rfl (C := _) hu89 hn89 (fun hg => (g_ixI Try.underlying43 Try.sizeOf64 hli (hu90 hg) (hu92 hg) (by omega) (by simp only [Bool.and_eq_true, decide_eq_true_eq] at hg; omega))) ?_
                intro u93 hu93 hn93
                refine spn (P := Try.prog) rfl rfl (C := _) hu89 hn89 (fun hg => (g_fieldE (c' := 1) Try.underlying64 rfl Try.sizeOf3 rfl (hu93 hg) rfl)) ?_
                intro u94 hu94 hn94
                refine shn (P := Try.prog) rfl rfl (C := _) hu89 hn89 (fun hg => (g_ldE1 Try.isAgg3 (htA (by simp only [Bool.and_eq_true, decide_eq_true_eq] at hg; omega)) (hu94 hg) rfl)) ?_
                intro u95 hu95 hn95
                refine spn (P := Try.prog) rfl rfl (C := _) hu89 hn89 (fun hg => (g_fieldAddr (o' := 1) Try.underlying35 rfl Try.sizeOf3 rfl rfl rfl)) ?_
                intro u96 hu96 hn96
                refine shn (P := Try.prog) rfl rfl (C := _) hu89 hn89 (fun hg => (g_ldO1 1 Try.isAgg3 rfl (hu96 hg) rfl)) ?_
                intro u97 hu97 hn97
                refine spn (P := Try.prog) rfl rfl (C := _) hu89 hn89 (fun hg => (g_fieldAddr (o' := 2) Try.underlying35 rfl Try.sizeOf3 rfl rfl rfl)) ?_
                intro u98 hu98 hn98
                refine shn (P := Try.prog) rfl rfl (C := _) hu89 hn89 (fun hg => (g_ldO1 1 Try.isAgg3 rfl (hu98 hg) rfl)) ?_
                intro u99 hu99 hn99
                refine spn (P := Try.prog) rfl rfl (C := _) hu89 hn89 (fun hg => (g_add (hu97 hg) (hu99 hg) (by omega) (by omega))) ?_
                intro u100 hu100 hn100
                refine spn (P := Try.prog) rfl rfl (C := _) hu89 hn89 (fun hg => (g_eql (hu95 hg) (hu100 hg))) ?_
                intro u101 hu101 hn101
                refine spu rfl rfl rfl (fun hg => (g_or (hu89 hg) rfl (fun hq => hu101 ⟨hg, hq⟩))) ?_
                intro u102 hu102 hn102
                refine sp rfl (g_and rfl rfl (fun hq => hu102 hq)) ?_
                refine sn (thenN ?_)
                refine cond_s rfl ?_ ?_
                ·
                  intro hc103
                  clear hu75 hn75 hu76 hn76 hu77 hn77 hu78 hn78 hu79 hn79 hu81 hn81 hu82 hn82 hu80 hn80 hu83 hn83 hu86 hn86 hu87 hn87 hu88 hn88 hu89 hn89 hu90 hn90 hu91 hn91 hu92 hn92 hu93 hn93 hu94 hn94 hu95 hn95 hu96 hn96 hu97 hn97 hu98 hn98 hu99 hn99 hu100 hn100 hu101 hn101 hu102 hn102
                  simp only [Bool.and_eq_true, Bool.or_eq_true, decide_eq_true_eq] at hc103
                  obtain ⟨⟨hlt, hk1⟩, hk2⟩ := hc103
                  have hlt' : n < l.length - A := by omega
                  have hti := ht hlt'
                  have htA1 := htA hlt'
                  rw [ofLen_go hti, if_pos (by simp only [sameK, Bool.and_eq_true, Bool.or_eq_true, decide_eq_true_eq]; exact ⟨hk1, hk2⟩)] at hof
                  refine wpIn_skip ?_
                  refine thenN ?_
                  refine wpIn_block ?_
                  refine wpIn_seq ?_
                  refine wpIn_seq ?_
                  refine reg ?_
                  refine qq hS (g_fieldAddr (o' := 0) Try.underlying35 rfl Try.sizeOf3 rfl rfl rfl) ?_
                  refine qq hS (g_ldO1 1 Try.isAgg3 rfl rfl rfl) ?_
                  refine qq hS (g_neq rfl rfl) ?_
                  refine ol_nil (thenN ?_)
                  refine cond_s rfl ?_ ?_
                  ·
                    intro hc106
                    try simp only [Bool.and_eq_true, Bool.or_eq_true, Bool.not_eq_true', Bool.and_eq_false_imp, Bool.or_eq_false_iff, Bool.not_eq_false', decide_eq_true_eq, decide_eq_false_iff_not] at hc106
                    have hD : datO (kindP s) ((l.drop A).take (n + 1)) = D ++ [t.b] := by rw [← hDD]; unfold datO; rw [if_neg hc106, if_neg hc106, take_snoc hti, List.map_append]; rfl
                    refine draw (.cons 0 .pure (.cons 1 .held (.cons 2 .pure (.cons 3 .pure (.cons 4 .held (.cons 5 .pure (.cons 6 .pure (.cons 7 .held (.cons 8 .eff (.cons 9 .bar (.cons 10 .pure (.cons 11 .bar .nil)))))))))))) mixed (by kernel_rfl) hS ?_
                    intro w_30 hS
                    refine sp rfl (g_fieldAddr (o' := 4) Try.underlying35 rfl Try.sizeOf33 rfl rfl rfl) ?_
                    refine sh rfl (g_ldO1 1 Try.isAgg33 rfl rfl rfl) ?_
                    refine sp rfl (g_move _) ?_
                    refine sp rfl (g_fieldAddr (o' := 2) Try.underlying35 rfl Try.sizeOf3 rfl rfl rfl) ?_
                    refine sh rfl (g_ldO1 1 Try.isAgg3 rfl rfl rfl) ?_
                    refine sp rfl (g_ixI Try.underlying43 Try.sizeOf64 hli rfl rfl (by omega) (by omega)) ?_
                    refine sp rfl (g_fieldE (c' := 2) Try.underlying64 rfl Try.sizeOf5 rfl rfl rfl) ?_
                    refine sh rfl (g_ldE1 Try.isAgg5 htA1 rfl rfl) ?_
                    have hS0 := hS
                    refine se rfl (d_lit (vs := [.int .u8 _]) (cs := [.int .u8 _]) hS Try.underlying33 Try.sizeOf5 Try.zeroValue5 rfl rfl rfl rfl (fun v hv => by simp only [List.mem_cons, List.not_mem_nil, or_false] at hv; subst hv; rfl) rfl) ?_
                    rintro _ w_31 ⟨b_31, rfl, hS⟩
                    refine ⟨_, _, hS0.le (Sub.refl _) (List.sublist_cons_self _ _), hS, ?_⟩
                    refine sb rfl (i_appendO 1 0 hS rfl Try.underlying33 info5 rfl rfl rfl rfl rfl rfl rfl rfl (by omega) (by omega)) ?_
                    rintro _ w_32 ⟨a116, p116, rfl, hS⟩
                    refine ⟨_, _, hS, ?_⟩
                    refine sp rfl (g_fieldAddr (o' := 4) Try.underlying35 rfl Try.sizeOf33 rfl rfl rfl) ?_
                    refine sb rfl (d_store 2 hS Try.sizeOf33 rfl rfl rfl (vs := [.slice _ _ _]) rfl rfl rfl (Nat.le_of_ble_eq_true rfl) (cs' := [_, _, _, _, _]) rfl) ?_
                    rintro _ w_33 ⟨rfl, hS⟩
                    refine ⟨_, _, hS, ?_⟩
                    refine sn (thenN ?_)
                    refine reg ?_
                    refine qq hS (g_fieldAddr (o' := 2) Try.underlying35 rfl Try.sizeOf3 rfl rfl rfl) ?_
                    refine qq hS (g_ldO1 2 Try.isAgg3 rfl rfl rfl) ?_
                    refine qq hS (g_add rfl rfl (by omega) (by omega)) ?_
                    refine qq hS (g_fieldAddr (o' := 2) Try.underlying35 rfl Try.sizeOf3 rfl rfl rfl) ?_
                    refine qe (d_store 2 hS Try.sizeOf3 rfl rfl rfl (vs := [.int .i64 _]) rfl rfl rfl (Nat.le_of_ble_eq_true rfl) (cs' := [_, _, _, _, _]) rfl) ?_
                    clear hS
                    rintro _ w_34 ⟨rfl, hS⟩
                    first
                      | exact ⟨(n + 1, a3, c3), _, rfl, ⟨⟨rfl, rfl, rfl, rfl, trivial⟩, by dsimp only; rw [hD]; exact hS.sel [false, true, true, true, true, true], by dsimp only; omega, by dsimp only; omega⟩, by dsimp only; omega⟩
                      | exact ⟨(n + 1, a116, p116), _, rfl, ⟨⟨rfl, rfl, rfl, rfl, trivial⟩, by dsimp only; rw [hD, List.length_append, List.length_singleton, flat_append, flat_one]; exact hS.sel [false, true, true, true, true, true], by dsimp only; omega, by dsimp only; omega⟩, by dsimp only; omega⟩
                  ·
                    intro hc106
                    try simp only [Bool.and_eq_true, Bool.or_eq_true, Bool.not_eq_true', Bool.and_eq_false_imp, Bool.or_eq_false_iff, Bool.not_eq_false', decide_eq_true_eq, decide_eq_false_iff_not] at hc106
                    have hD : datO (kindP s) ((l.drop A).take (n + 1)) = D := by rw [← hDD]; unfold datO; rw [if_pos (by omega), if_pos (by omega)]
                    refine wpIn_skip ?_
                    refine thenN ?_
                    refine reg ?_
                    refine qq hS (g_fieldAddr (o' := 2) Try.underlying35 rfl Try.sizeOf3 rfl rfl rfl) ?_
                    refine qq hS (g_ldO1 1 Try.isAgg3 rfl rfl rfl) ?_
                    refine qq hS (g_add rfl rfl (by omega) (by omega)) ?_
                    refine qq hS (g_fieldAddr (o' := 2) Try.underlying35 rfl Try.sizeOf3 rfl rfl rfl) ?_
                    refine qe (d_store 1 hS Try.sizeOf3 rfl rfl rfl (vs := [.int .i64 _]) rfl rfl rfl (Nat.le_of_ble_eq_true rfl) (cs' := [_, _, _, _, _]) rfl) ?_
                    clear hS
                    rintro _ w_35 ⟨rfl, hS⟩
                    first
                      | exact ⟨(n + 1, a3, c3), _, rfl, ⟨⟨rfl, rfl, rfl, rfl, trivial⟩, by dsimp only; rw [hD]; exact hS.sel [true, true, true, true, true], by dsimp only; omega, by dsimp only; omega⟩, by dsimp only; omega⟩
                      | exact ⟨(n + 1, a116, p116), _, rfl, ⟨⟨rfl, rfl, rfl, rfl, trivial⟩, by dsimp only; rw [hD, List.length_append, List.length_singleton, flat_append, flat_one]; exact hS.sel [true, true, true, true, true], by dsimp only; omega, by dsimp only; omega⟩, by dsimp only; omega⟩
                ·
                  intro hc103
                  clear hu75 hn75 hu76 hn76 hu77 hn77 hu78 hn78 hu79 hn79 hu81 hn81 hu82 hn82 hu80 hn80 hu83 hn83 hu86 hn86 hu87 hn87 hu88 hn88 hu89 hn89 hu90 hn90 hu91 hn91 hu92 hn92 hu93 hn93 hu94 hn94 hu95 hn95 hu96 hn96 hu97 hn97 hu98 hn98 hu99 hn99 hu100 hn100 hu101 hn101 hu102 hn102
                  have hnE : n = N0 := by
                    by_cases hlt' : n < l.length - A
                    · rw [ofLen_go (ht hlt'), if_neg] at hof
                      · omega
                      · intro hsk
                        simp only [sameK, Bool.and_eq_true, Bool.or_eq_true, decide_eq_true_eq] at hsk
                        rw [decide_eq_true (show (n : Int) < ((l.drop A).length : Int) by omega), decide_eq_true hsk.1, Bool.and_true, Bool.true_and] at hc103
                        rcases hsk.2 with h | h
                        · rw [decide_eq_true h] at hc103; cases hc103
                        · rw [decide_eq_true h, Bool.or_true] at hc103; cases hc103
                    · rw [ofLen_end (by omega)] at hof; omega
                  have hn1 : 1 ≤ n := by omega
                  have hs0 : ((l.drop A).take n).headD ⟨false, 0, 0⟩ = s := by
                    rw [List.headD_eq_head?_getD, List.head?_eq_getElem?, List.getElem?_take, if_pos (by omega), hsi]; rfl
                  have hfrom : (opS (kindP s) ((l.drop A).take n)).from_ = s.at_ := by
                    show (if kindP s = 1 ∨ kindP s = 2 then (((l.drop A).take n).headD ⟨false, 0, 0⟩).at_ else 0) = s.at_
                    split
                    · rw [hs0]
                    · rename_i hk
                      have hso : s.old = false := by
                        cases ho : s.old with
                        | false => rfl
                        | true => exfalso; apply hk; unfold kindP; rw [ho]; by_cases hb : s.b = 0 <;> simp [hb]
                      exact (hok.at0 s hsm hso).symm
                  have hlenx : (opS (kindP s) ((l.drop A).take n)).len = n := by
                    show ((((l.drop A).take n).length : Nat) : Int) = n
                    rw [List.length_take, Nat.min_eq_left (by omega)]
                  have hbx : (opS (kindP s) ((l.drop A).take n)).b = 0 := if_neg (by have := kindP_bd s; omega)
                  rw [← hnE] at hdone
                  have hdx : (opS (kindP s) ((l.drop A).take n)).data = D := by rw [← hDD, datO_op]
                  have hkx : (opS (kindP s) ((l.drop A).take n)).kind = kindP s := rfl
                  obtain ⟨X, hX⟩ : ∃ X, (opS (kindP s) ((l.drop A).take n)) = X := ⟨_, rfl⟩
                  rw [hX] at hfrom hlenx hbx hdone hdx hkx
                  have q1 : A + n ≤ l.length := by omega
                  have q2 : l.length - (A + n) ≤ m' := by omega
                  have q3 : done.length + 1 ≤ A + n := by omega
                  have q4 : l.length - (A + n) < l.length - A := by omega
                  clear hof hX hDD
                  refine wpIn_exit ?_
                  refine thenE (thenE (blkE ?_))
                  refine thenN ?_
                  refine wpIn_seq ?_
                  obtain ⟨I9, hS, hI9, hd9⟩ := hS.freezeRow byteC_len (xs := D) rfl
                  refine reg ?_
                  refine qq hS (g_fieldAddr (o' := 3) Try.underlying24 rfl Try.sizeOf22 rfl rfl rfl) ?_
                  refine qq hS (g_ldO1 2 Try.isAgg22 rfl rfl rfl) ?_
                  refine qq hS (g_ldO 0 (vs := [.int .i64 _, .int .i64 _, .int .i64 _, .int .u8 _, .slice _ _ _]) Try.sizeOf35 Try.isAgg35 rfl rfl rfl rfl) ?_
                  refine qe (d_lit (vs := [.agg #[.int .i64 _, .int .i64 _, .int .i64 _, .int .u8 _, .slice _ _ _]]) (cs := [.int .i64 _, .int .i64 _, .int .i64 _, .int .u8 _, .slice _ _ _]) hS Try.underlying22 Try.sizeOf35 Try.zeroValue35 rfl rfl rfl rfl (fun v hv => by simp only [List.mem_cons, List.not_mem_nil, or_false] at hv; subst hv; rfl) rfl) ?_
                  clear hS
                  rintro _ w_36 ⟨b_36, rfl, hS⟩
                  refine qe (i_appendO 2 0 hS rfl Try.underlying22 info35 rfl rfl rfl rfl rfl rfl rfl rfl (by omega) (by omega)) ?_
                  clear hS
                  rintro _ w_37 ⟨a126, p126, rfl, hS⟩
                  refine qq hS (g_fieldAddr (o' := 3) Try.underlying24 rfl Try.sizeOf22 rfl rfl rfl) ?_
                  refine qe (d_store 3 hS Try.sizeOf22 rfl rfl rfl (vs := [.slice _ _ _]) rfl rfl rfl (Nat.le_of_ble_eq_true rfl) (cs' := [_, _, _, _]) rfl) ?_
                  clear hS
                  rintro _ w_38 ⟨rfl, hS⟩
                  refine ol_nil (thenN ?_)
                  refine reg ?_
                  refine qq hS (g_move _) ?_
                  refine qq hS (g_fieldAddr (o' := 2) Try.underlying35 rfl Try.sizeOf3 rfl rfl rfl) ?_
                  refine qq hS (g_ldO1 1 Try.isAgg3 rfl rfl rfl) ?_
                  refine qq hS (g_sliceLN (l0 := n) Try.underlying43 Try.sizeOf64 rfl rfl (by omega) (by omega) rfl) ?_
                  refine qq hS (g_assign _) ?_
                  refine ⟨⟨A + n, m', done ++ [X], css ++ [[.int .i64 (X).kind, .int .i64 (X).from_, .int .i64 (X).len, .int .u8 (X).b, .slice a3 D.length c3]], a126, p126, if e = n then d else d.map (·.add (n * 3)), e - n⟩, _, rfl, ⟨⟨by show Value.slice _ (l.length - A - n) _ = Value.slice _ (l.length - (A + n)) _; rw [Nat.sub_sub], rfl, rfl, trivial⟩, I9, ?_, q1, q2, by dsimp only; rw [List.append_assoc, ← List.drop_drop]; exact hdone, by dsimp only; rw [List.length_append, List.length_singleton]; exact q3, ?_, ?_, ?_⟩, q4⟩
                  · dsimp only
                    rw [List.flatten_append, List.flatten_singleton, List.length_append, List.length_singleton, hfrom, hlenx, hbx, hkx]
                    exact hS.sel [false, false, true, true, true]
                  · dsimp only
                    have := hli.slL n (by omega)
                    rw [List.drop_drop] at this
                    rw [← Nat.sub_sub]
                    exact this
                  · exact All2.snoc (hall.mono fun _ _ h => h.mono hI9) ⟨_, _, _, rfl, by rw [hdx]; exact hd9⟩
                  · intro cs hcs
                    rcases List.mem_append.1 hcs with h | h
                    · exact hcl cs h
                    · simp only [List.mem_singleton] at h; subst h; rfl
          ·
            intro hc59
            try simp only [Bool.and_eq_true, Bool.or_eq_true, Bool.not_eq_true', Bool.and_eq_false_imp, Bool.or_eq_false_iff, Bool.not_eq_false', decide_eq_true_eq, decide_eq_false_iff_not] at hc59
            have hA : l.drop A = [] := List.length_eq_zero_iff.1 (by omega)
            rw [hA, ofGo_nil, List.append_nil] at hdone
            refine wpIn_exit ?_
            refine thenE (thenE (blkE ?_))
            refine thenN ?_
            refine wpIn_seq ?_
            refine wpIn_seq ?_
            refine reg ?_
            refine qq hS (g_fieldAddr (o' := 3) Try.underlying24 rfl Try.sizeOf22 rfl rfl rfl) ?_
            refine qq hS (g_ldO1 1 Try.isAgg22 rfl rfl rfl) ?_
            refine qq hS (g_lenR 0 rfl Try.underlying22 rfl rfl) ?_
            refine qq hS (g_gtr rfl rfl) ?_
            refine ol_nil (thenN ?_)
            refine cond_s rfl ?_ ?_
            ·
              intro hc135
              try simp only [Bool.and_eq_true, Bool.or_eq_true, Bool.not_eq_true', Bool.and_eq_false_imp, Bool.or_eq_false_iff, Bool.not_eq_false', decide_eq_true_eq, decide_eq_false_iff_not] at hc135
              have e : ofPP l size = (PatL.zero, 2) := by rw [e0, ← hdone, if_pos hc135]
              refine wpIn_seq ?_
              refine reg ?_
              refine qq hS (g_buildv (pl := [(0, 1), (1, 1), (2, 1), (3, 1)]) (cs := [.bool _, .int .i64 _, .int .i64 _, .slice _ _ _]) Try.zeroValue24 Try.underlying24 (fun w => by simp [Try.sizeOf22, Try.sizeOf3, Try.sizeOf4]) mp0 rfl) ?_
              refine qe (d_store 2 hS Try.sizeOf24 rfl rfl rfl (vs := [.bool _, .int .i64 _, .int .i64 _, .slice _ _ _]) rfl rfl rfl (Nat.le_of_ble_eq_true rfl) (cs' := [_, _, _, _]) rfl) ?_
              clear hS
              rintro _ w_39 ⟨rfl, hS⟩
              refine qq hS (g_assignv (v := .int .i64 _) rfl) ?_
              refine ol_nil (thenN ?_)
              refine wpIn_ret ?_
              refine thenR ?_
              refine ret2 Try.results16 (rv_cel 2 hS Try.sizeOf24 Try.isAgg24 rfl rfl rfl) (rv_tmp (v := .int .i64 _) rfl) ?_
              rw [e]; exact ⟨_, none, 0, 0, rfl, hS.nil, RSl.nilR⟩
            ·
              intro hc135
              try simp only [Bool.and_eq_true, Bool.or_eq_true, Bool.not_eq_true', Bool.and_eq_false_imp, Bool.or_eq_false_iff, Bool.not_eq_false', decide_eq_true_eq, decide_eq_false_iff_not] at hc135
              have e : ofPP l size = (⟨false, size, l.length, done⟩, 0) := by rw [e0, ← hdone, if_neg hc135]
              refine wpIn_skip ?_
              refine thenN ?_
              refine wpIn_seq ?_
              refine reg ?_
              refine qq hS (g_ldO 1 (vs := [.bool _, .int .i64 _, .int .i64 _, .slice _ _ _]) Try.sizeOf24 Try.isAgg24 rfl rfl rfl rfl) ?_
              refine qe (d_store 2 hS Try.sizeOf24 rfl rfl rfl (vs := [.bool _, .int .i64 _, .int .i64 _, .slice _ _ _]) rfl rfl rfl (Nat.le_of_ble_eq_true rfl) (cs' := [_, _, _, _]) rfl) ?_
              clear hS
              rintro _ w_40 ⟨rfl, hS⟩
              refine qq hS (g_assignv (v := .int .i64 _) rfl) ?_
              refine ol_nil (thenN ?_)
              refine wpIn_ret ?_
              refine ret2 Try.results16 (rv_cel 2 hS Try.sizeOf24 Try.isAgg24 rfl rfl rfl) (rv_tmp (v := .int .i64 _) rfl) ?_
              obtain ⟨I3, hS3, hI3, ho3⟩ := St.freezeRowR (hS.sel [true, false, false]) rfl hcl hall
              rw [e]
              exact ⟨I3, a, done.length, c, rfl, hS3, RSl.mono ho3 (Sub.refl _) fun _ _ h => h.mono hI3⟩

end Go.Proofs.Ytaklmbhfmpdinaa

