/- Servers: the plain laws of offers: a chain of patches is composed, a cache changes nothing, what an offer leads to. Conditions: good servers. -/
import Derived.Test.YtcajgkfgjpfmaaaGreatSrv5
import Derived.Test.YtcajgkfgjpfmaaaGreatSanity9
import Derived.Test.YtcajgkfgjpfmaaaGreatKComp
import Derived.Test.YtcajgkfgjpfmaaaGreatKCut
set_option linter.unusedSimpArgs false
set_option linter.unusedVariables false
namespace Go.Proofs.YtcajgkfgjpfmaaaGreat
open Go Go.RowKit Go.Inl
def lenV (v : Int) : Int := 1 + v * 5 % 6
theorem zK (v : Int) : 1 ≤ lenV v ∧ lenV v ≤ 6 := by unfold lenV; omega
structure FitL (k : LnkL) (p : PatL) : Prop where
 wf : p.wf
 ck : (checkP p).2 = 0
 lif : p.lifted = false
 in_ : p.in_ = lenV k.f
 out : p.out = lenV k.t
structure GoodS (s : SrvL) : Prop where
 val : validG s.g = true
 pl : s.ps.length = s.g.ls.length
 fit : ∀ (i : Nat) (k : LnkL) (p : PatL), s.g.ls[i]? = some k → s.ps[i]? = some p → FitL k p
 gi : s.gone.Pairwise (· < ·)
 gv : ∀ v ∈ s.gone, v ∈ s.g.vs
theorem GoodS.b {s : SrvL} (h : GoodS s) : GrB s.g := yA h.val
theorem GoodS.pw {s : SrvL} (h : GoodS s) : ∀ p ∈ s.ps, p.wf := fun p hp => by
 obtain ⟨i, hi⟩ := List.mem_iff_getElem?.1 hp
 have hl := (List.getElem?_eq_some_iff.1 hi).1
 rw [h.pl] at hl
 exact (h.fit i _ p (List.getElem?_eq_getElem hl) hi).wf
theorem ze (g : GrL) (m : NeedL) : ∀ l : List Int, l.foldl (stepW g m) none = none
 | [] => rfl
 | _ :: l => ze g m l
theorem stepW_some {g : GrL} {m : NeedL} {v c i : Int} {l : List Int} {t d : Int} (h : (i :: l).foldl (stepW g m) (some (v, c)) = some (t, d)) : ∃ k, 0 ≤ i ∧ g.ls[i.toNat]? = some k ∧ k.f = v ∧ fitN k.n m = true ∧ l.foldl (stepW g m) (some (k.t, c + k.c)) = some (t, d) := by
 rw [List.foldl_cons] at h
 cases e : g.ls[i.toNat]? with
 | none =>
   have : stepW g m (some (v, c)) i = none := by simp only [stepW, e]
   rw [this, ze] at h; cases h
 | some k =>
   by_cases hc : 0 ≤ i ∧ k.f = v ∧ fitN k.n m = true
   · have : stepW g m (some (v, c)) i = some (k.t, c + k.c) := by simp only [stepW, e]; rw [if_pos hc]
     rw [this] at h
     exact ⟨k, hc.1, rfl, hc.2.1, hc.2.2, h⟩
   · have : stepW g m (some (v, c)) i = none := by simp only [stepW, e]; rw [if_neg hc]
     rw [this, ze] at h; cases h
theorem ps_at {s : SrvL} (h : GoodS s) {i : Nat} {k : LnkL} (hk : s.g.ls[i]? = some k) : ∃ p, s.ps[i]? = some p ∧ FitL k p := by
 have hl := (List.getElem?_eq_some_iff.1 hk).1
 obtain ⟨p, hp⟩ : ∃ p, s.ps[i]? = some p := ⟨_, List.getElem?_eq_getElem (by rw [h.pl]; exact hl)⟩
 exact ⟨p, hp, h.fit i k p hk hp⟩
theorem patsOf_cons {ps : List PatL} {i : Int} {l : List Int} {p : PatL} (h : ps[i.toNat]? = some p) : patsOf ps (i :: l) = p :: patsOf ps l := by
 unfold patsOf
 rw [List.map_cons, List.getD_eq_getElem?_getD, h]; rfl
theorem chain_fold {s : SrvL} (h : GoodS s) {m : NeedL} : ∀ (l : List Int) (v c t d : Int), l.foldl (stepW s.g m) (some (v, c)) = some (t, d) → ChainOk (lenV v) (patsOf s.ps l)
 | [], _, _, _, _, _ => trivial
 | i :: l, v, c, t, d, hw => by
   obtain ⟨k, h0, hk, hf, hn, hw2⟩ := stepW_some hw
   obtain ⟨p, hp, hF⟩ := ps_at h hk
   have hb := zK k.t
   rw [patsOf_cons hp]
   refine ⟨by rw [hF.in_, hf], hF.ck, hF.lif, by rw [hF.out]; omega, ?_⟩
   rw [hF.out]
   exact chain_fold h l k.t _ t d hw2
theorem chain_walk {s : SrvL} (h : GoodS s) {m : NeedL} {f t d : Int} {l : List Int} (hw : walkW s.g m f l = some (t, d)) : ChainOk (lenV f) (patsOf s.ps l) := chain_fold h l f 0 t d hw
theorem ne_cons {l : List Int} (h : l ≠ []) : ∃ i r, l = i :: r := by
 cases l with
 | nil => exact absurd rfl h
 | cons i r => exact ⟨i, r, rfl⟩
theorem all_walk {s : SrvL} (h : GoodS s) {m : NeedL} {f t d : Int} {l : List Int} (hw : walkW s.g m f l = some (t, d)) (hl : l ≠ []) : (allP (patsOf s.ps l)).2 = 0 := by
 have hc := chain_walk h hw
 obtain ⟨i, r, rfl⟩ := ne_cons hl
 have hb := zK f
 have e : patsOf s.ps (i :: r) = s.ps.getD i.toNat PatL.zero :: patsOf s.ps r := rfl
 rw [e] at hc ⊢
 rw [(allP_ok ⟨by omega, by omega⟩ hc).1]
structure ChainG (g : GrL) (l : List Int) : Prop where
 ne : l ≠ []
 ix : ∀ i ∈ l, 0 ≤ i ∧ i < g.ls.length
 adj : ∀ (j : Nat) (a b : Int) (ka kb : LnkL), l[j]? = some a → l[j + 1]? = some b → g.ls[a.toNat]? = some ka → g.ls[b.toNat]? = some kb → ka.t = kb.f
theorem walk_last {g : GrL} {m : NeedL} {s : Int} {l : List Int} {v c : Int} (h : walkW g m s l = some (v, c)) {a : Int} {ka : LnkL} {j : Nat} (hj : l[j]? = some a) (hl : j + 1 = l.length) (hk : g.ls[a.toNat]? = some ka) : ka.t = v := by
 have hne : l ≠ [] := fun e => by subst e; simp at hl
 rw [← List.dropLast_concat_getLast hne] at h
 obtain ⟨d, k, h1, h2, h3, h4, h5, h6⟩ := jY h
 have e : l.getLast hne = a := by
  rw [List.getLast_eq_getElem]
  obtain ⟨h7, h8⟩ := List.getElem?_eq_some_iff.1 hj
  rw [← h8]
  congr 1
  omega
 rw [e, hk] at h3
 rw [h5, Option.some.inj h3]
theorem way_last {g : GrL} {m : NeedL} {s v c : Int} {l : List Int} (h : walkW g m s l = some (v, c)) : lastI (s :: l.map (lnkT g)) = v := by
 unfold lastI
 by_cases hl : l = []
 · subst hl; rw [zi] at h; cases h; rfl
 · have hpos := List.length_pos_iff.2 hl
   obtain ⟨a, ha⟩ : ∃ a, l[l.length - 1]? = some a := ⟨_, List.getElem?_eq_getElem (by omega)⟩
   have hi := walk_ix _ _ rfl _ _ h a (List.mem_of_getElem? ha)
   obtain ⟨k, hk⟩ : ∃ k, g.ls[a.toNat]? = some k := ⟨_, List.getElem?_eq_getElem (by omega)⟩
   have hw := walk_last h ha (by omega) hk
   rw [List.length_cons, List.length_map, Nat.add_sub_cancel, List.getD_eq_getElem?_getD, show l.length = l.length - 1 + 1 by omega, List.getElem?_cons_succ, List.getElem?_map, ha]
   show lnkT g a = v
   rw [lnkT_at hk, hw]
structure CacheOk (s : SrvL) : Prop where
 len : s.cache.length ≤ 8
 each : ∀ d ∈ s.cache, ChainG s.g d.way ∧ d.way.length ≤ 16 ∧ allP (patsOf s.ps d.way) = (d.p, 0)
 dif : ∀ (i k : Nat) (a b : MadeL), k < i → s.cache[i]? = some a → s.cache[k]? = some b → a.way ≠ b.way
theorem CacheOk.of_nil {s : SrvL} (h : s.cache = []) : CacheOk s := ⟨by rw [h]; exact Nat.zero_le _, (fun d hd => by rw [h] at hd; cases hd), (fun i k a b _ ha => by rw [h] at ha; simp at ha)⟩
theorem GoodS.srvB {s : SrvL} (h : GoodS s) (hc : CacheOk s) : SrvB s := ⟨h.b, h.pl, h.pw, hc.len⟩
def findC (s : SrvL) (l : List Int) : Option MadeL := s.cache.find? fun m => decide (m.way = l)
theorem compC_eq {s : SrvL} (hc : CacheOk s) (l : List Int) : compC s l = ⟨(allP (patsOf s.ps l)).1, (findC s l).isSome, (allP (patsOf s.ps l)).2⟩ := by
 unfold compC findC
 cases e : s.cache.find? fun m => decide (m.way = l) with
 | none => rfl
 | some d =>
   have h1 := List.mem_of_find?_eq_some e
   have h2 := List.find?_some e
   rw [decide_eq_true_eq] at h2
   have h3 := (hc.each d h1).2.2
   rw [h2] at h3
   rw [h3]; rfl
def patO (s : SrvL) (l : List Int) : PatL := if l = [] then PatL.zero else (allP (patsOf s.ps l)).1
def offO (s : SrvL) (f : Int) (l : List Int) (c : Int) : OffL := ⟨f :: l.map (lnkT s.g), patO s l, c⟩
def keptS (s : SrvL) (l : List Int) : SrvL := if l = [] then s else if (findC s l).isSome = true then s else pushC s l (allP (patsOf s.ps l)).1
theorem offerW_ok {s : SrvL} (hg : GoodS s) (hc : CacheOk s) {m : NeedL} {f t c : Int} {l : List Int} (hw : walkW s.g m f l = some (t, c)) : offerW s f l c = ⟨keptS s l, offO s f l c, 0⟩ := by
 unfold offerW keptS offO patO
 by_cases hl : l = []
 · subst hl; rfl
 · have h0 := all_walk hg hw hl
   rw [compC_eq hc, if_neg hl, if_neg hl, if_neg hl, if_neg (by simpa using h0)]
/-! ### Reach, open versions -/
theorem reachUp_mem {g : GrL} {s v : Int} {m : NeedL} {k : Nat} (hk : k ≤ g.vs.length) : v ∈ reachUp g s m k ↔ ∃ j, j < k ∧ g.vs[j]? = some v ∧ (lab (waysP g s m) j).is = true := by
 unfold reachUp
 rw [List.mem_map]
 constructor
 · rintro ⟨j, h1, h2⟩
   rw [List.mem_filter, List.mem_range] at h1
   refine ⟨j, h1.1, ?_, h1.2⟩
   rw [List.getD_eq_getElem?_getD, List.getElem?_eq_getElem (by omega)] at h2
   rw [List.getElem?_eq_getElem (by omega)]; exact congrArg some h2
 · rintro ⟨j, h1, h2, h3⟩
   refine ⟨j, ?_, ?_⟩
   · rw [List.mem_filter, List.mem_range]; exact ⟨h1, h3⟩
   · rw [List.getD_eq_getElem?_getD, h2]; rfl
theorem reachUp_inc {g : GrL} (hg : GrOk g) {s : Int} {m : NeedL} : ∀ k, k ≤ g.vs.length → (reachUp g s m k).Pairwise (· < ·)
 | 0, _ => List.Pairwise.nil
 | k + 1, hk => by
   have ih := reachUp_inc hg (s := s) (m := m) k (by omega)
   rw [kp]
   split
   · rw [List.pairwise_append]
     refine ⟨ih, List.pairwise_singleton _ _, fun a ha b hb => ?_⟩
     rw [List.mem_singleton] at hb
     subst hb
     obtain ⟨j, h1, h2, _⟩ := (reachUp_mem (by omega)).1 ha
     obtain ⟨h3, h4⟩ := List.getElem?_eq_some_iff.1 h2
     rw [List.getD_eq_getElem?_getD, List.getElem?_eq_getElem (by omega : k < g.vs.length)]
     have := List.pairwise_iff_getElem.1 hg.inc j k h3 (by omega) h1
     rw [h4] at this
     exact this
   · exact ih
def openUp (s : SrvL) (f : Int) (m : NeedL) (k : Nat) : List Int := keepG s.gone (reachUp s.g f m k)
theorem openUp_all (s : SrvL) (f : Int) (m : NeedL) : openUp s f m s.g.vs.length = openP s f m := rfl
theorem keepG_mem {gone l : List Int} {v : Int} : v ∈ keepG gone l ↔ v ∈ l ∧ v ∉ gone := by
 unfold keepG
 rw [List.mem_filter]
 simp
theorem keepG_app (gone a b : List Int) : keepG gone (a ++ b) = keepG gone a ++ keepG gone b := by unfold keepG; rw [List.filter_append]
theorem openUp_succ (s : SrvL) (f : Int) (m : NeedL) {k : Nat} {v : Int} (hv : s.g.vs[k]? = some v) : openUp s f m (k + 1) = if (lab (waysP s.g f m) k).is = true ∧ v ∉ s.gone then openUp s f m k ++ [v] else openUp s f m k := by
 unfold openUp
 rw [kp]
 have e : s.g.vs.getD k 0 = v := by rw [List.getD_eq_getElem?_getD, hv]; rfl
 rw [e]
 by_cases h1 : (lab (waysP s.g f m) k).is = true
 · rw [if_pos h1, keepG_app]
   by_cases h2 : v ∈ s.gone
   · rw [if_neg (fun h => h.2 h2)]
     have : keepG s.gone [v] = [] := by unfold keepG; simp [h2]
     rw [this, List.append_nil]
   · rw [if_pos ⟨h1, h2⟩]
     have : keepG s.gone [v] = [v] := by unfold keepG; simp [h2]
     rw [this]
 · rw [if_neg h1, if_neg (fun h => h1 h.1)]
theorem openUp_inc {s : SrvL} (hg : GrOk s.g) (f : Int) (m : NeedL) {k : Nat} (hk : k ≤ s.g.vs.length) : (openUp s f m k).Pairwise (· < ·) := (reachUp_inc hg k hk).sublist List.filter_sublist
theorem lastI_mem {l : List Int} (h : l ≠ []) : lastI l ∈ l := by
 have := List.length_pos_iff.2 h
 unfold lastI
 rw [List.getD_eq_getElem?_getD, List.getElem?_eq_getElem (by omega)]
 exact List.getElem_mem _
theorem lastI_max {l : List Int} (h : l.Pairwise (· < ·)) : ∀ v ∈ l, v ≤ lastI l := fun v hv => by
 obtain ⟨i, hi⟩ := List.mem_iff_getElem?.1 hv
 obtain ⟨h1, h2⟩ := List.getElem?_eq_some_iff.1 hi
 unfold lastI
 rw [List.getD_eq_getElem?_getD, List.getElem?_eq_getElem (by omega)]
 show v ≤ l[l.length - 1]
 rw [← h2]
 by_cases e : i = l.length - 1
 · subst e; exact Int.le_refl _
 · have := List.pairwise_iff_getElem.1 h i (l.length - 1) h1 (by omega) (by omega)
   omega
structure Rch (g : GrL) (f : Int) (m : NeedL) (v : Int) (d : WayL) : Prop where
 fv : f ∈ g.vs
 at_ : lab (waysP g f m) (vIx g v) = d
 is : d.is = true
 vm : v ∈ g.vs
 walk : walkW g m f d.l = some (v, d.c)
 path : pathP g f v m = ⟨d.l, d.c, 0⟩
 best : ∀ l c, walkW g m f l = some (v, c) → keyLe d.c d.l c l
 len : d.l.length ≤ 16
 cost : 0 ≤ d.c
theorem walk_end {g : GrL} (hg : GrOk g) {m : NeedL} {s : Int} (hs : s ∈ g.vs) {l : List Int} {v c : Int} (h : walkW g m s l = some (v, c)) : v ∈ g.vs := by
 by_cases hl : l = []
 · subst hl; rw [zi] at h; cases h; exact hs
 · rw [← List.dropLast_concat_getLast hl] at h
   obtain ⟨d, k, h1, h2, h3, h4, h5, h6⟩ := jY h
   rw [h5]; exact (hg.ends k (List.mem_of_getElem? h3)).2
theorem yX {g : GrL} (hg : GrB g) {f v : Int} {m : NeedL} (hf : f ∈ g.vs) (hv : v ∈ g.vs) (h : (lab (waysP g f m) (vIx g v)).is = true) : Rch g f m v (lab (waysP g f m) (vIx g v)) := by
 obtain ⟨ord, hr⟩ := jO hg.toGrOk m hf
 have hw := hr.opt.real _ _ (jj hv) h
 refine ⟨hf, rfl, h, hv, hw, ?_, fun l c hl => (hr.opt.least _ _ (jj hv) l c hl).2, (zY hg f m _).1, walk_cost hg.toGrOk _ _ rfl _ _ hw⟩
 unfold pathP
 rw [if_pos ⟨hf, hv⟩, if_pos h]
theorem rch_walk {g : GrL} (hg : GrB g) {f v c : Int} {m : NeedL} {l : List Int} (hf : f ∈ g.vs) (h : walkW g m f l = some (v, c)) : ∃ d, Rch g f m v d ∧ keyLe d.c d.l c l := by
 have hv := walk_end hg.toGrOk hf h
 obtain ⟨ord, hr⟩ := jO hg.toGrOk m hf
 obtain ⟨h1, h2⟩ := hr.opt.least _ _ (jj hv) l c h
 exact ⟨_, yX hg hf hv h1, h2⟩
theorem reach_iff {g : GrL} (hg : GrB g) {f v : Int} {m : NeedL} (hf : f ∈ g.vs) : v ∈ reachP g f m ↔ ∃ d, Rch g f m v d := by
 rw [reach_mem]
 constructor
 · rintro ⟨j, h1, h2, h3⟩
   have hj := kW hg.toGrOk h2
   exact ⟨_, yX hg hf (List.mem_of_getElem? h2) (by rw [hj]; exact h3)⟩
 · rintro ⟨d, h⟩
   exact ⟨vIx g v, jT h.vm, jj h.vm, by rw [h.at_]; exact h.is⟩
theorem yn {s : SrvL} (hg : GrB s.g) {f v : Int} {m : NeedL} (hf : f ∈ s.g.vs) : v ∈ openP s f m ↔ (∃ d, Rch s.g f m v d) ∧ v ∉ s.gone := by
 unfold openP
 rw [keepG_mem, reach_iff hg hf]
theorem offerP_ok {s : SrvL} (hg : GoodS s) (hc : CacheOk s) {m : NeedL} {f t : Int} {d : WayL} (h : Rch s.g f m t d) : offerP s f t m = ⟨keptS s d.l, offO s f d.l d.c, 0⟩ := by
 unfold offerP
 rw [h.path]
 exact offerW_ok hg hc h.walk
theorem best_no {s : SrvL} {f : Int} {m : NeedL} (hf : f ∉ s.g.vs) : bestP s f m = ⟨s, OffL.none, 291⟩ := if_neg hf
theorem best_none {s : SrvL} {f : Int} {m : NeedL} (hf : f ∈ s.g.vs) (h : openP s f m = []) : bestP s f m = ⟨s, OffL.none, 290⟩ := by unfold bestP; rw [if_pos hf, if_pos h]
theorem best_some {s : SrvL} (hg : GoodS s) (hc : CacheOk s) {f : Int} {m : NeedL} (hf : f ∈ s.g.vs) (h : openP s f m ≠ []) : ∃ d, Rch s.g f m (lastI (openP s f m)) d ∧ lastI (openP s f m) ∉ s.gone ∧ (∀ v ∈ openP s f m, v ≤ lastI (openP s f m)) ∧ bestP s f m = ⟨keptS s d.l, offO s f d.l d.c, 0⟩ := by
 obtain ⟨⟨d, hd⟩, hn⟩ := (yn hg.b hf).1 (lastI_mem h)
 refine ⟨d, hd, hn, lastI_max (openUp_inc hg.b.toGrOk f m (Nat.le_refl _)), ?_⟩
 unfold bestP
 rw [if_pos hf, if_neg h]
 exact offerP_ok hg hc hd
/-! ### Escape -/
def escU (s : SrvL) (f : Int) (m : NeedL) (k : Nat) : EscA := (openUp s f m k).foldl (escF s f m) ⟨-1, 0⟩
theorem escU_all (s : SrvL) (f : Int) (m : NeedL) : escU s f m s.g.vs.length = escUp s f m (openP s f m).length := by
 unfold escU escUp
 rw [openUp_all, List.take_length]
theorem escU_succ (s : SrvL) (f : Int) (m : NeedL) {k : Nat} {v : Int} (hv : s.g.vs[k]? = some v) : escU s f m (k + 1) = if (lab (waysP s.g f m) k).is = true ∧ v ∉ s.gone then escF s f m (escU s f m k) v else escU s f m k := by
 unfold escU
 rw [openUp_succ s f m hv]
 split
 · rw [List.foldl_append]; rfl
 · rfl
structure EscI (s : SrvL) (f : Int) (m : NeedL) (l : List Int) (e : EscA) : Prop where
 nil : l = [] → e = ⟨-1, 0⟩
 some : l ≠ [] → e.to ∈ l ∧ 0 ≤ e.to ∧ (∃ d, Rch s.g f m e.to d ∧ d.c = e.least) ∧ ∀ v ∈ l, ∀ d, Rch s.g f m v d → e.least ≤ d.c
theorem Rch.uniq {g : GrL} {f v : Int} {m : NeedL} {d e : WayL} (h : Rch g f m v d) (h2 : Rch g f m v e) : d = e := h.at_.symm.trans h2.at_
theorem vs_nn {s : SrvL} (hg : GoodS s) : ∀ v ∈ s.g.vs, 0 ≤ v ∧ v ≤ 60000 := fun v hv => by
 have h := hg.val
 unfold validG at h
 simp only [Bool.and_eq_true, decide_eq_true_eq] at h
 obtain ⟨i, hi⟩ := List.mem_iff_getElem?.1 hv
 exact ku _ _ _ _ h.2.2.1 hi
theorem esc_fold {s : SrvL} (hg : GoodS s) {f : Int} {m : NeedL} (hf : f ∈ s.g.vs) : ∀ (k : Nat), k ≤ s.g.vs.length → EscI s f m (openUp s f m k) (escU s f m k)
 | 0, _ => ⟨fun _ => rfl, fun h => absurd rfl h⟩
 | k + 1, hk => by
   have ih := esc_fold hg hf (m := m) k (by omega)
   obtain ⟨v, hv⟩ : ∃ v, s.g.vs[k]? = some v := ⟨_, List.getElem?_eq_getElem (by omega)⟩
   rw [openUp_succ s f m hv, escU_succ s f m hv]
   split
   · rename_i h
     have hvm := List.mem_of_getElem? hv
     have hd := yX hg.b hf hvm (by rw [kW hg.b.toGrOk hv]; exact h.1) (m := m)
     generalize lab (waysP s.g f m) (vIx s.g v) = d at hd
     generalize escU s f m k = e at ih
     generalize openUp s f m k = l at ih
     have hv0 := (vs_nn hg v hvm).1
     refine ⟨fun h => by simp at h, fun _ => ?_⟩
     unfold escF
     rw [hd.path]
     by_cases hl : l = []
     · have he := ih.nil hl
       subst hl he
       rw [if_pos ⟨rfl, .inl (by decide)⟩]
       refine ⟨by simp, hv0, ⟨d, hd, rfl⟩, fun u hu d' hd' => ?_⟩
       obtain rfl : u = v := by simpa using hu
       rw [hd.uniq hd']; exact Int.le_refl _
     · obtain ⟨h1, h2, ⟨d0, h3, h4⟩, h5⟩ := ih.some hl
       by_cases hc : d.c ≤ e.least
       · rw [if_pos ⟨rfl, .inr hc⟩]
         refine ⟨by simp, hv0, ⟨d, hd, rfl⟩, fun u hu d' hd' => ?_⟩
         rcases List.mem_append.1 hu with hu | hu
         · have := h5 u hu d' hd'
           show d.c ≤ d'.c
           omega
         · obtain rfl : u = v := by simpa using hu
           rw [hd.uniq hd']; exact Int.le_refl _
       · rw [if_neg (by
          rintro ⟨_, h | h⟩
          · omega
          · exact hc h)]
         refine ⟨List.mem_append_left _ h1, h2, ⟨d0, h3, h4⟩, fun u hu d' hd' => ?_⟩
         rcases List.mem_append.1 hu with hu | hu
         · exact h5 u hu d' hd'
         · obtain rfl : u = v := by simpa using hu
           rw [← hd.uniq hd']; omega
   · exact ih
theorem esc_no {s : SrvL} {f : Int} {m : NeedL} (hf : f ∉ s.g.vs) : escP s f m = ⟨s, OffL.none, 291⟩ := if_neg hf
theorem esc_arg {s : SrvL} {f : Int} {m : NeedL} (hf : f ∈ s.g.vs) (h : f ∉ s.gone) : escP s f m = ⟨s, OffL.none, 1⟩ := by unfold escP; rw [if_pos hf, if_neg h]
theorem esc_none {s : SrvL} {f : Int} {m : NeedL} (hf : f ∈ s.g.vs) (h : f ∈ s.gone) (ho : openP s f m = []) : escP s f m = ⟨s, OffL.none, 290⟩ := by
 unfold escP
 rw [if_pos hf, if_pos h, ho]; rfl
theorem esc_some {s : SrvL} (hg : GoodS s) (hc : CacheOk s) {f : Int} {m : NeedL} (hf : f ∈ s.g.vs) (h : f ∈ s.gone) (ho : openP s f m ≠ []) :
 ∃ d, Rch s.g f m (escU s f m s.g.vs.length).to d ∧ d.c = (escU s f m s.g.vs.length).least ∧ (escU s f m s.g.vs.length).to ∈ openP s f m ∧ 0 ≤ (escU s f m s.g.vs.length).to ∧ (∀ v ∈ openP s f m, ∀ d', Rch s.g f m v d' → d.c ≤ d'.c) ∧ escP s f m = ⟨keptS s d.l, offO s f d.l d.c, 0⟩ := by
 obtain ⟨h1, h2, ⟨d, h3, h4⟩, h5⟩ := (esc_fold hg hf (m := m) _ (Nat.le_refl _)).some ho
 refine ⟨d, h3, h4, h1, h2, fun v hv d' hd' => by rw [h4]; exact h5 v hv d' hd', ?_⟩
 unfold escP
 rw [if_pos hf, if_pos h, ← escU_all, if_neg (by omega)]
 exact offerP_ok hg hc h3
/-! ### Limits -/
theorem fit_mono {n m m' : NeedL} (h : fitN n m = true) (h1 : m.s ≤ m'.s) (h2 : m.u ≤ m'.u) (h3 : m.r ≤ m'.r) (h4 : m.e ≤ m'.e) (h5 : m.o ≤ m'.o) : fitN n m' = true := by
 unfold fitN at h ⊢
 simp only [Bool.and_eq_true, decide_eq_true_eq] at h ⊢
 omega
structure LeN (m m' : NeedL) : Prop where
 fit : ∀ n, fitN n m = true → fitN n m' = true
theorem walk_mono {g : GrL} {m m' : NeedL} (hm : LeN m m') {s : Int} : ∀ (l : List Int) (v c : Int) (t : Int × Int), l.foldl (stepW g m) (some (v, c)) = some t → l.foldl (stepW g m') (some (v, c)) = some t
 | [], _, _, _, h => h
 | i :: l, v, c, t, h => by
   obtain ⟨t1, t2⟩ := t
   obtain ⟨k, h0, hk, hf, hn, hw2⟩ := stepW_some h
   rw [List.foldl_cons]
   have : stepW g m' (some (v, c)) i = some (k.t, c + k.c) := by simp only [stepW, hk]; rw [if_pos ⟨h0, hf, hm.fit _ hn⟩]
   rw [this]
   exact walk_mono hm (s := s) l _ _ _ hw2
theorem rch_mono {g : GrL} (hg : GrB g) {m m' : NeedL} (hm : LeN m m') {f v : Int} {d : WayL} (h : Rch g f m v d) : ∃ d', Rch g f m' v d' ∧ d'.c ≤ d.c := by
 obtain ⟨d', h1, h2⟩ := rch_walk hg h.fv (walk_mono hm (s := f) _ _ _ _ h.walk : walkW g m' f d.l = some (v, d.c))
 refine ⟨d', h1, ?_⟩
 rcases Int.lt_or_le d.c d'.c with e | e
 · exact absurd (.inl e) h2
 · exact e
theorem open_mono {s : SrvL} (hg : GrB s.g) {m m' : NeedL} (hm : LeN m m') {f v : Int} (hf : f ∈ s.g.vs) (h : v ∈ openP s f m) : v ∈ openP s f m' := by
 obtain ⟨⟨d, h1⟩, h2⟩ := (yn hg hf).1 h
 obtain ⟨d', h3, _⟩ := rch_mono hg hm h1
 exact (yn hg hf).2 ⟨⟨d', h3⟩, h2⟩
end Go.Proofs.YtcajgkfgjpfmaaaGreat
