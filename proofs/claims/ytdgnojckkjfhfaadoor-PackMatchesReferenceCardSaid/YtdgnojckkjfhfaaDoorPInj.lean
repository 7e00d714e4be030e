/- Packed patches are equal only if the patches are: plain. Conditions: none. -/
import Derived.Test.YtdgnojckkjfhfaaDoorSan14
namespace Go.Proofs.YtdgnojckkjfhfaaDoor
open Go Go.RowKit Go.Inl
set_option linter.unusedSimpArgs false
set_option linter.unusedVariables false
theorem step_in {M : Mdl} (hM : MdlOk M) {s0 : M.S} (hs0 : M.inv s0) {x : List Int} (hx : Byt x) {k : Nat} {y : Int} (hy : x[k]? = some y) :
    1 ≤ (encUp M s0 x k).1.size / (M.tab (encUp M s0 x k).2).t ∧ (encUp M s0 x k).1.size / (M.tab (encUp M s0 x k).2).t * ((M.tab (encUp M s0 x k).2).c.take y.toNat).sum ≤ ahd (encP M s0 x) (encUp M s0 x k).1 ∧
    ahd (encP M s0 x) (encUp M s0 x k).1 < (encUp M s0 x k).1.size / (M.tab (encUp M s0 x k).2).t * (((M.tab (encUp M s0 x k).2).c.take y.toNat).sum + (M.tab (encUp M s0 x k).2).c.getD y.toNat 0) ∧ M.inv (encUp M s0 x k).2 := by
  have hk := (List.getElem?_eq_some_iff.1 hy).1
  have hyb := hx y (List.mem_of_getElem? hy)
  obtain ⟨hFg, _, _⟩ := encUp_good hM hs0 hx x.length (Nat.le_refl _)
  obtain ⟨hGd, hMi, _⟩ := encUp_good hM hs0 hx k (by omega)
  have hnk := nest_up hM hs0 hx (k := k + 1) (by omega)
  rw [encUp_succ hy] at hnk
  obtain ⟨cs, hcs⟩ : ∃ p, encUp M s0 x k = p := ⟨_, rfl⟩
  rw [hcs] at hGd hMi hnk ⊢
  have hA := hM.tab _ hMi
  obtain ⟨f1, f2, f3, f4, f5⟩ := step_facts hGd hA (show y.toNat < 256 by omega)
  have hP : Nest (encUp M s0 x x.length).1 (putC cs.1 (cs.1.size / (M.tab cs.2).t) ((M.tab cs.2).c.take y.toNat).sum ((M.tab cs.2).c.getD y.toNat 0)) := nest_norm 4 hnk
  have hin := ahd_in (b := encP M s0 x) hFg.ok rfl hP
  obtain ⟨g1, g2⟩ := ahd_put (b := encP M s0 x) hGd.ok f1 f2 f3 f4 f5
  rw [g1, g2] at hin
  refine ⟨f1, by omega, ?_, hMi⟩
  rw [Int.mul_add]; omega
theorem enc_inj {M : Mdl} (hM : MdlOk M) {s0 : M.S} (hs0 : M.inv s0) {x y : List Int} (hx : Byt x) (hy : Byt y) (hl : x.length = y.length) (h : encP M s0 x = encP M s0 y) : x = y := by
  have key : ∀ k, k ≤ x.length → x.take k = y.take k := by
    intro k
    induction k with
    | zero => intro _; rfl
    | succ k ih =>
      intro hk
      have ih' := ih (by omega)
      obtain ⟨a, ha⟩ : ∃ a, x[k]? = some a := ⟨_, List.getElem?_eq_getElem (by omega)⟩
      obtain ⟨b, hb⟩ : ∃ b, y[k]? = some b := ⟨_, List.getElem?_eq_getElem (by omega)⟩
      have hab := hx a (List.mem_of_getElem? ha)
      have hbb := hy b (List.mem_of_getElem? hb)
      obtain ⟨r1, a1, a2, hMi⟩ := step_in hM hs0 hx ha
      obtain ⟨_, b1, b2, _⟩ := step_in hM hs0 hy hb
      have hup : encUp M s0 y k = encUp M s0 x k := by unfold encUp; rw [ih']
      rw [hup, ← h] at b1 b2
      obtain ⟨cs, hcs⟩ : ∃ p, encUp M s0 x k = p := ⟨_, rfl⟩
      rw [hcs] at r1 a1 a2 b1 b2 hMi
      have hA := hM.tab _ hMi
      obtain ⟨A, hAe⟩ : ∃ A, M.tab cs.2 = A := ⟨_, rfl⟩
      rw [hAe] at r1 a1 a2 b1 b2 hA
      obtain ⟨r, hr⟩ : ∃ r, cs.1.size / A.t = r := ⟨_, rfl⟩
      rw [hr] at r1 a1 a2 b1 b2
      obtain ⟨v, hv⟩ : ∃ v, ahd (encP M s0 x) cs.1 = v := ⟨_, rfl⟩
      rw [hv] at a1 a2 b1 b2
      have sn : ∀ c : Nat, c < 256 → (A.c.take (c + 1)).sum = (A.c.take c).sum + A.c.getD c 0 := fun c hc => by
        obtain ⟨n, hn⟩ : ∃ n, A.c[c]? = some n := ⟨_, List.getElem?_eq_getElem (by rw [hA.len]; omega)⟩
        rw [sum_snoc13 hn, List.getD_eq_getElem?_getD, hn]; rfl
      have lt : ∀ c d : Nat, c < 256 → c < d → r * (A.c.take d).sum ≤ v → v < r * ((A.c.take c).sum + A.c.getD c 0) → False := fun c d hc hcd h1 h2 => by
        have h3 := sum_take_mono A.c (c + 1) d hA.pos (by omega)
        rw [sn c hc] at h3
        have h4 : r * ((A.c.take c).sum + A.c.getD c 0) ≤ r * (A.c.take d).sum := Int.mul_le_mul_of_nonneg_left h3 (by omega)
        omega
      have e : a = b := by
        rcases Nat.lt_trichotomy a.toNat b.toNat with h3 | h3 | h3
        · exact (lt _ _ (by omega) h3 b1 a2).elim
        · omega
        · exact (lt _ _ (by omega) h3 a1 b2).elim
      rw [take_snoc ha, take_snoc hb, ih', e]
  have := key x.length (Nat.le_refl _)
  rwa [List.take_length, hl, List.take_length] at this
theorem num3_inj {a b : Int} (ha : 0 ≤ a ∧ a < 16777216) (hb : 0 ≤ b ∧ b < 16777216) (h : numB 3 a = numB 3 b) : a = b := by
  have := congrArg valC h; rwa [valC_num3 ha, valC_num3 hb] at this
theorem num2_inj {a b : Int} (ha : 0 ≤ a ∧ a < 65536) (hb : 0 ≤ b ∧ b < 65536) (h : numB 2 a = numB 2 b) : a = b := by
  have := congrArg valC h; rwa [valC_num2 ha, valC_num2 hb] at this
theorem num1_inj {a b : Int} (ha : 0 ≤ a ∧ a < 256) (hb : 0 ≤ b ∧ b < 256) (h : numB 1 a = numB 1 b) : a = b := by
  have := congrArg valC h; rwa [valC_num1 ha, valC_num1 hb] at this
theorem app_num {w : Nat} {a b : Int} {r s : List Int} (h : numB w a ++ r = numB w b ++ s) : numB w a = numB w b ∧ r = s := List.append_inj h (by rw [numB_len, numB_len])
theorem opB_inj {x y : OpL} {r s : List Int} (hx : OpG x) (hsx : OpS x) (hy : OpG y) (hsy : OpS y) (h : opB x ++ r = opB y ++ s) : x.kind = y.kind ∧ x.from_ = y.from_ ∧ x.len = y.len ∧ x.b = y.b ∧ r = s := by
  obtain ⟨⟨a1, a2⟩, ⟨a3, a4⟩, ⟨a5, a6⟩, ⟨a7, a8⟩, _, _⟩ := hx
  obtain ⟨⟨b1, b2⟩, ⟨b3, b4⟩, ⟨b5, b6⟩, ⟨b7, b8⟩, _, _⟩ := hy
  have hk : x.kind = y.kind := by
    have h1 : ∀ (z : OpL) (t : List Int), ∃ u, opB z ++ t = numB 1 z.kind ++ u := fun z t => ⟨_, by unfold opB; rw [numsB_1, List.append_assoc]⟩
    obtain ⟨u, hu⟩ := h1 x r
    obtain ⟨v, hv⟩ := h1 y s
    rw [hu, hv] at h
    exact num1_inj (by omega) (by omega) (app_num h).1
  rcases (show x.kind = 1 ∨ x.kind = 2 ∨ x.kind = 3 ∨ x.kind = 4 by omega) with h1 | h1 | h1 | h1
  · rw [ol_1 (.inl h1), ol_1 (.inl (by omega))] at h
    have h2 := app_num (app_num h).2
    have h3 := app_num h2.2
    exact ⟨hk, num3_inj (by omega) (by omega) h2.1, num3_inj (by omega) (by omega) h3.1, by rw [hsx.b (by omega), hsy.b (by omega)], h3.2⟩
  · rw [ol_1 (.inr h1), ol_1 (.inr (by omega))] at h
    have h2 := app_num (app_num h).2
    have h3 := app_num h2.2
    exact ⟨hk, num3_inj (by omega) (by omega) h2.1, num3_inj (by omega) (by omega) h3.1, by rw [hsx.b (by omega), hsy.b (by omega)], h3.2⟩
  · rw [ol_3 h1, ol_3 (by omega)] at h
    have h2 := app_num (app_num h).2
    have h3 := app_num h2.2
    exact ⟨hk, by rw [hsx.from_ (by omega), hsy.from_ (by omega)], num3_inj (by omega) (by omega) h2.1, num1_inj (by omega) (by omega) h3.1, h3.2⟩
  · rw [ol_4 h1, ol_4 (by omega)] at h
    have h2 := app_num (app_num h).2
    exact ⟨hk, by rw [hsx.from_ (by omega), hsy.from_ (by omega)], num3_inj (by omega) (by omega) h2.1, by rw [hsx.b (by omega), hsy.b (by omega)], h2.2⟩
theorem ops_inj : ∀ (l m : List OpL), l.length = m.length → (∀ x ∈ l, OpG x ∧ OpS x) → (∀ x ∈ m, OpG x ∧ OpS x) → lsP l = lsP m → dtP l = dtP m → l = m
  | [], [], _, _, _, _, _ => rfl
  | [], _ :: _, h, _, _, _, _ => by simp at h
  | _ :: _, [], h, _, _, _, _ => by simp at h
  | x :: l, y :: m, h, hl, hm, h1, h2 => by
    obtain ⟨gx, sx⟩ := hl x (List.mem_cons_self ..)
    obtain ⟨gy, sy⟩ := hm y (List.mem_cons_self ..)
    obtain ⟨e1, e2, e3, e4, e5⟩ := opB_inj gx sx gy sy (show opB x ++ lsP l = opB y ++ lsP m from h1)
    have hd : x.data.length = y.data.length := by
      by_cases hk : x.kind = 2 ∨ x.kind = 4
      · have := sx.some hk; have := sy.some (by omega); omega
      · rw [sx.none (by omega) (by omega), sy.none (by omega) (by omega)]
    obtain ⟨d1, d2⟩ := List.append_inj (show x.data ++ dtP l = y.data ++ dtP m from h2) hd
    have hxy : x = y := by cases x; cases y; simp only at e1 e2 e3 e4 d1; subst e1 e2 e3 e4 d1; rfl
    rw [hxy, ops_inj l m (by simpa using h) (fun z hz => hl z (List.mem_cons_of_mem _ hz)) (fun z hz => hm z (List.mem_cons_of_mem _ hz)) e5 d2]
theorem lft_inj {p q : PatL} (h : lft p = lft q) : p.lifted = q.lifted := by rw [← lft_bool p, ← lft_bool q, h]
theorem packP_inj {p q : PatL} (hp : p.wf) (hk : (checkP p).2 = 0) (hq : q.wf) (hkq : (checkP q).2 = 0) (h : packP p = packP q) : p = q := by
  have gp := patG_of hp hk
  have gq := patG_of hq hkq
  obtain ⟨p1, p2⟩ := gp.in_
  obtain ⟨p3, p4⟩ := gp.out
  obtain ⟨q1, q2⟩ := gq.in_
  obtain ⟨q3, q4⟩ := gq.out
  have p5 := gp.n
  have q5 := gq.n
  have p6 := gp.dat
  have q6 := gq.dat
  have p7 := lsP_le p.ops
  have q7 := lsP_le q.ops
  have p8 := (code1_ok (lsP_byt p.ops)).2
  have q8 := (code1_ok (lsP_byt q.ops)).2
  have p9 := (code2_ok (dtP_byt gp.ops)).2
  have q9 := (code2_ok (dtP_byt gq.ops)).2
  rw [packP_head, packP_head, headP_app, headP_app] at h
  have h1 := app_num (app_num h).2
  have h2 := app_num h1.2
  have h3 := app_num h2.2
  have h4 := app_num h3.2
  have h5 := app_num h4.2
  have h6 := app_num h5.2
  have h7 := app_num h6.2
  have h8 := app_num h7.2
  have lb : ∀ z : PatL, lft z = 0 ∨ lft z = 1 := fun z => by unfold lft; split <;> omega
  have b1 := lb p
  have b2 := lb q
  have e1 := lft_inj (num1_inj (by omega) (by omega) h1.1)
  have e2 := num3_inj (by omega) (by omega) h2.1
  have e3 := num3_inj (by omega) (by omega) h3.1
  have e4 := num2_inj (by omega) (by omega) h4.1
  have e5 := num3_inj (by omega) (by omega) h5.1
  have e6 := num3_inj (by omega) (by omega) h6.1
  have e7 := num3_inj (by omega) (by omega) h7.1
  have e8 := num3_inj (by omega) (by omega) h8.1
  obtain ⟨c1, c2⟩ := List.append_inj h8.2 (by omega)
  obtain ⟨c3, c4⟩ := List.append_inj c2 (by omega)
  have f1 := enc_inj mdl1_ok adOne_ok (lsP_byt _) (lsP_byt _) (by omega) c1
  have f2 := enc_inj mdl2_ok s2z_ok (dtP_byt gp.ops) (dtP_byt gq.ops) (by omega) c3
  have f3 := ops_inj p.ops q.ops (by omega) (fun x hx => ⟨gp.ops x hx, opsS_of hk x hx⟩) (fun x hx => ⟨gq.ops x hx, opsS_of hkq x hx⟩) f1 f2
  cases p; cases q
  simp only at e1 e2 e3 f3
  subst e1 e2 e3 f3; rfl

end Go.Proofs.YtdgnojckkjfhfaaDoor

