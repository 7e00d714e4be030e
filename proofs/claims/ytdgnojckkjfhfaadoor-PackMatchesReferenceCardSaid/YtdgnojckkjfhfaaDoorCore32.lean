/- A region that draws its order, in which operations that only lay a new block may come up anywhere beside a chain of calls: each step of the chain is taken once. Conditions: none. -/
import Derived.Test.YtdgnojckkjfhfaaDoorKCore
namespace Go.Inl
open Go Go.RowKit
set_option linter.unusedSimpArgs false
set_option linter.unusedVariables false
theorem upd_if (σ : Nat → Value) (t : Nat) (v : Value) (i : Nat) : upd σ t v i = if i = t then v else σ i := by
  unfold upd
  by_cases h : i = t
  · subst h; simp
  · have hb : Nat.beq i t = false := by
      cases hb : Nat.beq i t with
      | false => rfl
      | true => exact absurd (Nat.eq_of_beq_eq_true hb) h
    rw [if_neg h, hb]; rfl
theorem updO_comm {σ : Nat → Value} {d : Option Tmp} {t : Nat} {u v : Value} (h : d ≠ some t) : updO (updO σ d u) (some t) v = updO (updO σ (some t) v) d u := by
  cases d with
  | none => rfl
  | some d =>
    funext i
    show upd (upd σ d u) t v i = upd (upd σ t v) d u i
    rw [upd_if, upd_if, upd_if, upd_if]
    have : d ≠ t := fun e => h (by rw [e])
    by_cases h1 : i = t <;> by_cases h2 : i = d <;> simp_all
theorem updO_twice (σ : Nat → Value) (t : Nat) (u v : Value) : updO (updO σ (some t) u) (some t) v = updO σ (some t) v := by
  funext i
  show upd (upd σ t u) t v i = upd σ t v i
  rw [upd_if, upd_if, upd_if]
  by_cases h : i = t <;> simp [h]
theorem updO_own (σ : Nat → Value) (t : Nat) : updO σ (some t) (σ t) = σ := by
  funext i
  show upd σ t (σ t) i = σ i
  rw [upd_if]
  by_cases h : i = t <;> simp [h]
/-- What a slot is set to, at the bottom of a store. -/
def baseS (σ : Nat → Value) : List Nat → Nat → (Nat → Value) → Nat → Value
  | [], _, _ => σ
  | d :: ds, k, x => updO (baseS σ ds (k + 1) x) (some d) (x k)
def setX (x : Nat → Value) (j : Nat) (v : Value) : Nat → Value := fun k => if k = j then v else x k
structure Sok (ds : List Nat) (S : (Nat → Value) → Nat → Value) : Prop where
  at_ : ∀ j d, ds[j]? = some d → ∀ x v, updO (S x) (some d) v = S (setX x j v)
  ext : ∀ x x', (∀ j, j < ds.length → x j = x' j) → S x = S x'
theorem baseS_ext (σ : Nat → Value) : ∀ (ds : List Nat) (k : Nat) (x x' : Nat → Value), (∀ j, k ≤ j → j < k + ds.length → x j = x' j) → baseS σ ds k x = baseS σ ds k x'
  | [], _, _, _, _ => rfl
  | d :: ds, k, x, x', h => by
    show updO (baseS σ ds (k + 1) x) (some d) (x k) = updO (baseS σ ds (k + 1) x') (some d) (x' k)
    rw [baseS_ext σ ds (k + 1) x x' (fun j h1 h2 => h j (by omega) (by rw [List.length_cons]; omega)), h k (Nat.le_refl _) (by rw [List.length_cons]; omega)]
theorem baseS_at (σ : Nat → Value) : ∀ (ds : List Nat) (k : Nat), ds.Nodup → ∀ (j d : Nat), ds[j]? = some d → ∀ (x : Nat → Value) (v : Value), updO (baseS σ ds k x) (some d) v = baseS σ ds k (setX x (k + j) v)
  | [], _, _, j, d, h, _, _ => by simp at h
  | e :: ds, k, hn, 0, d, h, x, v => by
    obtain rfl : e = d := by simpa using h
    show updO (updO (baseS σ ds (k + 1) x) (some e) (x k)) (some e) v = updO (baseS σ ds (k + 1) (setX x (k + 0) v)) (some e) (setX x (k + 0) v k)
    rw [updO_twice, baseS_ext σ ds (k + 1) (setX x (k + 0) v) x (fun j h1 _ => by unfold setX; rw [if_neg (by omega)])]
    congr 1
    show v = if k = k + 0 then v else x k
    rw [if_pos (by omega)]
  | e :: ds, k, hn, j + 1, d, h, x, v => by
    have hd : ds[j]? = some d := by simpa using h
    rw [List.nodup_cons] at hn
    have hne : e ≠ d := fun he => hn.1 (by rw [he]; exact List.mem_of_getElem? hd)
    show updO (updO (baseS σ ds (k + 1) x) (some e) (x k)) (some d) v = updO (baseS σ ds (k + 1) (setX x (k + (j + 1)) v)) (some e) (setX x (k + (j + 1)) v k)
    rw [updO_comm (by simpa using hne), baseS_at σ ds (k + 1) hn.2 j d hd x v, show k + 1 + j = k + (j + 1) by omega]
    congr 1
    unfold setX
    rw [if_neg (by omega)]
theorem baseS_own (σ : Nat → Value) : ∀ (ds : List Nat) (k : Nat), ds.Nodup → ∀ x : Nat → Value, (∀ j d, ds[j]? = some d → x (k + j) = σ d) → baseS σ ds k x = σ
  | [], _, _, _, _ => rfl
  | d :: ds, k, hn, x, h => by
    rw [List.nodup_cons] at hn
    show updO (baseS σ ds (k + 1) x) (some d) (x k) = σ
    rw [baseS_own σ ds (k + 1) hn.2 x (fun j e he => by rw [show k + 1 + j = k + (j + 1) by omega]; exact h (j + 1) e (by simpa using he)), show x k = σ d from h 0 d rfl, updO_own]
theorem baseS_ok {σ : Nat → Value} {ds : List Nat} (hn : ds.Nodup) : Sok ds (baseS σ ds 0) := ⟨fun j d hd x v => by have := baseS_at σ ds 0 hn j d hd x v; rwa [Nat.zero_add] at this, fun x x' h => baseS_ext σ ds 0 x x' (fun j _ h2 => h j (by omega))⟩
def outOf (ds : List Nat) : Option Tmp → Bool
  | none => true
  | some t => !ds.contains t
theorem Sok.upd {ds : List Nat} {S : (Nat → Value) → Nat → Value} (h : Sok ds S) {d : Option Tmp} (hd : outOf ds d = true) (v : Value) : Sok ds (fun x => updO (S x) d v) := by
  refine ⟨fun j e he x u => ?_, fun x x' hx => ?_⟩
  · rw [updO_comm, h.at_ j e he]
    intro hde
    subst hde
    have : e ∈ ds := List.mem_of_getElem? he
    simp [outOf, this] at hd
  · show updO (S x) d v = updO (S x') d v
    rw [h.ext x x' hx]
/-- An operation that lays a new block, whatever the slots say. -/
structure LayD where
  i : Nat
  d : Nat
  val : Nat → Value
  res : Nat → Res
structure LayOk (P : Program) (l : List Oper) (n : Nat) (X : List Nat) (w0 : World) (I0 : Imm) (a : LayD) : Prop where
  ok : ∃ op ty p af, l[a.i]? = some ⟨some a.d, op, ty, p, af, none⟩ ∧ ∀ (σ : Nat → Value) (I : Imm) (w : World) (L : List Res), St X w0 I0 I w L → Does P (ev n σ) op ty w fun v w' => ∃ b, v = a.val b ∧ St X w0 I0 I w' (a.res b :: L)
def blz : List (Option Res) → List Res
  | [] => []
  | none :: r => blz r
  | some b :: r => b :: blz r
theorem blz_on : ∀ (ps : List (Option Res)) (k : Nat) (r : Res), ps[k]? = some none → List.Perm (blz (ps.set k (some r))) (r :: blz ps)
  | [], k, r, h => by simp at h
  | p :: ps, 0, r, h => by
    obtain rfl : p = none := by simpa using h
    exact List.Perm.refl _
  | p :: ps, k + 1, r, h => by
    have ih := blz_on ps k r (by simpa using h)
    cases p with
    | none => exact ih
    | some b => exact (ih.cons b).trans (List.Perm.swap ..)
def layRes : List LayD → List Nat → List Res
  | a :: as, b :: bs => a.res b :: layRes as bs
  | _, _ => []
def layVal (as : List LayD) (bs : List Nat) (j : Nat) : Value := match as[j]?, bs[j]? with | some a, some b => a.val b | _, _ => undef
structure PsOk (as : List LayD) (fl : List Bool) (ps : List (Option Res)) (x : Nat → Value) : Prop where
  l1 : fl.length = as.length
  l2 : ps.length = as.length
  on : ∀ (k : Nat) (a : LayD), as[k]? = some a → fl[k]? = some true → ∃ b, ps[k]? = some (some (a.res b)) ∧ x k = a.val b
  off : ∀ k : Nat, fl[k]? = some false → ps[k]? = some none
theorem ps_all : ∀ (as : List LayD) (ps : List (Option Res)) (f : Nat → Nat), ps.length = as.length → (∀ (k : Nat) (a : LayD), as[k]? = some a → ps[k]? = some (some (a.res (f k)))) → blz ps = layRes as ((List.range as.length).map f)
  | [], [], _, _, _ => rfl
  | [], _ :: _, _, h, _ => by simp at h
  | _ :: _, [], _, h, _ => by simp at h
  | a :: as, p :: ps, f, h, hp => by
    have h0 : p = some (a.res (f 0)) := by simpa using hp 0 a rfl
    have ih := ps_all as ps (fun k => f (k + 1)) (by simpa using h) (fun k b hk => by simpa using hp (k + 1) b (by simpa using hk))
    subst h0
    rw [List.length_cons, List.range_succ_eq_map, List.map_cons, List.map_map]
    show a.res (f 0) :: blz ps = a.res (f 0) :: layRes as _
    rw [ih]; rfl
section
variable {P : Program} {Q : Exit → Act → World → Prop} {n : Nat} {df : List Deferred} {l : List Oper} {X : List Nat} {w0 : World} {I0 : Imm} {as : List LayD} {rest : Od}
def WA (P : Program) (l : List Oper) (Q : Exit → Act → World → Prop) (n : Nat) (df : List Deferred) (X : List Nat) (w0 : World) (I0 : Imm) (as : List LayD) (rest : Od) : List (Nat × Kd) → ((Nat → Value) → Nat → Value) → Imm → List Res → Prop
  | [], S, I, L => ∀ bs : List Nat, bs.length = as.length → ∀ w, St X w0 I0 I w (L ++ layRes as bs) → OS P l Q n df rest (KS X w0 I0 I (L ++ layRes as bs)) (S (layVal as bs)) w
  | (i, .pure) :: r, S, I, L => ∃ t op ty p af v, l[i]? = some ⟨some t, op, ty, p, af, none⟩ ∧ outOf (as.map (·.d)) (some t) = true ∧ (∀ x, Gives P (ev n (S x)) (fun _ => True) op ty v) ∧ WA P l Q n df X w0 I0 as rest r (fun x => updO (S x) (some t) v) I L
  | (i, .held) :: r, S, I, L => ∃ t op ty p af v, l[i]? = some ⟨some t, op, ty, p, af, none⟩ ∧ outOf (as.map (·.d)) (some t) = true ∧ (∀ x, Gives P (ev n (S x)) (KS X w0 I0 I L) op ty v) ∧ WA P l Q n df X w0 I0 as rest r (fun x => updO (S x) (some t) v) I L
  | (i, _) :: r, S, I, L => ∃ d op ty p af, l[i]? = some ⟨d, op, ty, p, af, none⟩ ∧ outOf (as.map (·.d)) d = true ∧ ∀ x T w, St X w0 I0 I w (L ++ T) → Does P (ev n (S x)) op ty w fun v w' => ∃ I', Ext w I w' I' ∧ WA P l Q n df X w0 I0 as rest r (fun x => updO (S x) d v) I' L
structure OA (P : Program) (l : List Oper) (Q : Exit → Act → World → Prop) (n : Nat) (df : List Deferred) (X : List Nat) (w0 : World) (I0 : Imm) (as : List LayD) (rest : Od) (c : List (Nat × Kd)) (S : (Nat → Value) → Nat → Value) (I : Imm) (L : List Res) : Prop where
  run : WA P l Q n df X w0 I0 as rest c S I L
def und (fl : List Bool) (ai : List Nat) : List Nat := (List.range ai.length).filterMap fun k => if fl.getD k true then none else some (ai.getD k 0)
def readyIn (l : List Oper) (L : Array Bool) (js : List Nat) : Bool := !(Region.ready .any l.toArray L).isEmpty && (Region.ready .any l.toArray L).all fun j => js.contains j
def okA (l : List Oper) (ai : List Nat) (rest : Od) : Nat → List (Nat × Kd) → List Bool → Array Bool → Bool
  | 0, _, _, _ => false
  | f + 1, [], fl, L => cond (fl.all id) (okO l rest L) (readyIn l L (und fl ai) && (List.range ai.length).all fun k => fl.getD k true || (!(bars rest).contains (ai.getD k 0) && okA l ai rest f [] (fl.set k true) (L.setIfInBounds (ai.getD k 0) true)))
  | f + 1, (i, .pure) :: r, fl, L => Region.free .any l.toArray L i && (Region.ready .any l.toArray L).contains i && !(bars rest).contains i && okA l ai rest f r fl (L.setIfInBounds i true)
  | f + 1, (i, .held) :: r, fl, L => Region.free .any l.toArray L i && (Region.ready .any l.toArray L).contains i && !(bars rest).contains i && (bars rest).all (fun b => (succs i l).getD b false) && okA l ai rest f r fl (L.setIfInBounds i true)
  | f + 1, (i, .eff) :: r, fl, L => readyIn l L (i :: und fl ai) && !(bars rest).contains i && okA l ai rest f r fl (L.setIfInBounds i true) && (List.range ai.length).all fun k => fl.getD k true || (!(bars rest).contains (ai.getD k 0) && okA l ai rest f ((i, .eff) :: r) (fl.set k true) (L.setIfInBounds (ai.getD k 0) true))
  | _ + 1, (_, .bar) :: _, _, _ => false
theorem und_mem {fl : List Bool} {ai : List Nat} {j : Nat} (h : j ∈ und fl ai) : ∃ k, k < ai.length ∧ fl.getD k true = false ∧ ai.getD k 0 = j := by
  unfold und at h
  rw [List.mem_filterMap] at h
  obtain ⟨k, h1, h2⟩ := h
  rw [List.mem_range] at h1
  refine ⟨k, h1, ?_⟩
  cases hf : fl.getD k true
  · rw [hf] at h2
    exact ⟨rfl, Option.some.inj h2⟩
  · rw [hf] at h2; cases h2
theorem okA_lay {ai : List Nat} {f : Nat} {c : List (Nat × Kd)} {fl : List Bool} {L : Array Bool} {k : Nat} (h : ((List.range ai.length).all fun k => fl.getD k true || (!(bars rest).contains (ai.getD k 0) && okA l ai rest f c (fl.set k true) (L.setIfInBounds (ai.getD k 0) true))) = true) (hk : k < ai.length) (hf : fl.getD k true = false) :
    (bars rest).contains (ai.getD k 0) = false ∧ okA l ai rest f c (fl.set k true) (L.setIfInBounds (ai.getD k 0) true) = true := by
  have := List.all_eq_true.1 h k (List.mem_range.2 hk)
  rw [hf, Bool.false_or, Bool.and_eq_true, Bool.not_eq_true'] at this
  exact this
theorem und_false {fl : List Bool} {k : Nat} (h : fl.getD k true = false) : fl[k]? = some false := by
  rw [List.getD_eq_getElem?_getD] at h
  cases e : fl[k]? with
  | none => rw [e] at h; cases h
  | some b => rw [e] at h; exact congrArg some h
theorem PsOk.lay {fl : List Bool} {ps : List (Option Res)} {x : Nat → Value} (h : PsOk as fl ps x) {k b : Nat} {a : LayD} (ha : as[k]? = some a) (hk : fl[k]? = some false) : PsOk as (fl.set k true) (ps.set k (some (a.res b))) (setX x k (a.val b)) := by
  have h1 := h.l1
  have h2 := h.l2
  have hkl := (List.getElem?_eq_some_iff.1 ha).1
  refine ⟨by rw [List.length_set]; exact h1, by rw [List.length_set]; exact h2, fun j c hc hj => ?_, fun j hj => ?_⟩
  · by_cases e : k = j
    · subst e
      rw [ha] at hc
      obtain rfl := Option.some.inj hc
      exact ⟨b, List.getElem?_set_self (by omega), by unfold setX; rw [if_pos rfl]⟩
    · rw [List.getElem?_set_ne e] at hj ⊢
      obtain ⟨b', h3, h4⟩ := h.on j c hc hj
      exact ⟨b', h3, by unfold setX; rw [if_neg (fun h => e h.symm)]; exact h4⟩
  · by_cases e : k = j
    · subst e
      rw [List.getElem?_set_self (by omega)] at hj; cases hj
    · rw [List.getElem?_set_ne e] at hj ⊢
      exact h.off j hj
def cntN (fl : List Bool) : Nat := fl.count false
theorem cntN_set : ∀ {fl : List Bool} {k : Nat}, fl[k]? = some false → cntN (fl.set k true) + 1 = cntN fl
  | [], k, h => by simp at h
  | b :: r, 0, h => by
    obtain rfl : b = false := by simpa using h
    unfold cntN
    simp
  | b :: r, k + 1, h => by
    have ih := cntN_set (fl := r) (k := k) (by simpa using h)
    unfold cntN at ih ⊢
    rw [List.set_cons_succ, List.count_cons, List.count_cons]
    omega
/-- One of the operations that lay a block comes up. -/
theorem lay_step {a : LayD} {k : Nat} {fl : List Bool} {ps : List (Option Res)} {S : (Nat → Value) → Nat → Value} {I : Imm} {L : List Res} {x : Nat → Value} {w : World} {K : Act → World → Prop} (ha : as[k]? = some a) (hok : LayOk P l n X w0 I0 a) (hk : fl[k]? = some false) (hS : St X w0 I0 I w (L ++ blz ps)) (hp : PsOk as fl ps x) (hs : Sok (as.map (·.d)) S)
    (h : ∀ b w', St X w0 I0 I w' (L ++ blz (ps.set k (some (a.res b)))) → K (act n df (S (setX x k (a.val b)))) w') : opR P l.toArray a.i K (act n df (S x)) w := by
  obtain ⟨op, ty, p, af, h1, h2⟩ := hok.ok
  refine op_does (by simpa using h1) rfl (h2 (S x) I w _ hS) ?_
  rintro v w' ⟨b, rfl, hS'⟩
  rw [hs.at_ k a.d (by rw [List.getElem?_map, ha]; rfl)]
  refine h b w' (hS'.perm ?_)
  exact ((blz_on ps k (a.res b) (hp.off k hk)).append_left L).trans List.perm_middle
theorem GG_of {B : List Nat} {S : World → Prop} {L : Array Bool} {w : World} (h : S w) : GG B S L w := fun _ => h
theorem WA.sound (hsel : ∀ (j : Nat) (o : Oper) cs b, l.toArray[j]? = some o → o.op ≠ .select cs b) (has : ∀ a ∈ as, LayOk P l n X w0 I0 a) :
    ∀ (f : Nat) (c : List (Nat × Kd)) (fl : List Bool) (L' : Array Bool) (ps : List (Option Res)) (S : (Nat → Value) → Nat → Value) (I : Imm) (L : List Res) (x : Nat → Value) (w : World) (fuel : Nat),
      okA l (as.map (·.i)) rest f c fl L' = true → Closed l.toArray L' → L'.size = l.length → St X w0 I0 I w (L ++ blz ps) → PsOk as fl ps x → Sok (as.map (·.d)) S → c.length + cntN fl + rest.depth ≤ fuel →
      WA P l Q n df X w0 I0 as rest c S I L → AnyG P l.toArray Q (GG (bars rest) (KS X w0 I0 I L)) fuel L' (act n df (S x)) w
  | 0, _, _, _, _, _, _, _, _, _, _, h, _, _, _, _, _, _, _ => by simp [okA] at h
  | f + 1, [], fl, L', ps, S, I, L, x, w, fuel, hok, hcl, hsz, hS, hp, hs, hf, h => by
    have hSL : St X w0 I0 I w L := hS.sub (List.sublist_append_left ..)
    cases hall : fl.all id with
    | true =>
      simp only [okA, hall, cond_true] at hok
      have hon : ∀ k, ∃ b, ∀ a, as[k]? = some a → ps[k]? = some (some (a.res b)) ∧ x k = a.val b := fun k => by
        by_cases hk : k < as.length
        · have hfl : fl[k]? = some true := by
            have hkl : k < fl.length := by rw [hp.l1]; exact hk
            rw [List.getElem?_eq_getElem hkl]
            have := List.all_eq_true.1 hall fl[k] (List.getElem_mem hkl)
            exact congrArg some this
          obtain ⟨b, h1, h2⟩ := hp.on k _ (List.getElem?_eq_getElem hk) hfl
          refine ⟨b, fun a ha => ?_⟩
          rw [List.getElem?_eq_getElem hk] at ha
          obtain rfl := Option.some.inj ha
          exact ⟨h1, h2⟩
        · exact ⟨0, fun a ha => by rw [List.getElem?_eq_none (by omega)] at ha; cases ha⟩
      obtain ⟨g, hg⟩ := Classical.axiomOfChoice hon
      have hb := ps_all as ps g hp.l2 (fun k a ha => (hg k a ha).1)
      have hx : S x = S (layVal as ((List.range as.length).map g)) := hs.ext _ _ fun j hj => by
        rw [List.length_map] at hj
        unfold layVal
        rw [List.getElem?_map, List.getElem?_range hj, List.getElem?_eq_getElem hj]
        exact (hg j _ (List.getElem?_eq_getElem hj)).2
      rw [hb] at hS
      have := h _ (by rw [List.length_map, List.length_range]) w hS
      rw [← hx] at this
      refine AnyG.mono fuel _ _ _ (fun L1 w1 _ hG hB => (hG hB).sub (List.sublist_append_left ..)) (WS.sound hsel rest fuel L' _ (S x) w (by omega) hok hcl hsz hS this.run)
    | false =>
      simp only [okA, hall, cond_false, Bool.and_eq_true] at hok
      obtain ⟨k1, k2⟩ := hok
      unfold readyIn at k1
      rw [Bool.and_eq_true, Bool.not_eq_true'] at k1
      have hfuel : ∃ m, fuel = m + 1 := by
        have : 0 < cntN fl := by
          unfold cntN
          rw [List.count_pos_iff]
          cases hm : fl.contains false with
          | true => exact List.contains_iff_mem.1 hm
          | false =>
            have : fl.all id = true := List.all_eq_true.2 fun b hb => by
              cases b with
              | true => rfl
              | false => have := List.contains_iff_mem.2 hb; rw [hm] at this; cases this
            rw [hall] at this; cases this
        exact ⟨fuel - 1, by omega⟩
      obtain ⟨m, rfl⟩ := hfuel
      refine ⟨fun h0 => (by rw [h0] at k1; cases k1.1), fun j hj => ?_⟩
      have hju := List.contains_iff_mem.1 (List.all_eq_true.1 k1.2 j hj)
      obtain ⟨k, hk1, hk2, rfl⟩ := und_mem hju
      obtain ⟨b1, b2⟩ := okA_lay k2 hk1 hk2
      have hkf := und_false hk2
      rw [List.length_map] at hk1
      have hae : (as.map (·.i)).getD k 0 = as[k].i := by rw [List.getD_eq_getElem?_getD, List.getElem?_map, List.getElem?_eq_getElem hk1]; rfl
      rw [hae] at b1 b2 hj ⊢
      refine lay_step (List.getElem?_eq_getElem hk1) (has _ (List.getElem_mem hk1)) hkf hS hp hs fun b w' hS' => ?_
      refine ⟨GG_of (hS'.sub (List.sublist_append_left ..)), ?_⟩
      have hc := cntN_set hkf
      exact WA.sound hsel has f [] (fl.set k true) _ _ S I L _ w' m b2 (hcl.set hj) (by simpa using hsz) hS' (hp.lay (List.getElem?_eq_getElem hk1) hkf) hs (by omega) h
  | f + 1, (i, .pure) :: r, fl, L', ps, S, I, L, x, w, fuel, hok, hcl, hsz, hS, hp, hs, hf, h => by
    obtain ⟨t, op, ty, p, af, v, h1, h2, h3, h4⟩ := h
    simp only [okA, Bool.and_eq_true, Bool.not_eq_true'] at hok
    obtain ⟨⟨⟨k1, k2⟩, k3⟩, k4⟩ := hok
    simp only [List.length_cons] at hf
    obtain ⟨m, rfl⟩ : ∃ m, fuel = m + 1 := ⟨fuel - 1, by omega⟩
    have ho' : l.toArray[i]? = some ⟨some t, op, ty, p, af, none⟩ := by simpa using h1
    have hr : i ∈ Region.ready .any l.toArray L' := by simpa using k2
    refine AnyG.first (Si := fun _ => True) ho' hsel (fun L w => (GG_ne k3 L w).1) (fun L w => (GG_ne k3 L w).2) m L' (act n df (S x)) w hcl (fun _ _ _ _ _ => trivial)
      (Region.free_spec ho' k1) hr (yi rfl (h3 x)) (GG_of (hS.sub (List.sublist_append_left ..))) ?_
    rw [act_put]
    exact WA.sound hsel has f r fl _ ps (fun x => updO (S x) (some t) v) I L x w m k4 (hcl.set hr) (by simpa using hsz) hS hp (hs.upd h2 v) (by omega) h4
  | f + 1, (i, .held) :: r, fl, L', ps, S, I, L, x, w, fuel, hok, hcl, hsz, hS, hp, hs, hf, h => by
    obtain ⟨t, op, ty, p, af, v, h1, h2, h3, h4⟩ := h
    simp only [okA, Bool.and_eq_true, Bool.not_eq_true'] at hok
    obtain ⟨⟨⟨⟨k1, k2⟩, k3⟩, k5⟩, k4⟩ := hok
    simp only [List.length_cons] at hf
    obtain ⟨m, rfl⟩ : ∃ m, fuel = m + 1 := ⟨fuel - 1, by omega⟩
    have ho' : l.toArray[i]? = some ⟨some t, op, ty, p, af, none⟩ := by simpa using h1
    have hr : i ∈ Region.ready .any l.toArray L' := by simpa using k2
    have hSL : St X w0 I0 I w L := hS.sub (List.sublist_append_left ..)
    refine AnyG.first (Si := KS X w0 I0 I L) ho' hsel (fun L w => (GG_ne k3 L w).1) (fun L w => (GG_ne k3 L w).2) m L' (act n df (S x)) w hcl (fun L w hL hi hG => hG fun b hb => ?_)
      (Region.free_spec ho' k1) hr (yi rfl (h3 x)) (GG_of hSL) ?_
    · cases hb' : L.getD b false with
      | false => rfl
      | true =>
        have := succs_spec (List.all_eq_true.1 k5 b hb) L hL hb'
        rw [getD_false_of hi] at this
        cases this
    · rw [act_put]
      exact WA.sound hsel has f r fl _ ps (fun x => updO (S x) (some t) v) I L x w m k4 (hcl.set hr) (by simpa using hsz) hS hp (hs.upd h2 v) (by omega) h4
  | f + 1, (i, .eff) :: r, fl, L', ps, S, I, L, x, w, fuel, hok, hcl, hsz, hS, hp, hs, hf, h => by
    have hh := h
    obtain ⟨d, op, ty, p, af, h1, h2, h3⟩ := h
    simp only [okA, Bool.and_eq_true, Bool.not_eq_true'] at hok
    obtain ⟨⟨⟨k1, k3⟩, k4⟩, k2⟩ := hok
    unfold readyIn at k1
    rw [Bool.and_eq_true, Bool.not_eq_true'] at k1
    simp only [List.length_cons] at hf
    obtain ⟨m, rfl⟩ : ∃ m, fuel = m + 1 := ⟨fuel - 1, by omega⟩
    have hSL : St X w0 I0 I w L := hS.sub (List.sublist_append_left ..)
    refine ⟨fun h0 => (by rw [h0] at k1; cases k1.1), fun j hj => ?_⟩
    have hju := List.contains_iff_mem.1 (List.all_eq_true.1 k1.2 j hj)
    rcases List.mem_cons.1 hju with rfl | hju
    · refine op_does (by simpa using h1) rfl (h3 x (blz ps) w hS) ?_
      rintro v w' ⟨I', hE, hW⟩
      have hS' := hS.callE hE
      have himp : ∀ w, St X w0 I0 I' w L → St X w0 I0 I w L := hSL.le hE.ext (List.Sublist.refl _)
      refine ⟨GG_of (himp _ (hS'.sub (List.sublist_append_left ..))), ?_⟩
      exact AnyG.mono m _ _ _ (fun L1 w1 _ hG hB => himp _ (hG hB)) (WA.sound hsel has f r fl _ ps (fun x => updO (S x) d v) I' L x w' m k4 (hcl.set hj) (by simpa using hsz) hS' hp (hs.upd h2 v) (by omega) hW)
    · obtain ⟨k, hk1, hk2, rfl⟩ := und_mem hju
      obtain ⟨b1, b2⟩ := okA_lay k2 hk1 hk2
      have hkf := und_false hk2
      rw [List.length_map] at hk1
      have hae : (as.map (·.i)).getD k 0 = as[k].i := by rw [List.getD_eq_getElem?_getD, List.getElem?_map, List.getElem?_eq_getElem hk1]; rfl
      rw [hae] at b1 b2 hj ⊢
      refine lay_step (List.getElem?_eq_getElem hk1) (has _ (List.getElem_mem hk1)) hkf hS hp hs fun b w' hS' => ?_
      refine ⟨GG_of (hS'.sub (List.sublist_append_left ..)), ?_⟩
      have hc := cntN_set hkf
      exact WA.sound hsel has f ((i, .eff) :: r) (fl.set k true) _ _ S I L _ w' m b2 (hcl.set hj) (by simpa using hsz) hS' (hp.lay (List.getElem?_eq_getElem hk1) hkf) hs (by simp only [List.length_cons]; omega) hh
  | f + 1, (i, .bar) :: r, _, _, _, _, _, _, _, _, _, hok, _, _, _, _, _, _, _ => by simp [okA] at hok
variable {ro : Option Nat} {σ : Nat → Value} {w : World} {I : Imm} {L : List Res} {id : Nat}
def okAR (l : List Oper) (as : List LayD) (c : List (Nat × Kd)) (rest : Od) : Bool := okA l (as.map (·.i)) rest (c.length + as.length + 1) c (List.replicate as.length false) (Array.replicate l.length false) && Region.noSelect l.toArray && Nat.ble (c.length + as.length + rest.depth) l.length && decide (as.map (·.d)).Nodup
/-- A region that draws its order, with operations that only lay blocks. -/
theorem drawA (as : List LayD) (c : List (Nat × Kd)) (rest : Od) (hm : P.follows .mixedOrders = true) (hok : okAR l as c rest = true) (has : ∀ a ∈ as, LayOk P l n X w0 I0 a) (hS : St X w0 I0 I w L)
    (h : OA P l Q n df X w0 I0 as rest c (baseS σ (as.map (·.d)) 0) I L) : (Code.region id l.toArray true).wpIn (fen ro) 0 P Q (act n df σ) w := by
  simp only [okAR, Bool.and_eq_true, decide_eq_true_eq] at hok
  obtain ⟨⟨⟨k1, k2⟩, k3⟩, k4⟩ := hok
  have hS' : St X w0 I0 I { w with drawn := w.drawn + 1 } L := hS.alike rfl rfl rfl rfl
  have hbz : ∀ m : Nat, blz (List.replicate m none) = [] := fun m => by
    induction m with
    | zero => rfl
    | succ m ih => rw [List.replicate_succ]; exact ih
  have hc : ∀ m : Nat, cntN (List.replicate m false) = m := fun m => by unfold cntN; rw [List.count_replicate_self]
  have hp : PsOk as (List.replicate as.length false) (List.replicate as.length none) (fun j => σ ((as.map (·.d)).getD j 0)) := by
    refine ⟨by simp, by simp, fun k a ha hk => ?_, fun k hk => ?_⟩
    · have := (List.mem_replicate.1 (List.mem_of_getElem? hk)).2
      cases this
    · have := (List.getElem?_eq_some_iff.1 hk).1
      rw [List.length_replicate] at this
      rw [List.getElem?_replicate, if_pos this]
  have hany := WA.sound (P := P) (Q := Q) (df := df) (Region.noSelect_spec k2) has (c.length + as.length + 1) c _ (Array.replicate l.length false) (List.replicate as.length none) _ I L (fun j => σ ((as.map (·.d)).getD j 0)) _ l.length k1
    (by intro j o _ hl; exfalso; rcases Nat.lt_or_ge j l.length with h' | h' <;> simp [h'] at hl) (by simp) (by rw [hbz, List.append_nil]; exact hS') hp (baseS_ok k4) (by rw [hc]; exact Nat.le_of_ble_eq_true k3) h.run
  rw [baseS_own σ (as.map (·.d)) 0 k4 _ (fun j d hd => by rw [Nat.zero_add, List.getD_eq_getElem?_getD, hd]; rfl)] at hany
  exact wpIn_region_any hm (by simpa using any_of_G _ _ _ _ hany)
variable {i : Nat} {r : List (Nat × Kd)} {S : (Nat → Value) → Nat → Value} {d : Option Tmp} {op : Op} {ty : TypeId} {p : String} {af : Array Edge} {v : Value} {t : Nat}
theorem oaP (hi : l[i]? = some ⟨some t, op, ty, p, af, none⟩) (ho : outOf (as.map (·.d)) (some t) = true) (h : ∀ x, Gives P (ev n (S x)) (fun _ => True) op ty v) (k : OA P l Q n df X w0 I0 as rest r (fun x => updO (S x) (some t) v) I L) : OA P l Q n df X w0 I0 as rest ((i, .pure) :: r) S I L :=
  ⟨⟨t, op, ty, p, af, v, hi, ho, h, k.run⟩⟩
theorem oaH (hi : l[i]? = some ⟨some t, op, ty, p, af, none⟩) (ho : outOf (as.map (·.d)) (some t) = true) (h : ∀ x, Gives P (ev n (S x)) (KS X w0 I0 I L) op ty v) (k : OA P l Q n df X w0 I0 as rest r (fun x => updO (S x) (some t) v) I L) : OA P l Q n df X w0 I0 as rest ((i, .held) :: r) S I L :=
  ⟨⟨t, op, ty, p, af, v, hi, ho, h, k.run⟩⟩
theorem oaE {R : World → Value → World → Prop} (hi : l[i]? = some ⟨d, op, ty, p, af, none⟩) (ho : outOf (as.map (·.d)) d = true) (h : ∀ x T w, St X w0 I0 I w (L ++ T) → Does P (ev n (S x)) op ty w (R w))
    (k : ∀ v w w', R w v w' → ∃ I', Ext w I w' I' ∧ OA P l Q n df X w0 I0 as rest r (fun x => updO (S x) d v) I' L) : OA P l Q n df X w0 I0 as rest ((i, .eff) :: r) S I L :=
  ⟨⟨d, op, ty, p, af, hi, ho, fun x T w hS => (h x T w hS).mono fun v w' hR => let ⟨I', h1, h2⟩ := k v w w' hR; ⟨I', h1, h2.run⟩⟩⟩
theorem oaN (k : ∀ bs : List Nat, bs.length = as.length → ∀ w, St X w0 I0 I w (L ++ layRes as bs) → OS P l Q n df rest (KS X w0 I0 I (L ++ layRes as bs)) (S (layVal as bs)) w) : OA P l Q n df X w0 I0 as rest [] S I L := ⟨k⟩
theorem lay_alloc {z : Value} {T : TypeId} {cs : List Value} (hi : l[i]? = some ⟨some t, .alloc T, ty, p, af, none⟩) (hz : ∀ w, (zeroValue T).run P w = .ok z w) (hc : z.cells.toList = cs) : LayOk P l n X w0 I0 ⟨i, t, fun b => .pointer (some ⟨b, 0, none⟩), fun b => .cel b T cs⟩ :=
  ⟨⟨_, _, _, _, hi, fun σ I w L hS => d_alloc hS hz hc⟩⟩
theorem lays0 : ∀ a ∈ ([] : List LayD), LayOk P l n X w0 I0 a := fun _ h => by cases h
theorem lays {a : LayD} {as : List LayD} (h : LayOk P l n X w0 I0 a) (h2 : ∀ a ∈ as, LayOk P l n X w0 I0 a) : ∀ b ∈ a :: as, LayOk P l n X w0 I0 b := fun b hb => by
  rcases List.mem_cons.1 hb with rfl | hb
  · exact h
  · exact h2 b hb
theorem len1 {bs : List Nat} (h : bs.length = 1) : ∃ a, bs = [a] := List.length_eq_one_iff.1 h
end
end Go.Inl
