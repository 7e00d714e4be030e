/- Operations that turn memory, calls, returns. Conditions: none. -/
import Derived.Test.YthningkgpanaoaaCore4
namespace Go.Inl
open Go Go.RowKit

/-- What an operation does that may turn the world: it yields some v in some world, and R holds of them. -/
structure Does (P : Program) (ρ : Operand → Value) (op : Op) (ty : TypeId) (w : World) (R : Value → World → Prop) : Prop where
  run : ∀ (d : Option Tmp) (p : String) (af : Array Edge) (g : Option (Nat × Bool)) (a : Act) (next : Act → World → Prop) (Q : Exit → Act → World → Prop), a.eval = ρ →
    (∀ v w', R v w' → next (a.put d v) w') → (⟨d, op, ty, p, af, g⟩ : Oper).upon P a next Q ((execOp ρ ⟨d, op, ty, p, af, g⟩).run P w)

/-- A function's contract: it returns, and R holds of what it returns. -/
structure Ctr (P : Program) (f : FuncId) (l : List Value) (w : World) (R : Value → World → Prop) : Prop where
  calls : Calls P f l.toArray w fun e w' => ∃ v, e = .returned v ∧ R v w'
theorem Ctr.mono {P : Program} {f : FuncId} {l : List Value} {w : World} {R R' : Value → World → Prop} (h : Ctr P f l w R) (hr : ∀ v w', R v w' → R' v w') : Ctr P f l w R' :=
  ⟨Calls.mono h.calls fun _ _ ⟨v, he, h⟩ => ⟨v, he, hr v _ h⟩⟩

section
variable {P : Program} {n : Nat} {σ : Nat → Value} {w : World} {ops : Array Oper} {Q : Exit → Act → World → Prop} {rest : List Oper} {d : Option Tmp} {op : Op} {ty : TypeId} {p : String} {af : Array Edge}
  {R : Value → World → Prop}

theorem Does.mono {ρ : Operand → Value} {R' : Value → World → Prop} (h : Does P ρ op ty w R) (hr : ∀ v w', R v w' → R' v w') : Does P ρ op ty w R' :=
  ⟨fun d p af g a next Q ha hn => h.run d p af g a next Q ha fun v w' hR => hn v w' (hr v w' hR)⟩

theorem wl_e (h : Does P (ev n σ) op ty w R) (k : ∀ v w', R v w' → wpList P ops Q rest (act n (updO σ d v)) w') : wpList P ops Q (⟨d, op, ty, p, af, none⟩ :: rest) (act n σ) w :=
  wpList_plain rfl fun K hK => by
    unfold Oper.wp
    rw [act_evals]
    exact h.run d p af none (act n σ) K Q (act_evals n σ) fun v w' hR => by rw [act_put]; exact hK _ _ (k v w' hR)
theorem wl_et {j t : Nat} {g : Bool} (hj : (ops[j]?).bind (·.dst) = some t) (hv : ev n σ (.tmp t) = .bool g) (h : Does P (ev n σ) op ty w R) (k : ∀ v w', R v w' → wpList P ops Q rest (act n (updO σ d v)) w') :
    wpList P ops Q (⟨d, op, ty, p, af, some (j, g)⟩ :: rest) (act n σ) w :=
  wpList_step fun K hK => by
    rw [if_pos (by simp [Region.wanted, yielded_act hj hv])]
    unfold Oper.wp
    rw [act_evals]
    exact h.run d p af _ (act n σ) K Q (act_evals n σ) fun v w' hR => by rw [act_put]; exact hK _ _ (k v w' hR)
/-- The guard is not decided: either way what is known must be enough for what follows. -/
theorem wl_eg {j t : Nat} {g g' : Bool} (hj : (ops[j]?).bind (·.dst) = some t) (hv : ev n σ (.tmp t) = .bool g') (h : g' = g → Does P (ev n σ) op ty w R)
    (kt : g' = g → ∀ v w', R v w' → wpList P ops Q rest (act n (updO σ d v)) w') (kf : g' = !g → wpList P ops Q rest (act n (updO σ d undef)) w) :
    wpList P ops Q (⟨d, op, ty, p, af, some (j, g)⟩ :: rest) (act n σ) w := by
  by_cases e : g' = g
  · subst e; exact wl_et hj hv (h rfl) (kt rfl)
  · have e' : g' = !g := by cases g <;> cases g' <;> simp_all
    exact wl_gf hj hv e' (kf e')

variable {l : List Oper}
theorem qq {X : List Nat} {w0 : World} {I0 I : Imm} {L : List Res} {v : Value} (hS : St X w0 I0 I w L) (h : Gives P (ev n σ) (KS X w0 I0 I L) op ty v) (k : OL P l Q n rest (updO σ d v) w) :
    OL P l Q n (⟨d, op, ty, p, af, none⟩ :: rest) σ w := ⟨wl_q (S := KS X w0 I0 I L) hS h k.run⟩
/-- What only computes, whatever the world. -/
theorem qp {v : Value} (h : Gives P (ev n σ) (fun _ => True) op ty v) (k : OL P l Q n rest (updO σ d v) w) : OL P l Q n (⟨d, op, ty, p, af, none⟩ :: rest) σ w := ⟨wl_q (S := fun _ => True) trivial h k.run⟩
theorem qe (h : Does P (ev n σ) op ty w R) (k : ∀ v w', R v w' → OL P l Q n rest (updO σ d v) w') : OL P l Q n (⟨d, op, ty, p, af, none⟩ :: rest) σ w := ⟨wl_e h fun v w' hR => (k v w' hR).run⟩

theorem does_value {v : Value} {w' : World} (h : (execOp (ev n σ) ⟨none, op, ty, "", #[], none⟩).run P w = .ok (.value v) w') (hR : R v w') : Does P (ev n σ) op ty w R := by
  refine ⟨fun d p af g a next Q _ hn => ?_⟩
  rw [execOp_any, h]
  exact hn v w' hR
theorem does_skip {w' : World} (h : (execOp (ev n σ) ⟨none, op, ty, "", #[], none⟩).run P w = .ok .skip w') (hR : R undef w') : Does P (ev n σ) op ty w R := by
  refine ⟨fun d p af g a next Q _ hn => ?_⟩
  rw [execOp_any, h]
  exact hn undef w' hR
/-- What only computes, taken so. -/
theorem does_gives {S : World → Prop} {v : Value} (hS : S w) (h : Gives P (ev n σ) S op ty v) (hR : R v w) : Does P (ev n σ) op ty w R := does_value (h w hS) hR

variable {X : List Nat} {w0 : World} {I0 I : Imm} {L : List Res}

theorem d_alloc {z : Value} {T : TypeId} {cs : List Value} (hS : St X w0 I0 I w L) (hz : ∀ w, (zeroValue T).run P w = .ok z w) (hc : z.cells.toList = cs) :
    Does P (ev n σ) (.alloc T) ty w fun v w' => ∃ b, v = .pointer (some ⟨b, 0, none⟩) ∧ St X w0 I0 I w' (.cel b T cs :: L) := by
  subst hc
  refine does_value (v := .pointer (some ⟨w.heap.size, 0, none⟩)) (w' := w.alloc (.cells z.cells T)) ?_ ⟨_, rfl, by simpa using hS.alloc T z.cells.toList⟩
  simp [execOp, Instr.alloc, hz, newVar, newRow]
theorem d_box {T : TypeId} {x : Operand} {cs : List Value} (hS : St X w0 I0 I w L) (hc : (ev n σ x).cells.toList = cs) :
    Does P (ev n σ) (.box T x) ty w fun v w' => ∃ b, v = .pointer (some ⟨b, 0, none⟩) ∧ St X w0 I0 I w' (.cel b T cs :: L) := by
  subst hc
  refine does_value (v := .pointer (some ⟨w.heap.size, 0, none⟩)) (w' := w.alloc (.cells (ev n σ x).cells T)) ?_ ⟨_, rfl, by simpa using hS.alloc T (ev n σ x).cells.toList⟩
  simp [execOp, Instr.box, newVar, newRow]

/-- Cells put over others. -/
def putL : List Value → Nat → List Value → List Value
  | cs, _, [] => cs
  | [], _, _ => []
  | _ :: cs, 0, v :: vs => v :: putL cs 0 vs
  | c :: cs, o + 1, vs => c :: putL cs o vs
theorem putL_eq : ∀ (cs : List Value) (o : Nat) (vs : List Value), o + vs.length ≤ cs.length → putL cs o vs = cs.take o ++ vs ++ cs.drop (o + vs.length)
  | cs, o, [], _ => by cases cs <;> simp [putL]
  | [], o, v :: vs, h => by simp at h
  | c :: cs, 0, v :: vs, h => by simp [putL, putL_eq cs 0 vs (by simpa using h)]
  | c :: cs, o + 1, v :: vs, h => by
    have := putL_eq cs o (v :: vs) (by simp at h ⊢; omega)
    simp only [putL, this]
    simp [show o + 1 + (vs.length + 1) = (o + (vs.length + 1)) + 1 by omega]

theorem St.put {k b o : Nat} {T : TypeId} {cs vs : List Value} (h : St X w0 I0 I w L) (hL : L[k]? = some (.cel b T cs)) :
    St X w0 I0 I (w.setRow b (putL cs o vs).toArray) (L.set k (.cel b T (putL cs o vs))) := by
  have h1 : w.heap[b]? = some (.cells cs.toArray T (0, 0)) := h.hold _ (List.mem_of_getElem? hL)
  refine h.change hL rfl rfl rfl (by simp) (fun c _ hc => setRow_other w b c _ (fun e => hc (by simp [Res.foot, e]))) (fun c hc => .inl hc) (by simp [Res.foot]) ?_
  exact setRow_heap w b _ _ T (0, 0) h1

theorem d_store (k : Nat) {T t : TypeId} {x y : Operand} {b o m : Nat} {cs cs' : List Value} (hS : St X w0 I0 I w L) (hm : ∀ w, (sizeOf t).run P w = .ok m w) (hL : L[k]? = some (.cel b T cs))
    (hx : ev n σ x = .pointer (some ⟨b, o, none⟩)) {v : Value} (hy : ev n σ y = v) {vs : List Value} (hv : v.cells.toList = vs) (hlen : vs.length = m) (h1 : vs.all (·.oneCell') = true) (hl : o + m ≤ cs.length)
    (hc : putL cs o vs = cs') : Does P (ev n σ) (.store t x y) ty w fun u w' => u = undef ∧ St X w0 I0 I w' (L.set k (.cel b T cs')) := by
  subst hc hlen
  have hh : w.heap[b]? = some (.cells cs.toArray T (0, 0)) := hS.hold _ (List.mem_of_getElem? hL)
  have hst := run_storeCells_at P b o T vs 0 cs.toArray w hh (by simpa using hl) (by simpa using h1)
  refine does_skip (w' := w.setRow b (putL cs o vs).toArray) ?_ ⟨rfl, hS.put hL⟩
  have hsz : v.cells.size = vs.length := by rw [← hv]; simp
  simp only [execOp, Instr.storeAt, hx, hy, Instr.sureAddr, storeVar, Sem.run_bind, Sem.run_pure, hm, Result.andThen_ok, hsz, ne_eq, not_true_eq_false, if_false, hv, hst, putL_eq cs o vs hl]
  simp

/-- A new slice out of its elements. -/
theorem d_buildSlice {t e : TypeId} {len sz : Nat} {l : List (Nat × Operand)} {z : Value} {cs : List Value} (hS : St X w0 I0 I w L) (hT : P.underlying t = some (.slice e)) (hs : ∀ w, (sizeOf e).run P w = .ok sz w)
    (hz : ∀ w, (zeroValue e).run P w = .ok z w) (hsmall : Nat.ble (len * sz) 16777216 = true) (hpos : Nat.beq (len * sz) 0 = false)
    (hf : Instr.fill (fun i => some (i * sz, sz)) ((Array.range (len * sz)).map (z.cells[· % z.cells.size]!)) (l.map fun p => (p.1, ev n σ p.2)) = some cs.toArray) :
    Does P (ev n σ) (.buildSlice t len l.toArray) ty w fun v w' => ∃ b, v = .slice (some ⟨b, 0, none⟩) len len ∧ St X w0 I0 I w' (.cel b e cs :: L) := by
  have h1 : ¬ (16777216 < len * sz) := by have := Nat.le_of_ble_eq_true hsmall; omega
  have h2 : ¬ (len * sz = 0) := fun e => by simp [e] at hpos
  refine does_value (v := .slice (some ⟨w.heap.size, 0, none⟩) len len) (w' := w.alloc (.cells cs.toArray e)) ?_ ⟨_, rfl, hS.alloc e cs⟩
  simp only [execOp, Instr.buildSlice, Sem.run_bind, run_underlying hT, hs, Result.andThen_ok, Nat.reducePow, gt_iff_lt, h1, if_false, h2, hz, Sem.run_pure]
  simp [hf, newRow]
theorem d_buildSlice0 {t e : TypeId} {sz : Nat} (hS : St X w0 I0 I w L) (hT : P.underlying t = some (.slice e)) (hs : ∀ w, (sizeOf e).run P w = .ok sz w) :
    Does P (ev n σ) (.buildSlice t 0 #[]) ty w fun v w' => St X w0 I0 I w' (.row v e sz 0 [] :: L) ∧ ∃ b, v = .slice (some ⟨b, 0, none⟩) 0 0 := by
  refine does_value (v := .slice (some ⟨w.heap.size, 0, none⟩) 0 0) (w' := w.alloc (.cells #[] e)) ?_ ⟨?_, _, rfl⟩
  · simp [execOp, Instr.buildSlice, run_underlying hT, hs, Instr.fill, newRow, show Array.range 0 = #[] from rfl]
  · have h := hS.alloc e []
    have := h.change (k := 0) (r := .cel w.heap.size e []) (r' := .row (.slice (some ⟨w.heap.size, 0, none⟩) 0 0) e sz 0 []) rfl rfl rfl rfl (Nat.le_refl _) (fun _ _ _ => rfl) (fun b hb => .inl hb) (by simp [Res.foot, Value.ownBlock])
      ⟨by simp, .inr ⟨w.heap.size, 0, #[], rfl, Nat.zero_le _, heap_alloc_new w _, Nat.le_refl _, Nat.zero_le _, by simp, by simp⟩⟩
    simpa using this

/-- An own block of a slice, taken as a slice that is appended to. -/
theorem St.asRow {k b : Nat} {T : TypeId} {sz m : Nat} {cs : List Value} (h : St X w0 I0 I w L) (hL : L[k]? = some (.cel b T cs)) (hl : cs.length = m * sz) (hm : m ≤ maxLen) :
    St X w0 I0 I w (L.set k (.row (.slice (some ⟨b, 0, none⟩) m m) T sz m cs)) := by
  have h1 : w.heap[b]? = some (.cells cs.toArray T (0, 0)) := h.hold _ (List.mem_of_getElem? hL)
  refine h.change hL rfl rfl rfl (Nat.le_refl _) (fun _ _ _ => rfl) (fun c hc => .inl hc) (by simp [Res.foot, Value.ownBlock]) ?_
  exact ⟨hl, .inr ⟨b, m, cs.toArray, rfl, Nat.zero_le _, h1, Nat.le_refl _, hm, by simpa using hl, by rw [← hl]; simp⟩⟩

/-- make([]T, l, c). -/
theorem run_makeS {t e : TypeId} {sz by' : Nat} {z : Value} (hT : P.underlying t = some (.slice e)) {i : TypeInfo} (hi : P.info? e = some i) (hz : i.zero = some z) (hs : i.size = sz) (hb : i.bytes = by') {kl kc : IntKind} {l c : Int} (h0 : 0 ≤ l) (hlc : l ≤ c)
    (hbytes : (by' : Int) * c ≤ 281474976710656) (h63 : c ≤ 9223372036854775807) :
    (Instr.makeSlice t (.int kl l) (.int kc c)).run P w = .ok (.slice (some ⟨w.heap.size, 0, none⟩) l.toNat c.toNat) (w.alloc (.cells (madeCells z.cells (c.toNat * sz)) e)) := by
  subst hs hb
  exact run_make w t e i z hT hi hz kl kc l c h0 hlc hbytes h63
theorem d_make {t e : TypeId} {sz by' : Nat} {z : Value} {x y : Operand} {kl kc : IntKind} {l c : Int} (hS : St X w0 I0 I w L) (hT : P.underlying t = some (.slice e)) {i : TypeInfo} (hi : P.info? e = some i) (hz : i.zero = some z) (hs : i.size = sz)
    (hb : i.bytes = by') (hx : ev n σ x = .int kl l) (hy : ev n σ y = .int kc c) (h0 : 0 ≤ l) (hlc : l ≤ c) (hbytes : (by' : Int) * c ≤ 281474976710656) (h63 : c ≤ 9223372036854775807) :
    Does P (ev n σ) (.makeSlice t x y) ty w fun v w' => ∃ b, v = .slice (some ⟨b, 0, none⟩) l.toNat c.toNat ∧ St X w0 I0 I w' (.cel b e (madeCells z.cells (c.toNat * sz)).toList :: L) := by
  refine does_value (v := .slice (some ⟨w.heap.size, 0, none⟩) l.toNat c.toNat) (w' := w.alloc (.cells (madeCells z.cells (c.toNat * sz)) e)) ?_ ⟨_, rfl, by simpa using hS.alloc e (madeCells z.cells (c.toNat * sz)).toList⟩
  simp [execOp, hx, hy, run_makeS hT hi hz hs hb h0 hlc hbytes h63]
/-- make([]T, 0, c): a slice to be appended to. -/
theorem d_make0 {t e : TypeId} {sz by' : Nat} {z : Value} {x y : Operand} {kl kc : IntKind} {c : Int} (hS : St X w0 I0 I w L) (hT : P.underlying t = some (.slice e)) {i : TypeInfo} (hi : P.info? e = some i) (hz : i.zero = some z) (hs : i.size = sz)
    (hb : i.bytes = by') (hx : ev n σ x = .int kl 0) (hy : ev n σ y = .int kc c) (hlc : 0 ≤ c) (hbytes : (by' : Int) * c ≤ 281474976710656) (h63 : c ≤ 9223372036854775807) :
    Does P (ev n σ) (.makeSlice t x y) ty w fun v w' => St X w0 I0 I w' (.row v e sz 0 [] :: L) ∧ v ≠ .slice none 0 0 := by
  refine does_value (v := .slice (some ⟨w.heap.size, 0, none⟩) 0 c.toNat) (w' := w.alloc (.cells (madeCells z.cells (c.toNat * sz)) e)) ?_ ⟨?_, by simp⟩
  · simp [execOp, hx, hy, run_makeS hT hi hz hs hb (Int.le_refl 0) hlc hbytes h63]
  · have h : St X w0 I0 I (w.alloc (.cells (madeCells z.cells (c.toNat * sz)) e)) (.cel w.heap.size e (madeCells z.cells (c.toNat * sz)).toList :: L) := by simpa using hS.alloc e (madeCells z.cells (c.toNat * sz)).toList
    have := h.change (k := 0) (r := .cel w.heap.size e _) (r' := .row (.slice (some ⟨w.heap.size, 0, none⟩) 0 c.toNat) e sz 0 []) rfl rfl rfl rfl (Nat.le_refl _) (fun _ _ _ => rfl) (fun b hb => .inl hb) (by simp [Res.foot, Value.ownBlock])
      (World.ownsRow_made w _ c.toNat (Nat.zero_le _) (by simp only [maxLen]; omega) (size_madeCells _ _))
    simpa using this
/-- An empty slice that is nil, as one that is appended to. -/
theorem St.nilRow (h : St X w0 I0 I w L) (E : TypeId) (sz : Nat) : St X w0 I0 I w (.row (.slice none 0 0) E sz 0 [] :: L) :=
  ⟨h.os, h.tape, h.output, h.size, h.block, h.imm, h.old, h.ext, fun r hr => by
      cases List.mem_cons.1 hr with
      | inl e => subst e; exact World.ownsRow_nil w 0 E sz
      | inr hr => exact h.hold r hr,
    fun r hr b hb => by
      cases List.mem_cons.1 hr with
      | inl e => subst e; simp [Res.foot, Value.ownBlock] at hb
      | inr hr => exact h.new r hr b hb,
    by simpa [Res.foot, Value.ownBlock] using h.nodup⟩

/-- append(s, x...), s the call's own. -/
theorem d_append (k : Nat) {t e : TypeId} {sz by' : Nat} {z : Value} {x y : Operand} {aT : Array TypeId} {u : Value} {m m' c : Nat} {xs news : List Value} {ad : Addr} (hS : St X w0 I0 I w L) (ho : aT = #[t, t]) (hT : P.underlying t = some (.slice e))
    {i : TypeInfo} (hi : P.info? e = some i) (hz : i.zero = some z) (hs : i.size = sz) (hb : i.bytes = by') (hzs : z.cells.size = sz) (h0 : Nat.blt 0 sz = true) (hL : L[k]? = some (.row u e sz m xs)) (hx : ev n σ x = u)
    (hy : ev n σ y = .slice (some ad) m' c) (hl : news.length = m' * sz) (hc : ∀ j v, news[j]? = some v → w.cell? (ad.add j) = some v) (h1 : news.all (·.oneCell') = true)
    (h63 : m + m' ≤ 9223372036854775807) (hbytes : (m + m') * by' ≤ 140737488355328) :
    Does P (ev n σ) (.call { callee := .builtin .append, args := #[x, y], argTypes := aT }) ty w fun v w' => St X w0 I0 I w' (L.set k (.row v e sz (m + m') (xs ++ news))) ∧ (v = .slice none 0 0 ↔ u = .slice none 0 0 ∧ m' = 0) := by
  subst ho
  have hown : w.ownsRow 0 e sz u m xs := hS.hold _ (List.mem_of_getElem? hL)
  obtain ⟨v', w', hr, h2, h3, h4⟩ := run_append_own (P := P) w 0 t ty e i z sz by' hT hi hz hs hb hzs (by simpa using h0) u m xs hown ad m' c news hl hc (by simpa using h1) (by simpa [maxLen] using h63) hbytes (Nat.zero_le _)
  refine does_value (v := v') (w' := w') ?_ ⟨?_, h4⟩
  · simp only [execOp, resolve, invoke, builtin, List.map_toArray, List.map_cons, List.map_nil, hx, hy, Sem.run_bind, Sem.run_pure, Result.andThen_ok, hr]
  · have hlt : ∀ b, v'.ownBlock = some b → b ∈ (Res.row u e sz m xs).foot ∨ w.heap.size ≤ b := by
      intro b hb'
      by_cases hbl : w.heap.size ≤ b
      · exact .inr hbl
      · refine .inl ?_
        rcases hown.2 with ⟨rfl, rfl⟩ | ⟨g, cap, cur, rfl, hbg, hg, hnc, hcm, hcs, htake⟩
        · obtain ⟨v2, w2, hr2, h22, _, _⟩ := run_append_own (P := P) w w.heap.size t ty e i z sz by' hT hi hz hs hb hzs (by simpa using h0) (.slice none 0 0) 0 xs ⟨hown.1, .inl ⟨rfl, rfl⟩⟩ ad m' c news hl hc (by simpa using h1)
            (by simpa [maxLen] using h63) hbytes (Nat.le_refl _)
          rw [hr] at hr2
          simp only [Result.ok.injEq] at hr2
          obtain ⟨rfl, rfl⟩ := hr2
          exact absurd (World.ownsRow.lt h22 b hb').1 hbl
        · subst hs
          by_cases hroom : m + m' ≤ cap
          · have hr2 := run_append_room (P := P) w t ty e i hT hi g m cap cur hg ad m' c news hl hc (by simpa using h1) hroom (by rw [hl, hcs, ← Nat.add_mul]; exact Nat.mul_le_mul_right _ hroom)
            rw [hr] at hr2
            simp only [Result.ok.injEq] at hr2
            obtain ⟨rfl, rfl⟩ := hr2
            simpa [Res.foot, Value.ownBlock, eq_comm] using hb'
          · have hr2 := run_append_grow (P := P) w t ty e i z hT hi hz ⟨g, 0, none⟩ m cap xs hown.1 (World.ownsRow.cells hown (g := g) rfl) ad m' c news hl hc (by omega) (by omega) (growslice_fits (by omega) (by rw [hb]; exact hbytes))
            rw [hr] at hr2
            simp only [Result.ok.injEq] at hr2
            obtain ⟨rfl, rfl⟩ := hr2
            simp [Value.ownBlock] at hb'
            omega
    refine hS.change hL h3.os h3.tape h3.output h3.size (fun b hb' hf => h3.block b hb' (fun e => hf (by simp [Res.foot, ← e]))) (fun b hb' => hlt b (by simpa [Res.foot] using hb')) ?_ h2
    cases hv : v'.ownBlock <;> simp [Res.foot, hv]

theorem append_shape {v : Value} {E : TypeId} {sz m k : Nat} {xs : List Value} {L : List Res} (hk : k < L.length) (h : St X w0 I0 I w (L.set k (.row v E sz m xs))) : ∃ ad cap, v = .slice ad m cap := by
  obtain ⟨_, h1 | ⟨g, cap, h1, _⟩⟩ := row_shape (k := k) (u := v) (E := E) (sz := sz) (m := m) (xs := xs) h (by simp [hk])
  · obtain ⟨rfl, rfl⟩ := h1; exact ⟨none, 0, rfl⟩
  · exact ⟨_, cap, h1⟩
/-- append(s, x...), x an own block. -/
theorem d_appendO (k j : Nat) {t e T : TypeId} {sz by' : Nat} {z : Value} {x y : Operand} {aT : Array TypeId} {u : Value} {m m' c b : Nat} {xs news : List Value} (hS : St X w0 I0 I w L) (ho : aT = #[t, t]) (hT : P.underlying t = some (.slice e))
    {i : TypeInfo} (hi : P.info? e = some i) (hz : i.zero = some z) (hs : i.size = sz) (hb : i.bytes = by') (hzs : z.cells.size = sz) (h0 : Nat.blt 0 sz = true) (hL : L[k]? = some (.row u e sz m xs)) (hJ : L[j]? = some (.cel b T news)) (hx : ev n σ x = u)
    (hy : ev n σ y = .slice (some ⟨b, 0, none⟩) m' c) (hl : news.length = m' * sz) (h1 : news.all (·.oneCell') = true) (h63 : m + m' ≤ 9223372036854775807) (hbytes : (m + m') * by' ≤ 140737488355328) :
    Does P (ev n σ) (.call { callee := .builtin .append, args := #[x, y], argTypes := aT }) ty w fun v w' => St X w0 I0 I w' (L.set k (.row v e sz (m + m') (xs ++ news))) ∧ (v = .slice none 0 0 ↔ u = .slice none 0 0 ∧ m' = 0) :=
  d_append k hS ho hT hi hz hs hb hzs h0 hL hx hy hl (fun j v hv => by rw [addr_add, Nat.zero_add]; exact own_cell hS hJ hv) h1 h63 hbytes

/-! ### Calls -/
theorem ml0 : List.map (ev n σ) [] = [] := rfl
theorem ml {x : Operand} {v : Value} {l : List Operand} {vs : List Value} (h : ev n σ x = v) (hs : l.map (ev n σ) = vs) : (x :: l).map (ev n σ) = v :: vs := by simp [h, hs]
theorem d_call {f : FuncId} {l : List Operand} {aT : Array TypeId} {vs : List Value} (hc : ∀ args w, (callFunc f args).run P w = .ok (.enter f args) w) (ha : l.map (ev n σ) = vs) (hF : Ctr P f vs w R) :
    Does P (ev n σ) (.call { callee := .value (.func f), args := l.toArray, argTypes := aT }) ty w R := by
  refine ⟨fun d p af g a next Q _ hn => ?_⟩
  rw [execOp_any]
  have he : (execOp (ev n σ) ⟨none, .call { callee := .value (.func f), args := l.toArray, argTypes := aT }, ty, "", #[], none⟩).run P w = .ok (.enter f vs.toArray) w := by
    subst ha
    simp [execOp, resolve, Deferred.ofValue, ev, invoke, hc]
  rw [he]
  refine Calls.mono hF.calls ?_
  rintro e w' ⟨v, rfl, hR⟩
  exact hn v w' hR
/-- A call of a function's value. -/
theorem d_callv {f : FuncId} {x : Operand} {l : List Operand} {aT : Array TypeId} {caps vs : List Value} (hc : ∀ args w, (callFunc f args).run P w = .ok (.enter f args) w) (hx : ev n σ x = .func (.func f) #[] caps.toArray)
    (ha : l.map (ev n σ) ++ caps = vs) (hF : Ctr P f vs w R) : Does P (ev n σ) (.call { callee := .value x, args := l.toArray, argTypes := aT }) ty w R := by
  refine ⟨fun d p af g a next Q _ hn => ?_⟩
  rw [execOp_any]
  have he : (execOp (ev n σ) ⟨none, .call { callee := .value x, args := l.toArray, argTypes := aT }, ty, "", #[], none⟩).run P w = .ok (.enter f vs.toArray) w := by
    subst ha
    simp [execOp, resolve, Deferred.ofValue, hx, invoke, hc]
  rw [he]
  refine Calls.mono hF.calls ?_
  rintro e w' ⟨v, rfl, hR⟩
  exact hn v w' hR

/-! ### Returns -/
/-- What a result variable holds. -/
def ResV (P : Program) (n : Nat) (σ : Nat → Value) (w : World) : ResultVar → Value → Prop
  | .tmp t, v => ev n σ (.tmp t) = v
  | .cell t T, v => ∃ ad, ev n σ (.tmp t) = .pointer (some ad) ∧ (loadVar T ad).run P w = .ok v w
theorem rv_tmp {t : Tmp} {v : Value} (h : ev n σ (.tmp t) = v) : ResV P n σ w (.tmp t) v := h
theorem rv_cel (k : Nat) {t : Tmp} {T T' : TypeId} {b m : Nat} {cs : List Value} (hS : St X w0 I0 I w L) (hm : ∀ w, (sizeOf T).run P w = .ok m w) (ha : ∀ w, (isAgg T).run P w = .ok true w) (hx : ev n σ (.tmp t) = .pointer (some ⟨b, 0, none⟩))
    (hL : L[k]? = some (.cel b T' cs)) (hl : cs.length = m) : ResV P n σ w (.cell t T) (.agg cs.toArray) :=
  ⟨_, hx, run_load_many (hm w) (ha w) hl fun j v hj => by rw [addr_add, Nat.zero_add]; exact own_cell hS hL hj⟩
theorem rv_cel1 (k : Nat) {t : Tmp} {T T' : TypeId} {b : Nat} {v : Value} {cs : List Value} (hS : St X w0 I0 I w L) (ha : ∀ w, (isAgg T).run P w = .ok false w) (hx : ev n σ (.tmp t) = .pointer (some ⟨b, 0, none⟩))
    (hL : L[k]? = some (.cel b T' cs)) (hv : cs[0]? = some v) : ResV P n σ w (.cell t T) v :=
  ⟨_, hx, run_load_one (ha w) (own_cell hS hL hv)⟩

def resOf (tmps : Array Value) : ResultVar → Sem Value
  | .tmp t => pure (tmps.getD t undef)
  | .cell a t => do loadVar t (← asAddr (tmps.getD a undef))
theorem results_eq (fn : Func) (tmps : Array Value) : results fn tmps = (do
  let vs ← fn.results.mapM (resOf tmps)
  pure (if h : vs.size = 1 then vs[0] else .tuple vs)) := by
  rfl
theorem resv_run {rv : ResultVar} {v : Value} (h : ResV P n σ w rv v) : (resOf (act n σ).tmps rv).run P w = .ok v w := by
  cases rv with
  | tmp t =>
    have h' : ev n σ (.tmp t) = v := h
    show Sem.run P (pure ((act n σ).tmps.getD t undef)) w = _
    rw [act_getD]
    subst h'
    rfl
  | cell a T =>
    obtain ⟨ad, h1, h2⟩ := h
    have h1' : (act n σ).tmps.getD a undef = .pointer (some ad) := by rw [act_getD]; exact h1
    simp only [resOf, h1', Sem.run_bind, asAddr, Sem.run_pure, Result.andThen_ok, h2]

theorem ret0 {fn : Func} {R' : Value → World → Prop} (hr : fn.results = #[]) (h : R' (.tuple #[]) w) : bodyPost P fn (fun e w' => ∃ v, e = .returned v ∧ R' v w') .ret (act n σ) w :=
  bodyPost_ret (v := .tuple #[]) (by simp [results, hr]) rfl ⟨_, rfl, h⟩
theorem end0 {fn : Func} {R' : Value → World → Prop} (hr : fn.results = #[]) (h : R' (.tuple #[]) w) : bodyPost P fn (fun e w' => ∃ v, e = .returned v ∧ R' v w') .normal (act n σ) w :=
  bodyPost_end (v := .tuple #[]) (by simp [results, hr]) rfl ⟨_, rfl, h⟩
theorem ret1 {fn : Func} {a : ResultVar} {va : Value} {R' : Value → World → Prop} (hr : fn.results = #[a]) (h1 : ResV P n σ w a va) (h : R' va w) : bodyPost P fn (fun e w' => ∃ v, e = .returned v ∧ R' v w') .ret (act n σ) w :=
  bodyPost_ret (v := va) (by have e1 := resv_run h1; rw [results_eq, hr]; simp [e1]) rfl ⟨_, rfl, h⟩
theorem ret2 {fn : Func} {a b : ResultVar} {va vb : Value} {R' : Value → World → Prop} (hr : fn.results = #[a, b]) (h1 : ResV P n σ w a va) (h2 : ResV P n σ w b vb) (h : R' (.tuple #[va, vb]) w) :
    bodyPost P fn (fun e w' => ∃ v, e = .returned v ∧ R' v w') .ret (act n σ) w :=
  bodyPost_ret (v := .tuple #[va, vb]) (by have e1 := resv_run h1; have e2 := resv_run h2; rw [results_eq, hr]; simp [e1, e2]) rfl ⟨_, rfl, h⟩
theorem ret3 {fn : Func} {a b c : ResultVar} {va vb vc : Value} {R' : Value → World → Prop} (hr : fn.results = #[a, b, c]) (h1 : ResV P n σ w a va) (h2 : ResV P n σ w b vb) (h3 : ResV P n σ w c vc) (h : R' (.tuple #[va, vb, vc]) w) :
    bodyPost P fn (fun e w' => ∃ v, e = .returned v ∧ R' v w') .ret (act n σ) w :=
  bodyPost_ret (v := .tuple #[va, vb, vc]) (by have e1 := resv_run h1; have e2 := resv_run h2; have e3 := resv_run h3; rw [results_eq, hr]; simp [e1, e2, e3]) rfl ⟨_, rfl, h⟩

/-- A function's contract, out of its code. -/
theorem fn {f : FuncId} {fn : Func} {c : Code} {l : List Value} {R' : Value → World → Prop} (hf : P.funcs[f]? = some fn) (hb : fn.body = some c) (hn : fn.ntmps = n) (hl : Nat.ble l.length n = true)
    (h : c.wp P (bodyPost P fn fun e w' => ∃ v, e = .returned v ∧ R' v w') (act n (args l)) w) : Ctr P f l w R' :=
  ⟨calls hf hb n hn (Nat.le_of_ble_eq_true hl) h⟩
end
end Go.Inl
