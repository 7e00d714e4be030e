/- Loads, stores, new memory, calls, returns: each over what is known of memory. Conditions: none. -/
import Derived.Test.YthningkgpanaoaaCore3
import Derived.Great.BuildSlice
namespace Go.Inl
open Go Go.RowKit

/-! ### Data that stands still -/
def atI (I : Imm) (ad : Addr) (vs : List Value) : Prop :=
  ad.spot = none ∧ ∃ c T fz, I ad.block = some (.cells c T fz) ∧ ∀ j v, vs[j]? = some v → c[ad.off + j]? = some v

theorem atI.mono {I J : Imm} {ad : Addr} {vs : List Value} (h : atI I ad vs) (hs : Sub I J) : atI J ad vs := by
  obtain ⟨h0, c, T, fz, h1, h2⟩ := h
  exact ⟨h0, c, T, fz, hs _ _ h1, h2⟩

theorem atI.cell {I : Imm} {ad : Addr} {vs : List Value} {w : World} (h : atI I ad vs) (hs : Sat I w) : ∀ j v, vs[j]? = some v → w.cell? (ad.add j) = some v := by
  obtain ⟨h0, c, T, fz, h1, h2⟩ := h
  intro j v hv
  obtain ⟨b, o, s⟩ := ad
  subst h0
  rw [addr_add]
  simp only [World.cell?, hs _ _ h1]
  exact h2 j v hv

theorem atI.part {I : Imm} {b o : Nat} {vs : List Value} (h : atI I ⟨b, o, none⟩ vs) (c : Nat) (us : List Value) (hu : ∀ j v, us[j]? = some v → vs[c + j]? = some v) : atI I ⟨b, o + c, none⟩ us := by
  obtain ⟨h0, cs, T, fz, h1, h2⟩ := h
  refine ⟨rfl, cs, T, fz, h1, fun j v hv => ?_⟩
  have := h2 (c + j) v (hu j v hv)
  simpa [Nat.add_assoc] using this

/-- A slice whose elements read as xs, each by its cells. -/
def RSl {α : Type} (I : Imm) (sz : Nat) (R : List Value → α → Prop) (v : Value) (xs : List α) : Prop :=
  ((∃ a cap, v = .slice a 0 cap ∧ cap ≤ maxLen ∧ (a = none → cap = 0)) ∧ xs = []) ∨ ∃ b o cap, v = .slice (some ⟨b, o, none⟩) xs.length cap ∧ xs.length ≤ cap ∧ cap ≤ maxLen ∧
    ∀ i x, xs[i]? = some x → ∃ cs, cs.length = sz ∧ atI I ⟨b, o + i * sz, none⟩ cs ∧ R cs x

section
variable {α : Type} {I J : Imm} {sz : Nat} {R R' : List Value → α → Prop} {v : Value} {xs : List α}
theorem RSl.mono (h : RSl I sz R v xs) (hs : Sub I J) (hR : ∀ cs x, R cs x → R' cs x) : RSl J sz R' v xs := by
  rcases h with h | ⟨b, o, cap, h1, h2, h3, h4⟩
  · exact .inl h
  · exact .inr ⟨b, o, cap, h1, h2, h3, fun i x hx => let ⟨cs, c1, c2, c3⟩ := h4 i x hx; ⟨cs, c1, c2.mono hs, hR _ _ c3⟩⟩
theorem RSl.len (h : RSl I sz R v xs) : ∃ ad cap, v = .slice ad xs.length cap ∧ xs.length ≤ maxLen := by
  rcases h with ⟨⟨a, cap, h, _⟩, rfl⟩ | ⟨b, o, cap, h1, h2, h3, _⟩
  · exact ⟨a, cap, h, by simp⟩
  · exact ⟨_, cap, h1, Nat.le_trans h2 h3⟩
theorem RSl.le (h : RSl I sz R v xs) : xs.length ≤ maxLen := by obtain ⟨_, _, _, h⟩ := h.len; exact h
theorem RSl.at (h : RSl I sz R v xs) {i : Nat} {x : α} (hx : xs[i]? = some x) : ∃ cs, cs.length = sz ∧ atI I (elA v i sz 0) cs ∧ R cs x := by
  rcases h with ⟨h, rfl⟩ | ⟨b, o, cap, h1, h2, h3, h4⟩
  · simp at hx
  · obtain ⟨cs, c1, c2, c3⟩ := h4 i x hx
    exact ⟨cs, c1, by subst h1; exact c2, c3⟩
end

theorem elA_spot (v : Value) (k sz c : Nat) : (elA v k sz c).spot = none := by
  unfold elA; split <;> rfl
theorem elA_add (v : Value) (k sz c d : Nat) : (elA v k sz c).add d = elA v k sz (c + d) := by
  unfold elA; split <;> rw [addr_add] <;> simp [Nat.add_assoc]

section
variable {P : Program} {n : Nat} {σ : Nat → Value} {ty t t' : TypeId} {x y ix : Operand} {X : List Nat} {w0 w : World} {I0 I : Imm} {L : List Res}

abbrev KS (X : List Nat) (w0 : World) (I0 I : Imm) (L : List Res) : World → Prop := fun w => St X w0 I0 I w L

theorem run_load_many {w : World} {ad : Addr} {vs : List Value} {m : Nat} (hm : (sizeOf t).run P w = .ok m w) (ha : (isAgg t).run P w = .ok true w) (hl : vs.length = m)
    (hc : ∀ j v, vs[j]? = some v → w.cell? (ad.add j) = some v) : (loadVar t ad).run P w = .ok (.agg vs.toArray) w := by
  subst hl
  simp only [loadVar, Sem.run_bind, ha, hm, Result.andThen_ok, if_true, run_loadCells_list (P := P) w ad vs hc]; rfl
theorem run_load_one {w : World} {ad : Addr} {v : Value} (ha : (isAgg t).run P w = .ok false w) (hc : w.cell? ad = some v) : (loadVar t ad).run P w = .ok v w := by
  simp [loadVar, Sem.run_bind, ha, hc]

theorem g_load {S : World → Prop} {ad : Addr} {v : Value} (hx : ev n σ x = .pointer (some ad)) (h : ∀ w, S w → (loadVar t ad).run P w = .ok v w) : Gives P (ev n σ) S (.load t x) ty v := fun w hw => by
  simp only [execOp, Instr.loadAt, hx, Instr.sureAddr, Sem.run_bind, Sem.run_pure, Result.andThen_ok, h w hw]

theorem own_cell {k b o : Nat} {T : TypeId} {cs : List Value} {v : Value} (h : St X w0 I0 I w L) (hL : L[k]? = some (.cel b T cs)) (hv : cs[o]? = some v) : w.cell? ⟨b, o, none⟩ = some v := by
  have h1 : w.heap[b]? = some (.cells cs.toArray T (0, 0)) := h.hold _ (List.mem_of_getElem? hL)
  simp [World.cell?, h1, hv]

/-- A load out of an own block: one cell; several. -/
theorem g_ldO1 (k : Nat) {b o : Nat} {T : TypeId} {cs : List Value} {v : Value} (ha : ∀ w, (isAgg t).run P w = .ok false w) (hL : L[k]? = some (.cel b T cs)) (hx : ev n σ x = .pointer (some ⟨b, o, none⟩))
    (hv : cs[o]? = some v) : Gives P (ev n σ) (KS X w0 I0 I L) (.load t x) ty v :=
  g_load hx fun w h => run_load_one (ha w) (own_cell h hL hv)
theorem g_ldO (k : Nat) {b o m : Nat} {T : TypeId} {cs vs : List Value} (hm : ∀ w, (sizeOf t).run P w = .ok m w) (ha : ∀ w, (isAgg t).run P w = .ok true w) (hL : L[k]? = some (.cel b T cs))
    (hx : ev n σ x = .pointer (some ⟨b, o, none⟩)) (hv : (cs.drop o).take m = vs) (hl : vs.length = m) : Gives P (ev n σ) (KS X w0 I0 I L) (.load t x) ty (.agg vs.toArray) :=
  g_load hx fun w h => run_load_many (hm w) (ha w) hl fun j v hj => by
    rw [addr_add]
    refine own_cell h hL ?_
    subst hv
    rw [List.getElem?_take] at hj
    split at hj
    · simpa using hj
    · cases hj

/-- A load out of what stands still, at an element's address. -/
theorem g_ldE1 {u : Value} {i sz c : Nat} {vs : List Value} {v : Value} (ha : ∀ w, (isAgg t).run P w = .ok false w) (h : atI I (elA u i sz 0) vs) (hx : ev n σ x = .pointer (some (elA u i sz c)))
    (hv : vs[c]? = some v) : Gives P (ev n σ) (KS X w0 I0 I L) (.load t x) ty v :=
  g_load hx fun w hw => run_load_one (ha w) (by have := h.cell hw.imm c v hv; rwa [elA_add, Nat.zero_add] at this)
theorem g_ldE {u : Value} {i sz c m : Nat} {vs us : List Value} (hm : ∀ w, (sizeOf t).run P w = .ok m w) (ha : ∀ w, (isAgg t).run P w = .ok true w) (h : atI I (elA u i sz 0) vs)
    (hx : ev n σ x = .pointer (some (elA u i sz c))) (hv : (vs.drop c).take m = us) (hl : us.length = m) : Gives P (ev n σ) (KS X w0 I0 I L) (.load t x) ty (.agg us.toArray) :=
  g_load hx fun w hw => run_load_many (hm w) (ha w) hl fun j v hj => by
    rw [elA_add, show elA u i sz (c + j) = (elA u i sz 0).add (c + j) by rw [elA_add, Nat.zero_add]]
    refine h.cell hw.imm (c + j) v ?_
    subst hv
    rw [List.getElem?_take] at hj
    split at hj
    · simpa using hj
    · cases hj
/-- At a known address. -/
theorem g_ldB1 {b o c : Nat} {vs : List Value} {v : Value} (ha : ∀ w, (isAgg t).run P w = .ok false w) (h : atI I ⟨b, o, none⟩ vs) (hx : ev n σ x = .pointer (some ⟨b, o + c, none⟩))
    (hv : vs[c]? = some v) : Gives P (ev n σ) (KS X w0 I0 I L) (.load t x) ty v :=
  g_load hx fun w hw => run_load_one (ha w) (by have := h.cell hw.imm c v hv; rwa [addr_add] at this)
theorem g_ldB {b o c m : Nat} {vs us : List Value} (hm : ∀ w, (sizeOf t).run P w = .ok m w) (ha : ∀ w, (isAgg t).run P w = .ok true w) (h : atI I ⟨b, o, none⟩ vs)
    (hx : ev n σ x = .pointer (some ⟨b, o + c, none⟩)) (hv : (vs.drop c).take m = us) (hl : us.length = m) : Gives P (ev n σ) (KS X w0 I0 I L) (.load t x) ty (.agg us.toArray) :=
  g_load hx fun w hw => run_load_many (hm w) (ha w) hl fun j v hj => by
    rw [addr_add, Nat.add_assoc]
    have := h.cell hw.imm (c + j) v (by
      subst hv
      rw [List.getElem?_take] at hj
      split at hj
      · simpa using hj
      · cases hj)
    rwa [addr_add] at this

/-! ### A slice that the call appends to -/
theorem row_shape {k : Nat} {u : Value} {E : TypeId} {sz m : Nat} {xs : List Value} (h : St X w0 I0 I w L) (hL : L[k]? = some (.row u E sz m xs)) :
    xs.length = m * sz ∧ ((u = .slice none 0 0 ∧ m = 0) ∨ ∃ g cap, u = .slice (some ⟨g, 0, none⟩) m cap ∧ m ≤ cap ∧ cap ≤ maxLen ∧ ∀ j v, xs[j]? = some v → w.cell? ⟨g, j, none⟩ = some v) := by
  have h1 : w.ownsRow 0 E sz u m xs := h.hold _ (List.mem_of_getElem? hL)
  refine ⟨h1.1, ?_⟩
  rcases h1.2 with h2 | ⟨g, cap, cur, h2, _, h3, h4, h5, h6, h7⟩
  · exact .inl h2
  · refine .inr ⟨g, cap, h2, h4, h5, fun j v hv => ?_⟩
    have := World.ownsRow.cells h1 (g := g) (by subst h2; rfl) j v hv
    rwa [addr_add, Nat.zero_add] at this
theorem g_ldR1 (k : Nat) {u : Value} {E : TypeId} {i sz c m : Nat} {xs : List Value} {v : Value} (ha : ∀ w, (isAgg t).run P w = .ok false w) (hL : L[k]? = some (.row u E sz m xs))
    (hx : ev n σ x = .pointer (some (elA u i sz c))) (hv : xs[i * sz + c]? = some v) : Gives P (ev n σ) (KS X w0 I0 I L) (.load t x) ty v :=
  g_load hx fun w h => run_load_one (ha w) (by
    obtain ⟨hl, h1 | ⟨g, cap, rfl, _, _, hc⟩⟩ := row_shape h hL
    · obtain ⟨rfl, rfl⟩ := h1
      have := (List.getElem?_eq_some_iff.1 hv).1
      simp at hl; subst hl; simp at this
    · simpa [elA] using hc _ v hv)
theorem g_ldR (k : Nat) {u : Value} {E : TypeId} {i sz c m q : Nat} {xs vs : List Value} (hm : ∀ w, (sizeOf t).run P w = .ok q w) (ha : ∀ w, (isAgg t).run P w = .ok true w)
    (hL : L[k]? = some (.row u E sz m xs)) (hx : ev n σ x = .pointer (some (elA u i sz c))) (hv : ∀ j v, vs[j]? = some v → xs[i * sz + c + j]? = some v) (hl : vs.length = q) :
    Gives P (ev n σ) (KS X w0 I0 I L) (.load t x) ty (.agg vs.toArray) :=
  g_load hx fun w h => run_load_many (hm w) (ha w) hl fun j v hj => by
    obtain ⟨hl, h1 | ⟨g, cap, rfl, _, _, hc⟩⟩ := row_shape h hL
    · obtain ⟨rfl, rfl⟩ := h1
      have := (List.getElem?_eq_some_iff.1 (hv j v hj)).1
      simp at hl; subst hl; simp at this
    · rw [elA_add]; simpa [elA, Nat.add_assoc] using hc _ v (hv j v hj)
theorem g_lenR (k : Nat) {aT : Array TypeId} {u : Value} {E : TypeId} {sz m : Nat} {xs : List Value} {e : TypeId} (ho : aT = #[t]) (hT : P.underlying t = some (.slice e)) (hL : L[k]? = some (.row u E sz m xs)) (hx : ev n σ x = u) :
    Gives P (ev n σ) (KS X w0 I0 I L) (.call { callee := .builtin .len, args := #[x], argTypes := aT }) ty (.int .i64 m) := fun w h => by
  obtain ⟨_, ⟨h1, h2⟩ | ⟨g, cap, h1, _⟩⟩ := row_shape h hL
  · subst h2; exact g_lenS (S := fun _ => True) ho hT (hx.trans h1) w trivial
  · exact g_lenS (S := fun _ => True) ho hT (hx.trans h1) w trivial
theorem g_ixR (k : Nat) {K : IntKind} {e E : TypeId} {u : Value} {sz m : Nat} {xs : List Value} {i : Int} (hT : P.underlying t = some (.slice e)) (hs : ∀ w, (sizeOf e).run P w = .ok sz w)
    (hL : L[k]? = some (.row u E sz m xs)) (hx : ev n σ x = u) (hi : ev n σ ix = .int K i) (h0 : 0 ≤ i) (h1 : i < m) :
    Gives P (ev n σ) (KS X w0 I0 I L) (.indexAddr t x ix) ty (.pointer (some (elA u i.toNat sz 0))) := fun w h => by
  obtain ⟨_, ⟨h2, h3⟩ | ⟨g, cap, h2, _⟩⟩ := row_shape h hL
  · subst h3; omega
  · have := g_indexAddr (S := fun _ => True) (ty := ty) hT hs (hx.trans h2) hi h0 h1 w trivial
    rw [this]; subst h2; rfl

/-! ### Slices that stand still -/
theorem g_lenI {α : Type} {aT : Array TypeId} {u : Value} {sz : Nat} {R : List Value → α → Prop} {xs : List α} {e : TypeId} {S : World → Prop} (ho : aT = #[t]) (hT : P.underlying t = some (.slice e))
    (hr : RSl I sz R u xs) (hx : ev n σ x = u) : Gives P (ev n σ) S (.call { callee := .builtin .len, args := #[x], argTypes := aT }) ty (.int .i64 xs.length) := by
  obtain ⟨ad, cap, h1, _⟩ := hr.len
  exact g_lenS ho hT (hx.trans h1)
theorem g_ixI {α : Type} {K : IntKind} {e : TypeId} {u : Value} {sz : Nat} {R : List Value → α → Prop} {xs : List α} {i : Int} {S : World → Prop} (hT : P.underlying t = some (.slice e)) (hs : ∀ w, (sizeOf e).run P w = .ok sz w)
    (hr : RSl I sz R u xs) (hx : ev n σ x = u) (hi : ev n σ ix = .int K i) (h0 : 0 ≤ i) (h1 : i < xs.length) : Gives P (ev n σ) S (.indexAddr t x ix) ty (.pointer (some (elA u i.toNat sz 0))) := by
  rcases hr with ⟨_, rfl⟩ | ⟨b, o, cap, h2, _⟩
  · simp at h1; omega
  · have := g_indexAddr (P := P) (S := S) (ty := ty) hT hs (hx.trans h2) hi h0 (by simpa using h1)
    subst h2; exact this
/-- The address of a field of an element. -/
theorem g_fieldE {fs : Array Field} {i k sz c s c' : Nat} {u : Value} {f : Field} {S : World → Prop} (hT : P.underlying t = some (.struct fs)) (hf : fs[i]? = some f) (hs : ∀ w, (sizeOf f.type).run P w = .ok s w) (h0 : Nat.beq s 0 = false)
    (hx : ev n σ x = .pointer (some (elA u k sz c))) (ho : c + f.offset = c') : Gives P (ev n σ) S (.fieldAddr t x i) ty (.pointer (some (elA u k sz c'))) := fun w _ => by
  have h0' : s ≠ 0 := fun e => by subst e; simp at h0
  subst ho
  simp only [execOp, Instr.fieldAt, Sem.run_bind, run_underlying hT, Result.andThen_ok, hf, hx, Instr.sureAddr, Sem.run_pure, fieldPlace, hs, h0', if_false, elA_add]

/-- A slice of a slice. -/
def resl (v : Value) (l h m sz : Nat) : Value :=
  match v with
  | .slice a _ _ => .slice (if m = l then a else a.map (·.add (l * sz))) (h - l) (m - l)
  | v => v
theorem RSl.resl {α : Type} {I : Imm} {sz : Nat} {R : List Value → α → Prop} {u : Value} {xs : List α} (hr : RSl I sz R u xs) (l h : Nat) (hlh : l ≤ h) (hh : h ≤ xs.length) :
    RSl I sz R (Inl.resl u l h h sz) ((xs.take h).drop l) := by
  rcases hr with ⟨⟨a, cap, rfl, _⟩, rfl⟩ | ⟨b, o, cap, h1, h2, h3, h4⟩
  · simp at hh; subst hh; simp at hlh; subst hlh
    exact .inl ⟨⟨a, 0, by simp [Inl.resl], by simp, fun _ => rfl⟩, by simp⟩
  · subst h1
    have hlen : ((xs.take h).drop l).length = h - l := by simp [Nat.min_eq_left hh]
    by_cases e : h = l
    · subst e
      refine .inr ⟨b, o, 0, by simp [Inl.resl], by simp, by simp, ?_⟩
      intro i x hx
      have := (List.getElem?_eq_some_iff.1 hx).1
      omega
    · refine .inr ⟨b, o + l * sz, h - l, by simp [Inl.resl, e, addr_add, Nat.min_eq_left hh], by omega, by omega, ?_⟩
      intro i x hx
      rw [List.getElem?_drop, List.getElem?_take] at hx
      split at hx
      · obtain ⟨cs, c1, c2, c3⟩ := h4 _ _ hx
        exact ⟨cs, c1, by rw [show o + l * sz + i * sz = o + (l + i) * sz by rw [Nat.add_mul]; omega]; exact c2, c3⟩
      · cases hx
theorem g_slice3 {e : TypeId} {S : World → Prop} {ad : Option Addr} {len cap sz : Nat} {kl kh km : IntKind} {l h m : Int} {lo hi mx : Operand} (hT : P.underlying t = some (.slice e)) (hs : ∀ w, (sizeOf e).run P w = .ok sz w)
    (hx : ev n σ x = .slice ad len cap) (hl : ev n σ lo = .int kl l) (hh : ev n σ hi = .int kh h) (hm : ev n σ mx = .int km m) (h0 : 0 ≤ l) (h1 : l ≤ h) (h2 : h ≤ m) (h3 : m ≤ cap) :
    Gives P (ev n σ) S (.slice t x (some lo) (some hi) (some mx)) ty (resl (.slice ad len cap) l.toNat h.toNat m.toNat sz) := fun w _ => by
  have e1 : (Instr.sliceBound (.int km m) cap .slice3Acap).run P w = .ok m.toNat w := run_sliceBound w km m cap _ (by omega) h3
  have e2 : (Instr.sliceBound (.int kh h) m.toNat .slice3B).run P w = .ok h.toNat w := run_sliceBound w kh h _ _ (by omega) (by omega)
  have e3 : (Instr.sliceBound (.int kl l) h.toNat .slice3C).run P w = .ok l.toNat w := run_sliceBound w kl l _ _ (by omega) (by omega)
  simp [execOp, Instr.sliceAt, Sem.run_bind, run_underlying hT, hx, Instr.slice, Instr.sliceBounds, hl, hh, hm, e1, e2, e3, hs, resl]
theorem g_slice2 {e : TypeId} {S : World → Prop} {ad : Option Addr} {len cap sz : Nat} {kl kh : IntKind} {l h : Int} {lo hi : Operand} (hT : P.underlying t = some (.slice e)) (hs : ∀ w, (sizeOf e).run P w = .ok sz w)
    (hx : ev n σ x = .slice ad len cap) (hl : ev n σ lo = .int kl l) (hh : ev n σ hi = .int kh h) (h0 : 0 ≤ l) (h1 : l ≤ h) (h2 : h ≤ cap) :
    Gives P (ev n σ) S (.slice t x (some lo) (some hi) none) ty (resl (.slice ad len cap) l.toNat h.toNat cap sz) := fun w _ => by
  have e2 : (Instr.sliceBound (.int kh h) cap .sliceAcap).run P w = .ok h.toNat w := run_sliceBound w kh h _ _ (by omega) (by omega)
  have e3 : (Instr.sliceBound (.int kl l) h.toNat .sliceB).run P w = .ok l.toNat w := run_sliceBound w kl l _ _ (by omega) (by omega)
  simp [execOp, Instr.sliceAt, Sem.run_bind, run_underlying hT, hx, Instr.slice, Instr.sliceBounds, hl, hh, e2, e3, hs, resl]
theorem g_sliceL {e : TypeId} {S : World → Prop} {ad : Option Addr} {len cap sz : Nat} {kl : IntKind} {l : Int} {lo : Operand} (hT : P.underlying t = some (.slice e)) (hs : ∀ w, (sizeOf e).run P w = .ok sz w)
    (hx : ev n σ x = .slice ad len cap) (hl : ev n σ lo = .int kl l) (h0 : 0 ≤ l) (h1 : l ≤ len) :
    Gives P (ev n σ) S (.slice t x (some lo) none none) ty (resl (.slice ad len cap) l.toNat len cap sz) := fun w _ => by
  have e3 : (Instr.sliceBound (.int kl l) len .sliceB).run P w = .ok l.toNat w := run_sliceBound w kl l _ _ (by omega) (by omega)
  simp [execOp, Instr.sliceAt, Sem.run_bind, run_underlying hT, hx, Instr.slice, Instr.sliceBounds, hl, e3, hs, resl]
theorem g_sliceH {e : TypeId} {S : World → Prop} {ad : Option Addr} {len cap sz : Nat} {kh : IntKind} {h : Int} {hi : Operand} (hT : P.underlying t = some (.slice e)) (hs : ∀ w, (sizeOf e).run P w = .ok sz w)
    (hx : ev n σ x = .slice ad len cap) (hh : ev n σ hi = .int kh h) (h0 : 0 ≤ h) (h2 : h ≤ cap) :
    Gives P (ev n σ) S (.slice t x none (some hi) none) ty (resl (.slice ad len cap) 0 h.toNat cap sz) := fun w _ => by
  have e2 : (Instr.sliceBound (.int kh h) cap .sliceAcap).run P w = .ok h.toNat w := run_sliceBound w kh h _ _ (by omega) (by omega)
  simp [execOp, Instr.sliceAt, Sem.run_bind, run_underlying hT, hx, Instr.slice, Instr.sliceBounds, hh, e2, hs, resl]

/-- A struct's value built out of parts. -/
theorem g_build {S : World → Prop} {l : List (Nat × Operand)} {z : Value} {fs : Array Field} {pl : List (Nat × Nat)} {cs : List Value} (hz : ∀ w, (zeroValue t).run P w = .ok z w) (hT : P.underlying t = some (.struct fs))
    (hp : ∀ w, (fs.mapM fun f => do pure (f.offset, ← sizeOf f.type) : Sem (Array (Nat × Nat))).run P w = .ok pl.toArray w)
    (hf : Instr.fill (pl[·]?) z.cells (l.map fun p => (p.1, ev n σ p.2)) = some cs.toArray) : Gives P (ev n σ) S (.build t l.toArray) ty (.agg cs.toArray) := fun w _ => by
  simp only [execOp, Instr.build, Sem.run_bind, hz, run_underlying hT, Result.andThen_ok, hp]
  simp [hf]
end
end Go.Inl
