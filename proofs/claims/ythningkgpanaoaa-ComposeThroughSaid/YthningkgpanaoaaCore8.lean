/- A block of which one row is looked at; a call that turns an own block. Conditions: none. -/
import Derived.Test.YthningkgpanaoaaCore7
namespace Go.Inl
open Go Go.RowKit

section
variable {P : Program} {n : Nat} {σ : Nat → Value} {ty t : TypeId} {x y : Operand} {X : List Nat} {w0 w w' : World} {I0 I : Imm} {L : List Res}

/-- At the beginning of a call that may turn one block of its caller's. -/
theorem St.startX {b : Nat} {T : TypeId} {cs : List Value} (h : Sat I w) (hb : w.heap[b]? = some (.cells cs.toArray T (0, 0))) (hn : I b = none) : St [b] w I I w [.cel b T cs] :=
  ⟨rfl, rfl, rfl, Nat.le_refl _, fun _ _ _ => rfl, h, fun _ _ => rfl, Sub.refl _, by
    intro r hr; simp only [List.mem_singleton] at hr; subst hr; exact hb, by
    intro r hr c hc; simp only [List.mem_singleton] at hr; subst hr; simp only [Res.foot, List.mem_singleton] at hc; subst hc; exact ⟨hn, .inr (by simp)⟩, by simp [Res.foot]⟩

/-- Behind a call that turned an own block. -/
theorem St.callX {k b : Nat} {T : TypeId} {cs cs' : List Value} (h : St X w0 I0 I w L) (hk : L[k]? = some (.cel b T cs)) (h' : St [b] w I I w' [.cel b T cs']) : St X w0 I0 I w' (L.set k (.cel b T cs')) :=
  h.change hk h'.os h'.tape h'.output h'.size (fun c hc hne => h'.block c hc (by simpa [Res.foot] using hne)) (fun c hc => .inl hc) (by simp [Res.foot]) (h'.hold _ (by simp))

theorem own_heap {k b : Nat} {T : TypeId} {cs : List Value} (h : St X w0 I0 I w L) (hL : L[k]? = some (.cel b T cs)) : w.heap[b]? = some (.cells cs.toArray T (0, 0)) := h.hold _ (List.mem_of_getElem? hL)
theorem own_none {k b : Nat} {T : TypeId} {cs : List Value} (h : St X w0 I0 I w L) (hL : L[k]? = some (.cel b T cs)) : I b = none := (h.new _ (List.mem_of_getElem? hL) b (by simp [Res.foot])).1

/-! ### One row of a block -/
theorem row_get {pre row post : List Value} {o c : Nat} {v : Value} (ho : o = pre.length) (hv : row[c]? = some v) : (pre ++ (row ++ post))[o + c]? = some v := by
  subst ho
  have hc := (List.getElem?_eq_some_iff.1 hv).1
  rw [List.getElem?_append_right (by omega), Nat.add_sub_cancel_left, List.getElem?_append_left hc, hv]
theorem g_ldF1 (k : Nat) {b o c : Nat} {T : TypeId} {pre row post : List Value} {v : Value} (ha : ∀ w, (isAgg t).run P w = .ok false w) (hL : L[k]? = some (.cel b T (pre ++ (row ++ post)))) (ho : o = pre.length)
    (hx : ev n σ x = .pointer (some ⟨b, o + c, none⟩)) (hv : row[c]? = some v) : Gives P (ev n σ) (KS X w0 I0 I L) (.load t x) ty v :=
  g_ldO1 k ha hL hx (row_get ho hv)
theorem g_ldF (k : Nat) {b o c m : Nat} {T : TypeId} {pre row post vs : List Value} (hm : ∀ w, (sizeOf t).run P w = .ok m w) (ha : ∀ w, (isAgg t).run P w = .ok true w) (hL : L[k]? = some (.cel b T (pre ++ (row ++ post)))) (ho : o = pre.length)
    (hx : ev n σ x = .pointer (some ⟨b, o + c, none⟩)) (hv : (row.drop c).take m = vs) (hl : vs.length = m) : Gives P (ev n σ) (KS X w0 I0 I L) (.load t x) ty (.agg vs.toArray) :=
  g_load hx fun w h => run_load_many (hm w) (ha w) hl fun j v hj => by
    rw [addr_add, Nat.add_assoc]
    refine own_cell h hL (row_get ho ?_)
    subst hv
    rw [List.getElem?_take] at hj
    split at hj
    · simpa using hj
    · cases hj
/-- Out of an own block, the cells given one by one. -/
theorem g_ldL (k : Nat) {b o m : Nat} {T : TypeId} {cs vs : List Value} (hm : ∀ w, (sizeOf t).run P w = .ok m w) (ha : ∀ w, (isAgg t).run P w = .ok true w) (hL : L[k]? = some (.cel b T cs))
    (hx : ev n σ x = .pointer (some ⟨b, o, none⟩)) (hv : ∀ (j : Nat) v, vs[j]? = some v → cs[o + j]? = some v) (hl : vs.length = m) : Gives P (ev n σ) (KS X w0 I0 I L) (.load t x) ty (.agg vs.toArray) :=
  g_load hx fun w h => run_load_many (hm w) (ha w) hl fun j v hj => by
    rw [addr_add]
    exact own_cell h hL (hv j v hj)

theorem putL_app : ∀ (pre : List Value) (cs : List Value) (c : Nat) (vs : List Value), putL (pre ++ cs) (pre.length + c) vs = pre ++ putL cs c vs
  | [], cs, c, vs => by simp
  | p :: pre, cs, c, [] => by cases cs <;> simp [putL]
  | p :: pre, cs, c, v :: vs => by
    rw [show (p :: pre).length + c = (pre.length + c) + 1 by simp; omega, List.cons_append]
    show p :: putL (pre ++ cs) (pre.length + c) (v :: vs) = _
    rw [putL_app pre cs c (v :: vs)]; rfl
theorem putL_left : ∀ (row post : List Value) (c : Nat) (vs : List Value), c + vs.length ≤ row.length → putL (row ++ post) c vs = putL row c vs ++ post
  | row, post, c, [], _ => by cases row <;> cases post <;> simp [putL]
  | [], post, c, v :: vs, h => by simp at h
  | r :: row, post, 0, v :: vs, h => by
    show v :: putL (row ++ post) 0 vs = _
    rw [putL_left row post 0 vs (by simpa using h)]; rfl
  | r :: row, post, c + 1, v :: vs, h => by
    show r :: putL (row ++ post) c (v :: vs) = _
    rw [putL_left row post c (v :: vs) (by simp at h ⊢; omega)]; rfl
theorem d_storeF (k : Nat) {T : TypeId} {b o c m : Nat} {pre row post row' : List Value} (hS : St X w0 I0 I w L) (hm : ∀ w, (sizeOf t).run P w = .ok m w) (hL : L[k]? = some (.cel b T (pre ++ (row ++ post)))) (ho : o = pre.length)
    (hx : ev n σ x = .pointer (some ⟨b, o + c, none⟩)) {v : Value} (hy : ev n σ y = v) {vs : List Value} (hv : v.cells.toList = vs) (hlen : vs.length = m) (h1 : vs.all (·.oneCell') = true) (hl : c + m ≤ row.length)
    (hc : putL row c vs = row') : Does P (ev n σ) (.store t x y) ty w fun u w' => u = undef ∧ St X w0 I0 I w' (L.set k (.cel b T (pre ++ (row' ++ post)))) := by
  subst ho hc
  exact d_store k hS hm hL hx hy hv hlen h1 (by simp; omega) (by rw [putL_app, putL_left row post c vs (by omega)])

/-- The address of an element, by the name it is wanted under. -/
theorem g_indexAddrV {S : World → Prop} {K : IntKind} {ix : Operand} {e : TypeId} {b len cap sz o : Nat} {i : Int} (hT : P.underlying t = some (.slice e)) (hs : ∀ w, (sizeOf e).run P w = .ok sz w)
    (hx : ev n σ x = .slice (some ⟨b, 0, none⟩) len cap) (hi : ev n σ ix = .int K i) (h0 : 0 ≤ i) (h1 : i < len) (ho : i.toNat * sz = o) :
    Gives P (ev n σ) S (.indexAddr t x ix) ty (.pointer (some ⟨b, o, none⟩)) := by
  have := g_indexAddr (P := P) (S := S) (ty := ty) hT hs hx hi h0 h1
  rwa [Nat.zero_add, ho] at this

/-- What make lays. -/
theorem madeCells_flat {α : Type} {enc : α → List Value} {sz : Nat} (he : ∀ x, (enc x).length = sz) (hz : 0 < sz) (m : Nat) (a : α) : (madeCells (enc a).toArray (m * sz)).toList = flat enc (List.replicate m a) := by
  apply List.ext_getElem?
  intro i
  by_cases hi : i < m * sz
  · have hq : i / sz < m := Nat.div_lt_of_lt_mul (by rwa [Nat.mul_comm])
    have hr : i % sz < sz := Nat.mod_lt _ hz
    have h1 := flat_get he (List.replicate m a) (i / sz) a (by simp [hq]) (i % sz) ((enc a)[i % sz]'(by rw [he]; exact hr)) (List.getElem?_eq_getElem _)
    rw [show i / sz * sz + i % sz = i from Nat.div_add_mod' i sz] at h1
    rw [h1]
    simp only [madeCells, Array.toList_map, Array.toList_range, List.getElem?_map, List.getElem?_range hi, Option.map_some, List.size_toArray, he]
    simp [he, hr]
  · have hl := flat_length he (List.replicate m a)
    rw [List.getElem?_eq_none (by simp [size_madeCells]; omega), List.getElem?_eq_none (by rw [hl]; simp; omega)]

theorem g_min {S : World → Prop} {K : IntKind} {a b : Int} {aT : Array TypeId} (hx : ev n σ x = .int K a) (hy : ev n σ y = .int K b) : Gives P (ev n σ) S (.call { callee := .builtin .min, args := #[x, y], argTypes := aT }) ty (.int K (if b < a then b else a)) := fun w _ => by
  simp [execOp, resolve, invoke, builtin, hx, hy, run_min_int2]
theorem g_max {S : World → Prop} {K : IntKind} {a b : Int} {aT : Array TypeId} (hx : ev n σ x = .int K a) (hy : ev n σ y = .int K b) : Gives P (ev n σ) S (.call { callee := .builtin .max, args := #[x, y], argTypes := aT }) ty (.int K (if b > a then b else a)) := fun w _ => by
  simp [execOp, resolve, invoke, builtin, hx, hy, run_max_int2]

/-- A method called on an interface value. -/
theorem d_invoke {f : FuncId} {T : TypeId} {v : Value} {name : String} {l : List Operand} {aT : Array TypeId} {vs : List Value} {R : Value → World → Prop} (hx : ev n σ x = .iface T v)
    (hm : ∀ w, (method (P.types.size + Made.depth) T v name).run P w = .ok (f, v) w) (hc : ∀ args w, (callFunc f args).run P w = .ok (.enter f args) w) (ha : l.map (ev n σ) = vs) (hF : Ctr P f (v :: vs) w R) :
    Does P (ev n σ) (.call { callee := .invoke x name, args := l.toArray, argTypes := aT }) ty w R := by
  refine ⟨fun d p af g a next Q _ hn => ?_⟩
  rw [execOp_any]
  have he : (execOp (ev n σ) ⟨none, .call { callee := .invoke x name, args := l.toArray, argTypes := aT }, ty, "", #[], none⟩).run P w = .ok (.enter f (v :: vs).toArray) w := by
    subst ha
    have hp : ∀ w, Sem.run P (Sem.program Sem.pure) w = .ok P w := fun _ => rfl
    simp [execOp, resolve, hx, invoke, callMethod, program, hp, hm, hc, List.take_of_length_le]
  rw [he]
  refine Calls.mono hF.calls ?_
  rintro e w' ⟨v, rfl, hR⟩
  exact hn v w' hR

/-- What stands still may be forgotten. -/
theorem St.back {I' : Imm} (h : St X w0 I0 I' w L) : St X w0 I0 I0 w L :=
  ⟨h.os, h.tape, h.output, h.size, h.block, fun b o hI => h.imm b o (h.ext b o hI), fun _ _ => rfl, Sub.refl _, h.hold, fun r hr b hb => by
    obtain ⟨h1, h2⟩ := h.new r hr b hb
    refine ⟨?_, h2⟩
    cases hI : I0 b with
    | none => rfl
    | some o => (rw [h.ext b o hI] at h1; cases h1), h.nodup⟩

/-- Behind a call that turned an own block, and laid more that stands still. -/
theorem St.callXI {k b : Nat} {T : TypeId} {cs cs' : List Value} {I' : Imm} (h : St X w0 I0 I w L) (hk : L[k]? = some (.cel b T cs)) (h' : St [b] w I I' w' [.cel b T cs']) : St X w0 I0 I' w' (L.set k (.cel b T cs')) := by
  have h1 := h.callX hk h'.back
  have hlt : ∀ r ∈ L.set k (.cel b T cs'), ∀ c ∈ r.foot, c < w.heap.size := by
    intro r hr c hc
    rcases List.mem_or_eq_of_mem_set hr with hr | rfl
    · exact Res.foot_lt (h.hold r hr) c hc
    · exact Res.foot_lt (h.hold _ (List.mem_of_getElem? hk)) c hc
  refine ⟨h1.os, h1.tape, h1.output, h1.size, h1.block, h'.imm, fun c hc => (h'.old c (Nat.lt_of_lt_of_le hc h.size)).trans (h.old c hc), h.ext.trans h'.ext, h1.hold, fun r hr c hc => ?_, h1.nodup⟩
  obtain ⟨k1, k2⟩ := h1.new r hr c hc
  exact ⟨(h'.old c (hlt r hr c hc)).trans k1, k2⟩
theorem setseg (off : Nat) : ∀ (us : List Value) (k : Nat) (pre mid post : List Value), mid.length = us.length → pre.length = off + k →
    (us.zipIdx k).foldl (fun (cs : Array Value) (q : Value × Nat) => cs.setIfInBounds (off + q.2) q.1) (pre ++ (mid ++ post)).toArray = (pre ++ (us ++ post)).toArray
  | [], k, pre, mid, post, h, _ => by simp at h; subst h; rfl
  | u :: us, k, pre, [], post, h, _ => by simp at h
  | u :: us, k, pre, m :: mid, post, h, hp => by
    simp only [List.zipIdx_cons, List.foldl_cons]
    have e : (pre ++ (m :: mid ++ post)).toArray.setIfInBounds (off + k) u = ((pre ++ [u]) ++ (mid ++ post)).toArray := by
      rw [← hp]; simp
    rw [e, setseg off us (k + 1) (pre ++ [u]) mid post (by simpa using h) (by simp [hp]; omega)]
    simp
theorem fill_seq (sz : Nat) : ∀ (vs : List Value) (j : Nat) (pre post : List Value), pre.length = j * sz → post.length = vs.length * sz → (∀ v ∈ vs, v.cells.toList.length = sz) →
    Instr.fill (fun i => some (i * sz, sz)) (pre ++ post).toArray ((vs.zipIdx j).map fun q => (q.2, q.1)) = some (pre ++ vs.flatMap fun v => v.cells.toList).toArray
  | [], j, pre, post, _, h, _ => by simp at h; subst h; simp [Instr.fill]
  | v :: vs, j, pre, post, h1, h2, h3 => by
    have hv : v.cells.toList.length = sz := h3 v (by simp)
    have hv' : v.cells.size = sz := by simpa using hv
    have hps : post.length = sz + vs.length * sz := by rw [h2, List.length_cons, Nat.add_mul]; omega
    simp only [List.zipIdx_cons, List.map_cons, Instr.fill]
    have hsz : ¬ (v.cells.size ≠ sz || decide (j * sz + v.cells.size > (pre ++ post).toArray.size)) = true := by
      simp [hv', h1, hps]
    rw [if_neg hsz]
    have hfold : v.cells.zipIdx.foldl (fun cs x => match x with | (c, i) => cs.setIfInBounds (j * sz + i) c) (pre ++ post).toArray = (pre ++ (v.cells.toList ++ post.drop sz)).toArray := by
      have := setseg (j * sz) v.cells.toList 0 pre (post.take sz) (post.drop sz) (by simp [hv']; omega) (by simpa using h1)
      rw [List.take_append_drop] at this
      rw [← this, ← Array.foldl_toList]
      simp
    rw [hfold, ← List.append_assoc, fill_seq sz vs (j + 1) (pre ++ v.cells.toList) (post.drop sz) (by simp [h1, hv', Nat.add_mul]) (by simp [hps]) (fun u hu => h3 u (by simp [hu]))]
    simp [List.flatMap_cons]
/-- A new slice out of all of its elements, in order. -/
theorem d_lit {t e : TypeId} {len sz : Nat} {l : List (Nat × Operand)} {z : Value} {vs : List Value} {cs : List Value} (hS : St X w0 I0 I w L) (hT : P.underlying t = some (.slice e)) (hs : ∀ w, (sizeOf e).run P w = .ok sz w)
    (hz : ∀ w, (zeroValue e).run P w = .ok z w) (hsmall : Nat.ble (len * sz) 16777216 = true) (hpos : Nat.beq (len * sz) 0 = false)
    (hl : (l.map fun p => (p.1, ev n σ p.2)) = (vs.zipIdx 0).map fun q => (q.2, q.1)) (hn : vs.length = len) (hv : ∀ v ∈ vs, v.cells.toList.length = sz) (hc : (vs.flatMap fun v => v.cells.toList) = cs) :
    Does P (ev n σ) (.buildSlice t len l.toArray) ty w fun v w' => ∃ b, v = .slice (some ⟨b, 0, none⟩) len len ∧ St X w0 I0 I w' (.cel b e cs :: L) := by
  subst hc
  refine d_buildSlice hS hT hs hz hsmall hpos ?_
  rw [hl]
  have := fill_seq sz vs 0 [] ((Array.range (len * sz)).map (z.cells[· % z.cells.size]!)).toList (by simp) (by simp [hn]) hv
  rw [List.nil_append, Array.toArray_toList, List.nil_append] at this
  exact this

theorem perm_eraseIdx {α : Type} : ∀ (l : List α) (k : Nat) (h : k < l.length), List.Perm (l[k] :: l.eraseIdx k) l
  | [], k, h => by simp at h
  | a :: l, 0, h => List.Perm.refl _
  | a :: l, k + 1, h => (List.Perm.swap _ _ _).trans ((perm_eraseIdx l k (by simpa using h)).cons a)
theorem St.pick {X : List Nat} (k : Nat) (h : St X w0 I0 I w L) (hk : Nat.ble (k + 1) L.length = true := by rfl) : St X w0 I0 I w (L[k]'(Nat.le_of_ble_eq_true hk) :: L.eraseIdx k) := h.perm (perm_eraseIdx L k (Nat.le_of_ble_eq_true hk))
/-- An own block, wherever it stands in the list, stands still from here on. -/
theorem St.freezeAt (k : Nat) {b : Nat} {T : TypeId} {cs : List Value} (h : St [] w0 I0 I w L) (hk : L[k]? = some (.cel b T cs)) : ∃ I', St [] w0 I0 I' w (L.eraseIdx k) ∧ Sub I I' ∧ atI I' ⟨b, 0, none⟩ cs := by
  have hlt := (List.getElem?_eq_some_iff.1 hk).1
  have he := (List.getElem?_eq_some_iff.1 hk).2
  have h1 : St [] w0 I0 I w (.cel b T cs :: L.eraseIdx k) := h.perm (by rw [← he]; exact perm_eraseIdx L k hlt)
  have hh : w.heap[b]? = some (.cells cs.toArray T (0, 0)) := h1.hold (.cel b T cs) (by simp)
  obtain ⟨h2, h3, h4⟩ := h1.freeze
  refine ⟨_, h2, h3, rfl, cs.toArray, T, (0, 0), ?_, fun j v hv => by simpa using hv⟩
  rw [h4 b (by simp [Res.foot]), hh]
theorem St.freeze1 {w0 w : World} {I0 I : Imm} {L : List Res} {b : Nat} {T : TypeId} {cs : List Value} (h : St [] w0 I0 I w (.cel b T cs :: L)) : ∃ I', St [] w0 I0 I' w L ∧ Sub I I' ∧ atI I' ⟨b, 0, none⟩ cs := h.freezeAt 0 rfl
theorem St.callE {X : List Nat} {w0 w w' : World} {I0 I I' : Imm} {L : List Res} (h : St X w0 I0 I w L) (hE : Ext w I w' I') : St X w0 I0 I' w' L := h.call hE
theorem g_makeFuncL {S : World → Prop} {f : Go.Fn} {lf lc : List Operand} {f1 c1 : List Value} (h1 : lf.map (ev n σ) = f1) (h2 : lc.map (ev n σ) = c1) : Gives P (ev n σ) S (.makeFunc f lf.toArray lc.toArray) ty (.func f f1.toArray c1.toArray) := fun w _ => by
  subst h1 h2; simp [execOp, Instr.makeFunc]
theorem mp0 : List.map (fun p : Nat × Operand => (p.1, ev n σ p.2)) [] = [] := rfl
theorem mp {i : Nat} {x : Operand} {v : Value} {l : List (Nat × Operand)} {ps : List (Nat × Value)} (h : ev n σ x = v) (hs : l.map (fun p => (p.1, ev n σ p.2)) = ps) : ((i, x) :: l).map (fun p => (p.1, ev n σ p.2)) = (i, v) :: ps := by simp [h, hs]
theorem g_buildv {S : World → Prop} {l : List (Nat × Operand)} {z : Value} {fs : Array Field} {pl : List (Nat × Nat)} {cs : List Value} {ps : List (Nat × Value)} (hz : ∀ w, (zeroValue t).run P w = .ok z w) (hT : P.underlying t = some (.struct fs))
    (hp : ∀ w, (fs.mapM fun f => do pure (f.offset, ← sizeOf f.type) : Sem (Array (Nat × Nat))).run P w = .ok pl.toArray w)
    (hps : (l.map fun p => (p.1, ev n σ p.2)) = ps) (hf : Instr.fill (pl[·]?) z.cells ps = some cs.toArray) : Gives P (ev n σ) S (.build t l.toArray) ty (.agg cs.toArray) := g_build hz hT hp (by rw [hps]; exact hf)
theorem row_freeze1 {α : Type} {enc : α → List Value} {sz m : Nat} {E : TypeId} {u : Value} {xs : List α} (he : ∀ x, (enc x).length = sz) (h : St [] w0 I0 I w [.row u E sz m (flat enc xs)]) (hm : m = xs.length) :
    ∃ I', Ext w0 I0 w I' ∧ Sub I I' ∧ RFl I' sz enc u xs := St.freezeRow he h hm

theorem g_slice3N {e : TypeId} {S : World → Prop} {ad : Option Addr} {len cap sz l0 h0 m0 : Nat} {kl kh km : IntKind} {l h m : Int} {lo hi mx : Operand} (hT : P.underlying t = some (.slice e)) (hs : ∀ w, (sizeOf e).run P w = .ok sz w)
    (hx : ev n σ x = .slice ad len cap) (hl : ev n σ lo = .int kl l) (hh : ev n σ hi = .int kh h) (hm : ev n σ mx = .int km m) (h1 : 0 ≤ l) (h2 : l ≤ h) (h3 : h ≤ m) (h4 : m ≤ cap) (e1 : l.toNat = l0) (e2 : h.toNat = h0) (e3 : m.toNat = m0) :
    Gives P (ev n σ) S (.slice t x (some lo) (some hi) (some mx)) ty (resl (.slice ad len cap) l0 h0 m0 sz) := by
  subst e1 e2 e3; exact g_slice3 hT hs hx hl hh hm h1 h2 h3 h4
theorem g_slice2N {e : TypeId} {S : World → Prop} {ad : Option Addr} {len cap sz l0 h0 : Nat} {kl kh : IntKind} {l h : Int} {lo hi : Operand} (hT : P.underlying t = some (.slice e)) (hs : ∀ w, (sizeOf e).run P w = .ok sz w)
    (hx : ev n σ x = .slice ad len cap) (hl : ev n σ lo = .int kl l) (hh : ev n σ hi = .int kh h) (h1 : 0 ≤ l) (h2 : l ≤ h) (h3 : h ≤ cap) (e1 : l.toNat = l0) (e2 : h.toNat = h0) :
    Gives P (ev n σ) S (.slice t x (some lo) (some hi) none) ty (resl (.slice ad len cap) l0 h0 cap sz) := by
  subst e1 e2; exact g_slice2 hT hs hx hl hh h1 h2 h3
theorem g_sliceLN {e : TypeId} {S : World → Prop} {ad : Option Addr} {len cap sz l0 : Nat} {kl : IntKind} {l : Int} {lo : Operand} (hT : P.underlying t = some (.slice e)) (hs : ∀ w, (sizeOf e).run P w = .ok sz w)
    (hx : ev n σ x = .slice ad len cap) (hl : ev n σ lo = .int kl l) (h1 : 0 ≤ l) (h2 : l ≤ len) (e1 : l.toNat = l0) :
    Gives P (ev n σ) S (.slice t x (some lo) none none) ty (resl (.slice ad len cap) l0 len cap sz) := by
  subst e1; exact g_sliceL hT hs hx hl h1 h2
theorem g_sliceHN {e : TypeId} {S : World → Prop} {ad : Option Addr} {len cap sz h0 : Nat} {kh : IntKind} {h : Int} {hi : Operand} (hT : P.underlying t = some (.slice e)) (hs : ∀ w, (sizeOf e).run P w = .ok sz w)
    (hx : ev n σ x = .slice ad len cap) (hh : ev n σ hi = .int kh h) (h1 : 0 ≤ h) (h3 : h ≤ cap) (e2 : h.toNat = h0) :
    Gives P (ev n σ) S (.slice t x none (some hi) none) ty (resl (.slice ad len cap) 0 h0 cap sz) := by
  subst e2; exact g_sliceH hT hs hx hh h1 h3
end
end Go.Inl
