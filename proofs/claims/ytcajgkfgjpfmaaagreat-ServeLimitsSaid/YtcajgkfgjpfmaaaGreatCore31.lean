/- append to a clipped slice that stands still; clear of the tail of an own slice; a slice clipped. Conditions: as said. -/
import Derived.Test.YtcajgkfgjpfmaaaGreatCore30
import Derived.Lib.SliceRun
set_option linter.unusedSimpArgs false
set_option linter.unusedVariables false
namespace Go.Inl
open Go Go.RowKit
theorem rsl_css {α : Type} {I : Imm} {sz b : Nat} {R : List Value → α → Prop} {w : World} (hw : Sat I w) : ∀ (xs : List α) (o : Nat), (∀ i x, xs[i]? = some x → ∃ cs, cs.length = sz ∧ atI I ⟨b, o + i * sz, none⟩ cs ∧ R cs x) →
 ∃ css, All2 R css xs ∧ (∀ cs ∈ css, cs.length = sz) ∧ ∀ j v, css.flatten[j]? = some v → w.cell? ⟨b, o + j, none⟩ = some v
 | [], o, _ => ⟨[], All2.nil _, (fun _ h => by cases h), (fun j v h => by simp at h)⟩
 | x :: xs, o, h => by
   obtain ⟨cs, h1, h2, h3⟩ := h 0 x rfl
   obtain ⟨css, h4, h5, h6⟩ := rsl_css hw xs (o + sz) (fun i y hy => by
    have := h (i + 1) y (by simpa using hy)
    rw [Nat.add_mul, Nat.one_mul, show o + (i * sz + sz) = o + sz + i * sz by omega] at this
    exact this)
   refine ⟨cs :: css, All2.cons h3 h4, fun c hc => ?_, fun j v hv => ?_⟩
   · rcases List.mem_cons.1 hc with rfl | hc
     · exact h1
     · exact h5 c hc
   · rw [List.flatten_cons] at hv
     by_cases hj : j < sz
     · rw [List.getElem?_append_left (by rw [h1]; exact hj)] at hv
       have := h2.cell hw j v hv
       rw [qD] at this
       simpa using this
     · rw [List.getElem?_append_right (by rw [h1]; omega), h1] at hv
       have := h6 (j - sz) v hv
       rw [show o + sz + (j - sz) = o + j by omega] at this
       exact this
theorem css_len {sz : Nat} {css : List (List Value)} (h : ∀ cs ∈ css, cs.length = sz) : css.flatten.length = css.length * sz := by
 induction css with
 | nil => simp
 | cons c l ih => rw [List.flatten_cons, List.length_append, h c (by simp), ih (fun x hx => h x (by simp [hx])), List.length_cons, Nat.add_mul]; omega
theorem RSl.len_cap {α : Type} {I : Imm} {sz cap : Nat} {ad : Option Addr} {R : List Value → α → Prop} {xs : List α} (h : RSl I sz R (.slice ad xs.length cap) xs) : xs.length ≤ cap ∧ cap ≤ 9223372036854775807 := by
 have hm : maxLen ≤ 9223372036854775807 := by unfold maxLen; decide
 rcases h with ⟨⟨a, c, h1, h2, _⟩, rfl⟩ | ⟨b, o, c, h1, h2, h3, _⟩
 · simp only [Value.slice.injEq] at h1
   obtain ⟨_, _, rfl⟩ := h1
   exact ⟨Nat.zero_le _, Nat.le_trans h2 hm⟩
 · simp only [Value.slice.injEq] at h1
   obtain ⟨_, _, rfl⟩ := h1
   exact ⟨h2, Nat.le_trans h3 hm⟩
theorem clip_val {α : Type} {I : Imm} {sz cap : Nat} {ad : Option Addr} {R : List Value → α → Prop} {xs : List α} (h : RSl I sz R (.slice ad xs.length cap) xs) : resl (.slice ad xs.length cap) 0 xs.length xs.length sz = .slice ad xs.length xs.length := by
 show Value.slice (if xs.length = 0 then ad else ad.map (·.add (0 * sz))) (xs.length - 0) (xs.length - 0) = _
 rw [Nat.sub_zero]
 split
 · rfl
 · rename_i h0
   rcases h with ⟨_, rfl⟩ | ⟨b, o, c, h1, _⟩
   · exact absurd rfl h0
   · simp only [Value.slice.injEq] at h1
     obtain ⟨rfl, _, _⟩ := h1
     rw [Option.map_some, Nat.zero_mul, qD, Nat.add_zero]
theorem qI {α : Type} {I : Imm} {sz cap : Nat} {ad : Option Addr} {R : List Value → α → Prop} {xs : List α} (h : RSl I sz R (.slice ad xs.length cap) xs) : RSl I sz R (.slice ad xs.length xs.length) xs := by
 have h2 := h.resl 0 xs.length (Nat.zero_le _) (Nat.le_refl _)
 rw [clip_val h, List.take_length, List.drop_zero] at h2
 exact h2
section
variable {P : Program} {n : Nat} {σ : Nat → Value} {w : World} {ty : TypeId} {X : List Nat} {w0 : World} {I0 I : Imm} {L : List Res}
theorem mlc {l : List Operand} {vs caps ws : List Value} (h : l.map (ev n σ) = vs) (e : vs ++ caps = ws) : l.map (ev n σ) ++ caps = ws := by rw [h, e]
theorem qz (j : Nat) {α : Type} {R : List Value → α → Prop} {t e T : TypeId} {sz by' : Nat} {z : Value} {x y : Operand} {aT : Array TypeId} {ad : Option Addr} {N c b : Nat} {xs : List α} {news : List Value} (hS : St X w0 I0 I w L) (ho : aT = #[t, t]) (hT : P.underlying t = some (.slice e))
 (hi : Info P e z sz by') (hzs : z.cells.size = sz) (h0 : Nat.blt 0 sz = true) (hr : RSl I sz R (.slice ad N N) xs) (hN : N = xs.length) (hJ : L[j]? = some (.cel b T news)) (hx : ev n σ x = .slice ad N N)
 (hy : ev n σ y = .slice (some ⟨b, 0, none⟩) 1 c) (hl : news.length = sz) (hb : (N + 1) * by' ≤ 140737488355328) (hN2 : N ≤ 65536) :
 Does P (ev n σ) (.call { callee := .builtin .append, args := #[x, y], argTypes := aT }) ty w fun v w' => ∃ a cap css, v = .slice a (N + 1) cap ∧ All2 R css xs ∧ (∀ cs ∈ css, cs.length = sz) ∧ St X w0 I0 I w' (.row (.slice a (N + 1) cap) e sz (N + 1) (css.flatten ++ news) :: L) := by
 subst ho hN
 obtain ⟨i, k1, k2, k3, k4⟩ := hi
 have h0' : 0 < sz := by simpa using h0
 have hnews : ∀ q v, news[q]? = some v → w.cell? ((⟨b, 0, none⟩ : Addr).add q) = some v := fun q v hq => by rw [qD, Nat.zero_add]; exact jM hS hJ hq
 have hge := grownCap_ge w (xs.length + 1) xs.length e
 have hle := grownCap_le_maxLen w (xs.length + 1) xs.length e (by unfold maxLen; omega)
 obtain ⟨css, hA, hcl, hrun⟩ : ∃ css, All2 R css xs ∧ (∀ cs ∈ css, cs.length = sz) ∧ (Builtin.append_ #[t, t] ty #[.slice ad xs.length xs.length, .slice (some ⟨b, 0, none⟩) 1 c]).run P w =
  .ok (.slice (some ⟨w.heap.size, 0, none⟩) (xs.length + 1) (grownCap w (xs.length + 1) xs.length e)) (w.drew.alloc (.cells ((css.flatten ++ news).toArray ++ Builtin.zeroCells z.cells (grownCap w (xs.length + 1) xs.length e - (xs.length + 1))) e)) := by
  have hfit : Builtin.nextslicecap (xs.length + 1) xs.length * i.bytes ≤ 281474976710656 := by rw [k4]; exact growslice_fits (by omega) hb
  cases had : ad with
  | none =>
    have hx0 : xs = [] := by
     rcases hr with ⟨_, h⟩ | ⟨b, o, c, h1, _⟩
     · exact h
     · rw [had] at h1; cases h1
    subst hx0
    refine ⟨[], All2.nil _, fun _ h => (by cases h), ?_⟩
    have := run_append_nil (P := P) (w := w) t ty e i z hT k1 k2 ⟨b, 0, none⟩ 1 c news (by rw [k3, hl, Nat.one_mul]) hnews (by decide) (by decide) (by rw [k4]; simp at hb; omega)
    simpa using this
  | some a =>
    obtain ⟨css, h1, h2, h3⟩ : ∃ css, All2 R css xs ∧ (∀ cs ∈ css, cs.length = sz) ∧ ∀ q v, css.flatten[q]? = some v → w.cell? (a.add q) = some v := by
     rcases hr with ⟨_, rfl⟩ | ⟨b, o, c, h1, _, _, h4⟩
     · exact ⟨[], All2.nil _, fun _ h => (by cases h), fun q v h => by simp at h⟩
     · simp only [Value.slice.injEq] at h1
       rw [had] at h1
       obtain ⟨h1, _, _⟩ := h1
       cases h1
       obtain ⟨css, g1, g2, g3⟩ := rsl_css hS.imm xs o h4
       exact ⟨css, g1, g2, fun q v hq => by rw [qD]; exact g3 q v hq⟩
    refine ⟨css, h1, h2, ?_⟩
    have := run_append_grow (P := P) w t ty e i z hT k1 k2 a xs.length xs.length css.flatten (by rw [css_len h2, h1.1, k3]) h3 ⟨b, 0, none⟩ 1 c news (by rw [k3, hl, Nat.one_mul]) hnews (by omega) (by omega) hfit
    rw [this]
    congr 3
    apply Array.ext'
    simp
 generalize grownCap w (xs.length + 1) xs.length e = G at hrun hge hle
 refine qQ (v := .slice (some ⟨w.heap.size, 0, none⟩) (xs.length + 1) G) (w' := w.drew.alloc (.cells ((css.flatten ++ news).toArray ++ Builtin.zeroCells z.cells (G - (xs.length + 1))) e)) ?_ ⟨_, _, css, rfl, hA, hcl, ?_⟩
 · simp only [execOp, resolve, invoke, builtin, List.map_toArray, List.map_cons, List.map_nil, hx, hy, Sem.run_bind, Sem.run_pure, Result.andThen_ok, hrun]
 · have hfl : (css.flatten ++ news).length = (xs.length + 1) * sz := by rw [List.length_append, css_len hcl, hA.1, hl, Nat.add_mul, Nat.one_mul]
   have hAl := (hS.drew).alloc e ((css.flatten ++ news).toArray ++ Builtin.zeroCells z.cells (G - (xs.length + 1))).toList
   simp only [Array.toArray_toList] at hAl
   have hz1 : (Builtin.zeroCells z.cells (G - (xs.length + 1))).size = (G - (xs.length + 1)) * sz := by rw [size_zeroCells, hzs]
   have hsz : ((css.flatten ++ news).toArray ++ Builtin.zeroCells z.cells (G - (xs.length + 1))).size = G * sz := by
    rw [Array.size_append, hz1, List.size_toArray, hfl, ← Nat.add_mul]
    congr 1; omega
   have htk : (((css.flatten ++ news).toArray ++ Builtin.zeroCells z.cells (G - (xs.length + 1))).toList).take ((xs.length + 1) * sz) = css.flatten ++ news := by
    rw [Array.toList_append, List.take_append_of_le_length (by simp only [List.toList_toArray]; omega), List.take_of_length_le (by simp only [List.toList_toArray]; omega)]
   exact hAl.change (k := 0) (r' := .row (.slice (some ⟨w.heap.size, 0, none⟩) (xs.length + 1) G) e sz (xs.length + 1) (css.flatten ++ news)) rfl rfl rfl rfl (Nat.le_refl _) (fun _ _ _ => rfl) (fun b hb => .inl (by simpa [Res.foot, Value.ownBlock, eq_comm] using hb)) (by simp [Res.foot, Value.ownBlock])
    ⟨hfl, .inr ⟨w.heap.size, G, _, rfl, Nat.zero_le _, heap_alloc_new w.drew _, hge, hle, hsz, htk⟩⟩
theorem d_clearI (k : Nat) {t e : TypeId} {x : Operand} {aT : Array TypeId} {a : Option Addr} {N i c : Nat} {l : List Int} (hS : St X w0 I0 I w L) (ho : aT = #[t]) (hT : P.underlying t = some (.slice e)) (hv : ∀ w, (zeroValue e).run P w = .ok (.int .i64 0) w)
 (hL : L[k]? = some (.row (.slice a N c) e 1 N (flat intC l))) (hN : N = l.length) (hi : i < N) (hx : ev n σ x = resl (.slice a N c) i N c 1) :
 Does P (ev n σ) (.call { callee := .builtin .clear, args := #[x], argTypes := aT }) ty w fun v w' => v = .tuple #[] ∧ resl (.slice a N c) 0 i c 1 = .slice a i c ∧ St X w0 I0 I w' (L.set k (.row (.slice a i c) e 1 i (flat intC (l.take i)))) := by
 subst ho
 obtain ⟨b, rest, rfl, h1, h2, h3, h4, h5⟩ := hS.rowCel k hL (by omega)
 have hkl : k < L.length := (List.getElem?_eq_some_iff.1 hL).1
 have hk5 : (L.set k (.cel b e (flat intC l ++ rest)))[k]? = some (.cel b e (flat intC l ++ rest)) := List.getElem?_set_self hkl
 have hci : ¬ c = i := by omega
 have hxv : resl (.slice (some ⟨b, 0, none⟩) N c) i N c 1 = .slice (some ⟨b, i, none⟩) (N - i) (c - i) := by
  show Value.slice (if c = i then _ else _) _ _ = _
  rw [if_neg hci, Option.map_some, qD, Nat.mul_one, Nat.zero_add]
 rw [hxv] at hx
 have hcl : (flat intC l ++ rest).length = c := by rw [h3, Nat.mul_one]
 have hbh : w.heap[b]? = some (.cells (flat intC l ++ rest).toArray e (0, 0)) := h5.hold (.cel b e (flat intC l ++ rest)) (List.mem_of_getElem? hk5)
 have hrun := Go.Lib.run_clear_slice (P := P) w t e ty (.int .i64 0) hT hv rfl rfl b i (N - i) (c - i) (by omega) (fun j hj => by
  unfold World.cell?
  simp only [hbh]
  simp only [Option.isSome_none, Bool.false_eq_true, if_false]
  rw [List.getElem?_toArray, List.getElem?_eq_getElem (by rw [hcl]; omega)]; rfl) (fun j _ => by unfold World.frozen?; simp [hbh])
 refine qQ (v := .tuple #[]) (w' := w.setCells b i (List.replicate (N - i) (.int .i64 0))) ?_ ⟨rfl, ?_, ?_⟩
 · simp only [execOp, resolve, invoke, builtin, List.map_toArray, List.map_cons, List.map_nil, hx, Sem.run_bind, Sem.run_pure, Result.andThen_ok, hrun]
 · show Value.slice (if c = 0 then _ else _) _ _ = _
   rw [if_neg (by omega), Option.map_some, qD, Nat.zero_mul, Nat.add_zero, Nat.sub_zero, Nat.sub_zero]
 · have h6 := St.setCells (b := b) (T := e) (List.replicate (N - i) (.int .i64 0)) i h5 (k := k) hk5
   have hfl : (flat intC l).length = N := by rw [jv, hN]
   rw [ko _ _ _ (by rw [hcl, List.length_replicate]; omega), List.set_set, List.length_replicate] at h6
   have e2 : (flat intC l ++ rest).take i = flat intC (l.take i) := by
    rw [List.take_append_of_le_length (by omega), jm, jm, List.map_take]
   rw [e2, List.append_assoc] at h6
   have h7 := h6.celRow (b := b) (E := e) (n := i) (c := c) (sz := 1) (xs := flat intC (l.take i)) (rest := List.replicate (N - i) (.int .i64 0) ++ (flat intC l ++ rest).drop (i + (N - i))) k (by simp [hkl]) (by rw [jv, List.length_take]; omega) (by omega) h2 (by
    rw [List.length_append, jv, List.length_take, List.length_append, List.length_replicate, List.length_drop, hcl]; omega)
   rw [List.set_set] at h7
   exact h7
theorem g_slice3H {S : World → Prop} {t e : TypeId} {x : Operand} {ad : Option Addr} {len cap sz : Nat} {kh km : IntKind} {h m : Int} {hi mx : Operand} (hT : P.underlying t = some (.slice e)) (hs : ∀ w, (sizeOf e).run P w = .ok sz w)
 (hx : ev n σ x = .slice ad len cap) (hh : ev n σ hi = .int kh h) (hm : ev n σ mx = .int km m) (h0 : 0 ≤ h) (h2 : h ≤ m) (h3 : m ≤ cap) :
 Gives P (ev n σ) S (.slice t x none (some hi) (some mx)) ty (resl (.slice ad len cap) 0 h.toNat m.toNat sz) := fun w _ => by
 have e1 : (Instr.sliceBound (.int km m) cap .slice3Acap).run P w = .ok m.toNat w := run_sliceBound w km m cap _ (by omega) h3
 have e2 : (Instr.sliceBound (.int kh h) m.toNat .slice3B).run P w = .ok h.toNat w := run_sliceBound w kh h _ _ (by omega) (by omega)
 simp [execOp, Instr.sliceAt, Sem.run_bind, run_underlying hT, hx, Instr.slice, Instr.sliceBounds, hh, hm, e1, e2, hs, resl]
theorem ve {α : Type} {R : List Value → α → Prop} {S : World → Prop} {t e : TypeId} {x : Operand} {ad : Option Addr} {cap sz : Nat} {kh km : IntKind} {hi mx : Operand} {xs : List α} (hr : RSl I sz R (.slice ad xs.length cap) xs) (hT : P.underlying t = some (.slice e)) (hs : ∀ w, (sizeOf e).run P w = .ok sz w)
 (hx : ev n σ x = .slice ad xs.length cap) (hh : ev n σ hi = .int kh xs.length) (hm : ev n σ mx = .int km xs.length) :
 Gives P (ev n σ) S (.slice t x none (some hi) (some mx)) ty (.slice ad xs.length xs.length) := by
 have h := g_slice3H (ty := ty) (S := S) hT hs hx hh hm (by omega) (by omega) (by have := (RSl.len_cap hr).1; omega)
 rw [Int.toNat_natCast, clip_val hr] at h
 exact h
theorem g_eqSliceNilA {S : World → Prop} {t t' e : TypeId} {x y : Operand} {a : Option Addr} {k c : Nat} (hT : P.underlying t = some (.slice e)) (hx : ev n σ x = .slice a k c) (hy : ev n σ y = .slice none 0 0) :
 Gives P (ev n σ) S (.binOp .eql t x y t') ty (.bool a.isNone) := fun w _ => by
 have h1 : (binOp .eql t (.slice a k c) (.slice none 0 0)).run P w = .ok (.bool a.isNone) w := Go.Lib.run_eql_slice_nil w t e a k c 0 0 hT
 simp only [execOp, hx, hy, Sem.run_bind, eqGuard, h1]
 simp [Result.andThen, h1]
end
end Go.Inl
