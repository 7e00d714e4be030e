/- slices.Insert of one int into an own slice, by the library's contracts, as hypotheses. Conditions: as said. -/
import Derived.Test.YtcajgkfgjpfmaaaGreatKCore3
import Derived.Test.YtcajgkfgjpfmaaaGreatKCore2
set_option linter.unusedSimpArgs false
set_option linter.unusedVariables false
namespace Go.Inl
open Go Go.RowKit
def setL : List Value → Nat → List Value → List Value
 | cs, _, [] => cs
 | cs, o, v :: r => setL (cs.set o v) (o + 1) r
theorem ko : ∀ (vs cs : List Value) (o : Nat), o + vs.length ≤ cs.length → setL cs o vs = cs.take o ++ vs ++ cs.drop (o + vs.length)
 | [], cs, o, _ => by simp [setL]
 | v :: r, cs, o, h => by
   have hl : o < cs.length := by rw [List.length_cons] at h; omega
   show setL (cs.set o v) (o + 1) r = _
   rw [ko r _ _ (by rw [List.length_set]; rw [List.length_cons] at h; omega)]
   rw [List.set_eq_take_append_cons_drop, if_pos hl]
   have e1 : (cs.take o ++ v :: cs.drop (o + 1)).take (o + 1) = cs.take o ++ [v] := by
    rw [List.take_append, List.length_take, Nat.min_eq_left (by omega), show o + 1 - o = 1 by omega, List.take_of_length_le (by rw [List.length_take]; omega)]; rfl
   have e2 : (cs.take o ++ v :: cs.drop (o + 1)).drop (o + 1 + r.length) = cs.drop (o + (v :: r).length) := by
    rw [List.drop_append, List.length_take, Nat.min_eq_left (by omega), List.drop_of_length_le (by rw [List.length_take]; omega), List.nil_append, show o + 1 + r.length - o = r.length + 1 by omega, List.drop_succ_cons, List.drop_drop]
    congr 1
    rw [List.length_cons]; omega
   rw [e1, e2]; simp
section
variable {X : List Nat} {w0 w : World} {I0 I : Imm} {L : List Res}
theorem St.setCell {k b : Nat} {T : TypeId} {cs : List Value} (hS : St X w0 I0 I w L) (hk : L[k]? = some (.cel b T cs)) (o : Nat) (v : Value) : St X w0 I0 I (w.setCell ⟨b, o, none⟩ v) (L.set k (.cel b T (cs.set o v))) := by
 have hb : w.heap[b]? = some (.cells cs.toArray T (0, 0)) := hS.hold _ (List.mem_of_getElem? hk)
 refine hS.change hk rfl rfl rfl (by simp [World.setCell]) (fun c hc hcn => ?_) (fun c hc => .inl hc) (by simp [Res.foot]) ?_
 · have hne : b ≠ c := fun e => hcn (by simp [Res.foot, e])
   simp [World.setCell, Array.getElem?_modify, hne]
 · show (w.setCell ⟨b, o, none⟩ v).heap[b]? = _
   simp [World.setCell, Array.getElem?_modify, hb]
theorem St.setCells {k b : Nat} {T : TypeId} : ∀ (vs : List Value) {cs : List Value} {w : World} {L : List Res} (o : Nat), St X w0 I0 I w L → L[k]? = some (.cel b T cs) → St X w0 I0 I (w.setCells b o vs) (L.set k (.cel b T (setL cs o vs)))
 | [], cs, w, L, o, hS, hk => by
   show St X w0 I0 I w (L.set k (.cel b T cs))
   rw [set_self hk]; exact hS
 | v :: r, cs, w, L, o, hS, hk => by
   have hkl : k < L.length := (List.getElem?_eq_some_iff.1 hk).1
   have h := St.setCells (k := k) (b := b) (T := T) r (cs := cs.set o v) (o + 1) (hS.setCell hk o v) (List.getElem?_set_self hkl)
   rw [List.set_set] at h
   exact h
theorem St.rowCel0 (k : Nat) {sz n c : Nat} {E : TypeId} {a : Option Addr} {xs : List Value} (h : St X w0 I0 I w L) (hk : L[k]? = some (.row (.slice a n c) E sz n xs)) :
 (a = none ∧ n = 0 ∧ c = 0 ∧ xs = []) ∨ ∃ b rest, a = some ⟨b, 0, none⟩ ∧ n ≤ c ∧ c ≤ maxLen ∧ (xs ++ rest).length = c * sz ∧ xs.length = n * sz ∧ St X w0 I0 I w (L.set k (.cel b E (xs ++ rest))) := by
 have hh : w.ownsRow 0 E sz (.slice a n c) n xs := h.hold _ (List.mem_of_getElem? hk)
 obtain ⟨hl, h0 | ⟨g, cap, cur, hv, _, hg, h4, h5, h6, h7⟩⟩ := hh
 · obtain ⟨h1, h0⟩ := h0
   simp only [Value.slice.injEq] at h1
   subst h0
   exact .inl ⟨h1.1, rfl, h1.2.2, List.length_eq_zero_iff.1 (by omega)⟩
 · simp only [Value.slice.injEq] at hv
   obtain ⟨rfl, _, rfl⟩ := hv
   have e : xs ++ cur.toList.drop xs.length = cur.toList := by
    conv => lhs; lhs; rw [← h7, ← hl]
    exact List.take_append_drop _ _
   refine .inr ⟨g, cur.toList.drop xs.length, rfl, h4, h5, by rw [e]; simpa using h6, hl, ?_⟩
   rw [e]
   refine h.change hk (r' := .cel g E cur.toList) rfl rfl rfl (Nat.le_refl _) (fun _ _ _ => rfl) (fun c hc => .inl (by simpa [Res.foot, Value.ownBlock] using hc)) (by simp [Res.foot]) ?_
   show w.heap[g]? = _
   simpa using hg
end
structure InsOk (P : Program) (f : FuncId) (E : TypeId) : Prop where
 shift : ∀ (b off n c i vb voff m vc : Nat) (cs vs : List Value) (w : World) (hi : i < n) (hm : 0 < m) (hroom : n + m ≤ c) (hc63 : c ≤ 9223372036854775807) (hvb : vb ≠ b)
  (hcl : cs.length = n) (hvl : vs.length = m)
  (hcs : ∀ j v, cs[j]? = some v → w.cell? ⟨b, off + j, none⟩ = some v) (hsp : ∀ j, j < n + m → (w.cell? ⟨b, off + j, none⟩).isSome = true) (hfz : ∀ j, j < n + m → w.frozen? ⟨b, off + j, none⟩ = false)
  (hvs : ∀ j v, vs[j]? = some v → w.cell? ⟨vb, voff + j, none⟩ = some v) (h1c : ∀ v ∈ cs, v.oneCell' = true) (h1v : ∀ v ∈ vs, v.oneCell' = true)
  (tA tB : TypeId) (kA kB : Nat) (hsa : w.shape? vb = some (tA, kA)) (hsb : w.shape? b = some (tB, kB)) (hkB : kB ≠ 0) (hfa : w.frozen? ⟨vb, voff, none⟩ = false) (hfe : w.frozen? ⟨vb, kA, none⟩ = false),
  Calls P f #[.slice (some ⟨b, off, none⟩) n c, .int .i64 i, .slice (some ⟨vb, voff, none⟩) m vc] w fun e w' =>
   e = .returned (.slice (some ⟨b, off, none⟩) (n + m) c) ∧ w' = (w.drew.setCells b (off + (i + m)) (cs.drop i)).setCells b (off + i) vs
 endRoom : ∀ (b off n c vb voff m vc : Nat) (vs : List Value) (w : World) (hm : 0 < m) (hroom : n + m ≤ c) (hc63 : c ≤ 9223372036854775807)
  (hvl : vs.length = m) (hsp : ∀ j, j < m → (w.cell? ⟨b, off + n + j, none⟩).isSome = true) (hfz : ∀ j, j < m → w.frozen? ⟨b, off + n + j, none⟩ = false)
  (hvs : ∀ j v, vs[j]? = some v → w.cell? ⟨vb, voff + j, none⟩ = some v) (h1v : ∀ v ∈ vs, v.oneCell' = true),
  Calls P f #[.slice (some ⟨b, off, none⟩) n c, .int .i64 n, .slice (some ⟨vb, voff, none⟩) m vc] w fun e w' =>
   e = .returned (.slice (some ⟨b, off, none⟩) (n + m) c) ∧ w' = w.setCells b (off + n) vs
 endGrow : ∀ (base : Option Addr) (n c vb voff m vc : Nat) (cs vs : List Value) (w : World) (hm : 0 < m) (hnc : n ≤ c) (hroom : c < n + m) (hbig : (n + m) * 8 ≤ 140737488355328)
  (hcl : cs.length = n) (hvl : vs.length = m) (hnil : base = none → n = 0)
  (hcs : ∀ a, base = some a → ∀ j v, cs[j]? = some v → w.cell? (a.add j) = some v)
  (hvs : ∀ j v, vs[j]? = some v → w.cell? ⟨vb, voff + j, none⟩ = some v) (h1v : ∀ v ∈ vs, v.oneCell' = true),
  Calls P f #[.slice base n c, .int .i64 n, .slice (some ⟨vb, voff, none⟩) m vc] w fun e w' =>
   e = .returned (.slice (some ⟨w.heap.size, 0, none⟩) (n + m) (grownCap w (n + m) c E)) ∧
   w' = w.drew.alloc (.cells ((cs ++ vs).toArray ++ Builtin.zeroCells (Value.int .i64 0).cells (grownCap w (n + m) c E - (n + m))) E)
 grow : ∀ (b off n c i vb voff m vc : Nat) (cs vs : List Value) (w : World) (hi : i < n) (hm : 0 < m) (hnc : n ≤ c) (hroom : c < n + m) (hbig : (n + m) * 8 ≤ 140737488355328)
  (hcl : cs.length = n) (hvl : vs.length = m)
  (hcs : ∀ j v, cs[j]? = some v → w.cell? ⟨b, off + j, none⟩ = some v)
  (hvs : ∀ j v, vs[j]? = some v → w.cell? ⟨vb, voff + j, none⟩ = some v) (h1c : ∀ v ∈ cs, v.oneCell' = true) (h1v : ∀ v ∈ vs, v.oneCell' = true),
  Calls P f #[.slice (some ⟨b, off, none⟩) n c, .int .i64 i, .slice (some ⟨vb, voff, none⟩) m vc] w fun e w' =>
   e = .returned (.slice (some ⟨w.heap.size, 0, none⟩) (n + m) (grownCap w (n + m) c E)) ∧
   w' = (((w.alloc (.cells ((cs.take i).toArray ++ Builtin.zeroCells (Value.int .i64 0).cells (n + m - i) ++ Builtin.zeroCells (Value.int .i64 0).cells (grownCap w (n + m) c E - (n + m))) E)).drew.setCells w.heap.size i vs).drew).setCells w.heap.size (i + m) (cs.drop i)
theorem zX (n : Nat) : ∃ z : List Value, Builtin.zeroCells (Value.int .i64 0).cells n = z.toArray ∧ z.length = n := by
 refine ⟨(Builtin.zeroCells (Value.int .i64 0).cells n).toList, by simp, ?_⟩
 induction n with
 | zero => simp [Builtin.zeroCells]
 | succ n ih => simp_all [Builtin.zeroCells, Value.cells]
section
variable {P : Program} {f : FuncId} {X : List Nat} {w0 w : World} {I0 I : Imm} {L : List Res}
theorem insert_row {E : TypeId} {a : Option Addr} {n c i vb : Nat} {l : List Int} {x : Int} (hf : InsOk P f E) (hS : St X w0 I0 I w (.cel vb E [.int .i64 x] :: .row (.slice a n c) E 1 n (flat intC l) :: L)) (hn : n = l.length) (hi : i ≤ n) (hb : n ≤ 65536) :
 Ctr P f [.slice a n c, .int .i64 i, .slice (some ⟨vb, 0, none⟩) 1 1] w (fun v w' => ∃ a' c', v = .slice a' (n + 1) c' ∧ St X w0 I0 I w' (.row (.slice a' (n + 1) c') E 1 (n + 1) (flat intC (l.take i ++ x :: l.drop i)) :: L)) := by
 have hlen : (flat intC l).length = n := by rw [jv, hn]
 have h1c : ∀ v ∈ flat intC l, v.oneCell' = true := fun v hv => by
  rw [jm, List.mem_map] at hv
  obtain ⟨y, _, rfl⟩ := hv; rfl
 have h1v : ∀ v ∈ [Value.int .i64 x], v.oneCell' = true := fun v hv => by
  rw [List.mem_singleton] at hv; subst hv; rfl
 have hvb : w.heap[vb]? = some (.cells #[.int .i64 x] E (0, 0)) := hS.hold (.cel vb E [.int .i64 x]) (by simp)
 have hvs : ∀ j v, [Value.int .i64 x][j]? = some v → w.cell? ⟨vb, 0 + j, none⟩ = some v := fun j v hj => by
  unfold World.cell?
  simp only [hvb]
  cases j with
  | zero => simpa using hj
  | succ j => simp at hj
 have hfl : flat intC (l.take i ++ x :: l.drop i) = (flat intC l).take i ++ .int .i64 x :: (flat intC l).drop i := by
  rw [jm, jm, List.map_append, List.map_cons, List.map_take, List.map_drop]
 have hfl2 : (flat intC (l.take i ++ x :: l.drop i)).length = n + 1 := by
  rw [jv, List.length_append, List.length_cons, List.length_take, List.length_drop]; omega
 have hge := grownCap_ge w (n + 1) c E
 have hle := grownCap_le_maxLen w (n + 1) c E (by unfold maxLen; omega)
 rcases hS.rowCel0 1 rfl with ⟨rfl, h0, rfl, h2⟩ | ⟨b, rest, rfl, h1, h2, h3, h4, h5⟩
 · -- the slice of nothing
   subst h0
   obtain rfl : i = 0 := by omega
   have hl0 : l = [] := List.length_eq_zero_iff.1 hn.symm
   subst hl0
   refine ⟨Calls.mono (hf.endGrow none 0 0 vb 0 1 1 [] [.int .i64 x] w (by decide) (by decide) (by decide) (by decide) rfl rfl (fun _ => rfl) (fun a h => by cases h) hvs h1v) ?_⟩
   rintro e w' ⟨rfl, rfl⟩
   generalize grownCap w (0 + 1) 0 E = G at hge hle
   refine ⟨_, rfl, _, _, rfl, ?_⟩
   obtain ⟨z, hz, hzl⟩ := zX (G - (0 + 1))
   rw [hz]
   have h6 := (hS.drew.alloc E ([.int .i64 x] ++ z)).celRow (n := 1) (c := G) (sz := 1) (xs := [.int .i64 x]) (rest := z) 0 rfl rfl hge hle (by simp; omega)
   rw [List.append_toArray]
   exact h6.sub (List.Sublist.cons_cons _ (List.Sublist.cons _ (List.Sublist.cons _ (List.Sublist.refl _))))
 · have hbS := h5
   have hbh : w.heap[b]? = some (.cells (flat intC l ++ rest).toArray E (0, 0)) := h5.hold (.cel b E (flat intC l ++ rest)) (by simp)
   have hne : vb ≠ b := fun e => by
    have := h5.nodup
    subst e
    simp [Res.foot] at this
   have hcl : (flat intC l ++ rest).length = c := by rw [h3, Nat.mul_one]
   have hcell : ∀ j v, (flat intC l ++ rest)[j]? = some v → w.cell? ⟨b, 0 + j, none⟩ = some v := fun j v hj => by
    unfold World.cell?
    simp only [hbh]
    simpa using hj
   have hcs : ∀ j v, (flat intC l)[j]? = some v → w.cell? ⟨b, 0 + j, none⟩ = some v := fun j v hj => hcell j v (by
    rw [List.getElem?_append_left (List.getElem?_eq_some_iff.1 hj).1]; exact hj)
   have hsome : ∀ j, j < c → (w.cell? ⟨b, 0 + j, none⟩).isSome = true := fun j hj => by
    rw [hcell j _ (List.getElem?_eq_getElem (by rw [hcl]; exact hj))]; rfl
   have hfz : ∀ j, w.frozen? ⟨b, j, none⟩ = false := fun j => by
    unfold World.frozen?
    simp [hbh]
   have hfv : ∀ j, w.frozen? ⟨vb, j, none⟩ = false := fun j => by
    unfold World.frozen?
    simp [hvb]
   have hrl : rest.length + n = c := by rw [List.length_append, hlen] at hcl; omega
   by_cases hin : i = n
   · subst hin
     have e1 : (flat intC l).take i ++ .int .i64 x :: (flat intC l).drop i = flat intC l ++ [.int .i64 x] := by
      rw [List.take_of_length_le (by omega), List.drop_of_length_le (by omega)]
     rw [hfl, e1]
     by_cases hroom : i + 1 ≤ c
     · refine ⟨Calls.mono (hf.endRoom b 0 i c vb 0 1 1 [.int .i64 x] w (by decide) hroom (by unfold maxLen at h2; omega) rfl (fun j hj => by have := hsome (i + j) (by omega); simpa using this) (fun j hj => hfz _) hvs h1v) ?_⟩
       rintro e w' ⟨rfl, rfl⟩
       refine ⟨_, rfl, _, _, rfl, ?_⟩
       have h6 := St.setCells [.int .i64 x] (0 + i) h5 (k := 1) rfl
       rw [ko _ _ _ (by rw [hcl]; show 0 + i + 1 ≤ c; omega)] at h6
       have e2 : (flat intC l ++ rest).take (0 + i) = flat intC l := by rw [Nat.zero_add, List.take_append_of_le_length (by omega), List.take_of_length_le (by omega)]
       rw [e2] at h6
       have h7 := h6.celRow (n := i + 1) (c := c) (sz := 1) (xs := flat intC l ++ [.int .i64 x]) (rest := (flat intC l ++ rest).drop (0 + i + 1)) 1 rfl (by simp [hlen]) hroom h2 (by
        rw [List.length_append, List.length_append, hlen, List.length_drop, hcl]
        simp; omega)
       exact h7.sub (List.Sublist.cons _ (List.Sublist.refl _))
     · refine ⟨Calls.mono (hf.endGrow (some ⟨b, 0, none⟩) i c vb 0 1 1 (flat intC l) [.int .i64 x] w (by decide) h1 (by omega) (by omega) hlen rfl (fun h => by cases h) (fun a h => by cases h; exact fun j v hj => by rw [qD]; exact hcs j v hj) hvs h1v) ?_⟩
       rintro e w' ⟨rfl, rfl⟩
       generalize grownCap w (i + 1) c E = G at hge hle
       refine ⟨_, rfl, _, _, rfl, ?_⟩
       obtain ⟨z, hz, hzl⟩ := zX (G - (i + 1))
       rw [hz]
       have h6 := (hS.drew.alloc E ((flat intC l ++ [.int .i64 x]) ++ z)).celRow (n := i + 1) (c := G) (sz := 1) (xs := flat intC l ++ [.int .i64 x]) (rest := z) 0 rfl (by simp [hlen]) hge hle (by simp [hlen]; omega)
       rw [List.append_toArray]
       exact h6.sub (List.Sublist.cons_cons _ (List.Sublist.cons _ (List.Sublist.cons _ (List.Sublist.refl _))))
   · have hil : i < n := by omega
     rw [hfl]
     by_cases hroom : n + 1 ≤ c
     · refine ⟨Calls.mono (hf.shift b 0 n c i vb 0 1 1 (flat intC l) [.int .i64 x] w hil (by decide) hroom (by unfold maxLen at h2; omega) hne hlen rfl hcs (fun j hj => hsome j (by omega)) (fun j hj => hfz _) hvs h1c h1v E E 1 c (by unfold World.shape?; simp [hvb]) (by unfold World.shape?; simp [hbh]; simpa using hcl) (by omega) (hfv _) (hfv _)) ?_⟩
       rintro e w' ⟨rfl, rfl⟩
       refine ⟨_, rfl, _, _, rfl, ?_⟩
       have hdl : ((flat intC l).drop i).length = n - i := by rw [List.length_drop, hlen]
       have h6 := St.setCells ((flat intC l).drop i) (0 + (i + 1)) h5.drew (k := 1) rfl
       have h7 := St.setCells (b := b) (T := E) [.int .i64 x] (0 + i) h6 (k := 1) rfl
       rw [ko _ (flat intC l ++ rest) _ (by rw [hcl, hdl]; omega)] at h7
       have e2 : (flat intC l ++ rest).take (0 + (i + 1)) = (flat intC l).take (i + 1) := by rw [Nat.zero_add, List.take_append_of_le_length (by omega)]
       rw [e2, ko _ _ _ (by simp only [List.length_append, List.length_take, List.length_drop, List.length_cons, List.length_nil]; omega)] at h7
       have e3 : ((flat intC l).take (i + 1) ++ (flat intC l).drop i ++ (flat intC l ++ rest).drop (0 + (i + 1) + ((flat intC l).drop i).length)).take (0 + i) = (flat intC l).take i := by
        rw [Nat.zero_add, List.append_assoc, List.take_append_of_le_length (by rw [List.length_take]; omega), List.take_take, Nat.min_eq_left (by omega)]
       have e4 : ((flat intC l).take (i + 1) ++ (flat intC l).drop i ++ (flat intC l ++ rest).drop (0 + (i + 1) + ((flat intC l).drop i).length)).drop (0 + i + [Value.int .i64 x].length) = (flat intC l).drop i ++ (flat intC l ++ rest).drop (0 + (i + 1) + ((flat intC l).drop i).length) := by
        rw [Nat.zero_add, List.append_assoc, List.drop_append, List.drop_of_length_le (by rw [List.length_take]; simp; omega), List.nil_append, List.length_take, Nat.min_eq_left (by omega)]
        simp
       rw [e3, e4] at h7
       have h8 := h7.celRow (b := b) (E := E) (n := n + 1) (c := c) (sz := 1) (xs := (flat intC l).take i ++ .int .i64 x :: (flat intC l).drop i) (rest := (flat intC l ++ rest).drop (0 + (i + 1) + ((flat intC l).drop i).length)) 1 (by simp) (by rw [← hfl, hfl2]; omega) hroom h2 (by
        rw [List.length_append, ← hfl, hfl2, List.length_drop, hcl, hdl]; omega)
       exact h8.sub (List.Sublist.cons _ (List.Sublist.refl _))
     · refine ⟨Calls.mono (hf.grow b 0 n c i vb 0 1 1 (flat intC l) [.int .i64 x] w hil (by decide) h1 (by omega) (by omega) hlen rfl hcs hvs h1c h1v) ?_⟩
       rintro e w' ⟨rfl, rfl⟩
       generalize grownCap w (n + 1) c E = G at hge hle
       refine ⟨_, rfl, _, _, rfl, ?_⟩
       obtain ⟨z1, hz1, hz1l⟩ := zX (n + 1 - i)
       obtain ⟨z, hz, hzl⟩ := zX (G - (n + 1))
       rw [hz, hz1]
       have hdl : ((flat intC l).drop i).length = n - i := by rw [List.length_drop, hlen]
       have htl : ((flat intC l).take i).length = i := by rw [List.length_take, hlen]; omega
       have h6 := hS.alloc E (((flat intC l).take i ++ z1) ++ z)
       have h7 := St.setCells [.int .i64 x] i h6.drew (k := 0) rfl
       have h8 := St.setCells ((flat intC l).drop i) (i + 1) h7.drew (k := 0) rfl
       rw [ko [.int .i64 x] _ _ (by simp only [List.length_append, htl, hz1l, hzl, List.length_cons, List.length_nil]; omega)] at h8
       have e2 : ((flat intC l).take i ++ z1 ++ z).take i = (flat intC l).take i := by rw [List.append_assoc, List.take_append_of_le_length (by omega), List.take_take, Nat.min_self]
       have e3 : ((flat intC l).take i ++ z1 ++ z).drop (i + [Value.int .i64 x].length) = (z1 ++ z).drop 1 := by
        rw [List.append_assoc, List.drop_append, List.drop_of_length_le (by rw [htl]; simp), List.nil_append, htl]
        simp
       rw [e2, e3, ko _ _ _ (by simp only [List.length_append, htl, hz1l, hzl, List.length_cons, List.length_nil, List.length_drop, hlen]; omega)] at h8
       have e4 : ((flat intC l).take i ++ [Value.int .i64 x] ++ (z1 ++ z).drop 1).take (i + 1) = (flat intC l).take i ++ [Value.int .i64 x] := by
        rw [List.take_append_of_le_length (by rw [List.length_append, htl]; simp), List.take_of_length_le (by rw [List.length_append, htl]; simp)]
       rw [e4] at h8
       obtain ⟨q, hq⟩ : ∃ q, ((flat intC l).take i ++ [Value.int .i64 x] ++ (z1 ++ z).drop 1).drop (i + 1 + ((flat intC l).drop i).length) = q := ⟨_, rfl⟩
       have hql : q.length = G - (n + 1) := by
        rw [← hq]
        simp only [List.length_append, htl, hz1l, hzl, List.length_cons, List.length_nil, List.length_drop, hlen]; omega
       rw [hq] at h8
       have h9 := h8.celRow (b := w.heap.size) (E := E) (n := n + 1) (c := G) (sz := 1) (xs := (flat intC l).take i ++ .int .i64 x :: (flat intC l).drop i) (rest := q) 0 (by simp) (by rw [← hfl, hfl2]; omega) hge hle (by
        rw [List.length_append, ← hfl, hfl2, hql]; omega)
       rw [List.append_toArray, List.append_toArray]
       exact h9.sub (List.Sublist.cons_cons _ (List.Sublist.cons _ (List.Sublist.cons _ (List.Sublist.refl _))))
end
end Go.Inl
