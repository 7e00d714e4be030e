/- A constant string as bytes that stand still; maps made known to frozen memory. Conditions: none. -/
import Derived.Test.YtlhehhhpaebpoaaGreatCore16
import Derived.Test.YtlhehhhpaebpoaaGreatKCore2
import Derived.Laws.IdiomStrings
namespace Go.Inl
open Go Go.RowKit
section
variable {P : Program} {n : Nat} {σ : Nat → Value} {ty : TypeId} {w0 w : World} {I0 I : Imm} {L : List Res} {t t' e : TypeId} {x : Operand}
/-- An object of its own is read only from here on. -/
theorem St.freezeO {b : Nat} {o : Obj} (h : St [] w0 I0 I w (.obj b o :: L)) : ∃ I', St [] w0 I0 I' w L ∧ Sub I I' ∧ I' b = some o := by
  obtain ⟨h1, h2, h3⟩ := h.freeze
  exact ⟨_, h1, h2, (h3 b (List.mem_singleton.2 rfl)).trans (h.hold _ (List.mem_cons_self ..))⟩
/-- []byte(s). -/
theorem d_strF {s : ByteArray} {xs : List Int} (hS : St [] w0 I0 I w L) (hs : P.underlying t = some .string) (hd : P.underlying t' = some (.slice e)) (he : P.underlying e = some (.int .u8)) (hx : ev n σ x = .string s) (hxs : s.data.toList.map (fun b => (b.toNat : Int)) = xs) (hl : xs.length ≤ 1048576) :
    Does P (ev n σ) (.convert t t' x) ty w fun v w' => ∃ b cap I', v = .slice (some ⟨b, 0, none⟩) xs.length cap ∧ St [] w0 I0 I' w' L ∧ Inl.Sub I I' ∧ RBytes I' v xs := by
  have hr := run_bytes_of_string (P := P) w t t' e s hs hd he
  have hsz : s.size = xs.length := by rw [← hxs, List.length_map]; exact (Array.length_toList (xs := s.data)).symm
  have hge := grownCap_ge w s.size 0 e
  have hle := grownCap_le_maxLen w s.size 0 e (by rw [hsz]; unfold maxLen; omega)
  generalize grownCap w s.size 0 e = G at hr hge hle
  obtain ⟨I', hS', hsub, hI⟩ := St.freezeO (hS.drew.newObj (.cells (bytesRow s G) e ((bytesRow s G).size, (bytesRow s G).size + 1)))
  refine does_value (v := .slice (some ⟨w.heap.size, 0, none⟩) s.size G) (w' := w.drew.alloc (.cells (bytesRow s G) e ((bytesRow s G).size, (bytesRow s G).size + 1))) ?_ ⟨w.heap.size, G, I', by rw [hsz], hS', hsub, ?_⟩
  · simp only [execOp, hx, Sem.run_bind, hr, Result.andThen_ok]; rfl
  · rw [hsz] at hge ⊢
    refine .inr ⟨w.heap.size, 0, G, rfl, by omega, hle, fun i y hy => ⟨_, rfl, ⟨rfl, _, _, _, hI, fun j v hv => ?_⟩, rfl⟩⟩
    have hj : j = 0 ∧ v = .int .u8 y := by
      cases j with
      | zero => exact ⟨rfl, (Option.some.inj hv).symm⟩
      | succ j => simp [byteC] at hv
    obtain ⟨rfl, rfl⟩ := hj
    have hi := (List.getElem?_eq_some_iff.1 hy).1
    rw [← hxs, List.getElem?_map] at hy
    obtain ⟨b, hb, rfl⟩ := Option.map_eq_some_iff.1 hy
    show (bytesRow s G)[0 + i * 1 + 0]? = _
    unfold bytesRow
    have hi2 : i < s.size := by omega
    rw [Array.getElem?_append_left (by simpa using hi2)]
    have hb2 : s.data[i]? = some b := by rw [← Array.getElem?_toList]; exact hb
    simp [hb2]
theorem freeze_own {b k : Nat} {T : TypeId} {cs : List Value} (hb : w.heap[b]? = some (.cells cs.toArray T (0, 0))) : w.freeze ⟨b, k, none⟩ 1 = w.putObj b (.cells cs.toArray T (k, k + 1)) := by
  have hlt : b < w.heap.size := (Array.getElem?_eq_some_iff.1 hb).1
  have hv : w.heap[b] = .cells cs.toArray T (0, 0) := (Array.getElem?_eq_some_iff.1 hb).2
  unfold World.freeze World.putObj
  rw [if_neg (by decide)]
  congr 1
  apply Array.ext
  · simp
  · intro i h1 h2
    by_cases h : b = i
    · subst h; simp [Array.getElem_modify, hv]
    · rw [Array.getElem_modify, if_neg h, Array.getElem_setIfInBounds_ne _ h]
/-- A conversion of bytes to their own type: the block is marked, and stands still from here on. -/
theorem d_markF {b k : Nat} {xs : List Int} (hS : St [] w0 I0 I w (.cel b e (flat byteC xs) :: L)) (ht : t = t') (hT : P.underlying t = some (.slice e)) (he : P.underlying e = some (.int .u8)) (hx : ev n σ x = .slice (some ⟨b, 0, none⟩) k k) (hk : k = xs.length) (hl : xs.length ≤ 1048576) :
    Does P (ev n σ) (.convert t t' x) ty w fun v w' => ∃ I', v = .slice (some ⟨b, 0, none⟩) k k ∧ St [] w0 I0 I' w' L ∧ Inl.Sub I I' ∧ RBytes I' v xs := by
  subst ht; subst hk
  have hb : w.heap[b]? = some (.cells (flat byteC xs).toArray e (0, 0)) := hS.hold _ (List.mem_cons_self ..)
  have hlen : (flat byteC xs).length = xs.length := by rw [flat_length byteC_len, Nat.mul_one]
  have hfz := freeze_own (k := xs.length) hb
  have hsh : w.shape? b = some (e, xs.length) := by unfold World.shape?; rw [hb]; simp [hlen]
  have hS1 : St [] w0 I0 I (w.putObj b (.cells (flat byteC xs).toArray e (xs.length, xs.length + 1))) (.obj b (.cells (flat byteC xs).toArray e (xs.length, xs.length + 1)) :: L) := by
    have hlt := (Array.getElem?_eq_some_iff.1 hb).1
    exact hS.change (k := 0) (r' := .obj b (.cells (flat byteC xs).toArray e (xs.length, xs.length + 1))) rfl rfl rfl rfl (by simp) (fun c _ hc => World.putObj_heap_other (fun e => hc (by simp [Res.foot, e]))) (fun c hc => .inl hc) (by simp [Res.foot]) (World.putObj_heap_same hlt)
  obtain ⟨I', hS', hsub, hI⟩ := St.freezeO hS1
  refine does_value (v := .slice (some ⟨b, 0, none⟩) xs.length xs.length) (w' := w.putObj b (.cells (flat byteC xs).toArray e (xs.length, xs.length + 1))) ?_ ⟨I', rfl, hS', hsub, ?_⟩
  · simp [execOp, hx, convert, run_underlying hT, run_underlying he, Result.andThen, markStringish, hsh, hfz]
  · refine .inr ⟨b, 0, xs.length, rfl, Nat.le_refl _, by unfold maxLen; omega, fun i y hy => ⟨_, rfl, ⟨rfl, _, _, _, hI, fun j v hv => ?_⟩, rfl⟩⟩
    have := flat_get byteC_len xs i y hy j v hv
    show (flat byteC xs).toArray[0 + i * 1 + j]? = some v
    rw [Nat.zero_add, List.getElem?_toArray]; exact this
end
end Go.Inl
