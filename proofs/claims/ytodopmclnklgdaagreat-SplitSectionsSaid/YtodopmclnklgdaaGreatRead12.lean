/- The raw sections of the laws of chapter 12 read as plain data. Conditions: none. -/
import Derived.Test.YtodopmclnklgdaaGreatKSplit
import Derived.Test.YtodopmclnklgdaaGreatRead6
namespace Go.Proofs.YtodopmclnklgdaaGreat
open Go Go.Inl Go.RowKit Go.ChangeShapes Go.WideShapes
section
variable {H : Type} {enc : TypeId × Value → H} {P : Program} {w : World}
/-- A struct of four fields of one cell each. -/
theorem opens_struct4 {t t0 t1 t2 t3 : TypeId} {f0 f1 f2 f3 : Field} {R0 R1 R2 R3 : List Value → Prop} (ht : P.underlying t = some (.struct #[f0, f1, f2, f3])) (h0 : Opens enc P w t0 R0) (h1 : Opens enc P w t1 R1) (h2 : Opens enc P w t2 R2) (h3 : Opens enc P w t3 R3)
    (e0 : f0.type = t0) (e1 : f1.type = t1) (e2 : f2.type = t2) (e3 : f3.type = t3) (o0 : f0.offset = 0) (o1 : f1.offset = 1) (o2 : f2.offset = 2) (o3 : f3.offset = 3) (c0 : P.cellsOf t0 = 1) (c1 : P.cellsOf t1 = 1) (c2 : P.cellsOf t2 = 1) (c3 : P.cellsOf t3 = 1) (hc : P.cellsOf t = 4) :
    Opens enc P w t (fun cs => ∃ a b c d, cs = a ++ b ++ c ++ d ∧ R0 a ∧ R1 b ∧ R2 c ∧ R3 d) := fun _ cs _ h => by
  obtain ⟨y0, y1, y2, y3, n, _, hl, k0, k1, k2, k3⟩ := Joins.trod_struct4 ht h
  subst e0 e1 e2 e3
  rw [o0, List.drop_zero, c0] at k0
  rw [o1, c1] at k1
  rw [o2, c2] at k2
  rw [o3, c3] at k3
  refine ⟨_, _, _, _, ?_, h0 _ _ _ k0, h1 _ _ _ k1, h2 _ _ _ k2, h3 _ _ _ k3⟩
  rw [hc] at hl
  match cs, hl with
  | [x, y, z, u], _ => rfl
instance : Inhabited R1L := ⟨⟨0, 0, 0, false⟩⟩
theorem opens_r1 : Opens enc Tryz.prog w 145 (fun cs => ∃ r : R1L, cs = r1C r ∧ r.wf) := by
  refine opens_mono (opens_struct4 Tryz.underlying145 (opens_int Tryz.underlying5) (opens_int Tryz.underlying5) (opens_int Tryz.underlying5) (opens_bool Tryz.underlying4) rfl rfl rfl rfl rfl rfl rfl rfl (by kernel_rfl) (by kernel_rfl) (by kernel_rfl) (by kernel_rfl) (by kernel_rfl)) ?_
  rintro cs ⟨_, _, _, _, rfl, ⟨a, rfl, ha⟩, ⟨b, rfl, hb⟩, ⟨c, rfl, hc⟩, ⟨d, rfl⟩⟩
  exact ⟨⟨a, b, c, d⟩, rfl, u8_of ha, u8_of hb, u8_of hc⟩
theorem opens_r1s : Opens enc Tryz.prog w 72 (fun cs => ∃ a cap, ∃ l : List R1L, cs = [.slice a l.length cap] ∧ RFl (memI w) 4 r1C (.slice a l.length cap) l ∧ ∀ q ∈ l, q.wf) := by
  refine opens_mono (opens_slice (α := R1L) (fun cs x => cs = r1C x ∧ x.wf) Tryz.underlying72 (sz := 4) (by kernel_rfl) (by decide) opens_r1) ?_
  rintro cs ⟨a, len, cap, xs, rfl, rfl, h⟩
  exact ⟨a, cap, xs, rfl, h.part⟩
end

end Go.Proofs.YtodopmclnklgdaaGreat

