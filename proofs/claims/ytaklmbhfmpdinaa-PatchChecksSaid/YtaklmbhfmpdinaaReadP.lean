/- A patch as an argument, read as plain data. Conditions: none. -/
import Derived.Test.YtaklmbhfmpdinaaRead6
import Derived.Test.YtaklmbhfmpdinaaCheckW
namespace Go.Proofs.Ytaklmbhfmpdinaa
open Go Go.Inl Go.RowKit Go.ChangeShapes Go.WideShapes
section
variable {H : Type} {enc : TypeId × Value → H} {P : Program} {w : World}
theorem opens_st4 {t t0 t1 t2 t3 : TypeId} {f0 f1 f2 f3 : Field} {R0 R1 R2 R3 : List Value → Prop} (ht : P.underlying t = some (.struct #[f0, f1, f2, f3])) (h0 : Opens enc P w t0 R0) (h1 : Opens enc P w t1 R1) (h2 : Opens enc P w t2 R2) (h3 : Opens enc P w t3 R3)
    (e0 : f0.type = t0) (e1 : f1.type = t1) (e2 : f2.type = t2) (e3 : f3.type = t3) (o0 : f0.offset = 0) (o1 : f1.offset = 1) (o2 : f2.offset = 2) (o3 : f3.offset = 3) (c0 : P.cellsOf t0 = 1) (c1 : P.cellsOf t1 = 1) (c2 : P.cellsOf t2 = 1) (c3 : P.cellsOf t3 = 1) (hc : P.cellsOf t = 4) :
    Opens enc P w t (fun cs => ∃ a b c d, cs = a ++ b ++ c ++ d ∧ R0 a ∧ R1 b ∧ R2 c ∧ R3 d) := fun _ cs _ h => by
  obtain ⟨y0, y1, y2, y3, n, _, hl, k0, k1, k2, k3⟩ := Joins.trod_struct4 ht h
  subst e0 e1 e2 e3
  rw [o0, List.drop_zero, c0] at k0
  rw [o1, c1] at k1
  rw [o2, c2] at k2
  rw [o3, c3] at k3
  refine ⟨_, _, _, _, ?_, h0 _ _ _ k0, h1 _ _ _ k1, h2 _ _ _ k2, h3 _ _ _ k3⟩
  rw [hc] at hl
  match cs, hl with
  | [x, y, z, u], _ => rfl
theorem trod_struct5 {base : Nat} {spare : Nat → Bool} {held : Bool} {t : TypeId} {f0 f1 f2 f3 f4 : Field} {fuel : Nat} {cs : List Value} {x : DataW H × List MemPlace} (ht : P.underlying t = some (.struct #[f0, f1, f2, f3, f4])) (h : DataW.trod enc P w base spare held fuel t cs = some x) :
    ∃ y0 y1 y2 y3 y4 n, cs.length = P.cellsOf t ∧ DataW.trod enc P w base spare held n f0.type ((cs.drop f0.offset).take (P.cellsOf f0.type)) = some y0 ∧
      DataW.trod enc P w base spare held n f1.type ((cs.drop f1.offset).take (P.cellsOf f1.type)) = some y1 ∧ DataW.trod enc P w base spare held n f2.type ((cs.drop f2.offset).take (P.cellsOf f2.type)) = some y2 ∧
      DataW.trod enc P w base spare held n f3.type ((cs.drop f3.offset).take (P.cellsOf f3.type)) = some y3 ∧ DataW.trod enc P w base spare held n f4.type ((cs.drop f4.offset).take (P.cellsOf f4.type)) = some y4 := by
  obtain ⟨xs, n, _, rfl, hl, hlen, hf⟩ := DataW.trod_struct ht h
  match xs, hlen with
  | [y0, y1, y2, y3, y4], _ => exact ⟨y0, y1, y2, y3, y4, n, hl, by simpa using hf 0 f0 rfl, by simpa using hf 1 f1 rfl, by simpa using hf 2 f2 rfl, by simpa using hf 3 f3 rfl, by simpa using hf 4 f4 rfl⟩
theorem opens_st5 {t t0 t1 t2 t3 t4 : TypeId} {f0 f1 f2 f3 f4 : Field} {R0 R1 R2 R3 R4 : List Value → Prop} (ht : P.underlying t = some (.struct #[f0, f1, f2, f3, f4])) (h0 : Opens enc P w t0 R0) (h1 : Opens enc P w t1 R1) (h2 : Opens enc P w t2 R2) (h3 : Opens enc P w t3 R3) (h4 : Opens enc P w t4 R4)
    (e0 : f0.type = t0) (e1 : f1.type = t1) (e2 : f2.type = t2) (e3 : f3.type = t3) (e4 : f4.type = t4) (o0 : f0.offset = 0) (o1 : f1.offset = 1) (o2 : f2.offset = 2) (o3 : f3.offset = 3) (o4 : f4.offset = 4) (c0 : P.cellsOf t0 = 1) (c1 : P.cellsOf t1 = 1) (c2 : P.cellsOf t2 = 1) (c3 : P.cellsOf t3 = 1) (c4 : P.cellsOf t4 = 1) (hc : P.cellsOf t = 5) :
    Opens enc P w t (fun cs => ∃ a b c d e, cs = a ++ b ++ c ++ d ++ e ∧ R0 a ∧ R1 b ∧ R2 c ∧ R3 d ∧ R4 e) := fun _ cs _ h => by
  obtain ⟨y0, y1, y2, y3, y4, n, hl, k0, k1, k2, k3, k4⟩ := trod_struct5 ht h
  subst e0 e1 e2 e3 e4
  rw [o0, List.drop_zero, c0] at k0
  rw [o1, c1] at k1
  rw [o2, c2] at k2
  rw [o3, c3] at k3
  rw [o4, c4] at k4
  refine ⟨_, _, _, _, _, ?_, h0 _ _ _ k0, h1 _ _ _ k1, h2 _ _ _ k2, h3 _ _ _ k3, h4 _ _ _ k4⟩
  rw [hc] at hl
  match cs, hl with
  | [x, y, z, u, v], _ => rfl
instance : Inhabited OpL := ⟨⟨0, 0, 0, 0, []⟩⟩
/-- The bytes of an operation are bytes. -/
def OpB (x : OpL) : Prop := (0 ≤ x.b ∧ x.b ≤ 255) ∧ ∀ y ∈ x.data, 0 ≤ y ∧ y ≤ 255
theorem opens_op : Opens enc Try.prog w 35 (fun cs => ∃ x : OpL, ROp (memI w) cs x ∧ OpB x) := by
  refine opens_mono (opens_st5 Try.underlying35 (opens_int Try.underlying3) (opens_int Try.underlying3) (opens_int Try.underlying3) (opens_int Try.underlying5) (opens_bytes Try.underlying33 Try.underlying5 (by kernel_rfl)) rfl rfl rfl rfl rfl rfl rfl rfl rfl rfl (by kernel_rfl) (by kernel_rfl) (by kernel_rfl) (by kernel_rfl) (by kernel_rfl) (by kernel_rfl)) ?_
  rintro cs ⟨_, _, _, _, _, rfl, ⟨a, rfl, ha⟩, ⟨b, rfl, hb⟩, ⟨c, rfl, hc⟩, ⟨d, rfl, hd⟩, ⟨ad, cap, l, rfl, h1, h2⟩⟩
  exact ⟨⟨a, b, c, d, l⟩, ⟨ad, l.length, cap, rfl, h1⟩, u8_of hd, h2⟩
theorem opens_pat : Opens enc Try.prog w 24 (fun cs => ∃ (p : PatL) (ad : Option Addr) (m cap : Nat), cs = [.bool p.lifted, .int .i64 p.in_, .int .i64 p.out, .slice ad m cap] ∧ ROps (memI w) (.slice ad m cap) p.ops ∧ ∀ x ∈ p.ops, OpB x) := by
  refine opens_mono (opens_st4 Try.underlying24 (opens_bool Try.underlying4) (opens_int Try.underlying3) (opens_int Try.underlying3) (opens_slice (α := OpL) (fun cs x => ROp (memI w) cs x ∧ OpB x) Try.underlying22 (sz := 5) (by kernel_rfl) (by decide) opens_op) rfl rfl rfl rfl rfl rfl rfl rfl (by kernel_rfl) (by kernel_rfl) (by kernel_rfl) (by kernel_rfl) (by kernel_rfl)) ?_
  rintro cs ⟨_, _, _, _, rfl, ⟨a, rfl⟩, ⟨b, rfl, hb⟩, ⟨c, rfl, hc⟩, ⟨ad, len, cap, xs, rfl, rfl, h⟩⟩
  exact ⟨⟨a, b, c, xs⟩, ad, xs.length, cap, rfl, h.part⟩
end

end Go.Proofs.Ytaklmbhfmpdinaa

