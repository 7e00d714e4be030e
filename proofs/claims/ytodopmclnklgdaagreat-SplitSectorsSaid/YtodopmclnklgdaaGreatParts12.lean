/- Parts of a right patch: what the laws of chapter 12 that apply patches need. Conditions: none. -/
import Derived.Test.YtodopmclnklgdaaGreatSMref
import Derived.Test.YtodopmclnklgdaaGreatSLifted
import Derived.Test.YtodopmclnklgdaaGreatCommon6
namespace Go.Proofs.YtodopmclnklgdaaGreat
open Go Go.RowKit Go.Inl
set_option linter.unusedSimpArgs false
set_option linter.unusedVariables false
structure PartFor (p : PatL) (r : Int × Int) (F : PatL) : Prop where
  eq : F = formOf false p.in_ (((symsOf p.ops).take r.2.toNat).drop r.1.toNat)
  chk : (checkP F).2 = 0
  wf : F.wf
  lif : F.lifted = false
  in_ : F.in_ = p.in_
  out : F.out = (((symsOf p.ops).take r.2.toNat).drop r.1.toNat).length
  syms : symsOf F.ops = ((symsOf p.ops).take r.2.toNat).drop r.1.toNat
  cost : sumC F.ops ≤ (bestP (symsOf p.ops)).cost
theorem part_for {p : PatL} (hw : p.wf) (hk : (checkP p).2 = 0) (ho : p.out ≤ 4096) (r : Int × Int) : PartFor p r (partP p r) := by
  obtain ⟨k1, k2, k3, k4, k5, k6, k7⟩ := checkP_ok hk
  have hok := (ops_ok _ k1).1
  have hsw := symsOf_wf hw
  rw [symbolsP_ok hk] at hsw
  have hokr : okL p.in_ (((symsOf p.ops).take r.2.toNat).drop r.1.toNat) := fun s hs => hok s (List.mem_of_mem_take (List.mem_of_mem_drop hs))
  have hswr : ∀ s ∈ ((symsOf p.ops).take r.2.toNat).drop r.1.toNat, s.wf := fun s hs => hsw s (List.mem_of_mem_take (List.mem_of_mem_drop hs))
  have hl : (((symsOf p.ops).take r.2.toNat).drop r.1.toNat).length ≤ 4096 := by rw [List.length_drop, List.length_take]; omega
  have e : partP p r = formOf false p.in_ (((symsOf p.ops).take r.2.toNat).drop r.1.toNat) := by unfold partP; rw [part_ok hk ho r]
  have hs := optL_spec hokr
  rw [e]
  refine ⟨rfl, formOf_check ⟨k3, k4⟩ hl hokr, formOf_wf ⟨k3, k4⟩ hl hokr hswr, rfl, rfl, rfl, hs.1, ?_⟩
  show sumC (optL _) ≤ _
  rw [hs.2.2.1]
  have h1 := (best_join (n := p.in_) (a := (symsOf p.ops).take r.2.toNat) (b := (symsOf p.ops).drop r.2.toNat) (by rw [List.take_append_drop]; exact hok)).2.1
  rw [List.take_append_drop] at h1
  have h2 := (best_join (n := p.in_) (a := ((symsOf p.ops).take r.2.toNat).take r.1.toNat) (b := ((symsOf p.ops).take r.2.toNat).drop r.1.toNat) (by rw [List.take_append_drop]; exact fun s hs => hok s (List.mem_of_mem_take hs))).2.2
  rw [List.take_append_drop] at h2
  omega
theorem form_best {p F : PatL} (hF : FormFor p F) (hk : (checkP p).2 = 0) (ho : p.out ≤ 4096) : F = formOf p.lifted p.in_ (symsOf p.ops) ∧ sumC F.ops = (bestP (symsOf p.ops)).cost := by
  have h := hF.form
  rw [formP_ok hk ho] at h
  obtain rfl := (Prod.mk.inj h).1
  exact ⟨rfl, (optL_spec (ops_ok _ (checkP_ok hk).1).1).2.2.1⟩
theorem split_K (p : PatL) (l : List SecL) (D : List PatL) (e : Int) (ad sd : Option Addr) (m cap n scap : Nat) (w0 : World) (I0 : Imm) (hI : Sat I0 w0) (hops : ROps I0 (.slice ad m cap) p.ops) (hp : p.wf) (ho : p.out ≤ 4096) (hl : RSecs I0 (.slice sd n scap) l) (hn : n = l.length) (hok : SecsOk l) (he : splitP p l = (D, e)) :
    Ctr Tryz.prog 43 [.agg #[.bool p.lifted, .int .i64 p.in_, .int .i64 p.out, .slice ad m cap], .slice sd n scap] w0 (fun v w' => ∃ I' a c, v = .tuple #[.slice a D.length c, .int .i64 e] ∧ Ext w0 I0 w' I' ∧ RPats I' (.slice a D.length c) D) :=
  split_E p l (D, e) ad sd m cap n scap w0 I0 hI hops hp ho hl hn hok he
theorem sectors_K (p : PatL) (size : Int) (D : List PatL) (e : Int) (ad : Option Addr) (m cap : Nat) (w0 : World) (I0 : Imm) (hI : Sat I0 w0) (hops : ROps I0 (.slice ad m cap) p.ops) (hp : p.wf) (ho : p.out ≤ 4096) (hs : Mid size) (he : sectorsP p size = (D, e)) :
    Ctr Tryz.prog 38 [.agg #[.bool p.lifted, .int .i64 p.in_, .int .i64 p.out, .slice ad m cap], .int .i64 size] w0 (fun v w' => ∃ I' a c, v = .tuple #[.slice a D.length c, .int .i64 e] ∧ Ext w0 I0 w' I' ∧ RPats I' (.slice a D.length c) D) :=
  sectors_E p size (D, e) ad m cap w0 I0 hI hops hp ho hs he
theorem splitP_ok {p : PatL} (hk : (checkP p).2 = 0) (hl : p.lifted = false) {S : List SecL} (h : ∀ s ∈ S, s.to ≤ p.out) : splitP p S = (partsP p (S.map secR), 0) := by
  unfold splitP plainP
  rw [if_neg (by simp [hk, hl]), if_neg]
  simp only [List.any_eq_true, decide_eq_true_eq, not_exists, not_and]
  intro s hs
  have := h s hs
  omega
theorem madeS_to {l : List R1L} {n : Int} (hw : ∀ r ∈ l, r.wf) : ∀ s ∈ madeS l n, s.to ≤ n := fun s hs => by
  obtain ⟨i, hi, rfl⟩ := List.getElem_of_mem hs
  exact (goS_spec l hw 0 0 i _ (List.getElem?_eq_getElem hi)).2.2.2.2.1

end Go.Proofs.YtodopmclnklgdaaGreat

