/- The laws of chapter 30: plain consequences, and contracts with names. Conditions: good servers. -/
import Derived.Test.YtcajgkfgjpfmaaaGreatSvB
set_option linter.unusedSimpArgs false
set_option linter.unusedVariables false
namespace Go.Proofs.YtcajgkfgjpfmaaaGreat
open Go Go.RowKit Go.Inl
theorem needR_E (a b c : Int) (m : NeedL) (w0 : World) (I0 : Imm) (hI : Sat I0 w0) (ha : 0 ≤ a ∧ a ≤ 255) (hb : 0 ≤ b ∧ b ≤ 255) (hc : 0 ≤ c ∧ c ≤ 255) (hm : needQ a b c = m) :
 Ctr Tryz.prog 13 [.agg #[.int .u8 a, .int .u8 b, .int .u8 c]] w0 (fun v w' => v = .agg #[.int .i64 m.s, .int .i64 m.u, .int .i64 m.r, .int .i64 m.e, .int .i64 m.o] ∧ Ext w0 I0 w' I0) := by
 subst hm; exact needR_c a b c w0 I0 hI ha hb hc
theorem version_E (s : SrvL) (A : SrvA) (n f : Int) (w0 : World) (I0 : Imm) (hI : Sat I0 w0) (hs : RSrv I0 A s) (hn : 0 ≤ n ∧ n ≤ 255) (hf : versP s n = f) :
 Ctr Tryz.prog 14 [.agg #[.slice A.a0 s.g.vs.length A.c0, .slice A.a1 s.g.ls.length A.c1, .slice A.a2 s.ps.length A.c2, .slice A.a3 s.gone.length A.c3, .slice A.a4 s.cache.length A.c4], .int .u8 n] w0 (fun u w' => u = .int .i64 f ∧ Ext w0 I0 w' I0) := by
 subst hf; exact version_c s A n w0 I0 hI hs hn
structure NeedB (m : NeedL) : Prop where
 s : 0 ≤ m.s ∧ m.s ≤ 255
 u : 0 ≤ m.u ∧ m.u ≤ 255
 r : 0 ≤ m.r ∧ m.r ≤ 255
 e : 0 ≤ m.e ∧ m.e ≤ 255
 o : 0 ≤ m.o ∧ m.o ≤ 255
theorem needQ_b {a b c : Int} {m : NeedL} (ha : 0 ≤ a ∧ a ≤ 255) (hb : 0 ≤ b ∧ b ≤ 255) (hc : 0 ≤ c ∧ c ≤ 255) (hm : needQ a b c = m) : NeedB m := by
 subst hm
 unfold needQ
 refine ⟨?_, ?_, ?_, ?_, ?_⟩ <;> dsimp only <;> omega
theorem last_at {J : Imm} {a : Option Addr} {c : Nat} {l : List Int} (h : RFl J 1 intC (.slice a l.length c) l) (hl : 0 < l.length) : atI J (elA (.slice a l.length c) ((l.length : Int) - 1).toNat 1 0) (intC (lastI l)) := by
 rw [show ((l.length : Int) - 1).toNat = l.length - 1 by omega]
 exact h.at (by unfold lastI; exact getD_get30 (by omega))
theorem lim_best {s : SrvL} (hg : GoodS s) (hc : CacheOk s) {m m' : NeedL} (hm : LeN m m') {f : Int} (h : (bestP s f m).e = 0) : (bestP s f m').e = 0 ∧ 0 < (bestP s f m).o.way.length ∧ 0 < (bestP s f m').o.way.length ∧ lastI (bestP s f m).o.way ≤ lastI (bestP s f m').o.way := by
 obtain ⟨hf, h0, h1, h2, _⟩ := best_last hg hc h
 have hmem := open_mono hg.b hm hf (lastI_mem h0)
 have h0' : openP s f m' ≠ [] := fun e => by rw [e] at hmem; cases hmem
 obtain ⟨d, _, _, _, k⟩ := best_some hg hc hf h0'
 have he : (bestP s f m').e = 0 := by rw [k]
 obtain ⟨_, _, k1, k2, _⟩ := best_last hg hc he
 refine ⟨he, List.length_pos_iff.2 h1, List.length_pos_iff.2 k1, ?_⟩
 rw [h2, k2]
 exact lastI_max (openP_inc hg f m') _ hmem
theorem esc_cases {s : SrvL} (hg : GoodS s) (hc : CacheOk s) {f : Int} {m : NeedL} (h : (escP s f m).e = 0) : f ∈ s.g.vs ∧ f ∈ s.gone ∧ openP s f m ≠ [] := by
 by_cases hf : f ∈ s.g.vs
 · by_cases hgn : f ∈ s.gone
   · by_cases h0 : openP s f m = []
     · rw [esc_none hf hgn h0] at h; cases h
     · exact ⟨hf, hgn, h0⟩
   · rw [esc_arg hf hgn] at h; cases h
 · rw [esc_no hf] at h; cases h
theorem lim_esc {s : SrvL} (hg : GoodS s) (hc : CacheOk s) {m m' : NeedL} (hm : LeN m m') {f : Int} (h : (escP s f m).e = 0) : (escP s f m').e = 0 ∧ (escP s f m').o.c ≤ (escP s f m).o.c := by
 obtain ⟨hf, hgn, h0⟩ := esc_cases hg hc h
 obtain ⟨d, h1, _, h2, _, _, h3⟩ := esc_some hg hc hf hgn h0
 have hmem := open_mono hg.b hm hf h2
 have h0' : openP s f m' ≠ [] := fun e => by rw [e] at hmem; cases hmem
 obtain ⟨d', k1, _, _, _, k2, k3⟩ := esc_some hg hc hf hgn h0'
 rw [h3, k3]
 refine ⟨rfl, ?_⟩
 obtain ⟨d2, j1, j2⟩ := rch_mono hg.b hm h1
 have := k2 _ hmem d2 j1
 show d'.c ≤ d.c
 omega
theorem leN_add {m b : NeedL} (hb : NeedB b) : LeN m ⟨m.s + b.s, m.u + b.u, m.r + b.r, m.e + b.e, m.o + b.o⟩ := ⟨fun n h => by
 obtain ⟨h1, h2, h3, h4, h5⟩ := hb
 exact fit_mono h (by dsimp only; omega) (by dsimp only; omega) (by dsimp only; omega) (by dsimp only; omega) (by dsimp only; omega)⟩
end Go.Proofs.YtcajgkfgjpfmaaaGreat
