/- inlaylaw06.PatchMakes: its function answers true. Conditions: arguments are of their kinds. -/
import Derived.Test.YthfgchcdilodlaaPSymbols
import Derived.Test.YthfgchcdilodlaaLeastL
import Derived.Test.YthfgchcdilodlaaRefOf
import Derived.Test.YthfgchcdilodlaaCore15
namespace Go.Proofs.Ythfgchcdilodlaa
open Go Go.RowKit Go.Inl
set_option linter.unusedSimpArgs false
set_option linter.unusedVariables false
def gluedP (a b : OpL) : Bool := (decide (a.kind = 3) || decide (b.kind = 3)) || (decide (a.kind = b.kind) && (decide (a.kind = 4) || decide (a.from_ + a.len = b.from_)))
theorem ofLen_stop {K f : Int} : ∀ (l : List Sym) (j : Nat) (t : Sym), l[ofLen K f l j]? = some t → sameK K f (j + ofLen K f l j) t = false
  | [], j, t, h => by simp at h
  | u :: r, j, t, h => by
    rw [ofLen] at h ⊢
    by_cases hs : sameK K f j u = true
    · rw [if_pos hs] at h ⊢
      have := ofLen_stop r (j + 1) t (by simpa using h)
      rw [show j + (ofLen K f r (j + 1) + 1) = j + 1 + ofLen K f r (j + 1) by omega]; exact this
    · rw [if_neg hs] at h ⊢
      simp at h; subst h; simpa using hs
theorem apart_of {s t : Sym} {r q : List Sym} {k k' : Nat} (hk : 1 ≤ k) (hk2 : k ≤ (s :: r).length) (hk' : 1 ≤ k') (h : sameK (kindP s) s.at_ k t = false) : gluedP (opS (kindP s) ((s :: r).take k)) (opS (kindP t) ((t :: q).take k')) = false := by
  obtain ⟨k, rfl⟩ : ∃ j, k = j + 1 := ⟨k - 1, by omega⟩
  obtain ⟨k', rfl⟩ : ∃ j, k' = j + 1 := ⟨k' - 1, by omega⟩
  have hlen : ((s :: r).take (k + 1)).length = k + 1 := by rw [List.length_take]; omega
  unfold gluedP opS
  simp only [hlen]
  simp only [List.take_succ_cons, List.headD_cons]
  unfold sameK at h
  rcases kindP_bd s with e | e | e <;> rcases kindP_bd t with e' | e' | e' <;> rw [e] at h ⊢ <;> rw [e'] at h ⊢ <;> simp at h ⊢ <;> omega
theorem ofGo_apart : ∀ (m : Nat) (l : List Sym) (i : Nat) (a b : OpL), (ofGo m l)[i]? = some a → (ofGo m l)[i + 1]? = some b → gluedP a b = false
  | 0, l, i, a, b, h, _ => by simp [ofGo] at h
  | m + 1, [], i, a, b, h, _ => by simp [ofGo] at h
  | m + 1, s :: r, i + 1, a, b, h, h' => by
    rw [ofGo] at h h'
    exact ofGo_apart m _ i a b (by simpa using h) (by simpa using h')
  | m + 1, s :: r, 0, a, b, h, h' => by
    rw [ofGo] at h h'
    obtain rfl : opS (kindP s) ((s :: r).take (ofLen (kindP s) s.at_ (s :: r) 0)) = a := by simpa using h
    have h' : (ofGo m ((s :: r).drop (ofLen (kindP s) s.at_ (s :: r) 0)))[0]? = some b := by simpa using h'
    have hp := ofLen_pos s r
    have hle := ofLen_le (kindP s) s.at_ (s :: r) 0
    have hst := ofLen_stop (K := kindP s) (f := s.at_) (s :: r) 0
    obtain ⟨k, hk⟩ : ∃ k, ofLen (kindP s) s.at_ (s :: r) 0 = k := ⟨_, rfl⟩
    rw [hk] at h' hp hle hst ⊢
    cases m with
    | zero => simp [ofGo] at h'
    | succ m =>
      cases hd : (s :: r).drop k with
      | nil => rw [hd, ofGo_nil] at h'; simp at h'
      | cons t q =>
        rw [hd, ofGo] at h'
        obtain rfl : opS (kindP t) ((t :: q).take (ofLen (kindP t) t.at_ (t :: q) 0)) = b := by simpa using h'
        have hat : (s :: r)[k]? = some t := by
          have : ((s :: r).drop k)[0]? = some t := by rw [hd]; rfl
          rwa [List.getElem?_drop, Nat.add_zero] at this
        exact apart_of hp hle (ofLen_pos t q) (by have := hst t hat; rwa [Nat.zero_add] at this)
theorem ofP_apart {l : List Sym} {i : Nat} {a b : OpL} (h : (ofP l)[i]? = some a) (h' : (ofP l)[i + 1]? = some b) : gluedP a b = false := ofGo_apart _ _ _ _ _ h h'

theorem rawSyms6_E (ad : Option Addr) (cap : Nat) (l : List Q2) (size : Int) (A : List Sym) (w0 : World) (I0 : Imm) (hI : Sat I0 w0) (hl : RFl I0 2 q2C (.slice ad l.length cap) l) (hq : ∀ q ∈ l, q.wf) (hs : 0 ≤ size ∧ size ≤ 65536) (he : symsRaw l size = A) :
    Ctr Try.prog 18 [.slice ad l.length cap, .int .i64 size] w0 (fun v w' => ∃ I' a c, v = .slice a A.length c ∧ Ext w0 I0 w' I' ∧ RSyms I' (.slice a A.length c) A) := by
  subst he
  refine (rawSyms_c ad cap l size w0 I0 hI hl hq hs.1 hs.2).mono ?_
  rintro v w' ⟨I', a, m, c, hv, hE, h, rfl⟩
  exact ⟨I', a, c, hv, hE, h⟩
theorem of_L (ad : Option Addr) (cap n : Nat) (l : List Sym) (size : Int) (O : List OpL) (w0 : World) (I0 : Imm) (hI : Sat I0 w0) (hl : RSyms I0 (.slice ad n cap) l) (hn : n = l.length) (hw : ∀ s ∈ l, s.wf) (he : ofPP l size = (⟨false, size, l.length, O⟩, 0)) :
    Ctr Try.prog 19 [.slice ad n cap, .int .i64 size] w0 (fun v w' => ∃ I' a m c, v = .tuple #[.agg #[.bool false, .int .i64 size, .int .i64 l.length, .slice a m c], .int .i64 0] ∧ Ext w0 I0 w' I' ∧ ROps I' (.slice a m c) O) :=
  patchOf_E ad cap n l size _ w0 I0 hI hl hn hw he
theorem of_N (ad : Option Addr) (cap n : Nat) (l : List Sym) (size : Int) (w0 : World) (I0 : Imm) (hI : Sat I0 w0) (hl : RSyms I0 (.slice ad n cap) l) (hn : n = l.length) (hw : ∀ s ∈ l, s.wf) (hs : size < 0) :
    Ctr Try.prog 19 [.slice ad n cap, .int .i64 size] w0 (fun v w' => ∃ I' a m c, v = .tuple #[.agg #[.bool false, .int .i64 0, .int .i64 0, .slice a m c], .int .i64 60] ∧ Ext w0 I0 w' I') :=
  (patchOf_E ad cap n l size (PatL.zero, 60) w0 I0 hI hl hn hw (by unfold ofPP; rw [if_pos (by simp [hs])])).mono fun v w' ⟨I', a, m, c, h1, h2, _⟩ => ⟨I', a, m, c, h1, h2⟩
theorem right_T (p : PatL) (ad : Option Addr) (m cap : Nat) (w0 : World) (I0 : Imm) (hI : Sat I0 w0) (hops : ROps I0 (.slice ad m cap) p.ops) (hp : p.wf) (hk : (checkP p).2 = 0) :
    Ctr Try.prog 20 [.agg #[.bool p.lifted, .int .i64 p.in_, .int .i64 p.out, .slice ad m cap]] w0 (fun v w' => v = .bool true ∧ Ext w0 I0 w' I0) := by
  have h := rightP_c p ad m cap w0 I0 hI hops hp
  rw [checkR_of hk] at h
  exact h
theorem g_eqbT6 {P : Program} {n : Nat} {σ : Nat → Value} {S : World → Prop} {ty t t' : TypeId} {x y : Operand} {a b : Bool} (ht : P.underlying t = some .bool) (hx : ev n σ x = .bool a) (hy : ev n σ y = .bool b) (hc : a = b) : Gives P (ev n σ) S (.binOp .eql t x y t') ty (.bool true) := by
  subst hc; have := g_eqlb (P := P) (S := S) (t' := t') (ty := ty) ht hx hy; rwa [beq_self_eq_true] at this
theorem g_eqF7 {P : Program} {n : Nat} {σ : Nat → Value} {S : World → Prop} {t t' ty : TypeId} {x y : Operand} {k : IntKind} {a b : Int} (hx : ev n σ x = .int k a) (hy : ev n σ y = .int k b) (h : ¬ a = b) : Gives P (ev n σ) S (.binOp .eql t x y t') ty (.bool false) := by
  have := g_eql (P := P) (S := S) (t := t) (t' := t') (ty := ty) hx hy
  rw [decide_eq_false h] at this; exact this
theorem of_more {n : Int} {A : List Sym} {s : Sym} (h0 : 0 ≤ n ∧ n ≤ 65536) (hl : A.length ≤ 20) (ok : okL n A) : ((ofPP (A ++ [s]) n).2 = 0 ∧ rightSymR s n = true) ∨ ((ofPP (A ++ [s]) n).2 = 60 ∧ rightSymR s n = false) := by
  rw [right_strange]
  cases hs : strange n s with
  | false =>
    refine .inl ⟨?_, rfl⟩
    rw [ofPP_ok h0 (by simp; omega) (fun t ht => by
      rcases List.mem_append.1 ht with h | h
      · exact ok t h
      · obtain rfl := List.mem_singleton.1 h; exact hs)]
  | true =>
    refine .inr ⟨?_, rfl⟩
    unfold ofPP
    rw [if_pos (by simp [hs])]

set_option maxRecDepth 20000 in
set_option maxHeartbeats 4000000 in
theorem pmakes_c (ad : Option Addr) (cap : Nat) (l : List Q2) (z u0 u1 u2 : Int) (w0 : World) (I0 : Imm) (hI : Sat I0 w0) (hl : RFl I0 2 q2C (.slice ad l.length cap) l) (hq : ∀ q ∈ l, q.wf) (hz : 0 ≤ z ∧ z ≤ 255) (hu0 : -128 ≤ u0 ∧ u0 ≤ 127) (hu1 : -128 ≤ u1 ∧ u1 ≤ 127) (hu2 : -128 ≤ u2 ∧ u2 ≤ 127) :
    Ctr Try.prog 5 [.slice ad l.length cap, .int .u8 z, .agg #[.int .i8 u0, .int .i8 u1, .int .i8 u2]] w0 (fun v w' => ∃ I', v = .bool true ∧ Ext w0 I0 w' I') := by
  have hs13 : 0 ≤ z % 13 ∧ z % 13 ≤ 65536 := by omega
  have hsl := symsRaw_len l (z % 13)
  have hsw := symsRaw_wf (size := z % 13) hq hs13.2
  have hok := symsRaw_ok (size := z % 13) hq
  obtain ⟨A, hA⟩ : ∃ A, symsRaw l (z % 13) = A := ⟨_, rfl⟩
  rw [hA] at hsl hsw hok
  have hA20 : A.length ≤ 20 := by omega
  have hP := ofPP_ok (n := z % 13) hs13 (show A.length ≤ 4096 by omega) hok
  have hPw := ofOf_wf hs13 (show A.length ≤ 4096 by omega) hsw
  have hPk := ofOf_check hs13 (show A.length ≤ 4096 by omega) hok
  obtain ⟨hPo, hPs⟩ := ofP_ok hok
  have hPl : (ofP A).length ≤ A.length := ofGo_len _ _
  have hap : ∀ i a b, (ofP A)[i]? = some a → (ofP A)[i + 1]? = some b → gluedP a b = false := fun _ _ _ h h' => ofP_apart h h'
  unfold ofOf at hP hPw hPk
  obtain ⟨O, hO⟩ : ∃ O, ofP A = O := ⟨_, rfl⟩
  rw [hO] at hP hPw hPk hPo hPs hPl hap
  have hSy : symbolsP ⟨false, z % 13, A.length, O⟩ = (A, 0) := by rw [symbolsP_ok hPk]; show (symsOf O, (0 : Int)) = _; rw [hPs]
  obtain ⟨s, hsd⟩ : ∃ s : Sym, s = ⟨decide (0 < u0), u1, 0⟩ := ⟨_, rfl⟩
  have hsw1 : ∀ t ∈ A ++ [s], t.wf := fun t ht => by
    rcases List.mem_append.1 ht with h | h
    · exact hsw t h
    · obtain rfl := List.mem_singleton.1 h; subst hsd; exact ⟨by show _ ≤ u1; omega, by show u1 ≤ _; omega, by show (0 : Int) ≤ 0; omega, by show (0 : Int) ≤ 255; omega⟩
  have hC := of_more (s := s) hs13 hA20 hok
  obtain ⟨C, hCe⟩ : ∃ C, ofPP (A ++ [s]) (z % 13) = C := ⟨_, rfl⟩
  rw [hCe] at hC
  refine fn (n := 167) Try.func5 rfl rfl rfl ?_
  have hS := St.start hI
  refine wpIn_seq ?_
  refine reg ?_
  refine qe (d_box (cs := [.int .i8 _, .int .i8 _, .int .i8 _]) hS rfl) ?_
  clear hS
  rintro _ w_1 ⟨b5, rfl, hS⟩
  refine qq hS (g_assignv (v := .bool _) rfl) ?_
  refine ol_nil (thenN ?_)
  refine wpIn_seq ?_
  refine reg ?_
  refine qe (d_call Try.call9 rfl (sanity6_c _ _ hS.imm)) ?_
  rintro _ w_2 ⟨I_f, rfl, hE⟩
  replace hS := hS.callE hE
  replace hl := hl.mono hE.ext
  refine qq hS (g_assignv (v := .bool _) rfl) ?_
  refine ol_nil (thenN ?_)
  refine wpIn_seq ?_
  refine reg ?_
  refine qq hS (g_movev (v := .int .u8 _) rfl) ?_
  refine qq hS (g_convi Try.underlying5 Try.underlying3 rfl (by omega) (by omega)) ?_
  refine qq hS (g_rem rfl rfl (by omega) (by omega)) ?_
  refine qq hS (g_assignv (v := .int .i64 _) rfl) ?_
  refine ol_nil (thenN ?_)
  refine wpIn_seq ?_
  refine reg ?_
  refine qq hS (g_move _) ?_
  refine qq hS (g_movev (v := .int .i64 _) rfl) ?_
  refine qe (d_call Try.call18 rfl (rawSyms6_E ad cap l (z % 13) A _ _ hS.imm hl hq hs13 hA)) ?_
  rintro _ w_3 ⟨I_f, a28, c28, rfl, hE, h28⟩
  replace hS := hS.callE hE
  replace hl := hl.mono hE.ext
  refine qq hS (g_assign _) ?_
  refine ol_nil (thenN ?_)
  refine wpIn_seq ?_
  refine reg ?_
  refine qq hS (g_move _) ?_
  refine qq hS (g_movev (v := .int .i64 _) rfl) ?_
  refine qe (d_call Try.call19 rfl (of_L _ _ _ A (z % 13) O _ _ hS.imm h28 rfl hsw hP)) ?_
  rintro _ w_4 ⟨I_f, a32, m32, c32, rfl, hE, h32⟩
  replace hS := hS.callE hE
  replace hl := hl.mono hE.ext
  replace h28 := h28.mono hE.ext
  refine qq hS (g_move _) ?_
  refine qq hS (g_extract rfl rfl) ?_
  refine qq hS (g_extract (v := .int .i64 _) rfl rfl) ?_
  refine qe (d_alloc (cs := [.bool _, .int .i64 _, .int .i64 _, .slice _ _ _]) hS Try.zeroValue24 rfl) ?_
  clear hS
  rintro _ w_5 ⟨b10, rfl, hS⟩
  refine qe (d_store 0 hS Try.sizeOf24 rfl rfl rfl (vs := [.bool _, .int .i64 _, .int .i64 _, .slice _ _ _]) rfl rfl rfl (Nat.le_of_ble_eq_true rfl) (cs' := [_, _, _, _]) rfl) ?_
  clear hS
  rintro _ w_6 ⟨rfl, hS⟩
  refine qq hS (g_assignv (v := .int .i64 _) rfl) ?_
  refine ol_nil (thenN ?_)
  refine wpIn_seq ?_
  refine wpIn_seq ?_
  refine reg ?_
  refine qq hS (g_movev (v := .int .i64 _) rfl) ?_
  refine qq hS (g_neq rfl rfl) ?_
  refine qq hS (g_movev (v := .bool _) rfl) ?_
  refine qqs rfl rfl hS (g_ldO 0 (vs := [.bool _, .int .i64 _, .int .i64 _, .slice _ _ _]) Try.sizeOf24 Try.isAgg24 rfl rfl rfl rfl) ?_
  refine qes rfl rfl (d_call Try.call20 rfl (right_T (⟨false, z % 13, A.length, O⟩ : PatL) _ _ _ _ _ hS.imm h32 hPw hPk)) ?_
  rintro _ w_7 ⟨rfl, hE⟩
  replace hS := hS.callE hE
  refine qqs rfl rfl hS (g_not rfl) ?_
  refine qq hS (g_or rfl rfl (fun _ => rfl)) ?_
  refine qq hS (g_movev (v := .bool _) rfl) ?_
  refine qqs rfl rfl hS (g_fieldAddr (o' := 0) Try.underlying24 rfl Try.sizeOf4 rfl rfl rfl) ?_
  refine qqs rfl rfl hS (g_ldO1 0 Try.isAgg4 rfl rfl rfl) ?_
  refine qq hS (g_or rfl rfl (fun _ => rfl)) ?_
  refine qq hS (g_movev (v := .bool _) rfl) ?_
  refine qqs rfl rfl hS (g_fieldAddr (o' := 1) Try.underlying24 rfl Try.sizeOf3 rfl rfl rfl) ?_
  refine qqs rfl rfl hS (g_ldO1 0 Try.isAgg3 rfl rfl rfl) ?_
  refine qqs rfl rfl hS (g_movev (v := .int .i64 _) rfl) ?_
  refine qqs rfl rfl hS (g_neqF rfl rfl rfl) ?_
  refine qq hS (g_or rfl rfl (fun _ => rfl)) ?_
  refine ol_nil (thenN ?_)
  refine cond_f (rfl) ?_
  refine wpIn_skip ?_
  refine thenN ?_
  refine wpIn_seq ?_
  refine reg ?_
  refine qq hS (g_ldO 0 (vs := [.bool _, .int .i64 _, .int .i64 _, .slice _ _ _]) Try.sizeOf24 Try.isAgg24 rfl rfl rfl rfl) ?_
  refine qe (d_call Try.call14 rfl (symbols_e (⟨false, z % 13, A.length, O⟩ : PatL) _ _ _ (A, 0) _ _ hS.imm h32 hPw hSy)) ?_
  rintro _ w_8 ⟨I_f, a54, c54, rfl, hE, h54⟩
  replace hS := hS.callE hE
  replace hl := hl.mono hE.ext
  replace h28 := h28.mono hE.ext
  replace h32 := h32.mono hE.ext
  refine qq hS (g_move _) ?_
  refine qq hS (g_extract rfl rfl) ?_
  refine qq hS (g_extract (v := .int .i64 _) rfl rfl) ?_
  refine qq hS (g_assign _) ?_
  refine qq hS (g_assignv (v := .int .i64 _) rfl) ?_
  refine ol_nil (thenN ?_)
  refine wpIn_seq ?_
  refine wpIn_seq ?_
  refine reg ?_
  refine qq hS (g_movev (v := .int .i64 _) rfl) ?_
  refine qq hS (g_neq rfl rfl) ?_
  refine qq hS (g_movev (v := .bool _) rfl) ?_
  refine qqs rfl rfl hS (g_move _) ?_
  refine qqs rfl rfl hS (g_move _) ?_
  refine qes rfl rfl (d_call Try.call21 rfl (sameSyms_E _ _ A A _ _ hS.imm h28 h54 (symsEq_iff.2 rfl))) ?_
  rintro _ w_9 ⟨rfl, hE⟩
  replace hS := hS.callE hE
  refine qqs rfl rfl hS (g_not rfl) ?_
  refine qq hS (g_or rfl rfl (fun _ => rfl)) ?_
  refine ol_nil (thenN ?_)
  refine cond_f (rfl) ?_
  refine wpIn_skip ?_
  refine thenN ?_
  refine wpIn_seq ?_
  refine wpIn_seq ?_
  refine reg ?_
  refine qq hS (g_assignv (v := .int .i64 _) rfl) ?_
  refine ol_nil (thenN ?_)
  refine wpIn_block ?_
  refine loop (fun (i : Nat) σ w => okS σ [(5, .pointer (some ⟨b5, 0, none⟩)), (7, .bool true), (8, .int .i64 (z % 13)), (9, .slice a28 A.length c28), (10, .pointer (some ⟨b10, 0, none⟩)), (14, .int .i64 i)] ∧ St [] w0 I0 I_f w [.cel b10 24 [.bool false, .int .i64 (z % 13), .int .i64 A.length, .slice a32 m32 c32], .cel b5 55 [.int .i8 u0, .int .i8 u1, .int .i8 u2]] ∧ 1 ≤ i) (fun i => O.length - i) (1) ?_ ?_
  ·
    exact ⟨⟨rfl, rfl, rfl, rfl, rfl, rfl, trivial⟩, hS.sel [true, true], by omega⟩
  ·
    rintro i σ w_l ⟨hs, hS, hi1⟩
    rw [← upds_self hs]; clear hs
    refine wpIn_seq ?_
    refine wpIn_seq ?_
    refine reg ?_
    refine qq hS (g_movev (v := .int .i64 _) rfl) ?_
    refine qq hS (g_fieldAddr (o' := 3) Try.underlying24 rfl Try.sizeOf22 rfl rfl rfl) ?_
    refine qq hS (g_ldO1 0 Try.isAgg22 rfl rfl rfl) ?_
    refine qq hS (g_lenI rfl Try.underlying22 h32 rfl) ?_
    refine qq hS (g_lss rfl rfl) ?_
    refine ol_nil (thenN ?_)
    refine cond_s rfl ?_ ?_
    ·
      intro hc69
      try simp only [Bool.and_eq_true, Bool.or_eq_true, Bool.not_eq_true', Bool.and_eq_false_imp, Bool.or_eq_false_iff, Bool.not_eq_false', decide_eq_true_eq, decide_eq_false_iff_not] at hc69
      obtain ⟨j, rfl⟩ : ∃ j, i = j + 1 := ⟨i - 1, by omega⟩
      obtain ⟨x, hx⟩ : ∃ x, O[j]? = some x := ⟨_, List.getElem?_eq_getElem (by omega)⟩
      obtain ⟨y, hy⟩ : ∃ y, O[j + 1]? = some y := ⟨_, List.getElem?_eq_getElem (by omega)⟩
      have hxw := hPw.ops x (List.mem_of_getElem? hx)
      have hyw := hPw.ops y (List.mem_of_getElem? hy)
      obtain ⟨⟨x1, x2⟩, ⟨x3, x4⟩, ⟨x5, x6⟩, _⟩ := hxw
      have hfin := hap j x y hx hy
      unfold gluedP at hfin
      obtain ⟨cs, hcl, hxA, hro⟩ := RSl.at h32 hx
      obtain ⟨adx, mx, capx, rfl, hdx⟩ := hro
      have hxB : atI I_f (elA (.slice a32 m32 c32) ((((j + 1 : Nat) : Int) - 1).toNat) 5 0) [.int .i64 x.kind, .int .i64 x.from_, .int .i64 x.len, .int .u8 x.b, .slice adx mx capx] := by rw [show (((j + 1 : Nat) : Int) - 1).toNat = j by omega]; exact hxA
      obtain ⟨ct, hcl2, hyA, hro⟩ := RSl.at h32 hy
      obtain ⟨ady, my, capy, rfl, hdy⟩ := hro
      refine wpIn_skip ?_
      refine thenN ?_
      refine wpIn_seq ?_
      refine wpIn_block ?_
      refine meet (fun σ w => ∃ b15 b16, okS σ [(5, .pointer (some ⟨b5, 0, none⟩)), (7, .bool true), (8, .int .i64 (z % 13)), (9, .slice a28 A.length c28), (10, .pointer (some ⟨b10, 0, none⟩)), (14, .int .i64 ((j + 1 : Nat) : Int)), (15, .pointer (some ⟨b15, 0, none⟩)), (16, .pointer (some ⟨b16, 0, none⟩))] ∧ St [] w0 I0 I_f w [.cel b16 35 [.int .i64 y.kind, .int .i64 y.from_, .int .i64 y.len, .int .u8 y.b, .slice ady my capy], .cel b15 35 [.int .i64 x.kind, .int .i64 x.from_, .int .i64 x.len, .int .u8 x.b, .slice adx mx capx], .cel b10 24 [.bool false, .int .i64 (z % 13), .int .i64 A.length, .slice a32 m32 c32], .cel b5 55 [.int .i8 u0, .int .i8 u1, .int .i8 u2]]) ?_ ?_
      ·
        refine drawS [true, true] (.cons 0 .pure (.cons 1 .held (.cons 2 .pure (.cons 3 .pure (.cons 4 .pure (.cons 5 .held (.cons 6 .pure (.cons 7 .held (.cons 8 .pure (.cons 9 .pure (.cons 10 .held (.fork 11 (.cons 12 .eff (.cons 13 .eff (.cons 14 .eff .nil))) 12 (.cons 11 .eff (.cons 13 .eff (.cons 14 .eff .nil))))))))))))))) mixed (by kernel_rfl) hS ?_
        intro w_10 hS
        refine sp rfl (g_fieldAddr (o' := 3) Try.underlying24 rfl Try.sizeOf22 rfl rfl rfl) ?_
        refine sh rfl (g_ldO1 0 Try.isAgg22 rfl rfl rfl) ?_
        refine sp rfl (g_movev (v := .int .i64 _) rfl) ?_
        refine sp rfl (g_sub rfl rfl (by omega) (by omega)) ?_
        refine sp rfl (g_ixI Try.underlying22 Try.sizeOf35 h32 rfl rfl (by omega) (by omega)) ?_
        refine sh rfl (g_ldE (us := [.int .i64 _, .int .i64 _, .int .i64 _, .int .u8 _, .slice _ _ _]) Try.sizeOf35 Try.isAgg35 hxB rfl rfl rfl) ?_
        refine sp rfl (g_fieldAddr (o' := 3) Try.underlying24 rfl Try.sizeOf22 rfl rfl rfl) ?_
        refine sh rfl (g_ldO1 0 Try.isAgg22 rfl rfl rfl) ?_
        refine sp rfl (g_movev (v := .int .i64 _) rfl) ?_
        refine sp rfl (g_ixI Try.underlying22 Try.sizeOf35 h32 rfl rfl (by omega) (by omega)) ?_
        refine sh rfl (g_ldE (us := [.int .i64 _, .int .i64 _, .int .i64 _, .int .u8 _, .slice _ _ _]) Try.sizeOf35 Try.isAgg35 hyA rfl rfl rfl) ?_
        refine sk ?_ ?_
        ·
          have hS0 := hS
          refine se rfl (d_alloc (cs := [.int .i64 _, .int .i64 _, .int .i64 _, .int .u8 _, .slice _ _ _]) hS Try.zeroValue35 rfl) ?_
          rintro _ w_11 ⟨b15, rfl, hS⟩
          refine ⟨_, _, fun _ h => h, hS.sel [false, true, true], ?_⟩
          have hS0 := hS
          refine se rfl (d_alloc (cs := [.int .i64 _, .int .i64 _, .int .i64 _, .int .u8 _, .slice _ _ _]) hS Try.zeroValue35 rfl) ?_
          rintro _ w_12 ⟨b16, rfl, hS⟩
          refine ⟨_, _, fun _ h => h, hS.sel [false, false, true, true], ?_⟩
          have hS0 := hS
          refine se rfl (d_store 1 hS Try.sizeOf35 rfl rfl rfl (vs := [.int .i64 _, .int .i64 _, .int .i64 _, .int .u8 _, .slice _ _ _]) rfl rfl rfl (Nat.le_of_ble_eq_true rfl) (cs' := [_, _, _, _, _]) rfl) ?_
          rintro _ w_13 ⟨rfl, hS⟩
          refine ⟨_, _, fun _ h => h, hS.sel [false, false, true, true], ?_⟩
          have hS0 := hS
          refine se rfl (d_store 0 hS Try.sizeOf35 rfl rfl rfl (vs := [.int .i64 _, .int .i64 _, .int .i64 _, .int .u8 _, .slice _ _ _]) rfl rfl rfl (Nat.le_of_ble_eq_true rfl) (cs' := [_, _, _, _, _]) rfl) ?_
          rintro _ w_14 ⟨rfl, hS⟩
          refine ⟨_, _, fun _ h => h, hS.sel [false, false, true, true], ?_⟩
          refine sn (thenN ?_)
          exact ⟨_, rfl, _, _, ⟨rfl, rfl, rfl, rfl, rfl, rfl, rfl, rfl, trivial⟩, hS⟩
        ·
          have hS0 := hS
          refine se rfl (d_alloc (cs := [.int .i64 _, .int .i64 _, .int .i64 _, .int .u8 _, .slice _ _ _]) hS Try.zeroValue35 rfl) ?_
          rintro _ w_15 ⟨b16, rfl, hS⟩
          refine ⟨_, _, fun _ h => h, hS.sel [false, true, true], ?_⟩
          have hS0 := hS
          refine se rfl (d_alloc (cs := [.int .i64 _, .int .i64 _, .int .i64 _, .int .u8 _, .slice _ _ _]) hS Try.zeroValue35 rfl) ?_
          rintro _ w_16 ⟨b15, rfl, hS⟩
          refine ⟨_, _, fun _ h => h, hS.sel [false, false, true, true], ?_⟩
          have hS0 := hS
          refine se rfl (d_store 0 hS Try.sizeOf35 rfl rfl rfl (vs := [.int .i64 _, .int .i64 _, .int .i64 _, .int .u8 _, .slice _ _ _]) rfl rfl rfl (Nat.le_of_ble_eq_true rfl) (cs' := [_, _, _, _, _]) rfl) ?_
          rintro _ w_17 ⟨rfl, hS⟩
          refine ⟨_, _, fun _ h => h, hS.sel [false, false, true, true], ?_⟩
          have hS0 := hS
          refine se rfl (d_store 1 hS Try.sizeOf35 rfl rfl rfl (vs := [.int .i64 _, .int .i64 _, .int .i64 _, .int .u8 _, .slice _ _ _]) rfl rfl rfl (Nat.le_of_ble_eq_true rfl) (cs' := [_, _, _, _, _]) rfl) ?_
          rintro _ w_18 ⟨rfl, hS⟩
          refine ⟨_, _, fun _ h => h, hS.sel [false, false, true, true], ?_⟩
          refine sn (thenN ?_)
          exact ⟨_, rfl, _, _, ⟨rfl, rfl, rfl, rfl, rfl, rfl, rfl, rfl, trivial⟩, (hS.ord [1, 0, 2, 3])⟩
      ·
        rintro σ w ⟨b15, b16, hs, hS⟩
        rw [← upds_self hs]
        refine wpIn_seq ?_
        refine reg ?_
        refine qq hS (g_fieldAddr (o' := 0) Try.underlying35 rfl Try.sizeOf3 rfl rfl rfl) ?_
        refine qq hS (g_ldO1 1 Try.isAgg3 rfl rfl rfl) ?_
        refine qq hS (g_eql rfl rfl) ?_
        refine qq hS (g_movev (v := .bool _) rfl) ?_
        refine qu rfl rfl hS (fun hg => (g_fieldAddr (o' := 0) Try.underlying35 rfl Try.sizeOf3 rfl rfl rfl)) ?_
        intro u87 hu87 hn87
        refine qu rfl rfl hS (fun hg => (g_ldO1 0 Try.isAgg3 rfl (hu87 hg) rfl)) ?_
        intro u88 hu88 hn88
        refine qu rfl rfl hS (fun hg => (g_eql (hu88 hg) rfl)) ?_
        intro u89 hu89 hn89
        refine qq hS (g_or rfl rfl (fun hq => hu89 hq)) ?_
        refine qq hS (g_movev (v := .bool _) rfl) ?_
        refine qu rfl rfl hS (fun hg => (g_fieldAddr (o' := 0) Try.underlying35 rfl Try.sizeOf3 rfl rfl rfl)) ?_
        intro u92 hu92 hn92
        refine qu rfl rfl hS (fun hg => (g_ldO1 1 Try.isAgg3 rfl (hu92 hg) rfl)) ?_
        intro u93 hu93 hn93
        refine qu rfl rfl hS (fun hg => (g_fieldAddr (o' := 0) Try.underlying35 rfl Try.sizeOf3 rfl rfl rfl)) ?_
        intro u94 hu94 hn94
        refine qu rfl rfl hS (fun hg => (g_ldO1 0 Try.isAgg3 rfl (hu94 hg) rfl)) ?_
        intro u95 hu95 hn95
        refine qu rfl rfl hS (fun hg => (g_eql (hu93 hg) (hu95 hg))) ?_
        intro u96 hu96 hn96
        refine qu rfl rfl hS (fun hg => (g_movev (hu96 hg))) ?_
        intro u97 hu97 hn97
        refine qn rfl hu97 hn97 hS (fun hg => (g_fieldAddr (o' := 0) Try.underlying35 rfl Try.sizeOf3 rfl rfl rfl)) ?_
        intro u98 hu98 hn98
        refine qn rfl hu97 hn97 hS (fun hg => (g_ldO1 1 Try.isAgg3 rfl (hu98 hg) rfl)) ?_
        intro u99 hu99 hn99
        refine qn rfl hu97 hn97 hS (fun hg => (g_eql (hu99 hg) rfl)) ?_
        intro u100 hu100 hn100
        refine qn rfl hu97 hn97 hS (fun hg => (g_movev (hu100 hg))) ?_
        intro u101 hu101 hn101
        refine qn rfl hu101 hn101 hS (fun hg => (g_fieldAddr (o' := 1) Try.underlying35 rfl Try.sizeOf3 rfl rfl rfl)) ?_
        intro u102 hu102 hn102
        refine qn rfl hu101 hn101 hS (fun hg => (g_ldO1 1 Try.isAgg3 rfl (hu102 hg) rfl)) ?_
        intro u103 hu103 hn103
        refine qn rfl hu101 hn101 hS (fun hg => (g_fieldAddr (o' := 2) Try.underlying35 rfl Try.sizeOf3 rfl rfl rfl)) ?_
        intro u104 hu104 hn104
        refine qn rfl hu101 hn101 hS (fun hg => (g_ldO1 1 Try.isAgg3 rfl (hu104 hg) rfl)) ?_
        intro u105 hu105 hn105
        refine qn rfl hu101 hn101 hS (fun hg => (g_add (hu103 hg) (hu105 hg) (by omega) (by omega))) ?_
        intro u106 hu106 hn106
        refine qn rfl hu101 hn101 hS (fun hg => (g_fieldAddr (o' := 1) Try.underlying35 rfl Try.sizeOf3 rfl rfl rfl)) ?_
        intro u107 hu107 hn107
        refine qn rfl hu101 hn101 hS (fun hg => (g_ldO1 0 Try.isAgg3 rfl (hu107 hg) rfl)) ?_
        intro u108 hu108 hn108
        refine qn rfl hu101 hn101 hS (fun hg => (g_eql (hu106 hg) (hu108 hg))) ?_
        intro u109 hu109 hn109
        refine qn rfl hu97 hn97 hS (fun hg => (g_or (hu101 hg) rfl (fun hq => hu109 ⟨hg, hq⟩))) ?_
        intro u110 hu110 hn110
        refine qu rfl rfl hS (fun hg => (g_and (hu97 hg) rfl (fun hq => hu110 ⟨hg, hq⟩))) ?_
        intro u111 hu111 hn111
        refine qq hS (g_or rfl rfl (fun hq => hu111 hq)) ?_
        refine ol_nil (thenN ?_)
        refine cond_f (congrArg Value.bool hfin) ?_
        refine wpIn_skip ?_
        refine blkN (thenN ?_)
        refine reg ?_
        refine qq hS (g_movev (v := .int .i64 _) rfl) ?_
        refine qq hS (g_add rfl rfl (by omega) (by omega)) ?_
        refine qq hS (g_assignv (v := .int .i64 _) rfl) ?_
        refine ol_nil (thenN ?_)
        exact ⟨j + 1 + 1, _, rfl, ⟨⟨rfl, rfl, rfl, rfl, rfl, rfl, trivial⟩, hS.sel [false, false, true, true], by omega⟩, by omega⟩
    ·
      intro hc69
      try simp only [Bool.and_eq_true, Bool.or_eq_true, Bool.not_eq_true', Bool.and_eq_false_imp, Bool.or_eq_false_iff, Bool.not_eq_false', decide_eq_true_eq, decide_eq_false_iff_not] at hc69
      refine wpIn_exit ?_
      refine thenE (thenE (blkE ?_))
      refine thenN ?_
      refine wpIn_seq ?_
      refine reg ?_
      refine qe (d_buildSlice0 hS Try.underlying43 Try.sizeOf51) ?_
      clear hS
      rintro _ w_19 ⟨hS, b113_, rfl⟩
      refine qq hS (g_move _) ?_
      refine qe (i_appendF 0 hS rfl Try.underlying43 info51 rfl rfl rfl rfl symC_len (fun _ => rfl) h28 rfl (by omega) (by omega)) ?_
      clear hS
      rintro _ w_20 ⟨a115, p115, rfl, hS⟩
      refine qq hS (g_assign _) ?_
      refine ol_nil (thenN ?_)
      refine wpIn_seq ?_
      refine reg ?_
      refine qq hS (g_move _) ?_
      refine qq hS (g_indexArr (o' := 0) Try.underlying55 Try.sizeOf54 rfl rfl (by decide) (by decide) rfl) ?_
      refine qq hS (g_ldO1 2 Try.isAgg54 rfl rfl rfl) ?_
      refine qq hS (g_gtr rfl rfl) ?_
      refine qq hS (g_indexArr (o' := 1) Try.underlying55 Try.sizeOf54 rfl rfl (by decide) (by decide) rfl) ?_
      refine qq hS (g_ldO1 2 Try.isAgg54 rfl rfl rfl) ?_
      refine qq hS (g_convi Try.underlying54 Try.underlying3 rfl (by omega) (by omega)) ?_
      refine qq hS (g_buildv (pl := [(0, 1), (1, 1), (2, 1)]) (cs := [.bool _, .int .i64 _, .int .u8 _]) Try.zeroValue51 Try.underlying51 (fun w => by simp [Try.sizeOf3, Try.sizeOf4, Try.sizeOf5]) (mp (v := .bool _) rfl (mp (v := .int .i64 _) rfl mp0)) rfl) ?_
      refine qe (d_lit (vs := [.agg #[.bool _, .int .i64 _, .int .u8 _]]) (cs := [.bool _, .int .i64 _, .int .u8 _]) hS Try.underlying43 Try.sizeOf51 Try.zeroValue51 rfl rfl rfl rfl (fun v hv => by simp only [List.mem_cons, List.not_mem_nil, or_false] at hv; subst hv; rfl) rfl) ?_
      clear hS
      rintro _ w_21 ⟨b_21, rfl, hS⟩
      refine qe (i_appendO 1 0 hS rfl Try.underlying43 info51 rfl rfl rfl rfl rfl rfl rfl rfl (by omega) (by omega)) ?_
      clear hS
      rintro _ w_22 ⟨a125, p125, rfl, hS⟩
      refine qq hS (g_assign _) ?_
      refine ol_nil (thenN ?_)
      refine wpIn_seq ?_
      have hwe : flat symC (A ++ [s]) = ([] ++ flat symC A) ++ [.bool (decide (0 < u0)), .int .i64 u1, .int .u8 0] := by rw [flat_append, flat_one, hsd]; rfl
      have hsi : (A ++ [s])[A.length]? = some s := by simp
      have hF := St.freezeRow (u := .slice a125 (0 + A.length + 1) p125) (m := 0 + A.length + 1) (xs := A ++ [s]) symC_len (by rw [hwe]; exact hS.ord [1, 0, 2, 3]) (by simp)
      clear hS
      obtain ⟨I_hwr, hS, hI_hwr, hwr⟩ := hF
      replace h28 := h28.mono hI_hwr
      replace h32 := h32.mono hI_hwr
      refine reg ?_
      refine qq hS (g_move _) ?_
      refine qq hS (g_movev (v := .int .i64 _) rfl) ?_
      refine qe (d_call Try.call19 rfl (patchOf_E _ _ _ (A ++ [s]) (z % 13) C _ _ hS.imm hwr (by simp) hsw1 hCe)) ?_
      rintro _ w_23 ⟨I_f, a129, m129, c129, rfl, hE, h129⟩
      replace hS := hS.callE hE
      replace h28 := h28.mono hE.ext
      replace h32 := h32.mono hE.ext
      replace hwr := hwr.mono hE.ext
      refine qq hS (g_move _) ?_
      refine qq hS (g_extract rfl rfl) ?_
      refine qq hS (g_extract (v := .int .i64 _) rfl rfl) ?_
      refine qe (d_alloc (cs := [.bool _, .int .i64 _, .int .i64 _, .slice _ _ _]) hS Try.zeroValue24 rfl) ?_
      clear hS
      rintro _ w_24 ⟨b18, rfl, hS⟩
      refine qe (d_store 0 hS Try.sizeOf24 rfl rfl rfl (vs := [.bool _, .int .i64 _, .int .i64 _, .slice _ _ _]) rfl rfl rfl (Nat.le_of_ble_eq_true rfl) (cs' := [_, _, _, _]) rfl) ?_
      clear hS
      rintro _ w_25 ⟨rfl, hS⟩
      refine qq hS (g_assignv (v := .int .i64 _) rfl) ?_
      refine ol_nil (thenN ?_)
      refine wpIn_seq ?_
      have hwb : 0 ≤ IntKind.u8.wrap u2 ∧ IntKind.u8.wrap u2 ≤ 255 := by rw [IntKind.wrap_u8]; omega
      refine reg ?_
      refine qq hS (g_move _) ?_
      refine qq hS (g_indexArr (o' := 2) Try.underlying55 Try.sizeOf54 rfl rfl (by decide) (by decide) rfl) ?_
      refine qq hS (g_ldO1 3 Try.isAgg54 rfl rfl rfl) ?_
      refine qq hS (g_conv Try.underlying54 Try.underlying5 rfl) ?_
      refine qq hS (g_convi Try.underlying5 Try.underlying3 rfl (by omega) (by omega)) ?_
      refine qq hS (g_sub rfl rfl (by omega) (by omega)) ?_
      refine qe (d_call Try.call19 rfl (of_N _ _ _ A _ _ _ hS.imm h28 rfl hsw (by omega))) ?_
      rintro _ w_26 ⟨I_f, a139, m139, c139, rfl, hE⟩
      replace hS := hS.callE hE
      replace h28 := h28.mono hE.ext
      replace h32 := h32.mono hE.ext
      replace hwr := hwr.mono hE.ext
      replace h129 := h129.mono hE.ext
      refine qq hS (g_move _) ?_
      refine qq hS (g_extract rfl rfl) ?_
      refine qq hS (g_extract (v := .int .i64 _) rfl rfl) ?_
      refine qe (d_alloc (cs := [.bool _, .int .i64 _, .int .i64 _, .slice _ _ _]) hS Try.zeroValue24 rfl) ?_
      clear hS
      rintro _ w_27 ⟨b20, rfl, hS⟩
      refine qe (d_store 0 hS Try.sizeOf24 rfl rfl rfl (vs := [.bool _, .int .i64 _, .int .i64 _, .slice _ _ _]) rfl rfl rfl (Nat.le_of_ble_eq_true rfl) (cs' := [_, _, _, _]) rfl) ?_
      clear hS
      rintro _ w_28 ⟨rfl, hS⟩
      refine qq hS (g_assignv (v := .int .i64 _) rfl) ?_
      refine ol_nil (thenN ?_)
      refine wpIn_seq ?_
      refine hC.elim (fun hc => ?_) (fun hc => ?_)
      ·
        have hsA := hwr.at hsi
        refine reg ?_
        refine qq hS (g_movev (v := .int .i64 _) rfl) ?_
        refine qq hS (g_eqT6 rfl rfl hc.1) ?_
        refine qq hS (g_move _) ?_
        refine qq hS (g_move _) ?_
        refine qq hS (g_lenI rfl Try.underlying43 h28 rfl) ?_
        refine qq hS (g_ixI Try.underlying43 Try.sizeOf51 hwr rfl rfl (by omega) (by simp; omega)) ?_
        refine qq hS (g_ldE (us := [.bool _, .int .i64 _, .int .u8 _]) Try.sizeOf51 Try.isAgg51 hsA rfl rfl rfl) ?_
        refine qq hS (g_movev (v := .int .i64 _) rfl) ?_
        refine qe (d_call Try.call22 rfl (rightSym_c s (z % 13) _ _ hS.imm ⟨by omega, by omega⟩)) ?_
        rintro _ w_29 ⟨rfl, hE⟩
        replace hS := hS.callE hE
        refine qq hS (g_eqbT6 rfl rfl rfl hc.2.symm) ?_
        refine qq hS (g_movev (v := .bool _) rfl) ?_
        refine qqs rfl rfl hS (g_movev (v := .int .i64 _) rfl) ?_
        refine qqs rfl rfl hS (g_eqT6 rfl rfl hc.1) ?_
        refine qqs rfl rfl hS (g_movev (v := .bool _) rfl) ?_
        refine qsf rfl rfl rfl ?_
        refine qsf rfl rfl rfl ?_
        refine qqs rfl rfl hS (g_or (b := true) rfl rfl (fun h => by cases h)) ?_
        refine qq hS (g_and rfl rfl (fun _ => rfl)) ?_
        refine qq hS (g_movev (v := .bool _) rfl) ?_
        refine qqs rfl rfl hS (g_movev (v := .int .i64 _) rfl) ?_
        refine qqs rfl rfl hS (g_eql rfl rfl) ?_
        refine qq hS (g_and rfl rfl (fun _ => rfl)) ?_
        refine qq hS (g_movev (v := .bool _) rfl) ?_
        refine qqs rfl rfl hS (g_movev (v := .bool _) rfl) ?_
        refine qq hS (g_and rfl rfl (fun _ => rfl)) ?_
        refine qq hS (g_assignv (v := .bool _) rfl) ?_
        refine ol_nil (thenN ?_)
        refine wpIn_ret ?_
        refine ret1 Try.results5 (rv_tmp (v := .bool _) rfl) ?_
        exact ⟨_, rfl, hS.nil⟩
      ·
        have hsA := hwr.at hsi
        refine reg ?_
        refine qq hS (g_movev (v := .int .i64 _) rfl) ?_
        refine qq hS (g_eqF7 rfl rfl (by omega)) ?_
        refine qq hS (g_move _) ?_
        refine qq hS (g_move _) ?_
        refine qq hS (g_lenI rfl Try.underlying43 h28 rfl) ?_
        refine qq hS (g_ixI Try.underlying43 Try.sizeOf51 hwr rfl rfl (by omega) (by simp; omega)) ?_
        refine qq hS (g_ldE (us := [.bool _, .int .i64 _, .int .u8 _]) Try.sizeOf51 Try.isAgg51 hsA rfl rfl rfl) ?_
        refine qq hS (g_movev (v := .int .i64 _) rfl) ?_
        refine qe (d_call Try.call22 rfl (rightSym_c s (z % 13) _ _ hS.imm ⟨by omega, by omega⟩)) ?_
        rintro _ w_30 ⟨rfl, hE⟩
        replace hS := hS.callE hE
        refine qq hS (g_eqbT6 rfl rfl rfl hc.2.symm) ?_
        refine qq hS (g_movev (v := .bool _) rfl) ?_
        refine qqs rfl rfl hS (g_movev (v := .int .i64 _) rfl) ?_
        refine qqs rfl rfl hS (g_eqF7 rfl rfl (by omega)) ?_
        refine qqs rfl rfl hS (g_movev (v := .bool _) rfl) ?_
        refine qqs rfl rfl hS (g_movev (v := .int .i64 _) rfl) ?_
        refine qqs rfl rfl hS (g_eqT6 rfl rfl hc.1) ?_
        refine qqs rfl rfl hS (g_or rfl rfl (fun _ => rfl)) ?_
        refine qq hS (g_and rfl rfl (fun _ => rfl)) ?_
        refine qq hS (g_movev (v := .bool _) rfl) ?_
        refine qqs rfl rfl hS (g_movev (v := .int .i64 _) rfl) ?_
        refine qqs rfl rfl hS (g_eql rfl rfl) ?_
        refine qq hS (g_and rfl rfl (fun _ => rfl)) ?_
        refine qq hS (g_movev (v := .bool _) rfl) ?_
        refine qqs rfl rfl hS (g_movev (v := .bool _) rfl) ?_
        refine qq hS (g_and rfl rfl (fun _ => rfl)) ?_
        refine qq hS (g_assignv (v := .bool _) rfl) ?_
        refine ol_nil (thenN ?_)
        refine wpIn_ret ?_
        refine ret1 Try.results5 (rv_tmp (v := .bool _) rfl) ?_
        exact ⟨_, rfl, hS.nil⟩

end Go.Proofs.Ythfgchcdilodlaa

