/- inlaylaw06.PatchLimits: its function answers true. Conditions: arguments are of their kinds. -/
import Derived.Test.YthfgchcdilodlaaPSymbols
import Derived.Test.YthfgchcdilodlaaLeastL
import Derived.Test.YthfgchcdilodlaaCore13
import Derived.Test.YthfgchcdilodlaaCore15
namespace Go.Proofs.Ythfgchcdilodlaa
open Go Go.RowKit Go.Inl
set_option linter.unusedSimpArgs false
set_option linter.unusedVariables false
def cp1 : OpL := ⟨1, 0, 1, 0, []⟩
def manyP (N : Nat) : PatL := ⟨false, 1, N, List.replicate N cp1⟩
theorem many_ops (N : Nat) : OpsOk 1 (List.replicate N cp1) := fun x hx => by rw [List.eq_of_mem_replicate hx]; exact ⟨by decide, by decide⟩
theorem many_syms : ∀ N : Nat, (symsOf (List.replicate N cp1)).length = N
  | 0 => rfl
  | N + 1 => by rw [List.replicate_succ, symsOf_cons, List.length_append, many_syms N, symsOp_length]; show (1 : Int).toNat + N = N + 1; omega
theorem many_fits {N : Nat} (h : N ≤ 4096) : (checkP (manyP N)).2 = 0 :=
  checkP_right (p := manyP N) ⟨by show (0 : Int) ≤ 1; omega, by show (1 : Int) ≤ 65536; omega⟩ (many_ops N) (by show ((symsOf (List.replicate N cp1)).length : Int) = N; rw [many_syms]) (by show (N : Int) ≤ _; omega) (by show (List.replicate N cp1).length ≤ _; rw [List.length_replicate]; exact h)
theorem many_big {N : Nat} (h : 4096 < N) : checkP (manyP N) = (-1, 60) := by
  have hb : badP (manyP N) = true := by
    unfold badP manyP
    simp; omega
  unfold checkP; rw [if_pos hb]
theorem many_wf {N : Nat} (h : N ≤ 65536) : (manyP N).wf := by
  refine ⟨⟨by show _ ≤ (1 : Int); omega, by show (1 : Int) ≤ _; omega⟩, ⟨by show _ ≤ (N : Int); omega, by show (N : Int) ≤ _; omega⟩, fun x hx => ?_, ?_⟩
  · rw [List.eq_of_mem_replicate hx]; exact okOps (l := [cp1]) (by decide) cp1 (List.mem_singleton.2 rfl)
  · show ((List.replicate N cp1).length : Int) ≤ _; rw [List.length_replicate]; omega
def sAlt (i : Nat) : Sym := ⟨decide ((i : Int) % 2 = 1), 0, 0⟩
def altS (N : Nat) : List Sym := (List.range N).map sAlt
def altL (N i : Nat) : List Sym := (List.range N).map fun j => if j < i then sAlt j else ⟨false, 0, 0⟩
theorem altL_0 (N : Nat) : altL N 0 = List.replicate N ⟨false, 0, 0⟩ := by
  apply List.ext_getElem
  · simp [altL]
  · intro j h1 h2; simp [altL]
theorem altL_N (N : Nat) : altL N N = altS N := List.map_congr_left fun j hj => by rw [if_pos (List.mem_range.1 hj)]
theorem altL_len (N i : Nat) : (altL N i).length = N := by simp [altL]
theorem altL_at {N i : Nat} (h : i < N) : (altL N i)[i]? = some ⟨false, 0, 0⟩ := by
  unfold altL
  rw [List.getElem?_map, List.getElem?_range h]
  simp
theorem altL_set {N i : Nat} (h : i < N) : (altL N i).set i (sAlt i) = altL N (i + 1) := by
  apply List.ext_getElem
  · simp [altL]
  · intro j h1 h2
    rw [List.getElem_set]
    by_cases e : i = j
    · subst e; simp [altL]
    · rw [if_neg e]
      simp only [altL, List.getElem_map, List.getElem_range]
      by_cases e2 : j < i
      · rw [if_pos e2, if_pos (by omega)]
      · rw [if_neg e2, if_neg (by omega)]
theorem altS_len (N : Nat) : (altS N).length = N := by simp [altS]
theorem altS_at {N i : Nat} {s : Sym} (h : (altS N)[i]? = some s) : s = sAlt i := by
  unfold altS at h
  rw [List.getElem?_map] at h
  obtain ⟨j, hj, rfl⟩ := Option.map_eq_some_iff.1 h
  obtain ⟨h1, h2⟩ := List.getElem?_eq_some_iff.1 hj
  rw [List.getElem_range] at h2
  subst h2; rfl
theorem altS_ok (N : Nat) : okL 1 (altS N) := fun s hs => by
  obtain ⟨i, _, rfl⟩ := List.mem_map.1 hs
  simp [strange, sAlt]
theorem altS_wf (N : Nat) : ∀ s ∈ altS N, s.wf := fun s hs => by
  obtain ⟨i, _, rfl⟩ := List.mem_map.1 hs
  exact ⟨by show _ ≤ (0 : Int); omega, by show (0 : Int) ≤ _; omega, by show (0 : Int) ≤ 0; omega, by show (0 : Int) ≤ 255; omega⟩
theorem ofGo_alt : ∀ (m : Nat) (l : List Sym), l.length ≤ m → (∀ i s t, l[i]? = some s → l[i + 1]? = some t → kindP t ≠ kindP s) → (ofGo m l).length = l.length
  | 0, l, h, _ => by have := List.length_eq_zero_iff.1 (Nat.le_zero.1 h); subst this; rfl
  | m + 1, [], _, _ => rfl
  | m + 1, s :: r, h, hk => by
    have h1 : ofLen (kindP s) s.at_ (s :: r) 0 = 1 := by
      rw [ofLen, if_pos (by simp [sameK])]
      cases r with
      | nil => rfl
      | cons t q =>
        rw [ofLen, if_neg]
        have := hk 0 s t rfl rfl
        simp [sameK, this]
    rw [ofGo, h1, List.length_cons]
    show (ofGo m r).length + 1 = r.length + 1
    rw [ofGo_alt m r (by simp at h; omega) fun i a b ha hb => hk (i + 1) a b (by simpa using ha) (by simpa using hb)]
theorem altS_of (N : Nat) : (ofP (altS N)).length = N := by
  have h := ofGo_alt (altS N).length (altS N) (Nat.le_refl _) fun i s t hs ht => by
    rw [altS_at hs, altS_at ht]
    unfold sAlt
    by_cases e : (i : Int) % 2 = 1
    · rw [decide_eq_true e, decide_eq_false (by omega)]; decide
    · rw [decide_eq_false e, decide_eq_true (by omega)]; decide
  rw [altS_len] at h
  unfold ofP; rw [altS_len]; exact h
theorem altS_pp {N : Nat} (hN : N ≤ 65536) : ofPP (altS N) 1 = if 4096 < N then (PatL.zero, 2) else (⟨false, 1, N, ofP (altS N)⟩, 0) := by
  unfold ofPP
  have h2 : (altS N).any (strange 1) = false := by rw [List.any_eq_false]; intro s hs; rw [altS_ok N s hs]; simp
  rw [if_neg (by simp [h2, altS_len]; omega), altS_of, altS_len]
  by_cases h : 4096 < N
  · rw [if_pos (by omega), if_pos h]
  · rw [if_neg (by omega), if_neg h]

structure LI6 where
  k : Nat
  a : Option Addr
  c : Nat
def cpC : List Value := [.int .i64 1, .int .i64 0, .int .i64 1, .int .u8 0, .slice none 0 0]
theorem rep_snoc (k : Nat) : (List.replicate (k + 1) cpC).flatten = (List.replicate k cpC).flatten ++ cpC := by
  rw [List.replicate_succ', List.flatten_append, List.flatten_singleton]
theorem all2_rep (I : Imm) : ∀ N : Nat, All2 (ROp I) (List.replicate N cpC) (List.replicate N cp1)
  | 0 => All2.nil _
  | N + 1 => All2.cons ⟨none, 0, 0, rfl, RFl.nil⟩ (all2_rep I N)
def longP : PatL := ⟨false, 65536, 65536, [⟨1, 0, 65536, 0, []⟩]⟩
theorem long_check : (checkP longP).2 = 0 := by
  refine checkP_right (p := longP) ⟨by decide, by decide⟩ ?_ ?_ (by decide) (by decide)
  · intro x hx
    obtain rfl := List.mem_singleton.1 hx
    exact ⟨by decide, by decide⟩
  · show ((symsOf [⟨1, 0, 65536, 0, []⟩]).length : Int) = 65536
    rw [symsOf_cons, List.length_append, symsOp_length]
    show (((65536 : Int).toNat + 0 : Nat) : Int) = 65536
    omega
theorem g_eqbT6 {P : Program} {n : Nat} {σ : Nat → Value} {S : World → Prop} {ty t t' : TypeId} {x y : Operand} {a b : Bool} (ht : P.underlying t = some .bool) (hx : ev n σ x = .bool a) (hy : ev n σ y = .bool b) (hc : a = b) : Gives P (ev n σ) S (.binOp .eql t x y t') ty (.bool true) := by
  subst hc; have := g_eqlb (P := P) (S := S) (t' := t') (ty := ty) ht hx hy; rwa [beq_self_eq_true] at this
theorem g_eqF7 {P : Program} {n : Nat} {σ : Nat → Value} {S : World → Prop} {t t' ty : TypeId} {x y : Operand} {k : IntKind} {a b : Int} (hx : ev n σ x = .int k a) (hy : ev n σ y = .int k b) (h : ¬ a = b) : Gives P (ev n σ) S (.binOp .eql t x y t') ty (.bool false) := by
  have := g_eql (P := P) (S := S) (t := t) (t' := t') (ty := ty) hx hy
  rw [decide_eq_false h] at this; exact this
theorem g_leT6 {P : Program} {n : Nat} {σ : Nat → Value} {S : World → Prop} {t t' ty : TypeId} {x y : Operand} {k : IntKind} {a b : Int} (hx : ev n σ x = .int k a) (hy : ev n σ y = .int k b) (h : a ≤ b) : Gives P (ev n σ) S (.binOp .leq t x y t') ty (.bool true) := by
  have := g_leq (P := P) (S := S) (t := t) (t' := t') (ty := ty) hx hy
  rw [decide_eq_true h] at this; exact this
theorem g_leF6 {P : Program} {n : Nat} {σ : Nat → Value} {S : World → Prop} {t t' ty : TypeId} {x y : Operand} {k : IntKind} {a b : Int} (hx : ev n σ x = .int k a) (hy : ev n σ y = .int k b) (h : ¬ a ≤ b) : Gives P (ev n σ) S (.binOp .leq t x y t') ty (.bool false) := by
  have := g_leq (P := P) (S := S) (t := t) (t' := t') (ty := ty) hx hy
  rw [decide_eq_false h] at this; exact this
theorem lim_cases (N : Nat) (hN : N ≤ 65536) : ∃ n e C, checkP (manyP N) = (n, e) ∧ ofPP (altS N) 1 = C ∧ ((N ≤ 4096 ∧ e = 0 ∧ C.2 = 0) ∨ (4096 < N ∧ n = -1 ∧ e = 60 ∧ C.2 = 2)) := by
  by_cases h : 4096 < N
  · exact ⟨-1, 60, (PatL.zero, 2), many_big h, by rw [altS_pp hN, if_pos h], .inr ⟨h, rfl, rfl, rfl⟩⟩
  · exact ⟨(checkP (manyP N)).1, 0, (⟨false, 1, N, ofP (altS N)⟩, 0), Prod.ext rfl (many_fits (by omega)), by rw [altS_pp hN, if_neg h], .inl ⟨by omega, rfl, rfl⟩⟩

set_option maxRecDepth 20000 in
set_option maxHeartbeats 4000000 in
theorem plimits_c (z : Int) (w0 : World) (I0 : Imm) (hI : Sat I0 w0) (hz : 0 ≤ z ∧ z ≤ 255) :
    Ctr Try.prog 8 [.int .u8 z] w0 (fun v w' => ∃ I', v = .bool true ∧ Ext w0 I0 w' I') := by
  obtain ⟨N, hN⟩ : ∃ N : Nat, 4095 + z / 8 % 3 = (N : Int) := ⟨(4095 + z / 8 % 3).toNat, by omega⟩
  have hN1 : N ≤ 4097 := by omega
  obtain ⟨n6, e6, C, hM, hC, hcase⟩ := lim_cases N (by omega)
  have hMw := many_wf (N := N) (by omega)
  have hl0 := long_check
  obtain ⟨ln, hln⟩ : ∃ ln, (checkP longP).1 = ln := ⟨_, rfl⟩
  have hlp : checkP longP = (ln, 0) := Prod.ext hln hl0
  refine fn (n := 143) Try.func8 rfl rfl rfl ?_
  have hS := St.start hI
  refine wpIn_seq ?_
  refine reg ?_
  refine qq hS (g_assignv (v := .bool _) rfl) ?_
  refine ol_nil (thenN ?_)
  refine wpIn_seq ?_
  refine reg ?_
  refine qe (d_call Try.call9 rfl (sanity6_c _ _ hS.imm)) ?_
  rintro _ w_1 ⟨I_f, rfl, hE⟩
  replace hS := hS.callE hE
  refine qq hS (g_assignv (v := .bool _) rfl) ?_
  refine ol_nil (thenN ?_)
  refine wpIn_seq ?_
  refine wpIn_seq ?_
  refine reg ?_
  refine qq hS (g_movev (v := .int .u8 _) rfl) ?_
  refine qq hS (g_rem rfl rfl (by omega) (by omega)) ?_
  refine qq hS (g_neq rfl rfl) ?_
  refine ol_nil (thenN ?_)
  refine cond_s rfl ?_ ?_
  ·
    intro hc23
    try simp only [Bool.and_eq_true, Bool.or_eq_true, Bool.not_eq_true', Bool.and_eq_false_imp, Bool.or_eq_false_iff, Bool.not_eq_false', decide_eq_true_eq, decide_eq_false_iff_not] at hc23
    refine wpIn_seq ?_
    refine reg ?_
    refine qq hS (g_movev (v := .bool _) rfl) ?_
    refine qq hS (g_assignv (v := .bool _) rfl) ?_
    refine ol_nil (thenN ?_)
    refine wpIn_ret ?_
    refine thenR ?_
    refine ret1 Try.results8 (rv_tmp (v := .bool _) rfl) ?_
    exact ⟨_, rfl, hS.nil⟩
  ·
    intro hc23
    try simp only [Bool.and_eq_true, Bool.or_eq_true, Bool.not_eq_true', Bool.and_eq_false_imp, Bool.or_eq_false_iff, Bool.not_eq_false', decide_eq_true_eq, decide_eq_false_iff_not] at hc23
    refine wpIn_skip ?_
    refine thenN ?_
    refine wpIn_seq ?_
    refine reg ?_
    refine qq hS (g_movev (v := .int .u8 _) rfl) ?_
    refine qq hS (g_convi Try.underlying5 Try.underlying3 rfl (by omega) (by omega)) ?_
    refine qq hS (g_quo rfl rfl (by omega) (by omega) (by omega)) ?_
    refine qq hS (g_rem rfl rfl (by omega) (by omega)) ?_
    refine qq hS (g_add rfl rfl (by omega) (by omega)) ?_
    refine qq hS (g_buildv (pl := [(0, 1), (1, 1), (2, 1), (3, 1)]) (cs := [.bool _, .int .i64 _, .int .i64 _, .slice _ _ _]) Try.zeroValue24 Try.underlying24 (fun w => by simp [Try.sizeOf22, Try.sizeOf3, Try.sizeOf4]) (mp (v := .int .i64 _) rfl (mp (v := .int .i64 _) rfl mp0)) rfl) ?_
    refine qe (d_alloc (cs := [.bool _, .int .i64 _, .int .i64 _, .slice _ _ _]) hS Try.zeroValue24 rfl) ?_
    clear hS
    rintro _ w_2 ⟨b4, rfl, hS⟩
    refine qe (d_store 0 hS Try.sizeOf24 rfl rfl rfl (vs := [.bool _, .int .i64 _, .int .i64 _, .slice _ _ _]) rfl rfl rfl (Nat.le_of_ble_eq_true rfl) (cs' := [_, _, _, _]) rfl) ?_
    clear hS
    rintro _ w_3 ⟨rfl, hS⟩
    refine ol_nil (thenN ?_)
    refine wpIn_seq ?_
    refine wpIn_seq ?_
    rw [hN] at hS
    refine reg ?_
    refine qq hS (g_assignv (v := .int .i64 _) rfl) ?_
    refine ol_nil (thenN ?_)
    refine wpIn_block ?_
    refine loop (fun (x : LI6) σ w => okS σ [(3, .bool true), (4, .pointer (some ⟨b4, 0, none⟩)), (5, .int .i64 x.k)] ∧ St [] w0 I0 I_f w [.row (.slice x.a x.k x.c) 35 5 x.k (List.replicate x.k cpC).flatten, .cel b4 24 [.bool false, .int .i64 1, .int .i64 N, .slice x.a x.k x.c]] ∧ x.k ≤ N) (fun x => N - x.k) (⟨0, none, 0⟩) ?_ ?_
    ·
      exact ⟨⟨rfl, rfl, rfl, trivial⟩, (hS.sel [true]).nilRow _ _, by dsimp only; omega⟩
    ·
      rintro ⟨k, a, c⟩ σ w_l ⟨hs, hS, hk0⟩
      dsimp only at hs hS hk0 ⊢
      rw [← upds_self hs]; clear hs
      refine wpIn_seq ?_
      refine wpIn_seq ?_
      refine reg ?_
      refine qq hS (g_movev (v := .int .i64 _) rfl) ?_
      refine qq hS (g_fieldAddr (o' := 2) Try.underlying24 rfl Try.sizeOf3 rfl rfl rfl) ?_
      refine qq hS (g_ldO1 1 Try.isAgg3 rfl rfl rfl) ?_
      refine qq hS (g_lss rfl rfl) ?_
      refine ol_nil (thenN ?_)
      refine cond_s rfl ?_ ?_
      ·
        intro hc34
        try simp only [Bool.and_eq_true, Bool.or_eq_true, Bool.not_eq_true', Bool.and_eq_false_imp, Bool.or_eq_false_iff, Bool.not_eq_false', decide_eq_true_eq, decide_eq_false_iff_not] at hc34
        refine wpIn_skip ?_
        refine thenN ?_
        refine wpIn_seq ?_
        refine wpIn_block ?_
        refine reg ?_
        refine qq hS (g_fieldAddr (o' := 3) Try.underlying24 rfl Try.sizeOf22 rfl rfl rfl) ?_
        refine qq hS (g_ldO1 1 Try.isAgg22 rfl rfl rfl) ?_
        refine qq hS (g_buildv (pl := [(0, 1), (1, 1), (2, 1), (3, 1), (4, 1)]) (cs := [.int .i64 _, .int .i64 _, .int .i64 _, .int .u8 _, .slice _ _ _]) Try.zeroValue35 Try.underlying35 (fun w => by simp [Try.sizeOf3, Try.sizeOf33, Try.sizeOf5]) (mp (v := .int .i64 _) rfl (mp (v := .int .i64 _) rfl mp0)) rfl) ?_
        refine qe (d_lit (vs := [.agg #[.int .i64 _, .int .i64 _, .int .i64 _, .int .u8 _, .slice _ _ _]]) (cs := [.int .i64 _, .int .i64 _, .int .i64 _, .int .u8 _, .slice _ _ _]) hS Try.underlying22 Try.sizeOf35 Try.zeroValue35 rfl rfl rfl rfl (fun v hv => by simp only [List.mem_cons, List.not_mem_nil, or_false] at hv; subst hv; rfl) rfl) ?_
        clear hS
        rintro _ w_4 ⟨b_4, rfl, hS⟩
        refine qe (i_appendO 1 0 hS rfl Try.underlying22 info35 rfl rfl rfl rfl rfl rfl rfl rfl (by omega) (by omega)) ?_
        clear hS
        rintro _ w_5 ⟨a41, p41, rfl, hS⟩
        refine qq hS (g_fieldAddr (o' := 3) Try.underlying24 rfl Try.sizeOf22 rfl rfl rfl) ?_
        refine qe (d_store 2 hS Try.sizeOf22 rfl rfl rfl (vs := [.slice _ _ _]) rfl rfl rfl (Nat.le_of_ble_eq_true rfl) (cs' := [_, _, _, _]) rfl) ?_
        clear hS
        rintro _ w_6 ⟨rfl, hS⟩
        refine ol_nil (blkN (thenN ?_))
        refine reg ?_
        refine qq hS (g_movev (v := .int .i64 _) rfl) ?_
        refine qq hS (g_add rfl rfl (by omega) (by omega)) ?_
        refine qq hS (g_assignv (v := .int .i64 _) rfl) ?_
        refine ol_nil (thenN ?_)
        refine ⟨⟨k + 1, a41, p41⟩, _, rfl, ⟨⟨rfl, rfl, rfl, trivial⟩, ?_, by dsimp only; omega⟩, by dsimp only; omega⟩
        dsimp only
        rw [rep_snoc]
        exact hS.sel [false, true, true]
      ·
        intro hc34
        try simp only [Bool.and_eq_true, Bool.or_eq_true, Bool.not_eq_true', Bool.and_eq_false_imp, Bool.or_eq_false_iff, Bool.not_eq_false', decide_eq_true_eq, decide_eq_false_iff_not] at hc34
        obtain rfl : N = k := by omega
        refine wpIn_exit ?_
        refine thenE (thenE (blkE ?_))
        refine thenN ?_
        refine wpIn_seq ?_
        have hF := St.freezeRowR (u := .slice a N c) (m := N) (xs := (manyP N).ops) (css := List.replicate N cpC) (by exact hS.ord [0, 1]) (by show N = (List.replicate N cp1).length; simp) (fun c hc => by rw [List.eq_of_mem_replicate hc]; rfl) (all2_rep I_f N)
        clear hS
        obtain ⟨I_hOps, hS, hI_hOps, hOps⟩ := hF
        replace hOps : ROps I_hOps (.slice a N c) ((manyP N).ops) := RSl.mono hOps (Sub.refl _) (fun _ _ h => h.mono hI_hOps)
        refine reg ?_
        refine qq hS (g_ldO 0 (vs := [.bool _, .int .i64 _, .int .i64 _, .slice _ _ _]) Try.sizeOf24 Try.isAgg24 rfl rfl rfl rfl) ?_
        refine qe (d_call Try.call11 rfl (check_E (manyP N) _ _ _ n6 e6 _ _ hS.imm hOps hMw hM)) ?_
        rintro _ w_7 ⟨rfl, hE⟩
        replace hS := hS.callE hE
        refine qq hS (g_move _) ?_
        refine qq hS (g_extract (v := .int .i64 _) rfl rfl) ?_
        refine qq hS (g_extract (v := .int .i64 _) rfl rfl) ?_
        refine qq hS (g_assignv (v := .int .i64 _) rfl) ?_
        refine qq hS (g_assignv (v := .int .i64 _) rfl) ?_
        refine ol_nil (thenN ?_)
        refine wpIn_seq ?_
        refine reg ?_
        refine qq hS (g_buildv (pl := [(0, 1), (1, 1), (2, 1), (3, 1), (4, 1)]) (cs := [.int .i64 _, .int .i64 _, .int .i64 _, .int .u8 _, .slice _ _ _]) Try.zeroValue35 Try.underlying35 (fun w => by simp [Try.sizeOf3, Try.sizeOf33, Try.sizeOf5]) (mp (v := .int .i64 _) rfl (mp (v := .int .i64 _) rfl mp0)) rfl) ?_
        refine qe (d_lit (vs := [.agg #[.int .i64 _, .int .i64 _, .int .i64 _, .int .u8 _, .slice _ _ _]]) (cs := [.int .i64 _, .int .i64 _, .int .i64 _, .int .u8 _, .slice _ _ _]) hS Try.underlying22 Try.sizeOf35 Try.zeroValue35 rfl rfl rfl rfl (fun v hv => by simp only [List.mem_cons, List.not_mem_nil, or_false] at hv; subst hv; rfl) rfl) ?_
        clear hS
        rintro _ w_8 ⟨b49, rfl, hS⟩
        have hF := hS.freeze1
        clear hS
        obtain ⟨I49, hS, hI49, hb49⟩ := hF
        replace hOps := hOps.mono hI49
        have h49 : ROps _ (.slice (some ⟨b49, 0, none⟩) 1 1) [⟨1, 0, 65536, 0, []⟩] := RSl.ofAt (css := [[.int .i64 1, .int .i64 0, .int .i64 65536, .int .u8 0, .slice none 0 0]]) hb49 rfl (by simp) (All2.cons ⟨_, _, _, rfl, RFl.nil⟩ (All2.nil _)) rfl (by decide)
        refine qq hS (g_buildv (pl := [(0, 1), (1, 1), (2, 1), (3, 1)]) (cs := [.bool _, .int .i64 _, .int .i64 _, .slice _ _ _]) Try.zeroValue24 Try.underlying24 (fun w => by simp [Try.sizeOf22, Try.sizeOf3, Try.sizeOf4]) (mp (v := .int .i64 _) rfl (mp (v := .int .i64 _) rfl (mp rfl mp0))) rfl) ?_
        refine qe (d_alloc (cs := [.bool _, .int .i64 _, .int .i64 _, .slice _ _ _]) hS Try.zeroValue24 rfl) ?_
        clear hS
        rintro _ w_9 ⟨b8, rfl, hS⟩
        refine qe (d_store 0 hS Try.sizeOf24 rfl rfl rfl (vs := [.bool _, .int .i64 _, .int .i64 _, .slice _ _ _]) rfl rfl rfl (Nat.le_of_ble_eq_true rfl) (cs' := [_, _, _, _]) rfl) ?_
        clear hS
        rintro _ w_10 ⟨rfl, hS⟩
        refine ol_nil (thenN ?_)
        refine wpIn_seq ?_
        refine reg ?_
        refine qq hS (g_ldO 0 (vs := [.bool _, .int .i64 _, .int .i64 _, .slice _ _ _]) Try.sizeOf24 Try.isAgg24 rfl rfl rfl rfl) ?_
        refine qe (d_call Try.call11 rfl (check_E longP _ _ _ ln 0 _ _ hS.imm h49 (okPat6_s (by kernel_rfl)) hlp)) ?_
        rintro _ w_11 ⟨rfl, hE⟩
        replace hS := hS.callE hE
        refine qq hS (g_move _) ?_
        refine qq hS (g_extract (v := .int .i64 _) rfl rfl) ?_
        refine qq hS (g_extract (v := .int .i64 _) rfl rfl) ?_
        refine qq hS (g_assignv (v := .int .i64 _) rfl) ?_
        refine qq hS (g_assignv (v := .int .i64 _) rfl) ?_
        refine ol_nil (thenN ?_)
        refine wpIn_seq ?_
        refine reg ?_
        refine qq hS (g_fieldAddr (o' := 1) Try.underlying24 rfl Try.sizeOf3 rfl rfl rfl) ?_
        refine qq hS (g_ldO1 0 Try.isAgg3 rfl rfl rfl) ?_
        refine qq hS (g_add rfl rfl (by omega) (by omega)) ?_
        refine qq hS (g_fieldAddr (o' := 1) Try.underlying24 rfl Try.sizeOf3 rfl rfl rfl) ?_
        refine qe (d_store 0 hS Try.sizeOf3 rfl rfl rfl (vs := [.int .i64 _]) rfl rfl rfl (Nat.le_of_ble_eq_true rfl) (cs' := [_, _, _, _]) rfl) ?_
        clear hS
        rintro _ w_12 ⟨rfl, hS⟩
        refine ol_nil (thenN ?_)
        refine wpIn_seq ?_
        refine reg ?_
        refine qq hS (g_ldO 0 (vs := [.bool _, .int .i64 _, .int .i64 _, .slice _ _ _]) Try.sizeOf24 Try.isAgg24 rfl rfl rfl rfl) ?_
        refine qe (d_call Try.call11 rfl (check_E ⟨false, 65537, 65536, [⟨1, 0, 65536, 0, []⟩]⟩ _ _ _ (-1) 60 _ _ hS.imm h49 (okPat6_s (by kernel_rfl)) (by kernel_rfl))) ?_
        rintro _ w_13 ⟨rfl, hE⟩
        replace hS := hS.callE hE
        refine qq hS (g_move _) ?_
        refine qq hS (g_extract (v := .int .i64 _) rfl rfl) ?_
        refine qq hS (g_extract (v := .int .i64 _) rfl rfl) ?_
        refine qq hS (g_assignv (v := .int .i64 _) rfl) ?_
        refine qq hS (g_assignv (v := .int .i64 _) rfl) ?_
        refine ol_nil (thenN ?_)
        refine wpIn_seq ?_
        refine reg ?_
        refine qq hS (g_buildv (pl := [(0, 1), (1, 1), (2, 1), (3, 1), (4, 1)]) (cs := [.int .i64 _, .int .i64 _, .int .i64 _, .int .u8 _, .slice _ _ _]) Try.zeroValue35 Try.underlying35 (fun w => by simp [Try.sizeOf3, Try.sizeOf33, Try.sizeOf5]) (mp (v := .int .i64 _) rfl (mp (v := .int .i64 _) rfl mp0)) rfl) ?_
        refine qe (d_lit (vs := [.agg #[.int .i64 _, .int .i64 _, .int .i64 _, .int .u8 _, .slice _ _ _]]) (cs := [.int .i64 _, .int .i64 _, .int .i64 _, .int .u8 _, .slice _ _ _]) hS Try.underlying22 Try.sizeOf35 Try.zeroValue35 rfl rfl rfl rfl (fun v hv => by simp only [List.mem_cons, List.not_mem_nil, or_false] at hv; subst hv; rfl) rfl) ?_
        clear hS
        rintro _ w_14 ⟨b67, rfl, hS⟩
        have hF := hS.freeze1
        clear hS
        obtain ⟨I67, hS, hI67, hb67⟩ := hF
        replace hOps := hOps.mono hI67
        replace h49 := h49.mono hI67
        have h67 : ROps _ (.slice (some ⟨b67, 0, none⟩) 1 1) [⟨3, 0, 65537, 0, []⟩] := RSl.ofAt (css := [[.int .i64 3, .int .i64 0, .int .i64 65537, .int .u8 0, .slice none 0 0]]) hb67 rfl (by simp) (All2.cons ⟨_, _, _, rfl, RFl.nil⟩ (All2.nil _)) rfl (by decide)
        refine qq hS (g_buildv (pl := [(0, 1), (1, 1), (2, 1), (3, 1)]) (cs := [.bool _, .int .i64 _, .int .i64 _, .slice _ _ _]) Try.zeroValue24 Try.underlying24 (fun w => by simp [Try.sizeOf22, Try.sizeOf3, Try.sizeOf4]) (mp (v := .int .i64 _) rfl (mp rfl mp0)) rfl) ?_
        refine qe (d_call Try.call11 rfl (check_E ⟨false, 0, 65537, [⟨3, 0, 65537, 0, []⟩]⟩ _ _ _ (-1) 60 _ _ hS.imm h67 (okPat6_s (by kernel_rfl)) (by kernel_rfl))) ?_
        rintro _ w_15 ⟨rfl, hE⟩
        replace hS := hS.callE hE
        refine qq hS (g_move _) ?_
        refine qq hS (g_extract (v := .int .i64 _) rfl rfl) ?_
        refine qq hS (g_extract (v := .int .i64 _) rfl rfl) ?_
        refine qq hS (g_assignv (v := .int .i64 _) rfl) ?_
        refine qq hS (g_assignv (v := .int .i64 _) rfl) ?_
        refine ol_nil (thenN ?_)
        refine wpIn_seq ?_
        refine reg ?_
        refine qq hS (g_fieldAddr (o' := 2) Try.underlying24 rfl Try.sizeOf3 rfl rfl rfl) ?_
        refine qq hS (g_ldO1 1 Try.isAgg3 rfl rfl rfl) ?_
        refine qe (d_makeF symC_len ⟨false, 0, 0⟩ N hS Try.underlying43 info51 rfl rfl rfl rfl rfl (by omega) rfl) ?_
        clear hS
        rintro _ w_16 ⟨b74, rfl, hS⟩
        refine qq hS (g_assign _) ?_
        refine ol_nil (thenN ?_)
        refine wpIn_seq ?_
        refine wpIn_seq ?_
        refine reg ?_
        refine qq hS (g_assignv (v := .int .i64 _) rfl) ?_
        refine ol_nil (thenN ?_)
        refine wpIn_block ?_
        refine loop (fun (i : Nat) σ w => okS σ [(3, .bool true), (4, .pointer (some ⟨b4, 0, none⟩)), (6, .int .i64 n6), (7, .int .i64 e6), (10, .int .i64 0), (11, .int .i64 (-1)), (12, .int .i64 60), (13, .int .i64 (-1)), (14, .int .i64 60), (15, .slice (some ⟨b74, 0, none⟩) N N), (16, .int .i64 i)] ∧ ∃ I, St [] w0 I0 I w [.row (.slice (some ⟨b74, 0, none⟩) N N) 51 3 N (flat symC (altL N i)), .cel b4 24 [.bool false, .int .i64 1, .int .i64 N, .slice a N c]] ∧ i ≤ N) (fun i => N - i) (0) ?_ ?_
        ·
          rw [← altL_0] at hS
          exact ⟨⟨rfl, rfl, rfl, rfl, rfl, rfl, rfl, rfl, rfl, rfl, rfl, trivial⟩, _, (hS.sel [true, false, true]).celRow 0 (xs := flat symC (altL N 0)) (rest := []) (by rw [List.append_nil]; rfl) (by rw [flat_length symC_len, altL_len]) (Nat.le_refl _) (by simp only [maxLen]; omega) (by rw [List.append_nil, flat_length symC_len, altL_len]), by omega⟩
        ·
          rintro i σ w_l ⟨hs, I, hS, hi0⟩
          rw [← upds_self hs]; clear hs
          refine wpIn_seq ?_
          refine wpIn_seq ?_
          refine reg ?_
          refine qq hS (g_movev (v := .int .i64 _) rfl) ?_
          refine qq hS (g_move _) ?_
          refine qq hS (g_lenR 0 rfl Try.underlying43 rfl rfl) ?_
          refine qq hS (g_lss rfl rfl) ?_
          refine ol_nil (thenN ?_)
          refine cond_s rfl ?_ ?_
          ·
            intro hc78
            try simp only [Bool.and_eq_true, Bool.or_eq_true, Bool.not_eq_true', Bool.and_eq_false_imp, Bool.or_eq_false_iff, Bool.not_eq_false', decide_eq_true_eq, decide_eq_false_iff_not] at hc78
            have hlt : i < N := by omega
            have hlN : N = (altL N i).length := (altL_len N i).symm
            have hat := altL_at hlt
            refine wpIn_skip ?_
            refine thenN ?_
            refine wpIn_seq ?_
            refine wpIn_block ?_
            refine reg ?_
            refine qq hS (g_move _) ?_
            refine qq hS (g_movev (v := .int .i64 _) rfl) ?_
            refine qq hS (g_movev (v := .int .i64 _) rfl) ?_
            refine qq hS (g_rem rfl rfl (by omega) (by omega)) ?_
            refine qq hS (g_eql rfl rfl) ?_
            refine qq hS (g_buildv (pl := [(0, 1), (1, 1), (2, 1)]) (cs := [.bool _, .int .i64 _, .int .u8 _]) Try.zeroValue51 Try.underlying51 (fun w => by simp [Try.sizeOf3, Try.sizeOf4, Try.sizeOf5]) (mp (v := .bool _) rfl mp0) rfl) ?_
            refine qq hS (g_ixR 0 Try.underlying43 Try.sizeOf51 rfl rfl rfl (by omega) (by omega)) ?_
            refine qe (d_storeRow 0 symC_len (sAlt i) hS hlN hat Try.sizeOf51 rfl rfl rfl (vs := [.bool _, .int .i64 _, .int .u8 _]) rfl rfl rfl rfl rfl) ?_
            clear hS
            rintro _ w_17 ⟨rfl, hS⟩
            refine ol_nil (blkN (thenN ?_))
            refine reg ?_
            refine qq hS (g_movev (v := .int .i64 _) rfl) ?_
            refine qq hS (g_add rfl rfl (by omega) (by omega)) ?_
            refine qq hS (g_assignv (v := .int .i64 _) rfl) ?_
            refine ol_nil (thenN ?_)
            rw [altL_set hlt] at hS
            exact ⟨i + 1, _, rfl, ⟨⟨rfl, rfl, rfl, rfl, rfl, rfl, rfl, rfl, rfl, rfl, rfl, trivial⟩, _, hS.sel [true, true], by omega⟩, by omega⟩
          ·
            intro hc78
            try simp only [Bool.and_eq_true, Bool.or_eq_true, Bool.not_eq_true', Bool.and_eq_false_imp, Bool.or_eq_false_iff, Bool.not_eq_false', decide_eq_true_eq, decide_eq_false_iff_not] at hc78
            obtain rfl : N = i := by omega
            refine wpIn_exit ?_
            refine thenE (thenE (blkE ?_))
            refine thenN ?_
            refine wpIn_seq ?_
            rw [altL_N] at hS
            have hF := St.freezeRow (u := .slice (some ⟨b74, 0, none⟩) N N) (m := N) (xs := altS N) symC_len (by exact hS.ord [0, 1]) ((altS_len N).symm)
            clear hS
            obtain ⟨I_hsy, hS, hI_hsy, hsy⟩ := hF
            refine reg ?_
            refine qq hS (g_move _) ?_
            refine qe (d_call Try.call19 rfl (patchOf_E _ _ _ (altS N) 1 C _ _ hS.imm hsy (altS_len N).symm (altS_wf N) hC)) ?_
            rintro _ w_18 ⟨I_f, a90, m90, c90, rfl, hE, h90⟩
            replace hS := hS.callE hE
            replace hsy := hsy.mono hE.ext
            refine qq hS (g_move _) ?_
            refine qq hS (g_extract rfl rfl) ?_
            refine qq hS (g_extract (v := .int .i64 _) rfl rfl) ?_
            refine qe (d_alloc (cs := [.bool _, .int .i64 _, .int .i64 _, .slice _ _ _]) hS Try.zeroValue24 rfl) ?_
            clear hS
            rintro _ w_19 ⟨b17, rfl, hS⟩
            refine qe (d_store 0 hS Try.sizeOf24 rfl rfl rfl (vs := [.bool _, .int .i64 _, .int .i64 _, .slice _ _ _]) rfl rfl rfl (Nat.le_of_ble_eq_true rfl) (cs' := [_, _, _, _]) rfl) ?_
            clear hS
            rintro _ w_20 ⟨rfl, hS⟩
            refine qq hS (g_assignv (v := .int .i64 _) rfl) ?_
            refine ol_nil (thenN ?_)
            refine wpIn_seq ?_
            refine hcase.elim (fun hc => ?_) (fun hc => ?_)
            ·
              refine reg ?_
              refine qq hS (g_fieldAddr (o' := 2) Try.underlying24 rfl Try.sizeOf3 rfl rfl rfl) ?_
              refine qq hS (g_ldO1 1 Try.isAgg3 rfl rfl rfl) ?_
              refine qq hS (g_leT6 rfl rfl (by omega)) ?_
              refine qq hS (g_assignv (v := .bool _) rfl) ?_
              refine ol_nil (thenN ?_)
              refine wpIn_seq ?_
              refine reg ?_
              refine qq hS (g_movev (v := .int .i64 _) rfl) ?_
              refine qq hS (g_eqT6 rfl rfl hc.2.1) ?_
              refine qq hS (g_movev (v := .bool _) rfl) ?_
              refine qq hS (g_eqbT6 rfl rfl rfl rfl) ?_
              refine qq hS (g_movev (v := .bool _) rfl) ?_
              refine qqs rfl rfl hS (g_movev (v := .bool _) rfl) ?_
              refine qqs rfl rfl hS (g_movev (v := .bool _) rfl) ?_
              refine qsf rfl rfl rfl ?_
              refine qsf rfl rfl rfl ?_
              refine qqs rfl rfl hS (g_or (b := true) rfl rfl (fun h => by cases h)) ?_
              refine qq hS (g_and rfl rfl (fun _ => rfl)) ?_
              refine qq hS (g_movev (v := .bool _) rfl) ?_
              refine qqs rfl rfl hS (g_movev (v := .int .i64 _) rfl) ?_
              refine qqs rfl rfl hS (g_eql rfl rfl) ?_
              refine qq hS (g_and rfl rfl (fun _ => rfl)) ?_
              refine qq hS (g_movev (v := .bool _) rfl) ?_
              refine qqs rfl rfl hS (g_movev (v := .int .i64 _) rfl) ?_
              refine qqs rfl rfl hS (g_eql rfl rfl) ?_
              refine qq hS (g_and rfl rfl (fun _ => rfl)) ?_
              refine qq hS (g_movev (v := .bool _) rfl) ?_
              refine qqs rfl rfl hS (g_movev (v := .int .i64 _) rfl) ?_
              refine qqs rfl rfl hS (g_eql rfl rfl) ?_
              refine qq hS (g_and rfl rfl (fun _ => rfl)) ?_
              refine qq hS (g_movev (v := .bool _) rfl) ?_
              refine qqs rfl rfl hS (g_movev (v := .int .i64 _) rfl) ?_
              refine qqs rfl rfl hS (g_eql rfl rfl) ?_
              refine qq hS (g_and rfl rfl (fun _ => rfl)) ?_
              refine qq hS (g_movev (v := .bool _) rfl) ?_
              refine qqs rfl rfl hS (g_movev (v := .int .i64 _) rfl) ?_
              refine qqs rfl rfl hS (g_eql rfl rfl) ?_
              refine qq hS (g_and rfl rfl (fun _ => rfl)) ?_
              refine qq hS (g_movev (v := .bool _) rfl) ?_
              refine qqs rfl rfl hS (g_movev (v := .int .i64 _) rfl) ?_
              refine qqs rfl rfl hS (g_eqT6 rfl rfl hc.2.2) ?_
              refine qqs rfl rfl hS (g_movev (v := .bool _) rfl) ?_
              refine qqs rfl rfl hS (g_eqbT6 rfl rfl rfl rfl) ?_
              refine qq hS (g_and rfl rfl (fun _ => rfl)) ?_
              refine qq hS (g_movev (v := .bool _) rfl) ?_
              refine qqs rfl rfl hS (g_movev (v := .bool _) rfl) ?_
              refine qqs rfl rfl hS (g_movev (v := .bool _) rfl) ?_
              refine qsf rfl rfl rfl ?_
              refine qsf rfl rfl rfl ?_
              refine qqs rfl rfl hS (g_or (b := true) rfl rfl (fun h => by cases h)) ?_
              refine qq hS (g_and rfl rfl (fun _ => rfl)) ?_
              refine qq hS (g_movev (v := .bool _) rfl) ?_
              refine qqs rfl rfl hS (g_movev (v := .bool _) rfl) ?_
              refine qq hS (g_and rfl rfl (fun _ => rfl)) ?_
              refine qq hS (g_assignv (v := .bool _) rfl) ?_
              refine ol_nil (thenN ?_)
              refine wpIn_ret ?_
              refine ret1 Try.results8 (rv_tmp (v := .bool _) rfl) ?_
              exact ⟨_, rfl, hS.nil⟩
            ·
              refine reg ?_
              refine qq hS (g_fieldAddr (o' := 2) Try.underlying24 rfl Try.sizeOf3 rfl rfl rfl) ?_
              refine qq hS (g_ldO1 1 Try.isAgg3 rfl rfl rfl) ?_
              refine qq hS (g_leF6 rfl rfl (by omega)) ?_
              refine qq hS (g_assignv (v := .bool _) rfl) ?_
              refine ol_nil (thenN ?_)
              refine wpIn_seq ?_
              refine reg ?_
              refine qq hS (g_movev (v := .int .i64 _) rfl) ?_
              refine qq hS (g_eqF7 rfl rfl (by omega)) ?_
              refine qq hS (g_movev (v := .bool _) rfl) ?_
              refine qq hS (g_eqbT6 rfl rfl rfl rfl) ?_
              refine qq hS (g_movev (v := .bool _) rfl) ?_
              refine qqs rfl rfl hS (g_movev (v := .bool _) rfl) ?_
              refine qqs rfl rfl hS (g_movev (v := .bool _) rfl) ?_
              refine qqs rfl rfl hS (g_movev (v := .int .i64 _) rfl) ?_
              refine qqs rfl rfl hS (g_eqT6 rfl rfl hc.2.1) ?_
              refine qqs rfl rfl hS (g_or rfl rfl (fun _ => rfl)) ?_
              refine qq hS (g_and rfl rfl (fun _ => rfl)) ?_
              refine qq hS (g_movev (v := .bool _) rfl) ?_
              refine qqs rfl rfl hS (g_movev (v := .int .i64 _) rfl) ?_
              refine qqs rfl rfl hS (g_eql rfl rfl) ?_
              refine qq hS (g_and rfl rfl (fun _ => rfl)) ?_
              refine qq hS (g_movev (v := .bool _) rfl) ?_
              refine qqs rfl rfl hS (g_movev (v := .int .i64 _) rfl) ?_
              refine qqs rfl rfl hS (g_eql rfl rfl) ?_
              refine qq hS (g_and rfl rfl (fun _ => rfl)) ?_
              refine qq hS (g_movev (v := .bool _) rfl) ?_
              refine qqs rfl rfl hS (g_movev (v := .int .i64 _) rfl) ?_
              refine qqs rfl rfl hS (g_eql rfl rfl) ?_
              refine qq hS (g_and rfl rfl (fun _ => rfl)) ?_
              refine qq hS (g_movev (v := .bool _) rfl) ?_
              refine qqs rfl rfl hS (g_movev (v := .int .i64 _) rfl) ?_
              refine qqs rfl rfl hS (g_eql rfl rfl) ?_
              refine qq hS (g_and rfl rfl (fun _ => rfl)) ?_
              refine qq hS (g_movev (v := .bool _) rfl) ?_
              refine qqs rfl rfl hS (g_movev (v := .int .i64 _) rfl) ?_
              refine qqs rfl rfl hS (g_eql rfl rfl) ?_
              refine qq hS (g_and rfl rfl (fun _ => rfl)) ?_
              refine qq hS (g_movev (v := .bool _) rfl) ?_
              refine qqs rfl rfl hS (g_movev (v := .int .i64 _) rfl) ?_
              refine qqs rfl rfl hS (g_eqF7 rfl rfl (by omega)) ?_
              refine qqs rfl rfl hS (g_movev (v := .bool _) rfl) ?_
              refine qqs rfl rfl hS (g_eqbT6 rfl rfl rfl rfl) ?_
              refine qq hS (g_and rfl rfl (fun _ => rfl)) ?_
              refine qq hS (g_movev (v := .bool _) rfl) ?_
              refine qqs rfl rfl hS (g_movev (v := .bool _) rfl) ?_
              refine qqs rfl rfl hS (g_movev (v := .bool _) rfl) ?_
              refine qqs rfl rfl hS (g_movev (v := .int .i64 _) rfl) ?_
              refine qqs rfl rfl hS (g_eqT6 rfl rfl hc.2.2.2) ?_
              refine qqs rfl rfl hS (g_or rfl rfl (fun _ => rfl)) ?_
              refine qq hS (g_and rfl rfl (fun _ => rfl)) ?_
              refine qq hS (g_movev (v := .bool _) rfl) ?_
              refine qqs rfl rfl hS (g_movev (v := .bool _) rfl) ?_
              refine qq hS (g_and rfl rfl (fun _ => rfl)) ?_
              refine qq hS (g_assignv (v := .bool _) rfl) ?_
              refine ol_nil (thenN ?_)
              refine wpIn_ret ?_
              refine ret1 Try.results8 (rv_tmp (v := .bool _) rfl) ?_
              exact ⟨_, rfl, hS.nil⟩

end Go.Proofs.Ythfgchcdilodlaa

