/- inlaylaw11.MergeRefuses: its function answers true. Conditions: arguments are of their kinds. -/
import Derived.Test.YtalemnjjljnnpaaMClashes
import Derived.Test.YtalemnjjljnnpaaCore14
namespace Go.Proofs.Ytalemnjjljnnpaa
open Go Go.RowKit Go.Inl
set_option linter.unusedSimpArgs false
set_option linter.unusedVariables false
attribute [local irreducible] Go.Inl.opR
def bls (ps : List (Bool × Res)) : List Res := ps.flatMap fun p => if p.1 then [p.2] else []
theorem bls_on : ∀ (ps : List (Bool × Res)) (k : Nat) (r0 r : Res), ps[k]? = some (false, r0) → List.Perm (bls (ps.set k (true, r))) (r :: bls ps)
  | [], k, r0, r, h => by simp at h
  | p :: ps, 0, r0, r, h => by
    simp at h; subst h
    simp [bls]
  | p :: ps, k + 1, r0, r, h => by
    have ih := bls_on ps k r0 r (by simpa using h)
    simp only [bls, List.set_cons_succ, List.flatMap_cons] at ih ⊢
    exact (ih.append_left _).trans List.perm_middle
theorem bls_turn : ∀ (ps : List (Bool × Res)) (k : Nat) (r0 : Res), ps[k]? = some (true, r0) → ∃ T, ∀ r, List.Perm (bls (ps.set k (true, r))) (r :: T)
  | [], k, r0, h => by simp at h
  | p :: ps, 0, r0, h => ⟨bls ps, fun r => by simp [bls]⟩
  | p :: ps, k + 1, r0, h => by
    obtain ⟨T, ih⟩ := bls_turn ps k r0 (by simpa using h)
    refine ⟨(if p.1 then [p.2] else []) ++ T, fun r => ?_⟩
    have := ih r
    simp only [bls, List.set_cons_succ, List.flatMap_cons] at this ⊢
    exact (this.append_left _).trans List.perm_middle
theorem set_same {α : Type} {l : List α} {k : Nat} {x : α} (h : l[k]? = some x) : l.set k x = l := by
  obtain ⟨h1, h2⟩ := List.getElem?_eq_some_iff.1 h
  rw [← h2]; exact List.set_getElem_self h1
section
variable {X : List Nat} {w0 w : World} {I0 I : Imm} {B : List Res}
theorem St.on (k : Nat) {ps : List (Bool × Res)} {r : Res} (h : St X w0 I0 I w (r :: (bls ps ++ B))) {r0 : Res} (hk : ps[k]? = some (false, r0)) : St X w0 I0 I w (bls (ps.set k (true, r)) ++ B) :=
  h.perm (((bls_on ps k r0 r hk).append_right B).trans (by simp))
theorem St.turnB {P : Program} {n : Nat} {σ : Nat → Value} {ty t : TypeId} {x y : Operand} (k : Nat) {ps : List (Bool × Res)} {b : Nat} {T : TypeId} {cs cs' : List Value} (h : St X w0 I0 I w (bls ps ++ B)) (hk : ps[k]? = some (true, .cel b T cs))
    (hd : ∀ L, St X w0 I0 I w (.cel b T cs :: L) → Does P (ev n σ) (.store t x y) ty w fun u w' => u = undef ∧ St X w0 I0 I w' (.cel b T cs' :: L)) :
    Does P (ev n σ) (.store t x y) ty w fun u w' => u = undef ∧ St X w0 I0 I w' (bls (ps.set k (true, .cel b T cs')) ++ B) := by
  obtain ⟨L, hL⟩ := bls_turn ps k _ hk
  have h0 := hL (.cel b T cs)
  rw [set_same hk] at h0
  refine (hd (L ++ B) (h.perm (by simpa using (h0.append_right B).symm))).mono ?_
  rintro u w' ⟨rfl, h'⟩
  exact ⟨rfl, h'.perm (by simpa using (hL (.cel b T cs')).append_right B)⟩
end
/-- What holds while the operations of the region come up in any order; g: which are listed. -/
structure R3 (p : PatL) (n0 : Int) (w0 : World) (I0 J : Imm) (B : List Res) (a25 : Option Addr) (m25 c25 b3 b6 : Nat) (g : Nat → Bool) (σ : Nat → Value) (w : World) (a35 : Option Addr) (m35 c35 b45 b7 b8 b9 b10 : Nat) (I : Imm) : Prop where
  pre : ∀ j ∈ [0, 1, 2, 3, 4, 5, 6, 7, 8, 10, 11, 12, 13, 14, 15, 16, 17, 18], g j = true
  fix : okS σ [(3, .pointer (some ⟨b3, 0, none⟩)), (5, .bool true), (6, .pointer (some ⟨b6, 0, none⟩)), (26, .agg #[.bool p.lifted, .int .i64 p.in_, .int .i64 p.out, .slice a25 m25 c25]), (27, .agg #[.bool p.lifted, .int .i64 p.in_, .int .i64 p.out, .slice a25 m25 c25]), (34, .int .i64 n0), (37, .int .i64 p.in_), (40, .int .i64 (p.in_ + 1)), (44, .agg #[.int .i64 3, .int .i64 0, .int .i64 (p.in_ + 1), .int .u8 0, .slice none 0 0])]
  s9 : g 9 = true → σ 35 = .agg #[.bool (wholeP n0).lifted, .int .i64 (wholeP n0).in_, .int .i64 (wholeP n0).out, .slice a35 m35 c35] ∧ ROps I (.slice a35 m35 c35) (wholeP n0).ops
  s19 : g 19 = true → σ 45 = .slice (some ⟨b45, 0, none⟩) 1 1
  s20 : g 20 = true → σ 46 = .agg #[.bool false, .int .i64 p.in_, .int .i64 (p.in_ + 1), .slice (some ⟨b45, 0, none⟩) 1 1]
  s21 : g 21 = true → σ 7 = .pointer (some ⟨b7, 0, none⟩)
  s22 : g 22 = true → σ 8 = .pointer (some ⟨b8, 0, none⟩)
  s23 : g 23 = true → σ 9 = .pointer (some ⟨b9, 0, none⟩)
  s24 : g 24 = true → σ 10 = .pointer (some ⟨b10, 0, none⟩)
  hpo : ROps I (.slice a25 m25 c25) p.ops
  x20 : g 20 = true → g 19 = true
  x25 : g 25 = true → g 21 = true
  x26 : g 26 = true → g 22 = true
  x27 : g 27 = true → g 23 = true ∧ g 9 = true
  x28 : g 28 = true → g 24 = true ∧ g 20 = true
  st : St [] w0 I0 I w (bls [(g 19, .cel b45 66 [.int .i64 3, .int .i64 0, .int .i64 (p.in_ + 1), .int .u8 0, .slice none 0 0]), (g 21, .cel b7 31 (if g 25 then [.bool p.lifted, .int .i64 p.in_, .int .i64 p.out, .slice a25 m25 c25] else [.bool false, .int .i64 0, .int .i64 0, .slice none 0 0])), (g 22, .cel b8 31 (if g 26 then [.bool p.lifted, .int .i64 p.in_, .int .i64 p.out, .slice a25 m25 c25] else [.bool false, .int .i64 0, .int .i64 0, .slice none 0 0])), (g 23, .cel b9 31 (if g 27 then [.bool (wholeP n0).lifted, .int .i64 (wholeP n0).in_, .int .i64 (wholeP n0).out, .slice a35 m35 c35] else [.bool false, .int .i64 0, .int .i64 0, .slice none 0 0])), (g 24, .cel b10 31 (if g 28 then [.bool false, .int .i64 p.in_, .int .i64 (p.in_ + 1), .slice (some ⟨b45, 0, none⟩) 1 1] else [.bool false, .int .i64 0, .int .i64 0, .slice none 0 0]))] ++ B)
  sub : Sub J I
theorem no_of {a b : Bool} (h : a = true → b = true) (hb : b = false) : a = false := by cases a; rfl; rw [h rfl] at hb; cases hb
theorem rest3 : ∀ i, i < 29 → i ∉ [0, 1, 2, 3, 4, 5, 6, 7, 8, 10, 11, 12, 13, 14, 15, 16, 17, 18] → i ∈ [9, 19, 20, 21, 22, 23, 24, 25, 26, 27, 28] := by decide
def runO (n : Int) : OpL := ⟨3, 0, n, 0, []⟩
def unevenP (n : Int) : PatL := ⟨false, n, n + 1, [runO (n + 1)]⟩
theorem uneven_ok {n : Int} (h : 0 ≤ n ∧ n ≤ 4096) : (checkP (unevenP n)).2 = 0 := by
  refine checkP_right (p := unevenP n) ⟨h.1, by show n ≤ 65536; omega⟩ ?_ ?_ (by show n + 1 ≤ 65536; omega) (by show ([runO (n + 1)] : List OpL).length ≤ 4096; simp)
  · intro x hx
    have : x = runO (n + 1) := by simpa [unevenP] using hx
    subst this
    exact ⟨by show 1 ≤ n + 1; omega, by simp [rightP, runO]⟩
  · show ((symsOf [runO (n + 1)]).length : Int) = n + 1
    rw [symsOf_one, symsOp_length]
    show (((n + 1).toNat : Nat) : Int) = n + 1
    omega
theorem uneven_wf {n : Int} (h : 0 ≤ n ∧ n ≤ 4096) : (unevenP n).wf := by
  refine ⟨by show Mid n; unfold Mid; omega, by show Mid (n + 1); unfold Mid; omega, ?_, by show ((1 : Nat) : Int) ≤ _; omega⟩
  intro x hx
  have : x = runO (n + 1) := by simpa [unevenP] using hx
  subst this
  exact ⟨by show Mid 3; unfold Mid; omega, by show Mid 0; unfold Mid; omega, by show Mid (n + 1); unfold Mid; omega, by show (0 : Int) ≤ 0 ∧ (0 : Int) ≤ 255; omega, by unfold runO; simp⟩
def lifR (b : Bool) (p : PatL) : PatL := ⟨b, p.in_, p.out, p.ops⟩
def badR (b : Bool) (p : PatL) : PatL := ⟨b, p.in_, p.out + 1, p.ops⟩
theorem pairL {q : PatL → Prop} {a b : PatL} (h1 : q a) (h2 : q b) : ∀ x ∈ [a, b], q x := by
  intro x hx
  simp only [List.mem_cons, List.not_mem_nil, or_false] at hx
  rcases hx with rfl | rfl
  · exact h1
  · exact h2
structure Ref3 (p x : PatL) (e : Int) : Prop where
  wf : x.wf
  pos : e ≠ 0
  one : checkM [p, x] = e
  two : checkM [x, p] = e
theorem refuses11 {p : PatL} {k : Int} (b : Bool) (hp : Good11 p p.in_) (hn : 0 ≤ p.in_ ∧ p.in_ ≤ 12) (hk : 0 ≤ k ∧ k ≤ 255) :
    Ref3 p (badR b p) 60 ∧ Ref3 p (lifR true p) 62 ∧ Ref3 p (wholeP (p.in_ + 1 + k)) 61 ∧ Ref3 p (unevenP p.in_) 61 ∧ Ref3 p (lifR true (wholeP (p.in_ + 1 + k))) 62 ∧ checkM [badR b p] = 60 ∧ checkM [unevenP p.in_] = 61 := by
  have hbc : (checkP (badR b p)).2 ≠ 0 := fun h => by
    have h1 := (checkP_ok h).2.1
    have h2 := (checkP_ok hp.ck).2.1
    have h3 : (badR b p).out = p.out + 1 := rfl
    have h4 : (badR b p).ops = p.ops := rfl
    rw [h3, h4] at h1; omega
  have hl := hp.wf.in_
  have ho := hp.out
  have hu := uneven_ok (n := p.in_) (by omega)
  have hw := wholeP_check (n := p.in_ + 1 + k) (by omega)
  have hww := wholeP_wf (n := p.in_ + 1 + k) (by omega)
  have hlc : (checkP (lifR true p)).2 = 0 := hp.ck
  have hfc : (checkP (lifR true (wholeP (p.in_ + 1 + k)))).2 = 0 := hw
  have kind : ∀ x : PatL, (checkP x).2 = 0 → x.lifted = true → checkM [p, x] = 62 ∧ checkM [x, p] = 62 := fun x hx hxl => by
    refine ⟨checkM_kind (p := x) (pairL hp.ck hx) (by simp) (by simp [hxl, hp.lif]), checkM_kind (p := p) (pairL hx hp.ck) (by simp) (by simp [hxl, hp.lif])⟩
  refine ⟨⟨⟨hp.wf.in_, ?_, hp.wf.ops, hp.wf.len⟩, by decide, checkM_op (p := badR b p) (by simp) hbc, checkM_op (p := badR b p) (by simp) hbc⟩, ⟨⟨hp.wf.in_, hp.wf.out, hp.wf.ops, hp.wf.len⟩, by decide, (kind _ hlc rfl).1, (kind _ hlc rfl).2⟩, ⟨hww, by decide, ?_, ?_⟩, ⟨uneven_wf (by omega), by decide, ?_, ?_⟩, ⟨⟨hww.in_, hww.out, hww.ops, hww.len⟩, by decide, (kind _ hfc rfl).1, (kind _ hfc rfl).2⟩, checkM_op (p := badR b p) (by simp) hbc, ?_⟩
  · show Mid (p.out + 1)
    unfold Mid; omega
  · exact checkM_len (p := wholeP (p.in_ + 1 + k)) (pairL hp.ck hw) (pairL (by simp) (by simp [hp.lif, wholeP])) (by simp) (by simp [evenQ, wholeP]; omega)
  · exact checkM_len (p := p) (pairL hw hp.ck) (pairL (by simp) (by simp [hp.lif, wholeP])) (by simp) (by simp [evenQ, wholeP, hp.out]; omega)
  · exact checkM_len (p := unevenP p.in_) (pairL hp.ck hu) (pairL (by simp) (by simp [hp.lif, unevenP])) (by simp) (by show (decide (p.in_ ≠ p.in_ + 1) || _) = true; rw [decide_eq_true (by omega)]; rfl)
  · exact checkM_len (p := unevenP p.in_) (pairL hu hp.ck) (pairL (by simp) (by simp [hp.lif, unevenP])) (by simp) (by show (decide (p.in_ ≠ p.in_ + 1) || _) = true; rw [decide_eq_true (by omega)]; rfl)
  · exact checkM_len (p := unevenP p.in_) (l := [unevenP p.in_]) (by intro x hx; simp at hx; subst hx; exact hu) (by intro x hx; simp at hx; subst hx; simp) (by simp) (by show (decide (p.in_ ≠ p.in_ + 1) || _) = true; rw [decide_eq_true (by omega)]; rfl)
theorem ref3_clash {p x : PatL} {e : Int} (h : Ref3 p x e) : clashP p x = ([], e) := by unfold clashP; rw [if_pos (by rw [h.one]; exact h.pos), h.one]
theorem ref3_merge {p x : PatL} {e : Int} (h : Ref3 p x e) : mergeP x p = (PatL.zero, e) := by unfold mergeP; rw [if_pos (by rw [h.two]; exact h.pos), h.two]
theorem ref3_commute {p x : PatL} {e : Int} (h : Ref3 p x e) : commuteP p x = ⟨PatL.zero, PatL.zero, e⟩ := by unfold commuteP; rw [if_pos (by rw [h.one]; exact h.pos), h.one]
theorem five_all {p a b c d f : PatL} {ea eb ec ed ef : Int} (h1 : Ref3 p a ea) (h2 : Ref3 p b eb) (h3 : Ref3 p c ec) (h4 : Ref3 p d ed) (h5 : Ref3 p f ef) : ∀ (i : Nat) (x : PatL) (e : Int), [a, b, c, d, f][i]? = some x → [ea, eb, ec, ed, ef][i]? = some e → Ref3 p x e := by
  intro i x e hx he
  match i, hx, he with
  | 0, hx, he => simp at hx he; subst hx he; exact h1
  | 1, hx, he => simp at hx he; subst hx he; exact h2
  | 2, hx, he => simp at hx he; subst hx he; exact h3
  | 3, hx, he => simp at hx he; subst hx he; exact h4
  | 4, hx, he => simp at hx he; subst hx he; exact h5
  | i + 5, hx, he => simp at hx
def depB (l : List Oper) (i : Nat) (known : List Nat) : Bool := match l[i]? with
  | some o => o.after.toList.all fun e => !Region.binds .any e || known.contains e.on
  | none => false
theorem ready_nilK {l : List Oper} {L : Array Bool} (hr : Region.ready .any l.toArray L = []) (i : Nat) (known : List Nat) (hs : i < L.size) (hk : depB l i known = true) (hg : ∀ j ∈ known, L.getD j false = true) : L.getD i false = true := by
  unfold depB at hk
  split at hk
  · rename_i o ho
    refine ready_nil hr (o := o) (by simpa using ho) hs fun e he hb => hg _ ?_
    have := List.all_eq_true.1 hk e (by simpa using he)
    rw [hb] at this
    simpa using this
  · cases hk
theorem consK {p : Nat → Prop} {i : Nat} {K : List Nat} (h : p i) (hk : ∀ j ∈ K, p j) : ∀ j ∈ i :: K, p j := fun j hj => by
  rcases List.mem_cons.1 hj with rfl | hj
  · exact h
  · exact hk j hj

set_option maxRecDepth 20000 in
set_option maxHeartbeats 8000000 in
theorem mrefuses_c (r t0 t1 : Int) (ad : Option Addr) (cap : Nat) (l : List Q4) (w0 : World) (I0 : Imm) (hI : Sat I0 w0) (hr : 0 ≤ r ∧ r ≤ 255) (ht0 : 0 ≤ t0 ∧ t0 ≤ 255) (ht1 : 0 ≤ t1 ∧ t1 ≤ 255) (h4 : RFl I0 4 q4C (.slice ad l.length cap) l) (hq : ∀ q ∈ l, q.wf) :
    Ctr Try.prog 6 [.agg #[.int .u8 r, .slice ad l.length cap], .agg #[.int .u8 t0, .int .u8 t1]] w0 (fun v w' => ∃ I', v = .bool true ∧ Ext w0 I0 w' I') := by
  refine fn (n := 138) Try.func6 rfl rfl rfl ?_
  have hS := St.start hI
  refine wpIn_seq ?_
  refine reg ?_
  refine qe (d_box (cs := [.int .u8 _, .slice _ _ _]) hS rfl) ?_
  clear hS
  rintro _ w_1 ⟨b2, rfl, hS⟩
  refine qe (d_box (cs := [.int .u8 _, .int .u8 _]) hS rfl) ?_
  clear hS
  rintro _ w_2 ⟨b3, rfl, hS⟩
  refine qq hS (g_assignv (v := .bool _) rfl) ?_
  refine ol_nil (thenN ?_)
  refine wpIn_seq ?_
  refine reg ?_
  refine qe (d_call Try.call7 rfl (sanity11_c _ _ hS.imm)) ?_
  rintro _ w_3 ⟨I_f, rfl, hE⟩
  replace hS := hS.callE hE
  replace h4 := h4.mono hE.ext
  refine qq hS (g_assignv (v := .bool _) rfl) ?_
  refine ol_nil (thenN ?_)
  refine wpIn_seq ?_
  refine reg ?_
  refine qq hS (g_ldO 1 (vs := [.int .u8 _, .slice _ _ _]) Try.sizeOf24 Try.isAgg24 rfl rfl rfl rfl) ?_
  refine qe (d_call Try.call8 rfl (made11_c r ad cap l _ _ hS.imm hr h4 hq)) ?_
  rintro _ w_4 ⟨I_f, p, a25, m25, c25, rfl, hE, h25, hgp⟩
  replace hS := hS.callE hE
  replace h4 := h4.mono hE.ext
  refine qe (d_alloc (cs := [.bool _, .int .i64 _, .int .i64 _, .slice _ _ _]) hS Try.zeroValue31 rfl) ?_
  clear hS
  rintro _ w_5 ⟨b6, rfl, hS⟩
  refine qe (d_store 0 hS Try.sizeOf31 rfl rfl rfl (vs := [.bool _, .int .i64 _, .int .i64 _, .slice _ _ _]) rfl rfl rfl (Nat.le_of_ble_eq_true rfl) (cs' := [_, _, _, _]) rfl) ?_
  clear hS
  rintro _ w_6 ⟨rfl, hS⟩
  refine ol_nil (thenN ?_)
  have hpn : 0 ≤ p.in_ ∧ p.in_ ≤ 12 := by have := hgp.in_; omega
  replace hgp : Good11 p p.in_ := ⟨hgp.wf, hgp.ck, hgp.lif, rfl, by rw [hgp.out, hgp.in_]⟩
  have hn0 : 0 ≤ (p.in_ + 1 + t0) ∧ (p.in_ + 1 + t0) ≤ 65536 := by omega
  have hpo1 := hgp.out
  obtain ⟨hr1, hr2, hr3, hr4, hr5, hr6, hr7⟩ := refuses11 (k := t0) (decide (t1 % 2 = 0)) hgp hpn ht0
  have hbw := hr1.wf
  have hu4 := hr4
  have htb : touchedP (badR (decide (t1 % 2 = 0)) p) = ([], 60) := by unfold touchedP; rw [if_pos (by rw [hr6]; decide), hr6]
  have hrb : readP (unevenP p.in_) = ([], 61) := by unfold readP; rw [if_pos (by rw [hr7]; decide), hr7]
  have hall5 := five_all hr1 hr2 hr3 hr4 hr5
  obtain ⟨XS, hXS⟩ : ∃ XS, [(badR (decide (t1 % 2 = 0)) p), (lifR true p), (wholeP (p.in_ + 1 + t0)), (unevenP p.in_), (lifR true (wholeP (p.in_ + 1 + t0)))] = XS := ⟨_, rfl⟩
  obtain ⟨WS, hWS⟩ : ∃ WS : List Int, [60, 62, 61, 61, 62] = WS := ⟨_, rfl⟩
  have hXl : XS.length = 5 := by rw [← hXS]; rfl
  have hWl : WS.length = 5 := by rw [← hWS]; rfl
  rw [hXS, hWS] at hall5
  refine meet (fun σ w => ∃ I a35 m35 c35 b45 b7 b8 b9 b10, okS σ [(3, .pointer (some ⟨b3, 0, none⟩)), (5, .bool true), (6, .pointer (some ⟨b6, 0, none⟩)), (7, .pointer (some ⟨b7, 0, none⟩)), (8, .pointer (some ⟨b8, 0, none⟩)), (9, .pointer (some ⟨b9, 0, none⟩)), (10, .pointer (some ⟨b10, 0, none⟩))] ∧ St [] w0 I0 I w [.cel b7 31 [.bool p.lifted, .int .i64 p.in_, .int .i64 p.out, .slice a25 m25 c25], .cel b8 31 [.bool p.lifted, .int .i64 p.in_, .int .i64 p.out, .slice a25 m25 c25], .cel b9 31 [.bool (wholeP (p.in_ + 1 + t0)).lifted, .int .i64 (wholeP (p.in_ + 1 + t0)).in_, .int .i64 (wholeP (p.in_ + 1 + t0)).out, .slice a35 m35 c35], .cel b10 31 [.bool false, .int .i64 p.in_, .int .i64 (p.in_ + 1), .slice (some ⟨b45, 0, none⟩) 1 1], .cel b6 31 [.bool p.lifted, .int .i64 p.in_, .int .i64 p.out, .slice a25 m25 c25], .cel b3 63 [.int .u8 t0, .int .u8 t1], .cel b2 24 [.int .u8 r, .slice ad l.length cap]] ∧ ROps I (.slice a25 m25 c25) p.ops ∧ ROps I (.slice a35 m35 c35) (wholeP (p.in_ + 1 + t0)).ops ∧ ROps I (.slice (some ⟨b45, 0, none⟩) 1 1) [runO (p.in_ + 1)]) ?_ ?_
  ·
    refine drawF [true, true, true, true, true, true, true, true, true, false, true, true, true, true, true, true, true, true, true, false, false, false, false, false, false, false, false, false, false] [(0, true), (1, true), (2, false), (3, true), (4, false), (5, false), (6, true), (7, false), (8, false), (10, false), (11, true), (12, false), (13, true), (14, false), (15, false), (16, true), (17, false), (18, false)] mixed (by kernel_rfl) hS ?_
    intro w_7 hS
    refine fh rfl (g_ldO 0 (vs := [.bool _, .int .i64 _, .int .i64 _, .slice _ _ _]) Try.sizeOf31 Try.isAgg31 rfl rfl rfl rfl) ?_
    refine fh rfl (g_ldO 0 (vs := [.bool _, .int .i64 _, .int .i64 _, .slice _ _ _]) Try.sizeOf31 Try.isAgg31 rfl rfl rfl rfl) ?_
    refine fp rfl (g_fieldAddr (o' := 1) Try.underlying31 rfl Try.sizeOf3 rfl rfl rfl) ?_
    refine fh rfl (g_ldO1 0 Try.isAgg3 rfl rfl rfl) ?_
    refine fp rfl (g_add rfl rfl (by omega) (by omega)) ?_
    refine fp rfl (g_indexArr (o' := 0) Try.underlying63 Try.sizeOf5 rfl rfl (by decide) (by decide) rfl) ?_
    refine fh rfl (g_ldO1 1 Try.isAgg5 rfl rfl rfl) ?_
    refine fp rfl (g_convi Try.underlying5 Try.underlying3 rfl (by omega) (by omega)) ?_
    refine fp rfl (g_add rfl rfl (by omega) (by omega)) ?_
    refine fp rfl (g_fieldAddr (o' := 1) Try.underlying31 rfl Try.sizeOf3 rfl rfl rfl) ?_
    refine fh rfl (g_ldO1 0 Try.isAgg3 rfl rfl rfl) ?_
    refine fp rfl (g_fieldAddr (o' := 1) Try.underlying31 rfl Try.sizeOf3 rfl rfl rfl) ?_
    refine fh rfl (g_ldO1 0 Try.isAgg3 rfl rfl rfl) ?_
    refine fp rfl (g_add rfl rfl (by omega) (by omega)) ?_
    refine fp rfl (g_fieldAddr (o' := 1) Try.underlying31 rfl Try.sizeOf3 rfl rfl rfl) ?_
    refine fh rfl (g_ldO1 0 Try.isAgg3 rfl rfl rfl) ?_
    refine fp rfl (g_add rfl rfl (by omega) (by omega)) ?_
    refine fp rfl (g_buildv (pl := [(0, 1), (1, 1), (2, 1), (3, 1), (4, 1)]) (cs := [.int .i64 _, .int .i64 _, .int .i64 _, .int .u8 _, .slice _ _ _]) Try.zeroValue66 Try.underlying66 (fun w => by simp [Try.sizeOf3, Try.sizeOf5, Try.sizeOf64]) (mp (v := .int .i64 _) rfl (mp (v := .int .i64 _) rfl mp0)) rfl) ?_
    obtain ⟨B, hB⟩ : ∃ B : List Res, [.cel b6 31 [.bool p.lifted, .int .i64 p.in_, .int .i64 p.out, .slice a25 m25 c25], .cel b3 63 [.int .u8 t0, .int .u8 t1], .cel b2 24 [.int .u8 r, .slice ad l.length cap]] = B := ⟨_, rfl⟩
    have hS9 := hS
    change St [] w0 I0 _ _ [.cel b6 31 [.bool p.lifted, .int .i64 p.in_, .int .i64 p.out, .slice a25 m25 c25], .cel b3 63 [.int .u8 t0, .int .u8 t1], .cel b2 24 [.int .u8 r, .slice ad l.length cap]] at hS9
    rw [hB] at hS9
    clear hS
    have hS := hS9
    clear hS9
    show FS _ _ _ _ _ _ _ (KS [] w0 I0 _ [.cel b6 31 [.bool p.lifted, .int .i64 p.in_, .int .i64 p.out, .slice a25 m25 c25], .cel b3 63 [.int .u8 t0, .int .u8 t1], .cel b2 24 [.int .u8 r, .slice ad l.length cap]]) _ _
    rw [hB]
    refine fi (Inv := fun L σ w => L.size = 29 ∧ ∃ g : Nat → Bool, (∀ j, L.getD j false = g j) ∧ ∃ a35 m35 c35 b45 b7 b8 b9 b10 I, R3 p (p.in_ + 1 + t0) w0 I0 I_f B a25 m25 c25 b3 b6 g σ w a35 m35 c35 b45 b7 b8 b9 b10 I) ⟨?_, ?_, ?_⟩ ?_
    · rintro L σ w ⟨_, g, _, a35, m35, c35, b45, b7, b8, b9, b10, I, h⟩
      exact (hS.le h.sub (List.Sublist.refl _)) w (h.st.sub (List.sublist_append_right _ _))
    · rintro L σ w ⟨hsz, g, hg, a35, m35, c35, b45, b7, b8, b9, b10, I, h⟩ hr
      have hp := h.pre
      have kn : ∀ j ∈ [0, 1, 2, 3, 4, 5, 6, 7, 8, 10, 11, 12, 13, 14, 15, 16, 17, 18], L.getD j false = true := fun j hj => by rw [hg]; exact hp j hj
      have y9 := ready_nilK hr 9 _ (by omega) (by kernel_rfl) kn
      replace kn := consK y9 kn
      have y19 := ready_nilK hr 19 _ (by omega) (by kernel_rfl) kn
      replace kn := consK y19 kn
      have y21 := ready_nilK hr 21 _ (by omega) (by kernel_rfl) kn
      replace kn := consK y21 kn
      have y22 := ready_nilK hr 22 _ (by omega) (by kernel_rfl) kn
      replace kn := consK y22 kn
      have y23 := ready_nilK hr 23 _ (by omega) (by kernel_rfl) kn
      replace kn := consK y23 kn
      have y24 := ready_nilK hr 24 _ (by omega) (by kernel_rfl) kn
      replace kn := consK y24 kn
      have y20 := ready_nilK hr 20 _ (by omega) (by kernel_rfl) kn
      replace kn := consK y20 kn
      have y25 := ready_nilK hr 25 _ (by omega) (by kernel_rfl) kn
      replace kn := consK y25 kn
      have y26 := ready_nilK hr 26 _ (by omega) (by kernel_rfl) kn
      replace kn := consK y26 kn
      have y27 := ready_nilK hr 27 _ (by omega) (by kernel_rfl) kn
      replace kn := consK y27 kn
      have y28 := ready_nilK hr 28 _ (by omega) (by kernel_rfl) kn
      replace kn := consK y28 kn
      rw [hg] at y9
      rw [hg] at y19
      rw [hg] at y20
      rw [hg] at y21
      rw [hg] at y22
      rw [hg] at y23
      rw [hg] at y24
      rw [hg] at y25
      rw [hg] at y26
      rw [hg] at y27
      rw [hg] at y28
      have hst := h.st
      rw [y19, y21, y22, y23, y24, y25, y26, y27, y28] at hst
      obtain ⟨I5, hS5, hI5, hb45⟩ := St.freezeAt 0 (L := .cel b45 66 [.int .i64 3, .int .i64 0, .int .i64 (p.in_ + 1), .int .u8 0, .slice none 0 0] :: (.cel b7 31 [.bool p.lifted, .int .i64 p.in_, .int .i64 p.out, .slice a25 m25 c25] :: (.cel b8 31 [.bool p.lifted, .int .i64 p.in_, .int .i64 p.out, .slice a25 m25 c25] :: (.cel b9 31 [.bool (wholeP (p.in_ + 1 + t0)).lifted, .int .i64 (wholeP (p.in_ + 1 + t0)).in_, .int .i64 (wholeP (p.in_ + 1 + t0)).out, .slice a35 m35 c35] :: (.cel b10 31 [.bool false, .int .i64 p.in_, .int .i64 (p.in_ + 1), .slice (some ⟨b45, 0, none⟩) 1 1] :: B))))) hst rfl
      have ho45 : ROps I5 (.slice (some ⟨b45, 0, none⟩) 1 1) [runO (p.in_ + 1)] := RSl.ofAt (css := [[.int .i64 3, .int .i64 0, .int .i64 (p.in_ + 1), .int .u8 0, .slice none 0 0]]) hb45 rfl (by simp) (All2.one ⟨none, 0, 0, rfl, RFl.nil⟩) rfl (by show 1 ≤ maxLen; decide)
      obtain ⟨k1, k2, k3, _⟩ := h.fix
      refine thenN ?_
      exact ⟨_, rfl, I5, a35, m35, c35, b45, b7, b8, b9, b10, ⟨k1, k2, k3, h.s21 y21, h.s22 y22, h.s23 y23, h.s24 y24, trivial⟩, hS5, h.hpo.mono hI5, (h.s9 y9).2.mono hI5, ho45⟩
    · rintro L σ w i ⟨hsz, g, hg, a35, m35, c35, b45, b7, b8, b9, b10, I, h⟩ hi
      obtain ⟨hun, o, ho, hall⟩ := mem_ready.1 hi
      have hgi : g i = false := by rw [← hg]; exact getD_false_of hun
      have hlt : i < 29 := by
        have := (Array.getElem?_eq_some_iff.1 ho).1
        simpa using this
      have hin := rest3 i hlt (fun hm => by rw [h.pre i hm] at hgi; cases hgi)
      have hset : ∀ j, (L.setIfInBounds i true).getD j false = (if j = i then true else g j) := fun j => by
        by_cases e : j = i
        · subst e; rw [if_pos rfl]; simp [hsz, hlt]
        · rw [if_neg e, getD_set_ne false (Ne.symm e), hg]
      have hpre : ∀ j ∈ [0, 1, 2, 3, 4, 5, 6, 7, 8, 10, 11, 12, 13, 14, 15, 16, 17, 18], (if j = i then true else g j) = true := fun j hj => by
        by_cases e : j = i
        · rw [if_pos e]
        · rw [if_neg e]; exact h.pre j hj
      have dep : ∀ e ∈ o.after, Region.binds .any e = true → g e.on = true := fun e he hb => by rw [← hg]; exact hall e he hb
      obtain ⟨k1, k2, k3, k4, k5, k6, k7, k8, k9, _⟩ := h.fix
      simp only [List.mem_cons, List.not_mem_nil, or_false] at hin
      rcases hin with rfl | rfl | rfl | rfl | rfl | rfl | rfl | rfl | rfl | rfl | rfl
      ·
        obtain rfl := Option.some.inj ho
        refine opF rfl (d_call Try.call29 (ml (show ev 138 σ (.tmp 34) = _ from k6) ml0) (patchWhole_c (p.in_ + 1 + t0) _ _ h.st.imm hn0)) ?_
        rintro _ w2 ⟨I2, a2, m2, c2, rfl, hE, hw2⟩
        have e27 : g 27 = false := no_of (fun hb => (h.x27 hb).2) hgi
        have hS2 := h.st.call hE
        rw [e27] at hS2
        exact ⟨_, rfl, by rw [Array.size_setIfInBounds]; exact hsz, fun j => if j = 9 then true else g j, hset, a2, m2, c2, b45, b7, b8, b9, b10, I2, ⟨hpre, ⟨k1, k2, k3, k4, k5, k6, k7, k8, k9, trivial⟩, fun _ => ⟨rfl, hw2⟩, h.s19, h.s20, h.s21, h.s22, h.s23, h.s24, h.hpo.mono hE.ext, h.x20, h.x25, h.x26, fun hb => absurd (hb : g 27 = true) (by rw [e27]; decide), h.x28, (by
          show St [] w0 I0 I2 w2 (bls [(g 19, .cel b45 66 [.int .i64 3, .int .i64 0, .int .i64 (p.in_ + 1), .int .u8 0, .slice none 0 0]), (g 21, .cel b7 31 (if g 25 then [.bool p.lifted, .int .i64 p.in_, .int .i64 p.out, .slice a25 m25 c25] else [.bool false, .int .i64 0, .int .i64 0, .slice none 0 0])), (g 22, .cel b8 31 (if g 26 then [.bool p.lifted, .int .i64 p.in_, .int .i64 p.out, .slice a25 m25 c25] else [.bool false, .int .i64 0, .int .i64 0, .slice none 0 0])), (g 23, .cel b9 31 (if g 27 then [.bool (wholeP (p.in_ + 1 + t0)).lifted, .int .i64 (wholeP (p.in_ + 1 + t0)).in_, .int .i64 (wholeP (p.in_ + 1 + t0)).out, .slice a2 m2 c2] else [.bool false, .int .i64 0, .int .i64 0, .slice none 0 0])), (g 24, .cel b10 31 (if g 28 then [.bool false, .int .i64 p.in_, .int .i64 (p.in_ + 1), .slice (some ⟨b45, 0, none⟩) 1 1] else [.bool false, .int .i64 0, .int .i64 0, .slice none 0 0]))] ++ B)
          rw [e27]
          exact hS2), h.sub.trans hE.ext⟩⟩
      ·
        obtain rfl := Option.some.inj ho
        have e20 : g 20 = false := no_of h.x20 hgi
        have e28 : g 28 = false := no_of (fun hb => h.x20 (h.x28 hb).2) hgi
        refine opF rfl (d_lit (vs := [.agg #[.int .i64 3, .int .i64 0, .int .i64 (p.in_ + 1), .int .u8 0, .slice none 0 0]]) (cs := [.int .i64 3, .int .i64 0, .int .i64 (p.in_ + 1), .int .u8 0, .slice none 0 0]) h.st Try.underlying29 Try.sizeOf66 Try.zeroValue66 rfl rfl (by show [(0, ev 138 σ (.tmp 44))] = _; rw [(show ev 138 σ (.tmp 44) = _ from k9)]; rfl) rfl (fun v hv => by simp only [List.mem_cons, List.not_mem_nil, or_false] at hv; subst hv; rfl) rfl) ?_
        rintro _ w2 ⟨bn, rfl, hS2⟩
        rw [hgi, e28] at hS2
        have hS3 := St.on 0 hS2 rfl
        exact ⟨_, rfl, by rw [Array.size_setIfInBounds]; exact hsz, fun j => if j = 19 then true else g j, hset, a35, m35, c35, bn, b7, b8, b9, b10, I, ⟨hpre, ⟨k1, k2, k3, k4, k5, k6, k7, k8, k9, trivial⟩, h.s9, fun _ => rfl, fun hb => absurd (hb : g 20 = true) (by rw [e20]; decide), h.s21, h.s22, h.s23, h.s24, h.hpo, fun _ => rfl, h.x25, h.x26, h.x27, fun hb => absurd (hb : g 28 = true) (by rw [e28]; decide), (by
          show St [] w0 I0 I w2 (bls [(true, .cel bn 66 [.int .i64 3, .int .i64 0, .int .i64 (p.in_ + 1), .int .u8 0, .slice none 0 0]), (g 21, .cel b7 31 (if g 25 then [.bool p.lifted, .int .i64 p.in_, .int .i64 p.out, .slice a25 m25 c25] else [.bool false, .int .i64 0, .int .i64 0, .slice none 0 0])), (g 22, .cel b8 31 (if g 26 then [.bool p.lifted, .int .i64 p.in_, .int .i64 p.out, .slice a25 m25 c25] else [.bool false, .int .i64 0, .int .i64 0, .slice none 0 0])), (g 23, .cel b9 31 (if g 27 then [.bool (wholeP (p.in_ + 1 + t0)).lifted, .int .i64 (wholeP (p.in_ + 1 + t0)).in_, .int .i64 (wholeP (p.in_ + 1 + t0)).out, .slice a35 m35 c35] else [.bool false, .int .i64 0, .int .i64 0, .slice none 0 0])), (g 24, .cel b10 31 (if g 28 then [.bool false, .int .i64 p.in_, .int .i64 (p.in_ + 1), .slice (some ⟨bn, 0, none⟩) 1 1] else [.bool false, .int .i64 0, .int .i64 0, .slice none 0 0]))] ++ B)
          rw [e28]
          exact hS3), h.sub⟩⟩
      ·
        obtain rfl := Option.some.inj ho
        have d19 : g 19 = true := dep ⟨19, .data⟩ (by simp) rfl
        refine opG (T := fun _ => True) rfl (g_buildv (pl := [(0, 1), (1, 1), (2, 1), (3, 1)]) (cs := [.bool false, .int .i64 p.in_, .int .i64 (p.in_ + 1), .slice (some ⟨b45, 0, none⟩) 1 1]) Try.zeroValue31 Try.underlying31 (fun w => by simp [Try.sizeOf4, Try.sizeOf3, Try.sizeOf29]) (mp (show ev 138 σ (.tmp 37) = _ from k7) (mp (show ev 138 σ (.tmp 40) = _ from k8) (mp (show ev 138 σ (.tmp 45) = _ from (h.s19 d19)) mp0))) rfl) trivial ?_
        exact ⟨_, rfl, by rw [Array.size_setIfInBounds]; exact hsz, fun j => if j = 20 then true else g j, hset, a35, m35, c35, b45, b7, b8, b9, b10, I, ⟨hpre, ⟨k1, k2, k3, k4, k5, k6, k7, k8, k9, trivial⟩, h.s9, h.s19, fun _ => rfl, h.s21, h.s22, h.s23, h.s24, h.hpo, fun _ => d19, h.x25, h.x26, h.x27, fun hb => ⟨(h.x28 hb).1, rfl⟩, h.st, h.sub⟩⟩
      ·
        obtain rfl := Option.some.inj ho
        have es : g 25 = false := no_of h.x25 hgi
        refine opF rfl (d_alloc (cs := [.bool false, .int .i64 0, .int .i64 0, .slice none 0 0]) h.st Try.zeroValue31 rfl) ?_
        rintro _ w2 ⟨bn, rfl, hS2⟩
        rw [hgi, es] at hS2
        have hS3 := St.on 1 hS2 rfl
        exact ⟨_, rfl, by rw [Array.size_setIfInBounds]; exact hsz, fun j => if j = 21 then true else g j, hset, a35, m35, c35, b45, bn, b8, b9, b10, I, ⟨hpre, ⟨k1, k2, k3, k4, k5, k6, k7, k8, k9, trivial⟩, h.s9, h.s19, h.s20, fun _ => rfl, h.s22, h.s23, h.s24, h.hpo, h.x20, fun _ => rfl, h.x26, h.x27, h.x28, (by
          show St [] w0 I0 I w2 (bls [(g 19, .cel b45 66 [.int .i64 3, .int .i64 0, .int .i64 (p.in_ + 1), .int .u8 0, .slice none 0 0]), (true, .cel bn 31 (if g 25 then [.bool p.lifted, .int .i64 p.in_, .int .i64 p.out, .slice a25 m25 c25] else [.bool false, .int .i64 0, .int .i64 0, .slice none 0 0])), (g 22, .cel b8 31 (if g 26 then [.bool p.lifted, .int .i64 p.in_, .int .i64 p.out, .slice a25 m25 c25] else [.bool false, .int .i64 0, .int .i64 0, .slice none 0 0])), (g 23, .cel b9 31 (if g 27 then [.bool (wholeP (p.in_ + 1 + t0)).lifted, .int .i64 (wholeP (p.in_ + 1 + t0)).in_, .int .i64 (wholeP (p.in_ + 1 + t0)).out, .slice a35 m35 c35] else [.bool false, .int .i64 0, .int .i64 0, .slice none 0 0])), (g 24, .cel b10 31 (if g 28 then [.bool false, .int .i64 p.in_, .int .i64 (p.in_ + 1), .slice (some ⟨b45, 0, none⟩) 1 1] else [.bool false, .int .i64 0, .int .i64 0, .slice none 0 0]))] ++ B)
          rw [es]
          exact hS3), h.sub⟩⟩
      ·
        obtain rfl := Option.some.inj ho
        have es : g 26 = false := no_of h.x26 hgi
        refine opF rfl (d_alloc (cs := [.bool false, .int .i64 0, .int .i64 0, .slice none 0 0]) h.st Try.zeroValue31 rfl) ?_
        rintro _ w2 ⟨bn, rfl, hS2⟩
        rw [hgi, es] at hS2
        have hS3 := St.on 2 hS2 rfl
        exact ⟨_, rfl, by rw [Array.size_setIfInBounds]; exact hsz, fun j => if j = 22 then true else g j, hset, a35, m35, c35, b45, b7, bn, b9, b10, I, ⟨hpre, ⟨k1, k2, k3, k4, k5, k6, k7, k8, k9, trivial⟩, h.s9, h.s19, h.s20, h.s21, fun _ => rfl, h.s23, h.s24, h.hpo, h.x20, h.x25, fun _ => rfl, h.x27, h.x28, (by
          show St [] w0 I0 I w2 (bls [(g 19, .cel b45 66 [.int .i64 3, .int .i64 0, .int .i64 (p.in_ + 1), .int .u8 0, .slice none 0 0]), (g 21, .cel b7 31 (if g 25 then [.bool p.lifted, .int .i64 p.in_, .int .i64 p.out, .slice a25 m25 c25] else [.bool false, .int .i64 0, .int .i64 0, .slice none 0 0])), (true, .cel bn 31 (if g 26 then [.bool p.lifted, .int .i64 p.in_, .int .i64 p.out, .slice a25 m25 c25] else [.bool false, .int .i64 0, .int .i64 0, .slice none 0 0])), (g 23, .cel b9 31 (if g 27 then [.bool (wholeP (p.in_ + 1 + t0)).lifted, .int .i64 (wholeP (p.in_ + 1 + t0)).in_, .int .i64 (wholeP (p.in_ + 1 + t0)).out, .slice a35 m35 c35] else [.bool false, .int .i64 0, .int .i64 0, .slice none 0 0])), (g 24, .cel b10 31 (if g 28 then [.bool false, .int .i64 p.in_, .int .i64 (p.in_ + 1), .slice (some ⟨b45, 0, none⟩) 1 1] else [.bool false, .int .i64 0, .int .i64 0, .slice none 0 0]))] ++ B)
          rw [es]
          exact hS3), h.sub⟩⟩
      ·
        obtain rfl := Option.some.inj ho
        have es : g 27 = false := no_of (fun hb => (h.x27 hb).1) hgi
        refine opF rfl (d_alloc (cs := [.bool false, .int .i64 0, .int .i64 0, .slice none 0 0]) h.st Try.zeroValue31 rfl) ?_
        rintro _ w2 ⟨bn, rfl, hS2⟩
        rw [hgi, es] at hS2
        have hS3 := St.on 3 hS2 rfl
        exact ⟨_, rfl, by rw [Array.size_setIfInBounds]; exact hsz, fun j => if j = 23 then true else g j, hset, a35, m35, c35, b45, b7, b8, bn, b10, I, ⟨hpre, ⟨k1, k2, k3, k4, k5, k6, k7, k8, k9, trivial⟩, h.s9, h.s19, h.s20, h.s21, h.s22, fun _ => rfl, h.s24, h.hpo, h.x20, h.x25, h.x26, fun hb => ⟨rfl, (h.x27 hb).2⟩, h.x28, (by
          show St [] w0 I0 I w2 (bls [(g 19, .cel b45 66 [.int .i64 3, .int .i64 0, .int .i64 (p.in_ + 1), .int .u8 0, .slice none 0 0]), (g 21, .cel b7 31 (if g 25 then [.bool p.lifted, .int .i64 p.in_, .int .i64 p.out, .slice a25 m25 c25] else [.bool false, .int .i64 0, .int .i64 0, .slice none 0 0])), (g 22, .cel b8 31 (if g 26 then [.bool p.lifted, .int .i64 p.in_, .int .i64 p.out, .slice a25 m25 c25] else [.bool false, .int .i64 0, .int .i64 0, .slice none 0 0])), (true, .cel bn 31 (if g 27 then [.bool (wholeP (p.in_ + 1 + t0)).lifted, .int .i64 (wholeP (p.in_ + 1 + t0)).in_, .int .i64 (wholeP (p.in_ + 1 + t0)).out, .slice a35 m35 c35] else [.bool false, .int .i64 0, .int .i64 0, .slice none 0 0])), (g 24, .cel b10 31 (if g 28 then [.bool false, .int .i64 p.in_, .int .i64 (p.in_ + 1), .slice (some ⟨b45, 0, none⟩) 1 1] else [.bool false, .int .i64 0, .int .i64 0, .slice none 0 0]))] ++ B)
          rw [es]
          exact hS3), h.sub⟩⟩
      ·
        obtain rfl := Option.some.inj ho
        have es : g 28 = false := no_of (fun hb => (h.x28 hb).1) hgi
        refine opF rfl (d_alloc (cs := [.bool false, .int .i64 0, .int .i64 0, .slice none 0 0]) h.st Try.zeroValue31 rfl) ?_
        rintro _ w2 ⟨bn, rfl, hS2⟩
        rw [hgi, es] at hS2
        have hS3 := St.on 4 hS2 rfl
        exact ⟨_, rfl, by rw [Array.size_setIfInBounds]; exact hsz, fun j => if j = 24 then true else g j, hset, a35, m35, c35, b45, b7, b8, b9, bn, I, ⟨hpre, ⟨k1, k2, k3, k4, k5, k6, k7, k8, k9, trivial⟩, h.s9, h.s19, h.s20, h.s21, h.s22, h.s23, fun _ => rfl, h.hpo, h.x20, h.x25, h.x26, h.x27, fun hb => ⟨rfl, (h.x28 hb).2⟩, (by
          show St [] w0 I0 I w2 (bls [(g 19, .cel b45 66 [.int .i64 3, .int .i64 0, .int .i64 (p.in_ + 1), .int .u8 0, .slice none 0 0]), (g 21, .cel b7 31 (if g 25 then [.bool p.lifted, .int .i64 p.in_, .int .i64 p.out, .slice a25 m25 c25] else [.bool false, .int .i64 0, .int .i64 0, .slice none 0 0])), (g 22, .cel b8 31 (if g 26 then [.bool p.lifted, .int .i64 p.in_, .int .i64 p.out, .slice a25 m25 c25] else [.bool false, .int .i64 0, .int .i64 0, .slice none 0 0])), (g 23, .cel b9 31 (if g 27 then [.bool (wholeP (p.in_ + 1 + t0)).lifted, .int .i64 (wholeP (p.in_ + 1 + t0)).in_, .int .i64 (wholeP (p.in_ + 1 + t0)).out, .slice a35 m35 c35] else [.bool false, .int .i64 0, .int .i64 0, .slice none 0 0])), (true, .cel bn 31 (if g 28 then [.bool false, .int .i64 p.in_, .int .i64 (p.in_ + 1), .slice (some ⟨b45, 0, none⟩) 1 1] else [.bool false, .int .i64 0, .int .i64 0, .slice none 0 0]))] ++ B)
          rw [es]
          exact hS3), h.sub⟩⟩
      ·
        obtain rfl := Option.some.inj ho
        have da : g 21 = true := dep ⟨21, .data⟩ (by simp) rfl
        have hst : St [] w0 I0 I w (bls [(g 19, .cel b45 66 [.int .i64 3, .int .i64 0, .int .i64 (p.in_ + 1), .int .u8 0, .slice none 0 0]), (true, .cel b7 31 [.bool false, .int .i64 0, .int .i64 0, .slice none 0 0]), (g 22, .cel b8 31 (if g 26 then [.bool p.lifted, .int .i64 p.in_, .int .i64 p.out, .slice a25 m25 c25] else [.bool false, .int .i64 0, .int .i64 0, .slice none 0 0])), (g 23, .cel b9 31 (if g 27 then [.bool (wholeP (p.in_ + 1 + t0)).lifted, .int .i64 (wholeP (p.in_ + 1 + t0)).in_, .int .i64 (wholeP (p.in_ + 1 + t0)).out, .slice a35 m35 c35] else [.bool false, .int .i64 0, .int .i64 0, .slice none 0 0])), (g 24, .cel b10 31 (if g 28 then [.bool false, .int .i64 p.in_, .int .i64 (p.in_ + 1), .slice (some ⟨b45, 0, none⟩) 1 1] else [.bool false, .int .i64 0, .int .i64 0, .slice none 0 0]))] ++ B) := by
          have hst := h.st
          rw [hgi, da] at hst
          exact hst
        have hD := fun ty => St.turnB (P := Try.prog) (n := 138) (σ := σ) (ty := ty) (t := 31) (x := .tmp 7) (y := .tmp 26) (b := b7) (T := 31) (cs := [.bool false, .int .i64 0, .int .i64 0, .slice none 0 0]) (cs' := [.bool p.lifted, .int .i64 p.in_, .int .i64 p.out, .slice a25 m25 c25]) 1 hst rfl fun L hL => d_store 0 hL Try.sizeOf31 rfl (show ev 138 σ (.tmp 7) = _ from (h.s21 da)) (show ev 138 σ (.tmp 26) = _ from k4) (vs := [.bool p.lifted, .int .i64 p.in_, .int .i64 p.out, .slice a25 m25 c25]) rfl rfl rfl (Nat.le_of_ble_eq_true rfl) rfl
        refine opF rfl (hD _) ?_
        rintro _ w2 ⟨rfl, hS2⟩
        exact ⟨_, rfl, by rw [Array.size_setIfInBounds]; exact hsz, fun j => if j = 25 then true else g j, hset, a35, m35, c35, b45, b7, b8, b9, b10, I, ⟨hpre, ⟨k1, k2, k3, k4, k5, k6, k7, k8, k9, trivial⟩, h.s9, h.s19, h.s20, h.s21, h.s22, h.s23, h.s24, h.hpo, h.x20, fun _ => da, h.x26, h.x27, h.x28, (by
          show St [] w0 I0 I w2 (bls [(g 19, .cel b45 66 [.int .i64 3, .int .i64 0, .int .i64 (p.in_ + 1), .int .u8 0, .slice none 0 0]), (g 21, .cel b7 31 [.bool p.lifted, .int .i64 p.in_, .int .i64 p.out, .slice a25 m25 c25]), (g 22, .cel b8 31 (if g 26 then [.bool p.lifted, .int .i64 p.in_, .int .i64 p.out, .slice a25 m25 c25] else [.bool false, .int .i64 0, .int .i64 0, .slice none 0 0])), (g 23, .cel b9 31 (if g 27 then [.bool (wholeP (p.in_ + 1 + t0)).lifted, .int .i64 (wholeP (p.in_ + 1 + t0)).in_, .int .i64 (wholeP (p.in_ + 1 + t0)).out, .slice a35 m35 c35] else [.bool false, .int .i64 0, .int .i64 0, .slice none 0 0])), (g 24, .cel b10 31 (if g 28 then [.bool false, .int .i64 p.in_, .int .i64 (p.in_ + 1), .slice (some ⟨b45, 0, none⟩) 1 1] else [.bool false, .int .i64 0, .int .i64 0, .slice none 0 0]))] ++ B)
          rw [da]
          exact hS2), h.sub⟩⟩
      ·
        obtain rfl := Option.some.inj ho
        have da : g 22 = true := dep ⟨22, .data⟩ (by simp) rfl
        have hst : St [] w0 I0 I w (bls [(g 19, .cel b45 66 [.int .i64 3, .int .i64 0, .int .i64 (p.in_ + 1), .int .u8 0, .slice none 0 0]), (g 21, .cel b7 31 (if g 25 then [.bool p.lifted, .int .i64 p.in_, .int .i64 p.out, .slice a25 m25 c25] else [.bool false, .int .i64 0, .int .i64 0, .slice none 0 0])), (true, .cel b8 31 [.bool false, .int .i64 0, .int .i64 0, .slice none 0 0]), (g 23, .cel b9 31 (if g 27 then [.bool (wholeP (p.in_ + 1 + t0)).lifted, .int .i64 (wholeP (p.in_ + 1 + t0)).in_, .int .i64 (wholeP (p.in_ + 1 + t0)).out, .slice a35 m35 c35] else [.bool false, .int .i64 0, .int .i64 0, .slice none 0 0])), (g 24, .cel b10 31 (if g 28 then [.bool false, .int .i64 p.in_, .int .i64 (p.in_ + 1), .slice (some ⟨b45, 0, none⟩) 1 1] else [.bool false, .int .i64 0, .int .i64 0, .slice none 0 0]))] ++ B) := by
          have hst := h.st
          rw [hgi, da] at hst
          exact hst
        have hD := fun ty => St.turnB (P := Try.prog) (n := 138) (σ := σ) (ty := ty) (t := 31) (x := .tmp 8) (y := .tmp 27) (b := b8) (T := 31) (cs := [.bool false, .int .i64 0, .int .i64 0, .slice none 0 0]) (cs' := [.bool p.lifted, .int .i64 p.in_, .int .i64 p.out, .slice a25 m25 c25]) 2 hst rfl fun L hL => d_store 0 hL Try.sizeOf31 rfl (show ev 138 σ (.tmp 8) = _ from (h.s22 da)) (show ev 138 σ (.tmp 27) = _ from k5) (vs := [.bool p.lifted, .int .i64 p.in_, .int .i64 p.out, .slice a25 m25 c25]) rfl rfl rfl (Nat.le_of_ble_eq_true rfl) rfl
        refine opF rfl (hD _) ?_
        rintro _ w2 ⟨rfl, hS2⟩
        exact ⟨_, rfl, by rw [Array.size_setIfInBounds]; exact hsz, fun j => if j = 26 then true else g j, hset, a35, m35, c35, b45, b7, b8, b9, b10, I, ⟨hpre, ⟨k1, k2, k3, k4, k5, k6, k7, k8, k9, trivial⟩, h.s9, h.s19, h.s20, h.s21, h.s22, h.s23, h.s24, h.hpo, h.x20, h.x25, fun _ => da, h.x27, h.x28, (by
          show St [] w0 I0 I w2 (bls [(g 19, .cel b45 66 [.int .i64 3, .int .i64 0, .int .i64 (p.in_ + 1), .int .u8 0, .slice none 0 0]), (g 21, .cel b7 31 (if g 25 then [.bool p.lifted, .int .i64 p.in_, .int .i64 p.out, .slice a25 m25 c25] else [.bool false, .int .i64 0, .int .i64 0, .slice none 0 0])), (g 22, .cel b8 31 [.bool p.lifted, .int .i64 p.in_, .int .i64 p.out, .slice a25 m25 c25]), (g 23, .cel b9 31 (if g 27 then [.bool (wholeP (p.in_ + 1 + t0)).lifted, .int .i64 (wholeP (p.in_ + 1 + t0)).in_, .int .i64 (wholeP (p.in_ + 1 + t0)).out, .slice a35 m35 c35] else [.bool false, .int .i64 0, .int .i64 0, .slice none 0 0])), (g 24, .cel b10 31 (if g 28 then [.bool false, .int .i64 p.in_, .int .i64 (p.in_ + 1), .slice (some ⟨b45, 0, none⟩) 1 1] else [.bool false, .int .i64 0, .int .i64 0, .slice none 0 0]))] ++ B)
          rw [da]
          exact hS2), h.sub⟩⟩
      ·
        obtain rfl := Option.some.inj ho
        have da : g 23 = true := dep ⟨23, .data⟩ (by simp) rfl
        have d9 : g 9 = true := dep ⟨9, .data⟩ (by simp) rfl
        have hst : St [] w0 I0 I w (bls [(g 19, .cel b45 66 [.int .i64 3, .int .i64 0, .int .i64 (p.in_ + 1), .int .u8 0, .slice none 0 0]), (g 21, .cel b7 31 (if g 25 then [.bool p.lifted, .int .i64 p.in_, .int .i64 p.out, .slice a25 m25 c25] else [.bool false, .int .i64 0, .int .i64 0, .slice none 0 0])), (g 22, .cel b8 31 (if g 26 then [.bool p.lifted, .int .i64 p.in_, .int .i64 p.out, .slice a25 m25 c25] else [.bool false, .int .i64 0, .int .i64 0, .slice none 0 0])), (true, .cel b9 31 [.bool false, .int .i64 0, .int .i64 0, .slice none 0 0]), (g 24, .cel b10 31 (if g 28 then [.bool false, .int .i64 p.in_, .int .i64 (p.in_ + 1), .slice (some ⟨b45, 0, none⟩) 1 1] else [.bool false, .int .i64 0, .int .i64 0, .slice none 0 0]))] ++ B) := by
          have hst := h.st
          rw [hgi, da] at hst
          exact hst
        have hD := fun ty => St.turnB (P := Try.prog) (n := 138) (σ := σ) (ty := ty) (t := 31) (x := .tmp 9) (y := .tmp 35) (b := b9) (T := 31) (cs := [.bool false, .int .i64 0, .int .i64 0, .slice none 0 0]) (cs' := [.bool (wholeP (p.in_ + 1 + t0)).lifted, .int .i64 (wholeP (p.in_ + 1 + t0)).in_, .int .i64 (wholeP (p.in_ + 1 + t0)).out, .slice a35 m35 c35]) 3 hst rfl fun L hL => d_store 0 hL Try.sizeOf31 rfl (show ev 138 σ (.tmp 9) = _ from (h.s23 da)) (show ev 138 σ (.tmp 35) = _ from (h.s9 d9).1) (vs := [.bool (wholeP (p.in_ + 1 + t0)).lifted, .int .i64 (wholeP (p.in_ + 1 + t0)).in_, .int .i64 (wholeP (p.in_ + 1 + t0)).out, .slice a35 m35 c35]) rfl rfl rfl (Nat.le_of_ble_eq_true rfl) rfl
        refine opF rfl (hD _) ?_
        rintro _ w2 ⟨rfl, hS2⟩
        exact ⟨_, rfl, by rw [Array.size_setIfInBounds]; exact hsz, fun j => if j = 27 then true else g j, hset, a35, m35, c35, b45, b7, b8, b9, b10, I, ⟨hpre, ⟨k1, k2, k3, k4, k5, k6, k7, k8, k9, trivial⟩, h.s9, h.s19, h.s20, h.s21, h.s22, h.s23, h.s24, h.hpo, h.x20, h.x25, h.x26, fun _ => ⟨da, d9⟩, h.x28, (by
          show St [] w0 I0 I w2 (bls [(g 19, .cel b45 66 [.int .i64 3, .int .i64 0, .int .i64 (p.in_ + 1), .int .u8 0, .slice none 0 0]), (g 21, .cel b7 31 (if g 25 then [.bool p.lifted, .int .i64 p.in_, .int .i64 p.out, .slice a25 m25 c25] else [.bool false, .int .i64 0, .int .i64 0, .slice none 0 0])), (g 22, .cel b8 31 (if g 26 then [.bool p.lifted, .int .i64 p.in_, .int .i64 p.out, .slice a25 m25 c25] else [.bool false, .int .i64 0, .int .i64 0, .slice none 0 0])), (g 23, .cel b9 31 [.bool (wholeP (p.in_ + 1 + t0)).lifted, .int .i64 (wholeP (p.in_ + 1 + t0)).in_, .int .i64 (wholeP (p.in_ + 1 + t0)).out, .slice a35 m35 c35]), (g 24, .cel b10 31 (if g 28 then [.bool false, .int .i64 p.in_, .int .i64 (p.in_ + 1), .slice (some ⟨b45, 0, none⟩) 1 1] else [.bool false, .int .i64 0, .int .i64 0, .slice none 0 0]))] ++ B)
          rw [da]
          exact hS2), h.sub⟩⟩
      ·
        obtain rfl := Option.some.inj ho
        have da : g 24 = true := dep ⟨24, .data⟩ (by simp) rfl
        have d20 : g 20 = true := dep ⟨20, .data⟩ (by simp) rfl
        have hst : St [] w0 I0 I w (bls [(g 19, .cel b45 66 [.int .i64 3, .int .i64 0, .int .i64 (p.in_ + 1), .int .u8 0, .slice none 0 0]), (g 21, .cel b7 31 (if g 25 then [.bool p.lifted, .int .i64 p.in_, .int .i64 p.out, .slice a25 m25 c25] else [.bool false, .int .i64 0, .int .i64 0, .slice none 0 0])), (g 22, .cel b8 31 (if g 26 then [.bool p.lifted, .int .i64 p.in_, .int .i64 p.out, .slice a25 m25 c25] else [.bool false, .int .i64 0, .int .i64 0, .slice none 0 0])), (g 23, .cel b9 31 (if g 27 then [.bool (wholeP (p.in_ + 1 + t0)).lifted, .int .i64 (wholeP (p.in_ + 1 + t0)).in_, .int .i64 (wholeP (p.in_ + 1 + t0)).out, .slice a35 m35 c35] else [.bool false, .int .i64 0, .int .i64 0, .slice none 0 0])), (true, .cel b10 31 [.bool false, .int .i64 0, .int .i64 0, .slice none 0 0])] ++ B) := by
          have hst := h.st
          rw [hgi, da] at hst
          exact hst
        have hD := fun ty => St.turnB (P := Try.prog) (n := 138) (σ := σ) (ty := ty) (t := 31) (x := .tmp 10) (y := .tmp 46) (b := b10) (T := 31) (cs := [.bool false, .int .i64 0, .int .i64 0, .slice none 0 0]) (cs' := [.bool false, .int .i64 p.in_, .int .i64 (p.in_ + 1), .slice (some ⟨b45, 0, none⟩) 1 1]) 4 hst rfl fun L hL => d_store 0 hL Try.sizeOf31 rfl (show ev 138 σ (.tmp 10) = _ from (h.s24 da)) (show ev 138 σ (.tmp 46) = _ from (h.s20 d20)) (vs := [.bool false, .int .i64 p.in_, .int .i64 (p.in_ + 1), .slice (some ⟨b45, 0, none⟩) 1 1]) rfl rfl rfl (Nat.le_of_ble_eq_true rfl) rfl
        refine opF rfl (hD _) ?_
        rintro _ w2 ⟨rfl, hS2⟩
        exact ⟨_, rfl, by rw [Array.size_setIfInBounds]; exact hsz, fun j => if j = 28 then true else g j, hset, a35, m35, c35, b45, b7, b8, b9, b10, I, ⟨hpre, ⟨k1, k2, k3, k4, k5, k6, k7, k8, k9, trivial⟩, h.s9, h.s19, h.s20, h.s21, h.s22, h.s23, h.s24, h.hpo, h.x20, h.x25, h.x26, h.x27, fun _ => ⟨da, d20⟩, (by
          show St [] w0 I0 I w2 (bls [(g 19, .cel b45 66 [.int .i64 3, .int .i64 0, .int .i64 (p.in_ + 1), .int .u8 0, .slice none 0 0]), (g 21, .cel b7 31 (if g 25 then [.bool p.lifted, .int .i64 p.in_, .int .i64 p.out, .slice a25 m25 c25] else [.bool false, .int .i64 0, .int .i64 0, .slice none 0 0])), (g 22, .cel b8 31 (if g 26 then [.bool p.lifted, .int .i64 p.in_, .int .i64 p.out, .slice a25 m25 c25] else [.bool false, .int .i64 0, .int .i64 0, .slice none 0 0])), (g 23, .cel b9 31 (if g 27 then [.bool (wholeP (p.in_ + 1 + t0)).lifted, .int .i64 (wholeP (p.in_ + 1 + t0)).in_, .int .i64 (wholeP (p.in_ + 1 + t0)).out, .slice a35 m35 c35] else [.bool false, .int .i64 0, .int .i64 0, .slice none 0 0])), (g 24, .cel b10 31 [.bool false, .int .i64 p.in_, .int .i64 (p.in_ + 1), .slice (some ⟨b45, 0, none⟩) 1 1])] ++ B)
          rw [da]
          exact hS2), h.sub⟩⟩
    · exact ⟨rfl, fun j => ([true, true, true, true, true, true, true, true, true, false, true, true, true, true, true, true, true, true, true, false, false, false, false, false, false, false, false, false, false] : List Bool).getD j false, fun j => by simp [Array.getD_eq_getD_getElem?, List.getD_eq_getElem?_getD], none, 0, 0, 0, 0, 0, 0, 0, _, ⟨by decide, ⟨rfl, rfl, rfl, rfl, rfl, rfl, rfl, rfl, rfl, trivial⟩, (fun h => by cases h), (fun h => by cases h), (fun h => by cases h), (fun h => by cases h), (fun h => by cases h), (fun h => by cases h), (fun h => by cases h), h25, (fun h => by cases h), (fun h => by cases h), (fun h => by cases h), (fun h => by cases h), (fun h => by cases h), hS, fun _ _ h => h⟩⟩
  ·
    rintro σ w ⟨I, a35, m35, c35, b45, b7, b8, b9, b10, hs, hS, h25, h35, h45⟩
    rw [← upds_self hs]
    refine wpIn_seq ?_
    refine reg ?_
    refine qq hS (g_fieldAddr (o' := 2) Try.underlying31 rfl Try.sizeOf3 rfl rfl rfl) ?_
    refine qq hS (g_ldO1 0 Try.isAgg3 rfl rfl rfl) ?_
    refine qq hS (g_add rfl rfl (by omega) (by omega)) ?_
    refine qq hS (g_fieldAddr (o' := 2) Try.underlying31 rfl Try.sizeOf3 rfl rfl rfl) ?_
    refine qe (d_store 0 hS Try.sizeOf3 rfl rfl rfl (vs := [.int .i64 _]) rfl rfl rfl (Nat.le_of_ble_eq_true rfl) (cs' := [_, _, _, _]) rfl) ?_
    clear hS
    rintro _ w_8 ⟨rfl, hS⟩
    refine ol_nil (thenN ?_)
    refine wpIn_seq ?_
    refine reg ?_
    refine qq hS (g_indexArr (o' := 1) Try.underlying63 Try.sizeOf5 rfl rfl (by decide) (by decide) rfl) ?_
    refine qq hS (g_ldO1 5 Try.isAgg5 rfl rfl rfl) ?_
    refine qq hS (g_rem rfl rfl (by omega) (by omega)) ?_
    refine qq hS (g_eql rfl rfl) ?_
    refine qq hS (g_fieldAddr (o' := 0) Try.underlying31 rfl Try.sizeOf4 rfl rfl rfl) ?_
    refine qe (d_store 0 hS Try.sizeOf4 rfl rfl rfl (vs := [.bool _]) rfl rfl rfl (Nat.le_of_ble_eq_true rfl) (cs' := [_, _, _, _]) rfl) ?_
    clear hS
    rintro _ w_9 ⟨rfl, hS⟩
    refine ol_nil (thenN ?_)
    refine wpIn_seq ?_
    refine reg ?_
    refine qq hS (g_fieldAddr (o' := 0) Try.underlying31 rfl Try.sizeOf4 rfl rfl rfl) ?_
    refine qe (d_store 1 hS Try.sizeOf4 rfl rfl rfl (vs := [.bool _]) rfl rfl rfl (Nat.le_of_ble_eq_true rfl) (cs' := [_, _, _, _]) rfl) ?_
    clear hS
    rintro _ w_10 ⟨rfl, hS⟩
    refine ol_nil (thenN ?_)
    refine wpIn_seq ?_
    refine reg ?_
    refine qq hS (g_ldO 2 (vs := [.bool _, .int .i64 _, .int .i64 _, .slice _ _ _]) Try.sizeOf31 Try.isAgg31 rfl rfl rfl rfl) ?_
    refine qe (d_alloc (cs := [.bool _, .int .i64 _, .int .i64 _, .slice _ _ _]) hS Try.zeroValue31 rfl) ?_
    clear hS
    rintro _ w_11 ⟨b11, rfl, hS⟩
    refine qe (d_store 0 hS Try.sizeOf31 rfl rfl rfl (vs := [.bool _, .int .i64 _, .int .i64 _, .slice _ _ _]) rfl rfl rfl (Nat.le_of_ble_eq_true rfl) (cs' := [_, _, _, _]) rfl) ?_
    clear hS
    rintro _ w_12 ⟨rfl, hS⟩
    refine ol_nil (thenN ?_)
    refine wpIn_seq ?_
    refine reg ?_
    refine qq hS (g_fieldAddr (o' := 0) Try.underlying31 rfl Try.sizeOf4 rfl rfl rfl) ?_
    refine qe (d_store 0 hS Try.sizeOf4 rfl rfl rfl (vs := [.bool _]) rfl rfl rfl (Nat.le_of_ble_eq_true rfl) (cs' := [_, _, _, _]) rfl) ?_
    clear hS
    rintro _ w_13 ⟨rfl, hS⟩
    refine ol_nil (thenN ?_)
    refine wpIn_seq ?_
    refine reg ?_
    refine qq hS (g_ldO 1 (vs := [.bool _, .int .i64 _, .int .i64 _, .slice _ _ _]) Try.sizeOf31 Try.isAgg31 rfl rfl rfl rfl) ?_
    refine qq hS (g_ldO 2 (vs := [.bool _, .int .i64 _, .int .i64 _, .slice _ _ _]) Try.sizeOf31 Try.isAgg31 rfl rfl rfl rfl) ?_
    refine qq hS (g_ldO 3 (vs := [.bool _, .int .i64 _, .int .i64 _, .slice _ _ _]) Try.sizeOf31 Try.isAgg31 rfl rfl rfl rfl) ?_
    refine qq hS (g_ldO 4 (vs := [.bool _, .int .i64 _, .int .i64 _, .slice _ _ _]) Try.sizeOf31 Try.isAgg31 rfl rfl rfl rfl) ?_
    refine qq hS (g_ldO 0 (vs := [.bool _, .int .i64 _, .int .i64 _, .slice _ _ _]) Try.sizeOf31 Try.isAgg31 rfl rfl rfl rfl) ?_
    refine qe (d_lit (vs := [.agg #[.bool _, .int .i64 _, .int .i64 _, .slice _ _ _], .agg #[.bool _, .int .i64 _, .int .i64 _, .slice _ _ _], .agg #[.bool _, .int .i64 _, .int .i64 _, .slice _ _ _], .agg #[.bool _, .int .i64 _, .int .i64 _, .slice _ _ _], .agg #[.bool _, .int .i64 _, .int .i64 _, .slice _ _ _]]) (cs := [.bool _, .int .i64 _, .int .i64 _, .slice _ _ _, .bool _, .int .i64 _, .int .i64 _, .slice _ _ _, .bool _, .int .i64 _, .int .i64 _, .slice _ _ _, .bool _, .int .i64 _, .int .i64 _, .slice _ _ _, .bool _, .int .i64 _, .int .i64 _, .slice _ _ _]) hS Try.underlying35 Try.sizeOf31 Try.zeroValue31 rfl rfl rfl rfl (fun v hv => by simp only [List.mem_cons, List.not_mem_nil, or_false] at hv; rcases hv with rfl | rfl | rfl | rfl | rfl <;> rfl) rfl) ?_
    clear hS
    rintro _ w_14 ⟨b64, rfl, hS⟩
    have hF := hS.freeze1
    clear hS
    obtain ⟨I64, hS, hI64, hb64⟩ := hF
    replace h25 := h25.mono hI64
    replace h35 := h35.mono hI64
    replace h45 := h45.mono hI64
    have h64 : RPats _ (.slice (some ⟨b64, 0, none⟩) 5 5) [(badR (decide (t1 % 2 = 0)) p), (lifR true p), (wholeP (p.in_ + 1 + t0)), (unevenP p.in_), (lifR true (wholeP (p.in_ + 1 + t0)))] := RSl.ofAt (css := [[.bool (decide (t1 % 2 = 0)), .int .i64 p.in_, .int .i64 (p.out + 1), .slice a25 m25 c25], [.bool true, .int .i64 p.in_, .int .i64 p.out, .slice a25 m25 c25], [.bool (wholeP (p.in_ + 1 + t0)).lifted, .int .i64 (wholeP (p.in_ + 1 + t0)).in_, .int .i64 (wholeP (p.in_ + 1 + t0)).out, .slice a35 m35 c35], [.bool false, .int .i64 p.in_, .int .i64 (p.in_ + 1), .slice (some ⟨b45, 0, none⟩) 1 1], [.bool true, .int .i64 (wholeP (p.in_ + 1 + t0)).in_, .int .i64 (wholeP (p.in_ + 1 + t0)).out, .slice a35 m35 c35]]) hb64 rfl (by simp) (All2.cons ⟨_, _, _, rfl, h25⟩ (All2.cons ⟨_, _, _, rfl, h25⟩ (All2.cons ⟨_, _, _, rfl, h35⟩ (All2.cons ⟨_, _, _, rfl, h45⟩ (All2.cons ⟨_, _, _, rfl, h35⟩ (All2.nil _)))))) rfl (by show 5 ≤ maxLen; decide)
    refine qq hS (g_assign _) ?_
    refine ol_nil (thenN ?_)
    refine wpIn_seq ?_
    refine reg ?_
    refine qe (d_lit (vs := [.int .i64 _, .int .i64 _, .int .i64 _, .int .i64 _, .int .i64 _]) (cs := [.int .i64 _, .int .i64 _, .int .i64 _, .int .i64 _, .int .i64 _]) hS Try.underlying67 Try.sizeOf37 Try.zeroValue37 rfl rfl rfl rfl (fun v hv => by simp only [List.mem_cons, List.not_mem_nil, or_false] at hv; rcases hv with rfl | rfl | rfl | rfl | rfl <;> rfl) rfl) ?_
    clear hS
    rintro _ w_15 ⟨b65, rfl, hS⟩
    have hF := hS.freeze1
    clear hS
    obtain ⟨I65, hS, hI65, hb65⟩ := hF
    replace h25 := h25.mono hI65
    replace h35 := h35.mono hI65
    replace h45 := h45.mono hI65
    replace h64 := h64.mono hI65
    have h65 : RFl _ 1 intC (.slice (some ⟨b65, 0, none⟩) 5 5) [60, 62, 61, 61, 62] := RFl.ofAt intC_len [60, 62, 61, 61, 62] hb65 rfl (by show 5 ≤ maxLen; decide)
    refine qq hS (g_assign _) ?_
    refine ol_nil (thenN ?_)
    refine wpIn_seq ?_
    refine wpIn_seq ?_
    rw [hXS] at h64
    rw [hWS] at h65
    refine reg ?_
    refine qq hS (g_assignv (v := .int .i64 _) rfl) ?_
    refine ol_nil (thenN ?_)
    refine wpIn_block ?_
    refine loop (fun (i : Nat) σ w => okS σ [(5, .bool true), (6, .pointer (some ⟨b6, 0, none⟩)), (7, .pointer (some ⟨b7, 0, none⟩)), (10, .pointer (some ⟨b10, 0, none⟩)), (12, .slice (some ⟨b64, 0, none⟩) 5 5), (13, .slice (some ⟨b65, 0, none⟩) 5 5), (14, .int .i64 i)] ∧ ∃ I, St [] w0 I0 I w [.cel b7 31 [.bool (decide (t1 % 2 = 0)), .int .i64 p.in_, .int .i64 (p.out + 1), .slice a25 m25 c25], .cel b10 31 [.bool false, .int .i64 p.in_, .int .i64 (p.in_ + 1), .slice (some ⟨b45, 0, none⟩) 1 1], .cel b6 31 [.bool p.lifted, .int .i64 p.in_, .int .i64 p.out, .slice a25 m25 c25]] ∧ i ≤ 5 ∧ RPats I (.slice (some ⟨b64, 0, none⟩) 5 5) XS ∧ RFl I 1 intC (.slice (some ⟨b65, 0, none⟩) 5 5) WS ∧ ROps I (.slice a25 m25 c25) p.ops ∧ ROps I (.slice (some ⟨b45, 0, none⟩) 1 1) [runO (p.in_ + 1)]) (fun i => 5 - i) (0) ?_ ?_
    ·
      exact ⟨⟨rfl, rfl, rfl, rfl, rfl, rfl, rfl, trivial⟩, _, hS.sel [false, true, false, false, true, true, false, false], by omega, h64, h65, h25, h45⟩
    ·
      rintro i σ w_l ⟨hs, I, hS, hi0, h64, h65, h25, h45⟩
      rw [← upds_self hs]; clear hs
      refine wpIn_seq ?_
      refine wpIn_seq ?_
      refine reg ?_
      refine qq hS (g_movev (v := .int .i64 _) rfl) ?_
      refine qq hS (g_move _) ?_
      refine qq hS (g_lenI rfl Try.underlying35 h64 rfl) ?_
      refine qq hS (g_lss rfl rfl) ?_
      refine ol_nil (thenN ?_)
      refine cond_s rfl ?_ ?_
      ·
        intro hc69
        try simp only [Bool.and_eq_true, Bool.or_eq_true, Bool.not_eq_true', Bool.and_eq_false_imp, Bool.or_eq_false_iff, Bool.not_eq_false', decide_eq_true_eq, decide_eq_false_iff_not] at hc69
        have hi5 : i < XS.length := by omega
        obtain ⟨x, hlx⟩ : ∃ x, XS[i]? = some x := ⟨_, List.getElem?_eq_getElem (by omega)⟩
        obtain ⟨e, hle⟩ : ∃ x, WS[i]? = some x := ⟨_, List.getElem?_eq_getElem (by omega)⟩
        obtain ⟨csx, hcx, hxA, hrx⟩ := RSl.at h64 hlx
        obtain ⟨adx, mx, cx, rfl, hxo⟩ := hrx
        have heA := h65.at hle
        have hx3 := hall5 i x e hlx hle
        refine wpIn_skip ?_
        refine thenN ?_
        refine wpIn_seq ?_
        refine wpIn_block ?_
        refine wpIn_seq ?_
        refine draw (.cons 0 .held (.cons 1 .pure (.cons 2 .pure (.cons 3 .pure (.cons 4 .held (.cons 5 .eff (.cons 6 .pure (.cons 7 .pure (.cons 8 .pure (.cons 9 .pure (.cons 10 .pure .nil))))))))))) mixed (by kernel_rfl) hS ?_
        intro w_16 hS
        refine sh rfl (g_ldO 2 (vs := [.bool _, .int .i64 _, .int .i64 _, .slice _ _ _]) Try.sizeOf31 Try.isAgg31 rfl rfl rfl rfl) ?_
        refine sp rfl (g_move _) ?_
        refine sp rfl (g_movev (v := .int .i64 _) rfl) ?_
        refine sp rfl (g_ixI Try.underlying35 Try.sizeOf31 h64 rfl rfl (by omega) (by omega)) ?_
        refine sh rfl (g_ldE (us := [.bool _, .int .i64 _, .int .i64 _, .slice _ _ _]) Try.sizeOf31 Try.isAgg31 hxA rfl rfl rfl) ?_
        have hS0 := hS
        refine se rfl (d_call Try.call16 rfl (clashes_L p x [] e 0 _ _ _ _ _ _ _ _ hS.imm hgp.wf h25 hx3.wf hxo (ref3_clash hx3) rfl)) ?_
        rintro _ w_17 ⟨I_f, a78, c78, rfl, hE, h78⟩
        replace hS := hS.call hE
        replace h64 := h64.mono hE.ext
        replace h65 := h65.mono hE.ext
        replace h25 := h25.mono hE.ext
        replace h45 := h45.mono hE.ext
        replace hxo := hxo.mono hE.ext
        replace hxA := hxA.mono hE.ext
        replace heA := heA.mono hE.ext
        refine ⟨_, _, hS0.le hE.ext (List.Sublist.refl _), hS, ?_⟩
        refine sp rfl (g_move _) ?_
        refine sp rfl (g_extract rfl rfl) ?_
        refine sp rfl (g_extract (v := .int .i64 _) rfl rfl) ?_
        refine sp rfl (g_assign _) ?_
        refine sp rfl (g_assignv (v := .int .i64 _) rfl) ?_
        refine sn (thenN ?_)
        refine meet (fun σ w => ∃ I b17, okS σ [(5, .bool true), (6, .pointer (some ⟨b6, 0, none⟩)), (7, .pointer (some ⟨b7, 0, none⟩)), (10, .pointer (some ⟨b10, 0, none⟩)), (12, .slice (some ⟨b64, 0, none⟩) 5 5), (13, .slice (some ⟨b65, 0, none⟩) 5 5), (14, .int .i64 i), (16, .int .i64 e), (17, .pointer (some ⟨b17, 0, none⟩)), (18, .int .i64 e)] ∧ St [] w0 I0 I w [.cel b7 31 [.bool (decide (t1 % 2 = 0)), .int .i64 p.in_, .int .i64 (p.out + 1), .slice a25 m25 c25], .cel b10 31 [.bool false, .int .i64 p.in_, .int .i64 (p.in_ + 1), .slice (some ⟨b45, 0, none⟩) 1 1], .cel b6 31 [.bool p.lifted, .int .i64 p.in_, .int .i64 p.out, .slice a25 m25 c25]]  ∧ RPats I (.slice (some ⟨b64, 0, none⟩) 5 5) XS ∧ RFl I 1 intC (.slice (some ⟨b65, 0, none⟩) 5 5) WS ∧ ROps I (.slice a25 m25 c25) p.ops ∧ ROps I (.slice (some ⟨b45, 0, none⟩) 1 1) [runO (p.in_ + 1)] ∧ ROps I (.slice adx mx cx) x.ops ∧ atI I (elA (.slice (some ⟨b64, 0, none⟩) 5 5) i 4 0) [.bool x.lifted, .int .i64 x.in_, .int .i64 x.out, .slice adx mx cx] ∧ atI I (elA (.slice (some ⟨b65, 0, none⟩) 5 5) i 1 0) (intC e)) ?_ ?_
        ·
          refine draw (.cons 0 .pure (.cons 1 .pure (.cons 2 .pure (.cons 3 .held (.cons 4 .held (.fork 5 (.cons 6 .pure (.cons 7 .pure (.cons 8 .pure (.cons 9 .eff (.cons 10 .bar (.cons 11 .pure .nil)))))) 9 (.cons 5 .eff (.cons 6 .pure (.cons 7 .pure (.cons 8 .pure (.cons 10 .bar (.cons 11 .pure .nil)))))))))))) mixed (by kernel_rfl) hS ?_
          intro w_18 hS
          refine sp rfl (g_move _) ?_
          refine sp rfl (g_movev (v := .int .i64 _) rfl) ?_
          refine sp rfl (g_ixI Try.underlying35 Try.sizeOf31 h64 rfl rfl (by omega) (by omega)) ?_
          refine sh rfl (g_ldE (us := [.bool _, .int .i64 _, .int .i64 _, .slice _ _ _]) Try.sizeOf31 Try.isAgg31 hxA rfl rfl rfl) ?_
          refine sh rfl (g_ldO 2 (vs := [.bool _, .int .i64 _, .int .i64 _, .slice _ _ _]) Try.sizeOf31 Try.isAgg31 rfl rfl rfl rfl) ?_
          refine sk ?_ ?_
          ·
            have hS0 := hS
            refine se rfl (d_call Try.call18 rfl (merge_L x p PatL.zero e _ _ _ _ _ _ _ _ hS.imm hx3.wf hxo hgp.wf h25 (ref3_merge hx3))) ?_
            rintro _ w_19 ⟨I_f, a87, m87, c87, rfl, hE, h87⟩
            replace hS := hS.call hE
            replace h64 := h64.mono hE.ext
            replace h65 := h65.mono hE.ext
            replace h25 := h25.mono hE.ext
            replace h45 := h45.mono hE.ext
            replace hxo := hxo.mono hE.ext
            replace hxA := hxA.mono hE.ext
            replace heA := heA.mono hE.ext
            replace h78 := h78.mono hE.ext
            refine ⟨_, _, hS0.le hE.ext (List.Sublist.refl _), hS, ?_⟩
            refine sp rfl (g_move _) ?_
            refine sp rfl (g_extract rfl rfl) ?_
            refine sp rfl (g_extract (v := .int .i64 _) rfl rfl) ?_
            have hS0 := hS
            refine se rfl (d_alloc (cs := [.bool _, .int .i64 _, .int .i64 _, .slice _ _ _]) hS Try.zeroValue31 rfl) ?_
            rintro _ w_20 ⟨b17, rfl, hS⟩
            refine ⟨_, _, hS0.le (Sub.refl _) (List.sublist_cons_self _ _), hS, ?_⟩
            refine sb rfl (d_store 0 hS Try.sizeOf31 rfl rfl rfl (vs := [.bool _, .int .i64 _, .int .i64 _, .slice _ _ _]) rfl rfl rfl (Nat.le_of_ble_eq_true rfl) (cs' := [_, _, _, _]) rfl) ?_
            rintro _ w_21 ⟨rfl, hS⟩
            refine ⟨_, _, hS, ?_⟩
            refine sp rfl (g_assignv (v := .int .i64 _) rfl) ?_
            refine sn (thenN ?_)
            exact ⟨_, rfl, _, b17, ⟨rfl, rfl, rfl, rfl, rfl, rfl, rfl, rfl, rfl, rfl, trivial⟩, (hS.sel [false, true, true, true]), h64, h65, h25, h45, hxo, hxA, heA⟩
          ·
            have hS0 := hS
            refine se rfl (d_alloc (cs := [.bool _, .int .i64 _, .int .i64 _, .slice _ _ _]) hS Try.zeroValue31 rfl) ?_
            rintro _ w_22 ⟨b17, rfl, hS⟩
            refine ⟨_, _, hS0.le (Sub.refl _) (List.sublist_cons_self _ _), hS, ?_⟩
            have hS0 := hS
            refine se rfl (d_call Try.call18 rfl (merge_L x p PatL.zero e _ _ _ _ _ _ _ _ hS.imm hx3.wf hxo hgp.wf h25 (ref3_merge hx3))) ?_
            rintro _ w_23 ⟨I_f, a87, m87, c87, rfl, hE, h87⟩
            replace hS := hS.call hE
            replace h64 := h64.mono hE.ext
            replace h65 := h65.mono hE.ext
            replace h25 := h25.mono hE.ext
            replace h45 := h45.mono hE.ext
            replace hxo := hxo.mono hE.ext
            replace hxA := hxA.mono hE.ext
            replace heA := heA.mono hE.ext
            replace h78 := h78.mono hE.ext
            refine ⟨_, _, hS0.le hE.ext (List.Sublist.refl _), hS, ?_⟩
            refine sp rfl (g_move _) ?_
            refine sp rfl (g_extract rfl rfl) ?_
            refine sp rfl (g_extract (v := .int .i64 _) rfl rfl) ?_
            refine sb rfl (d_store 0 hS Try.sizeOf31 rfl rfl rfl (vs := [.bool _, .int .i64 _, .int .i64 _, .slice _ _ _]) rfl rfl rfl (Nat.le_of_ble_eq_true rfl) (cs' := [_, _, _, _]) rfl) ?_
            rintro _ w_24 ⟨rfl, hS⟩
            refine ⟨_, _, hS, ?_⟩
            refine sp rfl (g_assignv (v := .int .i64 _) rfl) ?_
            refine sn (thenN ?_)
            exact ⟨_, rfl, _, b17, ⟨rfl, rfl, rfl, rfl, rfl, rfl, rfl, rfl, rfl, rfl, trivial⟩, (hS.sel [false, true, true, true]), h64, h65, h25, h45, hxo, hxA, heA⟩
        ·
          rintro σ w ⟨I, b17, hs, hS, h64, h65, h25, h45, hxo, hxA, heA⟩
          rw [← upds_self hs]
          refine wpIn_seq ?_
          refine draw (.cons 0 .pure (.cons 1 .pure (.cons 2 .pure (.cons 3 .pure (.cons 4 .held (.cons 5 .pure (.cons 6 .pure (.cons 7 .pure (.cons 8 .pure (.cons 9 .pure (.cons 10 .pure (.cons 11 .held (.cons 12 .pure (.cons 13 .pure (.cons 14 .pure (.cons 15 .held (.cons 16 .pure (.cons 17 .pure (.cons 18 .pure (.cons 19 .held (.cons 21 .pure (.cons 22 .pure (.cons 23 .pure (.cons 24 .held (.cons 25 .pure (.cons 20 .eff (.cons 26 .eff (.cons 27 .pure (.cons 28 .pure .nil))))))))))))))))))))))))))))) mixed (by kernel_rfl) hS ?_
          intro w_25 hS
          refine sp rfl (g_movev (v := .int .i64 _) rfl) ?_
          refine sp rfl (g_move _) ?_
          refine sp rfl (g_movev (v := .int .i64 _) rfl) ?_
          refine sp rfl (g_ixI Try.underlying67 Try.sizeOf37 h65 rfl rfl (by omega) (by omega)) ?_
          refine sh rfl (g_ldE1 Try.isAgg37 heA rfl rfl) ?_
          refine sp rfl (g_neqF rfl rfl rfl) ?_
          refine sp rfl (g_movev (v := .bool _) rfl) ?_
          refine spt rfl rfl rfl (g_movev (v := .int .i64 _) rfl) ?_
          refine spt rfl rfl rfl (g_move _) ?_
          refine spt rfl rfl rfl (g_movev (v := .int .i64 _) rfl) ?_
          refine spt rfl rfl rfl (g_ixI Try.underlying67 Try.sizeOf37 h65 rfl rfl (by omega) (by omega)) ?_
          refine sht rfl rfl rfl (g_ldE1 Try.isAgg37 heA rfl rfl) ?_
          refine spt rfl rfl rfl (g_neqF rfl rfl rfl) ?_
          refine sp rfl (g_or rfl rfl (fun _ => rfl)) ?_
          refine sp rfl (g_movev (v := .bool _) rfl) ?_
          refine sht rfl rfl rfl (g_ldO 2 (vs := [.bool _, .int .i64 _, .int .i64 _, .slice _ _ _]) Try.sizeOf31 Try.isAgg31 rfl rfl rfl rfl) ?_
          refine spt rfl rfl rfl (g_move _) ?_
          refine spt rfl rfl rfl (g_movev (v := .int .i64 _) rfl) ?_
          refine spt rfl rfl rfl (g_ixI Try.underlying35 Try.sizeOf31 h64 rfl rfl (by omega) (by omega)) ?_
          refine sht rfl rfl rfl (g_ldE (us := [.bool _, .int .i64 _, .int .i64 _, .slice _ _ _]) Try.sizeOf31 Try.isAgg31 hxA rfl rfl rfl) ?_
          refine spt rfl rfl rfl (g_move _) ?_
          refine spt rfl rfl rfl (g_movev (v := .int .i64 _) rfl) ?_
          refine spt rfl rfl rfl (g_ixI Try.underlying67 Try.sizeOf37 h65 rfl rfl (by omega) (by omega)) ?_
          refine sht rfl rfl rfl (g_ldE1 Try.isAgg37 heA rfl rfl) ?_
          refine spt rfl rfl rfl (g_buildv (pl := [(0, 4), (4, 4), (8, 1)]) (cs := [.bool _, .int .i64 _, .int .i64 _, .slice _ _ _, .bool _, .int .i64 _, .int .i64 _, .slice _ _ _, .int .i64 _]) Try.zeroValue47 Try.underlying47 (fun w => by simp [Try.sizeOf31, Try.sizeOf37]) (mp (v := .int .i64 _) rfl mp0) rfl) ?_
          have hS0 := hS
          refine Inl.set rfl rfl rfl (d_call Try.call22 rfl (exchanged_L p x PatL.zero PatL.zero e _ _ _ _ _ _ _ _ hS.imm hgp.wf h25 hx3.wf hxo (ref3_commute hx3))) ?_
          rintro _ w_26 ⟨I_f, a110, m110, c110, d110, n110, e110, rfl, hE, h110, k110⟩
          replace hS := hS.call hE
          replace h64 := h64.mono hE.ext
          replace h65 := h65.mono hE.ext
          replace h25 := h25.mono hE.ext
          replace h45 := h45.mono hE.ext
          replace hxo := hxo.mono hE.ext
          replace hxA := hxA.mono hE.ext
          replace heA := heA.mono hE.ext
          refine ⟨_, _, hS0.le hE.ext (List.Sublist.refl _), hS, ?_⟩
          have hS0 := hS
          refine Inl.set rfl rfl rfl (d_call Try.call21 rfl (same11_T PatL.zero PatL.zero e _ _ none none _ _ _ _ 0 0 0 0 _ _ hS.imm zero_wf zero_wf h110 k110 RSl.nilR RSl.nilR)) ?_
          rintro _ w_27 ⟨rfl, hE⟩
          replace hS := hS.call hE
          refine ⟨_, _, hS0.le hE.ext (List.Sublist.refl _), hS, ?_⟩
          refine spt rfl rfl rfl (g_not rfl) ?_
          refine sp rfl (g_or rfl rfl (fun _ => rfl)) ?_
          refine sn (thenN ?_)
          refine cond_f (rfl) ?_
          refine wpIn_skip ?_
          refine blkN (thenN ?_)
          refine reg ?_
          refine qq hS (g_movev (v := .int .i64 _) rfl) ?_
          refine qq hS (g_add rfl rfl (by omega) (by omega)) ?_
          refine qq hS (g_assignv (v := .int .i64 _) rfl) ?_
          refine ol_nil (thenN ?_)
          exact ⟨i + 1, _, rfl, ⟨⟨rfl, rfl, rfl, rfl, rfl, rfl, rfl, trivial⟩, _, hS.sel [true, true, true], by omega, h64, h65, h25, h45⟩, by omega⟩
      ·
        intro hc69
        try simp only [Bool.and_eq_true, Bool.or_eq_true, Bool.not_eq_true', Bool.and_eq_false_imp, Bool.or_eq_false_iff, Bool.not_eq_false', decide_eq_true_eq, decide_eq_false_iff_not] at hc69
        refine wpIn_exit ?_
        refine thenE (thenE (blkE ?_))
        refine thenN ?_
        refine wpIn_seq ?_
        refine reg ?_
        refine qq hS (g_ldO 0 (vs := [.bool _, .int .i64 _, .int .i64 _, .slice _ _ _]) Try.sizeOf31 Try.isAgg31 rfl rfl rfl rfl) ?_
        refine qe (d_call Try.call11 rfl (touched_L (badR (decide (t1 % 2 = 0)) p) [] 60 0 _ _ _ _ _ hS.imm hbw h25 htb rfl)) ?_
        rintro _ w_28 ⟨I_f, a121, c121, rfl, hE, h121⟩
        replace hS := hS.callE hE
        replace h64 := h64.mono hE.ext
        replace h65 := h65.mono hE.ext
        replace h25 := h25.mono hE.ext
        replace h45 := h45.mono hE.ext
        refine qq hS (g_move _) ?_
        refine qq hS (g_extract rfl rfl) ?_
        refine qq hS (g_extract (v := .int .i64 _) rfl rfl) ?_
        refine qq hS (g_assign _) ?_
        refine qq hS (g_assignv (v := .int .i64 _) rfl) ?_
        refine ol_nil (thenN ?_)
        refine wpIn_seq ?_
        refine reg ?_
        refine qq hS (g_ldO 1 (vs := [.bool _, .int .i64 _, .int .i64 _, .slice _ _ _]) Try.sizeOf31 Try.isAgg31 rfl rfl rfl rfl) ?_
        refine qe (d_call Try.call13 rfl (read_L (unevenP p.in_) [] 61 0 _ _ _ _ _ hS.imm hu4.wf h45 hrb rfl)) ?_
        rintro _ w_29 ⟨I_f, a126, c126, rfl, hE, h126⟩
        replace hS := hS.callE hE
        replace h64 := h64.mono hE.ext
        replace h65 := h65.mono hE.ext
        replace h25 := h25.mono hE.ext
        replace h45 := h45.mono hE.ext
        replace h121 := h121.mono hE.ext
        refine qq hS (g_move _) ?_
        refine qq hS (g_extract rfl rfl) ?_
        refine qq hS (g_extract (v := .int .i64 _) rfl rfl) ?_
        refine qq hS (g_assign _) ?_
        refine qq hS (g_assignv (v := .int .i64 _) rfl) ?_
        refine ol_nil (thenN ?_)
        refine wpIn_seq ?_
        refine reg ?_
        refine qq hS (g_movev (v := .int .i64 _) rfl) ?_
        refine qq hS (g_eql rfl rfl) ?_
        refine qq hS (g_movev (v := .bool _) rfl) ?_
        refine qqs rfl rfl hS (g_movev (v := .int .i64 _) rfl) ?_
        refine qqs rfl rfl hS (g_eql rfl rfl) ?_
        refine qq hS (g_and rfl rfl (fun _ => rfl)) ?_
        refine qq hS (g_movev (v := .bool _) rfl) ?_
        refine qqs rfl rfl hS (g_movev (v := .bool _) rfl) ?_
        refine qq hS (g_and rfl rfl (fun _ => rfl)) ?_
        refine qq hS (g_assignv (v := .bool _) rfl) ?_
        refine ol_nil (thenN ?_)
        refine wpIn_ret ?_
        refine ret1 Try.results6 (rv_tmp (v := .bool _) rfl) ?_
        exact ⟨_, rfl, hS.nil⟩

end Go.Proofs.Ytalemnjjljnnpaa

