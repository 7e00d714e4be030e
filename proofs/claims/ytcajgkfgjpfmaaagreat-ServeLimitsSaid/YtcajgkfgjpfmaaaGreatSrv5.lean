/- Package serve: Add: what it computes. Conditions: versions that grow, a patch for each link. -/
import Derived.Test.YtcajgkfgjpfmaaaGreatKSrv
set_option linter.unusedSimpArgs false
set_option linter.unusedVariables false
namespace Go.Proofs.YtcajgkfgjpfmaaaGreat
open Tryz
open Go Go.RowKit Go.Inl
def endOf (l : LnkL) (p : PatL) : EndL := ⟨l.f, l.t, p.in_, p.out⟩
def allFit (s : SrvL) (l : LnkL) (p : PatL) : Bool := (zipLP s.g.ls s.ps).all fun z => fitsE (endOf z.l z.p) (endOf l p)
def addG (s : SrvL) (l : LnkL) : GrL := ⟨insI (insI s.g.vs l.f) l.t, s.g.ls ++ [l]⟩
def loE (f t : Int) : Int := if t < f then t else f
def hiE (f t : Int) : Int := if t > f then t else f
def addP (s : SrvL) (l : LnkL) (p : PatL) : WdR :=
 if (checkP p).2 ≠ 0 then ⟨s, (checkP p).2⟩
 else if p.lifted = true then ⟨s, 62⟩
 else if validG ⟨[loE l.f l.t, hiE l.f l.t], [l]⟩ = true then
  if allFit s l p = true then
   if validG (addG s l) = true then ⟨⟨addG s l, s.ps ++ [p], s.gone, []⟩, 0⟩ else ⟨s, 2⟩
  else ⟨s, 61⟩
 else ⟨s, 1⟩
theorem snocL (a : List LnkL) (l : LnkL) : flat lnkC a ++ [.int .i64 l.f, .int .i64 l.t, .int .i64 l.c, .int .i64 l.n.s, .int .i64 l.n.u, .int .i64 l.n.r, .int .i64 l.n.e, .int .i64 l.n.o] = flat lnkC (a ++ [l]) := by rw [qv]; rfl
theorem all_until {α : Type} {l : List α} {f : α → Bool} (h : ∀ (i : Nat) (x : α), l[i]? = some x → f x = true) : l.all f = true := by
 rw [List.all_eq_true]
 intro x hx
 obtain ⟨i, hi⟩ := List.mem_iff_getElem?.1 hx
 exact h i x hi
theorem all_not {α : Type} {l : List α} {f : α → Bool} {i : Nat} {x : α} (h : l[i]? = some x) (hf : f x = false) : l.all f = false := by
 cases e : l.all f with
 | false => rfl
 | true => rw [List.all_eq_true] at e; have := e x (List.mem_of_getElem? h); rw [hf] at this; cases this
theorem qM {α : Type} {enc : α → List Value} {sz : Nat} (he : ∀ x, (enc x).length = sz) {css : List (List Value)} {l : List α} (h : All2 (fun cs x => cs = enc x) css l) : css.flatten = flat enc l := by
 have : css = l.map enc := by
  refine List.ext_getElem? fun i => ?_
  rw [List.getElem?_map]
  cases e : l[i]? with
  | none => exact List.getElem?_eq_none_iff.2 (by rw [h.1]; exact List.getElem?_eq_none_iff.1 e)
  | some x =>
    have h1 := (List.getElem?_eq_some_iff.1 e).1
    obtain ⟨c, hc⟩ : ∃ c, css[i]? = some c := ⟨_, List.getElem?_eq_getElem (by rw [h.1]; exact h1)⟩
    rw [hc, h.2 i c x hc e]; rfl
 rw [this]; unfold flat; rw [List.flatMap_def]
set_option maxHeartbeats 4000000 in
theorem add_c (s : SrvL) (A : SrvA) (l : LnkL) (p : PatL) (ap : Option Addr) (pm cp : Nat) (w0 : World) (I0 : Imm) (hI : Sat I0 w0) (hs : RSrv I0 A s) (hy : ROps I0 (.slice ap pm cp) p.ops) (hp : p.wf) (hvi : s.g.vs.Pairwise (· < ·)) (hvn : s.g.vs.length ≤ 1000) (hln : s.g.ls.length ≤ 1000) (hpl : s.ps.length = s.g.ls.length) :
 Ctr prog 27 [.agg #[.slice A.a0 s.g.vs.length A.c0, .slice A.a1 s.g.ls.length A.c1, .slice A.a2 s.ps.length A.c2, .slice A.a3 s.gone.length A.c3, .slice A.a4 s.cache.length A.c4], .agg #[.int .i64 l.f, .int .i64 l.t, .int .i64 l.c, .int .i64 l.n.s, .int .i64 l.n.u, .int .i64 l.n.r, .int .i64 l.n.e, .int .i64 l.n.o], .agg #[.bool p.lifted, .int .i64 p.in_, .int .i64 p.out, .slice ap pm cp]] w0 (fun v w' => ∃ I' A', v = .tuple #[.agg #[.slice A'.a0 (addP s l p).s.g.vs.length A'.c0, .slice A'.a1 (addP s l p).s.g.ls.length A'.c1, .slice A'.a2 (addP s l p).s.ps.length A'.c2, .slice A'.a3 (addP s l p).s.gone.length A'.c3, .slice A'.a4 (addP s l p).s.cache.length A'.c4], .int .i64 (addP s l p).e] ∧ Ext w0 I0 w' I' ∧ RSrv I' A' (addP s l p).s) := by
 have hi1 := jw (n := l.f) hvi
 have hi2 := jw (n := l.t) hi1
 have hn1 := zr l.f s.g.vs
 have hn2 := zr l.t (insI s.g.vs l.f)
 refine fn (n := 96) func27 rfl rfl rfl ?_
 have hS := St.start hI
 refine QwR ?_
 refine qe (d_box (cs := [.slice _ _ _, .slice _ _ _, .slice _ _ _, .slice _ _ _, .slice _ _ _]) hS rfl) ?_
 clear hS
 rintro _ w_1 ⟨b3, rfl, hS⟩
 refine qe (d_box (cs := [.int .i64 _, .int .i64 _, .int .i64 _, .int .i64 _, .int .i64 _, .int .i64 _, .int .i64 _, .int .i64 _]) hS rfl) ?_
 clear hS
 rintro _ w_2 ⟨b4, rfl, hS⟩
 refine qe (d_box (cs := [.bool _, .int .i64 _, .int .i64 _, .slice _ _ _]) hS rfl) ?_
 clear hS
 rintro _ w_3 ⟨b5, rfl, hS⟩
 refine qe (qo (cs := [.slice _ _ _, .slice _ _ _, .slice _ _ _, .slice _ _ _, .slice _ _ _]) hS zeroValue38 rfl) ?_
 clear hS
 rintro _ w_4 ⟨b6, rfl, hS⟩
 refine qq hS (Qai rfl) (QoN (wpIn_seq (QwR ?_)))
 refine qq hS (g_ldO 1 (vs := [.bool _, .int .i64 _, .int .i64 _, .slice _ _ _]) sizeOf46 isAgg46 rfl rfl rfl rfl) ?_
 refine qe (qj call59 rfl (check_c p ap pm cp _ _ hS.imm hy hp)) ?_
 rintro _ w_5 ⟨rfl, hE⟩
 replace hS := hS.callE hE
 refine qq hS (qh _) ?_
 refine qq hS (Qxi rfl rfl) ?_
 refine qq hS (Qxi rfl rfl) ?_
 refine qq hS (Qai rfl) (qq hS (Qai rfl) (QoR (qq hS (Qmi rfl) ?_)))
 refine qq hS (g_neq rfl rfl) ?_
 refine QoN ?_
 refine qk rfl ?_ ?_
 ·
  intro hc20
  try simp only [zA, zO, zN, zI, zF, zM, zT, zU] at hc20
  have hR : addP s l p = ⟨s, (checkP p).2⟩ := by unfold addP; rw [if_pos hc20]
  refine QwR ?_
  refine qq hS (g_ldO 3 (vs := [.slice _ _ _, .slice _ _ _, .slice _ _ _, .slice _ _ _, .slice _ _ _]) sizeOf38 isAgg38 rfl rfl rfl rfl) ?_
  refine qq hS (Qmi rfl) ?_
  refine qe (qg 0 hS sizeOf38 rfl rfl rfl (vs := [.slice _ _ _, .slice _ _ _, .slice _ _ _, .slice _ _ _, .slice _ _ _]) rfl rfl rfl (Nat.le_of_ble_eq_true rfl) (cs' := [_, _, _, _, _]) rfl) ?_
  clear hS
  rintro _ w_6 ⟨rfl, hS⟩
  refine qq hS (Qai rfl) (QoN (wpIn_ret ?_))
  refine thenR ?_
  refine ret2 results27 (qt 0 hS sizeOf38 isAgg38 rfl rfl rfl) (qi (v := .int .i64 _) rfl) ?_
  rw [hR]; exact ⟨_, A, rfl, hS.nil, hs⟩
 ·
  intro hc20
  try simp only [zA, zO, zN, zI, zF, zM, zT, zU] at hc20
  have hR0 : addP s l p = if p.lifted = true then ⟨s, 62⟩ else if validG ⟨[loE l.f l.t, hiE l.f l.t], [l]⟩ = true then (if allFit s l p = true then (if validG (addG s l) = true then ⟨⟨addG s l, s.ps ++ [p], s.gone, []⟩, 0⟩ else ⟨s, 2⟩) else ⟨s, 61⟩) else ⟨s, 1⟩ := by unfold addP; rw [if_neg (fun h => h hc20)]
  refine wpIn_skip (thenN (wpIn_seq (QwR ?_)))
  refine qq hS (qb (o' := 0) underlying46 rfl sizeOf4 rfl rfl rfl) ?_
  refine qq hS (qf 1 isAgg4 rfl rfl rfl) ?_
  refine QoN ?_
  refine qk rfl ?_ ?_
  ·
   intro hc24
   have hR : addP s l p = ⟨s, 62⟩ := by rw [hR0, if_pos hc24]
   refine QwR ?_
   refine qq hS (g_ldO 3 (vs := [.slice _ _ _, .slice _ _ _, .slice _ _ _, .slice _ _ _, .slice _ _ _]) sizeOf38 isAgg38 rfl rfl rfl rfl) ?_
   refine qe (qg 0 hS sizeOf38 rfl rfl rfl (vs := [.slice _ _ _, .slice _ _ _, .slice _ _ _, .slice _ _ _, .slice _ _ _]) rfl rfl rfl (Nat.le_of_ble_eq_true rfl) (cs' := [_, _, _, _, _]) rfl) ?_
   clear hS
   rintro _ w_7 ⟨rfl, hS⟩
   refine qq hS (Qai rfl) (QoN (wpIn_ret ?_))
   refine thenR ?_
   refine ret2 results27 (qt 0 hS sizeOf38 isAgg38 rfl rfl rfl) (qi (v := .int .i64 _) rfl) ?_
   rw [hR]; exact ⟨_, A, rfl, hS.nil, hs⟩
  ·
   intro hc24
   rw [if_neg (by rw [hc24]; exact Bool.false_ne_true)] at hR0
   refine wpIn_skip (thenN (QwR ?_))
   refine qq hS (qb (o' := 0) underlying60 rfl sizeOf3 rfl rfl rfl) ?_
   refine qq hS (qf 2 isAgg3 rfl rfl rfl) ?_
   refine qq hS (qb (o' := 1) underlying60 rfl sizeOf3 rfl rfl rfl) ?_
   refine qq hS (qf 2 isAgg3 rfl rfl rfl) ?_
   refine qq hS (g_min rfl rfl) ?_
   refine qq hS (qb (o' := 0) underlying60 rfl sizeOf3 rfl rfl rfl) ?_
   refine qq hS (qf 2 isAgg3 rfl rfl rfl) ?_
   refine qq hS (qb (o' := 1) underlying60 rfl sizeOf3 rfl rfl rfl) ?_
   refine qq hS (qf 2 isAgg3 rfl rfl rfl) ?_
   refine qq hS (g_max rfl rfl) ?_
   refine qe (d_lit (vs := [.int .i64 _, .int .i64 _]) (cs := [.int .i64 _, .int .i64 _]) hS underlying31 sizeOf3 zeroValue3 rfl rfl rfl rfl (fun v hv => by simp only [List.mem_cons, List.not_mem_nil, or_false] at hv; rcases hv with rfl | rfl <;> rfl) rfl) ?_
   clear hS
   rintro _ w_8 ⟨b36, rfl, hS⟩
   have hF := hS.freeze1
   clear hS
   obtain ⟨I36, hS, hI36, hb36⟩ := hF
   replace hs := hs.mono hI36
   replace hy := hy.mono hI36
   have h36 := RFl.ofAt qB [loE l.f l.t, hiE l.f l.t] hb36 rfl (by show 2 ≤ maxLen; decide)
   refine qq hS (qp _) (QoN (wpIn_seq (QwR (qq hS (qh _) ?_))))
   refine qq hS (g_ldO 2 (vs := [.int .i64 _, .int .i64 _, .int .i64 _, .int .i64 _, .int .i64 _, .int .i64 _, .int .i64 _, .int .i64 _]) sizeOf60 isAgg60 rfl rfl rfl rfl) ?_
   refine qe (d_lit (vs := [.agg #[.int .i64 _, .int .i64 _, .int .i64 _, .int .i64 _, .int .i64 _, .int .i64 _, .int .i64 _, .int .i64 _]]) (cs := [.int .i64 _, .int .i64 _, .int .i64 _, .int .i64 _, .int .i64 _, .int .i64 _, .int .i64 _, .int .i64 _]) hS underlying32 sizeOf60 zeroValue60 rfl rfl rfl rfl (fun v hv => by simp only [List.mem_cons, List.not_mem_nil, or_false] at hv; subst hv; rfl) rfl) ?_
   clear hS
   rintro _ w_9 ⟨b39, rfl, hS⟩
   have hF := hS.freeze1
   clear hS
   obtain ⟨I39, hS, hI39, hb39⟩ := hF
   replace hs := hs.mono hI39
   replace hy := hy.mono hI39
   replace h36 := h36.mono hI39
   have h39 := RFl.ofAt qC [l] hb39 rfl (by show 1 ≤ maxLen; decide)
   refine qq hS (ql (pl := [(0, 1), (1, 1)]) (cs := [.slice _ _ _, .slice _ _ _]) zeroValue34 underlying34 (fun w => by simp [sizeOf31, sizeOf32]) (mp (v := .slice _ _ _) rfl (mp (v := .slice _ _ _) rfl mp0)) rfl) ?_
   refine qe (qj call60 rfl (gvalid_c ⟨[loE l.f l.t, hiE l.f l.t], [l]⟩ _ _ _ _ _ _ hS.imm ⟨h36, h39⟩)) ?_
   rintro _ w_10 ⟨rfl, hE⟩
   replace hS := hS.callE hE
   refine qq hS (g_not rfl) ?_
   refine QoN ?_
   refine qk rfl ?_ ?_
   ·
    intro hc42
    have hR : addP s l p = ⟨s, 1⟩ := by rw [hR0, if_neg (by simpa using hc42)]
    refine QwR ?_
    refine qq hS (g_ldO 3 (vs := [.slice _ _ _, .slice _ _ _, .slice _ _ _, .slice _ _ _, .slice _ _ _]) sizeOf38 isAgg38 rfl rfl rfl rfl) ?_
    refine qe (qg 0 hS sizeOf38 rfl rfl rfl (vs := [.slice _ _ _, .slice _ _ _, .slice _ _ _, .slice _ _ _, .slice _ _ _]) rfl rfl rfl (Nat.le_of_ble_eq_true rfl) (cs' := [_, _, _, _, _]) rfl) ?_
    clear hS
    rintro _ w_11 ⟨rfl, hS⟩
    refine qq hS (Qai rfl) (QoN (wpIn_ret ?_))
    refine thenR ?_
    refine ret2 results27 (qt 0 hS sizeOf38 isAgg38 rfl rfl rfl) (qi (v := .int .i64 _) rfl) ?_
    rw [hR]; exact ⟨_, A, rfl, hS.nil, hs⟩
   ·
    intro hc42
    rw [if_pos (by simpa using hc42)] at hR0
    refine wpIn_skip (thenN (wpIn_seq (QwR ?_)))
    refine qq hS (qb (o' := 0) underlying38 rfl sizeOf34 rfl rfl rfl) ?_
    refine qq hS (qb (o' := 1) underlying34 rfl sizeOf32 rfl rfl rfl) ?_
    refine qq hS (qf 3 isAgg32 rfl rfl rfl) ?_
    refine qq hS (qs rfl underlying32 hs.g.ls rfl) ?_
    refine qq hS (Qmi rfl) (QoN (wpIn_block ?_))
    refine loop (fun (i : Nat) σ w => okS σ [(3, .pointer (some ⟨b3, 0, none⟩)), (4, .pointer (some ⟨b4, 0, none⟩)), (5, .pointer (some ⟨b5, 0, none⟩)), (6, .pointer (some ⟨b6, 0, none⟩)), (46, .slice A.a1 s.g.ls.length A.c1), (47, .int .i64 s.g.ls.length), (48, .int .i64 i)] ∧ St [] w0 I0 I39 w [.cel b6 38 [.slice none 0 0, .slice none 0 0, .slice none 0 0, .slice none 0 0, .slice none 0 0], .cel b5 46 [.bool p.lifted, .int .i64 p.in_, .int .i64 p.out, .slice ap pm cp], .cel b4 60 [.int .i64 l.f, .int .i64 l.t, .int .i64 l.c, .int .i64 l.n.s, .int .i64 l.n.u, .int .i64 l.n.r, .int .i64 l.n.e, .int .i64 l.n.o], .cel b3 38 [.slice A.a0 s.g.vs.length A.c0, .slice A.a1 s.g.ls.length A.c1, .slice A.a2 s.ps.length A.c2, .slice A.a3 s.gone.length A.c3, .slice A.a4 s.cache.length A.c4]] ∧ i ≤ s.g.ls.length ∧ ∀ (j : Nat) (x : LnkP), j < i → (zipLP s.g.ls s.ps)[j]? = some x → fitsE (endOf x.l x.p) (endOf l p) = true) (fun i => s.g.ls.length - i) (0) ?_ ?_
    ·
     exact ⟨⟨rfl, rfl, rfl, rfl, rfl, rfl, rfl, trivial⟩, hS.sel [true, true, true, true], by omega, fun j x hj => by omega⟩
    ·
     rintro i σ w_l ⟨hs, hS, hi0, hall⟩
     rw [← qr hs]; clear hs
     refine QwR ?_
     refine qq hS (g_lss rfl rfl) ?_
     refine QoN (wpIn_seq ?_)
     refine qk rfl ?_ ?_
     ·
      intro hc49
      try simp only [zA, zO, zN, zI, zF, zM, zT, zU] at hc49
      obtain ⟨k, hki⟩ : ∃ k, s.g.ls[i]? = some k := ⟨_, List.getElem?_eq_getElem (by omega)⟩
      obtain ⟨q, hqi⟩ : ∃ q, s.ps[i]? = some q := ⟨_, List.getElem?_eq_getElem (by omega)⟩
      have hkA := hs.g.ls.at hki
      obtain ⟨csq, hclq, hpA, hqc⟩ := RSl.at hs.ps hqi
      obtain ⟨qa, qm, qc, rfl, hpo⟩ := hqc
      have hz := yb hki hqi
      refine wpIn_skip (thenN (wpIn_seq (wpIn_block (QwR (qq hS (Qmi rfl) ?_)))))
      refine qq hS (g_ixI underlying32 sizeOf60 hs.g.ls rfl rfl (by omega) (by omega)) ?_
      refine qq hS (g_ldE (us := [.int .i64 _, .int .i64 _, .int .i64 _, .int .i64 _, .int .i64 _, .int .i64 _, .int .i64 _, .int .i64 _]) sizeOf60 isAgg60 hkA rfl rfl rfl) ?_
      refine qe (qo (cs := [.int .i64 _, .int .i64 _, .int .i64 _, .int .i64 _, .int .i64 _, .int .i64 _, .int .i64 _, .int .i64 _]) hS zeroValue60 rfl) ?_
      clear hS
      rintro _ w_12 ⟨b12, rfl, hS⟩
      refine qq hS (Qai rfl) ?_
      refine qe (qg 0 hS sizeOf60 rfl rfl rfl (vs := [.int .i64 _, .int .i64 _, .int .i64 _, .int .i64 _, .int .i64 _, .int .i64 _, .int .i64 _, .int .i64 _]) rfl rfl rfl (Nat.le_of_ble_eq_true rfl) (cs' := [_, _, _, _, _, _, _, _]) rfl) ?_
      clear hS
      rintro _ w_13 ⟨rfl, hS⟩
      refine QoN (wpIn_seq ?_)
      refine draw (.cons 0 .held (.cons 1 .pure (.cons 2 .held (.cons 3 .pure (.cons 4 .pure (.cons 5 .held (.cons 6 .held (.cons 7 .held (.cons 8 .eff (.cons 9 .pure .nil)))))))))) mixed (by kernel_rfl) hS ?_
      intro w_14 hS
      refine sh rfl (g_ldO 0 (vs := [.int .i64 _, .int .i64 _, .int .i64 _, .int .i64 _, .int .i64 _, .int .i64 _, .int .i64 _, .int .i64 _]) sizeOf60 isAgg60 rfl rfl rfl rfl) ?_
      refine sp rfl (qb (o' := 2) underlying38 rfl sizeOf35 rfl rfl rfl) ?_
      refine sh rfl (qf 4 isAgg35 rfl rfl rfl) ?_
      refine sp rfl (Qmi rfl) ?_
      refine sp rfl (g_ixI underlying35 sizeOf46 hs.ps rfl rfl (by omega) (by omega)) ?_
      refine sh rfl (g_ldE (us := [.bool _, .int .i64 _, .int .i64 _, .slice _ _ _]) sizeOf46 isAgg46 hpA rfl rfl rfl) ?_
      refine sh rfl (g_ldO 3 (vs := [.int .i64 _, .int .i64 _, .int .i64 _, .int .i64 _, .int .i64 _, .int .i64 _, .int .i64 _, .int .i64 _]) sizeOf60 isAgg60 rfl rfl rfl rfl) ?_
      refine sh rfl (g_ldO 2 (vs := [.bool _, .int .i64 _, .int .i64 _, .slice _ _ _]) sizeOf46 isAgg46 rfl rfl rfl rfl) ?_
      have hS0 := hS
      refine se rfl (qj call61 rfl (fits30_c k l q p qa ap qm qc pm cp _ _ hS.imm)) ?_
      rintro _ w_15 ⟨rfl, hE⟩
      replace hS := hS.call hE
      refine ⟨_, _, hS0.le hE.ext (List.Sublist.refl _), hS, ?_⟩
      refine sp rfl (g_not rfl) ?_
      refine sn (thenN ?_)
      refine qk rfl ?_ ?_
      ·
       intro hc62
       have hff : fitsE (endOf k q) (endOf l p) = false := by unfold endOf; simpa using hc62
       have haf : allFit s l p = false := all_not hz hff
       have hR : addP s l p = ⟨s, 61⟩ := by rw [hR0, if_neg (by rw [haf]; exact Bool.false_ne_true)]
       refine QwR ?_
       refine qq hS (g_ldO 4 (vs := [.slice _ _ _, .slice _ _ _, .slice _ _ _, .slice _ _ _, .slice _ _ _]) sizeOf38 isAgg38 rfl rfl rfl rfl) ?_
       refine qe (qg 1 hS sizeOf38 rfl rfl rfl (vs := [.slice _ _ _, .slice _ _ _, .slice _ _ _, .slice _ _ _, .slice _ _ _]) rfl rfl rfl (Nat.le_of_ble_eq_true rfl) (cs' := [_, _, _, _, _]) rfl) ?_
       clear hS
       rintro _ w_16 ⟨rfl, hS⟩
       refine qq hS (Qai rfl) (QoN (wpIn_ret ?_))
       refine blkR (thenR (thenR (blkR (thenR ?_))))
       refine ret2 results27 (qt 1 hS sizeOf38 isAgg38 rfl rfl rfl) (qi (v := .int .i64 _) rfl) ?_
       rw [hR]; exact ⟨_, A, rfl, hS.nil, hs⟩
      ·
       intro hc62
       have hff : fitsE (endOf k q) (endOf l p) = true := by unfold endOf; simpa using hc62
       have hnx : ∀ (j : Nat) (x : LnkP), j < i + 1 → (zipLP s.g.ls s.ps)[j]? = some x → fitsE (endOf x.l x.p) (endOf l p) = true := fun j x hj hx => by
        rcases Nat.lt_succ_iff_lt_or_eq.1 hj with g | g
        · exact hall j x g hx
        · subst g; rw [hz] at hx; cases hx; exact hff
       refine wpIn_skip (blkN (thenN (reg ?_)))
       refine qq hS (g_add rfl rfl (by omega) (by omega)) ?_
       refine qq hS (Qmi rfl) ?_
       exact ⟨i + 1, _, rfl, ⟨⟨rfl, rfl, rfl, rfl, rfl, rfl, rfl, trivial⟩, hS.sel [false, true, true, true, true], by omega, hnx⟩, by omega⟩
     ·
      intro hc49
      try simp only [zA, zO, zN, zI, zF, zM, zT, zU] at hc49
      obtain rfl : i = s.g.ls.length := by omega
      have haf : allFit s l p = true := all_until fun i x hx => hall i x (by have h1 := (List.getElem?_eq_some_iff.1 hx).1; rw [zw hpl] at h1; exact h1) hx
      rw [if_pos haf] at hR0
      refine wpIn_exit ?_
      refine thenE (thenE (blkE ?_))
      refine thenN ?_
      refine meet (fun σ w => ∃ I b13 a73 c73 a80 c80, okS σ [(3, .pointer (some ⟨b3, 0, none⟩)), (4, .pointer (some ⟨b4, 0, none⟩)), (5, .pointer (some ⟨b5, 0, none⟩)), (6, .pointer (some ⟨b6, 0, none⟩)), (13, .pointer (some ⟨b13, 0, none⟩))] ∧ St [] w0 I0 I w [.cel b13 34 [.slice a73 (insI (insI s.g.vs l.f) l.t).length c73, .slice a80 (s.g.ls.length + 1) c80], .row (.slice a80 (s.g.ls.length + 1) c80) 60 8 (s.g.ls.length + 1) (flat lnkC (s.g.ls ++ [l])), .cel b6 38 [.slice none 0 0, .slice none 0 0, .slice none 0 0, .slice none 0 0, .slice none 0 0], .cel b5 46 [.bool p.lifted, .int .i64 p.in_, .int .i64 p.out, .slice ap pm cp], .cel b4 60 [.int .i64 l.f, .int .i64 l.t, .int .i64 l.c, .int .i64 l.n.s, .int .i64 l.n.u, .int .i64 l.n.r, .int .i64 l.n.e, .int .i64 l.n.o], .cel b3 38 [.slice A.a0 s.g.vs.length A.c0, .slice A.a1 s.g.ls.length A.c1, .slice A.a2 s.ps.length A.c2, .slice A.a3 s.gone.length A.c3, .slice A.a4 s.cache.length A.c4]] ∧ RSrv I A s ∧ ROps I (.slice ap pm cp) p.ops ∧ RFl I 1 intC (.slice a73 (insI (insI s.g.vs l.f) l.t).length c73) (insI (insI s.g.vs l.f) l.t)) ?_ ?_
      ·
       refine draw (.cons 0 .pure (.cons 1 .pure (.cons 2 .held (.cons 3 .pure (.cons 4 .held (.cons 6 .pure (.cons 7 .held (.cons 9 .pure (.cons 10 .pure (.cons 11 .held (.cons 13 .held (.fork3 5 (.fork3 8 (.fork3 12 (.fork 14 (.fork 15 (.cons 16 .pure (.cons 17 .eff (.cons 18 .bar .nil))) 17 (.cons 15 .eff (.cons 16 .pure (.cons 18 .bar .nil)))) 17 (.cons 14 .eff (.cons 15 .eff (.cons 16 .pure (.cons 18 .bar .nil))))) 14 (.fork 12 (.fork 15 (.cons 16 .pure (.cons 17 .eff (.cons 18 .bar .nil))) 17 (.cons 15 .eff (.cons 16 .pure (.cons 18 .bar .nil)))) 17 (.cons 12 .eff (.cons 15 .eff (.cons 16 .pure (.cons 18 .bar .nil))))) 17 (.fork 12 (.cons 14 .eff (.cons 15 .eff (.cons 16 .pure (.cons 18 .bar .nil)))) 14 (.cons 12 .eff (.cons 15 .eff (.cons 16 .pure (.cons 18 .bar .nil)))))) 14 (.fork 8 (.fork 12 (.fork 15 (.cons 16 .pure (.cons 17 .eff (.cons 18 .bar .nil))) 17 (.cons 15 .eff (.cons 16 .pure (.cons 18 .bar .nil)))) 17 (.cons 12 .eff (.cons 15 .eff (.cons 16 .pure (.cons 18 .bar .nil))))) 17 (.cons 8 .eff (.cons 12 .eff (.cons 15 .eff (.cons 16 .pure (.cons 18 .bar .nil)))))) 17 (.fork 8 (.fork 12 (.cons 14 .eff (.cons 15 .eff (.cons 16 .pure (.cons 18 .bar .nil)))) 14 (.cons 12 .eff (.cons 15 .eff (.cons 16 .pure (.cons 18 .bar .nil))))) 14 (.cons 8 .eff (.cons 12 .eff (.cons 15 .eff (.cons 16 .pure (.cons 18 .bar .nil))))))) 14 (.fork 5 (.fork 8 (.fork 12 (.fork 15 (.cons 16 .pure (.cons 17 .eff (.cons 18 .bar .nil))) 17 (.cons 15 .eff (.cons 16 .pure (.cons 18 .bar .nil)))) 17 (.cons 12 .eff (.cons 15 .eff (.cons 16 .pure (.cons 18 .bar .nil))))) 17 (.cons 8 .eff (.cons 12 .eff (.cons 15 .eff (.cons 16 .pure (.cons 18 .bar .nil)))))) 17 (.cons 5 .eff (.cons 8 .eff (.cons 12 .eff (.cons 15 .eff (.cons 16 .pure (.cons 18 .bar .nil))))))) 17 (.fork 5 (.fork 8 (.fork 12 (.cons 14 .eff (.cons 15 .eff (.cons 16 .pure (.cons 18 .bar .nil)))) 14 (.cons 12 .eff (.cons 15 .eff (.cons 16 .pure (.cons 18 .bar .nil))))) 14 (.cons 8 .eff (.cons 12 .eff (.cons 15 .eff (.cons 16 .pure (.cons 18 .bar .nil)))))) 14 (.cons 5 .eff (.cons 8 .eff (.cons 12 .eff (.cons 15 .eff (.cons 16 .pure (.cons 18 .bar .nil))))))))))))))))))) mixed (by kernel_rfl) hS ?_
       intro w_17 hS
       refine sp rfl (qb (o' := 0) underlying38 rfl sizeOf34 rfl rfl rfl) ?_
       refine sp rfl (qb (o' := 0) underlying34 rfl sizeOf31 rfl rfl rfl) ?_
       refine sh rfl (qf 3 isAgg31 rfl rfl rfl) ?_
       refine sp rfl (qb (o' := 0) underlying60 rfl sizeOf3 rfl rfl rfl) ?_
       refine sh rfl (qf 2 isAgg3 rfl rfl rfl) ?_
       refine sp rfl (qb (o' := 1) underlying60 rfl sizeOf3 rfl rfl rfl) ?_
       refine sh rfl (qf 2 isAgg3 rfl rfl rfl) ?_
       refine sp rfl (qb (o' := 0) underlying38 rfl sizeOf34 rfl rfl rfl) ?_
       refine sp rfl (qb (o' := 1) underlying34 rfl sizeOf32 rfl rfl rfl) ?_
       refine sh rfl (qf 3 isAgg32 rfl rfl rfl) ?_
       refine sh rfl (g_ldO 2 (vs := [.int .i64 _, .int .i64 _, .int .i64 _, .int .i64 _, .int .i64 _, .int .i64 _, .int .i64 _, .int .i64 _]) sizeOf60 isAgg60 rfl rfl rfl rfl) ?_
       refine sk3 ?_ ?_ ?_
       ·
        have hS0 := hS
        refine se rfl (qj call50 rfl (qZ A.a0 A.c0 s.g.vs l.f _ _ hS.imm hs.g.vs hvi (by omega))) ?_
        rintro _ w_18 ⟨I_f, a70, c70, rfl, hE, h70⟩
        replace hS := hS.call hE
        replace hs := hs.mono hE.ext
        replace hy := hy.mono hE.ext
        replace h36 := h36.mono hE.ext
        replace h39 := h39.mono hE.ext
        refine ⟨_, _, hS0.le hE.ext (List.Sublist.refl _), hS, ?_⟩
        refine sk3 ?_ ?_ ?_
        ·
         have hS0 := hS
         refine se rfl (qj call50 rfl (qZ a70 c70 (insI s.g.vs l.f) l.t _ _ hS.imm h70 hi1 (by omega))) ?_
         rintro _ w_19 ⟨I_f, a73, c73, rfl, hE, h73⟩
         replace hS := hS.call hE
         replace hs := hs.mono hE.ext
         replace hy := hy.mono hE.ext
         replace h36 := h36.mono hE.ext
         replace h39 := h39.mono hE.ext
         replace h70 := h70.mono hE.ext
         refine ⟨_, _, hS0.le hE.ext (List.Sublist.refl _), hS, ?_⟩
         refine sk3 ?_ ?_ ?_
         ·
          have hS0 := hS
          refine se rfl (qj call62 rfl (qN rfl A.a1 A.c1 s.g.ls _ _ hS.imm hs.g.ls)) ?_
          rintro _ w_20 ⟨rfl, hE⟩
          replace hS := hS.call hE
          refine ⟨_, _, hS0.le hE.ext (List.Sublist.refl _), hS, ?_⟩
          refine sk ?_ ?_
          ·
           have hS0 := hS
           refine se rfl (d_lit (vs := [.agg #[.int .i64 _, .int .i64 _, .int .i64 _, .int .i64 _, .int .i64 _, .int .i64 _, .int .i64 _, .int .i64 _]]) (cs := [.int .i64 _, .int .i64 _, .int .i64 _, .int .i64 _, .int .i64 _, .int .i64 _, .int .i64 _, .int .i64 _]) hS underlying32 sizeOf60 zeroValue60 rfl rfl rfl rfl (fun v hv => by simp only [List.mem_cons, List.not_mem_nil, or_false] at hv; subst hv; rfl) rfl) ?_
           rintro _ w_21 ⟨b79, rfl, hS⟩
           refine ⟨_, _, hS0.le (Sub.refl _) (List.sublist_cons_self _ _), hS, ?_⟩
           refine sk ?_ ?_
           ·
            have hS0 := hS
            refine se rfl (qz 0 hS rfl underlying32 info60 rfl rfl (qI hs.g.ls) rfl rfl rfl rfl rfl (by omega) (by omega)) ?_
            rintro _ w_22 ⟨a80, c80, css80, rfl, hA80, hcl80, hS⟩
            refine ⟨_, _, hS0.le (Sub.refl _) (List.sublist_cons_self _ _), hS, ?_⟩
            refine sp rfl (ql (pl := [(0, 1), (1, 1)]) (cs := [.slice _ _ _, .slice _ _ _]) zeroValue34 underlying34 (fun w => by simp [sizeOf31, sizeOf32]) (mp (v := .slice _ _ _) rfl (mp (v := .slice _ _ _) rfl mp0)) rfl) ?_
            have hS0 := hS
            refine se rfl (qo (cs := [.slice _ _ _, .slice _ _ _]) hS zeroValue34 rfl) ?_
            rintro _ w_23 ⟨b13, rfl, hS⟩
            refine ⟨_, _, hS0.le (Sub.refl _) (List.sublist_cons_self _ _), hS, ?_⟩
            refine sb rfl (qg 0 hS sizeOf34 rfl rfl rfl (vs := [.slice _ _ _, .slice _ _ _]) rfl rfl rfl (Nat.le_of_ble_eq_true rfl) (cs' := [_, _]) rfl) ?_
            rintro _ w_24 ⟨rfl, hS⟩
            refine ⟨_, _, hS, ?_⟩
            refine sn (thenN ?_)
            rw [qM qC hA80, snocL] at hS
            exact ⟨_, rfl, _, b13, a73, c73, a80, c80, ⟨rfl, rfl, rfl, rfl, rfl, trivial⟩, (hS.sel [true, true, false, true, true, true, true]), hs, hy, h73⟩
           ·
            have hS0 := hS
            refine se rfl (qo (cs := [.slice _ _ _, .slice _ _ _]) hS zeroValue34 rfl) ?_
            rintro _ w_25 ⟨b13, rfl, hS⟩
            refine ⟨_, _, hS0.le (Sub.refl _) (List.sublist_cons_self _ _), hS, ?_⟩
            have hS0 := hS
            refine se rfl (qz 1 hS rfl underlying32 info60 rfl rfl (qI hs.g.ls) rfl rfl rfl rfl rfl (by omega) (by omega)) ?_
            rintro _ w_26 ⟨a80, c80, css80, rfl, hA80, hcl80, hS⟩
            refine ⟨_, _, hS0.le (Sub.refl _) (List.sublist_cons_self _ _), hS, ?_⟩
            refine sp rfl (ql (pl := [(0, 1), (1, 1)]) (cs := [.slice _ _ _, .slice _ _ _]) zeroValue34 underlying34 (fun w => by simp [sizeOf31, sizeOf32]) (mp (v := .slice _ _ _) rfl (mp (v := .slice _ _ _) rfl mp0)) rfl) ?_
            refine sb rfl (qg 1 hS sizeOf34 rfl rfl rfl (vs := [.slice _ _ _, .slice _ _ _]) rfl rfl rfl (Nat.le_of_ble_eq_true rfl) (cs' := [_, _]) rfl) ?_
            rintro _ w_27 ⟨rfl, hS⟩
            refine ⟨_, _, hS, ?_⟩
            refine sn (thenN ?_)
            rw [qM qC hA80, snocL] at hS
            exact ⟨_, rfl, _, b13, a73, c73, a80, c80, ⟨rfl, rfl, rfl, rfl, rfl, trivial⟩, (hS.ord [1, 0, 3, 4, 5, 6]), hs, hy, h73⟩
          ·
           have hS0 := hS
           refine se rfl (qo (cs := [.slice _ _ _, .slice _ _ _]) hS zeroValue34 rfl) ?_
           rintro _ w_28 ⟨b13, rfl, hS⟩
           refine ⟨_, _, hS0.le (Sub.refl _) (List.sublist_cons_self _ _), hS, ?_⟩
           have hS0 := hS
           refine se rfl (d_lit (vs := [.agg #[.int .i64 _, .int .i64 _, .int .i64 _, .int .i64 _, .int .i64 _, .int .i64 _, .int .i64 _, .int .i64 _]]) (cs := [.int .i64 _, .int .i64 _, .int .i64 _, .int .i64 _, .int .i64 _, .int .i64 _, .int .i64 _, .int .i64 _]) hS underlying32 sizeOf60 zeroValue60 rfl rfl rfl rfl (fun v hv => by simp only [List.mem_cons, List.not_mem_nil, or_false] at hv; subst hv; rfl) rfl) ?_
           rintro _ w_29 ⟨b79, rfl, hS⟩
           refine ⟨_, _, hS0.le (Sub.refl _) (List.sublist_cons_self _ _), hS, ?_⟩
           have hS0 := hS
           refine se rfl (qz 0 hS rfl underlying32 info60 rfl rfl (qI hs.g.ls) rfl rfl rfl rfl rfl (by omega) (by omega)) ?_
           rintro _ w_30 ⟨a80, c80, css80, rfl, hA80, hcl80, hS⟩
           refine ⟨_, _, hS0.le (Sub.refl _) (List.sublist_cons_self _ _), hS, ?_⟩
           refine sp rfl (ql (pl := [(0, 1), (1, 1)]) (cs := [.slice _ _ _, .slice _ _ _]) zeroValue34 underlying34 (fun w => by simp [sizeOf31, sizeOf32]) (mp (v := .slice _ _ _) rfl (mp (v := .slice _ _ _) rfl mp0)) rfl) ?_
           refine sb rfl (qg 2 hS sizeOf34 rfl rfl rfl (vs := [.slice _ _ _, .slice _ _ _]) rfl rfl rfl (Nat.le_of_ble_eq_true rfl) (cs' := [_, _]) rfl) ?_
           rintro _ w_31 ⟨rfl, hS⟩
           refine ⟨_, _, hS, ?_⟩
           refine sn (thenN ?_)
           rw [qM qC hA80, snocL] at hS
           exact ⟨_, rfl, _, b13, a73, c73, a80, c80, ⟨rfl, rfl, rfl, rfl, rfl, trivial⟩, (hS.ord [2, 0, 3, 4, 5, 6]), hs, hy, h73⟩
         ·
          have hS0 := hS
          refine se rfl (d_lit (vs := [.agg #[.int .i64 _, .int .i64 _, .int .i64 _, .int .i64 _, .int .i64 _, .int .i64 _, .int .i64 _, .int .i64 _]]) (cs := [.int .i64 _, .int .i64 _, .int .i64 _, .int .i64 _, .int .i64 _, .int .i64 _, .int .i64 _, .int .i64 _]) hS underlying32 sizeOf60 zeroValue60 rfl rfl rfl rfl (fun v hv => by simp only [List.mem_cons, List.not_mem_nil, or_false] at hv; subst hv; rfl) rfl) ?_
          rintro _ w_32 ⟨b79, rfl, hS⟩
          refine ⟨_, _, hS0.le (Sub.refl _) (List.sublist_cons_self _ _), hS, ?_⟩
          refine sk ?_ ?_
          ·
           have hS0 := hS
           refine se rfl (qj call62 rfl (qN rfl A.a1 A.c1 s.g.ls _ _ hS.imm hs.g.ls)) ?_
           rintro _ w_33 ⟨rfl, hE⟩
           replace hS := hS.call hE
           refine ⟨_, _, hS0.le hE.ext (List.Sublist.refl _), hS, ?_⟩
           refine sk ?_ ?_
           ·
            have hS0 := hS
            refine se rfl (qz 0 hS rfl underlying32 info60 rfl rfl (qI hs.g.ls) rfl rfl rfl rfl rfl (by omega) (by omega)) ?_
            rintro _ w_34 ⟨a80, c80, css80, rfl, hA80, hcl80, hS⟩
            refine ⟨_, _, hS0.le (Sub.refl _) (List.sublist_cons_self _ _), hS, ?_⟩
            refine sp rfl (ql (pl := [(0, 1), (1, 1)]) (cs := [.slice _ _ _, .slice _ _ _]) zeroValue34 underlying34 (fun w => by simp [sizeOf31, sizeOf32]) (mp (v := .slice _ _ _) rfl (mp (v := .slice _ _ _) rfl mp0)) rfl) ?_
            have hS0 := hS
            refine se rfl (qo (cs := [.slice _ _ _, .slice _ _ _]) hS zeroValue34 rfl) ?_
            rintro _ w_35 ⟨b13, rfl, hS⟩
            refine ⟨_, _, hS0.le (Sub.refl _) (List.sublist_cons_self _ _), hS, ?_⟩
            refine sb rfl (qg 0 hS sizeOf34 rfl rfl rfl (vs := [.slice _ _ _, .slice _ _ _]) rfl rfl rfl (Nat.le_of_ble_eq_true rfl) (cs' := [_, _]) rfl) ?_
            rintro _ w_36 ⟨rfl, hS⟩
            refine ⟨_, _, hS, ?_⟩
            refine sn (thenN ?_)
            rw [qM qC hA80, snocL] at hS
            exact ⟨_, rfl, _, b13, a73, c73, a80, c80, ⟨rfl, rfl, rfl, rfl, rfl, trivial⟩, (hS.sel [true, true, false, true, true, true, true]), hs, hy, h73⟩
           ·
            have hS0 := hS
            refine se rfl (qo (cs := [.slice _ _ _, .slice _ _ _]) hS zeroValue34 rfl) ?_
            rintro _ w_37 ⟨b13, rfl, hS⟩
            refine ⟨_, _, hS0.le (Sub.refl _) (List.sublist_cons_self _ _), hS, ?_⟩
            have hS0 := hS
            refine se rfl (qz 1 hS rfl underlying32 info60 rfl rfl (qI hs.g.ls) rfl rfl rfl rfl rfl (by omega) (by omega)) ?_
            rintro _ w_38 ⟨a80, c80, css80, rfl, hA80, hcl80, hS⟩
            refine ⟨_, _, hS0.le (Sub.refl _) (List.sublist_cons_self _ _), hS, ?_⟩
            refine sp rfl (ql (pl := [(0, 1), (1, 1)]) (cs := [.slice _ _ _, .slice _ _ _]) zeroValue34 underlying34 (fun w => by simp [sizeOf31, sizeOf32]) (mp (v := .slice _ _ _) rfl (mp (v := .slice _ _ _) rfl mp0)) rfl) ?_
            refine sb rfl (qg 1 hS sizeOf34 rfl rfl rfl (vs := [.slice _ _ _, .slice _ _ _]) rfl rfl rfl (Nat.le_of_ble_eq_true rfl) (cs' := [_, _]) rfl) ?_
            rintro _ w_39 ⟨rfl, hS⟩
            refine ⟨_, _, hS, ?_⟩
            refine sn (thenN ?_)
            rw [qM qC hA80, snocL] at hS
            exact ⟨_, rfl, _, b13, a73, c73, a80, c80, ⟨rfl, rfl, rfl, rfl, rfl, trivial⟩, (hS.ord [1, 0, 3, 4, 5, 6]), hs, hy, h73⟩
          ·
           have hS0 := hS
           refine se rfl (qo (cs := [.slice _ _ _, .slice _ _ _]) hS zeroValue34 rfl) ?_
           rintro _ w_40 ⟨b13, rfl, hS⟩
           refine ⟨_, _, hS0.le (Sub.refl _) (List.sublist_cons_self _ _), hS, ?_⟩
           have hS0 := hS
           refine se rfl (qj call62 rfl (qN rfl A.a1 A.c1 s.g.ls _ _ hS.imm hs.g.ls)) ?_
           rintro _ w_41 ⟨rfl, hE⟩
           replace hS := hS.call hE
           refine ⟨_, _, hS0.le hE.ext (List.Sublist.refl _), hS, ?_⟩
           have hS0 := hS
           refine se rfl (qz 1 hS rfl underlying32 info60 rfl rfl (qI hs.g.ls) rfl rfl rfl rfl rfl (by omega) (by omega)) ?_
           rintro _ w_42 ⟨a80, c80, css80, rfl, hA80, hcl80, hS⟩
           refine ⟨_, _, hS0.le (Sub.refl _) (List.sublist_cons_self _ _), hS, ?_⟩
           refine sp rfl (ql (pl := [(0, 1), (1, 1)]) (cs := [.slice _ _ _, .slice _ _ _]) zeroValue34 underlying34 (fun w => by simp [sizeOf31, sizeOf32]) (mp (v := .slice _ _ _) rfl (mp (v := .slice _ _ _) rfl mp0)) rfl) ?_
           refine sb rfl (qg 1 hS sizeOf34 rfl rfl rfl (vs := [.slice _ _ _, .slice _ _ _]) rfl rfl rfl (Nat.le_of_ble_eq_true rfl) (cs' := [_, _]) rfl) ?_
           rintro _ w_43 ⟨rfl, hS⟩
           refine ⟨_, _, hS, ?_⟩
           refine sn (thenN ?_)
           rw [qM qC hA80, snocL] at hS
           exact ⟨_, rfl, _, b13, a73, c73, a80, c80, ⟨rfl, rfl, rfl, rfl, rfl, trivial⟩, (hS.ord [1, 0, 3, 4, 5, 6]), hs, hy, h73⟩
         ·
          have hS0 := hS
          refine se rfl (qo (cs := [.slice _ _ _, .slice _ _ _]) hS zeroValue34 rfl) ?_
          rintro _ w_44 ⟨b13, rfl, hS⟩
          refine ⟨_, _, hS0.le (Sub.refl _) (List.sublist_cons_self _ _), hS, ?_⟩
          refine sk ?_ ?_
          ·
           have hS0 := hS
           refine se rfl (qj call62 rfl (qN rfl A.a1 A.c1 s.g.ls _ _ hS.imm hs.g.ls)) ?_
           rintro _ w_45 ⟨rfl, hE⟩
           replace hS := hS.call hE
           refine ⟨_, _, hS0.le hE.ext (List.Sublist.refl _), hS, ?_⟩
           have hS0 := hS
           refine se rfl (d_lit (vs := [.agg #[.int .i64 _, .int .i64 _, .int .i64 _, .int .i64 _, .int .i64 _, .int .i64 _, .int .i64 _, .int .i64 _]]) (cs := [.int .i64 _, .int .i64 _, .int .i64 _, .int .i64 _, .int .i64 _, .int .i64 _, .int .i64 _, .int .i64 _]) hS underlying32 sizeOf60 zeroValue60 rfl rfl rfl rfl (fun v hv => by simp only [List.mem_cons, List.not_mem_nil, or_false] at hv; subst hv; rfl) rfl) ?_
           rintro _ w_46 ⟨b79, rfl, hS⟩
           refine ⟨_, _, hS0.le (Sub.refl _) (List.sublist_cons_self _ _), hS, ?_⟩
           have hS0 := hS
           refine se rfl (qz 0 hS rfl underlying32 info60 rfl rfl (qI hs.g.ls) rfl rfl rfl rfl rfl (by omega) (by omega)) ?_
           rintro _ w_47 ⟨a80, c80, css80, rfl, hA80, hcl80, hS⟩
           refine ⟨_, _, hS0.le (Sub.refl _) (List.sublist_cons_self _ _), hS, ?_⟩
           refine sp rfl (ql (pl := [(0, 1), (1, 1)]) (cs := [.slice _ _ _, .slice _ _ _]) zeroValue34 underlying34 (fun w => by simp [sizeOf31, sizeOf32]) (mp (v := .slice _ _ _) rfl (mp (v := .slice _ _ _) rfl mp0)) rfl) ?_
           refine sb rfl (qg 2 hS sizeOf34 rfl rfl rfl (vs := [.slice _ _ _, .slice _ _ _]) rfl rfl rfl (Nat.le_of_ble_eq_true rfl) (cs' := [_, _]) rfl) ?_
           rintro _ w_48 ⟨rfl, hS⟩
           refine ⟨_, _, hS, ?_⟩
           refine sn (thenN ?_)
           rw [qM qC hA80, snocL] at hS
           exact ⟨_, rfl, _, b13, a73, c73, a80, c80, ⟨rfl, rfl, rfl, rfl, rfl, trivial⟩, (hS.ord [2, 0, 3, 4, 5, 6]), hs, hy, h73⟩
          ·
           have hS0 := hS
           refine se rfl (d_lit (vs := [.agg #[.int .i64 _, .int .i64 _, .int .i64 _, .int .i64 _, .int .i64 _, .int .i64 _, .int .i64 _, .int .i64 _]]) (cs := [.int .i64 _, .int .i64 _, .int .i64 _, .int .i64 _, .int .i64 _, .int .i64 _, .int .i64 _, .int .i64 _]) hS underlying32 sizeOf60 zeroValue60 rfl rfl rfl rfl (fun v hv => by simp only [List.mem_cons, List.not_mem_nil, or_false] at hv; subst hv; rfl) rfl) ?_
           rintro _ w_49 ⟨b79, rfl, hS⟩
           refine ⟨_, _, hS0.le (Sub.refl _) (List.sublist_cons_self _ _), hS, ?_⟩
           have hS0 := hS
           refine se rfl (qj call62 rfl (qN rfl A.a1 A.c1 s.g.ls _ _ hS.imm hs.g.ls)) ?_
           rintro _ w_50 ⟨rfl, hE⟩
           replace hS := hS.call hE
           refine ⟨_, _, hS0.le hE.ext (List.Sublist.refl _), hS, ?_⟩
           have hS0 := hS
           refine se rfl (qz 0 hS rfl underlying32 info60 rfl rfl (qI hs.g.ls) rfl rfl rfl rfl rfl (by omega) (by omega)) ?_
           rintro _ w_51 ⟨a80, c80, css80, rfl, hA80, hcl80, hS⟩
           refine ⟨_, _, hS0.le (Sub.refl _) (List.sublist_cons_self _ _), hS, ?_⟩
           refine sp rfl (ql (pl := [(0, 1), (1, 1)]) (cs := [.slice _ _ _, .slice _ _ _]) zeroValue34 underlying34 (fun w => by simp [sizeOf31, sizeOf32]) (mp (v := .slice _ _ _) rfl (mp (v := .slice _ _ _) rfl mp0)) rfl) ?_
           refine sb rfl (qg 2 hS sizeOf34 rfl rfl rfl (vs := [.slice _ _ _, .slice _ _ _]) rfl rfl rfl (Nat.le_of_ble_eq_true rfl) (cs' := [_, _]) rfl) ?_
           rintro _ w_52 ⟨rfl, hS⟩
           refine ⟨_, _, hS, ?_⟩
           refine sn (thenN ?_)
           rw [qM qC hA80, snocL] at hS
           exact ⟨_, rfl, _, b13, a73, c73, a80, c80, ⟨rfl, rfl, rfl, rfl, rfl, trivial⟩, (hS.ord [2, 0, 3, 4, 5, 6]), hs, hy, h73⟩
        ·
         have hS0 := hS
         refine se rfl (d_lit (vs := [.agg #[.int .i64 _, .int .i64 _, .int .i64 _, .int .i64 _, .int .i64 _, .int .i64 _, .int .i64 _, .int .i64 _]]) (cs := [.int .i64 _, .int .i64 _, .int .i64 _, .int .i64 _, .int .i64 _, .int .i64 _, .int .i64 _, .int .i64 _]) hS underlying32 sizeOf60 zeroValue60 rfl rfl rfl rfl (fun v hv => by simp only [List.mem_cons, List.not_mem_nil, or_false] at hv; subst hv; rfl) rfl) ?_
         rintro _ w_53 ⟨b79, rfl, hS⟩
         refine ⟨_, _, hS0.le (Sub.refl _) (List.sublist_cons_self _ _), hS, ?_⟩
         refine sk ?_ ?_
         ·
          have hS0 := hS
          refine se rfl (qj call50 rfl (qZ a70 c70 (insI s.g.vs l.f) l.t _ _ hS.imm h70 hi1 (by omega))) ?_
          rintro _ w_54 ⟨I_f, a73, c73, rfl, hE, h73⟩
          replace hS := hS.call hE
          replace hs := hs.mono hE.ext
          replace hy := hy.mono hE.ext
          replace h36 := h36.mono hE.ext
          replace h39 := h39.mono hE.ext
          replace h70 := h70.mono hE.ext
          refine ⟨_, _, hS0.le hE.ext (List.Sublist.refl _), hS, ?_⟩
          refine sk ?_ ?_
          ·
           have hS0 := hS
           refine se rfl (qj call62 rfl (qN rfl A.a1 A.c1 s.g.ls _ _ hS.imm hs.g.ls)) ?_
           rintro _ w_55 ⟨rfl, hE⟩
           replace hS := hS.call hE
           refine ⟨_, _, hS0.le hE.ext (List.Sublist.refl _), hS, ?_⟩
           refine sk ?_ ?_
           ·
            have hS0 := hS
            refine se rfl (qz 0 hS rfl underlying32 info60 rfl rfl (qI hs.g.ls) rfl rfl rfl rfl rfl (by omega) (by omega)) ?_
            rintro _ w_56 ⟨a80, c80, css80, rfl, hA80, hcl80, hS⟩
            refine ⟨_, _, hS0.le (Sub.refl _) (List.sublist_cons_self _ _), hS, ?_⟩
            refine sp rfl (ql (pl := [(0, 1), (1, 1)]) (cs := [.slice _ _ _, .slice _ _ _]) zeroValue34 underlying34 (fun w => by simp [sizeOf31, sizeOf32]) (mp (v := .slice _ _ _) rfl (mp (v := .slice _ _ _) rfl mp0)) rfl) ?_
            have hS0 := hS
            refine se rfl (qo (cs := [.slice _ _ _, .slice _ _ _]) hS zeroValue34 rfl) ?_
            rintro _ w_57 ⟨b13, rfl, hS⟩
            refine ⟨_, _, hS0.le (Sub.refl _) (List.sublist_cons_self _ _), hS, ?_⟩
            refine sb rfl (qg 0 hS sizeOf34 rfl rfl rfl (vs := [.slice _ _ _, .slice _ _ _]) rfl rfl rfl (Nat.le_of_ble_eq_true rfl) (cs' := [_, _]) rfl) ?_
            rintro _ w_58 ⟨rfl, hS⟩
            refine ⟨_, _, hS, ?_⟩
            refine sn (thenN ?_)
            rw [qM qC hA80, snocL] at hS
            exact ⟨_, rfl, _, b13, a73, c73, a80, c80, ⟨rfl, rfl, rfl, rfl, rfl, trivial⟩, (hS.sel [true, true, false, true, true, true, true]), hs, hy, h73⟩
           ·
            have hS0 := hS
            refine se rfl (qo (cs := [.slice _ _ _, .slice _ _ _]) hS zeroValue34 rfl) ?_
            rintro _ w_59 ⟨b13, rfl, hS⟩
            refine ⟨_, _, hS0.le (Sub.refl _) (List.sublist_cons_self _ _), hS, ?_⟩
            have hS0 := hS
            refine se rfl (qz 1 hS rfl underlying32 info60 rfl rfl (qI hs.g.ls) rfl rfl rfl rfl rfl (by omega) (by omega)) ?_
            rintro _ w_60 ⟨a80, c80, css80, rfl, hA80, hcl80, hS⟩
            refine ⟨_, _, hS0.le (Sub.refl _) (List.sublist_cons_self _ _), hS, ?_⟩
            refine sp rfl (ql (pl := [(0, 1), (1, 1)]) (cs := [.slice _ _ _, .slice _ _ _]) zeroValue34 underlying34 (fun w => by simp [sizeOf31, sizeOf32]) (mp (v := .slice _ _ _) rfl (mp (v := .slice _ _ _) rfl mp0)) rfl) ?_
            refine sb rfl (qg 1 hS sizeOf34 rfl rfl rfl (vs := [.slice _ _ _, .slice _ _ _]) rfl rfl rfl (Nat.le_of_ble_eq_true rfl) (cs' := [_, _]) rfl) ?_
            rintro _ w_61 ⟨rfl, hS⟩
            refine ⟨_, _, hS, ?_⟩
            refine sn (thenN ?_)
            rw [qM qC hA80, snocL] at hS
            exact ⟨_, rfl, _, b13, a73, c73, a80, c80, ⟨rfl, rfl, rfl, rfl, rfl, trivial⟩, (hS.ord [1, 0, 3, 4, 5, 6]), hs, hy, h73⟩
          ·
           have hS0 := hS
           refine se rfl (qo (cs := [.slice _ _ _, .slice _ _ _]) hS zeroValue34 rfl) ?_
           rintro _ w_62 ⟨b13, rfl, hS⟩
           refine ⟨_, _, hS0.le (Sub.refl _) (List.sublist_cons_self _ _), hS, ?_⟩
           have hS0 := hS
           refine se rfl (qj call62 rfl (qN rfl A.a1 A.c1 s.g.ls _ _ hS.imm hs.g.ls)) ?_
           rintro _ w_63 ⟨rfl, hE⟩
           replace hS := hS.call hE
           refine ⟨_, _, hS0.le hE.ext (List.Sublist.refl _), hS, ?_⟩
           have hS0 := hS
           refine se rfl (qz 1 hS rfl underlying32 info60 rfl rfl (qI hs.g.ls) rfl rfl rfl rfl rfl (by omega) (by omega)) ?_
           rintro _ w_64 ⟨a80, c80, css80, rfl, hA80, hcl80, hS⟩
           refine ⟨_, _, hS0.le (Sub.refl _) (List.sublist_cons_self _ _), hS, ?_⟩
           refine sp rfl (ql (pl := [(0, 1), (1, 1)]) (cs := [.slice _ _ _, .slice _ _ _]) zeroValue34 underlying34 (fun w => by simp [sizeOf31, sizeOf32]) (mp (v := .slice _ _ _) rfl (mp (v := .slice _ _ _) rfl mp0)) rfl) ?_
           refine sb rfl (qg 1 hS sizeOf34 rfl rfl rfl (vs := [.slice _ _ _, .slice _ _ _]) rfl rfl rfl (Nat.le_of_ble_eq_true rfl) (cs' := [_, _]) rfl) ?_
           rintro _ w_65 ⟨rfl, hS⟩
           refine ⟨_, _, hS, ?_⟩
           refine sn (thenN ?_)
           rw [qM qC hA80, snocL] at hS
           exact ⟨_, rfl, _, b13, a73, c73, a80, c80, ⟨rfl, rfl, rfl, rfl, rfl, trivial⟩, (hS.ord [1, 0, 3, 4, 5, 6]), hs, hy, h73⟩
         ·
          have hS0 := hS
          refine se rfl (qo (cs := [.slice _ _ _, .slice _ _ _]) hS zeroValue34 rfl) ?_
          rintro _ w_66 ⟨b13, rfl, hS⟩
          refine ⟨_, _, hS0.le (Sub.refl _) (List.sublist_cons_self _ _), hS, ?_⟩
          have hS0 := hS
          refine se rfl (qj call50 rfl (qZ a70 c70 (insI s.g.vs l.f) l.t _ _ hS.imm h70 hi1 (by omega))) ?_
          rintro _ w_67 ⟨I_f, a73, c73, rfl, hE, h73⟩
          replace hS := hS.call hE
          replace hs := hs.mono hE.ext
          replace hy := hy.mono hE.ext
          replace h36 := h36.mono hE.ext
          replace h39 := h39.mono hE.ext
          replace h70 := h70.mono hE.ext
          refine ⟨_, _, hS0.le hE.ext (List.Sublist.refl _), hS, ?_⟩
          have hS0 := hS
          refine se rfl (qj call62 rfl (qN rfl A.a1 A.c1 s.g.ls _ _ hS.imm hs.g.ls)) ?_
          rintro _ w_68 ⟨rfl, hE⟩
          replace hS := hS.call hE
          refine ⟨_, _, hS0.le hE.ext (List.Sublist.refl _), hS, ?_⟩
          have hS0 := hS
          refine se rfl (qz 1 hS rfl underlying32 info60 rfl rfl (qI hs.g.ls) rfl rfl rfl rfl rfl (by omega) (by omega)) ?_
          rintro _ w_69 ⟨a80, c80, css80, rfl, hA80, hcl80, hS⟩
          refine ⟨_, _, hS0.le (Sub.refl _) (List.sublist_cons_self _ _), hS, ?_⟩
          refine sp rfl (ql (pl := [(0, 1), (1, 1)]) (cs := [.slice _ _ _, .slice _ _ _]) zeroValue34 underlying34 (fun w => by simp [sizeOf31, sizeOf32]) (mp (v := .slice _ _ _) rfl (mp (v := .slice _ _ _) rfl mp0)) rfl) ?_
          refine sb rfl (qg 1 hS sizeOf34 rfl rfl rfl (vs := [.slice _ _ _, .slice _ _ _]) rfl rfl rfl (Nat.le_of_ble_eq_true rfl) (cs' := [_, _]) rfl) ?_
          rintro _ w_70 ⟨rfl, hS⟩
          refine ⟨_, _, hS, ?_⟩
          refine sn (thenN ?_)
          rw [qM qC hA80, snocL] at hS
          exact ⟨_, rfl, _, b13, a73, c73, a80, c80, ⟨rfl, rfl, rfl, rfl, rfl, trivial⟩, (hS.ord [1, 0, 3, 4, 5, 6]), hs, hy, h73⟩
        ·
         have hS0 := hS
         refine se rfl (qo (cs := [.slice _ _ _, .slice _ _ _]) hS zeroValue34 rfl) ?_
         rintro _ w_71 ⟨b13, rfl, hS⟩
         refine ⟨_, _, hS0.le (Sub.refl _) (List.sublist_cons_self _ _), hS, ?_⟩
         refine sk ?_ ?_
         ·
          have hS0 := hS
          refine se rfl (qj call50 rfl (qZ a70 c70 (insI s.g.vs l.f) l.t _ _ hS.imm h70 hi1 (by omega))) ?_
          rintro _ w_72 ⟨I_f, a73, c73, rfl, hE, h73⟩
          replace hS := hS.call hE
          replace hs := hs.mono hE.ext
          replace hy := hy.mono hE.ext
          replace h36 := h36.mono hE.ext
          replace h39 := h39.mono hE.ext
          replace h70 := h70.mono hE.ext
          refine ⟨_, _, hS0.le hE.ext (List.Sublist.refl _), hS, ?_⟩
          refine sk ?_ ?_
          ·
           have hS0 := hS
           refine se rfl (qj call62 rfl (qN rfl A.a1 A.c1 s.g.ls _ _ hS.imm hs.g.ls)) ?_
           rintro _ w_73 ⟨rfl, hE⟩
           replace hS := hS.call hE
           refine ⟨_, _, hS0.le hE.ext (List.Sublist.refl _), hS, ?_⟩
           have hS0 := hS
           refine se rfl (d_lit (vs := [.agg #[.int .i64 _, .int .i64 _, .int .i64 _, .int .i64 _, .int .i64 _, .int .i64 _, .int .i64 _, .int .i64 _]]) (cs := [.int .i64 _, .int .i64 _, .int .i64 _, .int .i64 _, .int .i64 _, .int .i64 _, .int .i64 _, .int .i64 _]) hS underlying32 sizeOf60 zeroValue60 rfl rfl rfl rfl (fun v hv => by simp only [List.mem_cons, List.not_mem_nil, or_false] at hv; subst hv; rfl) rfl) ?_
           rintro _ w_74 ⟨b79, rfl, hS⟩
           refine ⟨_, _, hS0.le (Sub.refl _) (List.sublist_cons_self _ _), hS, ?_⟩
           have hS0 := hS
           refine se rfl (qz 0 hS rfl underlying32 info60 rfl rfl (qI hs.g.ls) rfl rfl rfl rfl rfl (by omega) (by omega)) ?_
           rintro _ w_75 ⟨a80, c80, css80, rfl, hA80, hcl80, hS⟩
           refine ⟨_, _, hS0.le (Sub.refl _) (List.sublist_cons_self _ _), hS, ?_⟩
           refine sp rfl (ql (pl := [(0, 1), (1, 1)]) (cs := [.slice _ _ _, .slice _ _ _]) zeroValue34 underlying34 (fun w => by simp [sizeOf31, sizeOf32]) (mp (v := .slice _ _ _) rfl (mp (v := .slice _ _ _) rfl mp0)) rfl) ?_
           refine sb rfl (qg 2 hS sizeOf34 rfl rfl rfl (vs := [.slice _ _ _, .slice _ _ _]) rfl rfl rfl (Nat.le_of_ble_eq_true rfl) (cs' := [_, _]) rfl) ?_
           rintro _ w_76 ⟨rfl, hS⟩
           refine ⟨_, _, hS, ?_⟩
           refine sn (thenN ?_)
           rw [qM qC hA80, snocL] at hS
           exact ⟨_, rfl, _, b13, a73, c73, a80, c80, ⟨rfl, rfl, rfl, rfl, rfl, trivial⟩, (hS.ord [2, 0, 3, 4, 5, 6]), hs, hy, h73⟩
          ·
           have hS0 := hS
           refine se rfl (d_lit (vs := [.agg #[.int .i64 _, .int .i64 _, .int .i64 _, .int .i64 _, .int .i64 _, .int .i64 _, .int .i64 _, .int .i64 _]]) (cs := [.int .i64 _, .int .i64 _, .int .i64 _, .int .i64 _, .int .i64 _, .int .i64 _, .int .i64 _, .int .i64 _]) hS underlying32 sizeOf60 zeroValue60 rfl rfl rfl rfl (fun v hv => by simp only [List.mem_cons, List.not_mem_nil, or_false] at hv; subst hv; rfl) rfl) ?_
           rintro _ w_77 ⟨b79, rfl, hS⟩
           refine ⟨_, _, hS0.le (Sub.refl _) (List.sublist_cons_self _ _), hS, ?_⟩
           have hS0 := hS
           refine se rfl (qj call62 rfl (qN rfl A.a1 A.c1 s.g.ls _ _ hS.imm hs.g.ls)) ?_
           rintro _ w_78 ⟨rfl, hE⟩
           replace hS := hS.call hE
           refine ⟨_, _, hS0.le hE.ext (List.Sublist.refl _), hS, ?_⟩
           have hS0 := hS
           refine se rfl (qz 0 hS rfl underlying32 info60 rfl rfl (qI hs.g.ls) rfl rfl rfl rfl rfl (by omega) (by omega)) ?_
           rintro _ w_79 ⟨a80, c80, css80, rfl, hA80, hcl80, hS⟩
           refine ⟨_, _, hS0.le (Sub.refl _) (List.sublist_cons_self _ _), hS, ?_⟩
           refine sp rfl (ql (pl := [(0, 1), (1, 1)]) (cs := [.slice _ _ _, .slice _ _ _]) zeroValue34 underlying34 (fun w => by simp [sizeOf31, sizeOf32]) (mp (v := .slice _ _ _) rfl (mp (v := .slice _ _ _) rfl mp0)) rfl) ?_
           refine sb rfl (qg 2 hS sizeOf34 rfl rfl rfl (vs := [.slice _ _ _, .slice _ _ _]) rfl rfl rfl (Nat.le_of_ble_eq_true rfl) (cs' := [_, _]) rfl) ?_
           rintro _ w_80 ⟨rfl, hS⟩
           refine ⟨_, _, hS, ?_⟩
           refine sn (thenN ?_)
           rw [qM qC hA80, snocL] at hS
           exact ⟨_, rfl, _, b13, a73, c73, a80, c80, ⟨rfl, rfl, rfl, rfl, rfl, trivial⟩, (hS.ord [2, 0, 3, 4, 5, 6]), hs, hy, h73⟩
         ·
          have hS0 := hS
          refine se rfl (d_lit (vs := [.agg #[.int .i64 _, .int .i64 _, .int .i64 _, .int .i64 _, .int .i64 _, .int .i64 _, .int .i64 _, .int .i64 _]]) (cs := [.int .i64 _, .int .i64 _, .int .i64 _, .int .i64 _, .int .i64 _, .int .i64 _, .int .i64 _, .int .i64 _]) hS underlying32 sizeOf60 zeroValue60 rfl rfl rfl rfl (fun v hv => by simp only [List.mem_cons, List.not_mem_nil, or_false] at hv; subst hv; rfl) rfl) ?_
          rintro _ w_81 ⟨b79, rfl, hS⟩
          refine ⟨_, _, hS0.le (Sub.refl _) (List.sublist_cons_self _ _), hS, ?_⟩
          have hS0 := hS
          refine se rfl (qj call50 rfl (qZ a70 c70 (insI s.g.vs l.f) l.t _ _ hS.imm h70 hi1 (by omega))) ?_
          rintro _ w_82 ⟨I_f, a73, c73, rfl, hE, h73⟩
          replace hS := hS.call hE
          replace hs := hs.mono hE.ext
          replace hy := hy.mono hE.ext
          replace h36 := h36.mono hE.ext
          replace h39 := h39.mono hE.ext
          replace h70 := h70.mono hE.ext
          refine ⟨_, _, hS0.le hE.ext (List.Sublist.refl _), hS, ?_⟩
          have hS0 := hS
          refine se rfl (qj call62 rfl (qN rfl A.a1 A.c1 s.g.ls _ _ hS.imm hs.g.ls)) ?_
          rintro _ w_83 ⟨rfl, hE⟩
          replace hS := hS.call hE
          refine ⟨_, _, hS0.le hE.ext (List.Sublist.refl _), hS, ?_⟩
          have hS0 := hS
          refine se rfl (qz 0 hS rfl underlying32 info60 rfl rfl (qI hs.g.ls) rfl rfl rfl rfl rfl (by omega) (by omega)) ?_
          rintro _ w_84 ⟨a80, c80, css80, rfl, hA80, hcl80, hS⟩
          refine ⟨_, _, hS0.le (Sub.refl _) (List.sublist_cons_self _ _), hS, ?_⟩
          refine sp rfl (ql (pl := [(0, 1), (1, 1)]) (cs := [.slice _ _ _, .slice _ _ _]) zeroValue34 underlying34 (fun w => by simp [sizeOf31, sizeOf32]) (mp (v := .slice _ _ _) rfl (mp (v := .slice _ _ _) rfl mp0)) rfl) ?_
          refine sb rfl (qg 2 hS sizeOf34 rfl rfl rfl (vs := [.slice _ _ _, .slice _ _ _]) rfl rfl rfl (Nat.le_of_ble_eq_true rfl) (cs' := [_, _]) rfl) ?_
          rintro _ w_85 ⟨rfl, hS⟩
          refine ⟨_, _, hS, ?_⟩
          refine sn (thenN ?_)
          rw [qM qC hA80, snocL] at hS
          exact ⟨_, rfl, _, b13, a73, c73, a80, c80, ⟨rfl, rfl, rfl, rfl, rfl, trivial⟩, (hS.ord [2, 0, 3, 4, 5, 6]), hs, hy, h73⟩
       ·
        have hS0 := hS
        refine se rfl (d_lit (vs := [.agg #[.int .i64 _, .int .i64 _, .int .i64 _, .int .i64 _, .int .i64 _, .int .i64 _, .int .i64 _, .int .i64 _]]) (cs := [.int .i64 _, .int .i64 _, .int .i64 _, .int .i64 _, .int .i64 _, .int .i64 _, .int .i64 _, .int .i64 _]) hS underlying32 sizeOf60 zeroValue60 rfl rfl rfl rfl (fun v hv => by simp only [List.mem_cons, List.not_mem_nil, or_false] at hv; subst hv; rfl) rfl) ?_
        rintro _ w_86 ⟨b79, rfl, hS⟩
        refine ⟨_, _, hS0.le (Sub.refl _) (List.sublist_cons_self _ _), hS, ?_⟩
        refine sk ?_ ?_
        ·
         have hS0 := hS
         refine se rfl (qj call50 rfl (qZ A.a0 A.c0 s.g.vs l.f _ _ hS.imm hs.g.vs hvi (by omega))) ?_
         rintro _ w_87 ⟨I_f, a70, c70, rfl, hE, h70⟩
         replace hS := hS.call hE
         replace hs := hs.mono hE.ext
         replace hy := hy.mono hE.ext
         replace h36 := h36.mono hE.ext
         replace h39 := h39.mono hE.ext
         refine ⟨_, _, hS0.le hE.ext (List.Sublist.refl _), hS, ?_⟩
         refine sk ?_ ?_
         ·
          have hS0 := hS
          refine se rfl (qj call50 rfl (qZ a70 c70 (insI s.g.vs l.f) l.t _ _ hS.imm h70 hi1 (by omega))) ?_
          rintro _ w_88 ⟨I_f, a73, c73, rfl, hE, h73⟩
          replace hS := hS.call hE
          replace hs := hs.mono hE.ext
          replace hy := hy.mono hE.ext
          replace h36 := h36.mono hE.ext
          replace h39 := h39.mono hE.ext
          replace h70 := h70.mono hE.ext
          refine ⟨_, _, hS0.le hE.ext (List.Sublist.refl _), hS, ?_⟩
          refine sk ?_ ?_
          ·
           have hS0 := hS
           refine se rfl (qj call62 rfl (qN rfl A.a1 A.c1 s.g.ls _ _ hS.imm hs.g.ls)) ?_
           rintro _ w_89 ⟨rfl, hE⟩
           replace hS := hS.call hE
           refine ⟨_, _, hS0.le hE.ext (List.Sublist.refl _), hS, ?_⟩
           refine sk ?_ ?_
           ·
            have hS0 := hS
            refine se rfl (qz 0 hS rfl underlying32 info60 rfl rfl (qI hs.g.ls) rfl rfl rfl rfl rfl (by omega) (by omega)) ?_
            rintro _ w_90 ⟨a80, c80, css80, rfl, hA80, hcl80, hS⟩
            refine ⟨_, _, hS0.le (Sub.refl _) (List.sublist_cons_self _ _), hS, ?_⟩
            refine sp rfl (ql (pl := [(0, 1), (1, 1)]) (cs := [.slice _ _ _, .slice _ _ _]) zeroValue34 underlying34 (fun w => by simp [sizeOf31, sizeOf32]) (mp (v := .slice _ _ _) rfl (mp (v := .slice _ _ _) rfl mp0)) rfl) ?_
            have hS0 := hS
            refine se rfl (qo (cs := [.slice _ _ _, .slice _ _ _]) hS zeroValue34 rfl) ?_
            rintro _ w_91 ⟨b13, rfl, hS⟩
            refine ⟨_, _, hS0.le (Sub.refl _) (List.sublist_cons_self _ _), hS, ?_⟩
            refine sb rfl (qg 0 hS sizeOf34 rfl rfl rfl (vs := [.slice _ _ _, .slice _ _ _]) rfl rfl rfl (Nat.le_of_ble_eq_true rfl) (cs' := [_, _]) rfl) ?_
            rintro _ w_92 ⟨rfl, hS⟩
            refine ⟨_, _, hS, ?_⟩
            refine sn (thenN ?_)
            rw [qM qC hA80, snocL] at hS
            exact ⟨_, rfl, _, b13, a73, c73, a80, c80, ⟨rfl, rfl, rfl, rfl, rfl, trivial⟩, (hS.sel [true, true, false, true, true, true, true]), hs, hy, h73⟩
           ·
            have hS0 := hS
            refine se rfl (qo (cs := [.slice _ _ _, .slice _ _ _]) hS zeroValue34 rfl) ?_
            rintro _ w_93 ⟨b13, rfl, hS⟩
            refine ⟨_, _, hS0.le (Sub.refl _) (List.sublist_cons_self _ _), hS, ?_⟩
            have hS0 := hS
            refine se rfl (qz 1 hS rfl underlying32 info60 rfl rfl (qI hs.g.ls) rfl rfl rfl rfl rfl (by omega) (by omega)) ?_
            rintro _ w_94 ⟨a80, c80, css80, rfl, hA80, hcl80, hS⟩
            refine ⟨_, _, hS0.le (Sub.refl _) (List.sublist_cons_self _ _), hS, ?_⟩
            refine sp rfl (ql (pl := [(0, 1), (1, 1)]) (cs := [.slice _ _ _, .slice _ _ _]) zeroValue34 underlying34 (fun w => by simp [sizeOf31, sizeOf32]) (mp (v := .slice _ _ _) rfl (mp (v := .slice _ _ _) rfl mp0)) rfl) ?_
            refine sb rfl (qg 1 hS sizeOf34 rfl rfl rfl (vs := [.slice _ _ _, .slice _ _ _]) rfl rfl rfl (Nat.le_of_ble_eq_true rfl) (cs' := [_, _]) rfl) ?_
            rintro _ w_95 ⟨rfl, hS⟩
            refine ⟨_, _, hS, ?_⟩
            refine sn (thenN ?_)
            rw [qM qC hA80, snocL] at hS
            exact ⟨_, rfl, _, b13, a73, c73, a80, c80, ⟨rfl, rfl, rfl, rfl, rfl, trivial⟩, (hS.ord [1, 0, 3, 4, 5, 6]), hs, hy, h73⟩
          ·
           have hS0 := hS
           refine se rfl (qo (cs := [.slice _ _ _, .slice _ _ _]) hS zeroValue34 rfl) ?_
           rintro _ w_96 ⟨b13, rfl, hS⟩
           refine ⟨_, _, hS0.le (Sub.refl _) (List.sublist_cons_self _ _), hS, ?_⟩
           have hS0 := hS
           refine se rfl (qj call62 rfl (qN rfl A.a1 A.c1 s.g.ls _ _ hS.imm hs.g.ls)) ?_
           rintro _ w_97 ⟨rfl, hE⟩
           replace hS := hS.call hE
           refine ⟨_, _, hS0.le hE.ext (List.Sublist.refl _), hS, ?_⟩
           have hS0 := hS
           refine se rfl (qz 1 hS rfl underlying32 info60 rfl rfl (qI hs.g.ls) rfl rfl rfl rfl rfl (by omega) (by omega)) ?_
           rintro _ w_98 ⟨a80, c80, css80, rfl, hA80, hcl80, hS⟩
           refine ⟨_, _, hS0.le (Sub.refl _) (List.sublist_cons_self _ _), hS, ?_⟩
           refine sp rfl (ql (pl := [(0, 1), (1, 1)]) (cs := [.slice _ _ _, .slice _ _ _]) zeroValue34 underlying34 (fun w => by simp [sizeOf31, sizeOf32]) (mp (v := .slice _ _ _) rfl (mp (v := .slice _ _ _) rfl mp0)) rfl) ?_
           refine sb rfl (qg 1 hS sizeOf34 rfl rfl rfl (vs := [.slice _ _ _, .slice _ _ _]) rfl rfl rfl (Nat.le_of_ble_eq_true rfl) (cs' := [_, _]) rfl) ?_
           rintro _ w_99 ⟨rfl, hS⟩
           refine ⟨_, _, hS, ?_⟩
           refine sn (thenN ?_)
           rw [qM qC hA80, snocL] at hS
           exact ⟨_, rfl, _, b13, a73, c73, a80, c80, ⟨rfl, rfl, rfl, rfl, rfl, trivial⟩, (hS.ord [1, 0, 3, 4, 5, 6]), hs, hy, h73⟩
         ·
          have hS0 := hS
          refine se rfl (qo (cs := [.slice _ _ _, .slice _ _ _]) hS zeroValue34 rfl) ?_
          rintro _ w_100 ⟨b13, rfl, hS⟩
          refine ⟨_, _, hS0.le (Sub.refl _) (List.sublist_cons_self _ _), hS, ?_⟩
          have hS0 := hS
          refine se rfl (qj call50 rfl (qZ a70 c70 (insI s.g.vs l.f) l.t _ _ hS.imm h70 hi1 (by omega))) ?_
          rintro _ w_101 ⟨I_f, a73, c73, rfl, hE, h73⟩
          replace hS := hS.call hE
          replace hs := hs.mono hE.ext
          replace hy := hy.mono hE.ext
          replace h36 := h36.mono hE.ext
          replace h39 := h39.mono hE.ext
          replace h70 := h70.mono hE.ext
          refine ⟨_, _, hS0.le hE.ext (List.Sublist.refl _), hS, ?_⟩
          have hS0 := hS
          refine se rfl (qj call62 rfl (qN rfl A.a1 A.c1 s.g.ls _ _ hS.imm hs.g.ls)) ?_
          rintro _ w_102 ⟨rfl, hE⟩
          replace hS := hS.call hE
          refine ⟨_, _, hS0.le hE.ext (List.Sublist.refl _), hS, ?_⟩
          have hS0 := hS
          refine se rfl (qz 1 hS rfl underlying32 info60 rfl rfl (qI hs.g.ls) rfl rfl rfl rfl rfl (by omega) (by omega)) ?_
          rintro _ w_103 ⟨a80, c80, css80, rfl, hA80, hcl80, hS⟩
          refine ⟨_, _, hS0.le (Sub.refl _) (List.sublist_cons_self _ _), hS, ?_⟩
          refine sp rfl (ql (pl := [(0, 1), (1, 1)]) (cs := [.slice _ _ _, .slice _ _ _]) zeroValue34 underlying34 (fun w => by simp [sizeOf31, sizeOf32]) (mp (v := .slice _ _ _) rfl (mp (v := .slice _ _ _) rfl mp0)) rfl) ?_
          refine sb rfl (qg 1 hS sizeOf34 rfl rfl rfl (vs := [.slice _ _ _, .slice _ _ _]) rfl rfl rfl (Nat.le_of_ble_eq_true rfl) (cs' := [_, _]) rfl) ?_
          rintro _ w_104 ⟨rfl, hS⟩
          refine ⟨_, _, hS, ?_⟩
          refine sn (thenN ?_)
          rw [qM qC hA80, snocL] at hS
          exact ⟨_, rfl, _, b13, a73, c73, a80, c80, ⟨rfl, rfl, rfl, rfl, rfl, trivial⟩, (hS.ord [1, 0, 3, 4, 5, 6]), hs, hy, h73⟩
        ·
         have hS0 := hS
         refine se rfl (qo (cs := [.slice _ _ _, .slice _ _ _]) hS zeroValue34 rfl) ?_
         rintro _ w_105 ⟨b13, rfl, hS⟩
         refine ⟨_, _, hS0.le (Sub.refl _) (List.sublist_cons_self _ _), hS, ?_⟩
         have hS0 := hS
         refine se rfl (qj call50 rfl (qZ A.a0 A.c0 s.g.vs l.f _ _ hS.imm hs.g.vs hvi (by omega))) ?_
         rintro _ w_106 ⟨I_f, a70, c70, rfl, hE, h70⟩
         replace hS := hS.call hE
         replace hs := hs.mono hE.ext
         replace hy := hy.mono hE.ext
         replace h36 := h36.mono hE.ext
         replace h39 := h39.mono hE.ext
         refine ⟨_, _, hS0.le hE.ext (List.Sublist.refl _), hS, ?_⟩
         have hS0 := hS
         refine se rfl (qj call50 rfl (qZ a70 c70 (insI s.g.vs l.f) l.t _ _ hS.imm h70 hi1 (by omega))) ?_
         rintro _ w_107 ⟨I_f, a73, c73, rfl, hE, h73⟩
         replace hS := hS.call hE
         replace hs := hs.mono hE.ext
         replace hy := hy.mono hE.ext
         replace h36 := h36.mono hE.ext
         replace h39 := h39.mono hE.ext
         replace h70 := h70.mono hE.ext
         refine ⟨_, _, hS0.le hE.ext (List.Sublist.refl _), hS, ?_⟩
         have hS0 := hS
         refine se rfl (qj call62 rfl (qN rfl A.a1 A.c1 s.g.ls _ _ hS.imm hs.g.ls)) ?_
         rintro _ w_108 ⟨rfl, hE⟩
         replace hS := hS.call hE
         refine ⟨_, _, hS0.le hE.ext (List.Sublist.refl _), hS, ?_⟩
         have hS0 := hS
         refine se rfl (qz 1 hS rfl underlying32 info60 rfl rfl (qI hs.g.ls) rfl rfl rfl rfl rfl (by omega) (by omega)) ?_
         rintro _ w_109 ⟨a80, c80, css80, rfl, hA80, hcl80, hS⟩
         refine ⟨_, _, hS0.le (Sub.refl _) (List.sublist_cons_self _ _), hS, ?_⟩
         refine sp rfl (ql (pl := [(0, 1), (1, 1)]) (cs := [.slice _ _ _, .slice _ _ _]) zeroValue34 underlying34 (fun w => by simp [sizeOf31, sizeOf32]) (mp (v := .slice _ _ _) rfl (mp (v := .slice _ _ _) rfl mp0)) rfl) ?_
         refine sb rfl (qg 1 hS sizeOf34 rfl rfl rfl (vs := [.slice _ _ _, .slice _ _ _]) rfl rfl rfl (Nat.le_of_ble_eq_true rfl) (cs' := [_, _]) rfl) ?_
         rintro _ w_110 ⟨rfl, hS⟩
         refine ⟨_, _, hS, ?_⟩
         refine sn (thenN ?_)
         rw [qM qC hA80, snocL] at hS
         exact ⟨_, rfl, _, b13, a73, c73, a80, c80, ⟨rfl, rfl, rfl, rfl, rfl, trivial⟩, (hS.ord [1, 0, 3, 4, 5, 6]), hs, hy, h73⟩
       ·
        have hS0 := hS
        refine se rfl (qo (cs := [.slice _ _ _, .slice _ _ _]) hS zeroValue34 rfl) ?_
        rintro _ w_111 ⟨b13, rfl, hS⟩
        refine ⟨_, _, hS0.le (Sub.refl _) (List.sublist_cons_self _ _), hS, ?_⟩
        refine sk ?_ ?_
        ·
         have hS0 := hS
         refine se rfl (qj call50 rfl (qZ A.a0 A.c0 s.g.vs l.f _ _ hS.imm hs.g.vs hvi (by omega))) ?_
         rintro _ w_112 ⟨I_f, a70, c70, rfl, hE, h70⟩
         replace hS := hS.call hE
         replace hs := hs.mono hE.ext
         replace hy := hy.mono hE.ext
         replace h36 := h36.mono hE.ext
         replace h39 := h39.mono hE.ext
         refine ⟨_, _, hS0.le hE.ext (List.Sublist.refl _), hS, ?_⟩
         refine sk ?_ ?_
         ·
          have hS0 := hS
          refine se rfl (qj call50 rfl (qZ a70 c70 (insI s.g.vs l.f) l.t _ _ hS.imm h70 hi1 (by omega))) ?_
          rintro _ w_113 ⟨I_f, a73, c73, rfl, hE, h73⟩
          replace hS := hS.call hE
          replace hs := hs.mono hE.ext
          replace hy := hy.mono hE.ext
          replace h36 := h36.mono hE.ext
          replace h39 := h39.mono hE.ext
          replace h70 := h70.mono hE.ext
          refine ⟨_, _, hS0.le hE.ext (List.Sublist.refl _), hS, ?_⟩
          refine sk ?_ ?_
          ·
           have hS0 := hS
           refine se rfl (qj call62 rfl (qN rfl A.a1 A.c1 s.g.ls _ _ hS.imm hs.g.ls)) ?_
           rintro _ w_114 ⟨rfl, hE⟩
           replace hS := hS.call hE
           refine ⟨_, _, hS0.le hE.ext (List.Sublist.refl _), hS, ?_⟩
           have hS0 := hS
           refine se rfl (d_lit (vs := [.agg #[.int .i64 _, .int .i64 _, .int .i64 _, .int .i64 _, .int .i64 _, .int .i64 _, .int .i64 _, .int .i64 _]]) (cs := [.int .i64 _, .int .i64 _, .int .i64 _, .int .i64 _, .int .i64 _, .int .i64 _, .int .i64 _, .int .i64 _]) hS underlying32 sizeOf60 zeroValue60 rfl rfl rfl rfl (fun v hv => by simp only [List.mem_cons, List.not_mem_nil, or_false] at hv; subst hv; rfl) rfl) ?_
           rintro _ w_115 ⟨b79, rfl, hS⟩
           refine ⟨_, _, hS0.le (Sub.refl _) (List.sublist_cons_self _ _), hS, ?_⟩
           have hS0 := hS
           refine se rfl (qz 0 hS rfl underlying32 info60 rfl rfl (qI hs.g.ls) rfl rfl rfl rfl rfl (by omega) (by omega)) ?_
           rintro _ w_116 ⟨a80, c80, css80, rfl, hA80, hcl80, hS⟩
           refine ⟨_, _, hS0.le (Sub.refl _) (List.sublist_cons_self _ _), hS, ?_⟩
           refine sp rfl (ql (pl := [(0, 1), (1, 1)]) (cs := [.slice _ _ _, .slice _ _ _]) zeroValue34 underlying34 (fun w => by simp [sizeOf31, sizeOf32]) (mp (v := .slice _ _ _) rfl (mp (v := .slice _ _ _) rfl mp0)) rfl) ?_
           refine sb rfl (qg 2 hS sizeOf34 rfl rfl rfl (vs := [.slice _ _ _, .slice _ _ _]) rfl rfl rfl (Nat.le_of_ble_eq_true rfl) (cs' := [_, _]) rfl) ?_
           rintro _ w_117 ⟨rfl, hS⟩
           refine ⟨_, _, hS, ?_⟩
           refine sn (thenN ?_)
           rw [qM qC hA80, snocL] at hS
           exact ⟨_, rfl, _, b13, a73, c73, a80, c80, ⟨rfl, rfl, rfl, rfl, rfl, trivial⟩, (hS.ord [2, 0, 3, 4, 5, 6]), hs, hy, h73⟩
          ·
           have hS0 := hS
           refine se rfl (d_lit (vs := [.agg #[.int .i64 _, .int .i64 _, .int .i64 _, .int .i64 _, .int .i64 _, .int .i64 _, .int .i64 _, .int .i64 _]]) (cs := [.int .i64 _, .int .i64 _, .int .i64 _, .int .i64 _, .int .i64 _, .int .i64 _, .int .i64 _, .int .i64 _]) hS underlying32 sizeOf60 zeroValue60 rfl rfl rfl rfl (fun v hv => by simp only [List.mem_cons, List.not_mem_nil, or_false] at hv; subst hv; rfl) rfl) ?_
           rintro _ w_118 ⟨b79, rfl, hS⟩
           refine ⟨_, _, hS0.le (Sub.refl _) (List.sublist_cons_self _ _), hS, ?_⟩
           have hS0 := hS
           refine se rfl (qj call62 rfl (qN rfl A.a1 A.c1 s.g.ls _ _ hS.imm hs.g.ls)) ?_
           rintro _ w_119 ⟨rfl, hE⟩
           replace hS := hS.call hE
           refine ⟨_, _, hS0.le hE.ext (List.Sublist.refl _), hS, ?_⟩
           have hS0 := hS
           refine se rfl (qz 0 hS rfl underlying32 info60 rfl rfl (qI hs.g.ls) rfl rfl rfl rfl rfl (by omega) (by omega)) ?_
           rintro _ w_120 ⟨a80, c80, css80, rfl, hA80, hcl80, hS⟩
           refine ⟨_, _, hS0.le (Sub.refl _) (List.sublist_cons_self _ _), hS, ?_⟩
           refine sp rfl (ql (pl := [(0, 1), (1, 1)]) (cs := [.slice _ _ _, .slice _ _ _]) zeroValue34 underlying34 (fun w => by simp [sizeOf31, sizeOf32]) (mp (v := .slice _ _ _) rfl (mp (v := .slice _ _ _) rfl mp0)) rfl) ?_
           refine sb rfl (qg 2 hS sizeOf34 rfl rfl rfl (vs := [.slice _ _ _, .slice _ _ _]) rfl rfl rfl (Nat.le_of_ble_eq_true rfl) (cs' := [_, _]) rfl) ?_
           rintro _ w_121 ⟨rfl, hS⟩
           refine ⟨_, _, hS, ?_⟩
           refine sn (thenN ?_)
           rw [qM qC hA80, snocL] at hS
           exact ⟨_, rfl, _, b13, a73, c73, a80, c80, ⟨rfl, rfl, rfl, rfl, rfl, trivial⟩, (hS.ord [2, 0, 3, 4, 5, 6]), hs, hy, h73⟩
         ·
          have hS0 := hS
          refine se rfl (d_lit (vs := [.agg #[.int .i64 _, .int .i64 _, .int .i64 _, .int .i64 _, .int .i64 _, .int .i64 _, .int .i64 _, .int .i64 _]]) (cs := [.int .i64 _, .int .i64 _, .int .i64 _, .int .i64 _, .int .i64 _, .int .i64 _, .int .i64 _, .int .i64 _]) hS underlying32 sizeOf60 zeroValue60 rfl rfl rfl rfl (fun v hv => by simp only [List.mem_cons, List.not_mem_nil, or_false] at hv; subst hv; rfl) rfl) ?_
          rintro _ w_122 ⟨b79, rfl, hS⟩
          refine ⟨_, _, hS0.le (Sub.refl _) (List.sublist_cons_self _ _), hS, ?_⟩
          have hS0 := hS
          refine se rfl (qj call50 rfl (qZ a70 c70 (insI s.g.vs l.f) l.t _ _ hS.imm h70 hi1 (by omega))) ?_
          rintro _ w_123 ⟨I_f, a73, c73, rfl, hE, h73⟩
          replace hS := hS.call hE
          replace hs := hs.mono hE.ext
          replace hy := hy.mono hE.ext
          replace h36 := h36.mono hE.ext
          replace h39 := h39.mono hE.ext
          replace h70 := h70.mono hE.ext
          refine ⟨_, _, hS0.le hE.ext (List.Sublist.refl _), hS, ?_⟩
          have hS0 := hS
          refine se rfl (qj call62 rfl (qN rfl A.a1 A.c1 s.g.ls _ _ hS.imm hs.g.ls)) ?_
          rintro _ w_124 ⟨rfl, hE⟩
          replace hS := hS.call hE
          refine ⟨_, _, hS0.le hE.ext (List.Sublist.refl _), hS, ?_⟩
          have hS0 := hS
          refine se rfl (qz 0 hS rfl underlying32 info60 rfl rfl (qI hs.g.ls) rfl rfl rfl rfl rfl (by omega) (by omega)) ?_
          rintro _ w_125 ⟨a80, c80, css80, rfl, hA80, hcl80, hS⟩
          refine ⟨_, _, hS0.le (Sub.refl _) (List.sublist_cons_self _ _), hS, ?_⟩
          refine sp rfl (ql (pl := [(0, 1), (1, 1)]) (cs := [.slice _ _ _, .slice _ _ _]) zeroValue34 underlying34 (fun w => by simp [sizeOf31, sizeOf32]) (mp (v := .slice _ _ _) rfl (mp (v := .slice _ _ _) rfl mp0)) rfl) ?_
          refine sb rfl (qg 2 hS sizeOf34 rfl rfl rfl (vs := [.slice _ _ _, .slice _ _ _]) rfl rfl rfl (Nat.le_of_ble_eq_true rfl) (cs' := [_, _]) rfl) ?_
          rintro _ w_126 ⟨rfl, hS⟩
          refine ⟨_, _, hS, ?_⟩
          refine sn (thenN ?_)
          rw [qM qC hA80, snocL] at hS
          exact ⟨_, rfl, _, b13, a73, c73, a80, c80, ⟨rfl, rfl, rfl, rfl, rfl, trivial⟩, (hS.ord [2, 0, 3, 4, 5, 6]), hs, hy, h73⟩
        ·
         have hS0 := hS
         refine se rfl (d_lit (vs := [.agg #[.int .i64 _, .int .i64 _, .int .i64 _, .int .i64 _, .int .i64 _, .int .i64 _, .int .i64 _, .int .i64 _]]) (cs := [.int .i64 _, .int .i64 _, .int .i64 _, .int .i64 _, .int .i64 _, .int .i64 _, .int .i64 _, .int .i64 _]) hS underlying32 sizeOf60 zeroValue60 rfl rfl rfl rfl (fun v hv => by simp only [List.mem_cons, List.not_mem_nil, or_false] at hv; subst hv; rfl) rfl) ?_
         rintro _ w_127 ⟨b79, rfl, hS⟩
         refine ⟨_, _, hS0.le (Sub.refl _) (List.sublist_cons_self _ _), hS, ?_⟩
         have hS0 := hS
         refine se rfl (qj call50 rfl (qZ A.a0 A.c0 s.g.vs l.f _ _ hS.imm hs.g.vs hvi (by omega))) ?_
         rintro _ w_128 ⟨I_f, a70, c70, rfl, hE, h70⟩
         replace hS := hS.call hE
         replace hs := hs.mono hE.ext
         replace hy := hy.mono hE.ext
         replace h36 := h36.mono hE.ext
         replace h39 := h39.mono hE.ext
         refine ⟨_, _, hS0.le hE.ext (List.Sublist.refl _), hS, ?_⟩
         have hS0 := hS
         refine se rfl (qj call50 rfl (qZ a70 c70 (insI s.g.vs l.f) l.t _ _ hS.imm h70 hi1 (by omega))) ?_
         rintro _ w_129 ⟨I_f, a73, c73, rfl, hE, h73⟩
         replace hS := hS.call hE
         replace hs := hs.mono hE.ext
         replace hy := hy.mono hE.ext
         replace h36 := h36.mono hE.ext
         replace h39 := h39.mono hE.ext
         replace h70 := h70.mono hE.ext
         refine ⟨_, _, hS0.le hE.ext (List.Sublist.refl _), hS, ?_⟩
         have hS0 := hS
         refine se rfl (qj call62 rfl (qN rfl A.a1 A.c1 s.g.ls _ _ hS.imm hs.g.ls)) ?_
         rintro _ w_130 ⟨rfl, hE⟩
         replace hS := hS.call hE
         refine ⟨_, _, hS0.le hE.ext (List.Sublist.refl _), hS, ?_⟩
         have hS0 := hS
         refine se rfl (qz 0 hS rfl underlying32 info60 rfl rfl (qI hs.g.ls) rfl rfl rfl rfl rfl (by omega) (by omega)) ?_
         rintro _ w_131 ⟨a80, c80, css80, rfl, hA80, hcl80, hS⟩
         refine ⟨_, _, hS0.le (Sub.refl _) (List.sublist_cons_self _ _), hS, ?_⟩
         refine sp rfl (ql (pl := [(0, 1), (1, 1)]) (cs := [.slice _ _ _, .slice _ _ _]) zeroValue34 underlying34 (fun w => by simp [sizeOf31, sizeOf32]) (mp (v := .slice _ _ _) rfl (mp (v := .slice _ _ _) rfl mp0)) rfl) ?_
         refine sb rfl (qg 2 hS sizeOf34 rfl rfl rfl (vs := [.slice _ _ _, .slice _ _ _]) rfl rfl rfl (Nat.le_of_ble_eq_true rfl) (cs' := [_, _]) rfl) ?_
         rintro _ w_132 ⟨rfl, hS⟩
         refine ⟨_, _, hS, ?_⟩
         refine sn (thenN ?_)
         rw [qM qC hA80, snocL] at hS
         exact ⟨_, rfl, _, b13, a73, c73, a80, c80, ⟨rfl, rfl, rfl, rfl, rfl, trivial⟩, (hS.ord [2, 0, 3, 4, 5, 6]), hs, hy, h73⟩
      ·
       rintro σ w_j ⟨I, b13, a73, c73, a80, c80, hs, hS, hsv, hy, h73⟩
       rw [← qr hs]
       clear hs
       have hs := hsv
       clear hsv
       refine wpIn_seq (wpIn_seq ?_)
       have hF := St.freezeRow (u := .slice a80 (s.g.ls.length + 1) c80) (m := s.g.ls.length + 1) (xs := s.g.ls ++ [l]) qC (by exact hS.ord [1, 0, 2, 3, 4, 5]) (by simp)
       clear hS
       obtain ⟨I_hnl2, hS, hI_hnl2, hnl2⟩ := hF
       replace hs := hs.mono hI_hnl2
       replace hy := hy.mono hI_hnl2
       replace h73 := h73.mono hI_hnl2
       rw [show s.g.ls.length + 1 = (s.g.ls ++ [l]).length by simp] at hnl2 hS
       have hG2 : RGr _ a73 c73 a80 c80 (addG s l) := ⟨h73, hnl2⟩
       refine reg ?_
       refine qq hS (g_ldO 0 (vs := [.slice _ _ _, .slice _ _ _]) sizeOf34 isAgg34 rfl rfl rfl rfl) ?_
       refine qe (qj call60 rfl (gvalid_c (addG s l) a73 a80 c73 c80 _ _ hS.imm hG2)) ?_
       rintro _ w_133 ⟨rfl, hE⟩
       replace hS := hS.callE hE
       refine qq hS (g_not rfl) ?_
       refine QoN ?_
       refine qk rfl ?_ ?_
       ·
        intro hc84
        have hR : addP s l p = ⟨s, 2⟩ := by rw [hR0, if_neg (by simpa using hc84)]
        refine QwR ?_
        refine qq hS (g_ldO 4 (vs := [.slice _ _ _, .slice _ _ _, .slice _ _ _, .slice _ _ _, .slice _ _ _]) sizeOf38 isAgg38 rfl rfl rfl rfl) ?_
        refine qe (qg 1 hS sizeOf38 rfl rfl rfl (vs := [.slice _ _ _, .slice _ _ _, .slice _ _ _, .slice _ _ _, .slice _ _ _]) rfl rfl rfl (Nat.le_of_ble_eq_true rfl) (cs' := [_, _, _, _, _]) rfl) ?_
        clear hS
        rintro _ w_134 ⟨rfl, hS⟩
        refine qq hS (Qai rfl) (QoN (wpIn_ret ?_))
        refine thenR ?_
        refine ret2 results27 (qt 1 hS sizeOf38 isAgg38 rfl rfl rfl) (qi (v := .int .i64 _) rfl) ?_
        rw [hR]; exact ⟨_, A, rfl, hS.nil, hs⟩
       ·
        intro hc84
        have hR : addP s l p = ⟨⟨addG s l, s.ps ++ [p], s.gone, []⟩, 0⟩ := by rw [hR0, if_pos (by simpa using hc84)]
        refine wpIn_skip (thenN (wpIn_seq ?_))
        refine draw (.cons 0 .held (.cons 1 .pure (.cons 2 .held (.cons 4 .held (.cons 7 .pure (.cons 8 .held (.fork 3 (.cons 5 .eff (.cons 6 .eff (.cons 9 .pure (.cons 10 .bar (.cons 11 .pure .nil))))) 5 (.cons 3 .eff (.cons 6 .eff (.cons 9 .pure (.cons 10 .bar (.cons 11 .pure .nil)))))))))))) mixed (by kernel_rfl) hS ?_
        intro w_135 hS
        refine sh rfl (g_ldO 0 (vs := [.slice _ _ _, .slice _ _ _]) sizeOf34 isAgg34 rfl rfl rfl rfl) ?_
        refine sp rfl (qb (o' := 2) underlying38 rfl sizeOf35 rfl rfl rfl) ?_
        refine sh rfl (qf 4 isAgg35 rfl rfl rfl) ?_
        refine sh rfl (g_ldO 2 (vs := [.bool _, .int .i64 _, .int .i64 _, .slice _ _ _]) sizeOf46 isAgg46 rfl rfl rfl rfl) ?_
        refine sp rfl (qb (o' := 3) underlying38 rfl sizeOf31 rfl rfl rfl) ?_
        refine sh rfl (qf 4 isAgg31 rfl rfl rfl) ?_
        refine sk ?_ ?_
        ·
         have hS0 := hS
         refine se rfl (qj call63 rfl (clipP_c rfl A.a2 A.c2 s.ps _ _ hS.imm hs.ps)) ?_
         rintro _ w_136 ⟨rfl, hE⟩
         replace hS := hS.call hE
         refine ⟨_, _, hS0.le hE.ext (List.Sublist.refl _), hS, ?_⟩
         have hS0 := hS
         refine se rfl (d_lit (vs := [.agg #[.bool _, .int .i64 _, .int .i64 _, .slice _ _ _]]) (cs := [.bool _, .int .i64 _, .int .i64 _, .slice _ _ _]) hS underlying35 sizeOf46 zeroValue46 rfl rfl rfl rfl (fun v hv => by simp only [List.mem_cons, List.not_mem_nil, or_false] at hv; subst hv; rfl) rfl) ?_
         rintro _ w_137 ⟨b91, rfl, hS⟩
         refine ⟨_, _, hS0.le (Sub.refl _) (List.sublist_cons_self _ _), hS, ?_⟩
         have hS0 := hS
         refine se rfl (qz 0 hS rfl underlying35 info46 rfl rfl (qI hs.ps) rfl rfl rfl rfl rfl (by omega) (by omega)) ?_
         rintro _ w_138 ⟨a92, c92, css92, rfl, hA92, hcl92, hS⟩
         refine ⟨_, _, hS0.le (Sub.refl _) (List.sublist_cons_self _ _), hS, ?_⟩
         refine sp rfl (ql (pl := [(0, 2), (2, 1), (3, 1), (4, 1)]) (cs := [.slice _ _ _, .slice _ _ _, .slice _ _ _, .slice _ _ _, .slice _ _ _]) zeroValue38 underlying38 (fun w => by simp [sizeOf31, sizeOf34, sizeOf35, sizeOf36]) (mp (v := .agg #[.slice _ _ _, .slice _ _ _]) rfl (mp (v := .slice _ _ _) rfl (mp (v := .slice _ _ _) rfl mp0))) rfl) ?_
         refine sb rfl (qg 3 hS sizeOf38 rfl rfl rfl (vs := [.slice _ _ _, .slice _ _ _, .slice _ _ _, .slice _ _ _, .slice _ _ _]) rfl rfl rfl (Nat.le_of_ble_eq_true rfl) (cs' := [_, _, _, _, _]) rfl) ?_
         rintro _ w_139 ⟨rfl, hS⟩
         refine ⟨_, _, hS, ?_⟩
         refine sp rfl (Qai rfl) ?_
         refine sn (thenN ?_)
         refine wpIn_ret ?_
         refine ret2 results27 (qt 3 hS sizeOf38 isAgg38 rfl rfl rfl) (qi (v := .int .i64 _) rfl) ?_
         obtain ⟨I1, hS1, hI1, hd1⟩ := St.freezeRowR (xs := s.ps ++ [p]) (R := RPatC _) (css := css92 ++ [[.bool p.lifted, .int .i64 p.in_, .int .i64 p.out, .slice ap pm cp]]) (by rw [List.flatten_append]; exact hS.sel [true, false, false, false, false, false, false]) (by simp) (by intro c hc; rcases List.mem_append.1 hc with h | h; exact hcl92 c h; rw [List.mem_singleton] at h; subst h; rfl) (hA92.snoc ⟨_, _, _, rfl, hy⟩)
         rw [show s.ps.length + 1 = (s.ps ++ [p]).length by simp] at hd1 ⊢
         rw [hR]
         exact ⟨I1, ⟨a73, c73, a80, c80, a92, c92, A.a3, A.c3, none, 0⟩, rfl, hS1.nil, ⟨hG2.mono hI1, RSl.mono hd1 (Inl.Sub.refl _) (fun _ _ h => h.mono hI1), hs.gone.mono hI1, RSl.nilR⟩⟩
        ·
         have hS0 := hS
         refine se rfl (d_lit (vs := [.agg #[.bool _, .int .i64 _, .int .i64 _, .slice _ _ _]]) (cs := [.bool _, .int .i64 _, .int .i64 _, .slice _ _ _]) hS underlying35 sizeOf46 zeroValue46 rfl rfl rfl rfl (fun v hv => by simp only [List.mem_cons, List.not_mem_nil, or_false] at hv; subst hv; rfl) rfl) ?_
         rintro _ w_140 ⟨b91, rfl, hS⟩
         refine ⟨_, _, hS0.le (Sub.refl _) (List.sublist_cons_self _ _), hS, ?_⟩
         have hS0 := hS
         refine se rfl (qj call63 rfl (clipP_c rfl A.a2 A.c2 s.ps _ _ hS.imm hs.ps)) ?_
         rintro _ w_141 ⟨rfl, hE⟩
         replace hS := hS.call hE
         refine ⟨_, _, hS0.le hE.ext (List.Sublist.refl _), hS, ?_⟩
         have hS0 := hS
         refine se rfl (qz 0 hS rfl underlying35 info46 rfl rfl (qI hs.ps) rfl rfl rfl rfl rfl (by omega) (by omega)) ?_
         rintro _ w_142 ⟨a92, c92, css92, rfl, hA92, hcl92, hS⟩
         refine ⟨_, _, hS0.le (Sub.refl _) (List.sublist_cons_self _ _), hS, ?_⟩
         refine sp rfl (ql (pl := [(0, 2), (2, 1), (3, 1), (4, 1)]) (cs := [.slice _ _ _, .slice _ _ _, .slice _ _ _, .slice _ _ _, .slice _ _ _]) zeroValue38 underlying38 (fun w => by simp [sizeOf31, sizeOf34, sizeOf35, sizeOf36]) (mp (v := .agg #[.slice _ _ _, .slice _ _ _]) rfl (mp (v := .slice _ _ _) rfl (mp (v := .slice _ _ _) rfl mp0))) rfl) ?_
         refine sb rfl (qg 3 hS sizeOf38 rfl rfl rfl (vs := [.slice _ _ _, .slice _ _ _, .slice _ _ _, .slice _ _ _, .slice _ _ _]) rfl rfl rfl (Nat.le_of_ble_eq_true rfl) (cs' := [_, _, _, _, _]) rfl) ?_
         rintro _ w_143 ⟨rfl, hS⟩
         refine ⟨_, _, hS, ?_⟩
         refine sp rfl (Qai rfl) ?_
         refine sn (thenN ?_)
         refine wpIn_ret ?_
         refine ret2 results27 (qt 3 hS sizeOf38 isAgg38 rfl rfl rfl) (qi (v := .int .i64 _) rfl) ?_
         obtain ⟨I1, hS1, hI1, hd1⟩ := St.freezeRowR (xs := s.ps ++ [p]) (R := RPatC _) (css := css92 ++ [[.bool p.lifted, .int .i64 p.in_, .int .i64 p.out, .slice ap pm cp]]) (by rw [List.flatten_append]; exact hS.sel [true, false, false, false, false, false, false]) (by simp) (by intro c hc; rcases List.mem_append.1 hc with h | h; exact hcl92 c h; rw [List.mem_singleton] at h; subst h; rfl) (hA92.snoc ⟨_, _, _, rfl, hy⟩)
         rw [show s.ps.length + 1 = (s.ps ++ [p]).length by simp] at hd1 ⊢
         rw [hR]
         exact ⟨I1, ⟨a73, c73, a80, c80, a92, c92, A.a3, A.c3, none, 0⟩, rfl, hS1.nil, ⟨hG2.mono hI1, RSl.mono hd1 (Inl.Sub.refl _) (fun _ _ h => h.mono hI1), hs.gone.mono hI1, RSl.nilR⟩⟩
end Go.Proofs.YtcajgkfgjpfmaaaGreat
