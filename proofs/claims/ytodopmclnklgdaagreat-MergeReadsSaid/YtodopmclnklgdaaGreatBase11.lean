/- inlaylaw11: three, same, exchanged, ranges, sanity. Conditions: none. -/
import Derived.Test.YtodopmclnklgdaaGreatMade11
import Derived.Test.YtodopmclnklgdaaGreatBase9
namespace Go.Proofs.YtodopmclnklgdaaGreat
open Go Go.RowKit Go.Inl
set_option linter.unusedSimpArgs false
set_option linter.unusedVariables false
theorem g_buildA {P : Program} {n : Nat} {σ : Nat → Value} {S : World → Prop} {t e ty : TypeId} {N sz : Nat} {l : List (Nat × Operand)} {z : Value} {cs : List Value} {ps : List (Nat × Value)} (hz : ∀ w, (zeroValue t).run P w = .ok z w) (hT : P.underlying t = some (.array N e)) (hs : ∀ w, (sizeOf e).run P w = .ok sz w)
    (hps : (l.map fun p => (p.1, ev n σ p.2)) = ps) (hf : Instr.fill (fun i => some (i * sz, sz)) z.cells ps = some cs.toArray) : Gives P (ev n σ) S (.build t l.toArray) ty (.agg cs.toArray) := fun w _ => by
  subst hps
  simp only [execOp, Instr.build, Sem.run_bind, hz, run_underlying hT, Result.andThen_ok, hs]
  simp [hf]
theorem fill_three (z : Fin 12 → Value) (a0 a1 a2 a3 b0 b1 b2 b3 c0 c1 c2 c3 : Value) : Instr.fill (fun i => some (i * 4, 4)) #[z 0, z 1, z 2, z 3, z 4, z 5, z 6, z 7, z 8, z 9, z 10, z 11] [(0, .agg #[a0, a1, a2, a3]), (1, .agg #[b0, b1, b2, b3]), (2, .agg #[c0, c1, c2, c3])] = some #[a0, a1, a2, a3, b0, b1, b2, b3, c0, c1, c2, c3] := by
  simp [Instr.fill, Value.cells, List.zipIdx]
theorem eqlRg {n : Nat} {σ : Nat → Value} {S : World → Prop} {ty t' : TypeId} {x y : Operand} (a b : Int × Int) (hx : ev n σ x = .agg #[.int .i64 a.1, .int .i64 a.2]) (hy : ev n σ y = .agg #[.int .i64 b.1, .int .i64 b.2]) : Gives Tryz.prog (ev n σ) S (.binOp .eql 117 x y t') ty (.bool (rgEq a b)) := fun w hw => by
  have hg : (eqGuard .eql 117 x y (.agg #[.int .i64 a.1, .int .i64 a.2]) (.agg #[.int .i64 b.1, .int .i64 b.2])).run Tryz.prog w = .ok () w := by simp [eqGuard, go_sem, Tryz.eqGuardType117]
  have hb : (binOp .eql 117 (.agg #[.int .i64 a.1, .int .i64 a.2]) (.agg #[.int .i64 b.1, .int .i64 b.2])).run Tryz.prog w = .ok (.bool (rgEq a b)) w := by
    simp [go_sem, rgEq]
    by_cases h1 : a.1 = b.1 <;> by_cases h2 : a.2 = b.2 <;> simp [h1, h2]
  simp only [execOp, hx, hy, Sem.run_bind, hg, Result.andThen_ok, hb]; rfl
theorem g_neqF {P : Program} {n : Nat} {σ : Nat → Value} {S : World → Prop} {t t' ty : TypeId} {x y : Operand} {k : IntKind} {a b : Int} (hx : ev n σ x = .int k a) (hy : ev n σ y = .int k b) (h : a = b) : Gives P (ev n σ) S (.binOp .neq t x y t') ty (.bool false) := by
  have := g_neq (P := P) (S := S) (t := t) (t' := t') (ty := ty) hx hy
  rw [decide_eq_true h] at this; exact this
theorem g_neqbF {P : Program} {n : Nat} {σ : Nat → Value} {S : World → Prop} {t t' ty : TypeId} {x y : Operand} {a b : Bool} (hT : P.underlying t = some .bool) (hx : ev n σ x = .bool a) (hy : ev n σ y = .bool b) (h : a = b) : Gives P (ev n σ) S (.binOp .neq t x y t') ty (.bool false) := by
  subst h
  have := g_neqb (P := P) (S := S) (t := t) (t' := t') (ty := ty) hT hx hy
  rw [bne_self_eq_false] at this; exact this
theorem g_castB {P : Program} {ρ : Operand → Value} {S : World → Prop} {op : Op} {ty : TypeId} {v v' : Value} (h : Gives P ρ S op ty v) (e : v = v') : Gives P ρ S op ty v' := by subst e; exact h
theorem sameRg_T (l : List (Int × Int)) (ad bd : Option Addr) (m k cap capb : Nat) (w0 : World) (I0 : Imm) (hI : Sat I0 w0) (hl : RRgs I0 (.slice ad m cap) l) (hk : RRgs I0 (.slice bd k capb) l) (hm : m = l.length) (hn : k = l.length) :
    Ctr Tryz.prog 111 [.slice ad m cap, .slice bd k capb] w0 (fun v w' => v = .bool true ∧ Ext w0 I0 w' I0) := by
  subst hm hn
  have h := sameRg_c l l ad bd cap capb w0 I0 hI hl hk
  rw [decide_eq_true rfl] at h; exact h
theorem touched_L (p : PatL) (l : List (Int × Int)) (e : Int) (k : Nat) (ad : Option Addr) (m cap : Nat) (w0 : World) (I0 : Imm) (hI : Sat I0 w0) (hp : p.wf) (hpo : ROps I0 (.slice ad m cap) p.ops) (he : touchedP p = (l, e)) (hk : l.length = k) :
    Ctr Tryz.prog 26 [.agg #[.bool p.lifted, .int .i64 p.in_, .int .i64 p.out, .slice ad m cap]] w0 (fun v w' => ∃ I' a c, v = .tuple #[.slice a k c, .int .i64 e] ∧ Ext w0 I0 w' I' ∧ RRgs I' (.slice a k c) l) := by
  subst hk; exact touched_E p ad m cap (l, e) w0 I0 hI hp hpo he
theorem read_L (p : PatL) (l : List (Int × Int)) (e : Int) (k : Nat) (ad : Option Addr) (m cap : Nat) (w0 : World) (I0 : Imm) (hI : Sat I0 w0) (hp : p.wf) (hpo : ROps I0 (.slice ad m cap) p.ops) (he : readP p = (l, e)) (hk : l.length = k) :
    Ctr Tryz.prog 27 [.agg #[.bool p.lifted, .int .i64 p.in_, .int .i64 p.out, .slice ad m cap]] w0 (fun v w' => ∃ I' a c, v = .tuple #[.slice a k c, .int .i64 e] ∧ Ext w0 I0 w' I' ∧ RRgs I' (.slice a k c) l) := by
  subst hk; exact read_E p ad m cap (l, e) w0 I0 hI hp hpo he
theorem clashes_L (p q : PatL) (l : List (Int × Int)) (e : Int) (k : Nat) (ad : Option Addr) (m cap : Nat) (bd : Option Addr) (n capb : Nat) (w0 : World) (I0 : Imm) (hI : Sat I0 w0) (hp : p.wf) (hpo : ROps I0 (.slice ad m cap) p.ops) (hq : q.wf) (hqo : ROps I0 (.slice bd n capb) q.ops) (he : clashP p q = (l, e)) (hk : l.length = k) :
    Ctr Tryz.prog 64 [.agg #[.bool p.lifted, .int .i64 p.in_, .int .i64 p.out, .slice ad m cap], .agg #[.bool q.lifted, .int .i64 q.in_, .int .i64 q.out, .slice bd n capb]] w0 (fun v w' => ∃ I' a c, v = .tuple #[.slice a k c, .int .i64 e] ∧ Ext w0 I0 w' I' ∧ RRgs I' (.slice a k c) l) := by
  subst hk; exact clashesP_E p ad m cap q bd n capb (l, e) w0 I0 hI hp hpo hq hqo he
theorem merge_L (p q A : PatL) (e : Int) (ad : Option Addr) (m cap : Nat) (bd : Option Addr) (n capb : Nat) (w0 : World) (I0 : Imm) (hI : Sat I0 w0) (hp : p.wf) (hpo : ROps I0 (.slice ad m cap) p.ops) (hq : q.wf) (hqo : ROps I0 (.slice bd n capb) q.ops) (he : mergeP p q = (A, e)) :
    Ctr Tryz.prog 31 [.agg #[.bool p.lifted, .int .i64 p.in_, .int .i64 p.out, .slice ad m cap], .agg #[.bool q.lifted, .int .i64 q.in_, .int .i64 q.out, .slice bd n capb]] w0 (fun v w' => ∃ I' a m c, v = .tuple #[.agg #[.bool A.lifted, .int .i64 A.in_, .int .i64 A.out, .slice a m c], .int .i64 e] ∧ Ext w0 I0 w' I' ∧ ROps I' (.slice a m c) A.ops) := 
  merge_E p ad m cap q bd n capb (A, e) w0 I0 hI hp hpo hq hqo he

set_option maxHeartbeats 1000000 in
theorem same11_T (A B : PatL) (e : Int) (a b c_ d_ : Option Addr) (ma ca mb cb mc cc md cd : Nat) (w0 : World) (I0 : Imm) (hI : Sat I0 w0) (hA : A.wf) (hB : B.wf) (h1 : ROps I0 (.slice a ma ca) A.ops) (h2 : ROps I0 (.slice b mb cb) B.ops) (h3 : ROps I0 (.slice c_ mc cc) A.ops) (h4 : ROps I0 (.slice d_ md cd) B.ops) :
    Ctr Tryz.prog 35 [.agg #[.bool A.lifted, .int .i64 A.in_, .int .i64 A.out, .slice a ma ca, .bool B.lifted, .int .i64 B.in_, .int .i64 B.out, .slice b mb cb, .int .i64 e], .agg #[.bool A.lifted, .int .i64 A.in_, .int .i64 A.out, .slice c_ mc cc, .bool B.lifted, .int .i64 B.in_, .int .i64 B.out, .slice d_ md cd, .int .i64 e]] w0 (fun v w' => v = .bool true ∧ Ext w0 I0 w' I0) := by
  refine fn (n := 24) Tryz.func35 rfl rfl rfl ?_
  have hS := St.start hI
  refine wpIn_seq ?_
  refine reg ?_
  refine qe (d_box (cs := [.bool _, .int .i64 _, .int .i64 _, .slice _ _ _, .bool _, .int .i64 _, .int .i64 _, .slice _ _ _, .int .i64 _]) hS rfl) ?_
  clear hS
  rintro _ w_1 ⟨b2, rfl, hS⟩
  refine qe (d_box (cs := [.bool _, .int .i64 _, .int .i64 _, .slice _ _ _, .bool _, .int .i64 _, .int .i64 _, .slice _ _ _, .int .i64 _]) hS rfl) ?_
  clear hS
  rintro _ w_2 ⟨b3, rfl, hS⟩
  refine qq hS (g_assignv (v := .bool _) rfl) ?_
  refine ol_nil (thenN ?_)
  refine wpIn_seq ?_
  refine reg ?_
  refine qq hS (g_fieldAddr (o' := 0) Tryz.underlying63 rfl Tryz.sizeOf29 rfl rfl rfl) ?_
  refine qq hS (g_ldO 1 (vs := [.bool _, .int .i64 _, .int .i64 _, .slice _ _ _]) Tryz.sizeOf29 Tryz.isAgg29 rfl rfl rfl rfl) ?_
  refine qq hS (g_fieldAddr (o' := 0) Tryz.underlying63 rfl Tryz.sizeOf29 rfl rfl rfl) ?_
  refine qq hS (g_ldO 0 (vs := [.bool _, .int .i64 _, .int .i64 _, .slice _ _ _]) Tryz.sizeOf29 Tryz.isAgg29 rfl rfl rfl rfl) ?_
  refine qe (d_call Tryz.call40 rfl (same_T A _ _ _ _ _ _ _ _ hS.imm h1 h3 hA)) ?_
  rintro _ w_3 ⟨rfl, hE⟩
  replace hS := hS.callE hE
  refine qq hS (g_movev (v := .bool _) rfl) ?_
  refine qqs rfl rfl hS (g_fieldAddr (o' := 4) Tryz.underlying63 rfl Tryz.sizeOf29 rfl rfl rfl) ?_
  refine qqs rfl rfl hS (g_ldO 1 (vs := [.bool _, .int .i64 _, .int .i64 _, .slice _ _ _]) Tryz.sizeOf29 Tryz.isAgg29 rfl rfl rfl rfl) ?_
  refine qqs rfl rfl hS (g_fieldAddr (o' := 4) Tryz.underlying63 rfl Tryz.sizeOf29 rfl rfl rfl) ?_
  refine qqs rfl rfl hS (g_ldO 0 (vs := [.bool _, .int .i64 _, .int .i64 _, .slice _ _ _]) Tryz.sizeOf29 Tryz.isAgg29 rfl rfl rfl rfl) ?_
  refine qes rfl rfl (d_call Tryz.call40 rfl (same_T B _ _ _ _ _ _ _ _ hS.imm h2 h4 hB)) ?_
  rintro _ w_4 ⟨rfl, hE⟩
  replace hS := hS.callE hE
  refine qq hS (g_and rfl rfl (fun _ => rfl)) ?_
  refine qq hS (g_movev (v := .bool _) rfl) ?_
  refine qqs rfl rfl hS (g_fieldAddr (o' := 8) Tryz.underlying63 rfl Tryz.sizeOf31 rfl rfl rfl) ?_
  refine qqs rfl rfl hS (g_ldO1 1 Tryz.isAgg31 rfl rfl rfl) ?_
  refine qqs rfl rfl hS (g_fieldAddr (o' := 8) Tryz.underlying63 rfl Tryz.sizeOf31 rfl rfl rfl) ?_
  refine qqs rfl rfl hS (g_ldO1 0 Tryz.isAgg31 rfl rfl rfl) ?_
  refine qqs rfl rfl hS (g_eqT rfl rfl rfl) ?_
  refine qq hS (g_and rfl rfl (fun _ => rfl)) ?_
  refine qq hS (g_assignv (v := .bool _) rfl) ?_
  refine ol_nil (thenN ?_)
  refine wpIn_ret ?_
  refine ret1 Tryz.results35 (rv_tmp (v := .bool _) rfl) ?_
  exact ⟨rfl, hS.nil⟩

set_option maxHeartbeats 1000000 in
theorem exchanged_E (p : PatL) (ad : Option Addr) (m cap : Nat) (q : PatL) (bd : Option Addr) (n capb : Nat) (A : ExcL) (w0 : World) (I0 : Imm) (hI : Sat I0 w0) (hp : p.wf) (hpo : ROps I0 (.slice ad m cap) p.ops) (hq : q.wf) (hqo : ROps I0 (.slice bd n capb) q.ops) (he : commuteP p q = A) :
    Ctr Tryz.prog 33 [.agg #[.bool p.lifted, .int .i64 p.in_, .int .i64 p.out, .slice ad m cap], .agg #[.bool q.lifted, .int .i64 q.in_, .int .i64 q.out, .slice bd n capb]] w0 (fun v w' => ∃ I' a m c b n d, v = .agg #[.bool A.q.lifted, .int .i64 A.q.in_, .int .i64 A.q.out, .slice a m c, .bool A.p.lifted, .int .i64 A.p.in_, .int .i64 A.p.out, .slice b n d, .int .i64 A.e] ∧ Ext w0 I0 w' I' ∧ ROps I' (.slice a m c) A.q.ops ∧ ROps I' (.slice b n d) A.p.ops) := by
  refine fn (n := 19) Tryz.func33 rfl rfl rfl ?_
  have hS := St.start hI
  refine wpIn_seq ?_
  refine reg ?_
  refine qe (d_box (cs := [.bool _, .int .i64 _, .int .i64 _, .slice _ _ _]) hS rfl) ?_
  clear hS
  rintro _ w_1 ⟨b2, rfl, hS⟩
  refine qe (d_box (cs := [.bool _, .int .i64 _, .int .i64 _, .slice _ _ _]) hS rfl) ?_
  clear hS
  rintro _ w_2 ⟨b3, rfl, hS⟩
  refine qe (d_alloc (cs := [.bool _, .int .i64 _, .int .i64 _, .slice _ _ _, .bool _, .int .i64 _, .int .i64 _, .slice _ _ _, .int .i64 _]) hS Tryz.zeroValue63 rfl) ?_
  clear hS
  rintro _ w_3 ⟨b4, rfl, hS⟩
  refine ol_nil (thenN ?_)
  refine wpIn_seq ?_
  refine reg ?_
  refine qq hS (g_ldO 2 (vs := [.bool _, .int .i64 _, .int .i64 _, .slice _ _ _]) Tryz.sizeOf29 Tryz.isAgg29 rfl rfl rfl rfl) ?_
  refine qq hS (g_ldO 1 (vs := [.bool _, .int .i64 _, .int .i64 _, .slice _ _ _]) Tryz.sizeOf29 Tryz.isAgg29 rfl rfl rfl rfl) ?_
  refine qe (d_call Tryz.call74 rfl (commute_E p ad m cap q bd n capb A _ _ hS.imm hp hpo hq hqo he)) ?_
  rintro _ w_4 ⟨I_f, a46, m46, c46, a51, m51, c51, rfl, hE, h46, h51⟩
  replace hS := hS.callE hE
  replace hpo := hpo.mono hE.ext
  replace hqo := hqo.mono hE.ext
  refine qq hS (g_move _) ?_
  refine qq hS (g_extract rfl rfl) ?_
  refine qq hS (g_extract rfl rfl) ?_
  refine qq hS (g_extract (v := .int .i64 _) rfl rfl) ?_
  refine qe (d_alloc (cs := [.bool _, .int .i64 _, .int .i64 _, .slice _ _ _]) hS Tryz.zeroValue29 rfl) ?_
  clear hS
  rintro _ w_5 ⟨b5, rfl, hS⟩
  refine qe (d_alloc (cs := [.bool _, .int .i64 _, .int .i64 _, .slice _ _ _]) hS Tryz.zeroValue29 rfl) ?_
  clear hS
  rintro _ w_6 ⟨b6, rfl, hS⟩
  refine qe (d_store 1 hS Tryz.sizeOf29 rfl rfl rfl (vs := [.bool _, .int .i64 _, .int .i64 _, .slice _ _ _]) rfl rfl rfl (Nat.le_of_ble_eq_true rfl) (cs' := [_, _, _, _]) rfl) ?_
  clear hS
  rintro _ w_7 ⟨rfl, hS⟩
  refine qe (d_store 0 hS Tryz.sizeOf29 rfl rfl rfl (vs := [.bool _, .int .i64 _, .int .i64 _, .slice _ _ _]) rfl rfl rfl (Nat.le_of_ble_eq_true rfl) (cs' := [_, _, _, _]) rfl) ?_
  clear hS
  rintro _ w_8 ⟨rfl, hS⟩
  refine qq hS (g_assignv (v := .int .i64 _) rfl) ?_
  refine ol_nil (thenN ?_)
  refine wpIn_seq ?_
  refine reg ?_
  refine qq hS (g_ldO 1 (vs := [.bool _, .int .i64 _, .int .i64 _, .slice _ _ _]) Tryz.sizeOf29 Tryz.isAgg29 rfl rfl rfl rfl) ?_
  refine qq hS (g_ldO 0 (vs := [.bool _, .int .i64 _, .int .i64 _, .slice _ _ _]) Tryz.sizeOf29 Tryz.isAgg29 rfl rfl rfl rfl) ?_
  refine qq hS (g_movev (v := .int .i64 _) rfl) ?_
  refine qq hS (g_buildv (pl := [(0, 4), (4, 4), (8, 1)]) (cs := [.bool _, .int .i64 _, .int .i64 _, .slice _ _ _, .bool _, .int .i64 _, .int .i64 _, .slice _ _ _, .int .i64 _]) Tryz.zeroValue63 Tryz.underlying63 (fun w => by simp [Tryz.sizeOf29, Tryz.sizeOf31]) (mp (v := .agg #[.bool _, .int .i64 _, .int .i64 _, .slice _ _ _]) rfl (mp (v := .agg #[.bool _, .int .i64 _, .int .i64 _, .slice _ _ _]) rfl (mp (v := .int .i64 _) rfl mp0))) (fill_twoE _ _ _ _ _ _ _ _ _ _ _ _ _ _ _ _ _ _ _ )) ?_
  refine qe (d_store 2 hS Tryz.sizeOf63 rfl rfl rfl (vs := [.bool _, .int .i64 _, .int .i64 _, .slice _ _ _, .bool _, .int .i64 _, .int .i64 _, .slice _ _ _, .int .i64 _]) rfl rfl rfl (Nat.le_of_ble_eq_true rfl) (cs' := [_, _, _, _, _, _, _, _, _]) rfl) ?_
  clear hS
  rintro _ w_9 ⟨rfl, hS⟩
  refine ol_nil (thenN ?_)
  refine wpIn_ret ?_
  refine ret1 Tryz.results33 (rv_cel 2 hS Tryz.sizeOf63 Tryz.isAgg63 rfl rfl rfl) ?_
  exact ⟨_, a46, m46, c46, a51, m51, c51, rfl, hS.nil, h46, h51⟩

theorem exchanged_L (p q A B : PatL) (e : Int) (ad : Option Addr) (m cap : Nat) (bd : Option Addr) (n capb : Nat) (w0 : World) (I0 : Imm) (hI : Sat I0 w0) (hp : p.wf) (hpo : ROps I0 (.slice ad m cap) p.ops) (hq : q.wf) (hqo : ROps I0 (.slice bd n capb) q.ops) (he : commuteP p q = ⟨A, B, e⟩) :
    Ctr Tryz.prog 33 [.agg #[.bool p.lifted, .int .i64 p.in_, .int .i64 p.out, .slice ad m cap], .agg #[.bool q.lifted, .int .i64 q.in_, .int .i64 q.out, .slice bd n capb]] w0 (fun v w' => ∃ I' a m c b n d, v = .agg #[.bool A.lifted, .int .i64 A.in_, .int .i64 A.out, .slice a m c, .bool B.lifted, .int .i64 B.in_, .int .i64 B.out, .slice b n d, .int .i64 e] ∧ Ext w0 I0 w' I' ∧ ROps I' (.slice a m c) A.ops ∧ ROps I' (.slice b n d) B.ops) :=
  exchanged_E p ad m cap q bd n capb ⟨A, B, e⟩ w0 I0 hI hp hpo hq hqo he

theorem ranges11_T1 (f t : Int) (ad : Option Addr) (cap : Nat) (w0 : World) (I0 : Imm) (hI : Sat I0 w0) (hl : RRgs I0 (.slice ad 1 cap) [(f, t)]) (hz : ¬ (f = 0 ∧ t = 0)) :
    Ctr Tryz.prog 65 [.slice ad 1 cap, .int .i64 0, .agg #[.int .i64 f, .int .i64 t]] w0 (fun v w' => ∃ I', v = .bool true ∧ Ext w0 I0 w' I') := by
  refine fn (n := 25) Tryz.func65 rfl rfl rfl ?_
  have hS := St.start hI
  refine wpIn_seq ?_
  refine reg ?_
  refine qe (d_box (cs := [.int .i64 _, .int .i64 _]) hS rfl) ?_
  clear hS
  rintro _ w_1 ⟨b5, rfl, hS⟩
  refine qq hS (g_assignv (v := .bool _) rfl) ?_
  refine ol_nil (thenN ?_)
  refine wpIn_seq ?_
  refine wpIn_seq ?_
  refine reg ?_
  refine qq hS (g_ldO 0 (vs := [.int .i64 _, .int .i64 _]) Tryz.sizeOf117 Tryz.isAgg117 rfl rfl rfl rfl) ?_
  refine qq hS (g_buildv (pl := [(0, 1), (1, 1)]) (cs := [.int .i64 _, .int .i64 _]) Tryz.zeroValue117 Tryz.underlying117 (fun w => by simp [Tryz.sizeOf3]) mp0 rfl) ?_
  refine qq hS (eqlRg (f, t) (0, 0) rfl rfl) ?_
  refine ol_nil (thenN ?_)
  refine cond_f (congrArg Value.bool (show rgEq (f, t) (0, 0) = false by rw [Bool.eq_false_iff]; intro h; exact hz (by simpa [rgEq] using h))) ?_
  refine wpIn_skip ?_
  refine thenN ?_
  refine wpIn_seq ?_
  refine reg ?_
  refine qq hS (g_movev (v := .int .i64 _) rfl) ?_
  refine qq hS (g_eqT rfl rfl rfl) ?_
  refine qq hS (g_movev (v := .bool _) rfl) ?_
  refine qqs rfl rfl hS (g_move _) ?_
  refine qqs rfl rfl hS (g_ldO 0 (vs := [.int .i64 _, .int .i64 _]) Tryz.sizeOf117 Tryz.isAgg117 rfl rfl rfl rfl) ?_
  refine qes rfl rfl (d_lit (vs := [.agg #[.int .i64 _, .int .i64 _]]) (cs := [.int .i64 _, .int .i64 _]) hS Tryz.underlying51 Tryz.sizeOf117 Tryz.zeroValue117 rfl rfl rfl rfl (fun v hv => by simp only [List.mem_cons, List.not_mem_nil, or_false] at hv; subst hv; rfl) rfl) ?_
  clear hS
  rintro _ w_2 ⟨b22, rfl, hS⟩
  have hF := hS.freeze1
  clear hS
  obtain ⟨I22, hS, hI22, hb22⟩ := hF
  replace hl := hl.mono hI22
  have h22 := RFl.ofAt rgC_len [(f, t)] hb22 rfl (by show 1 ≤ maxLen; decide)
  refine qes rfl rfl (d_call Tryz.call111 rfl (sameRg_T [(f, t)] _ _ _ _ _ _ _ _ hS.imm hl h22 rfl rfl)) ?_
  rintro _ w_3 ⟨rfl, hE⟩
  replace hS := hS.callE hE
  refine qq hS (g_and rfl rfl (fun _ => rfl)) ?_
  refine qq hS (g_assignv (v := .bool _) rfl) ?_
  refine ol_nil (thenN ?_)
  refine wpIn_ret ?_
  refine ret1 Tryz.results65 (rv_tmp (v := .bool _) rfl) ?_
  exact ⟨_, rfl, hS.nil⟩

theorem ranges11_T0 (ad : Option Addr) (cap : Nat) (w0 : World) (I0 : Imm) (hI : Sat I0 w0) (hl : RRgs I0 (.slice ad 0 cap) []) :
    Ctr Tryz.prog 65 [.slice ad 0 cap, .int .i64 0, .agg #[.int .i64 0, .int .i64 0]] w0 (fun v w' => v = .bool true ∧ Ext w0 I0 w' I0) := by
  refine fn (n := 25) Tryz.func65 rfl rfl rfl ?_
  have hS := St.start hI
  refine wpIn_seq ?_
  refine reg ?_
  refine qe (d_box (cs := [.int .i64 _, .int .i64 _]) hS rfl) ?_
  clear hS
  rintro _ w_1 ⟨b5, rfl, hS⟩
  refine qq hS (g_assignv (v := .bool _) rfl) ?_
  refine ol_nil (thenN ?_)
  refine wpIn_seq ?_
  refine wpIn_seq ?_
  refine reg ?_
  refine qq hS (g_ldO 0 (vs := [.int .i64 _, .int .i64 _]) Tryz.sizeOf117 Tryz.isAgg117 rfl rfl rfl rfl) ?_
  refine qq hS (g_buildv (pl := [(0, 1), (1, 1)]) (cs := [.int .i64 _, .int .i64 _]) Tryz.zeroValue117 Tryz.underlying117 (fun w => by simp [Tryz.sizeOf3]) mp0 rfl) ?_
  refine qq hS (eqlRg (0, 0) (0, 0) rfl rfl) ?_
  refine ol_nil (thenN ?_)
  refine cond_t (rfl) ?_
  refine wpIn_seq ?_
  refine reg ?_
  refine qq hS (g_movev (v := .int .i64 _) rfl) ?_
  refine qq hS (g_eql rfl rfl) ?_
  refine qq hS (g_movev (v := .bool _) rfl) ?_
  refine qqs rfl rfl hS (g_move _) ?_
  refine qqs rfl rfl hS (g_lenS rfl Tryz.underlying51 rfl) ?_
  refine qqs rfl rfl hS (g_eql rfl rfl) ?_
  refine qq hS (g_and rfl rfl (fun _ => rfl)) ?_
  refine qq hS (g_assignv (v := .bool _) rfl) ?_
  refine ol_nil (thenN ?_)
  refine wpIn_ret ?_
  refine thenR ?_
  refine ret1 Tryz.results65 (rv_tmp (v := .bool _) rfl) ?_
  exact ⟨rfl, hS.nil⟩

set_option maxHeartbeats 1000000 in
theorem three_c (w0 : World) (I0 : Imm) (hI : Sat I0 w0) :
    Ctr Tryz.prog 63 [] w0 (fun v w' => ∃ I' a0 m0 c0 a1 m1 c1 a2 m2 c2, v = .agg #[.bool false, .int .i64 4, .int .i64 4, .slice a0 m0 c0, .bool false, .int .i64 4, .int .i64 4, .slice a1 m1 c1, .bool false, .int .i64 4, .int .i64 4, .slice a2 m2 c2] ∧ Ext w0 I0 w' I' ∧ ROps I' (.slice a0 m0 c0) ((⟨false, 4, 4, [⟨1, 0, 1, 0, []⟩, ⟨4, 0, 1, 0, [9]⟩, ⟨1, 2, 2, 0, []⟩]⟩ : PatL)).ops ∧ ROps I' (.slice a1 m1 c1) ((⟨false, 4, 4, [⟨1, 0, 3, 0, []⟩, ⟨2, 0, 1, 0, [1]⟩]⟩ : PatL)).ops ∧ ROps I' (.slice a2 m2 c2) ((⟨false, 4, 4, [⟨1, 0, 1, 0, []⟩, ⟨3, 0, 3, 9, []⟩]⟩ : PatL)).ops) := by
  refine fn (n := 21) Tryz.func63 rfl rfl rfl ?_
  have hS := St.start hI
  refine wpIn_seq ?_
  refine reg ?_
  refine qe (d_alloc (cs := [.bool _, .int .i64 _, .int .i64 _, .slice _ _ _, .bool _, .int .i64 _, .int .i64 _, .slice _ _ _, .bool _, .int .i64 _, .int .i64 _, .slice _ _ _]) hS Tryz.zeroValue112 rfl) ?_
  clear hS
  rintro _ w_1 ⟨b0, rfl, hS⟩
  refine ol_nil (thenN ?_)
  refine wpIn_seq ?_
  refine reg ?_
  refine qq hS (g_buildv (pl := [(0, 1), (1, 1), (2, 1), (3, 1), (4, 1)]) (cs := [.int .i64 _, .int .i64 _, .int .i64 _, .int .u8 _, .slice _ _ _]) Tryz.zeroValue85 Tryz.underlying85 (fun w => by simp [Tryz.sizeOf25, Tryz.sizeOf3, Tryz.sizeOf5]) (mp (v := .int .i64 _) rfl (mp (v := .int .i64 _) rfl mp0)) rfl) ?_
  refine qe (d_lit (vs := [.int .u8 _]) (cs := [.int .u8 _]) hS Tryz.underlying25 Tryz.sizeOf5 Tryz.zeroValue5 rfl rfl rfl rfl (fun v hv => by simp only [List.mem_cons, List.not_mem_nil, or_false] at hv; subst hv; rfl) rfl) ?_
  clear hS
  rintro _ w_2 ⟨b4, rfl, hS⟩
  have hF := hS.freeze1
  clear hS
  obtain ⟨I4, hS, hI4, hb4⟩ := hF
  have h4 := RFl.ofAt byteC_len ([9] : List Int) hb4 rfl (by decide)
  refine qq hS (g_buildv (pl := [(0, 1), (1, 1), (2, 1), (3, 1), (4, 1)]) (cs := [.int .i64 _, .int .i64 _, .int .i64 _, .int .u8 _, .slice _ _ _]) Tryz.zeroValue85 Tryz.underlying85 (fun w => by simp [Tryz.sizeOf25, Tryz.sizeOf3, Tryz.sizeOf5]) (mp (v := .int .i64 _) rfl (mp (v := .int .i64 _) rfl (mp rfl mp0))) rfl) ?_
  refine qq hS (g_buildv (pl := [(0, 1), (1, 1), (2, 1), (3, 1), (4, 1)]) (cs := [.int .i64 _, .int .i64 _, .int .i64 _, .int .u8 _, .slice _ _ _]) Tryz.zeroValue85 Tryz.underlying85 (fun w => by simp [Tryz.sizeOf25, Tryz.sizeOf3, Tryz.sizeOf5]) (mp (v := .int .i64 _) rfl (mp (v := .int .i64 _) rfl (mp (v := .int .i64 _) rfl mp0))) rfl) ?_
  refine qe (d_lit (vs := [.agg #[.int .i64 _, .int .i64 _, .int .i64 _, .int .u8 _, .slice _ _ _], .agg #[.int .i64 _, .int .i64 _, .int .i64 _, .int .u8 _, .slice _ _ _], .agg #[.int .i64 _, .int .i64 _, .int .i64 _, .int .u8 _, .slice _ _ _]]) (cs := [.int .i64 _, .int .i64 _, .int .i64 _, .int .u8 _, .slice _ _ _, .int .i64 _, .int .i64 _, .int .i64 _, .int .u8 _, .slice _ _ _, .int .i64 _, .int .i64 _, .int .i64 _, .int .u8 _, .slice _ _ _]) hS Tryz.underlying27 Tryz.sizeOf85 Tryz.zeroValue85 rfl rfl rfl rfl (fun v hv => by simp only [List.mem_cons, List.not_mem_nil, or_false] at hv; rcases hv with rfl | rfl | rfl <;> rfl) rfl) ?_
  clear hS
  rintro _ w_3 ⟨b7, rfl, hS⟩
  have hF := hS.freeze1
  clear hS
  obtain ⟨I7, hS, hI7, hb7⟩ := hF
  replace h4 := h4.mono hI7
  have h7 : ROps _ (.slice (some ⟨b7, 0, none⟩) 3 3) [⟨1, 0, 1, 0, []⟩, ⟨4, 0, 1, 0, [9]⟩, ⟨1, 2, 2, 0, []⟩] := RSl.ofAt (css := [[.int .i64 1, .int .i64 0, .int .i64 1, .int .u8 0, .slice none 0 0], [.int .i64 4, .int .i64 0, .int .i64 1, .int .u8 0, .slice (some ⟨b4, 0, none⟩) 1 1], [.int .i64 1, .int .i64 2, .int .i64 2, .int .u8 0, .slice none 0 0]]) hb7 rfl (by simp) (All2.cons ⟨_, _, _, rfl, RFl.nil⟩ (All2.cons ⟨_, _, _, rfl, h4⟩ (All2.cons ⟨_, _, _, rfl, RFl.nil⟩ (All2.nil _)))) rfl (by decide)
  refine qq hS (g_buildv (pl := [(0, 1), (1, 1), (2, 1), (3, 1)]) (cs := [.bool _, .int .i64 _, .int .i64 _, .slice _ _ _]) Tryz.zeroValue29 Tryz.underlying29 (fun w => by simp [Tryz.sizeOf27, Tryz.sizeOf3, Tryz.sizeOf4]) (mp (v := .int .i64 _) rfl (mp (v := .int .i64 _) rfl (mp rfl mp0))) rfl) ?_
  refine qe (d_alloc (cs := [.bool _, .int .i64 _, .int .i64 _, .slice _ _ _]) hS Tryz.zeroValue29 rfl) ?_
  clear hS
  rintro _ w_4 ⟨b1, rfl, hS⟩
  refine qe (d_store 0 hS Tryz.sizeOf29 rfl rfl rfl (vs := [.bool _, .int .i64 _, .int .i64 _, .slice _ _ _]) rfl rfl rfl (Nat.le_of_ble_eq_true rfl) (cs' := [_, _, _, _]) rfl) ?_
  clear hS
  rintro _ w_5 ⟨rfl, hS⟩
  refine ol_nil (thenN ?_)
  refine wpIn_seq ?_
  refine reg ?_
  refine qq hS (g_buildv (pl := [(0, 1), (1, 1), (2, 1), (3, 1), (4, 1)]) (cs := [.int .i64 _, .int .i64 _, .int .i64 _, .int .u8 _, .slice _ _ _]) Tryz.zeroValue85 Tryz.underlying85 (fun w => by simp [Tryz.sizeOf25, Tryz.sizeOf3, Tryz.sizeOf5]) (mp (v := .int .i64 _) rfl (mp (v := .int .i64 _) rfl mp0)) rfl) ?_
  refine qe (d_lit (vs := [.int .u8 _]) (cs := [.int .u8 _]) hS Tryz.underlying25 Tryz.sizeOf5 Tryz.zeroValue5 rfl rfl rfl rfl (fun v hv => by simp only [List.mem_cons, List.not_mem_nil, or_false] at hv; subst hv; rfl) rfl) ?_
  clear hS
  rintro _ w_6 ⟨b10, rfl, hS⟩
  have hF := hS.freeze1
  clear hS
  obtain ⟨I10, hS, hI10, hb10⟩ := hF
  replace h4 := h4.mono hI10
  replace h7 := h7.mono hI10
  have h10 := RFl.ofAt byteC_len ([1] : List Int) hb10 rfl (by decide)
  refine qq hS (g_buildv (pl := [(0, 1), (1, 1), (2, 1), (3, 1), (4, 1)]) (cs := [.int .i64 _, .int .i64 _, .int .i64 _, .int .u8 _, .slice _ _ _]) Tryz.zeroValue85 Tryz.underlying85 (fun w => by simp [Tryz.sizeOf25, Tryz.sizeOf3, Tryz.sizeOf5]) (mp (v := .int .i64 _) rfl (mp (v := .int .i64 _) rfl (mp rfl mp0))) rfl) ?_
  refine qe (d_lit (vs := [.agg #[.int .i64 _, .int .i64 _, .int .i64 _, .int .u8 _, .slice _ _ _], .agg #[.int .i64 _, .int .i64 _, .int .i64 _, .int .u8 _, .slice _ _ _]]) (cs := [.int .i64 _, .int .i64 _, .int .i64 _, .int .u8 _, .slice _ _ _, .int .i64 _, .int .i64 _, .int .i64 _, .int .u8 _, .slice _ _ _]) hS Tryz.underlying27 Tryz.sizeOf85 Tryz.zeroValue85 rfl rfl rfl rfl (fun v hv => by simp only [List.mem_cons, List.not_mem_nil, or_false] at hv; rcases hv with rfl | rfl <;> rfl) rfl) ?_
  clear hS
  rintro _ w_7 ⟨b12, rfl, hS⟩
  have hF := hS.freeze1
  clear hS
  obtain ⟨I12, hS, hI12, hb12⟩ := hF
  replace h4 := h4.mono hI12
  replace h7 := h7.mono hI12
  replace h10 := h10.mono hI12
  have h12 : ROps _ (.slice (some ⟨b12, 0, none⟩) 2 2) [⟨1, 0, 3, 0, []⟩, ⟨2, 0, 1, 0, [1]⟩] := RSl.ofAt (css := [[.int .i64 1, .int .i64 0, .int .i64 3, .int .u8 0, .slice none 0 0], [.int .i64 2, .int .i64 0, .int .i64 1, .int .u8 0, .slice (some ⟨b10, 0, none⟩) 1 1]]) hb12 rfl (by simp) (All2.cons ⟨_, _, _, rfl, RFl.nil⟩ (All2.cons ⟨_, _, _, rfl, h10⟩ (All2.nil _))) rfl (by decide)
  refine qq hS (g_buildv (pl := [(0, 1), (1, 1), (2, 1), (3, 1)]) (cs := [.bool _, .int .i64 _, .int .i64 _, .slice _ _ _]) Tryz.zeroValue29 Tryz.underlying29 (fun w => by simp [Tryz.sizeOf27, Tryz.sizeOf3, Tryz.sizeOf4]) (mp (v := .int .i64 _) rfl (mp (v := .int .i64 _) rfl (mp rfl mp0))) rfl) ?_
  refine qe (d_alloc (cs := [.bool _, .int .i64 _, .int .i64 _, .slice _ _ _]) hS Tryz.zeroValue29 rfl) ?_
  clear hS
  rintro _ w_8 ⟨b2, rfl, hS⟩
  refine qe (d_store 0 hS Tryz.sizeOf29 rfl rfl rfl (vs := [.bool _, .int .i64 _, .int .i64 _, .slice _ _ _]) rfl rfl rfl (Nat.le_of_ble_eq_true rfl) (cs' := [_, _, _, _]) rfl) ?_
  clear hS
  rintro _ w_9 ⟨rfl, hS⟩
  refine ol_nil (thenN ?_)
  refine wpIn_seq ?_
  refine reg ?_
  refine qq hS (g_ldO 1 (vs := [.bool _, .int .i64 _, .int .i64 _, .slice _ _ _]) Tryz.sizeOf29 Tryz.isAgg29 rfl rfl rfl rfl) ?_
  refine qq hS (g_ldO 0 (vs := [.bool _, .int .i64 _, .int .i64 _, .slice _ _ _]) Tryz.sizeOf29 Tryz.isAgg29 rfl rfl rfl rfl) ?_
  refine qq hS (g_buildv (pl := [(0, 1), (1, 1), (2, 1), (3, 1), (4, 1)]) (cs := [.int .i64 _, .int .i64 _, .int .i64 _, .int .u8 _, .slice _ _ _]) Tryz.zeroValue85 Tryz.underlying85 (fun w => by simp [Tryz.sizeOf25, Tryz.sizeOf3, Tryz.sizeOf5]) (mp (v := .int .i64 _) rfl (mp (v := .int .i64 _) rfl mp0)) rfl) ?_
  refine qq hS (g_buildv (pl := [(0, 1), (1, 1), (2, 1), (3, 1), (4, 1)]) (cs := [.int .i64 _, .int .i64 _, .int .i64 _, .int .u8 _, .slice _ _ _]) Tryz.zeroValue85 Tryz.underlying85 (fun w => by simp [Tryz.sizeOf25, Tryz.sizeOf3, Tryz.sizeOf5]) (mp (v := .int .i64 _) rfl (mp (v := .int .i64 _) rfl (mp (v := .int .u8 _) rfl mp0))) rfl) ?_
  refine qe (d_lit (vs := [.agg #[.int .i64 _, .int .i64 _, .int .i64 _, .int .u8 _, .slice _ _ _], .agg #[.int .i64 _, .int .i64 _, .int .i64 _, .int .u8 _, .slice _ _ _]]) (cs := [.int .i64 _, .int .i64 _, .int .i64 _, .int .u8 _, .slice _ _ _, .int .i64 _, .int .i64 _, .int .i64 _, .int .u8 _, .slice _ _ _]) hS Tryz.underlying27 Tryz.sizeOf85 Tryz.zeroValue85 rfl rfl rfl rfl (fun v hv => by simp only [List.mem_cons, List.not_mem_nil, or_false] at hv; rcases hv with rfl | rfl <;> rfl) rfl) ?_
  clear hS
  rintro _ w_10 ⟨b18, rfl, hS⟩
  have hF := hS.freeze1
  clear hS
  obtain ⟨I18, hS, hI18, hb18⟩ := hF
  replace h4 := h4.mono hI18
  replace h7 := h7.mono hI18
  replace h10 := h10.mono hI18
  replace h12 := h12.mono hI18
  have h18 : ROps _ (.slice (some ⟨b18, 0, none⟩) 2 2) [⟨1, 0, 1, 0, []⟩, ⟨3, 0, 3, 9, []⟩] := RSl.ofAt (css := [[.int .i64 1, .int .i64 0, .int .i64 1, .int .u8 0, .slice none 0 0], [.int .i64 3, .int .i64 0, .int .i64 3, .int .u8 9, .slice none 0 0]]) hb18 rfl (by simp) (All2.cons ⟨_, _, _, rfl, RFl.nil⟩ (All2.cons ⟨_, _, _, rfl, RFl.nil⟩ (All2.nil _))) rfl (by decide)
  refine qq hS (g_buildv (pl := [(0, 1), (1, 1), (2, 1), (3, 1)]) (cs := [.bool _, .int .i64 _, .int .i64 _, .slice _ _ _]) Tryz.zeroValue29 Tryz.underlying29 (fun w => by simp [Tryz.sizeOf27, Tryz.sizeOf3, Tryz.sizeOf4]) (mp (v := .int .i64 _) rfl (mp (v := .int .i64 _) rfl (mp rfl mp0))) rfl) ?_
  refine qq hS (g_buildA (cs := [.bool _, .int .i64 _, .int .i64 _, .slice _ _ _, .bool _, .int .i64 _, .int .i64 _, .slice _ _ _, .bool _, .int .i64 _, .int .i64 _, .slice _ _ _]) Tryz.zeroValue112 Tryz.underlying112 Tryz.sizeOf29 (mp (v := .agg #[.bool _, .int .i64 _, .int .i64 _, .slice _ _ _]) rfl (mp (v := .agg #[.bool _, .int .i64 _, .int .i64 _, .slice _ _ _]) rfl (mp (v := .agg #[.bool _, .int .i64 _, .int .i64 _, .slice _ _ _]) rfl mp0))) (fill_three (fun i => (([.bool false, .int .i64 0, .int .i64 0, .slice none 0 0, .bool false, .int .i64 0, .int .i64 0, .slice none 0 0, .bool false, .int .i64 0, .int .i64 0, .slice none 0 0] : List Value)[i]?).getD undef) _ _ _ _ _ _ _ _ _ _ _ _)) ?_
  refine qe (d_store 2 hS Tryz.sizeOf112 rfl rfl rfl (vs := [.bool _, .int .i64 _, .int .i64 _, .slice _ _ _, .bool _, .int .i64 _, .int .i64 _, .slice _ _ _, .bool _, .int .i64 _, .int .i64 _, .slice _ _ _]) rfl rfl rfl (Nat.le_of_ble_eq_true rfl) (cs' := [_, _, _, _, _, _, _, _, _, _, _, _]) rfl) ?_
  clear hS
  rintro _ w_11 ⟨rfl, hS⟩
  refine ol_nil (thenN ?_)
  refine wpIn_ret ?_
  refine ret1 Tryz.results63 (rv_cel 2 hS Tryz.sizeOf112 Tryz.isAgg112 rfl rfl rfl) ?_
  exact ⟨_, _, _, _, _, _, _, _, _, _, rfl, hS.nil, h7, h12, h18⟩

set_option maxRecDepth 20000 in
set_option maxHeartbeats 4000000 in
theorem sanity11_c (w0 : World) (I0 : Imm) (hI : Sat I0 w0) :
    Ctr Tryz.prog 24 [] w0 (fun v w' => ∃ I', v = .bool true ∧ Ext w0 I0 w' I') := by
  refine fn (n := 154) Tryz.func24 rfl rfl rfl ?_
  have hS := St.start hI
  refine wpIn_seq ?_
  refine reg ?_
  refine qq hS (g_assignv (v := .bool _) rfl) ?_
  refine ol_nil (thenN ?_)
  refine wpIn_seq ?_
  refine reg ?_
  refine qe (d_call Tryz.call63 rfl (three_c _ _ hS.imm)) ?_
  rintro _ w_1 ⟨I_f, a0, m0, c0, a1, m1, c1, a2, m2, c2, rfl, hE, hx0, hx1, hx2⟩
  replace hS := hS.callE hE
  refine qe (d_alloc (cs := [.bool _, .int .i64 _, .int .i64 _, .slice _ _ _, .bool _, .int .i64 _, .int .i64 _, .slice _ _ _, .bool _, .int .i64 _, .int .i64 _, .slice _ _ _]) hS Tryz.zeroValue112 rfl) ?_
  clear hS
  rintro _ w_2 ⟨b1, rfl, hS⟩
  refine qe (d_store 0 hS Tryz.sizeOf112 rfl rfl rfl (vs := [.bool _, .int .i64 _, .int .i64 _, .slice _ _ _, .bool _, .int .i64 _, .int .i64 _, .slice _ _ _, .bool _, .int .i64 _, .int .i64 _, .slice _ _ _]) rfl rfl rfl (Nat.le_of_ble_eq_true rfl) (cs' := [_, _, _, _, _, _, _, _, _, _, _, _]) rfl) ?_
  clear hS
  rintro _ w_3 ⟨rfl, hS⟩
  refine ol_nil (thenN ?_)
  refine wpIn_seq ?_
  refine reg ?_
  refine qq hS (g_indexArr (o' := 0) Tryz.underlying112 Tryz.sizeOf29 rfl rfl (by decide) (by decide) rfl) ?_
  refine qq hS (g_ldO 0 (vs := [.bool _, .int .i64 _, .int .i64 _, .slice _ _ _]) Tryz.sizeOf29 Tryz.isAgg29 rfl rfl rfl rfl) ?_
  refine qe (d_call Tryz.call26 rfl (touched_L (⟨false, 4, 4, [⟨1, 0, 1, 0, []⟩, ⟨4, 0, 1, 0, [9]⟩, ⟨1, 2, 2, 0, []⟩]⟩ : PatL) [(1, 2)] 0 1 _ _ _ _ _ hS.imm (okPat_s (by kernel_rfl)) hx0 (by kernel_rfl) rfl)) ?_
  rintro _ w_4 ⟨I_f, a24, c24, rfl, hE, h24⟩
  replace hS := hS.callE hE
  replace hx0 := hx0.mono hE.ext
  replace hx1 := hx1.mono hE.ext
  replace hx2 := hx2.mono hE.ext
  refine qq hS (g_move _) ?_
  refine qq hS (g_extract rfl rfl) ?_
  refine qq hS (g_extract (v := .int .i64 _) rfl rfl) ?_
  refine qq hS (g_assign _) ?_
  refine qq hS (g_assignv (v := .int .i64 _) rfl) ?_
  refine ol_nil (thenN ?_)
  refine wpIn_seq ?_
  refine reg ?_
  refine qq hS (g_indexArr (o' := 8) Tryz.underlying112 Tryz.sizeOf29 rfl rfl (by decide) (by decide) rfl) ?_
  refine qq hS (g_ldO 0 (vs := [.bool _, .int .i64 _, .int .i64 _, .slice _ _ _]) Tryz.sizeOf29 Tryz.isAgg29 rfl rfl rfl rfl) ?_
  refine qe (d_call Tryz.call26 rfl (touched_L (⟨false, 4, 4, [⟨1, 0, 1, 0, []⟩, ⟨3, 0, 3, 9, []⟩]⟩ : PatL) [(1, 4)] 0 1 _ _ _ _ _ hS.imm (okPat_s (by kernel_rfl)) hx2 (by kernel_rfl) rfl)) ?_
  rintro _ w_5 ⟨I_f, a30, c30, rfl, hE, h30⟩
  replace hS := hS.callE hE
  replace hx0 := hx0.mono hE.ext
  replace hx1 := hx1.mono hE.ext
  replace hx2 := hx2.mono hE.ext
  replace h24 := h24.mono hE.ext
  refine qq hS (g_move _) ?_
  refine qq hS (g_extract rfl rfl) ?_
  refine qq hS (g_extract (v := .int .i64 _) rfl rfl) ?_
  refine qq hS (g_assign _) ?_
  refine qq hS (g_assignv (v := .int .i64 _) rfl) ?_
  refine ol_nil (thenN ?_)
  refine wpIn_seq ?_
  refine reg ?_
  refine qq hS (g_indexArr (o' := 4) Tryz.underlying112 Tryz.sizeOf29 rfl rfl (by decide) (by decide) rfl) ?_
  refine qq hS (g_ldO 0 (vs := [.bool _, .int .i64 _, .int .i64 _, .slice _ _ _]) Tryz.sizeOf29 Tryz.isAgg29 rfl rfl rfl rfl) ?_
  refine qe (d_call Tryz.call27 rfl (read_L (⟨false, 4, 4, [⟨1, 0, 3, 0, []⟩, ⟨2, 0, 1, 0, [1]⟩]⟩ : PatL) [(0, 1)] 0 1 _ _ _ _ _ hS.imm (okPat_s (by kernel_rfl)) hx1 (by kernel_rfl) rfl)) ?_
  rintro _ w_6 ⟨I_f, a36, c36, rfl, hE, h36⟩
  replace hS := hS.callE hE
  replace hx0 := hx0.mono hE.ext
  replace hx1 := hx1.mono hE.ext
  replace hx2 := hx2.mono hE.ext
  replace h24 := h24.mono hE.ext
  replace h30 := h30.mono hE.ext
  refine qq hS (g_move _) ?_
  refine qq hS (g_extract rfl rfl) ?_
  refine qq hS (g_extract (v := .int .i64 _) rfl rfl) ?_
  refine qq hS (g_assign _) ?_
  refine qq hS (g_assignv (v := .int .i64 _) rfl) ?_
  refine ol_nil (thenN ?_)
  refine wpIn_seq ?_
  refine reg ?_
  refine qq hS (g_indexArr (o' := 0) Tryz.underlying112 Tryz.sizeOf29 rfl rfl (by decide) (by decide) rfl) ?_
  refine qq hS (g_ldO 0 (vs := [.bool _, .int .i64 _, .int .i64 _, .slice _ _ _]) Tryz.sizeOf29 Tryz.isAgg29 rfl rfl rfl rfl) ?_
  refine qq hS (g_indexArr (o' := 8) Tryz.underlying112 Tryz.sizeOf29 rfl rfl (by decide) (by decide) rfl) ?_
  refine qq hS (g_ldO 0 (vs := [.bool _, .int .i64 _, .int .i64 _, .slice _ _ _]) Tryz.sizeOf29 Tryz.isAgg29 rfl rfl rfl rfl) ?_
  refine qe (d_call Tryz.call64 rfl (clashes_L (⟨false, 4, 4, [⟨1, 0, 1, 0, []⟩, ⟨4, 0, 1, 0, [9]⟩, ⟨1, 2, 2, 0, []⟩]⟩ : PatL) (⟨false, 4, 4, [⟨1, 0, 1, 0, []⟩, ⟨3, 0, 3, 9, []⟩]⟩ : PatL) [] 0 0 _ _ _ _ _ _ _ _ hS.imm (okPat_s (by kernel_rfl)) hx0 (okPat_s (by kernel_rfl)) hx2 (by kernel_rfl) rfl)) ?_
  rintro _ w_7 ⟨I_f, a44, c44, rfl, hE, h44⟩
  replace hS := hS.callE hE
  replace hx0 := hx0.mono hE.ext
  replace hx1 := hx1.mono hE.ext
  replace hx2 := hx2.mono hE.ext
  replace h24 := h24.mono hE.ext
  replace h30 := h30.mono hE.ext
  replace h36 := h36.mono hE.ext
  refine qq hS (g_move _) ?_
  refine qq hS (g_extract rfl rfl) ?_
  refine qq hS (g_extract (v := .int .i64 _) rfl rfl) ?_
  refine qq hS (g_assign _) ?_
  refine qq hS (g_assignv (v := .int .i64 _) rfl) ?_
  refine ol_nil (thenN ?_)
  refine wpIn_seq ?_
  refine reg ?_
  refine qq hS (g_indexArr (o' := 4) Tryz.underlying112 Tryz.sizeOf29 rfl rfl (by decide) (by decide) rfl) ?_
  refine qq hS (g_ldO 0 (vs := [.bool _, .int .i64 _, .int .i64 _, .slice _ _ _]) Tryz.sizeOf29 Tryz.isAgg29 rfl rfl rfl rfl) ?_
  refine qq hS (g_indexArr (o' := 8) Tryz.underlying112 Tryz.sizeOf29 rfl rfl (by decide) (by decide) rfl) ?_
  refine qq hS (g_ldO 0 (vs := [.bool _, .int .i64 _, .int .i64 _, .slice _ _ _]) Tryz.sizeOf29 Tryz.isAgg29 rfl rfl rfl rfl) ?_
  refine qe (d_call Tryz.call64 rfl (clashes_L (⟨false, 4, 4, [⟨1, 0, 3, 0, []⟩, ⟨2, 0, 1, 0, [1]⟩]⟩ : PatL) (⟨false, 4, 4, [⟨1, 0, 1, 0, []⟩, ⟨3, 0, 3, 9, []⟩]⟩ : PatL) [(3, 4)] 0 1 _ _ _ _ _ _ _ _ hS.imm (okPat_s (by kernel_rfl)) hx1 (okPat_s (by kernel_rfl)) hx2 (by kernel_rfl) rfl)) ?_
  rintro _ w_8 ⟨I_f, a52, c52, rfl, hE, h52⟩
  replace hS := hS.callE hE
  replace hx0 := hx0.mono hE.ext
  replace hx1 := hx1.mono hE.ext
  replace hx2 := hx2.mono hE.ext
  replace h24 := h24.mono hE.ext
  replace h30 := h30.mono hE.ext
  replace h36 := h36.mono hE.ext
  replace h44 := h44.mono hE.ext
  refine qq hS (g_move _) ?_
  refine qq hS (g_extract rfl rfl) ?_
  refine qq hS (g_extract (v := .int .i64 _) rfl rfl) ?_
  refine qq hS (g_assign _) ?_
  refine qq hS (g_assignv (v := .int .i64 _) rfl) ?_
  refine ol_nil (thenN ?_)
  refine wpIn_seq ?_
  refine reg ?_
  refine qq hS (g_indexArr (o' := 0) Tryz.underlying112 Tryz.sizeOf29 rfl rfl (by decide) (by decide) rfl) ?_
  refine qq hS (g_ldO 0 (vs := [.bool _, .int .i64 _, .int .i64 _, .slice _ _ _]) Tryz.sizeOf29 Tryz.isAgg29 rfl rfl rfl rfl) ?_
  refine qq hS (g_indexArr (o' := 4) Tryz.underlying112 Tryz.sizeOf29 rfl rfl (by decide) (by decide) rfl) ?_
  refine qq hS (g_ldO 0 (vs := [.bool _, .int .i64 _, .int .i64 _, .slice _ _ _]) Tryz.sizeOf29 Tryz.isAgg29 rfl rfl rfl rfl) ?_
  refine qe (d_call Tryz.call31 rfl (merge_L (⟨false, 4, 4, [⟨1, 0, 1, 0, []⟩, ⟨4, 0, 1, 0, [9]⟩, ⟨1, 2, 2, 0, []⟩]⟩ : PatL) (⟨false, 4, 4, [⟨1, 0, 3, 0, []⟩, ⟨2, 0, 1, 0, [1]⟩]⟩ : PatL) (⟨false, 4, 4, [⟨1, 0, 1, 0, []⟩, ⟨4, 0, 1, 0, [9]⟩, ⟨1, 2, 1, 0, []⟩, ⟨2, 0, 1, 0, [1]⟩]⟩ : PatL) 0 _ _ _ _ _ _ _ _ hS.imm (okPat_s (by kernel_rfl)) hx0 (okPat_s (by kernel_rfl)) hx1 (by kernel_rfl))) ?_
  rintro _ w_9 ⟨I_f, a60, m60, c60, rfl, hE, h60⟩
  replace hS := hS.callE hE
  replace hx0 := hx0.mono hE.ext
  replace hx1 := hx1.mono hE.ext
  replace hx2 := hx2.mono hE.ext
  replace h24 := h24.mono hE.ext
  replace h30 := h30.mono hE.ext
  replace h36 := h36.mono hE.ext
  replace h44 := h44.mono hE.ext
  replace h52 := h52.mono hE.ext
  refine qq hS (g_move _) ?_
  refine qq hS (g_extract rfl rfl) ?_
  refine qq hS (g_extract (v := .int .i64 _) rfl rfl) ?_
  refine qe (d_alloc (cs := [.bool _, .int .i64 _, .int .i64 _, .slice _ _ _]) hS Tryz.zeroValue29 rfl) ?_
  clear hS
  rintro _ w_10 ⟨b12, rfl, hS⟩
  refine qe (d_store 0 hS Tryz.sizeOf29 rfl rfl rfl (vs := [.bool _, .int .i64 _, .int .i64 _, .slice _ _ _]) rfl rfl rfl (Nat.le_of_ble_eq_true rfl) (cs' := [_, _, _, _]) rfl) ?_
  clear hS
  rintro _ w_11 ⟨rfl, hS⟩
  refine qq hS (g_assignv (v := .int .i64 _) rfl) ?_
  refine ol_nil (thenN ?_)
  refine wpIn_seq ?_
  refine reg ?_
  refine qq hS (g_indexArr (o' := 0) Tryz.underlying112 Tryz.sizeOf29 rfl rfl (by decide) (by decide) rfl) ?_
  refine qq hS (g_ldO 1 (vs := [.bool _, .int .i64 _, .int .i64 _, .slice _ _ _]) Tryz.sizeOf29 Tryz.isAgg29 rfl rfl rfl rfl) ?_
  refine qq hS (g_buildv (pl := [(0, 1), (1, 1), (2, 1), (3, 1)]) (cs := [.bool _, .int .i64 _, .int .i64 _, .slice _ _ _]) Tryz.zeroValue29 Tryz.underlying29 (fun w => by simp [Tryz.sizeOf27, Tryz.sizeOf3, Tryz.sizeOf4]) mp0 rfl) ?_
  refine qe (d_call Tryz.call31 rfl (merge_L (⟨false, 4, 4, [⟨1, 0, 1, 0, []⟩, ⟨4, 0, 1, 0, [9]⟩, ⟨1, 2, 2, 0, []⟩]⟩ : PatL) PatL.zero PatL.zero 61 _ _ _ none 0 0 _ _ hS.imm (okPat_s (by kernel_rfl)) hx0 zero_wf RSl.nilR (by kernel_rfl))) ?_
  rintro _ w_12 ⟨I_f, a67, m67, c67, rfl, hE, h67⟩
  replace hS := hS.callE hE
  replace hx0 := hx0.mono hE.ext
  replace hx1 := hx1.mono hE.ext
  replace hx2 := hx2.mono hE.ext
  replace h24 := h24.mono hE.ext
  replace h30 := h30.mono hE.ext
  replace h36 := h36.mono hE.ext
  replace h44 := h44.mono hE.ext
  replace h52 := h52.mono hE.ext
  replace h60 := h60.mono hE.ext
  refine qq hS (g_move _) ?_
  refine qq hS (g_extract rfl rfl) ?_
  refine qq hS (g_extract (v := .int .i64 _) rfl rfl) ?_
  refine qe (d_alloc (cs := [.bool _, .int .i64 _, .int .i64 _, .slice _ _ _]) hS Tryz.zeroValue29 rfl) ?_
  clear hS
  rintro _ w_13 ⟨b14, rfl, hS⟩
  refine qe (d_store 0 hS Tryz.sizeOf29 rfl rfl rfl (vs := [.bool _, .int .i64 _, .int .i64 _, .slice _ _ _]) rfl rfl rfl (Nat.le_of_ble_eq_true rfl) (cs' := [_, _, _, _]) rfl) ?_
  clear hS
  rintro _ w_14 ⟨rfl, hS⟩
  refine qq hS (g_assignv (v := .int .i64 _) rfl) ?_
  refine ol_nil (thenN ?_)
  refine wpIn_seq ?_
  refine reg ?_
  refine qq hS (g_indexArr (o' := 4) Tryz.underlying112 Tryz.sizeOf29 rfl rfl (by decide) (by decide) rfl) ?_
  refine qq hS (g_ldO 2 (vs := [.bool _, .int .i64 _, .int .i64 _, .slice _ _ _]) Tryz.sizeOf29 Tryz.isAgg29 rfl rfl rfl rfl) ?_
  refine qq hS (g_indexArr (o' := 8) Tryz.underlying112 Tryz.sizeOf29 rfl rfl (by decide) (by decide) rfl) ?_
  refine qq hS (g_ldO 2 (vs := [.bool _, .int .i64 _, .int .i64 _, .slice _ _ _]) Tryz.sizeOf29 Tryz.isAgg29 rfl rfl rfl rfl) ?_
  refine qe (d_call Tryz.call31 rfl (merge_L (⟨false, 4, 4, [⟨1, 0, 3, 0, []⟩, ⟨2, 0, 1, 0, [1]⟩]⟩ : PatL) (⟨false, 4, 4, [⟨1, 0, 1, 0, []⟩, ⟨3, 0, 3, 9, []⟩]⟩ : PatL) PatL.zero 110 _ _ _ _ _ _ _ _ hS.imm (okPat_s (by kernel_rfl)) hx1 (okPat_s (by kernel_rfl)) hx2 (by kernel_rfl))) ?_
  rintro _ w_15 ⟨I_f, a75, m75, c75, rfl, hE, h75⟩
  replace hS := hS.callE hE
  replace hx0 := hx0.mono hE.ext
  replace hx1 := hx1.mono hE.ext
  replace hx2 := hx2.mono hE.ext
  replace h24 := h24.mono hE.ext
  replace h30 := h30.mono hE.ext
  replace h36 := h36.mono hE.ext
  replace h44 := h44.mono hE.ext
  replace h52 := h52.mono hE.ext
  replace h60 := h60.mono hE.ext
  replace h67 := h67.mono hE.ext
  refine qq hS (g_move _) ?_
  refine qq hS (g_extract rfl rfl) ?_
  refine qq hS (g_extract (v := .int .i64 _) rfl rfl) ?_
  refine qe (d_alloc (cs := [.bool _, .int .i64 _, .int .i64 _, .slice _ _ _]) hS Tryz.zeroValue29 rfl) ?_
  clear hS
  rintro _ w_16 ⟨b16, rfl, hS⟩
  refine qe (d_store 0 hS Tryz.sizeOf29 rfl rfl rfl (vs := [.bool _, .int .i64 _, .int .i64 _, .slice _ _ _]) rfl rfl rfl (Nat.le_of_ble_eq_true rfl) (cs' := [_, _, _, _]) rfl) ?_
  clear hS
  rintro _ w_17 ⟨rfl, hS⟩
  refine qq hS (g_assignv (v := .int .i64 _) rfl) ?_
  refine ol_nil (thenN ?_)
  refine wpIn_seq ?_
  refine reg ?_
  refine qq hS (g_buildv (pl := [(0, 1), (1, 1), (2, 1), (3, 1), (4, 1)]) (cs := [.int .i64 _, .int .i64 _, .int .i64 _, .int .u8 _, .slice _ _ _]) Tryz.zeroValue85 Tryz.underlying85 (fun w => by simp [Tryz.sizeOf25, Tryz.sizeOf3, Tryz.sizeOf5]) (mp (v := .int .i64 _) rfl (mp (v := .int .i64 _) rfl mp0)) rfl) ?_
  refine qe (d_lit (vs := [.int .u8 _]) (cs := [.int .u8 _]) hS Tryz.underlying25 Tryz.sizeOf5 Tryz.zeroValue5 rfl rfl rfl rfl (fun v hv => by simp only [List.mem_cons, List.not_mem_nil, or_false] at hv; subst hv; rfl) rfl) ?_
  clear hS
  rintro _ w_18 ⟨b79, rfl, hS⟩
  have hF := hS.freeze1
  clear hS
  obtain ⟨I79, hS, hI79, hb79⟩ := hF
  replace hx0 := hx0.mono hI79
  replace hx1 := hx1.mono hI79
  replace hx2 := hx2.mono hI79
  replace h24 := h24.mono hI79
  replace h30 := h30.mono hI79
  replace h36 := h36.mono hI79
  replace h44 := h44.mono hI79
  replace h52 := h52.mono hI79
  replace h60 := h60.mono hI79
  replace h67 := h67.mono hI79
  replace h75 := h75.mono hI79
  have h79 := RFl.ofAt byteC_len ([9] : List Int) hb79 rfl (by decide)
  refine qq hS (g_buildv (pl := [(0, 1), (1, 1), (2, 1), (3, 1), (4, 1)]) (cs := [.int .i64 _, .int .i64 _, .int .i64 _, .int .u8 _, .slice _ _ _]) Tryz.zeroValue85 Tryz.underlying85 (fun w => by simp [Tryz.sizeOf25, Tryz.sizeOf3, Tryz.sizeOf5]) (mp (v := .int .i64 _) rfl (mp (v := .int .i64 _) rfl (mp rfl mp0))) rfl) ?_
  refine qq hS (g_buildv (pl := [(0, 1), (1, 1), (2, 1), (3, 1), (4, 1)]) (cs := [.int .i64 _, .int .i64 _, .int .i64 _, .int .u8 _, .slice _ _ _]) Tryz.zeroValue85 Tryz.underlying85 (fun w => by simp [Tryz.sizeOf25, Tryz.sizeOf3, Tryz.sizeOf5]) (mp (v := .int .i64 _) rfl (mp (v := .int .i64 _) rfl (mp (v := .int .i64 _) rfl mp0))) rfl) ?_
  refine qe (d_lit (vs := [.int .u8 _]) (cs := [.int .u8 _]) hS Tryz.underlying25 Tryz.sizeOf5 Tryz.zeroValue5 rfl rfl rfl rfl (fun v hv => by simp only [List.mem_cons, List.not_mem_nil, or_false] at hv; subst hv; rfl) rfl) ?_
  clear hS
  rintro _ w_19 ⟨b82, rfl, hS⟩
  have hF := hS.freeze1
  clear hS
  obtain ⟨I82, hS, hI82, hb82⟩ := hF
  replace hx0 := hx0.mono hI82
  replace hx1 := hx1.mono hI82
  replace hx2 := hx2.mono hI82
  replace h24 := h24.mono hI82
  replace h30 := h30.mono hI82
  replace h36 := h36.mono hI82
  replace h44 := h44.mono hI82
  replace h52 := h52.mono hI82
  replace h60 := h60.mono hI82
  replace h67 := h67.mono hI82
  replace h75 := h75.mono hI82
  replace h79 := h79.mono hI82
  have h82 := RFl.ofAt byteC_len ([1] : List Int) hb82 rfl (by decide)
  refine qq hS (g_buildv (pl := [(0, 1), (1, 1), (2, 1), (3, 1), (4, 1)]) (cs := [.int .i64 _, .int .i64 _, .int .i64 _, .int .u8 _, .slice _ _ _]) Tryz.zeroValue85 Tryz.underlying85 (fun w => by simp [Tryz.sizeOf25, Tryz.sizeOf3, Tryz.sizeOf5]) (mp (v := .int .i64 _) rfl (mp (v := .int .i64 _) rfl (mp rfl mp0))) rfl) ?_
  refine qe (d_lit (vs := [.agg #[.int .i64 _, .int .i64 _, .int .i64 _, .int .u8 _, .slice _ _ _], .agg #[.int .i64 _, .int .i64 _, .int .i64 _, .int .u8 _, .slice _ _ _], .agg #[.int .i64 _, .int .i64 _, .int .i64 _, .int .u8 _, .slice _ _ _], .agg #[.int .i64 _, .int .i64 _, .int .i64 _, .int .u8 _, .slice _ _ _]]) (cs := [.int .i64 _, .int .i64 _, .int .i64 _, .int .u8 _, .slice _ _ _, .int .i64 _, .int .i64 _, .int .i64 _, .int .u8 _, .slice _ _ _, .int .i64 _, .int .i64 _, .int .i64 _, .int .u8 _, .slice _ _ _, .int .i64 _, .int .i64 _, .int .i64 _, .int .u8 _, .slice _ _ _]) hS Tryz.underlying27 Tryz.sizeOf85 Tryz.zeroValue85 rfl rfl rfl rfl (fun v hv => by simp only [List.mem_cons, List.not_mem_nil, or_false] at hv; rcases hv with rfl | rfl | rfl | rfl <;> rfl) rfl) ?_
  clear hS
  rintro _ w_20 ⟨b84, rfl, hS⟩
  have hF := hS.freeze1
  clear hS
  obtain ⟨I84, hS, hI84, hb84⟩ := hF
  replace hx0 := hx0.mono hI84
  replace hx1 := hx1.mono hI84
  replace hx2 := hx2.mono hI84
  replace h24 := h24.mono hI84
  replace h30 := h30.mono hI84
  replace h36 := h36.mono hI84
  replace h44 := h44.mono hI84
  replace h52 := h52.mono hI84
  replace h60 := h60.mono hI84
  replace h67 := h67.mono hI84
  replace h75 := h75.mono hI84
  replace h79 := h79.mono hI84
  replace h82 := h82.mono hI84
  have h84 : ROps _ (.slice (some ⟨b84, 0, none⟩) 4 4) [⟨1, 0, 1, 0, []⟩, ⟨4, 0, 1, 0, [9]⟩, ⟨1, 2, 1, 0, []⟩, ⟨2, 0, 1, 0, [1]⟩] := RSl.ofAt (css := [[.int .i64 1, .int .i64 0, .int .i64 1, .int .u8 0, .slice none 0 0], [.int .i64 4, .int .i64 0, .int .i64 1, .int .u8 0, .slice (some ⟨b79, 0, none⟩) 1 1], [.int .i64 1, .int .i64 2, .int .i64 1, .int .u8 0, .slice none 0 0], [.int .i64 2, .int .i64 0, .int .i64 1, .int .u8 0, .slice (some ⟨b82, 0, none⟩) 1 1]]) hb84 rfl (by simp) (All2.cons ⟨_, _, _, rfl, RFl.nil⟩ (All2.cons ⟨_, _, _, rfl, h79⟩ (All2.cons ⟨_, _, _, rfl, RFl.nil⟩ (All2.cons ⟨_, _, _, rfl, h82⟩ (All2.nil _))))) rfl (by decide)
  refine qq hS (g_buildv (pl := [(0, 1), (1, 1), (2, 1), (3, 1)]) (cs := [.bool _, .int .i64 _, .int .i64 _, .slice _ _ _]) Tryz.zeroValue29 Tryz.underlying29 (fun w => by simp [Tryz.sizeOf27, Tryz.sizeOf3, Tryz.sizeOf4]) (mp (v := .int .i64 _) rfl (mp (v := .int .i64 _) rfl (mp rfl mp0))) rfl) ?_
  refine qe (d_alloc (cs := [.bool _, .int .i64 _, .int .i64 _, .slice _ _ _]) hS Tryz.zeroValue29 rfl) ?_
  clear hS
  rintro _ w_21 ⟨b18, rfl, hS⟩
  refine qe (d_store 0 hS Tryz.sizeOf29 rfl rfl rfl (vs := [.bool _, .int .i64 _, .int .i64 _, .slice _ _ _]) rfl rfl rfl (Nat.le_of_ble_eq_true rfl) (cs' := [_, _, _, _]) rfl) ?_
  clear hS
  rintro _ w_22 ⟨rfl, hS⟩
  refine ol_nil (thenN ?_)
  refine wpIn_seq ?_
  refine reg ?_
  refine qq hS (g_move _) ?_
  refine qq hS (g_movev (v := .int .i64 _) rfl) ?_
  refine qq hS (g_buildv (pl := [(0, 1), (1, 1)]) (cs := [.int .i64 _, .int .i64 _]) Tryz.zeroValue117 Tryz.underlying117 (fun w => by simp [Tryz.sizeOf3]) (mp (v := .int .i64 _) rfl (mp (v := .int .i64 _) rfl mp0)) rfl) ?_
  refine qe (d_call Tryz.call65 rfl (ranges11_T1 1 2 _ _ _ _ hS.imm h24 (by decide))) ?_
  rintro _ w_23 ⟨I_f, rfl, hE⟩
  replace hS := hS.callE hE
  replace hx0 := hx0.mono hE.ext
  replace hx1 := hx1.mono hE.ext
  replace hx2 := hx2.mono hE.ext
  replace h24 := h24.mono hE.ext
  replace h30 := h30.mono hE.ext
  replace h36 := h36.mono hE.ext
  replace h44 := h44.mono hE.ext
  replace h52 := h52.mono hE.ext
  replace h60 := h60.mono hE.ext
  replace h67 := h67.mono hE.ext
  replace h75 := h75.mono hE.ext
  replace h79 := h79.mono hE.ext
  replace h82 := h82.mono hE.ext
  replace h84 := h84.mono hE.ext
  refine qq hS (g_movev (v := .bool _) rfl) ?_
  refine qqs rfl rfl hS (g_move _) ?_
  refine qqs rfl rfl hS (g_movev (v := .int .i64 _) rfl) ?_
  refine qqs rfl rfl hS (g_buildv (pl := [(0, 1), (1, 1)]) (cs := [.int .i64 _, .int .i64 _]) Tryz.zeroValue117 Tryz.underlying117 (fun w => by simp [Tryz.sizeOf3]) (mp (v := .int .i64 _) rfl (mp (v := .int .i64 _) rfl mp0)) rfl) ?_
  refine qes rfl rfl (d_call Tryz.call65 rfl (ranges11_T1 1 4 _ _ _ _ hS.imm h30 (by decide))) ?_
  rintro _ w_24 ⟨I_f, rfl, hE⟩
  replace hS := hS.callE hE
  replace hx0 := hx0.mono hE.ext
  replace hx1 := hx1.mono hE.ext
  replace hx2 := hx2.mono hE.ext
  replace h24 := h24.mono hE.ext
  replace h30 := h30.mono hE.ext
  replace h36 := h36.mono hE.ext
  replace h44 := h44.mono hE.ext
  replace h52 := h52.mono hE.ext
  replace h60 := h60.mono hE.ext
  replace h67 := h67.mono hE.ext
  replace h75 := h75.mono hE.ext
  replace h79 := h79.mono hE.ext
  replace h82 := h82.mono hE.ext
  replace h84 := h84.mono hE.ext
  refine qq hS (g_and rfl rfl (fun _ => rfl)) ?_
  refine qq hS (g_movev (v := .bool _) rfl) ?_
  refine qqs rfl rfl hS (g_move _) ?_
  refine qqs rfl rfl hS (g_movev (v := .int .i64 _) rfl) ?_
  refine qqs rfl rfl hS (g_buildv (pl := [(0, 1), (1, 1)]) (cs := [.int .i64 _, .int .i64 _]) Tryz.zeroValue117 Tryz.underlying117 (fun w => by simp [Tryz.sizeOf3]) (mp (v := .int .i64 _) rfl (mp (v := .int .i64 _) rfl mp0)) rfl) ?_
  refine qes rfl rfl (d_call Tryz.call65 rfl (ranges11_T1 0 1 _ _ _ _ hS.imm h36 (by decide))) ?_
  rintro _ w_25 ⟨I_f, rfl, hE⟩
  replace hS := hS.callE hE
  replace hx0 := hx0.mono hE.ext
  replace hx1 := hx1.mono hE.ext
  replace hx2 := hx2.mono hE.ext
  replace h24 := h24.mono hE.ext
  replace h30 := h30.mono hE.ext
  replace h36 := h36.mono hE.ext
  replace h44 := h44.mono hE.ext
  replace h52 := h52.mono hE.ext
  replace h60 := h60.mono hE.ext
  replace h67 := h67.mono hE.ext
  replace h75 := h75.mono hE.ext
  replace h79 := h79.mono hE.ext
  replace h82 := h82.mono hE.ext
  replace h84 := h84.mono hE.ext
  refine qq hS (g_and rfl rfl (fun _ => rfl)) ?_
  refine qq hS (g_movev (v := .bool _) rfl) ?_
  refine qqs rfl rfl hS (g_move _) ?_
  refine qqs rfl rfl hS (g_movev (v := .int .i64 _) rfl) ?_
  refine qqs rfl rfl hS (g_buildv (pl := [(0, 1), (1, 1)]) (cs := [.int .i64 _, .int .i64 _]) Tryz.zeroValue117 Tryz.underlying117 (fun w => by simp [Tryz.sizeOf3]) mp0 rfl) ?_
  refine qes rfl rfl (d_call Tryz.call65 rfl (ranges11_T0 _ _ _ _ hS.imm h44)) ?_
  rintro _ w_26 ⟨rfl, hE⟩
  replace hS := hS.callE hE
  refine qq hS (g_and rfl rfl (fun _ => rfl)) ?_
  refine qq hS (g_movev (v := .bool _) rfl) ?_
  refine qqs rfl rfl hS (g_move _) ?_
  refine qqs rfl rfl hS (g_movev (v := .int .i64 _) rfl) ?_
  refine qqs rfl rfl hS (g_buildv (pl := [(0, 1), (1, 1)]) (cs := [.int .i64 _, .int .i64 _]) Tryz.zeroValue117 Tryz.underlying117 (fun w => by simp [Tryz.sizeOf3]) (mp (v := .int .i64 _) rfl (mp (v := .int .i64 _) rfl mp0)) rfl) ?_
  refine qes rfl rfl (d_call Tryz.call65 rfl (ranges11_T1 3 4 _ _ _ _ hS.imm h52 (by decide))) ?_
  rintro _ w_27 ⟨I_f, rfl, hE⟩
  replace hS := hS.callE hE
  replace hx0 := hx0.mono hE.ext
  replace hx1 := hx1.mono hE.ext
  replace hx2 := hx2.mono hE.ext
  replace h24 := h24.mono hE.ext
  replace h30 := h30.mono hE.ext
  replace h36 := h36.mono hE.ext
  replace h44 := h44.mono hE.ext
  replace h52 := h52.mono hE.ext
  replace h60 := h60.mono hE.ext
  replace h67 := h67.mono hE.ext
  replace h75 := h75.mono hE.ext
  replace h79 := h79.mono hE.ext
  replace h82 := h82.mono hE.ext
  replace h84 := h84.mono hE.ext
  refine qq hS (g_and rfl rfl (fun _ => rfl)) ?_
  refine qq hS (g_assignv (v := .bool _) rfl) ?_
  refine ol_nil (thenN ?_)
  refine wpIn_seq ?_
  refine draw (.cons 0 .pure (.cons 1 .pure (.cons 2 .pure (.cons 3 .pure (.cons 4 .pure (.cons 5 .pure (.cons 6 .held (.cons 7 .held (.cons 8 .eff (.cons 9 .pure (.cons 10 .pure (.cons 11 .pure (.cons 12 .pure (.cons 13 .pure (.cons 14 .pure (.cons 15 .pure (.cons 16 .pure (.cons 17 .pure (.cons 18 .pure (.cons 19 .pure (.cons 20 .held (.cons 21 .pure (.cons 22 .held (.cons 24 .pure (.cons 25 .held (.cons 26 .pure (.cons 27 .held (.cons 28 .pure (.cons 23 .eff (.cons 29 .eff (.cons 30 .pure (.cons 31 .pure (.cons 32 .pure (.cons 33 .held (.cons 34 .pure (.cons 35 .held (.cons 36 .eff (.cons 37 .pure (.cons 38 .pure (.cons 39 .pure (.cons 40 .pure .nil))))))))))))))))))))))))))))))))))))))))) mixed (by kernel_rfl) hS ?_
  intro w_28 hS
  refine sp rfl (g_movev (v := .bool _) rfl) ?_
  refine sp rfl (g_movev (v := .bool _) rfl) ?_
  refine spt rfl rfl rfl (g_movev (v := .int .i64 _) rfl) ?_
  refine spt rfl rfl rfl (g_eql rfl rfl) ?_
  refine sp rfl (g_and rfl rfl (fun _ => rfl)) ?_
  refine sp rfl (g_movev (v := .bool _) rfl) ?_
  refine sht rfl rfl rfl (g_ldO 3 (vs := [.bool _, .int .i64 _, .int .i64 _, .slice _ _ _]) Tryz.sizeOf29 Tryz.isAgg29 rfl rfl rfl rfl) ?_
  refine sht rfl rfl rfl (g_ldO 0 (vs := [.bool _, .int .i64 _, .int .i64 _, .slice _ _ _]) Tryz.sizeOf29 Tryz.isAgg29 rfl rfl rfl rfl) ?_
  have hS0 := hS
  refine Inl.set rfl rfl rfl (d_call Tryz.call40 rfl (same_T (⟨false, 4, 4, [⟨1, 0, 1, 0, []⟩, ⟨4, 0, 1, 0, [9]⟩, ⟨1, 2, 1, 0, []⟩, ⟨2, 0, 1, 0, [1]⟩]⟩ : PatL) _ _ _ _ _ _ _ _ hS.imm h60 h84 (okPat_s (by kernel_rfl)))) ?_
  rintro _ w_29 ⟨rfl, hE⟩
  replace hS := hS.call hE
  refine ⟨_, _, hS0.le hE.ext (List.Sublist.refl _), hS, ?_⟩
  refine sp rfl (g_and rfl rfl (fun _ => rfl)) ?_
  refine sp rfl (g_movev (v := .bool _) rfl) ?_
  refine spt rfl rfl rfl (g_movev (v := .int .i64 _) rfl) ?_
  refine spt rfl rfl rfl (g_eql rfl rfl) ?_
  refine sp rfl (g_and rfl rfl (fun _ => rfl)) ?_
  refine sp rfl (g_movev (v := .bool _) rfl) ?_
  refine spt rfl rfl rfl (g_movev (v := .int .i64 _) rfl) ?_
  refine spt rfl rfl rfl (g_eql rfl rfl) ?_
  refine sp rfl (g_and rfl rfl (fun _ => rfl)) ?_
  refine sp rfl (g_movev (v := .bool _) rfl) ?_
  refine spt rfl rfl rfl (g_indexArr (o' := 0) Tryz.underlying112 Tryz.sizeOf29 rfl rfl (by decide) (by decide) rfl) ?_
  refine sht rfl rfl rfl (g_ldO 4 (vs := [.bool _, .int .i64 _, .int .i64 _, .slice _ _ _]) Tryz.sizeOf29 Tryz.isAgg29 rfl rfl rfl rfl) ?_
  refine spt rfl rfl rfl (g_indexArr (o' := 4) Tryz.underlying112 Tryz.sizeOf29 rfl rfl (by decide) (by decide) rfl) ?_
  refine sht rfl rfl rfl (g_ldO 4 (vs := [.bool _, .int .i64 _, .int .i64 _, .slice _ _ _]) Tryz.sizeOf29 Tryz.isAgg29 rfl rfl rfl rfl) ?_
  refine spt rfl rfl rfl (g_indexArr (o' := 4) Tryz.underlying112 Tryz.sizeOf29 rfl rfl (by decide) (by decide) rfl) ?_
  refine sht rfl rfl rfl (g_ldO 4 (vs := [.bool _, .int .i64 _, .int .i64 _, .slice _ _ _]) Tryz.sizeOf29 Tryz.isAgg29 rfl rfl rfl rfl) ?_
  refine spt rfl rfl rfl (g_indexArr (o' := 0) Tryz.underlying112 Tryz.sizeOf29 rfl rfl (by decide) (by decide) rfl) ?_
  refine sht rfl rfl rfl (g_ldO 4 (vs := [.bool _, .int .i64 _, .int .i64 _, .slice _ _ _]) Tryz.sizeOf29 Tryz.isAgg29 rfl rfl rfl rfl) ?_
  refine spt rfl rfl rfl (g_buildv (pl := [(0, 4), (4, 4), (8, 1)]) (cs := [.bool _, .int .i64 _, .int .i64 _, .slice _ _ _, .bool _, .int .i64 _, .int .i64 _, .slice _ _ _, .int .i64 _]) Tryz.zeroValue63 Tryz.underlying63 (fun w => by simp [Tryz.sizeOf29, Tryz.sizeOf31]) (mp (v := .agg #[.bool _, .int .i64 _, .int .i64 _, .slice _ _ _]) rfl (mp (v := .agg #[.bool _, .int .i64 _, .int .i64 _, .slice _ _ _]) rfl mp0)) (fill_two _ _ _ _ _ _ _ _ _ _ _ _ _ _ _ _ _ )) ?_
  have hS0 := hS
  refine Inl.set rfl rfl rfl (d_call Tryz.call33 rfl (exchanged_L (⟨false, 4, 4, [⟨1, 0, 1, 0, []⟩, ⟨4, 0, 1, 0, [9]⟩, ⟨1, 2, 2, 0, []⟩]⟩ : PatL) (⟨false, 4, 4, [⟨1, 0, 3, 0, []⟩, ⟨2, 0, 1, 0, [1]⟩]⟩ : PatL) (⟨false, 4, 4, [⟨1, 0, 3, 0, []⟩, ⟨2, 0, 1, 0, [1]⟩]⟩ : PatL) (⟨false, 4, 4, [⟨1, 0, 1, 0, []⟩, ⟨4, 0, 1, 0, [9]⟩, ⟨1, 2, 2, 0, []⟩]⟩ : PatL) 0 _ _ _ _ _ _ _ _ hS.imm (okPat_s (by kernel_rfl)) hx0 (okPat_s (by kernel_rfl)) hx1 (by kernel_rfl))) ?_
  rintro _ w_30 ⟨I_f, a137, m137, c137, d137, n137, e137, rfl, hE, h137, k137⟩
  replace hS := hS.call hE
  replace hx0 := hx0.mono hE.ext
  replace hx1 := hx1.mono hE.ext
  replace hx2 := hx2.mono hE.ext
  replace h24 := h24.mono hE.ext
  replace h30 := h30.mono hE.ext
  replace h36 := h36.mono hE.ext
  replace h44 := h44.mono hE.ext
  replace h52 := h52.mono hE.ext
  replace h60 := h60.mono hE.ext
  replace h67 := h67.mono hE.ext
  replace h75 := h75.mono hE.ext
  replace h79 := h79.mono hE.ext
  replace h82 := h82.mono hE.ext
  replace h84 := h84.mono hE.ext
  refine ⟨_, _, hS0.le hE.ext (List.Sublist.refl _), hS, ?_⟩
  have hS0 := hS
  refine Inl.set rfl rfl rfl (d_call Tryz.call35 rfl (same11_T (⟨false, 4, 4, [⟨1, 0, 3, 0, []⟩, ⟨2, 0, 1, 0, [1]⟩]⟩ : PatL) (⟨false, 4, 4, [⟨1, 0, 1, 0, []⟩, ⟨4, 0, 1, 0, [9]⟩, ⟨1, 2, 2, 0, []⟩]⟩ : PatL) 0 _ _ _ _ _ _ _ _ _ _ _ _ _ _ hS.imm (okPat_s (by kernel_rfl)) (okPat_s (by kernel_rfl)) h137 k137 hx1 hx0)) ?_
  rintro _ w_31 ⟨rfl, hE⟩
  replace hS := hS.call hE
  refine ⟨_, _, hS0.le hE.ext (List.Sublist.refl _), hS, ?_⟩
  refine sp rfl (g_and rfl rfl (fun _ => rfl)) ?_
  refine sp rfl (g_movev (v := .bool _) rfl) ?_
  refine spt rfl rfl rfl (g_indexArr (o' := 4) Tryz.underlying112 Tryz.sizeOf29 rfl rfl (by decide) (by decide) rfl) ?_
  refine sht rfl rfl rfl (g_ldO 4 (vs := [.bool _, .int .i64 _, .int .i64 _, .slice _ _ _]) Tryz.sizeOf29 Tryz.isAgg29 rfl rfl rfl rfl) ?_
  refine spt rfl rfl rfl (g_indexArr (o' := 8) Tryz.underlying112 Tryz.sizeOf29 rfl rfl (by decide) (by decide) rfl) ?_
  refine sht rfl rfl rfl (g_ldO 4 (vs := [.bool _, .int .i64 _, .int .i64 _, .slice _ _ _]) Tryz.sizeOf29 Tryz.isAgg29 rfl rfl rfl rfl) ?_
  have hS0 := hS
  refine Inl.set rfl rfl rfl (d_call Tryz.call33 rfl (exchanged_L (⟨false, 4, 4, [⟨1, 0, 3, 0, []⟩, ⟨2, 0, 1, 0, [1]⟩]⟩ : PatL) (⟨false, 4, 4, [⟨1, 0, 1, 0, []⟩, ⟨3, 0, 3, 9, []⟩]⟩ : PatL) PatL.zero PatL.zero 110 _ _ _ _ _ _ _ _ hS.imm (okPat_s (by kernel_rfl)) hx1 (okPat_s (by kernel_rfl)) hx2 (by kernel_rfl))) ?_
  rintro _ w_32 ⟨I_f, a150, m150, c150, d150, n150, e150, rfl, hE, h150, k150⟩
  replace hS := hS.call hE
  replace hx0 := hx0.mono hE.ext
  replace hx1 := hx1.mono hE.ext
  replace hx2 := hx2.mono hE.ext
  replace h24 := h24.mono hE.ext
  replace h30 := h30.mono hE.ext
  replace h36 := h36.mono hE.ext
  replace h44 := h44.mono hE.ext
  replace h52 := h52.mono hE.ext
  replace h60 := h60.mono hE.ext
  replace h67 := h67.mono hE.ext
  replace h75 := h75.mono hE.ext
  replace h79 := h79.mono hE.ext
  replace h82 := h82.mono hE.ext
  replace h84 := h84.mono hE.ext
  replace h137 := h137.mono hE.ext
  replace k137 := k137.mono hE.ext
  refine ⟨_, _, hS0.le hE.ext (List.Sublist.refl _), hS, ?_⟩
  refine spt rfl rfl rfl (g_field1 Tryz.underlying63 rfl Tryz.isAgg31 rfl rfl) ?_
  refine spt rfl rfl rfl (g_eql rfl rfl) ?_
  refine sp rfl (g_and rfl rfl (fun _ => rfl)) ?_
  refine sp rfl (g_assignv (v := .bool _) rfl) ?_
  refine sn (thenN ?_)
  refine wpIn_ret ?_
  refine ret1 Tryz.results24 (rv_tmp (v := .bool _) rfl) ?_
  exact ⟨_, rfl, hS.nil⟩

end Go.Proofs.YtodopmclnklgdaaGreat

