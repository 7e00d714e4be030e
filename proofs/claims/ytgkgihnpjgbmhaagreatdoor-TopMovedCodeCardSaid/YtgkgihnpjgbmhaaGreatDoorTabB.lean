/- Bounds of the table of package normal. Conditions: none. -/
import Derived.Test.YtgkgihnpjgbmhaaGreatDoorKCore2
set_option linter.unusedSimpArgs false
set_option linter.unusedVariables false
namespace Go.Inl
theorem jW : ∀ l : List Sym, (tab l).length = l.length + 1
 | []=>rfl
 | s::l=>by simp[tab,jW l]
structure Pl.good (r : Int) (p : Pl) : Prop where
 best:p.best.ok (6*r)
 diff:p.diff.ok (6*r)
 lit:p.lit.ok (6*r)
 d0:0≤p.diffLen
 d1:p.diffLen≤r
 l0:0≤p.litLen
 l1:p.litLen≤r
 c0:0≤p.copyRun
 c1:p.copyRun≤r
 e0:0≤p.equalRun
 e1:p.equalRun≤r
 n0:0≤p.length
 n1:p.length≤r
theorem Pl.zero_good:Pl.zero.good 0:=by constructor <;> simp[Pl.zero,Pr.ok]
theorem Pr.ok_plus {p:Pr}{B c o:Int}(h:p.ok B)(hc:0≤c∧c≤4)(ho:0≤o∧o≤1):(p.plus c o).ok (B+4):=by
 obtain⟨h1,h2,h3,h4⟩:=h;simp only[Pr.plus,Pr.ok]; omega
theorem Pr.ok_mono {p:Pr}{B C:Int}(h:p.ok B)(hb:B≤C):p.ok C:=by
 obtain⟨h1,h2,h3,h4⟩:=h;simp only[Pr.ok]; omega
structure Pl.fair (r : Int) (p : Pl) : Prop where
 diff:p.diff.ok (6*r)
 lit:p.lit.ok (6*r)
 d0:0≤p.diffLen
 d1:p.diffLen≤r
 l0:0≤p.litLen
 l1:p.litLen≤r
 c0:0≤p.copyRun
 c1:p.copyRun≤r
 e0:0≤p.equalRun
 e1:p.equalRun≤r
theorem nthBest_ok {later:List Pl}{n:Int}(hn:n=later.length)(hg:∀(k:Nat) p,later[k]? = some p→p.good (n - 1 - k)){r:Int}(h0:1≤r)(h1:r≤n):(nthBest later r).ok (6*(n - r)):=by
 unfold nthBest;have hk:(r - 1).toNat < later.length:=by omega
 have:=hg (r - 1).toNat later[(r - 1).toNat] (xI hk);rw[xT,xI hk];have h2:=this.best;rw[show n - 1 - ((r - 1).toNat:Int)=n - r by omega]at h2;exact h2
theorem runs_bd {s next:Sym}{rest:Pl}{last:Bool}{n:Int}(h:rest.good (n - 1))(hn:1≤n):0≤(runsS s next rest last).1∧(runsS s next rest last).1≤n∧0≤(runsS s next rest last).2∧(runsS s next rest last).2≤n∧(s.old=false→1≤(runsS s next rest last).2)∧(s.old=false→(runsS s next rest last).1=0):=by
 have h1:=h.c0; have h2:=h.c1; have h3:=h.e0; have h4:=h.e1
 unfold runsS;refine⟨?_,?_,?_,?_,?_,?_⟩ <;> dsimp only
 · split <;> (try split) <;> omega
 · split <;> (try split) <;> omega
 · split <;> (try split) <;> omega
 · split <;> (try split) <;> omega
 · intro h; simp only[h,Bool.not_false,if_true]; split <;> omega
 · intro h; simp[h]
theorem yB {rest:Pl}{more:Pr}{k n:Int}{on:Bool}(hb:rest.best.ok (6*(n - 1)))(hm:more.ok (6*(n - 1)))(h0:0≤k)(h1:k≤n - 1):(openS rest more k on).1.ok (6*(n - 1)+1)∧1≤(openS rest more k on).2∧(openS rest more k on).2≤n:=by
 obtain⟨a1,a2,a3,a4⟩:=hb;obtain⟨b1,b2,b3,b4⟩:=hm;unfold openS;split <;> simp only[Pr.ok,Pr.plus] <;> omega
structure Pl.tried (r : Int) (p : Pl) : Prop where
 fair:p.fair r
 n0:0≤p.length
 n1:p.length≤r
 b:p.best.ok (6*r)
theorem zD {r:Int}{p:Pl}{k len:Int}{c:Pr}(h:p.tried r)(hl:0≤len∧len≤r)(hc:c.ok (6*r)):(tryS p k len c).tried r:=by
 unfold tryS;split
 · exact⟨⟨h.fair.diff,h.fair.lit,h.fair.d0,h.fair.d1,h.fair.l0,h.fair.l1,h.fair.c0,h.fair.c1,h.fair.e0,h.fair.e1⟩,hl.1,hl.2,hc⟩
 · exact h
theorem tryS_runs (p:Pl)(k len:Int)(c:Pr):(tryS p k len c).copyRun=p.copyRun∧(tryS p k len c).equalRun=p.equalRun∧(tryS p k len c).diff=p.diff∧(tryS p k len c).diffLen=p.diffLen∧(tryS p k len c).lit=p.lit∧(tryS p k len c).litLen=p.litLen:=by
 unfold tryS; split <;> exact⟨rfl,rfl,rfl,rfl,rfl,rfl⟩
theorem Pl.tried.good {r:Int}{p:Pl}(h:p.tried r):p.good r :=
 ⟨h.b,h.fair.diff,h.fair.lit,h.fair.d0,h.fair.d1,h.fair.l0,h.fair.l1,h.fair.c0,h.fair.c1,h.fair.e0,h.fair.e1,h.n0,h.n1⟩
theorem Pl.tried.setDiff {r:Int}{p:Pl}(h:p.tried r){q:Pr}{k:Int}(hq:q.ok (6*r))(h0:0≤k)(h1:k≤r):({ p with diff:=q,diffLen:=k }:Pl).tried r :=
 ⟨⟨hq,h.fair.lit,h0,h1,h.fair.l0,h.fair.l1,h.fair.c0,h.fair.c1,h.fair.e0,h.fair.e1⟩,h.n0,h.n1,h.b⟩
theorem Pl.tried.setLit {r:Int}{p:Pl}(h:p.tried r){q:Pr}{k:Int}(hq:q.ok (6*r))(h0:0≤k)(h1:k≤r):({ p with lit:=q,litLen:=k }:Pl).tried r :=
 ⟨⟨h.fair.diff,hq,h.fair.d0,h.fair.d1,h0,h1,h.fair.c0,h.fair.c1,h.fair.e0,h.fair.e1⟩,h.n0,h.n1,h.b⟩
theorem mkPl_good {s next:Sym}{last:Bool}{later:List Pl}{n:Int}(hn:n=later.length)(h0:1≤n)(hg:∀(k:Nat) p,later[k]? = some p→p.good (n - 1 - k)):(mkPl s next last later).good n:=by
 have hrest:(later.headD Pl.zero).good (n - 1):=by
  cases later with
  | nil=>simp at hn; omega
  | cons p l=>have:=hg 0 p rfl; simpa using this
 have hr:=runs_bd (s:=s) (next:=next) (last:=last) hrest h0;obtain⟨r1,r2,r3,r4,r5,r6⟩:=hr;have hz:(⟨0,0⟩:Pr).ok (6*n):=by simp[Pr.ok]; omega
 have t0:({ Pl.zero with copyRun:=(runsS s next (later.headD Pl.zero) last).1,equalRun:=(runsS s next (later.headD Pl.zero) last).2 }:Pl).tried n :=
  ⟨⟨hz,hz,by simp[Pl.zero],by simp[Pl.zero]; omega,by simp[Pl.zero],by simp[Pl.zero]; omega,r1,r2,r3,r4⟩,by simp[Pl.zero],by simp[Pl.zero]; omega,hz⟩
 unfold mkPl;dsimp only;generalize hp0:({ Pl.zero with copyRun:=(runsS s next (later.headD Pl.zero) last).1,equalRun:=(runsS s next (later.headD Pl.zero) last).2 }:Pl)=p0 at *
 have t1:(if 0 < (runsS s next (later.headD Pl.zero) last).1 then tryS p0 1 (runsS s next (later.headD Pl.zero) last).1 ((nthBest later (runsS s next (later.headD Pl.zero) last).1).plus 4 1) else p0).tried n:=by
  split
  · refine zD t0 ⟨r1, r2⟩ ?_
    exact Pr.ok_mono (Pr.ok_plus (nthBest_ok hn hg (by omega) r2) (by omega) (by omega)) (by omega)
  · exact t0
 have e1:(if 0 < (runsS s next (later.headD Pl.zero) last).1 then tryS p0 1 (runsS s next (later.headD Pl.zero) last).1 ((nthBest later (runsS s next (later.headD Pl.zero) last).1).plus 4 1) else p0).equalRun=(runsS s next (later.headD Pl.zero) last).2:=by
  split
  · rw[(tryS_runs _ _ _ _).2.1,← hp0]
  · rw[← hp0]
 generalize (if 0 < (runsS s next (later.headD Pl.zero) last).1 then tryS p0 1 (runsS s next (later.headD Pl.zero) last).1 ((nthBest later (runsS s next (later.headD Pl.zero) last).1).plus 4 1) else p0)=p1 at *
 cases hs:s.old with
 | true =>
   simp only[if_true];have ho:=yB (on := !last && goesOn s next) hrest.best hrest.diff hrest.d0 hrest.d1;obtain⟨o1,o2,o3⟩:=ho;refine(zD (t1.setDiff (Pr.ok_mono o1 (by omega)) (by omega) o3) ⟨?_,o3⟩ ?_).good
   · show 0≤(openS _ _ _ _).2; omega
   · exact Pr.ok_mono (Pr.ok_plus o1 (by omega) (by omega)) (by omega)
 | false =>
   simp only[Bool.false_eq_true,if_false];have r5':=r5 hs;have t2:(tryS p1 3 p1.equalRun ((nthBest later p1.equalRun).plus 4 1)).tried n:=by
    rw[e1];refine zD t1 ⟨r3,r4⟩ ?_;exact Pr.ok_mono (Pr.ok_plus (nthBest_ok hn hg r5' r4) (by omega) (by omega)) (by omega)
   generalize tryS p1 3 p1.equalRun ((nthBest later p1.equalRun).plus 4 1)=p2 at *
   have ho:=yB (on := !last && !next.old) hrest.best hrest.lit hrest.l0 hrest.l1;obtain⟨o1,o2,o3⟩:=ho;refine(zD (t2.setLit (Pr.ok_mono o1 (by omega)) (by omega) o3) ⟨?_,o3⟩ ?_).good
   · show 0≤(openS _ _ _ _).2; omega
   · exact Pr.ok_mono (Pr.ok_plus o1 (by omega) (by omega)) (by omega)
theorem kN : ∀ (l : List Sym) (k : Nat) (p : Pl), (tab l)[k]? = some p → p.good (l.length - k)
 | [],k,p,h=>by
   cases k with
   | zero=>simp[tab]at h; subst h; exact Pl.zero_good
   | succ k=>simp[tab]at h
 | s::l,0,p,h=>by
   simp[tab]at h; subst h
   have:=jW l;have hg:(mkPl s (l.headD s) l.isEmpty (tab l)).good ((l.length:Int)+1) :=
    mkPl_good (by simp[this]) (by omega) fun k p hp=>by
     have:=kN l k p hp;rwa [show(l.length:Int)+1 - 1 - k=l.length - k by omega]
   simpa using hg
 | s::l,k+1,p,h=>by
   have:=kN l k p (by simpa [tab] using h);rwa [show((s::l).length:Int) - ((k+1:Nat):Int)=l.length - k by simp; omega]
theorem xG {pre row : List Go.Value} {T : List Pl} {m r q j : Nat} {p : Pl} {v : Go.Value} (hpre : pre.length = m * 12) (hrow : row.length = 12) (hp : T[r]? = some p) (hq : q = m + 1 + r) (hj : (plC p)[j]? = some v) :
 (pre++(row++flat plC T))[q*12+j]? = some v:=by
 subst hq;rw[uB (by omega),uB (by omega),hpre,hrow,show(m+1+r)*12+j - m*12 - 12=r*12+j by omega];exact qN zE T r p hp j v hj
theorem plC_best {p : Pl} : ∀ (j : Nat) v, [Go.Value.int .i64 p.best.cost, Go.Value.int .i64 p.best.ops][j]? = some v → (plC p)[j]? = some v
 | 0,_,h=>h
 | 1,_,h=>h
 | j+2,_,h=>by simp at h
theorem tab_step {l:List Sym}{m:Nat}{s:Sym}(hs:l[m]? = some s):tab (l.drop m)=mkPl s ((l.drop (m+1)).headD s) (l.drop (m+1)).isEmpty (tab (l.drop (m+1)))::tab (l.drop (m+1)):=by
 have h:=xX.1 hs;rw[List.drop_eq_getElem_cons h.1,h.2];rfl
theorem focus_row (m:Nat)(T:List Pl):flat plC (List.replicate (m+1) Pl.zero++T)=flat plC (List.replicate m Pl.zero)++(plC Pl.zero++flat plC T):=by
 rw[List.replicate_succ',uh,ql,ql,qS]
theorem unfocus {l : List Sym} {m : Nat} {s : Sym} {p : Pl} (hs : l[m]? = some s) (hp : p = mkPl s ((l.drop (m + 1)).headD s) (l.drop (m + 1)).isEmpty (tab (l.drop (m + 1)))) :
 flat plC (List.replicate m Pl.zero)++(plC p++flat plC (tab (l.drop (m+1))))=flat plC (List.replicate m Pl.zero++tab (l.drop m)):=by
 rw[tab_step hs,ql,← hp]; rfl
def pl1 (s nx:Sym)(rest:Pl)(lst:Bool)(T:List Pl):Pl :=
 if 0 < (runsS s nx rest lst).1 then tryS { Pl.zero with copyRun:=(runsS s nx rest lst).1,equalRun:=(runsS s nx rest lst).2 } 1 (runsS s nx rest lst).1 ((nthBest T (runsS s nx rest lst).1).plus 4 1)
 else { Pl.zero with copyRun:=(runsS s nx rest lst).1,equalRun:=(runsS s nx rest lst).2 }
theorem pl1_equal (s nx:Sym)(rest:Pl)(lst:Bool)(T:List Pl):(pl1 s nx rest lst T).equalRun=(runsS s nx rest lst).2:=by
 unfold pl1; split
 · rw[(tryS_runs _ _ _ _).2.1]
 · rfl
theorem mkPl_t {s nx : Sym} {rest p1 : Pl} {lst : Bool} {T : List Pl} (ho : s.old = true) (hr : T.headD Pl.zero = rest) (hp : p1 = pl1 s nx rest lst T) :
 mkPl s nx lst T = tryS { p1 with diff := (openS rest rest.diff rest.diffLen (!lst && goesOn s nx)).1, diffLen := (openS rest rest.diff rest.diffLen (!lst && goesOn s nx)).2 } 2 (openS rest rest.diff rest.diffLen (!lst && goesOn s nx)).2
  ((openS rest rest.diff rest.diffLen (!lst && goesOn s nx)).1.plus 4 1):=by
 subst hr hp; simp only[mkPl,ho,if_true]; rfl
theorem mkPl_f {s nx : Sym} {rest p1 p2 : Pl} {lst : Bool} {T : List Pl} (ho : s.old = false) (hr : T.headD Pl.zero = rest) (hp : p1 = pl1 s nx rest lst T) (h2 : p2 = tryS p1 3 p1.equalRun ((nthBest T p1.equalRun).plus 4 1)) :
 mkPl s nx lst T = tryS { p2 with lit := (openS rest rest.lit rest.litLen (!lst && !nx.old)).1, litLen := (openS rest rest.lit rest.litLen (!lst && !nx.old)).2 } 4 (openS rest rest.lit rest.litLen (!lst && !nx.old)).2
  ((openS rest rest.lit rest.litLen (!lst && !nx.old)).1.plus 2 1):=by
 subst hr hp h2; simp only[mkPl,ho,Bool.false_eq_true,if_false]; rfl
theorem nthBest_eq {T:List Pl}{r:Int}{p:Pl}(h:T[(r - 1).toNat]? = some p):nthBest T r=p.best:=by
 unfold nthBest; rw[xT,h]; rfl
theorem vi {p:Pl}{k len:Int}{c:Pr}(hl:1≤len)(h:p.kind=0∨1≤p.length):1≤(tryS p k len c).length:=by
 unfold tryS;split
 · exact hl
 · rename_i hc
   rcases h with h | h
   · exact absurd (by simp[h]) hc
   · exact h
theorem mkPl_pos {s next:Sym}{last:Bool}{later:List Pl}{n:Int}(hn:n=later.length)(h0:1≤n)(hg:∀(k:Nat) p,later[k]? = some p→p.good (n - 1 - k)):1≤(mkPl s next last later).length:=by
 have hrest:(later.headD Pl.zero).good (n - 1):=by
  cases later with
  | nil=>simp at hn; omega
  | cons p l=>have:=hg 0 p rfl; simpa using this
 cases hs:s.old with
 | true =>
   rw[mkPl_t hs rfl rfl];have ho:=yB (on := !last && goesOn s next) hrest.best hrest.diff hrest.d0 hrest.d1;refine vi ho.2.1 ?_;show(pl1 s next (later.headD Pl.zero) last later).kind=0∨1≤(pl1 s next (later.headD Pl.zero) last later).length
   unfold pl1;split
   · rename_i hr; exact .inr (vi (by omega) (.inl rfl))
   · exact .inl rfl
 | false =>
   rw[mkPl_f hs rfl rfl rfl];have ho:=yB (on := !last && !next.old) hrest.best hrest.lit hrest.l0 hrest.l1;have hr:=runs_bd (s:=s) (next:=next) (last:=last) hrest h0;refine vi ho.2.1 (.inr ?_);show 1≤(tryS _ 3 _ _).length
   refine vi (by rw[pl1_equal]; exact hr.2.2.2.2.1 hs) (.inl ?_);unfold pl1;rw[xP (by rw[hr.2.2.2.2.2 hs]; decide)]; rfl
theorem tab_pos : ∀ (l : List Sym) (k : Nat) (p : Pl), (tab l)[k]? = some p → k < l.length → 1 ≤ p.length
 | [],k,p,h,hk=>by simp at hk
 | s::l,0,p,h,_=>by
   simp[tab]at h; subst h
   have:=jW l;exact mkPl_pos (n:=l.length+1) (by simp[this]) (by omega) fun k p hp=>by
    have:=kN l k p hp;rwa [show(l.length:Int)+1 - 1 - k=l.length - k by omega]
 | s::l,k+1,p,h,hk=>tab_pos l k p (by simpa [tab] using h) (by simpa using hk)
theorem yw {p:Pl}{k len:Int}{c:Pr}(hk:0≤k∧k≤4)(h:0≤p.kind∧p.kind≤4):0≤(tryS p k len c).kind∧(tryS p k len c).kind≤4:=by
 unfold tryS; split
 · exact hk
 · exact h
theorem pl1_kind (s nx:Sym)(rest:Pl)(lst:Bool)(T:List Pl):0≤(pl1 s nx rest lst T).kind∧(pl1 s nx rest lst T).kind≤4:=by
 unfold pl1; split
 · exact yw (by omega) (by simp[Pl.zero])
 · simp[Pl.zero]
theorem mkPl_kind (s next:Sym)(last:Bool)(later:List Pl):0≤(mkPl s next last later).kind∧(mkPl s next last later).kind≤4:=by
 have h1:=pl1_kind s next (later.headD Pl.zero) last later;cases hs:s.old with
 | true=>rw[mkPl_t hs rfl rfl]; exact yw (by omega) h1
 | false=>rw[mkPl_f hs rfl rfl rfl]; exact yw (by omega) (yw (by omega) h1)
theorem xA : ∀ (l : List Sym) (k : Nat) (p : Pl), (tab l)[k]? = some p → -1099511627776 ≤ p.kind ∧ p.kind ≤ 1099511627776
 | [],k,p,h=>by
   cases k with
   | zero=>simp[tab]at h; subst h; simp[Pl.zero]
   | succ k=>simp[tab]at h
 | s::l,0,p,h=>by
   simp only[tab,List.getElem?_cons_zero,Option.some.injEq]at h; subst h
   have:=mkPl_kind s (l.headD s) l.isEmpty (tab l);omega
 | s::l,k+1,p,h=>xA l k p (by simpa [tab] using h)
end Go.Inl
