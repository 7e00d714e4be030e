/- inlayref06.Of: what it computes. Conditions: numbers within bounds. -/
import Derived.Test.YtcajgkfgjpfmaaaGreatOf
import Derived.Test.YtcajgkfgjpfmaaaGreatKRef6
import Derived.Test.YtcajgkfgjpfmaaaGreatKCore3
set_option linter.unusedSimpArgs false
set_option linter.unusedVariables false
namespace Go.Proofs.YtcajgkfgjpfmaaaGreat
open Tryz
open Go Go.RowKit Go.Inl
def datS (K:Int)(s:Sym):List Int:=if K=1 then [] else [s.b]
def newO (s:Sym):OpL:=⟨kindP s,s.at_,0,0,[]⟩
def extO (x:OpL)(s:Sym):OpL:=⟨x.kind,x.from_,x.len+1,x.b,x.data++datS x.kind s⟩
def goesP (a b:Sym):Bool:=decide (kindP a=kindP b) && (!a.old || decide (b.at_=a.at_+1))
def grp (cur : OpL) (prev : Sym) : List Sym → List OpL
 | []=>[cur]
 | t::r=>if goesP prev t then grp (extO cur t) t r else cur::grp (extO (newO t) t) t r
def ofL : List Sym → List OpL
 | []=>[]
 | s::r=>grp (extO (newO s) s) s r
def atS (l:List Sym)(i:Nat):Sym:=l.getD i ⟨false,0,0⟩
theorem atS_of {l:List Sym}{i:Nat}{s:Sym}(h:l[i]? = some s):atS l i=s:=by unfold atS; rw[uh,h]; rfl
theorem atS_some {l:List Sym}{i:Nat}(h:i < l.length):l[i]? = some (atS l i):=by
 have:l[i]? = some l[i]:=xW h;rw[atS_of this]; exact this
theorem vy {K f : Int} (r : List Sym) : ∀ (pre : List Sym) (j : Nat), (∀ i t, pre[i]? = some t → sameK K f (j + i) t = true) → ofLen K f (pre ++ r) j = pre.length + ofLen K f r (j + pre.length)
 | [],j,_=>by simp
 | p::pre,j,h=>by
   rw[List.cons_append,ofLen,ui (by simpa using h 0 p rfl),vy r pre (j+1) (fun i t ht=>by rw[show j+1+i=j+(i+1) by omega]; exact h (i+1) t (by simpa using ht))];rw[uP,show j+1+pre.length=j+(pre.length+1) by omega]; omega
theorem opS_one {t:Sym}(hz:t.old=false→t.at_=0):opS (kindP t) [t]=extO (newO t) t:=by
 unfold opS extO newO datS;have hk:=yD t;have h4:kindP t=4→t.at_=0:=fun h=>hz (by
  unfold kindP at h;cases ho:t.old with
  | false=>rfl
  | true=>rw[ho]at h; simp at h; split at h <;> omega)
 rcases hk with h | h | h <;> rw[h] <;> simp
 rw[h4 h]
theorem opS_snoc {K:Int}{pre:List Sym}{t:Sym}(hk:K=1∨K=2∨K=4)(hp:pre≠[]):extO (opS K pre) t=opS K (pre++[t]):=by
 obtain⟨s,r,rfl⟩:=List.exists_cons_of_ne_nil hp;unfold opS extO datS;rcases hk with rfl | rfl | rfl <;> simp
theorem goes_same {s p t:Sym}{n:Nat}(hp:sameK (kindP s) s.at_ n p=true):goesP p t=sameK (kindP s) s.at_ (n+1) t:=by
 simp only[sameK,xU,xV,xO]at hp;obtain⟨h1,h2⟩:=hp;unfold goesP sameK;rw[h1];have h4:p.old=false↔kindP s=4:=by
  rw[← h1];unfold kindP;cases ho:p.old with
  | false=>simp
  | true=>simp; split <;> omega
 rw[Bool.eq_iff_iff];simp only[xU,xV,xO,xT,h4];constructor
 · rintro ⟨a, b⟩
   refine⟨a.symm,?_⟩;rcases b with b | b
   · exact .inl b
   · rcases h2 with c | c
     · exact .inl c
     · refine .inr ?_; omega
 · rintro ⟨a, b⟩
   refine⟨a.symm,?_⟩;rcases b with b | b
   · exact .inl b
   · rcases h2 with c | c
     · exact .inl c
     · refine .inr ?_; omega
theorem grp_eq : ∀ (r pre : List Sym) (s p : Sym) (m : Nat), (∀ t ∈ r, t.old = false → t.at_ = 0) → pre ≠ [] → (∀ i t, pre[i]? = some t → sameK (kindP s) s.at_ i t = true) → pre[pre.length - 1]? = some p → r.length ≤ m →
 grp (opS (kindP s) pre) p r=opS (kindP s) ((pre++r).take (ofLen (kindP s) s.at_ (pre++r) 0))::ofGo m ((pre++r).drop (ofLen (kindP s) s.at_ (pre++r) 0))
 | [],pre,s,p,m,_,hne,hs,hp,_=>by
   have h:=vy (K:=kindP s) (f:=s.at_) [] pre 0 (by simpa using hs);rw[h];simp[grp,ofLen,ofGo_nil]
 | t::r,pre,s,p,m,hz,hne,hs,hp,hm=>by
   have hlp:=List.length_pos_iff.2 hne;have hg:=goes_same (t:=t) (hs _ p hp);rw[show pre.length - 1+1=pre.length by omega]at hg;cases hgo:goesP p t with
   | true =>
     rw[grp,hgo,ui rfl,opS_snoc (yD s) hne];have e:pre++t::r=(pre++[t])++r:=by simp
     rw[e];refine grp_eq r (pre++[t]) s t m (fun u hu=>hz u (by simp[hu])) (by simp) ?_ (by simp) (by simp at hm; omega);intro i u hi;by_cases hil:i < pre.length
     · rw[Qc hil]at hi; exact hs i u hi
     · rw [Qb (by omega)] at hi
       have h0:i - pre.length=0:=by
        have:=(uc.1 hi).1;simp at this; omega
       rw[h0]at hi;obtain rfl:t=u:=by simpa using hi
       rw[show i=pre.length by omega,← hg,hgo]
   | false =>
     rw[grp,hgo,ud (by simp)];have h:=vy (K:=kindP s) (f:=s.at_) (t::r) pre 0 (by simpa using hs);have h0:ofLen (kindP s) s.at_ (t::r) (0+pre.length)=0:=by rw[Qu,ofLen,ud (by rw[← hg,hgo]; simp)]
     rw[h,h0,Nat.add_zero,List.take_left',List.drop_left']
     · congr 1
       obtain⟨m',rfl⟩:∃m',m=m'+1:=⟨m - 1,by simp at hm; omega⟩
       rw[ofGo];rw[← opS_one (hz t (by simp))];exact grp_eq r [t] t t m' (fun u hu=>hz u (by simp[hu])) (by simp) (by
        intro i u hi;cases i with
        | zero=>simp at hi; subst hi; simp[sameK]
        | succ i=>simp at hi) rfl (by simp at hm; omega)
     · rfl
     · rfl
theorem ofL_eq {l:List Sym}(hz:∀t∈l,t.old=false→t.at_=0):ofL l=ofP l:=by
 cases l with
 | nil=>rfl
 | cons s r =>
   show grp (extO (newO s) s) s r=ofGo (r.length+1) (s::r)
   rw[ofGo,← opS_one (hz s (by simp))];exact grp_eq r [s] s s r.length (fun u hu=>hz u (by simp[hu])) (by simp) (by
    intro i u hi;cases i with
    | zero=>simp at hi; subst hi; simp[sameK]
    | succ i=>simp at hi) rfl (uV _)
def OgInv (I:Imm)(l:List Sym)(i:Nat)(cells:List Value)(n:Nat)(dv:Value)(dat:List Int):Prop :=
 (i = 0 ∧ cells = [] ∧ n = 0) ∨ ∃ css done cur prev, 0 < i ∧ l[i - 1]? = some prev ∧ cells = css.flatten ++ [.int .i64 cur.kind, .int .i64 cur.from_, .int .i64 cur.len, .int .u8 0, dv] ∧ All2 (ROp I) css done ∧ (∀ c ∈ css, c.length = 5) ∧
   n=done.length+1∧n≤i∧cur.data=dat∧cur.b=0∧cur.kind=kindP prev∧(0≤cur.len∧cur.len≤(i:Int))∧done++grp cur prev (l.drop i)=ofL l
theorem OgInv.fresh {I I' : Imm} {l : List Sym} {i n m : Nat} {cells : List Value} {d : Option Addr} {e : Nat} {dat : List Int} {s : Sym} (h : OgInv I l i cells n (.slice d m e) dat) (hf : RBytes I' (.slice d m e) dat) (hs : Inl.Sub I I') (hsi : l[i]? = some s) (hng : i = 0 ∨ goesP (atS l (i - 1)) s = false) :
 ∃css done,cells=css.flatten∧All2 (ROp I') css done∧(∀c∈css,c.length=5)∧n=done.length∧n≤i∧done++grp (extO (newO s) s) s (l.drop (i+1))=ofL l:=by
 rcases h with ⟨rfl,rfl,rfl⟩ | ⟨css,done,cur,prev,h0,h1,rfl,h2,h3,h4,h4',h5,h6,h7,h8,h9⟩
 · refine ⟨[], [], rfl, .nil _, by simp, rfl, uV _, ?_⟩
   cases l with
   | nil=>simp at hsi
   | cons t r=>simp at hsi; subst hsi; rfl
 · have hg:goesP prev s=false:=by
    rw[atS_of h1]at hng;exact hng.resolve_left (by omega)
   refine⟨css++[[.int .i64 cur.kind,.int .i64 cur.from_,.int .i64 cur.len,.int .u8 0,.slice d m e]],done++[cur],by simp,All2.snoc (h2.mono fun _ _ h=>h.mono hs) ⟨d,m,e,by rw[h6],by rw[h5]; exact hf⟩,?_,by simp[h4],h4',?_⟩
   · intro c hc
     rcases uX.1 hc with hc | hc
     · exact h3 c hc
     · simp only[uL]at hc; subst hc; rfl
   · rw [← h9, jz hsi, grp, hg, ud (by simp)]
     simp
theorem OgInv.ext {I : Imm} {l : List Sym} {i n : Nat} {cells : List Value} {dv : Value} {dat : List Int} {s : Sym} (h : OgInv I l i cells n dv dat) (hi : i ≠ 0) (hsi : l[i]? = some s) (hg : goesP (atS l (i - 1)) s = true) :
 ∃css done kd fr ln,cells=css.flatten++[.int .i64 kd,.int .i64 fr,.int .i64 ln,.int .u8 0,dv]∧All2 (ROp I) css done∧(∀c∈css,c.length=5)∧n=done.length+1∧n≤i∧kd=kindP s∧(0≤ln∧ln≤(i:Int))∧done++grp (extO ⟨kd,fr,ln,0,dat⟩ s) s (l.drop (i+1))=ofL l:=by
 rcases h with ⟨h,_⟩ | ⟨css,done,cur,prev,h0,h1,rfl,h2,h3,h4,h4',h5,h6,h7,h8,h9⟩
 · exact absurd h hi
 · rw [atS_of h1] at hg
   have hk:kindP prev=kindP s:=by unfold goesP at hg; simp only[xU,xO]at hg; exact hg.1
   refine⟨css,done,cur.kind,cur.from_,cur.len,rfl,h2,h3,h4,h4',by rw[h7,hk],h8,?_⟩;rw[← h9,jz hsi,grp,hg,ui rfl];cases cur
   simp only at h5 h6;subst h5 h6;rfl
theorem OgInv.finish {I I' : Imm} {l : List Sym} {n m : Nat} {cells : List Value} {d : Option Addr} {e : Nat} {dat : List Int} (h : OgInv I l l.length cells n (.slice d m e) dat) (hf : RBytes I' (.slice d m e) dat) (hs : Inl.Sub I I') :
 ∃css,cells=css.flatten∧All2 (ROp I') css (ofL l)∧(∀c∈css,c.length=5)∧n=(ofL l).length:=by
 rcases h with ⟨h0,rfl,rfl⟩ | ⟨css,done,cur,prev,h0,h1,rfl,h2,h3,h4,h4',h5,h6,h7,h8,h9⟩
 · have := Ql.1 h0
   subst this;exact⟨[],rfl,.nil _,by simp,rfl⟩
 · rw [List.drop_length] at h9
   refine⟨css++[[.int .i64 cur.kind,.int .i64 cur.from_,.int .i64 cur.len,.int .u8 0,.slice d m e]],by simp,?_,?_,?_⟩
   · rw [← h9]
     exact All2.snoc (h2.mono fun _ _ h=>h.mono hs) ⟨d,m,e,by rw[h6],by rw[h5]; exact hf⟩
   · intro c hc
     rcases uX.1 hc with hc | hc
     · exact h3 c hc
     · simp only[uL]at hc; subst hc; rfl
   · rw[← h9]; simp[grp,h4]
theorem OgInv.count {I:Imm}{l:List Sym}{n:Nat}{cells:List Value}{dv:Value}{dat:List Int}(h:OgInv I l l.length cells n dv dat):n=(ofL l).length:=by
 rcases h with ⟨h0,rfl,rfl⟩ | ⟨css,done,cur,prev,h0,h1,rfl,h2,h3,h4,h4',h5,h6,h7,h8,h9⟩
 · have := Ql.1 h0
   subst this;rfl
 · rw [List.drop_length] at h9
   rw[← h9]; simp[grp,h4]
theorem right_strange (s:Sym)(n:Int):rightSymR s n = !strange n s:=by
 unfold rightSymR strange inS;cases s.old with
 | false=>simp
 | true =>
   simp only[if_true,Bool.true_and,Bool.not_true,Bool.false_and,Bool.or_false,Bool.not_or];rw[Bool.eq_iff_iff]; simp; omega
structure OgS where
 i:Nat
 n:Nat
 cells:List Value
 a:Option Addr
 c:Nat
 d:Option Addr
 m:Nat
 e:Nat
 dat:List Int
theorem row_lenI {X:List Nat}{w0 w:World}{I0 I:Imm}{L:List Res}{k:Nat}{v:Value}{E:TypeId}{sz n:Nat}{xs:List Value}(h:St X w0 I0 I w L)(hk:L[k]? = some (.row v E sz n xs)):xs.length=n*sz:=(h.hold _ (uf hk)).1
theorem kindR_c (s:Sym)(w0:World)(I0:Imm)(hI:Sat I0 w0):Ctr prog 91 [symV s] w0 (fun v w'=>v = .int .i64 (kindP s)∧Ext w0 I0 w' I0):=by
 refine fn (n:=9) func91 rfl rfl rfl ?_;have hS:=St.start hI;refine QwR (qe (d_box (cs:=[.bool _,.int .i64 _,.int .u8 _]) hS rfl) ?_);clear hS;rintro _ w_1⟨b1,rfl,hS⟩;refine qq hS (Qai rfl) (QoN (xL (QwR (qq hS (qb (o':=0) uB rfl uC rfl rfl rfl) (qq hS (qi 0 QG rfl rfl rfl) (qq hS (g_not rfl) (QoN (qo rfl ?_ ?_))))))))
 ·
  intro hc5;simp only[xT,xS]at hc5;have e:kindP s=4:=by unfold kindP; rw[ui hc5]
  refine QwR (qq hS (Qai rfl) (QoN (ub (uw (ret1 results91 (qr (v:=.int .i64 _) rfl) ?_)))));rw[e]; exact⟨rfl,hS.nil⟩
 ·
  intro hc5;simp only[xT,xS]at hc5;refine xZ (xN (xL (QwR (qq hS (qb (o':=2) uB rfl uJ rfl rfl rfl) (qq hS (qi 0 Qp rfl rfl rfl) (qq hS (g_neq rfl rfl) (QoN (qo rfl ?_ ?_))))))))
  ·
   intro hc8;simp only[xT,xS,xO,xM]at hc8;have e:kindP s=2:=by unfold kindP; rw[ud (by rw[hc5]; decide),ui hc8]
   refine QwR (qq hS (Qai rfl) (QoN (ub (uw (ret1 results91 (qr (v:=.int .i64 _) rfl) ?_)))));rw[e]; exact⟨rfl,hS.nil⟩
  ·
   intro hc8;simp only[xT,xS,xO,xM]at hc8;have e:kindP s=1:=by unfold kindP; rw[ud (by rw[hc5]; decide),ud (by simpa using hc8)]
   refine xZ (xN (QwR (qq hS (Qai rfl) (QoN (ub (ret1 results91 (qr (v:=.int .i64 _) rfl) ?_))))));rw[e]; exact⟨rfl,hS.nil⟩
theorem goesR_c (a b:Sym)(w0:World)(I0:Imm)(hI:Sat I0 w0)(ha:a.wf):Ctr prog 90 [symV a,symV b] w0 (fun v w'=>v = .bool (goesP a b)∧Ext w0 I0 w' I0):=by
 obtain⟨a1,a2,a3,a4⟩:=ha;refine fn (n:=23) func90 rfl rfl rfl ?_;have hS:=St.start hI;refine QwR (qe (d_box (cs:=[.bool _,.int .i64 _,.int .u8 _]) hS rfl) ?_);clear hS;rintro _ w_1⟨b2,rfl,hS⟩;refine qe (d_box (cs:=[.bool _,.int .i64 _,.int .u8 _]) hS rfl) ?_;clear hS;rintro _ w_2⟨b3,rfl,hS⟩;refine qq hS (Qab rfl) (QoN (xL (draw (.cons 0 .held (.cons 2 .held (.cons 1 .eff (.cons 3 .eff (.cons 4 .pure (.cons 5 .pure (.cons 6 .pure (.cons 7 .held (.cons 8 .pure (.cons 9 .pure (.cons 10 .pure (.cons 11 .held (.cons 12 .pure (.cons 13 .held (.cons 14 .pure (.cons 15 .pure (.cons 16 .pure (.cons 17 .pure (.cons 18 .pure .nil))))))))))))))))))) mixed (by kernel_rfl) hS ?_)));intro w_3 hS;refine sh rfl (g_ldO 1 (vs:=[.bool _,.int .i64 _,.int .u8 _]) uN Jd rfl rfl rfl rfl) (sh rfl (g_ldO 0 (vs:=[.bool _,.int .i64 _,.int .u8 _]) uN Jd rfl rfl rfl rfl) ?_);have hS0:=hS;refine se rfl (ql call91 rfl (kindR_c a _ _ hS.imm)) ?_;rintro _ w_4⟨rfl,hE⟩;replace hS:=hS.call hE;refine⟨_,_,hS0.le hE.ext (xY _),hS,?_⟩;have hS0:=hS;refine se rfl (ql call91 rfl (kindR_c b _ _ hS.imm)) ?_;rintro _ w_5⟨rfl,hE⟩;replace hS:=hS.call hE;refine⟨_,_,hS0.le hE.ext (xY _),hS,sp rfl (g_eql rfl rfl) (sp rfl (Qmb rfl) (spu rfl rfl rfl (fun hg=>(qb (o':=0) uB rfl uC rfl rfl rfl)) ?_))⟩;intro u11 hu11 hn11;refine shu rfl rfl rfl (fun hg=>(qi 1 QG rfl (hu11 hg) rfl)) ?_;intro u12 hu12 hn12;refine spu rfl rfl rfl (fun hg=>(g_not (hu12 hg))) ?_;intro u13 hu13 hn13;refine spu rfl rfl rfl (fun hg=>(qf (hu13 hg))) ?_;intro u14 hu14 hn14
 refine spn (P:=prog) rfl rfl (C:=_) hu14 hn14 (fun hg=>(qb (o':=1) uB rfl xX rfl rfl rfl)) ?_;intro u15 hu15 hn15;refine shn (P:=prog) rfl rfl (C:=_) hu14 hn14 (fun hg=>(qi 0 uj rfl (hu15 hg) rfl)) ?_;intro u16 hu16 hn16;refine spn (P:=prog) rfl rfl (C:=_) hu14 hn14 (fun hg=>(qb (o':=1) uB rfl xX rfl rfl rfl)) ?_;intro u17 hu17 hn17;refine shn (P:=prog) rfl rfl (C:=_) hu14 hn14 (fun hg=>(qi 1 uj rfl (hu17 hg) rfl)) ?_;intro u18 hu18 hn18;refine spn (P:=prog) rfl rfl (C:=_) hu14 hn14 (fun hg=>(g_add (hu18 hg) rfl (by omega) (by omega))) ?_;intro u19 hu19 hn19;refine spn (P:=prog) rfl rfl (C:=_) hu14 hn14 (fun hg=>(g_eql (hu16 hg) (hu19 hg))) ?_;intro u20 hu20 hn20;refine spu rfl rfl rfl (fun hg=>(g_or (hu14 hg) rfl (fun hq=>hu20 ⟨hg,hq⟩))) ?_;intro u21 hu21 hn21;refine sp rfl (g_and rfl rfl (fun hq=>hu21 hq)) (sp rfl (Qab rfl) (sn (xN (ub (ret1 results90 (qr (v:=.bool _) rfl) ?_)))));exact⟨rfl,hS.nil⟩
set_option maxRecDepth 20000 in
set_option maxHeartbeats 4000000 in
theorem refOf_c (ad : Option Addr) (cap : Nat) (l : List Sym) (size : Int) (w0 : World) (I0 : Imm) (hI : Sat I0 w0) (hl : RSyms I0 (.slice ad l.length cap) l) (hw : ∀ s ∈ l, s.wf) (hm : Mid size) :
 Ctr prog 58 [.slice ad l.length cap,.int .i64 size] w0 (fun v w'=>∃I' a m c,v = .tuple #[.agg #[.bool (ofPP l size).1.lifted,.int .i64 (ofPP l size).1.in_,.int .i64 (ofPP l size).1.out,.slice a m c],.int .i64 (ofPP l size).2]∧Ext w0 I0 w' I'∧ROps I' (.slice a m c) (ofPP l size).1.ops):=by
 have hll:=RSl.le hl;simp only[maxLen]at hll;refine fn (n:=106) func58 rfl rfl rfl ?_;have hS:=St.start hI;refine QwR (qe (qw (cs:=[.bool _,.int .i64 _,.int .i64 _,.slice _ _ _]) hS uQ rfl) ?_);clear hS;rintro _ w_1⟨b4,rfl,hS⟩;refine qq hS (Qai rfl) (QoN (xL (QwR (qq hS (Qmi rfl) (qe (ql call88 rfl (in_c _ _ _ _ I0 hS.imm)) ?_)))));rintro _ w_2⟨rfl,hE⟩;replace hS:=hS.callE hE;refine qq hS (g_not rfl) (qq hS (Qmb rfl) (qu rfl rfl hS (fun hg=>(qk _)) ?_));intro u13 hu13 hn13;refine qu rfl rfl hS (fun hg=>(qz rfl uG (hl.mono hS.ext) (hu13 hg))) ?_;intro u14 hu14 hn14;refine qu rfl rfl hS (fun hg=>(g_gtr (hu14 hg) rfl)) ?_;intro u15 hu15 hn15;refine qq hS (g_or rfl rfl (fun hq=>hu15 hq)) (QoN (qo rfl ?_ ?_))
 ·
  intro hc16;clear hu13 hn13 hu14 hn14 hu15 hn15;have e:ofPP l size=(PatL.zero,60):=by
   unfold ofPP;rw[ui];simp only[inS,xV,xT,xQ,xO,xM]at hc16 ⊢;refine .inl ?_;rcases hc16 with h | h
   · by_cases h0 : 0 ≤ size
     · have:=h h0; omega
     · omega
   · omega
  refine QwR (qq hS (qv (pl:=[(0,1),(1,1),(2,1),(3,1)]) (cs:=[.bool _,.int .i64 _,.int .i64 _,.slice _ _ _]) uQ uu (fun w=>by simp[xX,uC,Qt]) mp0 rfl) (qe (qj 0 hS ul rfl rfl rfl (vs:=[.bool _,.int .i64 _,.int .i64 _,.slice _ _ _]) rfl rfl rfl (xP rfl) (cs':=[_,_,_,_]) rfl) ?_));clear hS;rintro _ w_3⟨rfl,hS⟩;refine qq hS (Qai rfl) (QoN (ub (uw (ret2 results58 (qD 0 hS ul uO rfl rfl rfl) (qr (v:=.int .i64 _) rfl) ?_))));rw[e]; exact⟨_,none,0,0,rfl,hS.nil,RSl.nilR⟩
 ·
  intro hc16;clear hu13 hn13 hu14 hn14 hu15 hn15;simp only[inS,xR,xS,xU,xO,xM]at hc16;obtain⟨⟨hn0,hn1⟩,hn2⟩:=hc16;refine xZ (xN (QwR (qq hS (Qmi rfl) (qq hS (qk _) (qq hS (qz rfl uG (hl.mono hS.ext) rfl) (qq hS (qv (pl:=[(0,1),(1,1),(2,1),(3,1)]) (cs:=[.bool _,.int .i64 _,.int .i64 _,.slice _ _ _]) uQ uu (fun w=>by simp[xX,uC,Qt]) (mp (v:=.int .i64 _) rfl (mp (v:=.int .i64 _) rfl mp0)) rfl) ?_))))));refine qe (qw (cs:=[.bool _,.int .i64 _,.int .i64 _,.slice _ _ _]) hS uQ rfl) ?_;clear hS;rintro _ w_4⟨b6,rfl,hS⟩;refine qe (qj 0 hS ul rfl rfl rfl (vs:=[.bool _,.int .i64 _,.int .i64 _,.slice _ _ _]) rfl rfl rfl (xP rfl) (cs':=[_,_,_,_]) rfl) ?_;clear hS;rintro _ w_5⟨rfl,hS⟩;refine QoN (xL (QwR (qq hS (Qai rfl) (QoN (uk (loop (fun(x:OgS) σ w=>okS σ [(0,.slice ad l.length cap),(1,.int .i64 size),(4,.pointer (some ⟨b4,0,none⟩)),(6,.pointer (some ⟨b6,0,none⟩)),(7,.int .i64 x.i)]∧∃I,St [] w0 I0 I w [.row (.slice x.a x.n x.c) 102 5 x.n x.cells,.row (.slice x.d x.m x.e) 5 1 x.m (flat byteC x.dat),.cel b6 46 [.bool false,.int .i64 size,.int .i64 l.length,.slice x.a x.n x.c],.cel b4 46 [.bool false,.int .i64 0,.int .i64 0,.slice none 0 0]]∧x.i≤l.length∧OgInv I l x.i x.cells x.n (.slice x.d x.m x.e) x.dat∧(∀s∈l.take x.i,strange size s=false)∧x.dat.length≤x.i) (fun x=>l.length - x.i) (⟨0,0,[],none,0,none,0,0,[]⟩) ?_ ?_))))))
  ·
   exact⟨⟨rfl,rfl,rfl,rfl,rfl,trivial⟩,_,((hS.sel [true,true]).nilRow 5 1).nilRow 102 5,by simp,.inl ⟨rfl,rfl,rfl⟩,by simp,by simp⟩
  ·
   rintro⟨i,n,cells,a,c,d,m,e,dat⟩σ w_l⟨hs,I,hS,hi0,hinv,hstr,hdl⟩;dsimp only at hs hS hi0 hinv hstr hdl ⊢;rw[← qx hs]; clear hs
   have hml:=row_lenI hS (k:=1) rfl;rw[qW kz,Nat.mul_one,Nat.mul_one]at hml;refine xL (QwR (qq hS (Qmi rfl) (qq hS (qk _) (qq hS (qz rfl uG (hl.mono hS.ext) rfl) (qq hS (g_lss rfl rfl) (QoN (qo rfl ?_ ?_)))))))
   ·
    intro hc25
    try simp only[zA,zO,zN,zI,zF,zM,zT,zU]at hc25
    obtain⟨s,hsi⟩:∃s,l[i]? = some s:=⟨_,xW (by omega)⟩
    have hsA:=(hl.mono hS.ext).at hsi;have hpi:0 < i→l[((i:Int) - 1).toNat]? = some (atS l (i - 1)):=fun h=>by rw[show((i:Int) - 1).toNat=i - 1 by omega]; exact atS_some (by omega)
    have hpA:=fun h=>(hl.mono hS.ext).at (hpi h)
    refine xZ (xN (xL (uk (xL (QwR (qq hS (qk _) (qq hS (Qmi rfl) (qq hS (g_ixI uG uN (hl.mono hS.ext) rfl rfl (by omega) (by omega)) (qq hS (g_ldE (us:=[.bool _,.int .i64 _,.int .u8 _]) uN Jd hsA rfl rfl rfl) (qq hS (Qmi rfl) (qe (ql call89 rfl (rightSym_c s size _ _ hS.imm hm)) ?_)))))))))));rintro _ w_6⟨rfl,hE⟩;replace hS:=hS.callE hE;refine qq hS (g_not rfl) (QoN (qo rfl ?_ ?_))
    ·
     intro hc34;have e:ofPP l size=(PatL.zero,60):=by
      unfold ofPP;rw[ui];rw[right_strange]at hc34;have:l.any (strange size)=true:=List.any_eq_true.2 ⟨s,uf hsi,by simpa using hc34⟩;rw[this,Bool.or_true]
     refine QwR (qq hS (qv (pl:=[(0,1),(1,1),(2,1),(3,1)]) (cs:=[.bool _,.int .i64 _,.int .i64 _,.slice _ _ _]) uQ uu (fun w=>by simp[xX,uC,Qt]) mp0 rfl) (qe (qj 3 hS ul rfl rfl rfl (vs:=[.bool _,.int .i64 _,.int .i64 _,.slice _ _ _]) rfl rfl rfl (xP rfl) (cs':=[_,_,_,_]) rfl) ?_));clear hS;rintro _ w_7⟨rfl,hS⟩;refine qq hS (Qai rfl) (QoN (ub (uw (Qs (uw (uw (Qs (uw (ret2 results58 (qD 3 hS ul uO rfl rfl rfl) (qr (v:=.int .i64 _) rfl) ?_)))))))));rw[e]; exact⟨_,none,0,0,rfl,hS.nil,RSl.nilR⟩
    ·
     intro hc34;have hst:strange size s=false:=by rw[right_strange]at hc34; simpa using hc34
     refine xZ (xN (meet (fun σ w=>∃I css done kd fr ln d m e dat a n c,okS σ [(0,.slice ad l.length cap),(1,.int .i64 size),(4,.pointer (some ⟨b4,0,none⟩)),(6,.pointer (some ⟨b6,0,none⟩)),(7,.int .i64 i)]∧St [] w0 I0 I w [.row (.slice a n c) 102 5 n (css.flatten++[.int .i64 kd,.int .i64 fr,.int .i64 ln,.int .u8 0,.slice d m e]),.row (.slice d m e) 5 1 m (flat byteC dat),.cel b6 46 [.bool false,.int .i64 size,.int .i64 l.length,.slice a n c],.cel b4 46 [.bool false,.int .i64 0,.int .i64 0,.slice none 0 0]]∧All2 (ROp I) css done∧(∀c∈css,c.length=5)∧n=done.length+1∧n≤i+1∧m=dat.length∧dat.length≤i∧kd=kindP s∧(0≤ln∧ln≤(i:Int))∧done++grp (extO ⟨kd,fr,ln,0,dat⟩ s) s (l.drop (i+1))=ofL l) ?_ ?_))
     ·
      refine xL (draw (.cons 0 .pure (.cons 1 .pure (.cons 2 .pure (.cons 3 .pure (.cons 4 .pure (.cons 5 .pure (.cons 6 .pure (.cons 7 .held (.cons 8 .pure (.cons 9 .pure (.cons 10 .pure (.cons 11 .held (.cons 12 .eff (.cons 13 .pure (.cons 14 .pure .nil))))))))))))))) mixed (by kernel_rfl) hS ?_);intro w_8 hS;refine sp rfl (Qmi rfl) (sp rfl (g_eql rfl rfl) (sp rfl (Qmb rfl) (spu rfl rfl rfl (fun hg=>(qk _)) ?_)));intro u39 hu39 hn39;refine spu rfl rfl rfl (fun hg=>(Qmi rfl)) ?_;intro u40 hu40 hn40;refine spu rfl rfl rfl (fun hg=>(g_sub (hu40 hg) rfl (by omega) (by omega))) ?_;intro u41 hu41 hn41;refine spu rfl rfl rfl (fun hg=>(g_ixI uG uN (hl.mono hS.ext) (hu39 hg) (hu41 hg) (by simp only[xM]at hg; omega) (by simp only[xM]at hg; omega))) ?_;intro u42 hu42 hn42;refine shu rfl rfl rfl (fun hg=>(g_ldE (us:=[.bool _,.int .i64 _,.int .u8 _]) uN Jd (hpA (by simp only[xM]at hg; omega)) (hu42 hg) rfl rfl)) ?_;intro u43 hu43 hn43;refine spu rfl rfl rfl (fun hg=>(qk _)) ?_;intro u44 hu44 hn44;refine spu rfl rfl rfl (fun hg=>(Qmi rfl)) ?_;intro u45 hu45 hn45;refine spu rfl rfl rfl (fun hg=>(g_ixI uG uN (hl.mono hS.ext) (hu44 hg) (hu45 hg) (by omega) (by omega))) ?_;intro u46 hu46 hn46;refine shu rfl rfl rfl (fun hg=>(g_ldE (us:=[.bool _,.int .i64 _,.int .u8 _]) uN Jd hsA (hu46 hg) rfl rfl)) ?_;intro u47 hu47 hn47;refine scu rfl rfl rfl hS (fun hg=>(ql call90 (ml (hu43 hg) (ml (hu47 hg) ml0)) (goesR_c (atS l (i - 1)) s _ _ hS.imm (hw _ (uf (hpi (by simp only[xM]at hg; omega))))))) ?_;intro w_10 u48 hS hu48 hn48
      refine spu rfl rfl rfl (fun hg=>(g_not (hu48 hg))) ?_;intro u49 hu49 hn49;refine sp rfl (g_or rfl rfl (fun hq=>hu49 hq)) (sn (xN (qo rfl ?_ ?_)))
      ·
       intro hc50;clear hu39 hn39 hu40 hn40 hu41 hn41 hu42 hn42 hu43 hn43 hu44 hn44 hu45 hn45 hu46 hn46 hu47 hn47 hu48 hn48 hu49 hn49;have hng:i=0∨goesP (atS l (i - 1)) s=false:=by
        simp only[xV,xO,xT]at hc50;rcases hc50 with h | h
        · exact .inl (by omega)
        · exact .inr h
       obtain⟨I9,hS9,hI9,hd9⟩:=St.freezeRow kz (xs:=dat) (hS.ord [1,0,2,3]) hml.symm;obtain⟨css,done,rfl,hall,hcl5,hnd,hni,hgr⟩:=hinv.fresh hd9 hI9 hsi hng;clear hS;replace hS:=hS9;clear hS9;replace hsA:=hsA.mono hI9;refine draw (.cons 0 .pure (.cons 1 .held (.cons 2 .pure (.cons 3 .pure (.cons 4 .pure (.cons 5 .held (.cons 7 .pure (.cons 8 .pure (.cons 9 .pure (.cons 10 .pure (.cons 11 .held (.cons 6 .eff (.cons 12 .pure (.cons 13 .eff (.cons 14 .bar (.cons 15 .pure (.cons 16 .bar .nil))))))))))))))))) mixed (by kernel_rfl) hS ?_;intro w_11 hS;refine sp rfl (qb (o':=3) uu rfl Qt rfl rfl rfl) (sh rfl (qi 1 JA rfl rfl rfl) (sp rfl (qk _) (sp rfl (Qmi rfl) (sp rfl (g_ixI uG uN (hl.mono hS.ext) rfl rfl (by omega) (by omega)) (sh rfl (g_ldE (us:=[.bool _,.int .i64 _,.int .u8 _]) uN Jd hsA rfl rfl rfl) (sp rfl (qk _) (sp rfl (Qmi rfl) (sp rfl (g_ixI uG uN (hl.mono hS.ext) rfl rfl (by omega) (by omega)) ?_))))))));refine sp rfl (qF (c':=1) uB rfl xX rfl rfl rfl) (sh rfl (qC uj hsA rfl rfl) ?_);have hS0:=hS;refine se rfl (ql call91 rfl (kindR_c s _ _ hS.imm)) ?_;rintro _ w_12⟨rfl,hE⟩;replace hS:=hS.call hE;refine⟨_,_,hS0.le hE.ext (xY _),hS,sp rfl (qv (pl:=[(0,1),(1,1),(2,1),(3,1),(4,1)]) (cs:=[.int .i64 _,.int .i64 _,.int .i64 _,.int .u8 _,.slice _ _ _]) Jp uE (fun w=>by simp[Jf,xX,uJ]) (mp (v:=.int .i64 _) rfl (mp (v:=.int .i64 _) rfl mp0)) rfl) ?_⟩;have hS0:=hS;refine se rfl (d_lit (vs:=[.agg #[.int .i64 _,.int .i64 _,.int .i64 _,.int .u8 _,.slice _ _ _]]) (cs:=[.int .i64 _,.int .i64 _,.int .i64 _,.int .u8 _,.slice _ _ _]) hS QC QD Jp rfl rfl rfl rfl (fun v hv=>by simp only[uq,ur,or_false]at hv; subst hv; rfl) rfl) ?_
       rintro _ w_13⟨l64,rfl,hS⟩;refine⟨_,_,hS0.le (Sub.refl _) (ue _ _),hS,sb rfl (qE 1 0 hS rfl QC info102 rfl rfl rfl rfl rfl rfl rfl rfl (by omega) (by omega)) ?_⟩;rintro _ w_14⟨a65,p65,rfl,hS⟩;refine⟨_,_,hS,sp rfl (qb (o':=3) uu rfl Qt rfl rfl rfl) (sb rfl (qj 2 hS Qt rfl rfl rfl (vs:=[.slice _ _ _]) rfl rfl rfl (xP rfl) (cs':=[_,_,_,_]) rfl) ?_)⟩;rintro _ w_15⟨rfl,hS⟩;refine⟨_,_,hS,sn (xN ?_)⟩
       first
        | exact⟨_,rfl,_,css,done,kindP s,s.at_,0,none,0,0,[],a65,n+1,p65,⟨rfl,rfl,rfl,rfl,rfl,trivial⟩,((hS.sel [false,true,true,true]).nilRow 5 1).ord [1,0,2,3],hall,hcl5,by omega,by omega,rfl,by simp,rfl,by omega,hgr⟩
        | exact⟨_,rfl,_,css,done,kd,fr,ln,d,m,e,dat,a,n,c,⟨rfl,rfl,rfl,rfl,rfl,trivial⟩,hS.sel [false,true,true,true],hall,hcl5,hnd,by omega,hml.symm,hdl,hkd,hln,hgr⟩
      ·
       intro hc50;clear hu39 hn39 hu40 hn40 hu41 hn41 hu42 hn42 hu43 hn43 hu44 hn44 hu45 hn45 hu46 hn46 hu47 hn47 hu48 hn48 hu49 hn49;simp only[xR,xM,xS]at hc50;obtain⟨css,done,kd,fr,ln,rfl,hall,hcl5,hnd,hni,hkd,hln,hgr⟩:=hinv.ext (by omega) hsi hc50.2;refine xZ (xN ?_)
       first
        | exact⟨_,rfl,_,css,done,kindP s,s.at_,0,none,0,0,[],a65,n+1,p65,⟨rfl,rfl,rfl,rfl,rfl,trivial⟩,((hS.sel [true,true,true,true]).nilRow 5 1).ord [1,0,2,3],hall,hcl5,by omega,by omega,rfl,by simp,rfl,by omega,hgr⟩
        | exact⟨_,rfl,_,css,done,kd,fr,ln,d,m,e,dat,a,n,c,⟨rfl,rfl,rfl,rfl,rfl,trivial⟩,hS.sel [true,true,true,true],hall,hcl5,hnd,by omega,hml.symm,hdl,hkd,hln,hgr⟩
     ·
      rintro σ w⟨I,css,done,kd,fr,ln,d,m,e,dat,a,n,c,hs,hS,hall,hcl5,hnd,hni,hmd,hdi,hkd,hln,hgr⟩;have hsA:=(hl.mono hS.ext).at hsi;rw[← qx hs];refine xL ?_;obtain⟨bo,rest,rfl,hnc,hcm,hrl,hxl,hS9⟩:=hS.rowCel 0 rfl (by omega);replace hS:=hS9;clear hS9;have hpre:(n - 1)*5=css.flatten.length:=by
       rw[ug]at hxl;simp only[uP,List.length_nil]at hxl;omega
      rw[Qr]at hS;refine reg (qq hS (qb (o':=3) uu rfl Qt rfl rfl rfl) (qq hS (qi 2 JA rfl rfl rfl) (qq hS (qb (o':=3) uu rfl Qt rfl rfl rfl) (qq hS (qi 2 JA rfl rfl rfl) (qq hS (yW rfl QC rfl) (qq hS (g_sub rfl rfl (by omega) (by omega)) (qq hS (qM (o:=(n - 1)*5) QC QD rfl rfl (by omega) (by omega) (by omega)) ?_)))))));refine qq hS (qy _) (QoR (qq hS (qk _) (qq hS (qJ rfl) (qq hS (qb (o':=(n - 1)*5+2) uE rfl xX rfl rfl rfl) (qq hS (yd 0 (c:=2) uj rfl hpre rfl rfl) (qq hS (g_add rfl rfl (by omega) (by omega)) (qq hS (qJ rfl) (qq hS (qb (o':=(n - 1)*5+2) uE rfl xX rfl rfl rfl) (qe (jP 0 (c:=2) hS xX rfl hpre rfl rfl (vs:=[.int .i64 _]) rfl rfl rfl (xP rfl) (row':=[_,_,_,_,_]) rfl) ?_)))))))));clear hS;rintro _ w_16⟨rfl,hS⟩;refine QoR (qq hS (qk _) (qq hS (qJ rfl) (qq hS (qb (o':=(n - 1)*5+0) uE rfl xX rfl rfl rfl) (qq hS (yd 0 (c:=0) uj rfl hpre rfl rfl) (qq hS (g_neq rfl rfl) (QoN (qo rfl ?_ ?_)))))))
      ·
       intro hc85;simp only[xT,xM,xS,xO]at hc85;have hds:datS kd s=[s.b]:=by unfold datS; rw[ud hc85]
       refine draw (.cons 0 .pure (.cons 1 .pure (.cons 2 .pure (.cons 3 .pure (.cons 4 .held (.cons 5 .pure (.cons 6 .pure (.cons 7 .pure (.cons 8 .pure (.cons 9 .held (.cons 10 .eff (.cons 11 .bar (.cons 12 .pure (.cons 13 .pure (.cons 14 .bar .nil))))))))))))))) mixed (by kernel_rfl) hS ?_;intro w_17 hS;refine sp rfl (qk _) (sp rfl (qk _) (sp rfl (qJ rfl) (sp rfl (qb (o':=(n - 1)*5+4) uE rfl Jf rfl rfl rfl) (sh rfl (yd 0 (c:=4) JM rfl hpre rfl rfl) (sp rfl (qk _) (sp rfl (Qmi rfl) (sp rfl (g_ixI uG uN (hl.mono hS.ext) rfl rfl (by omega) (by omega)) (sp rfl (qF (c':=2) uB rfl uJ rfl rfl rfl) ?_))))))));refine sh rfl (qC Qp hsA rfl rfl) ?_;have hS0:=hS;refine se rfl (d_lit (vs:=[.int .u8 _]) (cs:=[.int .u8 _]) hS uU uJ Kz rfl rfl rfl rfl (fun v hv=>by simp only[uq,ur,or_false]at hv; subst hv; rfl) rfl) ?_;rintro _ w_18⟨l96,rfl,hS⟩;refine⟨_,_,hS0.le (Sub.refl _) (ue _ _),hS,sb rfl (qE 2 0 hS rfl uU info5 rfl rfl rfl rfl rfl rfl rfl rfl (by omega) (by omega)) ?_⟩;rintro _ w_19⟨a97,p97,rfl,hS⟩;refine⟨_,_,hS,sp rfl (qJ rfl) (sp rfl (qb (o':=(n - 1)*5+4) uE rfl Jf rfl rfl rfl) (sb rfl (jP 1 (c:=4) hS Jf rfl hpre rfl rfl (vs:=[.slice _ _ _]) rfl rfl rfl (xP rfl) (row':=[_,_,_,_,_]) rfl) ?_))⟩;rintro _ w_20⟨rfl,hS⟩;refine⟨_,_,hS,sn (Qh (xN (reg (qq hS (Qmi rfl) (qq hS (g_add rfl rfl (by omega) (by omega)) (qq hS (Qai rfl) ?_))))))⟩
       first
        | (have hS9 := (hS.sel [false, true, true, true, true]).celRow 0 (n := n) (c := c) (xs := css.flatten ++ [.int .i64 kd, .int .i64 fr, .int .i64 (ln + 1), .int .u8 0, .slice a97 (m + 1) p97]) (rest := rest) (by rw [Qr]; rfl) (by rw [← hxl]; simp only [ug, uP]) hnc hcm (by rw [← hrl]; simp only [ug, uP])
           refine⟨⟨i+1,n,css.flatten++[.int .i64 kd,.int .i64 fr,.int .i64 (ln+1),.int .u8 0,.slice a97 (m+1) p97],some ⟨bo,0,none⟩,c,a97,(m+1),p97,dat++datS kd s⟩,_,rfl,⟨⟨rfl,rfl,rfl,rfl,rfl,trivial⟩,_,?_,by dsimp only; omega,.inr ⟨css,done,extO ⟨kd,fr,ln,0,dat⟩ s,s,Nat.succ_pos i,hsi,rfl,hall,hcl5,hnd,by omega,rfl,rfl,hkd,by show 0≤ln+1∧ln+1≤((i+1:Nat):Int); omega,hgr⟩,jX hsi hstr hst,by rw[ug,hds]; simp; omega⟩,by dsimp only; omega⟩;dsimp only;rw[hds,qB,jg];exact hS9)
        | (have hS9 := (hS.sel [false, true, true, true, true]).celRow 0 (n := n) (c := c) (xs := css.flatten ++ [.int .i64 kd, .int .i64 fr, .int .i64 (ln + 1), .int .u8 0, .slice d m e]) (rest := rest) (by rw [Qr]; rfl) (by rw [← hxl]; simp only [ug, uP]) hnc hcm (by rw [← hrl]; simp only [ug, uP])
           refine⟨⟨i+1,n,css.flatten++[.int .i64 kd,.int .i64 fr,.int .i64 (ln+1),.int .u8 0,.slice d m e],some ⟨bo,0,none⟩,c,d,m,e,dat++datS kd s⟩,_,rfl,⟨⟨rfl,rfl,rfl,rfl,rfl,trivial⟩,_,?_,by dsimp only; omega,.inr ⟨css,done,extO ⟨kd,fr,ln,0,dat⟩ s,s,Nat.succ_pos i,hsi,rfl,hall,hcl5,hnd,by omega,rfl,rfl,hkd,by show 0≤ln+1∧ln+1≤((i+1:Nat):Int); omega,hgr⟩,jX hsi hstr hst,by rw[ug,hds]; simp; omega⟩,by dsimp only; omega⟩;dsimp only;rw[hds,List.append_nil];exact hS9)
      ·
       intro hc85;simp only[xT,xM,xS,xO]at hc85;have hds:datS kd s=[]:=by unfold datS; rw[ui hc85]
       refine xZ (Qh (xN (reg (qq hS (Qmi rfl) (qq hS (g_add rfl rfl (by omega) (by omega)) (qq hS (Qai rfl) ?_))))))
       first
        | (have hS9 := (hS.sel [true, true, true, true]).celRow 0 (n := n) (c := c) (xs := css.flatten ++ [.int .i64 kd, .int .i64 fr, .int .i64 (ln + 1), .int .u8 0, .slice a97 (m + 1) p97]) (rest := rest) (by rw [Qr]; rfl) (by rw [← hxl]; simp only [ug, uP]) hnc hcm (by rw [← hrl]; simp only [ug, uP])
           refine⟨⟨i+1,n,css.flatten++[.int .i64 kd,.int .i64 fr,.int .i64 (ln+1),.int .u8 0,.slice a97 (m+1) p97],some ⟨bo,0,none⟩,c,a97,(m+1),p97,dat++datS kd s⟩,_,rfl,⟨⟨rfl,rfl,rfl,rfl,rfl,trivial⟩,_,?_,by dsimp only; omega,.inr ⟨css,done,extO ⟨kd,fr,ln,0,dat⟩ s,s,Nat.succ_pos i,hsi,rfl,hall,hcl5,hnd,by omega,rfl,rfl,hkd,by show 0≤ln+1∧ln+1≤((i+1:Nat):Int); omega,hgr⟩,jX hsi hstr hst,by rw[ug,hds]; simp; omega⟩,by dsimp only; omega⟩;dsimp only;rw[hds,qB,jg];exact hS9)
        | (have hS9 := (hS.sel [true, true, true, true]).celRow 0 (n := n) (c := c) (xs := css.flatten ++ [.int .i64 kd, .int .i64 fr, .int .i64 (ln + 1), .int .u8 0, .slice d m e]) (rest := rest) (by rw [Qr]; rfl) (by rw [← hxl]; simp only [ug, uP]) hnc hcm (by rw [← hrl]; simp only [ug, uP])
           refine⟨⟨i+1,n,css.flatten++[.int .i64 kd,.int .i64 fr,.int .i64 (ln+1),.int .u8 0,.slice d m e],some ⟨bo,0,none⟩,c,d,m,e,dat++datS kd s⟩,_,rfl,⟨⟨rfl,rfl,rfl,rfl,rfl,trivial⟩,_,?_,by dsimp only; omega,.inr ⟨css,done,extO ⟨kd,fr,ln,0,dat⟩ s,s,Nat.succ_pos i,hsi,rfl,hall,hcl5,hnd,by omega,rfl,rfl,hkd,by show 0≤ln+1∧ln+1≤((i+1:Nat):Int); omega,hgr⟩,jX hsi hstr hst,by rw[ug,hds]; simp; omega⟩,by dsimp only; omega⟩;dsimp only;rw[hds,List.append_nil];exact hS9)
   ·
    intro hc25
    try simp only[zA,zO,zN,zI,zF,zM,zT,zU]at hc25
    have hil:i=l.length:=by omega
    subst hil;rw[Qq]at hstr;have hok:okL size l:=hstr;have hany:l.any (strange size)=false:=by rw[List.any_eq_false]; intro s hs; rw[hok s hs]; simp
    have hofl:ofL l=ofP l:=ofL_eq (fun t ht ho=>by have:=hok t ht; unfold strange at this; rw[ho]at this; simpa using this);have hcnt:=hinv.count;rw[hofl]at hcnt;have e0:ofPP l size=if 4096 < ((ofP l).length:Int) then (PatL.zero,2) else (⟨false,size,l.length,ofP l⟩,0):=by
     unfold ofPP;rw[ud];simp only[hany,Bool.or_false,xV,xO];omega
    refine uD (uA (uA (Qw (xN (xL (QwR (qq hS (qb (o':=3) uu rfl Qt rfl rfl rfl) (qq hS (qi 2 JA rfl rfl rfl) (qq hS (xE 0 rfl QC rfl rfl) (qq hS (g_gtr rfl rfl) (QoN (qo rfl ?_ ?_))))))))))))
    ·
     intro hc103
     try simp only[zA,zO,zN,zI,zF,zM,zT,zU]at hc103
     have e:ofPP l size=(PatL.zero,2):=by rw[e0,ui (by omega)]
     refine QwR (qq hS (qv (pl:=[(0,1),(1,1),(2,1),(3,1)]) (cs:=[.bool _,.int .i64 _,.int .i64 _,.slice _ _ _]) uQ uu (fun w=>by simp[xX,uC,Qt]) mp0 rfl) (qe (qj 3 hS ul rfl rfl rfl (vs:=[.bool _,.int .i64 _,.int .i64 _,.slice _ _ _]) rfl rfl rfl (xP rfl) (cs':=[_,_,_,_]) rfl) ?_));clear hS;rintro _ w_21⟨rfl,hS⟩;refine qq hS (Qai rfl) (QoN (ub (uw (ret2 results58 (qD 3 hS ul uO rfl rfl rfl) (qr (v:=.int .i64 _) rfl) ?_))));rw[e]; exact⟨_,none,0,0,rfl,hS.nil,RSl.nilR⟩
    ·
     intro hc103
     try simp only[zA,zO,zN,zI,zF,zM,zT,zU]at hc103
     have e:ofPP l size=(⟨false,size,l.length,ofP l⟩,0):=by rw[e0,ud (by omega)]
     refine xZ (xN (QwR (qq hS (g_ldO 2 (vs:=[.bool _,.int .i64 _,.int .i64 _,.slice _ _ _]) ul uO rfl rfl rfl rfl) (qe (qj 3 hS ul rfl rfl rfl (vs:=[.bool _,.int .i64 _,.int .i64 _,.slice _ _ _]) rfl rfl rfl (xP rfl) (cs':=[_,_,_,_]) rfl) ?_))));clear hS;rintro _ w_22⟨rfl,hS⟩;refine qq hS (Qai rfl) (QoN (ub (ret2 results58 (qD 3 hS ul uO rfl rfl rfl) (qr (v:=.int .i64 _) rfl) ?_)));obtain⟨I9,hS9,hI9,hd9⟩:=St.freezeRow kz (xs:=dat) (hS.ord [1,0]) hml.symm;obtain⟨css,rfl,hall,hcl5,hnl⟩:=hinv.finish hd9 hI9;obtain⟨I8,hS8,hI8,h8⟩:=St.freezeRowR (xs:=ofL l) hS9 hnl hcl5 hall;rw[e];rw[hofl]at h8;exact⟨I8,a,n,c,rfl,hS8,RSl.mono h8 (Inl.Sub.refl _) fun _ _ h=>h.mono hI8⟩
end Go.Proofs.YtcajgkfgjpfmaaaGreat
