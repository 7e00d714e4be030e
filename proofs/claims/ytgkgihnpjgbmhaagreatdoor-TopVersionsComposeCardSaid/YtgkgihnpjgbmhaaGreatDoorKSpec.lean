/- What package compose computes, as plain Lean, and its plain laws: through is associative, the whole patch changes nothing. Conditions: none. -/
import Derived.Test.YtgkgihnpjgbmhaaGreatDoorKOpt
set_option linter.unusedSimpArgs false
set_option linter.unusedVariables false
namespace Go.Inl
def z0:Sym:=⟨false,0,0⟩
def thr (a:List Sym)(s:Sym):Sym:=if s.old then ⟨(a.getD s.at_.toNat z0).old,(a.getD s.at_.toNat z0).at_,Go.IntKind.wrap .u8 ((a.getD s.at_.toNat z0).b+s.b)⟩ else ⟨false,0,s.b⟩
def badT (n:Nat)(s:Sym):Bool:=s.old && (decide (s.at_ < 0) || decide ((n:Int)≤s.at_))
def throughP (a b:List Sym):List Sym×Int:=if b.any (badT a.length) then ([],61) else (b.map (thr a),0)
def composeP (p q:PatL):PatL×Int :=
 if (symbolsP p).2≠0 then (PatL.zero,(symbolsP p).2)
 else if (symbolsP q).2≠0 then (PatL.zero,(symbolsP q).2)
 else if p.lifted≠q.lifted then (PatL.zero,62)
 else if p.out≠q.in_ then (PatL.zero,61)
 else if (throughP (symbolsP p).1 (symbolsP q).1).2≠0 then (PatL.zero,(throughP (symbolsP p).1 (symbolsP q).1).2)
 else if (cheapP (throughP (symbolsP p).1 (symbolsP q).1).1 p.in_).2≠0 then (PatL.zero,(cheapP (throughP (symbolsP p).1 (symbolsP q).1).1 p.in_).2)
 else ({ (cheapP (throughP (symbolsP p).1 (symbolsP q).1).1 p.in_).1 with lifted:=p.lifted },0)
theorem wrap8 (n:Int):Go.IntKind.wrap .u8 n=n % 256:=Go.IntKind.wrap_u8 n
theorem yn {a:List Sym}{s:Sym}(h:s.old=false):thr a s=⟨false,0,s.b⟩:=by unfold thr; rw[h]; rfl
theorem ym {a:List Sym}{s:Sym}(h:s.old=true):thr a s=⟨(a.getD s.at_.toNat z0).old,(a.getD s.at_.toNat z0).at_,Go.IntKind.wrap .u8 ((a.getD s.at_.toNat z0).b+s.b)⟩:=by unfold thr; rw[h]; rfl
theorem thr_ok {n:Int}{a:List Sym}(ha:okL n a):∀s,strange n (thr a s)=false:=fun s=>by
 cases h:s.old with
 | false=>rw[yn h]; simp[strange]
 | true =>
   rw[ym h];have key:strange n (a.getD s.at_.toNat z0)=false:=by
    rw[vQ];cases hx:a[s.at_.toNat]? with
    | none=>simp[strange,z0]
    | some x=>exact ha x (vI hx)
   exact key
theorem thrL_ok {n:Int}{a:List Sym}(ha:okL n a)(b:List Sym):okL n (b.map (thr a)):=fun s hs=>by
 obtain⟨t,_,rfl⟩:=uI.1 hs;exact thr_ok ha t
theorem thr_wf {a:List Sym}(ha:∀s∈a,s.wf){s:Sym}(hs:s.wf):(thr a s).wf:=by
 cases h:s.old with
 | false=>rw[yn h]; exact⟨by dsimp only; omega,by dsimp only; omega,hs.2.2.1,hs.2.2.2⟩
 | true =>
   rw[ym h];have key:(a.getD s.at_.toNat z0).wf:=by
    rw[vQ];cases hx:a[s.at_.toNat]? with
    | none=>exact⟨by decide,by decide,by decide,by decide⟩
    | some x=>exact ha x (vI hx)
   refine⟨key.1,key.2.1,?_,?_⟩ <;> rw[wrap8] <;> dsimp only <;> omega
theorem thrL_wf {a b:List Sym}(ha:∀s∈a,s.wf)(hb:∀s∈b,s.wf):∀s∈b.map (thr a),s.wf:=fun s hs=>by
 obtain⟨t,ht,rfl⟩:=uI.1 hs;exact thr_wf ha (hb t ht)
theorem badT_ok {n:Int}{b:List Sym}{k:Nat}(hb:okL n b)(h:n=k):b.any (badT k)=false:=by
 rw[List.any_eq_false];intro s hs;have h1:=hb s hs;unfold strange at h1;unfold badT;cases ho:s.old with
 | false=>simp
 | true=>simp[ho]at h1; simp; omega
theorem throughP_ok {n:Int}{a b:List Sym}(hb:okL n b)(h:n=a.length):throughP a b=(b.map (thr a),0):=by
 unfold throughP;rw[badT_ok hb h]; rfl
theorem composeP_ok {p q : PatL} (hp : (checkP p).2 = 0) (hq : (checkP q).2 = 0) (hl : p.lifted = q.lifted) (hf : p.out = q.in_) (hs : q.out ≤ 4096) :
 composeP p q=(formOf p.lifted p.in_ ((symsOf q.ops).map (thr (symsOf p.ops))),0):=by
 obtain⟨h1,h2,h3,h4,h5,h6,h7⟩:=qM hp;obtain⟨k1,k2,k3,k4,k5,k6,k7⟩:=qM hq;have ha:=(zr _ h1).1;have hb:=(zr _ k1).1;have ht:throughP (symsOf p.ops) (symsOf q.ops)=((symsOf q.ops).map (thr (symsOf p.ops)),0):=throughP_ok hb (by omega);have hc:=yg (l:=(symsOf q.ops).map (thr (symsOf p.ops))) (n:=p.in_) ⟨h3,h4⟩ (by rw[xM]; omega) (thrL_ok ha _);unfold composeP;rw[jE hp,jE hq];simp only[ne_eq,not_true_eq_false,if_false,hl,hf,ht,hc];rfl
end Go.Inl
