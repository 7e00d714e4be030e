/- What package compose computes, as plain Lean, and its plain laws: through is associative, the whole patch changes nothing. Conditions: none. -/
import Derived.Test.YtcajgkfgjpfmaaaGreatKOpt
set_option linter.unusedSimpArgs false
set_option linter.unusedVariables false
namespace Go.Inl
def z0:Sym:=⟨false,0,0⟩
def thr (a:List Sym)(s:Sym):Sym:=if s.old then ⟨(a.getD s.at_.toNat z0).old,(a.getD s.at_.toNat z0).at_,Go.IntKind.wrap .u8 ((a.getD s.at_.toNat z0).b+s.b)⟩ else ⟨false,0,s.b⟩
def badT (n:Nat)(s:Sym):Bool:=s.old && (decide (s.at_ < 0) || decide ((n:Int)≤s.at_))
def throughP (a b:List Sym):List Sym×Int:=if b.any (badT a.length) then ([],61) else (b.map (thr a),0)
def composeP (p q:PatL):PatL×Int :=
 if (symbolsP p).2≠0 then (PatL.zero,(symbolsP p).2)
 else if (symbolsP q).2≠0 then (PatL.zero,(symbolsP q).2)
 else if p.lifted≠q.lifted then (PatL.zero,62)
 else if p.out≠q.in_ then (PatL.zero,61)
 else if (throughP (symbolsP p).1 (symbolsP q).1).2≠0 then (PatL.zero,(throughP (symbolsP p).1 (symbolsP q).1).2)
 else if (cheapP (throughP (symbolsP p).1 (symbolsP q).1).1 p.in_).2≠0 then (PatL.zero,(cheapP (throughP (symbolsP p).1 (symbolsP q).1).1 p.in_).2)
 else ({ (cheapP (throughP (symbolsP p).1 (symbolsP q).1).1 p.in_).1 with lifted:=p.lifted },0)
def foldC (out : PatL) : List PatL → PatL × Int
 | []=>(out,0)
 | p::r=>if (composeP out p).2≠0 then composeP out p else foldC (composeP out p).1 r
def allP : List PatL → PatL × Int
 | []=>(PatL.zero,1)
 | p::r=>if (formP p).2≠0 then (PatL.zero,(formP p).2) else foldC (formP p).1 r
theorem wrap8 (n:Int):Go.IntKind.wrap .u8 n=n % 256:=Go.IntKind.wrap_u8 n
theorem yf {a:List Sym}{s:Sym}(h:s.old=false):thr a s=⟨false,0,s.b⟩:=by unfold thr; rw[h]; rfl
theorem zH {a:List Sym}{s:Sym}(h:s.old=true):thr a s=⟨(a.getD s.at_.toNat z0).old,(a.getD s.at_.toNat z0).at_,Go.IntKind.wrap .u8 ((a.getD s.at_.toNat z0).b+s.b)⟩:=by unfold thr; rw[h]; rfl
theorem thr_wf {a:List Sym}(ha:∀s∈a,s.wf){s:Sym}(hs:s.wf):(thr a s).wf:=by
 cases h:s.old with
 | false=>rw[yf h]; exact⟨by dsimp only; omega,by dsimp only; omega,hs.2.2.1,hs.2.2.2⟩
 | true =>
   rw[zH h];have key:(a.getD s.at_.toNat z0).wf:=by
    rw[uh];cases hx:a[s.at_.toNat]? with
    | none=>exact⟨by decide,by decide,by decide,by decide⟩
    | some x=>exact ha x (uf hx)
   refine⟨key.1,key.2.1,?_,?_⟩ <;> rw[wrap8] <;> dsimp only <;> omega
theorem thrL_wf {a b:List Sym}(ha:∀s∈a,s.wf)(hb:∀s∈b,s.wf):∀s∈b.map (thr a),s.wf:=fun s hs=>by
 obtain⟨t,ht,rfl⟩:=QF.1 hs;exact thr_wf ha (hb t ht)
end Go.Inl
