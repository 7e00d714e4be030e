/- The frame of a call as a function of slots; the rules of the walk over it; what is known of memory as a list of own blocks and a heap that stands still. Conditions: none. What each operation that only computes yields, over the frame as a function of slots. Conditions: none. What is known of memory: a heap that stands still, and a list of own blocks; how each step turns it. Conditions: none. Loads, stores, new memory, calls, returns: each over what is known of memory. Conditions: none. Operations that turn memory, calls, returns. Conditions: none. A region that draws its order, taken in one order: what only computes first, what turns memory where it alone may come up. Conditions: none. Guarded operations whose guard is open; new slices and append by one fact of the element's type; slices of plain structs. Conditions: none. A block of which one row is looked at; a call that turns an own block. Conditions: none. -/
import Derived.WalkKit
import Derived.Deep.MidRow
import Derived.OrdersHeld
import Derived.RangeFuncNested
import Derived.RangeFuncCalls
import Derived.RangeFuncLeaves
import Derived.Sort.LoopGhostIn
import Derived.OrdersIn
import Derived.TacticsIn
import Derived.Great.BuildSlice
set_option linter.unusedSimpArgs false
set_option linter.unusedVariables false
namespace Go.Inl
open Go Go.RowKit
/-! ### The frame -/
def upd (σ:Nat→Value)(d:Nat)(v:Value):Nat→Value:=fun t=>cond (Nat.beq t d) v (σ t)
def updO (σ : Nat → Value) : Option Tmp → Value → (Nat → Value)
 | some d,v=>upd σ d v
 | none,_=>σ
def act (n:Nat)(df:List Deferred)(σ:Nat→Value):Act:=⟨Array.ofFn (n:=n) fun i=>σ i,df⟩
def ev (n : Nat) (σ : Nat → Value) : Operand → Value
 | .tmp t=>cond (Nat.blt t n) (σ t) undef
 | .const v=>v
 | .global g=>.pointer (some ⟨g,0,none⟩)
 | .func f=>.func (.func f) #[] #[]
theorem yt (n:Nat)(df:List Deferred)(σ:Nat→Value)(t:Nat):(act n df σ).tmps.getD t undef=cond (Nat.blt t n) (σ t) undef:=by
 by_cases h:t < n
 · simp[act,h,show Nat.blt t n=true by simpa using h]
 · have h':Nat.blt t n=false:=by
    cases hb:Nat.blt t n with
    | false=>rfl
    | true=>exact absurd (by simpa using hb) h
   simp[act,h,h']
theorem zC (n:Nat)(df:List Deferred)(σ:Nat→Value)(x:Operand):(act n df σ).eval x=ev n σ x:=by
 cases x with
 | tmp t=>exact yt n df σ t
 | const v=>rfl
 | global g=>rfl
 | func f=>rfl
theorem jT (n:Nat)(df:List Deferred)(σ:Nat→Value):(act n df σ).eval=ev n σ:=funext (zC n df σ)
theorem jA (n:Nat)(df:List Deferred)(σ:Nat→Value)(d:Option Tmp)(v:Value):(act n df σ).put d v=act n df (updO σ d v):=by
 cases d with
 | none=>rfl
 | some d =>
   simp only[Act.put,act,updO,Act.mk.injEq,and_true];apply Array.ext
   · simp
   · intro i h1 h2
     have hn:i < n:=by simpa using h2
     rw[Array.getElem_ofFn];by_cases h:d=i
     · subst h; simp[upd]
     · have hb:Nat.beq i d=false:=by
        cases hb:Nat.beq i d with
        | false=>rfl
        | true=>exact absurd (Nat.eq_of_beq_eq_true hb).symm h
       rw[Array.getElem_setIfInBounds_ne (by simpa using hn) h];simp[upd,hb]
def args (l:List Value):Nat→Value:=fun i=>l.getD i undef
theorem yM (l : List Value) (n : Nat) (h : l.length ≤ n) :
 ({ tmps:=l.toArray++Array.replicate (n - l.toArray.size) undef,defers:=[] }:Act)=act n [] (args l):=by
 simp only[act,Act.mk.injEq,and_true];apply Array.ext
 · simp; omega
 · intro i h1 h2
   simp only[Array.getElem_ofFn,args];by_cases hi:i < l.length
   · simp[hi]
   · rw [Array.getElem_append_right (by simpa using hi)]
     simp[hi]
def fen (ro:Option Nat):Fence:={ Fence.wide with round:=ro }
theorem calls {P : Program} {f : FuncId} {fn : Func} {c : Code} {l : List Value} {w : World} {R : Ending → World → Prop} (hf : P.funcs[f]? = some fn) (hb : fn.body = some c)
 (n:Nat) (hn:fn.ntmps=n) (hl:l.length≤n) (h:c.wpIn (fen none) 0 P (bodyPost P fn R) (act n [] (args l)) w):Calls P f l.toArray w R :=
 (callsIn_wide (n:=0)).1 (callsIn_of_wp (F:=fen none) hf hb trivial (by rw[hn,yM l n hl]; exact h) rfl)
def upds (σ : Nat → Value) : List (Nat × Value) → Nat → Value
 | []=>σ
 | p::l=>upds (upd σ p.1 p.2) l
def okS (σ : Nat → Value) : List (Nat × Value) → Prop
 | []=>True
 | p::l=>σ p.1=p.2∧okS σ l
theorem upd_self {σ:Nat→Value}{d:Nat}{v:Value}(h:σ d=v):upd σ d v=σ:=by
 funext t
 unfold upd;cases hb:Nat.beq t d with
 | false=>rfl
 | true=>cases Nat.eq_of_beq_eq_true hb; exact h.symm
theorem qj {σ : Nat → Value} : ∀ {l : List (Nat × Value)}, okS σ l → upds σ l = σ
 | [],_=>rfl
 | p::l,h=>by
   unfold upds;rw[upd_self h.1];exact qj h.2
/-! ### Code -/
section
variable {P:Program} {Q:Exit→Act→World→Prop} {a:Act} {w:World} {n:Nat} {df:List Deferred} {ro:Option Nat} {σ:Nat→Value}
theorem thenN {next:Act→World→Prop}(h:next a w):Exit.then next Q .normal a w:=h
theorem thenE {next:Act→World→Prop}{i:Nat}(h:Q (.exit i) a w):Exit.then next Q (.exit i) a w:=h
theorem thenR {next:Act→World→Prop}(h:Q .ret a w):Exit.then next Q .ret a w:=h
theorem blkN {id:Nat}(h:Q .normal a w):Exit.inBlock id Q .normal a w:=h
theorem blkR {id:Nat}(h:Q .ret a w):Exit.inBlock id Q .ret a w:=h
theorem blkE {id:Nat}(h:Q .normal a w):Exit.inBlock id Q (.exit id) a w:=by simpa [Exit.inBlock] using h
theorem blkO {id j:Nat}(hj:Nat.beq j id=false)(h:Q (.exit j) a w):Exit.inBlock id Q (.exit j) a w:=by
 have:j≠id:=fun e=>by subst e; simp at hj
 simpa [Exit.inBlock,this] using h
theorem jR {c:Operand}{x y:Code}(hc:ev n σ c = .bool true)(h:x.wpIn (fen ro) 0 P Q (act n df σ) w):(Code.cond c x y).wpIn (fen ro) 0 P Q (act n df σ) w :=
 wpIn_cond_true (by rw[zC]; exact hc) h
theorem qV {c:Operand}{x y:Code}(hc:ev n σ c = .bool false)(h:y.wpIn (fen ro) 0 P Q (act n df σ) w):(Code.cond c x y).wpIn (fen ro) 0 P Q (act n df σ) w :=
 wpIn_cond_false (by rw[zC]; exact hc) h
theorem qh {c:Operand}{x y:Code}{t:Bool}(hc:ev n σ c = .bool t)(ht:t=true→x.wpIn (fen ro) 0 P Q (act n df σ) w)(hf:t=false→y.wpIn (fen ro) 0 P Q (act n df σ) w):(Code.cond c x y).wpIn (fen ro) 0 P Q (act n df σ) w :=
 wpIn_cond_split (by rw[zC]; exact hc) ht hf
theorem loop {α : Type} {c : Code} (inv : α → (Nat → Value) → World → Prop) (μ : α → Nat) (x₀ : α) (h₀ : inv x₀ σ w)
 (round:∀x σ w,inv x σ w→c.wpIn (fen ro) 0 P (Exit.then (fun a' w'=>∃x' σ',a'=act n df σ'∧inv x' σ' w'∧μ x' < μ x) Q) (act n df σ) w) :
 (Code.loop c).wpIn (fen ro) 0 P Q (act n df σ) w:=by
 refine wpIn_loop_ghost (fun m a w=>∃x σ,a=act n df σ∧inv x σ w∧μ x=m) (μ x₀) ⟨x₀,σ,rfl,h₀,rfl⟩ ?_;rintro m a w⟨x,σ,rfl,hI,rfl⟩;refine wpIn_mono (round x σ w hI) fun e a' w' q=>?_
 cases e with
 | normal=>obtain⟨x',σ',h1,h2,h3⟩:=q; exact⟨μ x',h3,x',σ',h1,h2,rfl⟩
 | _=>exact q
theorem meet {x y : Code} (M : (Nat → Value) → World → Prop) (h : x.wpIn (fen ro) 0 P (Exit.then (fun a' w' => ∃ σ', a' = act n df σ' ∧ M σ' w') Q) (act n df σ) w) (k : ∀ σ w, M σ w → y.wpIn (fen ro) 0 P Q (act n df σ) w) :
 (Code.seq x y).wpIn (fen ro) 0 P Q (act n df σ) w :=
 wpIn_seq (wpIn_mono h fun e a w q=>by
  cases e with
  | normal=>obtain⟨σ',rfl,hM⟩:=q; exact k σ' w hM
  | _=>exact q)
end
/-! ### An operation that only computes -/
section
variable {P:Program} {n:Nat} {df:List Deferred} {ro:Option Nat} {σ:Nat→Value} {w:World}
def Gives (P:Program)(ρ:Operand→Value)(S:World→Prop)(op:Op)(ty:TypeId)(v:Value):Prop :=
 ∀ w, S w → (execOp ρ ⟨none, op, ty, "", #[], none⟩).run P w = .ok (.value v) w
theorem kU (ρ : Operand → Value) (d : Option Tmp) (op : Op) (ty : TypeId) (p : String) (af : Array Edge) (g : Option (Nat × Bool)) :
 execOp ρ ⟨d, op, ty, p, af, g⟩ = execOp ρ ⟨none, op, ty, "", #[], none⟩ := by cases op <;> rfl
def DoesR (P : Program) (R : Value → World → Prop) : Result Next → Prop
 | .ok (.value v) w'=>R v w'
 | .ok .skip w'=>R undef w'
 | .ok (.enter f args) w'=>Calls P f args w' fun e w''=>∃v,e = .returned v∧R v w''
 | .ok (.round l f tmps assign body) w'=>RoundIn Fence.wide 0 P l f tmps assign body w' fun e w''=>∃v,e = .returned v∧R v w''
 | _=>False
theorem DoesR.mono {R R':Value→World→Prop}(hr:∀v w',R v w'→R' v w'):∀ {r:Result Next},DoesR P R r→DoesR P R' r:=by
 intro r h;cases r with
 | ok x w' =>
   cases x <;> simp only [DoesR] at h ⊢ <;>
    first
     | exact hr _ _ h
     | exact Calls.mono h (fun e w'' ⟨v,he,hv⟩=>⟨v,he,hr _ _ hv⟩)
     | exact RoundIn.mono h (fun e w'' ⟨v,he,hv⟩=>⟨v,he,hr _ _ hv⟩)
     | exact h
 | halt x w'=>exact h
def opW (P:Program)(o:Oper)(a:Act)(w:World)(K:Act→World→Prop):Prop:=DoesR P (fun v w'=>K (a.put o.dst v) w') ((execOp a.eval o).run P w)
theorem opW.mono {o:Oper}{a:Act}{w:World}{K K':Act→World→Prop}(h:opW P o a w K)(hk:∀a w,K a w→K' a w):opW P o a w K':=DoesR.mono (fun _ _=>hk _ _) h
theorem opW.sound {o:Oper}{a:Act}{w:World}{K:Act→World→Prop}{Q:Exit→Act→World→Prop}(h:opW P o a w K):o.wpIn (fen ro) 0 P a w K Q:=by
 refine⟨fun _ _=>trivial,?_⟩;have hnd:∀c,o.op≠.defer c:=by
  intro c hc;unfold opW at h;have e:execOp a.eval o=(do let d ← resolve a.eval c o.type; pure (.defer d)):=by unfold execOp; rw[hc]
  rw[e,Sem.run_bind]at h;cases hr:(resolve a.eval c o.type).run P w with
  | ok d w'=>rw[hr]at h; exact h
  | halt x w'=>rw[hr]at h; exact h
 rw[Oper.semAt_eq _ _ _ hnd];unfold opW at h;generalize (execOp a.eval o).run P w=r at h
 cases r with
 | ok x w' =>
   cases x <;> simp only [DoesR] at h <;>
    first
     | exact h
     | exact⟨fun h=>(by cases h),callsIn_wide.2 (Calls.mono h (fun e w'' ⟨v,he,hv⟩=>by subst he; exact hv))⟩
     | exact⟨fun h=>(by cases h),RoundIn.mono h (fun e w'' ⟨v,he,hv⟩=>by subst he; exact hv)⟩
     | exact h.elim
 | halt x w'=>exact h.elim
def wpL (P : Program) (ops : Array Oper) (Q : Exit → Act → World → Prop) : List Oper → Act → World → Prop
 | [],a,w=>Q .normal a w
 | o::rest,a,w=>if Region.wanted o (yielded ops a.tmps) then opW P o a w (wpL P ops Q rest) else wpL P ops Q rest (a.put o.dst undef) w
theorem wpL.sound {ops : Array Oper} {Q : Exit → Act → World → Prop} : ∀ {l : List Oper} {a : Act} {w : World}, wpL P ops Q l a w → wpListIn (fen ro) 0 P ops Q l a w
 | [],_,_,h=>h
 | o::rest,a,w,h=>by
   unfold wpL at h;unfold wpListIn;split
   · rename_i hw
     rw[if_pos hw]at h;exact opW.sound (h.mono fun a w h=>wpL.sound h)
   · rename_i hw
     rw[if_neg hw]at h;exact⟨fun _ _=>trivial,wpL.sound h⟩
variable {ops:Array Oper} {Q:Exit→Act→World→Prop} {rest:List Oper} {d:Option Tmp} {op:Op} {ty:TypeId} {p:String} {af:Array Edge}
theorem wl_q {S : World → Prop} {v : Value} (Z : S w) (h : Gives P (ev n σ) S op ty v) (k : wpL P ops Q rest (act n df (updO σ d v)) w) :
 wpL P ops Q (⟨d,op,ty,p,af,none⟩::rest) (act n df σ) w :=
 by
 have h':=h w Z;rw[← kU (ev n σ) d op ty p af none]at h';unfold wpL;rw[if_pos (by simp[Region.wanted])];unfold opW;rw[jT,h'];show wpL P ops Q rest ((act n df σ).put d v) w
 rw[jA];exact k
theorem kv {j:Nat}{t:Nat}{b:Bool}(hj:(ops[j]?).bind (·.dst)=some t)(hv:ev n σ (.tmp t) = .bool b):yielded ops (act n df σ).tmps j=some b:=by
 have ht:(act n df σ).tmps.getD t undef = .bool b:=by rw[yt]; exact hv
 unfold yielded;rw[hj,Option.bind_some];rw[Array.getD_eq_getD_getElem?]at ht;cases hh:(act n df σ).tmps[t]? with
 | none=>rw[hh]at ht; simp[undef]at ht
 | some v=>rw[hh]at ht; simp at ht; subst ht; rfl
theorem wl_gt {S : World → Prop} {v : Value} {j t : Nat} {g : Bool} (hj : (ops[j]?).bind (·.dst) = some t) (hv : ev n σ (.tmp t) = .bool g) (Z : S w) (h : Gives P (ev n σ) S op ty v)
 (k:wpL P ops Q rest (act n df (updO σ d v)) w):wpL P ops Q (⟨d,op,ty,p,af,some (j,g)⟩::rest) (act n df σ) w:=by
 have h':=h w Z;rw[← kU (ev n σ) d op ty p af (some (j,g))]at h';unfold wpL;rw[if_pos (by simp[Region.wanted,kv hj hv])];unfold opW;rw[jT,h'];show wpL P ops Q rest ((act n df σ).put d v) w
 rw[jA];exact k
theorem wl_gf {j t : Nat} {g g' : Bool} (hj : (ops[j]?).bind (·.dst) = some t) (hv : ev n σ (.tmp t) = .bool g') (hne : g' = !g)
 (k:wpL P ops Q rest (act n df (updO σ d undef)) w):wpL P ops Q (⟨d,op,ty,p,af,some (j,g)⟩::rest) (act n df σ) w:=by
 unfold wpL;rw[if_neg (by subst hne; simp[Region.wanted,kv hj hv]),jA];exact k
structure OL (P : Program) (l : List Oper) (Q : Exit → Act → World → Prop) (n : Nat) (df : List Deferred) (rest : List Oper) (σ : Nat → Value) (w : World) : Prop where
 run:wpL P l.toArray Q rest (act n df σ) w
theorem reg {l:List Oper}{id:Nat}(h:OL P l Q n df l σ w):(Code.region id l.toArray false).wpIn (fen ro) 0 P Q (act n df σ) w:=wpIn_region_lit (wpL.sound h.run)
theorem qy {l:List Oper}(k:Q .normal (act n df σ) w):OL P l Q n df [] σ w:=⟨k⟩
end
end Go.Inl
namespace Go.Inl
open Go Go.RowKit
section
variable {P:Program} {n:Nat} {σ:Nat→Value} {S:World→Prop} {ty:TypeId}
theorem qb (x:Operand):Gives P (ev n σ) S (.move x) ty (ev n σ x):=fun _ _=>rfl
theorem qd (x:Operand):Gives P (ev n σ) S (.assign x) ty (ev n σ x):=fun _ _=>rfl
theorem qx {x:Operand}{v:Value}(h:ev n σ x=v):Gives P (ev n σ) S (.move x) ty v:=fun _ _=>by subst h; rfl
theorem qv {x:Operand}{v:Value}(h:ev n σ x=v):Gives P (ev n σ) S (.assign x) ty v:=fun _ _=>by subst h; rfl
theorem g_pick {c x y:Operand}{b:Bool}(hc:ev n σ c = .bool b):Gives P (ev n σ) S (.pick c x y) ty (if b then ev n σ x else ev n σ y):=fun w _=>by
 simp only[execOp,hc,asBool]; cases b <;> rfl
theorem g_and {c x : Operand} {a b : Bool} {u : Value} (hc : ev n σ c = .bool a) (hx : ev n σ x = u) (hu : a = true → u = .bool b) :
 Gives P (ev n σ) S (.pick c x (.const (.bool false))) ty (.bool (a && b)):=by
 intro w hw;rw[g_pick hc w hw];cases a
 · rfl
 · simp[hx,hu rfl]
theorem g_or {c x : Operand} {a b : Bool} {u : Value} (hc : ev n σ c = .bool a) (hx : ev n σ x = u) (hu : a = false → u = .bool b) :
 Gives P (ev n σ) S (.pick c (.const (.bool true)) x) ty (.bool (a || b)):=by
 intro w hw;rw[g_pick hc w hw];cases a
 · simp[hx,hu rfl]
 · rfl
variable {t t':TypeId} {x y:Operand} {k:IntKind} {a b:Int}
theorem eqg_int {op:BinOp}{w:World}:(eqGuard op t x y (.int k a) (.int k b)).run P w = .ok () w:=by cases op <;> rfl
theorem eqg_bool {op:BinOp}{w:World}{a b:Bool}:(eqGuard op t x y (.bool a) (.bool b)).run P w = .ok () w:=by cases op <;> rfl
theorem eqg_string {op:BinOp}{w:World}{a b:ByteArray}:(eqGuard op t x y (.string a) (.string b)).run P w = .ok () w:=by cases op <;> rfl
theorem jz {op : BinOp} {v : Value} (hx : ev n σ x = .int k a) (hy : ev n σ y = .int k b) {w : World} (h : (binOp op t (.int k a) (.int k b)).run P w = .ok v w) :
 (execOp (ev n σ) ⟨none, .binOp op t x y t', ty, "", #[], none⟩).run P w = .ok (.value v) w := by
 simp only[execOp,hx,hy,Sem.run_bind,eqg_int,Result.andThen_ok,h]; rfl
theorem g_lss (hx:ev n σ x = .int k a)(hy:ev n σ y = .int k b):Gives P (ev n σ) S (.binOp .lss t x y t') ty (.bool (decide (a < b))):=fun _ _=>jz hx hy (by simp[binOp,Op.intCmp])
theorem g_leq (hx:ev n σ x = .int k a)(hy:ev n σ y = .int k b):Gives P (ev n σ) S (.binOp .leq t x y t') ty (.bool (decide (a≤b))):=fun _ _=>jz hx hy (by simp[binOp,Op.intCmp])
theorem g_gtr (hx:ev n σ x = .int k a)(hy:ev n σ y = .int k b):Gives P (ev n σ) S (.binOp .gtr t x y t') ty (.bool (decide (b < a))):=fun _ _=>jz hx hy (by simp[binOp,Op.intCmp])
theorem g_geq (hx:ev n σ x = .int k a)(hy:ev n σ y = .int k b):Gives P (ev n σ) S (.binOp .geq t x y t') ty (.bool (decide (b≤a))):=fun _ _=>jz hx hy (by simp[binOp,Op.intCmp])
theorem g_eql (hx:ev n σ x = .int k a)(hy:ev n σ y = .int k b):Gives P (ev n σ) S (.binOp .eql t x y t') ty (.bool (decide (a=b))):=fun _ _=>jz hx hy (by simp[binOp,Op.intCmp]; rfl)
theorem g_neq (hx:ev n σ x = .int k a)(hy:ev n σ y = .int k b):Gives P (ev n σ) S (.binOp .neq t x y t') ty (.bool (!decide (a=b))):=fun _ _=>jz hx hy (by simp[binOp,Op.intCmp]; rfl)
theorem g_add (hx:ev n σ x = .int .i64 a)(hy:ev n σ y = .int .i64 b)(h0:-9223372036854775808≤a+b)(h1:a+b≤9223372036854775807):Gives P (ev n σ) S (.binOp .add t x y t') ty (.int .i64 (a+b)) :=
 fun _ _=>jz hx hy (by simp[binOp,Op.intArith,IntKind.wrap_i64]; omega)
theorem g_sub (hx:ev n σ x = .int .i64 a)(hy:ev n σ y = .int .i64 b)(h0:-9223372036854775808≤a - b)(h1:a - b≤9223372036854775807):Gives P (ev n σ) S (.binOp .sub t x y t') ty (.int .i64 (a - b)) :=
 fun _ _=>jz hx hy (by simp[binOp,Op.intArith,IntKind.wrap_i64]; omega)
theorem g_mul (hx:ev n σ x = .int .i64 a)(hy:ev n σ y = .int .i64 b)(h0:-9223372036854775808≤a*b)(h1:a*b≤9223372036854775807):Gives P (ev n σ) S (.binOp .mul t x y t') ty (.int .i64 (a*b)) :=
 fun _ _=>jz hx hy (by simp[binOp,Op.intArith,IntKind.wrap_i64]; omega)
theorem yn (hx:ev n σ x = .int k a)(hy:ev n σ y = .int k b):Gives P (ev n σ) S (.binOp .add t x y t') ty (.int k (k.wrap (a+b))):=fun _ _=>jz hx hy (by simp[binOp,Op.intArith])
theorem g_mulw (hx:ev n σ x = .int k a)(hy:ev n σ y = .int k b):Gives P (ev n σ) S (.binOp .mul t x y t') ty (.int k (k.wrap (a*b))):=fun _ _=>jz hx hy (by simp[binOp,Op.intArith])
theorem g_rem (hx:ev n σ x = .int k a)(hy:ev n σ y = .int k b)(ha:0≤a)(hb:0 < b):Gives P (ev n σ) S (.binOp .rem t x y t') ty (.int k (a % b)) :=
 fun _ _=>jz hx hy (by simp[binOp,Op.intDiv,show b≠0 by omega,Int.tmod_eq_emod_of_nonneg ha])
theorem g_quo (hx:ev n σ x = .int .i64 a)(hy:ev n σ y = .int .i64 b)(ha:0≤a)(hb:0 < b)(h1:a≤9223372036854775807):Gives P (ev n σ) S (.binOp .quo t x y t') ty (.int .i64 (a / b)) :=
 fun _ _=>jz hx hy (by
  have h2:a / b≤a:=Int.ediv_le_self b ha;have h3:0≤a / b:=Int.ediv_nonneg ha (by omega);simp[binOp,Op.intDiv,show b≠0 by omega,Int.tdiv_eq_ediv_of_nonneg ha,IntKind.wrap_i64]; omega)
theorem g_neqb {a b:Bool}(hT:P.underlying t=some .bool)(hx:ev n σ x = .bool a)(hy:ev n σ y = .bool b):Gives P (ev n σ) S (.binOp .neq t x y t') ty (.bool (a != b)):=fun w _=>by
 simp only[execOp,hx,hy,Sem.run_bind,eqg_bool,Result.andThen_ok,run_neq_bool w t a b hT]; rfl
theorem g_not {c:Bool}(hx:ev n σ x = .bool c):Gives P (ev n σ) S (.unOp .not t x) ty (.bool (!c)):=fun w _=>by
 simp[execOp,hx,Op.unary]
theorem g_negw (hx:ev n σ x = .int k a):Gives P (ev n σ) S (.unOp .neg t x) ty (.int k (k.wrap (-a))):=fun w _=>by
 simp[execOp,hx,Op.unary,Op.intArith]
theorem kT {d:TypeDesc}{k':IntKind}(hs:P.underlying t=some d)(hd:P.underlying t'=some (.int k'))(hx:ev n σ x = .int k a):Gives P (ev n σ) S (.convert t t' x) ty (.int k' (k'.wrap a)):=fun w _=>by
 simp only[execOp,hx,convert,Sem.run_bind,run_underlying hs,run_underlying hd,Result.andThen_ok];cases d <;> simp[Conv.intToInt]
theorem qK {d:TypeDesc}(hs:P.underlying t=some d)(hd:P.underlying t'=some (.int .i64))(hx:ev n σ x = .int k a)(h0:-9223372036854775808≤a)(h1:a≤9223372036854775807):Gives P (ev n σ) S (.convert t t' x) ty (.int .i64 a):=fun w hw=>by
 rw[kT hs hd hx w hw];have:IntKind.i64.wrap a=a:=by rw[IntKind.wrap_i64]; omega
 rw[this]
theorem qm {ad:Addr}(hx:ev n σ x = .pointer (some ad)):Gives P (ev n σ) S (.nilCheck x) ty (.pointer (some ad)):=fun w _=>by
 simp[execOp,hx]
theorem qk {vs:Array Value}{i:Nat}{v:Value}(hx:ev n σ x = .tuple vs)(hv:vs[i]? = some v):Gives P (ev n σ) S (.extract x i) ty v:=fun w _=>by
 simp[execOp,hx,Instr.extract,hv]
theorem jO {d:TypeDesc}(hT:P.underlying t=some d)(hd:(match d with | .interface _=>false | _=>true)=true):Gives P (ev n σ) S (.makeInterface t x) ty (.iface t (ev n σ x)):=fun w _=>by
 simp only[execOp,Instr.makeInterface,Sem.run_bind,run_underlying hT,Result.andThen_ok];cases d <;> first | rfl | (simp at hd)
theorem yj {aT:Array TypeId}{ad:Option Addr}{l c:Nat}(ho:aT = #[t]){e:TypeId}(hT:P.underlying t=some (.slice e))(hx:ev n σ x = .slice ad l c):Gives P (ev n σ) S (.call { callee:=.builtin .len,args := #[x],argTypes:=aT }) ty (.int .i64 l):=fun w _=>by
 subst ho;simp[execOp,resolve,invoke,builtin,hx,Builtin.len_,goInt,run_underlying hT]
theorem g_lenStr {aT:Array TypeId}{s:ByteArray}(ho:aT = #[t])(hT:P.underlying t=some .string)(hx:ev n σ x = .string s):Gives P (ev n σ) S (.call { callee:=.builtin .len,args := #[x],argTypes:=aT }) ty (.int .i64 s.size):=fun w _=>by
 subst ho;simp[execOp,resolve,invoke,builtin,hx,Builtin.len_,goInt,run_underlying hT]
/-! ### Addresses -/
theorem qL (b o j:Nat):(⟨b,o,none⟩:Addr).add j=⟨b,o+j,none⟩:=Addr.add_mid b o j
theorem run_fieldPlace {f:Field}{b o s:Nat}{w:World}(hs:(sizeOf f.type).run P w = .ok s w)(h0:s≠0):(fieldPlace ⟨b,o,none⟩ f).run P w = .ok ⟨b,o+f.offset,none⟩ w:=by
 simp only[fieldPlace,Sem.run_bind,hs,Result.andThen_ok,h0,if_false,qL]; rfl
theorem qa {fs : Array Field} {i b o s o' : Nat} {f : Field} (hT : P.underlying t = some (.struct fs)) (hf : fs[i]? = some f) (hs : ∀ w, (sizeOf f.type).run P w = .ok s w) (h0 : Nat.beq s 0 = false)
 (hx:ev n σ x = .pointer (some ⟨b,o,none⟩)) (ho:o+f.offset=o'):Gives P (ev n σ) S (.fieldAddr t x i) ty (.pointer (some ⟨b,o',none⟩)):=fun w _=>by
 have h0':s≠0:=fun e=>by subst e; simp at h0
 subst ho;simp only[execOp,Instr.fieldAt,Sem.run_bind,run_underlying hT,Result.andThen_ok,hf,hx,Instr.sureAddr,Sem.run_pure,run_fieldPlace (hs w) h0']
def elA : Value → Nat → Nat → Nat → Addr
 | .slice (some ⟨b,o,_⟩) _ _,k,sz,c=>⟨b,o+k*sz+c,none⟩
 | _,k,sz,c=>⟨0,k*sz+c,none⟩
theorem kB {ix : Operand} {e : TypeId} {b o len cap sz : Nat} {i : Int} (hT : P.underlying t = some (.slice e)) (hs : ∀ w, (sizeOf e).run P w = .ok sz w)
 (hx:ev n σ x = .slice (some ⟨b,o,none⟩) len cap) (hi:ev n σ ix = .int k i) (h0:0≤i) (h1:i < len) :
 Gives P (ev n σ) S (.indexAddr t x ix) ty (.pointer (some ⟨b,o+i.toNat*sz,none⟩)):=fun w _=>by
 simp only[execOp,Instr.indexAt,Sem.run_bind,hi,asIntOf,Sem.run_pure,Result.andThen_ok,run_underlying hT,hx];simp[h0,h1,hs,qL]
end
end Go.Inl
namespace Go.Inl
open Go Go.RowKit
abbrev Imm:=Nat→Option Obj
def Sat (I:Imm)(w:World):Prop:=∀b o,I b=some o→w.heap[b]? = some o
def Sub (I J:Imm):Prop:=∀b o,I b=some o→J b=some o
theorem Sub.refl (I:Imm):Sub I I:=fun _ _ h=>h
theorem Sub.trans {I J K:Imm}(h:Sub I J)(k:Sub J K):Sub I K:=fun b o e=>k b o (h b o e)
inductive Res where
 | cel (b:Nat) (T:TypeId) (cs:List Value)
 | row (v:Value) (E:TypeId) (sz:Nat) (n:Nat) (xs:List Value)
 | obj (b:Nat) (o:Obj)
 | win (v:Value) (E:TypeId) (xs:List Value)
def Res.holds (w : World) : Res → Prop
 | .cel b T cs=>w.heap[b]? = some (.cells cs.toArray T (0,0))
 | .row v E sz n xs=>w.ownsRow 0 E sz v n xs
 | .obj b o=>w.heap[b]? = some o
 | .win v E xs=>(v = .slice none 0 0∧xs=[])∨∃g o cap cur,v = .slice (some ⟨g,o,none⟩) xs.length cap∧w.heap[g]? = some (.cells cur E (0,0))∧xs.length≤cap∧o+cap≤cur.size∧cap≤maxLen∧(cur.toList.drop o).take xs.length=xs
def Res.foot : Res → List Nat
 | .cel b _ _=>[b]
 | .row v _ _ _ _=>v.ownBlock.toList
 | .obj b _=>[b]
 | .win v _ _=>v.ownBlock.toList
theorem Res.foot_lt {w:World}{r:Res}(h:r.holds w):∀b∈r.foot,b < w.heap.size:=by
 intro b hb;cases r with
 | cel b' T cs=>simp only[Res.foot,List.mem_singleton]at hb; subst hb; exact(Array.getElem?_eq_some_iff.1 h).1
 | obj b' o=>simp only[Res.foot,List.mem_singleton]at hb; subst hb; exact(Array.getElem?_eq_some_iff.1 h).1
 | row v E sz n xs =>
   simp only[Res.foot,Option.mem_toList]at hb;exact(World.ownsRow.lt h b hb).2
 | win v E xs =>
   simp only[Res.foot,Option.mem_toList]at hb;rcases h with ⟨rfl,_⟩ | ⟨g,o,cap,cur,rfl,hg,_⟩
   · simp[Value.ownBlock]at hb
   · simp only [Value.ownBlock, Option.some.injEq] at hb
     subst hb;exact(Array.getElem?_eq_some_iff.1 hg).1
theorem Res.holds_of {w w':World}{r:Res}(h:r.holds w)(hb:∀b∈r.foot,w'.heap[b]? = w.heap[b]?):r.holds w':=by
 cases r with
 | cel b' T cs=>exact(hb b' (by simp[Res.foot])).trans h
 | obj b' o=>exact(hb b' (by simp[Res.foot])).trans h
 | row v E sz n xs =>
   obtain⟨h1,h2⟩:=h;refine⟨h1,?_⟩;rcases h2 with h2 | ⟨g,cap,cur,hv,hg,hh,r⟩
   · exact .inl h2
   · exact .inr ⟨g,cap,cur,hv,hg,(hb g (by simp[Res.foot,hv,Value.ownBlock])).trans hh,r⟩
 | win v E xs =>
   rcases h with h | ⟨g,o,cap,cur,hv,hh,r⟩
   · exact .inl h
   · exact .inr ⟨g,o,cap,cur,hv,(hb g (by simp[Res.foot,hv,Value.ownBlock])).trans hh,r⟩
structure St (X : List Nat) (w0 : World) (I0 I : Imm) (w : World) (L : List Res) : Prop where
 os:w.os=w0.os
 tape:w.tape=w0.tape
 output:w.output=w0.output
 size:w0.heap.size≤w.heap.size
 block:∀k,k < w0.heap.size→k∉X→w.heap[k]? = w0.heap[k]?
 imm:Sat I w
 old:∀b,b < w0.heap.size→I b=I0 b
 ext:Sub I0 I
 hold:∀r∈L,r.holds w
 new:∀r∈L,∀b∈r.foot,I b=none∧(w0.heap.size≤b∨b∈X)
 nodup:(L.flatMap Res.foot).Nodup
def Ext (w:World)(I:Imm)(w':World)(I':Imm):Prop:=St [] w I I' w' []
section
variable {X:List Nat} {w0 w w':World} {I0 I I':Imm} {L L':List Res}
theorem St.start (h:Sat I w):St [] w I I w [] :=
 ⟨rfl,rfl,rfl,Nat.le_refl _,fun _ _ _=>rfl,h,fun _ _=>rfl,Sub.refl _,by simp,by simp,by simp⟩
theorem St.none_of_size (h:St X w0 I0 I w L){b:Nat}(hb:w.heap.size≤b):I b=none:=by
 cases hI:I b with
 | none=>rfl
 | some o=>have:=(Array.getElem?_eq_some_iff.1 (h.imm b o hI)).1; omega
theorem St.foot_lt (h:St X w0 I0 I w L):∀b∈L.flatMap Res.foot,b < w.heap.size:=by
 intro b hb;obtain⟨r,hr,hb⟩:=List.mem_flatMap.1 hb;exact Res.foot_lt (h.hold r hr) b hb
theorem St.alloc (h:St X w0 I0 I w L)(T:TypeId)(cs:List Value):St X w0 I0 I (w.alloc (.cells cs.toArray T)) (.cel w.heap.size T cs::L):=by
 have keep:∀k,k < w.heap.size→(w.alloc (.cells cs.toArray T)).heap[k]? = w.heap[k]? := fun k hk=>Below.heap_alloc _ _ _ hk
 refine⟨h.os,h.tape,h.output,Nat.le_trans h.size (by simp),fun k hk hx=>(keep k (Nat.lt_of_lt_of_le hk h.size)).trans (h.block k hk hx),?_,h.old,h.ext,?_,?_,?_⟩
 · intro b o hb
   exact(keep b (Array.getElem?_eq_some_iff.1 (h.imm b o hb)).1).trans (h.imm b o hb)
 · intro r hr
   cases List.mem_cons.1 hr with
   | inl e=>subst e; exact heap_alloc_new w _
   | inr hr=>exact Res.holds_of (h.hold r hr) (fun b hb=>keep b (Res.foot_lt (h.hold r hr) b hb))
 · intro r hr b hb
   cases List.mem_cons.1 hr with
   | inl e=>subst e; simp only[Res.foot,List.mem_singleton]at hb; subst hb; exact⟨h.none_of_size (Nat.le_refl _),.inl h.size⟩
   | inr hr=>exact h.new r hr b hb
 · simp only [List.flatMap_cons, Res.foot, List.singleton_append, List.nodup_cons]
   exact⟨fun hm=>by have:=h.foot_lt _ hm; omega,h.nodup⟩
theorem St.change (h : St X w0 I0 I w L) {k : Nat} {r r' : Res} (hk : L[k]? = some r) (hos : w'.os = w.os) (ht : w'.tape = w.tape) (ho : w'.output = w.output) (hs : w.heap.size ≤ w'.heap.size)
 (hb:∀b,b < w.heap.size→b∉r.foot→w'.heap[b]? = w.heap[b]?) (hf:∀b∈r'.foot,b∈r.foot∨w.heap.size≤b) (hn:r'.foot.Nodup) (hr:r'.holds w'):St X w0 I0 I w' (L.set k r'):=by
 have hkl:k < L.length:=(List.getElem?_eq_some_iff.1 hk).1;have hrL:r∈L:=List.mem_of_getElem? hk;have hL:L=L.take k++r::L.drop (k+1):=by
  have:=List.getElem?_eq_some_iff.1 hk;rw[← this.2,← List.drop_eq_getElem_cons this.1,List.take_append_drop]
 have hL':L.set k r'=L.take k++r'::L.drop (k+1):=List.set_eq_take_append_cons_drop .. |>.trans (by simp[hkl])
 have hnd:=h.nodup;rw[hL]at hnd;simp only[List.flatMap_append,List.flatMap_cons]at hnd;obtain⟨n1,n2,n3⟩:=List.nodup_append.1 hnd;obtain⟨n4,n5,n6⟩:=List.nodup_append.1 n2;have other:∀s,s∈L.take k∨s∈L.drop (k+1)→∀b∈s.foot,b∉r.foot:=by
  intro s hs b hb hbr;rcases hs with hs | hs
  · exact n3 b (List.mem_flatMap.2 ⟨s,hs,hb⟩) b (List.mem_append.2 (.inl hbr)) rfl
  · exact n6 b hbr b (List.mem_flatMap.2 ⟨s,hs,hb⟩) rfl
 have inL:∀s,s∈L.take k∨s∈L.drop (k+1)→s∈L:=fun s hs=>hs.elim List.mem_of_mem_take List.mem_of_mem_drop
 have cases':∀s∈L.set k r',s=r'∨(s∈L.take k∨s∈L.drop (k+1)):=by
  intro s hs;rw[hL']at hs;rcases List.mem_append.1 hs with hs | hs
  · exact .inr (.inl hs)
  · rcases List.mem_cons.1 hs with hs | hs
    · exact .inl hs
    · exact .inr (.inr hs)
 have out:∀b,b < w0.heap.size→b∉X→b∉r.foot:=fun b hb hx hbr=>by
  rcases(h.new r hrL b hbr).2 with h' | h'
  · omega
  · exact hx h'
 refine⟨hos.trans h.os,ht.trans h.tape,ho.trans h.output,Nat.le_trans h.size hs,fun b hb' hx=>(hb b (Nat.lt_of_lt_of_le hb' h.size) (out b hb' hx)).trans (h.block b hb' hx),?_,h.old,h.ext,?_,?_,?_⟩
 · intro b o hI
   have h1:=h.imm b o hI;rw[hb b (Array.getElem?_eq_some_iff.1 h1).1 (fun hbr=>by have:=(h.new r hrL b hbr).1; rw[this]at hI; cases hI)];exact h1
 · intro s hs'
   rcases cases' s hs' with rfl | hs'
   · exact hr
   · exact Res.holds_of (h.hold s (inL s hs')) (fun b hb'=>hb b (Res.foot_lt (h.hold s (inL s hs')) b hb') (other s hs' b hb'))
 · intro s hs' b hb'
   rcases cases' s hs' with rfl | hs'
   · rcases hf b hb' with hbr | hbr
     · exact h.new r hrL b hbr
     · exact⟨h.none_of_size hbr,.inl (Nat.le_trans h.size hbr)⟩
   · exact h.new s (inL s hs') b hb'
 · rw [hL']
   simp only[List.flatMap_append,List.flatMap_cons];refine List.nodup_append.2 ⟨n1,List.nodup_append.2 ⟨hn,n5,?_⟩,?_⟩
   · intro a ha b hb' e
     subst e;rcases hf a ha with hbr | hbr
     · exact n6 a hbr a hb' rfl
     · obtain ⟨s, hs', hb''⟩ := List.mem_flatMap.1 hb'
       have:=Res.foot_lt (h.hold s (inL s (.inr hs'))) a hb'';omega
   · intro a ha b hb' e
     subst e;obtain⟨s,hs',ha'⟩:=List.mem_flatMap.1 ha;rcases List.mem_append.1 hb' with hb' | hb'
     · rcases hf a hb' with hbr | hbr
       · exact other s (.inl hs') a ha' hbr
       · have := Res.foot_lt (h.hold s (inL s (.inl hs'))) a ha'
         omega
     · exact n3 a ha a (List.mem_append.2 (.inr hb')) rfl
def sel : List Bool → List Res → List Res
 | true::m,r::L=>r::sel m L
 | false::m,_::L=>sel m L
 | _,_=>[]
theorem sel_sub : ∀ (m : List Bool) (L : List Res), (sel m L).Sublist L
 | [],L=>by simp[sel]
 | true::m,[]=>by simp[sel]
 | false::m,[]=>by simp[sel]
 | true::m,r::L=>by simpa [sel] using sel_sub m L
 | false::m,r::L=>by simpa [sel] using (sel_sub m L).trans (List.sublist_cons_self r L)
theorem flatMap_sub {L' L:List Res}(h:L'.Sublist L):(L'.flatMap Res.foot).Sublist (L.flatMap Res.foot):=by
 induction h with
 | slnil=>simp
 | cons a _ ih=>simp only[List.flatMap_cons]; exact ih.trans (List.sublist_append_right _ _)
 | cons_cons a _ ih=>simp only[List.flatMap_cons]; exact(List.Sublist.refl _).append ih
theorem St.sub (h:St X w0 I0 I w L)(hs:L'.Sublist L):St X w0 I0 I w L' :=
 ⟨h.os,h.tape,h.output,h.size,h.block,h.imm,h.old,h.ext,fun r hr=>h.hold r (hs.subset hr),fun r hr=>h.new r (hs.subset hr),(flatMap_sub hs).nodup h.nodup⟩
theorem St.sel (h:St X w0 I0 I w L)(m:List Bool):St X w0 I0 I w (sel m L):=h.sub (sel_sub m L)
theorem St.nil (h:St X w0 I0 I w L):St X w0 I0 I w []:=h.sub (List.nil_sublist L)
theorem St.perm (h:St X w0 I0 I w L)(hp:L'.Perm L):St X w0 I0 I w L' :=
 ⟨h.os,h.tape,h.output,h.size,h.block,h.imm,h.old,h.ext,fun r hr=>h.hold r (hp.subset hr),fun r hr=>h.new r (hp.subset hr),((hp.flatMap_right Res.foot).nodup_iff).2 h.nodup⟩
theorem St.alike (h:St X w0 I0 I w L)(ho:w'.os=w.os)(ht:w'.tape=w.tape)(hu:w'.output=w.output)(hh:w'.heap=w.heap):St X w0 I0 I w' L :=
 ⟨ho.trans h.os, ht.trans h.tape, hu.trans h.output, by rw [hh]; exact h.size, fun k hk hx => by rw [hh]; exact h.block k hk hx, fun b o hI => by rw [hh]; exact h.imm b o hI, h.old, h.ext,
   fun r hr=>Res.holds_of (h.hold r hr) (fun b _=>by rw[hh]),h.new,h.nodup⟩
theorem St.call (h:St X w0 I0 I w L)(h':St [] w I I' w' L'):St X w0 I0 I' w' (L'++L):=by
 have keep:∀b,b < w.heap.size→w'.heap[b]? = w.heap[b]? := fun b hb=>h'.block b hb (by simp)
 refine ⟨h'.os.trans h.os, h'.tape.trans h.tape, h'.output.trans h.output, Nat.le_trans h.size h'.size, fun k hk hx => (keep k (Nat.lt_of_lt_of_le hk h.size)).trans (h.block k hk hx), h'.imm,
  fun b hb=>(h'.old b (Nat.lt_of_lt_of_le hb h.size)).trans (h.old b hb),h.ext.trans h'.ext,?_,?_,?_⟩
 · intro r hr
   rcases List.mem_append.1 hr with hr | hr
   · exact h'.hold r hr
   · exact Res.holds_of (h.hold r hr) (fun b hb=>keep b (Res.foot_lt (h.hold r hr) b hb))
 · intro r hr b hb
   rcases List.mem_append.1 hr with hr | hr
   · obtain ⟨h1, h2⟩ := h'.new r hr b hb
     refine⟨h1,.inl ?_⟩;rcases h2 with h2 | h2
     · exact Nat.le_trans h.size h2
     · simp at h2
   · obtain ⟨h1, h2⟩ := h.new r hr b hb
     exact⟨(h'.old b (Res.foot_lt (h.hold r hr) b hb)).trans h1,h2⟩
 · rw [List.flatMap_append]
   refine List.nodup_append.2 ⟨h'.nodup,h.nodup,?_⟩;intro a ha b hb e;subst e;have h1:=h.foot_lt a hb;obtain⟨r,hr,ha'⟩:=List.mem_flatMap.1 ha;rcases(h'.new r hr a ha').2 with h2 | h2
   · omega
   · simp at h2
def Imm.add (I:Imm)(w:World)(l:List Nat):Imm:=fun b=>if b∈l then w.heap[b]? else I b
theorem St.freeze {r:Res}(h:St [] w0 I0 I w (r::L)):St [] w0 I0 (I.add w r.foot) w L∧Sub I (I.add w r.foot)∧(∀b∈r.foot,(I.add w r.foot) b=w.heap[b]?):=by
 have hn:∀b∈r.foot,I b=none∧w0.heap.size≤b:=fun b hb=>by
  obtain⟨h1,h2⟩:=h.new r (by simp) b hb;exact⟨h1,h2.resolve_right (by simp)⟩
 have hsub:Sub I (I.add w r.foot):=by
  intro b o hI;unfold Imm.add;by_cases hb:b∈r.foot
  · rw[(hn b hb).1]at hI; cases hI
  · simp[hb,hI]
 have hnd:=h.nodup;simp only[List.flatMap_cons]at hnd;obtain⟨n1,n2,n3⟩:=List.nodup_append.1 hnd;refine⟨⟨h.os,h.tape,h.output,h.size,h.block,?_,?_,h.ext.trans hsub,fun s hs=>h.hold s (by simp[hs]),?_,n2⟩,hsub,fun b hb=>by simp[Imm.add,hb]⟩
 · intro b o hI
   unfold Imm.add at hI;by_cases hb:b∈r.foot
   · simpa [hb] using hI
   · simp[hb]at hI; exact h.imm b o hI
 · intro b hb
   unfold Imm.add;have:b∉r.foot:=fun hbr=>by have:=(hn b hbr).2; omega
   simp[this,h.old b hb]
 · intro s hs b hb
   obtain⟨h1,h2⟩:=h.new s (by simp[hs]) b hb;have:b∉r.foot:=fun hbr=>n3 b hbr b (List.mem_flatMap.2 ⟨s,hs,hb⟩) rfl
   exact⟨by simp[Imm.add,this,h1],h2⟩
end
end Go.Inl
namespace Go.Inl
open Go Go.RowKit
/-! ### Data that stands still -/
def atI (I:Imm)(ad:Addr)(vs:List Value):Prop :=
 ad.spot=none∧∃c T fz,I ad.block=some (.cells c T fz)∧∀j v,vs[j]? = some v→c[ad.off+j]? = some v
theorem atI.mono {I J:Imm}{ad:Addr}{vs:List Value}(h:atI I ad vs)(hs:Sub I J):atI J ad vs:=by
 obtain⟨h0,c,T,fz,h1,h2⟩:=h;exact⟨h0,c,T,fz,hs _ _ h1,h2⟩
theorem atI.cell {I:Imm}{ad:Addr}{vs:List Value}{w:World}(h:atI I ad vs)(hs:Sat I w):∀j v,vs[j]? = some v→w.cell? (ad.add j)=some v:=by
 obtain⟨h0,c,T,fz,h1,h2⟩:=h;intro j v hv;obtain⟨b,o,s⟩:=ad;subst h0;rw[qL];simp only[World.cell?,hs _ _ h1];exact h2 j v hv
theorem atI.part {I:Imm}{b o:Nat}{vs:List Value}(h:atI I ⟨b,o,none⟩ vs)(c:Nat)(us:List Value)(hu:∀j v,us[j]? = some v→vs[c+j]? = some v):atI I ⟨b,o+c,none⟩ us:=by
 obtain⟨h0,cs,T,fz,h1,h2⟩:=h;refine⟨rfl,cs,T,fz,h1,fun j v hv=>?_⟩;have:=h2 (c+j) v (hu j v hv);simpa [Nat.add_assoc] using this
def RSl {α:Type}(I:Imm)(sz:Nat)(R:List Value→α→Prop)(v:Value)(xs:List α):Prop :=
 ((∃ a cap, v = .slice a 0 cap ∧ cap ≤ maxLen ∧ (a = none → cap = 0)) ∧ xs = []) ∨ ∃ b o cap, v = .slice (some ⟨b, o, none⟩) xs.length cap ∧ xs.length ≤ cap ∧ cap ≤ maxLen ∧
   ∀i x,xs[i]? = some x→∃cs,cs.length=sz∧atI I ⟨b,o+i*sz,none⟩ cs∧R cs x
section
variable {α:Type} {I J:Imm} {sz:Nat} {R R':List Value→α→Prop} {v:Value} {xs:List α}
theorem RSl.mono (h:RSl I sz R v xs)(hs:Sub I J)(hR:∀cs x,R cs x→R' cs x):RSl J sz R' v xs:=by
 rcases h with h | ⟨b,o,cap,h1,h2,h3,h4⟩
 · exact .inl h
 · exact .inr ⟨b,o,cap,h1,h2,h3,fun i x hx=>let ⟨cs,c1,c2,c3⟩:=h4 i x hx; ⟨cs,c1,c2.mono hs,hR _ _ c3⟩⟩
theorem RSl.len (h:RSl I sz R v xs):∃ad cap,v = .slice ad xs.length cap∧xs.length≤maxLen:=by
 rcases h with ⟨⟨a,cap,h,_⟩,rfl⟩ | ⟨b,o,cap,h1,h2,h3,_⟩
 · exact⟨a,cap,h,by simp⟩
 · exact⟨_,cap,h1,Nat.le_trans h2 h3⟩
theorem RSl.le (h:RSl I sz R v xs):xs.length≤maxLen:=by obtain⟨_,_,_,h⟩:=h.len; exact h
theorem RSl.at (h:RSl I sz R v xs){i:Nat}{x:α}(hx:xs[i]? = some x):∃cs,cs.length=sz∧atI I (elA v i sz 0) cs∧R cs x:=by
 rcases h with ⟨h,rfl⟩ | ⟨b,o,cap,h1,h2,h3,h4⟩
 · simp at hx
 · obtain ⟨cs, c1, c2, c3⟩ := h4 i x hx
   exact⟨cs,c1,by subst h1; exact c2,c3⟩
end
theorem yH (v:Value)(k sz c d:Nat):(elA v k sz c).add d=elA v k sz (c+d):=by
 unfold elA; split <;> rw[qL] <;> simp[Nat.add_assoc]
section
variable {P:Program} {n:Nat} {σ:Nat→Value} {ty t t':TypeId} {x y ix:Operand} {X:List Nat} {w0 w:World} {I0 I:Imm} {L:List Res}
abbrev KS (X:List Nat)(w0:World)(I0 I:Imm)(L:List Res):World→Prop:=fun w=>St X w0 I0 I w L
theorem jL {w : World} {ad : Addr} {vs : List Value} {m : Nat} (hm : (sizeOf t).run P w = .ok m w) (ha : (isAgg t).run P w = .ok true w) (hl : vs.length = m)
 (hc:∀j v,vs[j]? = some v→w.cell? (ad.add j)=some v):(loadVar t ad).run P w = .ok (.agg vs.toArray) w:=by
 subst hl;simp only[loadVar,Sem.run_bind,ha,hm,Result.andThen_ok,if_true,run_loadCells_list (P:=P) w ad vs hc]; rfl
theorem jF {w:World}{ad:Addr}{v:Value}(ha:(isAgg t).run P w = .ok false w)(hc:w.cell? ad=some v):(loadVar t ad).run P w = .ok v w:=by
 simp[loadVar,Sem.run_bind,ha,hc]
theorem kS {S:World→Prop}{ad:Addr}{v:Value}(hx:ev n σ x = .pointer (some ad))(h:∀w,S w→(loadVar t ad).run P w = .ok v w):Gives P (ev n σ) S (.load t x) ty v:=fun w hw=>by
 simp only[execOp,Instr.loadAt,hx,Instr.sureAddr,Sem.run_bind,Sem.run_pure,Result.andThen_ok,h w hw]
theorem kx {k b o:Nat}{T:TypeId}{cs:List Value}{v:Value}(h:St X w0 I0 I w L)(hL:L[k]? = some (.cel b T cs))(hv:cs[o]? = some v):w.cell? ⟨b,o,none⟩=some v:=by
 have h1:w.heap[b]? = some (.cells cs.toArray T (0,0)):=h.hold _ (List.mem_of_getElem? hL);simp[World.cell?,h1,hv]
theorem qc (k : Nat) {b o : Nat} {T : TypeId} {cs : List Value} {v : Value} (ha : ∀ w, (isAgg t).run P w = .ok false w) (hL : L[k]? = some (.cel b T cs)) (hx : ev n σ x = .pointer (some ⟨b, o, none⟩))
 (hv:cs[o]? = some v):Gives P (ev n σ) (KS X w0 I0 I L) (.load t x) ty v :=
 kS hx fun w h=>jF (ha w) (kx h hL hv)
theorem g_ldO (k : Nat) {b o m : Nat} {T : TypeId} {cs vs : List Value} (hm : ∀ w, (sizeOf t).run P w = .ok m w) (ha : ∀ w, (isAgg t).run P w = .ok true w) (hL : L[k]? = some (.cel b T cs))
 (hx:ev n σ x = .pointer (some ⟨b,o,none⟩)) (hv:(cs.drop o).take m=vs) (hl:vs.length=m):Gives P (ev n σ) (KS X w0 I0 I L) (.load t x) ty (.agg vs.toArray) :=
 kS hx fun w h=>jL (hm w) (ha w) hl fun j v hj=>by
  rw[qL];refine kx h hL ?_;subst hv;rw[List.getElem?_take]at hj;split at hj
  · simpa using hj
  · cases hj
theorem qt {u : Value} {i sz c : Nat} {vs : List Value} {v : Value} (ha : ∀ w, (isAgg t).run P w = .ok false w) (h : atI I (elA u i sz 0) vs) (hx : ev n σ x = .pointer (some (elA u i sz c)))
 (hv:vs[c]? = some v):Gives P (ev n σ) (KS X w0 I0 I L) (.load t x) ty v :=
 kS hx fun w hw=>jF (ha w) (by have:=h.cell hw.imm c v hv; rwa [yH,Nat.zero_add]at this)
theorem g_ldE {u : Value} {i sz c m : Nat} {vs us : List Value} (hm : ∀ w, (sizeOf t).run P w = .ok m w) (ha : ∀ w, (isAgg t).run P w = .ok true w) (h : atI I (elA u i sz 0) vs)
 (hx:ev n σ x = .pointer (some (elA u i sz c))) (hv:(vs.drop c).take m=us) (hl:us.length=m):Gives P (ev n σ) (KS X w0 I0 I L) (.load t x) ty (.agg us.toArray) :=
 kS hx fun w hw=>jL (hm w) (ha w) hl fun j v hj=>by
  rw[yH,show elA u i sz (c+j)=(elA u i sz 0).add (c+j) by rw[yH,Nat.zero_add]];refine h.cell hw.imm (c+j) v ?_;subst hv;rw[List.getElem?_take]at hj;split at hj
  · simpa using hj
  · cases hj
theorem jG {b o c : Nat} {vs : List Value} {v : Value} (ha : ∀ w, (isAgg t).run P w = .ok false w) (h : atI I ⟨b, o, none⟩ vs) (hx : ev n σ x = .pointer (some ⟨b, o + c, none⟩))
 (hv:vs[c]? = some v):Gives P (ev n σ) (KS X w0 I0 I L) (.load t x) ty v :=
 kS hx fun w hw=>jF (ha w) (by have:=h.cell hw.imm c v hv; rwa [qL]at this)
/-! ### A slice that the call appends to -/
theorem kI {k : Nat} {u : Value} {E : TypeId} {sz m : Nat} {xs : List Value} (h : St X w0 I0 I w L) (hL : L[k]? = some (.row u E sz m xs)) :
 xs.length=m*sz∧((u = .slice none 0 0∧m=0)∨∃g cap,u = .slice (some ⟨g,0,none⟩) m cap∧m≤cap∧cap≤maxLen∧∀j v,xs[j]? = some v→w.cell? ⟨g,j,none⟩=some v):=by
 have h1:w.ownsRow 0 E sz u m xs:=h.hold _ (List.mem_of_getElem? hL);refine⟨h1.1,?_⟩;rcases h1.2 with h2 | ⟨g,cap,cur,h2,_,h3,h4,h5,h6,h7⟩
 · exact .inl h2
 · refine .inr ⟨g, cap, h2, h4, h5, fun j v hv => ?_⟩
   have:=World.ownsRow.cells h1 (g:=g) (by subst h2; rfl) j v hv;rwa [qL,Nat.zero_add]at this
theorem jg (k : Nat) {u : Value} {E : TypeId} {i sz c m : Nat} {xs : List Value} {v : Value} (ha : ∀ w, (isAgg t).run P w = .ok false w) (hL : L[k]? = some (.row u E sz m xs))
 (hx:ev n σ x = .pointer (some (elA u i sz c))) (hv:xs[i*sz+c]? = some v):Gives P (ev n σ) (KS X w0 I0 I L) (.load t x) ty v :=
 kS hx fun w h=>jF (ha w) (by
  obtain⟨hl,h1 | ⟨g,cap,rfl,_,_,hc⟩⟩:=kI h hL
  · obtain ⟨rfl, rfl⟩ := h1
    have:=(List.getElem?_eq_some_iff.1 hv).1;simp at hl; subst hl; simp at this
  · simpa [elA] using hc _ v hv)
theorem g_ldR (k : Nat) {u : Value} {E : TypeId} {i sz c m q : Nat} {xs vs : List Value} (hm : ∀ w, (sizeOf t).run P w = .ok q w) (ha : ∀ w, (isAgg t).run P w = .ok true w)
 (hL:L[k]? = some (.row u E sz m xs)) (hx:ev n σ x = .pointer (some (elA u i sz c))) (hv:∀j v,vs[j]? = some v→xs[i*sz+c+j]? = some v) (hl:vs.length=q) :
 Gives P (ev n σ) (KS X w0 I0 I L) (.load t x) ty (.agg vs.toArray) :=
 kS hx fun w h=>jL (hm w) (ha w) hl fun j v hj=>by
  obtain⟨hl,h1 | ⟨g,cap,rfl,_,_,hc⟩⟩:=kI h hL
  · obtain ⟨rfl, rfl⟩ := h1
    have:=(List.getElem?_eq_some_iff.1 (hv j v hj)).1;simp at hl; subst hl; simp at this
  · rw[yH]; simpa [elA,Nat.add_assoc] using hc _ v (hv j v hj)
theorem g_lenR (k : Nat) {aT : Array TypeId} {u : Value} {E : TypeId} {sz m : Nat} {xs : List Value} {e : TypeId} (ho : aT = #[t]) (hT : P.underlying t = some (.slice e)) (hL : L[k]? = some (.row u E sz m xs)) (hx : ev n σ x = u) :
 Gives P (ev n σ) (KS X w0 I0 I L) (.call { callee:=.builtin .len,args := #[x],argTypes:=aT }) ty (.int .i64 m):=fun w h=>by
 obtain⟨_,⟨h1,h2⟩ | ⟨g,cap,h1,_⟩⟩:=kI h hL
 · subst h2; exact yj (S:=fun _=>True) ho hT (hx.trans h1) w trivial
 · exact yj (S:=fun _=>True) ho hT (hx.trans h1) w trivial
theorem g_ixR (k : Nat) {K : IntKind} {e E : TypeId} {u : Value} {sz m : Nat} {xs : List Value} {i : Int} (hT : P.underlying t = some (.slice e)) (hs : ∀ w, (sizeOf e).run P w = .ok sz w)
 (hL:L[k]? = some (.row u E sz m xs)) (hx:ev n σ x=u) (hi:ev n σ ix = .int K i) (h0:0≤i) (h1:i < m) :
 Gives P (ev n σ) (KS X w0 I0 I L) (.indexAddr t x ix) ty (.pointer (some (elA u i.toNat sz 0))):=fun w h=>by
 obtain⟨_,⟨h2,h3⟩ | ⟨g,cap,h2,_⟩⟩:=kI h hL
 · subst h3; omega
 · have := kB (S := fun _ => True) (ty := ty) hT hs (hx.trans h2) hi h0 h1 w trivial
   rw[this]; subst h2; rfl
/-! ### Slices that stand still -/
theorem qo {α : Type} {aT : Array TypeId} {u : Value} {sz : Nat} {R : List Value → α → Prop} {xs : List α} {e : TypeId} {S : World → Prop} (ho : aT = #[t]) (hT : P.underlying t = some (.slice e))
 (hr:RSl I sz R u xs) (hx:ev n σ x=u):Gives P (ev n σ) S (.call { callee:=.builtin .len,args := #[x],argTypes:=aT }) ty (.int .i64 xs.length):=by
 obtain⟨ad,cap,h1,_⟩:=hr.len;exact yj ho hT (hx.trans h1)
theorem g_ixI {α : Type} {K : IntKind} {e : TypeId} {u : Value} {sz : Nat} {R : List Value → α → Prop} {xs : List α} {i : Int} {S : World → Prop} (hT : P.underlying t = some (.slice e)) (hs : ∀ w, (sizeOf e).run P w = .ok sz w)
 (hr:RSl I sz R u xs) (hx:ev n σ x=u) (hi:ev n σ ix = .int K i) (h0:0≤i) (h1:i < xs.length):Gives P (ev n σ) S (.indexAddr t x ix) ty (.pointer (some (elA u i.toNat sz 0))):=by
 rcases hr with ⟨_,rfl⟩ | ⟨b,o,cap,h2,_⟩
 · simp at h1; omega
 · have := kB (P := P) (S := S) (ty := ty) hT hs (hx.trans h2) hi h0 (by simpa using h1)
   subst h2; exact this
theorem qE {fs : Array Field} {i k sz c s c' : Nat} {u : Value} {f : Field} {S : World → Prop} (hT : P.underlying t = some (.struct fs)) (hf : fs[i]? = some f) (hs : ∀ w, (sizeOf f.type).run P w = .ok s w) (h0 : Nat.beq s 0 = false)
 (hx:ev n σ x = .pointer (some (elA u k sz c))) (ho:c+f.offset=c'):Gives P (ev n σ) S (.fieldAddr t x i) ty (.pointer (some (elA u k sz c'))):=fun w _=>by
 have h0':s≠0:=fun e=>by subst e; simp at h0
 subst ho;simp only[execOp,Instr.fieldAt,Sem.run_bind,run_underlying hT,Result.andThen_ok,hf,hx,Instr.sureAddr,Sem.run_pure,fieldPlace,hs,h0',if_false,yH]
def resl (v:Value)(l h m sz:Nat):Value :=
 match v with
 | .slice a _ _=>.slice (if m=l then a else a.map (·.add (l*sz))) (h - l) (m - l)
 | v=>v
theorem RSl.resl {α : Type} {I : Imm} {sz : Nat} {R : List Value → α → Prop} {u : Value} {xs : List α} (hr : RSl I sz R u xs) (l h : Nat) (hlh : l ≤ h) (hh : h ≤ xs.length) :
 RSl I sz R (Inl.resl u l h h sz) ((xs.take h).drop l):=by
 rcases hr with ⟨⟨a,cap,rfl,_⟩,rfl⟩ | ⟨b,o,cap,h1,h2,h3,h4⟩
 · simp at hh; subst hh; simp at hlh; subst hlh
   exact .inl ⟨⟨a,0,by simp[Inl.resl],by simp,fun _=>rfl⟩,by simp⟩
 · subst h1
   have hlen:((xs.take h).drop l).length=h - l:=by simp[Nat.min_eq_left hh]
   by_cases e:h=l
   · subst e
     refine .inr ⟨b,o,0,by simp[Inl.resl],by simp,by simp,?_⟩;intro i x hx;have:=(List.getElem?_eq_some_iff.1 hx).1;omega
   · refine .inr ⟨b, o + l * sz, h - l, by simp [Inl.resl, e, qL, Nat.min_eq_left hh], by omega, by omega, ?_⟩
     intro i x hx;rw[List.getElem?_drop,List.getElem?_take]at hx;split at hx
     · obtain ⟨cs, c1, c2, c3⟩ := h4 _ _ hx
       exact⟨cs,c1,by rw[show o+l*sz+i*sz=o+(l+i)*sz by rw[Nat.add_mul]; omega]; exact c2,c3⟩
     · cases hx
theorem g_slice3 {e : TypeId} {S : World → Prop} {ad : Option Addr} {len cap sz : Nat} {kl kh km : IntKind} {l h m : Int} {lo hi mx : Operand} (hT : P.underlying t = some (.slice e)) (hs : ∀ w, (sizeOf e).run P w = .ok sz w)
 (hx:ev n σ x = .slice ad len cap) (hl:ev n σ lo = .int kl l) (hh:ev n σ hi = .int kh h) (hm:ev n σ mx = .int km m) (h0:0≤l) (h1:l≤h) (h2:h≤m) (h3:m≤cap) :
 Gives P (ev n σ) S (.slice t x (some lo) (some hi) (some mx)) ty (resl (.slice ad len cap) l.toNat h.toNat m.toNat sz):=fun w _=>by
 have e1:(Instr.sliceBound (.int km m) cap .slice3Acap).run P w = .ok m.toNat w:=run_sliceBound w km m cap _ (by omega) h3;have e2:(Instr.sliceBound (.int kh h) m.toNat .slice3B).run P w = .ok h.toNat w:=run_sliceBound w kh h _ _ (by omega) (by omega);have e3:(Instr.sliceBound (.int kl l) h.toNat .slice3C).run P w = .ok l.toNat w:=run_sliceBound w kl l _ _ (by omega) (by omega);simp[execOp,Instr.sliceAt,Sem.run_bind,run_underlying hT,hx,Instr.slice,Instr.sliceBounds,hl,hh,hm,e1,e2,e3,hs,resl]
theorem g_slice2 {e : TypeId} {S : World → Prop} {ad : Option Addr} {len cap sz : Nat} {kl kh : IntKind} {l h : Int} {lo hi : Operand} (hT : P.underlying t = some (.slice e)) (hs : ∀ w, (sizeOf e).run P w = .ok sz w)
 (hx:ev n σ x = .slice ad len cap) (hl:ev n σ lo = .int kl l) (hh:ev n σ hi = .int kh h) (h0:0≤l) (h1:l≤h) (h2:h≤cap) :
 Gives P (ev n σ) S (.slice t x (some lo) (some hi) none) ty (resl (.slice ad len cap) l.toNat h.toNat cap sz):=fun w _=>by
 have e2:(Instr.sliceBound (.int kh h) cap .sliceAcap).run P w = .ok h.toNat w:=run_sliceBound w kh h _ _ (by omega) (by omega);have e3:(Instr.sliceBound (.int kl l) h.toNat .sliceB).run P w = .ok l.toNat w:=run_sliceBound w kl l _ _ (by omega) (by omega);simp[execOp,Instr.sliceAt,Sem.run_bind,run_underlying hT,hx,Instr.slice,Instr.sliceBounds,hl,hh,e2,e3,hs,resl]
theorem yh {e : TypeId} {S : World → Prop} {ad : Option Addr} {len cap sz : Nat} {kl : IntKind} {l : Int} {lo : Operand} (hT : P.underlying t = some (.slice e)) (hs : ∀ w, (sizeOf e).run P w = .ok sz w)
 (hx:ev n σ x = .slice ad len cap) (hl:ev n σ lo = .int kl l) (h0:0≤l) (h1:l≤len) :
 Gives P (ev n σ) S (.slice t x (some lo) none none) ty (resl (.slice ad len cap) l.toNat len cap sz):=fun w _=>by
 have e3:(Instr.sliceBound (.int kl l) len .sliceB).run P w = .ok l.toNat w:=run_sliceBound w kl l _ _ (by omega) (by omega);simp[execOp,Instr.sliceAt,Sem.run_bind,run_underlying hT,hx,Instr.slice,Instr.sliceBounds,hl,e3,hs,resl]
theorem g_sliceH {e : TypeId} {S : World → Prop} {ad : Option Addr} {len cap sz : Nat} {kh : IntKind} {h : Int} {hi : Operand} (hT : P.underlying t = some (.slice e)) (hs : ∀ w, (sizeOf e).run P w = .ok sz w)
 (hx:ev n σ x = .slice ad len cap) (hh:ev n σ hi = .int kh h) (h0:0≤h) (h2:h≤cap) :
 Gives P (ev n σ) S (.slice t x none (some hi) none) ty (resl (.slice ad len cap) 0 h.toNat cap sz):=fun w _=>by
 have e2:(Instr.sliceBound (.int kh h) cap .sliceAcap).run P w = .ok h.toNat w:=run_sliceBound w kh h _ _ (by omega) (by omega);simp[execOp,Instr.sliceAt,Sem.run_bind,run_underlying hT,hx,Instr.slice,Instr.sliceBounds,hh,e2,hs,resl]
theorem g_build {S : World → Prop} {l : List (Nat × Operand)} {z : Value} {fs : Array Field} {pl : List (Nat × Nat)} {cs : List Value} (hz : ∀ w, (zeroValue t).run P w = .ok z w) (hT : P.underlying t = some (.struct fs))
 (hp:∀w,(fs.mapM fun f=>do pure (f.offset,← sizeOf f.type):Sem (Array (Nat×Nat))).run P w = .ok pl.toArray w)
 (hf:Instr.fill (pl[·]?) z.cells (l.map fun p=>(p.1,ev n σ p.2))=some cs.toArray):Gives P (ev n σ) S (.build t l.toArray) ty (.agg cs.toArray):=fun w _=>by
 simp only[execOp,Instr.build,Sem.run_bind,hz,run_underlying hT,Result.andThen_ok,hp];simp[hf]
end
end Go.Inl
namespace Go.Inl
open Go Go.RowKit
structure Does (P : Program) (ρ : Operand → Value) (op : Op) (ty : TypeId) (w : World) (R : Value → World → Prop) : Prop where
 run : DoesR P R ((execOp ρ ⟨none, op, ty, "", #[], none⟩).run P w)
theorem Does.opW {P : Program} {op : Op} {ty : TypeId} {w : World} {R : Value → World → Prop} {a : Act} {d : Option Tmp} {p : String} {af : Array Edge} {g : Option (Nat × Bool)} {K : Act → World → Prop} (h : Does P a.eval op ty w R)
 (k:∀v w',R v w'→K (a.put d v) w'):opW P ⟨d,op,ty,p,af,g⟩ a w K:=by
 unfold Inl.opW;rw[kU];exact DoesR.mono k h.run
structure Ctr (P : Program) (f : FuncId) (l : List Value) (w : World) (R : Value → World → Prop) : Prop where
 calls:Calls P f l.toArray w fun e w'=>∃v,e = .returned v∧R v w'
theorem Ctr.mono {P:Program}{f:FuncId}{l:List Value}{w:World}{R R':Value→World→Prop}(h:Ctr P f l w R)(hr:∀v w',R v w'→R' v w'):Ctr P f l w R' :=
 ⟨Calls.mono h.calls fun _ _ ⟨v,he,h⟩=>⟨v,he,hr v _ h⟩⟩
section
variable {P : Program} {n : Nat} {df : List Deferred} {ro : Option Nat} {σ : Nat → Value} {w : World} {ops : Array Oper} {Q : Exit → Act → World → Prop} {rest : List Oper} {d : Option Tmp} {op : Op} {ty : TypeId} {p : String} {af : Array Edge}
 {R:Value→World→Prop}
theorem Does.mono {ρ:Operand→Value}{R':Value→World→Prop}(h:Does P ρ op ty w R)(hr:∀v w',R v w'→R' v w'):Does P ρ op ty w R' :=
 ⟨DoesR.mono hr h.run⟩
theorem wl_e (h:Does P (ev n σ) op ty w R)(k:∀v w',R v w'→wpL P ops Q rest (act n df (updO σ d v)) w'):wpL P ops Q (⟨d,op,ty,p,af,none⟩::rest) (act n df σ) w:=by
 unfold wpL;rw[if_pos (by simp[Region.wanted])];exact Does.opW (by rw[jT]; exact h) fun v w' hR=>by rw[jA]; exact k v w' hR
theorem wl_et {j t : Nat} {g : Bool} (hj : (ops[j]?).bind (·.dst) = some t) (hv : ev n σ (.tmp t) = .bool g) (h : Does P (ev n σ) op ty w R) (k : ∀ v w', R v w' → wpL P ops Q rest (act n df (updO σ d v)) w') :
 wpL P ops Q (⟨d,op,ty,p,af,some (j,g)⟩::rest) (act n df σ) w:=by
 unfold wpL;rw[if_pos (by simp[Region.wanted,kv hj hv])];exact Does.opW (by rw[jT]; exact h) fun v w' hR=>by rw[jA]; exact k v w' hR
variable {l:List Oper}
theorem qq {X : List Nat} {w0 : World} {I0 I : Imm} {L : List Res} {v : Value} (Z : St X w0 I0 I w L) (h : Gives P (ev n σ) (KS X w0 I0 I L) op ty v) (k : OL P l Q n df rest (updO σ d v) w) :
 OL P l Q n df (⟨d,op,ty,p,af,none⟩::rest) σ w:=⟨wl_q (S:=KS X w0 I0 I L) Z h k.run⟩
theorem qp {v:Value}(h:Gives P (ev n σ) (fun _=>True) op ty v)(k:OL P l Q n df rest (updO σ d v) w):OL P l Q n df (⟨d,op,ty,p,af,none⟩::rest) σ w:=⟨wl_q (S:=fun _=>True) trivial h k.run⟩
theorem qe (h:Does P (ev n σ) op ty w R)(k:∀v w',R v w'→OL P l Q n df rest (updO σ d v) w'):OL P l Q n df (⟨d,op,ty,p,af,none⟩::rest) σ w:=⟨wl_e h fun v w' hR=>(k v w' hR).run⟩
theorem qP {v : Value} {w' : World} (h : (execOp (ev n σ) ⟨none, op, ty, "", #[], none⟩).run P w = .ok (.value v) w') (hR : R v w') : Does P (ev n σ) op ty w R := by
 refine⟨?_⟩;rw[h];exact hR
theorem zy {w' : World} (h : (execOp (ev n σ) ⟨none, op, ty, "", #[], none⟩).run P w = .ok .skip w') (hR : R undef w') : Does P (ev n σ) op ty w R := by
 refine⟨?_⟩;rw[h];exact hR
variable {X:List Nat} {w0:World} {I0 I:Imm} {L:List Res}
theorem qr {z : Value} {T : TypeId} {cs : List Value} (Z : St X w0 I0 I w L) (hz : ∀ w, (zeroValue T).run P w = .ok z w) (hc : z.cells.toList = cs) :
 Does P (ev n σ) (.alloc T) ty w fun v w'=>∃b,v = .pointer (some ⟨b,0,none⟩)∧St X w0 I0 I w' (.cel b T cs::L):=by
 subst hc;refine qP (v:=.pointer (some ⟨w.heap.size,0,none⟩)) (w':=w.alloc (.cells z.cells T)) ?_ ⟨_,rfl,by simpa using Z.alloc T z.cells.toList⟩;simp[execOp,Instr.alloc,hz,newVar,newRow]
theorem d_box {T : TypeId} {x : Operand} {cs : List Value} (Z : St X w0 I0 I w L) (hc : (ev n σ x).cells.toList = cs) :
 Does P (ev n σ) (.box T x) ty w fun v w'=>∃b,v = .pointer (some ⟨b,0,none⟩)∧St X w0 I0 I w' (.cel b T cs::L):=by
 subst hc;refine qP (v:=.pointer (some ⟨w.heap.size,0,none⟩)) (w':=w.alloc (.cells (ev n σ x).cells T)) ?_ ⟨_,rfl,by simpa using Z.alloc T (ev n σ x).cells.toList⟩;simp[execOp,Instr.box,newVar,newRow]
def putL : List Value → Nat → List Value → List Value
 | cs,_,[]=>cs
 | [],_,_=>[]
 | _::cs,0,v::vs=>v::putL cs 0 vs
 | c::cs,o+1,vs=>c::putL cs o vs
theorem putL_eq : ∀ (cs : List Value) (o : Nat) (vs : List Value), o + vs.length ≤ cs.length → putL cs o vs = cs.take o ++ vs ++ cs.drop (o + vs.length)
 | cs,o,[],_=>by cases cs <;> simp[putL]
 | [],o,v::vs,h=>by simp at h
 | c::cs,0,v::vs,h=>by simp[putL,putL_eq cs 0 vs (by simpa using h)]
 | c::cs,o+1,v::vs,h=>by
   have:=putL_eq cs o (v::vs) (by simp at h ⊢; omega);simp only[putL,this];simp[show o+1+(vs.length+1)=(o+(vs.length+1))+1 by omega]
theorem St.put {k b o : Nat} {T : TypeId} {cs vs : List Value} (h : St X w0 I0 I w L) (hL : L[k]? = some (.cel b T cs)) :
 St X w0 I0 I (w.setRow b (putL cs o vs).toArray) (L.set k (.cel b T (putL cs o vs))):=by
 have h1:w.heap[b]? = some (.cells cs.toArray T (0,0)):=h.hold _ (List.mem_of_getElem? hL);refine h.change hL rfl rfl rfl (by simp) (fun c _ hc=>setRow_other w b c _ (fun e=>hc (by simp[Res.foot,e]))) (fun c hc=>.inl hc) (by simp[Res.foot]) ?_;exact setRow_heap w b _ _ T (0,0) h1
theorem qf (k : Nat) {T t : TypeId} {x y : Operand} {b o m : Nat} {cs cs' : List Value} (Z : St X w0 I0 I w L) (hm : ∀ w, (sizeOf t).run P w = .ok m w) (hL : L[k]? = some (.cel b T cs))
 (hx:ev n σ x = .pointer (some ⟨b,o,none⟩)) {v:Value} (hy:ev n σ y=v) {vs:List Value} (hv:v.cells.toList=vs) (hlen:vs.length=m) (h1:vs.all (·.oneCell')=true) (hl:o+m≤cs.length)
 (hc:putL cs o vs=cs'):Does P (ev n σ) (.store t x y) ty w fun u w'=>u=undef∧St X w0 I0 I w' (L.set k (.cel b T cs')):=by
 subst hc hlen;have hh:w.heap[b]? = some (.cells cs.toArray T (0,0)):=Z.hold _ (List.mem_of_getElem? hL);have hst:=run_storeCells_at P b o T vs 0 cs.toArray w hh (by simpa using hl) (by simpa using h1);refine zy (w':=w.setRow b (putL cs o vs).toArray) ?_ ⟨rfl,Z.put hL⟩;have hsz:v.cells.size=vs.length:=by rw[← hv]; simp
 simp only[execOp,Instr.storeAt,hx,hy,Instr.sureAddr,storeVar,Sem.run_bind,Sem.run_pure,hm,Result.andThen_ok,hsz,ne_eq,not_true_eq_false,if_false,hv,hst,putL_eq cs o vs hl];simp
theorem d_buildSlice {t e : TypeId} {len sz : Nat} {l : List (Nat × Operand)} {z : Value} {cs : List Value} (Z : St X w0 I0 I w L) (hT : P.underlying t = some (.slice e)) (hs : ∀ w, (sizeOf e).run P w = .ok sz w)
 (hz:∀w,(zeroValue e).run P w = .ok z w) (hsmall:Nat.ble (len*sz) 16777216=true) (hpos:Nat.beq (len*sz) 0=false)
 (hf:Instr.fill (fun i=>some (i*sz,sz)) ((Array.range (len*sz)).map (z.cells[· % z.cells.size]!)) (l.map fun p=>(p.1,ev n σ p.2))=some cs.toArray) :
 Does P (ev n σ) (.buildSlice t len l.toArray) ty w fun v w'=>∃b,v = .slice (some ⟨b,0,none⟩) len len∧St X w0 I0 I w' (.cel b e cs::L):=by
 have h1:¬(16777216 < len*sz):=by have:=Nat.le_of_ble_eq_true hsmall; omega
 have h2:¬(len*sz=0):=fun e=>by simp[e]at hpos
 refine qP (v:=.slice (some ⟨w.heap.size,0,none⟩) len len) (w':=w.alloc (.cells cs.toArray e)) ?_ ⟨_,rfl,Z.alloc e cs⟩;simp only[execOp,Instr.buildSlice,Sem.run_bind,run_underlying hT,hs,Result.andThen_ok,Nat.reducePow,gt_iff_lt,h1,if_false,h2,hz,Sem.run_pure];simp[hf,newRow]
theorem jo {t e : TypeId} {sz : Nat} (Z : St X w0 I0 I w L) (hT : P.underlying t = some (.slice e)) (hs : ∀ w, (sizeOf e).run P w = .ok sz w) :
 Does P (ev n σ) (.buildSlice t 0 #[]) ty w fun v w'=>St X w0 I0 I w' (.row v e sz 0 []::L)∧∃b,v = .slice (some ⟨b,0,none⟩) 0 0:=by
 refine qP (v:=.slice (some ⟨w.heap.size,0,none⟩) 0 0) (w':=w.alloc (.cells #[] e)) ?_ ⟨?_,_,rfl⟩
 · simp[execOp,Instr.buildSlice,run_underlying hT,hs,Instr.fill,newRow,show Array.range 0 = #[] from rfl]
 · have h := Z.alloc e []
   have := h.change (k := 0) (r := .cel w.heap.size e []) (r' := .row (.slice (some ⟨w.heap.size, 0, none⟩) 0 0) e sz 0 []) rfl rfl rfl rfl (Nat.le_refl _) (fun _ _ _ => rfl) (fun b hb => .inl hb) (by simp [Res.foot, Value.ownBlock])
    ⟨by simp,.inr ⟨w.heap.size,0,#[],rfl,Nat.zero_le _,heap_alloc_new w _,Nat.le_refl _,Nat.zero_le _,by simp,by simp⟩⟩
   simpa using this
theorem St.asRow {k b : Nat} {T : TypeId} {sz m : Nat} {cs : List Value} (h : St X w0 I0 I w L) (hL : L[k]? = some (.cel b T cs)) (hl : cs.length = m * sz) (hm : m ≤ maxLen) :
 St X w0 I0 I w (L.set k (.row (.slice (some ⟨b,0,none⟩) m m) T sz m cs)):=by
 have h1:w.heap[b]? = some (.cells cs.toArray T (0,0)):=h.hold _ (List.mem_of_getElem? hL);refine h.change hL rfl rfl rfl (Nat.le_refl _) (fun _ _ _=>rfl) (fun c hc=>.inl hc) (by simp[Res.foot,Value.ownBlock]) ?_;exact⟨hl,.inr ⟨b,m,cs.toArray,rfl,Nat.zero_le _,h1,Nat.le_refl _,hm,by simpa using hl,by rw[← hl]; simp⟩⟩
theorem run_makeS {t e : TypeId} {sz by' : Nat} {z : Value} (hT : P.underlying t = some (.slice e)) {i : TypeInfo} (hi : P.info? e = some i) (hz : i.zero = some z) (hs : i.size = sz) (hb : i.bytes = by') {kl kc : IntKind} {l c : Int} (h0 : 0 ≤ l) (hlc : l ≤ c)
 (hbytes:(by':Int)*c≤281474976710656) (h63:c≤9223372036854775807) :
 (Instr.makeSlice t (.int kl l) (.int kc c)).run P w = .ok (.slice (some ⟨w.heap.size,0,none⟩) l.toNat c.toNat) (w.alloc (.cells (madeCells z.cells (c.toNat*sz)) e)):=by
 subst hs hb;exact run_make w t e i z hT hi hz kl kc l c h0 hlc hbytes h63
theorem d_make {t e : TypeId} {sz by' : Nat} {z : Value} {x y : Operand} {kl kc : IntKind} {l c : Int} (Z : St X w0 I0 I w L) (hT : P.underlying t = some (.slice e)) {i : TypeInfo} (hi : P.info? e = some i) (hz : i.zero = some z) (hs : i.size = sz)
 (hb:i.bytes=by') (hx:ev n σ x = .int kl l) (hy:ev n σ y = .int kc c) (h0:0≤l) (hlc:l≤c) (hbytes:(by':Int)*c≤281474976710656) (h63:c≤9223372036854775807) :
 Does P (ev n σ) (.makeSlice t x y) ty w fun v w'=>∃b,v = .slice (some ⟨b,0,none⟩) l.toNat c.toNat∧St X w0 I0 I w' (.cel b e (madeCells z.cells (c.toNat*sz)).toList::L):=by
 refine qP (v:=.slice (some ⟨w.heap.size,0,none⟩) l.toNat c.toNat) (w':=w.alloc (.cells (madeCells z.cells (c.toNat*sz)) e)) ?_ ⟨_,rfl,by simpa using Z.alloc e (madeCells z.cells (c.toNat*sz)).toList⟩;simp[execOp,hx,hy,run_makeS hT hi hz hs hb h0 hlc hbytes h63]
theorem d_make0 {t e : TypeId} {sz by' : Nat} {z : Value} {x y : Operand} {kl kc : IntKind} {c : Int} (Z : St X w0 I0 I w L) (hT : P.underlying t = some (.slice e)) {i : TypeInfo} (hi : P.info? e = some i) (hz : i.zero = some z) (hs : i.size = sz)
 (hb:i.bytes=by') (hx:ev n σ x = .int kl 0) (hy:ev n σ y = .int kc c) (hlc:0≤c) (hbytes:(by':Int)*c≤281474976710656) (h63:c≤9223372036854775807) :
 Does P (ev n σ) (.makeSlice t x y) ty w fun v w'=>St X w0 I0 I w' (.row v e sz 0 []::L)∧v≠.slice none 0 0:=by
 refine qP (v:=.slice (some ⟨w.heap.size,0,none⟩) 0 c.toNat) (w':=w.alloc (.cells (madeCells z.cells (c.toNat*sz)) e)) ?_ ⟨?_,by simp⟩
 · simp[execOp,hx,hy,run_makeS hT hi hz hs hb (Int.le_refl 0) hlc hbytes h63]
 · have h : St X w0 I0 I (w.alloc (.cells (madeCells z.cells (c.toNat * sz)) e)) (.cel w.heap.size e (madeCells z.cells (c.toNat * sz)).toList :: L) := by simpa using Z.alloc e (madeCells z.cells (c.toNat * sz)).toList
   have := h.change (k := 0) (r := .cel w.heap.size e _) (r' := .row (.slice (some ⟨w.heap.size, 0, none⟩) 0 c.toNat) e sz 0 []) rfl rfl rfl rfl (Nat.le_refl _) (fun _ _ _ => rfl) (fun b hb => .inl hb) (by simp [Res.foot, Value.ownBlock])
    (World.ownsRow_made w _ c.toNat (Nat.zero_le _) (by simp only[maxLen]; omega) (size_madeCells _ _))
   simpa using this
theorem St.nilRow (h:St X w0 I0 I w L)(E:TypeId)(sz:Nat):St X w0 I0 I w (.row (.slice none 0 0) E sz 0 []::L) :=
 ⟨h.os,h.tape,h.output,h.size,h.block,h.imm,h.old,h.ext,fun r hr=>by
   cases List.mem_cons.1 hr with
   | inl e=>subst e; exact World.ownsRow_nil w 0 E sz
   | inr hr=>exact h.hold r hr,
   fun r hr b hb=>by
    cases List.mem_cons.1 hr with
    | inl e=>subst e; simp[Res.foot,Value.ownBlock]at hb
    | inr hr=>exact h.new r hr b hb,
   by simpa [Res.foot,Value.ownBlock] using h.nodup⟩
theorem d_append (k : Nat) {t e : TypeId} {sz by' : Nat} {z : Value} {x y : Operand} {aT : Array TypeId} {u : Value} {m m' c : Nat} {xs news : List Value} {ad : Addr} (Z : St X w0 I0 I w L) (ho : aT = #[t, t]) (hT : P.underlying t = some (.slice e))
 {i:TypeInfo} (hi:P.info? e=some i) (hz:i.zero=some z) (hs:i.size=sz) (hb:i.bytes=by') (hzs:z.cells.size=sz) (h0:Nat.blt 0 sz=true) (hL:L[k]? = some (.row u e sz m xs)) (hx:ev n σ x=u)
 (hy:ev n σ y = .slice (some ad) m' c) (hl:news.length=m'*sz) (hc:∀j v,news[j]? = some v→w.cell? (ad.add j)=some v) (h1:news.all (·.oneCell')=true)
 (h63:m+m'≤9223372036854775807) (hbytes:(m+m')*by'≤140737488355328) :
 Does P (ev n σ) (.call { callee:=.builtin .append,args := #[x,y],argTypes:=aT }) ty w fun v w'=>St X w0 I0 I w' (L.set k (.row v e sz (m+m') (xs++news)))∧(v = .slice none 0 0↔u = .slice none 0 0∧m'=0):=by
 subst ho;have hown:w.ownsRow 0 e sz u m xs:=Z.hold _ (List.mem_of_getElem? hL);obtain⟨v',w',hr,h2,h3,h4⟩:=run_append_own (P:=P) w 0 t ty e i z sz by' hT hi hz hs hb hzs (by simpa using h0) u m xs hown ad m' c news hl hc (by simpa using h1) (by simpa [maxLen] using h63) hbytes (Nat.zero_le _)
 refine qP (v:=v') (w':=w') ?_ ⟨?_,h4⟩
 · simp only[execOp,resolve,invoke,builtin,List.map_toArray,List.map_cons,List.map_nil,hx,hy,Sem.run_bind,Sem.run_pure,Result.andThen_ok,hr]
 · have hlt:∀b,v'.ownBlock=some b→b∈(Res.row u e sz m xs).foot∨w.heap.size≤b:=by
    intro b hb';by_cases hbl:w.heap.size≤b
    · exact .inr hbl
    · refine .inl ?_
      rcases hown.2 with ⟨rfl,rfl⟩ | ⟨g,cap,cur,rfl,hbg,hg,hnc,hcm,hcs,htake⟩
      · obtain ⟨v2, w2, hr2, h22, _, _⟩ := run_append_own (P := P) w w.heap.size t ty e i z sz by' hT hi hz hs hb hzs (by simpa using h0) (.slice none 0 0) 0 xs ⟨hown.1, .inl ⟨rfl, rfl⟩⟩ ad m' c news hl hc (by simpa using h1)
         (by simpa [maxLen] using h63) hbytes (Nat.le_refl _)
        rw[hr]at hr2;simp only[Result.ok.injEq]at hr2;obtain⟨rfl,rfl⟩:=hr2;exact absurd (World.ownsRow.lt h22 b hb').1 hbl
      · subst hs
        by_cases hroom:m+m'≤cap
        · have hr2 := run_append_room (P := P) w t ty e i hT hi g m cap cur hg ad m' c news hl hc (by simpa using h1) hroom (by rw [hl, hcs, ← Nat.add_mul]; exact Nat.mul_le_mul_right _ hroom)
          rw[hr]at hr2;simp only[Result.ok.injEq]at hr2;obtain⟨rfl,rfl⟩:=hr2;simpa [Res.foot,Value.ownBlock,eq_comm] using hb'
        · have hr2 := run_append_grow (P := P) w t ty e i z hT hi hz ⟨g, 0, none⟩ m cap xs hown.1 (World.ownsRow.cells hown (g := g) rfl) ad m' c news hl hc (by omega) (by omega) (growslice_fits (by omega) (by rw [hb]; exact hbytes))
          rw[hr]at hr2;simp only[Result.ok.injEq]at hr2;obtain⟨rfl,rfl⟩:=hr2;simp[Value.ownBlock]at hb'
          omega
   refine Z.change hL h3.os h3.tape h3.output h3.size (fun b hb' hf=>h3.block b hb' (fun e=>hf (by simp[Res.foot,← e]))) (fun b hb'=>hlt b (by simpa [Res.foot] using hb')) ?_ h2;cases hv:v'.ownBlock <;> simp[Res.foot,hv]
theorem ya {v:Value}{E:TypeId}{sz m k:Nat}{xs:List Value}{L:List Res}(hk:k < L.length)(h:St X w0 I0 I w (L.set k (.row v E sz m xs))):∃ad cap,v = .slice ad m cap:=by
 obtain⟨_,h1 | ⟨g,cap,h1,_⟩⟩:=kI (k:=k) (u:=v) (E:=E) (sz:=sz) (m:=m) (xs:=xs) h (by simp[hk])
 · obtain⟨rfl,rfl⟩:=h1; exact⟨none,0,rfl⟩
 · exact⟨_,cap,h1⟩
theorem d_appendO (k j : Nat) {t e T : TypeId} {sz by' : Nat} {z : Value} {x y : Operand} {aT : Array TypeId} {u : Value} {m m' c b : Nat} {xs news : List Value} (Z : St X w0 I0 I w L) (ho : aT = #[t, t]) (hT : P.underlying t = some (.slice e))
 {i:TypeInfo} (hi:P.info? e=some i) (hz:i.zero=some z) (hs:i.size=sz) (hb:i.bytes=by') (hzs:z.cells.size=sz) (h0:Nat.blt 0 sz=true) (hL:L[k]? = some (.row u e sz m xs)) (hJ:L[j]? = some (.cel b T news)) (hx:ev n σ x=u)
 (hy:ev n σ y = .slice (some ⟨b,0,none⟩) m' c) (hl:news.length=m'*sz) (h1:news.all (·.oneCell')=true) (h63:m+m'≤9223372036854775807) (hbytes:(m+m')*by'≤140737488355328) :
 Does P (ev n σ) (.call { callee:=.builtin .append,args := #[x,y],argTypes:=aT }) ty w fun v w'=>St X w0 I0 I w' (L.set k (.row v e sz (m+m') (xs++news)))∧(v = .slice none 0 0↔u = .slice none 0 0∧m'=0) :=
 d_append k Z ho hT hi hz hs hb hzs h0 hL hx hy hl (fun j v hv=>by rw[qL,Nat.zero_add]; exact kx Z hJ hv) h1 h63 hbytes
/-! ### Calls -/
theorem ml0:List.map (ev n σ) []=[]:=rfl
theorem ml {x:Operand}{v:Value}{l:List Operand}{vs:List Value}(h:ev n σ x=v)(hs:l.map (ev n σ)=vs):(x::l).map (ev n σ)=v::vs:=by simp[h,hs]
theorem qi {f : FuncId} {l : List Operand} {aT : Array TypeId} {vs : List Value} (hc : ∀ args w, (callFunc f args).run P w = .ok (.enter f args) w) (ha : l.map (ev n σ) = vs) (hF : Ctr P f vs w R) :
 Does P (ev n σ) (.call { callee:=.value (.func f),args:=l.toArray,argTypes:=aT }) ty w R:=by
 refine⟨?_⟩
 have he : (execOp (ev n σ) ⟨none, .call { callee := .value (.func f), args := l.toArray, argTypes := aT }, ty, "", #[], none⟩).run P w = .ok (.enter f vs.toArray) w := by
  subst ha;simp[execOp,resolve,Deferred.ofValue,ev,invoke,hc]
 rw[he];exact hF.calls
theorem zb {f : FuncId} {x : Operand} {l : List Operand} {aT : Array TypeId} {caps vs : List Value} (hc : ∀ args w, (callFunc f args).run P w = .ok (.enter f args) w) (hx : ev n σ x = .func (.func f) #[] caps.toArray)
 (ha:l.map (ev n σ)++caps=vs) (hF:Ctr P f vs w R):Does P (ev n σ) (.call { callee:=.value x,args:=l.toArray,argTypes:=aT }) ty w R:=by
 refine⟨?_⟩
 have he : (execOp (ev n σ) ⟨none, .call { callee := .value x, args := l.toArray, argTypes := aT }, ty, "", #[], none⟩).run P w = .ok (.enter f vs.toArray) w := by
  subst ha;simp[execOp,resolve,Deferred.ofValue,hx,invoke,hc]
 rw[he];exact hF.calls
/-! ### Returns -/
def ResV (P : Program) (n : Nat) (σ : Nat → Value) (w : World) : ResultVar → Value → Prop
 | .tmp t,v=>ev n σ (.tmp t)=v
 | .cell t T,v=>∃ad,ev n σ (.tmp t) = .pointer (some ad)∧(loadVar T ad).run P w = .ok v w
theorem qg {t:Tmp}{v:Value}(h:ev n σ (.tmp t)=v):ResV P n σ w (.tmp t) v:=h
theorem qw (k : Nat) {t : Tmp} {T T' : TypeId} {b m : Nat} {cs : List Value} (Z : St X w0 I0 I w L) (hm : ∀ w, (sizeOf T).run P w = .ok m w) (ha : ∀ w, (isAgg T).run P w = .ok true w) (hx : ev n σ (.tmp t) = .pointer (some ⟨b, 0, none⟩))
 (hL:L[k]? = some (.cel b T' cs)) (hl:cs.length=m):ResV P n σ w (.cell t T) (.agg cs.toArray) :=
 ⟨_,hx,jL (hm w) (ha w) hl fun j v hj=>by rw[qL,Nat.zero_add]; exact kx Z hL hj⟩
theorem rv_cel1 (k : Nat) {t : Tmp} {T T' : TypeId} {b : Nat} {v : Value} {cs : List Value} (Z : St X w0 I0 I w L) (ha : ∀ w, (isAgg T).run P w = .ok false w) (hx : ev n σ (.tmp t) = .pointer (some ⟨b, 0, none⟩))
 (hL:L[k]? = some (.cel b T' cs)) (hv:cs[0]? = some v):ResV P n σ w (.cell t T) v :=
 ⟨_,hx,jF (ha w) (kx Z hL hv)⟩
def resOf (tmps : Array Value) : ResultVar → Sem Value
 | .tmp t=>pure (tmps.getD t undef)
 | .cell a t=>do loadVar t (← asAddr (tmps.getD a undef))
theorem ke (fn:Func)(tmps:Array Value):results fn tmps=(do
 let vs ← fn.results.mapM (resOf tmps)
 pure (if h:vs.size=1 then vs[0] else .tuple vs)):=by
 rfl
theorem jU {rv:ResultVar}{v:Value}(h:ResV P n σ w rv v):(resOf (act n df σ).tmps rv).run P w = .ok v w:=by
 cases rv with
 | tmp t =>
   have h':ev n σ (.tmp t)=v:=h;show Sem.run P (pure ((act n df σ).tmps.getD t undef)) w=_
   rw[yt];subst h';rfl
 | cell a T =>
   obtain⟨ad,h1,h2⟩:=h;have h1':(act n df σ).tmps.getD a undef = .pointer (some ad):=by rw[yt]; exact h1
   simp only[resOf,h1',Sem.run_bind,asAddr,Sem.run_pure,Result.andThen_ok,h2]
theorem ret0 {fn:Func}{R':Value→World→Prop}(hr:fn.results = #[])(h:R' (.tuple #[]) w):bodyPost P fn (fun e w'=>∃v,e = .returned v∧R' v w') .ret (act n [] σ) w :=
 bodyPost_ret (v:=.tuple #[]) (by simp[results,hr]) rfl ⟨_,rfl,h⟩
theorem end0 {fn:Func}{R':Value→World→Prop}(hr:fn.results = #[])(h:R' (.tuple #[]) w):bodyPost P fn (fun e w'=>∃v,e = .returned v∧R' v w') .normal (act n [] σ) w :=
 bodyPost_end (v:=.tuple #[]) (by simp[results,hr]) rfl ⟨_,rfl,h⟩
theorem ret1 {fn:Func}{a:ResultVar}{va:Value}{R':Value→World→Prop}(hr:fn.results = #[a])(h1:ResV P n σ w a va)(h:R' va w):bodyPost P fn (fun e w'=>∃v,e = .returned v∧R' v w') .ret (act n [] σ) w :=
 bodyPost_ret (v:=va) (by have e1:=jU (df:=[]) h1; rw[ke,hr]; simp[e1]) rfl ⟨_,rfl,h⟩
theorem ret2 {fn : Func} {a b : ResultVar} {va vb : Value} {R' : Value → World → Prop} (hr : fn.results = #[a, b]) (h1 : ResV P n σ w a va) (h2 : ResV P n σ w b vb) (h : R' (.tuple #[va, vb]) w) :
 bodyPost P fn (fun e w'=>∃v,e = .returned v∧R' v w') .ret (act n [] σ) w :=
 bodyPost_ret (v:=.tuple #[va,vb]) (by have e1:=jU (df:=[]) h1; have e2:=jU (df:=[]) h2; rw[ke,hr]; simp[e1,e2]) rfl ⟨_,rfl,h⟩
theorem fn {f : FuncId} {fn : Func} {c : Code} {l : List Value} {R' : Value → World → Prop} (hf : P.funcs[f]? = some fn) (hb : fn.body = some c) (hn : fn.ntmps = n) (hl : Nat.ble l.length n = true)
 (h:c.wpIn (fen none) 0 P (bodyPost P fn fun e w'=>∃v,e = .returned v∧R' v w') (act n [] (args l)) w):Ctr P f l w R' :=
 ⟨calls hf hb n hn (Nat.le_of_ble_eq_true hl) h⟩
end
end Go.Inl
namespace Go.Inl
open Go Go.RowKit
section
variable {P:Program} {ops:Array Oper} {Q:Exit→Act→World→Prop}
def opR (P:Program)(ops:Array Oper)(i:Nat)(K:Act→World→Prop)(a:Act)(w:World):Prop :=
 match ops[i]? with
 | none=>K a w
 | some o=>if Region.wanted o (yielded ops a.tmps) then opW P o a w K else K (a.put o.dst undef) w
theorem opR.mono {i:Nat}{a:Act}{w:World}{K K':Act→World→Prop}(h:∀a w,K a w→K' a w)(hh:opR P ops i K a w):opR P ops i K' a w:=by
 unfold opR at *;split
 · exact h _ _ (by simpa [*] using hh)
 · rename_i o ho
   simp only[ho]at hh;split
   · rename_i hw; simp only[hw,if_true]at hh; exact hh.mono h
   · rename_i hw; simp only[hw]at hh; exact h _ _ hh
theorem opR.sound {ro:Option Nat}{i:Nat}{a:Act}{w:World}{K:Act→World→Prop}(h:opR P ops i K a w):wpOpIn (fen ro) 0 P ops Q i K a w:=by
 unfold opR at h;unfold wpOpIn;split
 · rename_i ho
   simp only[ho]at h;exact h
 · rename_i o ho
   simp only[ho]at h;split
   · rename_i hw; rw[if_pos hw]at h; exact h.sound
   · rename_i hw; rw[if_neg hw]at h; exact⟨fun _ _=>trivial,h⟩
theorem yi_opR {S:World→Prop}{i:Nat}{o:Oper}{v:Value}{a:Act}(hi:ops[i]? = some o)(hy:YieldsIf P ops S o v a){K:Act→World→Prop}{w:World}(Z:S w)(h:K (a.put o.dst v) w):opR P ops i K a w:=by
 unfold Inl.opR;simp only[hi];rcases hy with ⟨hw,hv⟩ | ⟨hw,rfl⟩
 · rw[if_pos hw]; unfold opW; rw[hv w Z]; exact h
 · rw[if_neg (by rw[hw]; decide)]; exact h
theorem opR_putIf {S : World → Prop} {j : Nat} {oi oj : Oper} {v : Value} (hj : ops[j]? = some oj) (hap : oi.apart ops oj = true)
 (hsi:∀cs b,oi.op≠.select cs b) (hsj:∀cs b,oj.op≠.select cs b) {K:Act→World→Prop} {a:Act} {w:World}
 (hy:YieldsIf P ops S oi v a) (h:opR P ops j K (a.put oi.dst v) w):opR P ops j (fun a' w'=>YieldsIf P ops S oi v a'∧K (a'.put oi.dst v) w') a w:=by
 obtain⟨h1,h2,h3⟩:=Oper.apart_spec hap;have keep:∀(a:Act),YieldsIf P ops S oi v a→∀u,YieldsIf P ops S oi v (a.put oj.dst u):=fun a hy u =>
  hy.of_same (execOp_put oi hsi a oj.dst u h3) (wanted_put oi a oj.dst u h3)
 unfold opR at *;simp only[hj]at *;rw[wanted_put oj a oi.dst v h1]at h;split
 · rename_i hw
   rw[if_pos hw]at h;unfold opW at *;rw[execOp_put oj hsj a oi.dst v h1]at h;exact DoesR.mono (fun u w' hk=>⟨keep a hy u,by rw[← Act.put_comm a v u h2]; exact hk⟩) h
 · rename_i hw
   rw[if_neg hw]at h;exact⟨keep a hy _,by rw[← Act.put_comm a v undef h2]; exact h⟩
def AnyG (P : Program) (ops : Array Oper) (Q : Exit → Act → World → Prop) (G : Array Bool → World → Prop) : Nat → Array Bool → Act → World → Prop
 | 0,listed,a,w=>Region.ready .any ops listed=[]∧Q .normal a w
 | fuel+1,listed,a,w =>
   (Region.ready .any ops listed=[]→Q .normal a w) ∧
   ∀i∈Region.ready .any ops listed,opR P ops i (fun a' w'=>G (listed.setIfInBounds i true) w'∧AnyG P ops Q G fuel (listed.setIfInBounds i true) a' w') a w
theorem any_of_G {ro : Option Nat} {G : Array Bool → World → Prop} : ∀ (fuel : Nat) (listed : Array Bool) (a : Act) (w : World), AnyG P ops Q G fuel listed a w → wpAnyIn (fen ro) 0 P .any ops Q fuel listed a w
 | 0,_,_,_,h=>h
 | fuel+1,_,_,_,h=>⟨h.1,fun i hi=>opR.sound (opR.mono (fun a' w' h'=>any_of_G fuel _ a' w' h'.2) (h.2 i hi))⟩
def Ge (l l':Array Bool):Prop:=∀b,l.getD b false=true→l'.getD b false=true
theorem Ge.refl (l:Array Bool):Ge l l:=fun _ h=>h
theorem Ge.trans {a b c:Array Bool}(h:Ge a b)(k:Ge b c):Ge a c:=fun x hx=>k x (h x hx)
theorem Ge.set (l:Array Bool)(i:Nat):Ge l (l.setIfInBounds i true):=fun _ h=>getD_set_true h
theorem AnyG.mono {G G' : Array Bool → World → Prop} : ∀ (fuel : Nat) (listed : Array Bool) (a : Act) (w : World), (∀ l' w, Ge listed l' → G' l' w → G l' w) → AnyG P ops Q G' fuel listed a w → AnyG P ops Q G fuel listed a w
 | 0,_,_,_,_,h=>h
 | fuel+1,listed,_,_,hG,h=>⟨h.1,fun i hi=>opR.mono (fun a' w' h'=>⟨hG _ _ (Ge.set listed i) h'.1,AnyG.mono fuel _ a' w' (fun l' w hl=>hG l' w ((Ge.set listed i).trans hl)) h'.2⟩) (h.2 i hi)⟩
def Closed (ops:Array Oper)(l:Array Bool):Prop:=∀j o,ops[j]? = some o→l.getD j false=true→∀e∈o.after,Region.binds .any e=true→l.getD e.on false=true
theorem Closed.set {l:Array Bool}(h:Closed ops l){i:Nat}(hi:i∈Region.ready .any ops l):Closed ops (l.setIfInBounds i true):=by
 intro j o ho hl e he hb;by_cases hji:i=j
 · subst hji
   obtain⟨_,o',ho',hall⟩:=mem_ready.1 hi;rw[ho]at ho';cases ho'
   exact getD_set_true (hall e he hb)
 · rw [getD_set_ne false hji] at hl
   exact getD_set_true (h j o ho hl e he hb)
theorem AnyG.first {G : Array Bool → World → Prop} {Si : World → Prop} {i : Nat} {oi : Oper} {v : Value} (hi : ops[i]? = some oi) (hsel : ∀ (j : Nat) (o : Oper) cs b, ops[j]? = some o → o.op ≠ .select cs b)
 (hG1:∀l w,G l w→G (l.setIfInBounds i true) w) (hG2:∀l w,G (l.setIfInBounds i true) w→G l w) :
 ∀ (fuel : Nat) (listed : Array Bool) (a : Act) (w : World), Closed ops listed → (∀ l w, Closed ops l → l.getD i true = false → G l w → Si w) →
   (∀j oj,ops[j]? = some oj→j≠i→listed.getD j true=false→(∀e∈oj.after,Region.binds .any e=true→e.on≠i)→oi.apart ops oj=true) →
   i∈Region.ready .any ops listed→YieldsIf P ops Si oi v a→G listed w →
   AnyG P ops Q G fuel (listed.setIfInBounds i true) (a.put oi.dst v) w→AnyG P ops Q G (fuel+1) listed a w:=by
 intro fuel;induction fuel with
 | zero =>
   intro listed a w hcl hSi _ hr hy Z H;refine⟨fun h=>(by rw[h]at hr; cases hr),fun j hj=>?_⟩;by_cases hji:j=i
   · subst hji; exact yi_opR hi hy (hSi listed w hcl (mem_ready.1 hr).1 Z) ⟨hG1 _ _ Z,H⟩
   · have := ready_mono hj hji
     rw[H.1]at this;cases this
 | succ fuel ih =>
   intro listed a w hcl hSi hfree hr hy Z H;refine⟨fun h=>(by rw[h]at hr; cases hr),fun j hj=>?_⟩;by_cases hji:j=i
   · subst hji; exact yi_opR hi hy (hSi listed w hcl (mem_ready.1 hr).1 Z) ⟨hG1 _ _ Z,H⟩
   · have h1 := H.2 j (ready_mono hj hji)
     obtain⟨hjun,oj,hoj,hall⟩:=mem_ready.1 hj;have hnot:∀e∈oj.after,Region.binds .any e=true→e.on≠i:=fun e he hb heq=>by
      have h1:=hall e he hb;have h0:=(mem_ready.1 hr).1;rw[heq]at h1;rcases Nat.lt_or_ge i listed.size with h' | h'
      · simp[h']at h0 h1; rw[h0]at h1; cases h1
      · simp[Array.getElem?_eq_none h']at h1
     have h2:=opR_putIf (S:=Si) hoj (hfree j oj hoj hji hjun hnot) (fun cs b=>hsel i oi cs b hi) (fun cs b=>hsel j oj cs b hoj) hy h1;have hfree' : ∀ k ok, ops[k]? = some ok → k ≠ i → (listed.setIfInBounds j true).getD k true = false →
      (∀e∈ok.after,Region.binds .any e=true→e.on≠i)→oi.apart ops ok=true:=fun k ok hk hki hun hno=>by
      refine hfree k ok hk hki ?_ hno;by_cases hjk:j=k
      · subst hjk; exact hjun
      · rw[getD_set_ne true hjk]at hun; exact hun
     refine opR.mono (fun a' w' h3=>?_) h2;have hcomm:(listed.setIfInBounds i true).setIfInBounds j true=(listed.setIfInBounds j true).setIfInBounds i true:=Array.setIfInBounds_comm _ _ (Ne.symm hji);have hGj:G (listed.setIfInBounds j true) w':=hG2 _ _ (hcomm▸h3.2.1);exact⟨hGj,ih (listed.setIfInBounds j true) a' w' (hcl.set hj) hSi hfree' (ready_mono hr (Ne.symm hji)) h3.1 hGj (hcomm▸h3.2.2)⟩
/-! ### Who comes behind whom -/
def succF (i:Nat)(acc:Array Bool)(o:Oper):Array Bool:=acc.push (o.after.any fun e=>Region.binds .any e && (Nat.beq e.on i || acc.getD e.on false))
def succs (i:Nat)(l:List Oper):Array Bool:=l.foldl (succF i) #[]
theorem succs_go (i : Nat) : ∀ (l : List Oper) (acc : Array Bool), (∀ j, l[j]? = ops[acc.size + j]?) →
 (∀b,acc.getD b false=true→∀L,Closed ops L→L.getD b false=true→L.getD i false=true) →
 ∀b,(l.foldl (succF i) acc).getD b false=true→∀L,Closed ops L→L.getD b false=true→L.getD i false=true
 | [],acc,_,h=>h
 | o::l,acc,hl,h=>by
   refine succs_go i l (succF i acc o) (fun j=>?_) (fun b hb L hL hLb=>?_)
   · have := hl (j + 1)
     simpa [succF,Nat.add_assoc,Nat.add_comm 1 j] using this
   · have h0 : ops[acc.size]? = some o := by simpa using (hl 0).symm
     by_cases hbs:b=acc.size
     · subst hbs
       simp only[succF,Array.getD_eq_getD_getElem?,Array.getElem?_push_size,Option.getD_some]at hb;obtain⟨e,he,hb'⟩:=Array.any_eq_true'.1 hb;simp only[Bool.and_eq_true,Bool.or_eq_true]at hb';have hon:=hL _ o h0 hLb e he hb'.1;rcases hb'.2 with h3 | h3
       · rw[← Nat.eq_of_beq_eq_true h3]; exact hon
       · exact h _ (by simpa [Array.getD_eq_getD_getElem?] using h3) L hL hon
     · refine h b ?_ L hL hLb
       simp only[succF,Array.getD_eq_getD_getElem?]at hb ⊢;rwa [Array.getElem?_push,if_neg (fun e=>hbs (by omega))]at hb
theorem succs_spec {l:List Oper}{i b:Nat}(h:(succs i l).getD b false=true)(L:Array Bool)(hL:Closed l.toArray L)(hb:L.getD b false=true):L.getD i false=true :=
 succs_go (ops:=l.toArray) i l #[] (by simp) (by simp) b h L hL hb
/-! ### The order that a proof takes -/
inductive Kd where
 | pure | held | eff | bar
inductive Od where
 | nil
 | cons (i:Nat) (k:Kd) (r:Od)
 | fork (i:Nat) (r:Od) (j:Nat) (s:Od)
 | fork3 (i:Nat) (r:Od) (j:Nat) (s:Od) (k:Nat) (t:Od)
def Od.depth : Od → Nat
 | .nil=>0
 | .cons _ _ r=>r.depth+1
 | .fork _ r _ s=>max r.depth s.depth+1
 | .fork3 _ r _ s _ t=>max (max r.depth s.depth) t.depth+1
def bars : Od → List Nat
 | .nil=>[]
 | .cons i .bar r=>i::bars r
 | .cons _ _ r=>bars r
 | .fork _ r _ s=>bars r++bars s
 | .fork3 _ r _ s _ t=>bars r++(bars s++bars t)
def okO (l : List Oper) : Od → Array Bool → Bool
 | .nil,listed=>(Region.ready .any l.toArray listed).isEmpty
 | .fork i r j s,listed=>(Region.ready .any l.toArray listed == [i,j]) && !(bars r).contains i && !(bars s).contains j && okO l r (listed.setIfInBounds i true) && okO l s (listed.setIfInBounds j true)
 | .fork3 i r j s k t,listed=>(Region.ready .any l.toArray listed == [i,j,k]) && !(bars r).contains i && !(bars s).contains j && !(bars t).contains k && okO l r (listed.setIfInBounds i true) && okO l s (listed.setIfInBounds j true) && okO l t (listed.setIfInBounds k true)
 | .cons i .pure r,listed=>Region.free .any l.toArray listed i && (Region.ready .any l.toArray listed).contains i && !(bars r).contains i && okO l r (listed.setIfInBounds i true)
 | .cons i .held r,listed=>Region.free .any l.toArray listed i && (Region.ready .any l.toArray listed).contains i && !(bars r).contains i && (bars r).all (fun b=>(succs i l).getD b false) && okO l r (listed.setIfInBounds i true)
 | .cons i .eff r,listed=>(Region.ready .any l.toArray listed == [i]) && !(bars r).contains i && okO l r (listed.setIfInBounds i true)
 | .cons i .bar r,listed=>(Region.ready .any l.toArray listed == [i]) && !(bars r).contains i && okO l r (listed.setIfInBounds i true)
def WS (P : Program) (l : List Oper) (Q : Exit → Act → World → Prop) (n : Nat) (df : List Deferred) : Od → (World → Prop) → (Nat → Value) → World → Prop
 | .nil,_,σ,w=>Q .normal (act n df σ) w
 | .fork i r j s, S, σ, w => opR P l.toArray i (fun a' w' => ∃ (σ' : Nat → Value) (S' : World → Prop), a' = act n df σ' ∧ (∀ w, S' w → S w) ∧ S' w' ∧ WS P l Q n df r S' σ' w') (act n df σ) w ∧
   opR P l.toArray j (fun a' w'=>∃(σ':Nat→Value) (S':World→Prop),a'=act n df σ'∧(∀w,S' w→S w)∧S' w'∧WS P l Q n df s S' σ' w') (act n df σ) w
 | .fork3 i r j s k t, S, σ, w => opR P l.toArray i (fun a' w' => ∃ (σ' : Nat → Value) (S' : World → Prop), a' = act n df σ' ∧ (∀ w, S' w → S w) ∧ S' w' ∧ WS P l Q n df r S' σ' w') (act n df σ) w ∧
   opR P l.toArray j (fun a' w'=>∃(σ':Nat→Value) (S':World→Prop),a'=act n df σ'∧(∀w,S' w→S w)∧S' w'∧WS P l Q n df s S' σ' w') (act n df σ) w ∧
   opR P l.toArray k (fun a' w'=>∃(σ':Nat→Value) (S':World→Prop),a'=act n df σ'∧(∀w,S' w→S w)∧S' w'∧WS P l Q n df t S' σ' w') (act n df σ) w
 | .cons i .pure r,S,σ,w=>∃o v,l[i]? = some o∧YieldsIf P l.toArray (fun _=>True) o v (act n df σ)∧WS P l Q n df r S (updO σ o.dst v) w
 | .cons i .held r,S,σ,w=>∃o v,l[i]? = some o∧YieldsIf P l.toArray S o v (act n df σ)∧WS P l Q n df r S (updO σ o.dst v) w
 | .cons i .eff r,S,σ,w=>opR P l.toArray i (fun a' w'=>∃(σ':Nat→Value) (S':World→Prop),a'=act n df σ'∧(∀w,S' w→S w)∧S' w'∧WS P l Q n df r S' σ' w') (act n df σ) w
 | .cons i .bar r,_,σ,w=>opR P l.toArray i (fun a' w'=>∃(σ':Nat→Value) (S':World→Prop),a'=act n df σ'∧S' w'∧WS P l Q n df r S' σ' w') (act n df σ) w
structure OS (P : Program) (l : List Oper) (Q : Exit → Act → World → Prop) (n : Nat) (df : List Deferred) (r : Od) (S : World → Prop) (σ : Nat → Value) (w : World) : Prop where
 run:WS P l Q n df r S σ w
def GG (B:List Nat)(S:World→Prop)(listed:Array Bool)(w:World):Prop:=(∀b∈B,listed.getD b false=false)→S w
theorem GG_ne {B:List Nat}{S:World→Prop}{i:Nat}(hi:B.contains i=false)(l:Array Bool)(w:World):GG B S l w↔GG B S (l.setIfInBounds i true) w:=by
 have hne:∀b∈B,i≠b:=fun b hb e=>by subst e; simp[hb]at hi
 constructor <;> intro h hb
 · exact h fun b hb'=>by have:=hb b hb'; rwa [getD_set_ne false (hne b hb')]at this
 · exact h fun b hb'=>by rw[getD_set_ne false (hne b hb')]; exact hb b hb'
theorem AnyG.done {G : Array Bool → World → Prop} {listed : Array Bool} {a : Act} {w : World} (hr : Region.ready .any ops listed = []) (h : Q .normal a w) : ∀ fuel, AnyG P ops Q G fuel listed a w
 | 0=>⟨hr,h⟩
 | _+1=>⟨fun _=>h,by rw[hr]; simp⟩
theorem getD_false_of {L:Array Bool}{i:Nat}(h:L.getD i true=false):L.getD i false=false:=by
 rcases Nat.lt_or_ge i L.size with h' | h'
 · simpa [h'] using h
 · simp[Array.getElem?_eq_none h']at h
theorem WS.sound {n : Nat} {df : List Deferred} {l : List Oper} (hsel : ∀ (j : Nat) (o : Oper) cs b, l.toArray[j]? = some o → o.op ≠ .select cs b) : ∀ (order : Od) (fuel : Nat) (listed : Array Bool) (S : World → Prop) (σ : Nat → Value) (w : World),
 order.depth≤fuel→okO l order listed=true→Closed l.toArray listed→listed.size=l.length→S w→WS P l Q n df order S σ w →
 AnyG P l.toArray Q (GG (bars order) S) fuel listed (act n df σ) w
 | .fork i r j s,0,_,_,_,_,hf,_,_,_,_,_=>by simp[Od.depth]at hf
 | .fork i r j s,fuel+1,listed,S,σ,w,hf,hok,hcl,hsz,Z,h=>by
   obtain⟨hi,hj⟩:=h;simp only[okO,Bool.and_eq_true,Bool.not_eq_true',beq_iff_eq]at hok;obtain⟨⟨⟨⟨k1,k2⟩,k3⟩,k4⟩,k5⟩:=hok;simp only[Od.depth]at hf;refine⟨fun h0=>(by rw[k1]at h0; cases h0),fun x hx=>?_⟩;have hr:=hx;rw[k1]at hx;simp only[List.mem_cons,List.not_mem_nil,or_false]at hx;rcases hx with rfl | rfl
   · refine opR.mono ?_ hi
     rintro a' w' ⟨σ',S',rfl,himp,hS',h⟩;refine⟨fun _=>himp _ hS',?_⟩;exact AnyG.mono fuel _ _ _ (fun L w _ hG hb=>himp _ (hG fun b hb'=>hb b (List.mem_append_left _ hb'))) (WS.sound hsel r fuel _ S' σ' w' (by omega) k4 (hcl.set hr) (by simpa using hsz) hS' h)
   · refine opR.mono ?_ hj
     rintro a' w' ⟨σ',S',rfl,himp,hS',h⟩;refine⟨fun _=>himp _ hS',?_⟩;exact AnyG.mono fuel _ _ _ (fun L w _ hG hb=>himp _ (hG fun b hb'=>hb b (List.mem_append_right _ hb'))) (WS.sound hsel s fuel _ S' σ' w' (by omega) k5 (hcl.set hr) (by simpa using hsz) hS' h)
 | .fork3 i r j s k t,0,_,_,_,_,hf,_,_,_,_,_=>by simp[Od.depth]at hf
 | .fork3 i r j s k t,fuel+1,listed,S,σ,w,hf,hok,hcl,hsz,Z,h=>by
   obtain⟨hi,hj,hk⟩:=h;simp only[okO,Bool.and_eq_true,Bool.not_eq_true',beq_iff_eq]at hok;obtain⟨⟨⟨⟨⟨⟨k1,k2⟩,k3⟩,k3'⟩,k4⟩,k5⟩,k6⟩:=hok;simp only[Od.depth]at hf;refine⟨fun h0=>(by rw[k1]at h0; cases h0),fun x hx=>?_⟩;have hr:=hx;rw[k1]at hx;simp only[List.mem_cons,List.not_mem_nil,or_false]at hx;rcases hx with rfl | rfl | rfl
   · refine opR.mono ?_ hi
     rintro a' w' ⟨σ',S',rfl,himp,hS',h⟩;refine⟨fun _=>himp _ hS',?_⟩;exact AnyG.mono fuel _ _ _ (fun L w _ hG hb=>himp _ (hG fun b hb'=>hb b (List.mem_append_left _ hb'))) (WS.sound hsel r fuel _ S' σ' w' (by omega) k4 (hcl.set hr) (by simpa using hsz) hS' h)
   · refine opR.mono ?_ hj
     rintro a' w' ⟨σ',S',rfl,himp,hS',h⟩;refine⟨fun _=>himp _ hS',?_⟩;exact AnyG.mono fuel _ _ _ (fun L w _ hG hb=>himp _ (hG fun b hb'=>hb b (List.mem_append_right _ (List.mem_append_left _ hb')))) (WS.sound hsel s fuel _ S' σ' w' (by omega) k5 (hcl.set hr) (by simpa using hsz) hS' h)
   · refine opR.mono ?_ hk
     rintro a' w' ⟨σ',S',rfl,himp,hS',h⟩;refine⟨fun _=>himp _ hS',?_⟩;exact AnyG.mono fuel _ _ _ (fun L w _ hG hb=>himp _ (hG fun b hb'=>hb b (List.mem_append_right _ (List.mem_append_right _ hb')))) (WS.sound hsel t fuel _ S' σ' w' (by omega) k6 (hcl.set hr) (by simpa using hsz) hS' h)
 | .nil,fuel,listed,S,σ,w,_,hok,_,_,_,h=>AnyG.done (by simpa [okO] using hok) h fuel
 | .cons i .pure r,0,_,_,_,_,hf,_,_,_,_,_=>by simp[Od.depth]at hf
 | .cons i .pure r,fuel+1,listed,S,σ,w,hf,hok,hcl,hsz,Z,h=>by
   obtain⟨o,v,ho,hy,h⟩:=h;simp only[okO,Bool.and_eq_true,Bool.not_eq_true']at hok;obtain⟨⟨⟨k1,k2⟩,k3⟩,k4⟩:=hok;have ho':l.toArray[i]? = some o:=by simpa using ho
   have hr:i∈Region.ready .any l.toArray listed:=by simpa using k2
   refine AnyG.first (Si := fun _ => True) ho' hsel (fun L w => (GG_ne k3 L w).1) (fun L w => (GG_ne k3 L w).2) fuel listed (act n df σ) w hcl (fun _ _ _ _ _ => trivial)
    (Region.free_spec ho' k1) hr hy (fun _=>Z) ?_
   rw[jA];exact WS.sound hsel r fuel _ S _ w (by simpa [Od.depth] using hf) k4 (hcl.set hr) (by simpa using hsz) Z h
 | .cons i .held r,0,_,_,_,_,hf,_,_,_,_,_=>by simp[Od.depth]at hf
 | .cons i .held r,fuel+1,listed,S,σ,w,hf,hok,hcl,hsz,Z,h=>by
   obtain⟨o,v,ho,hy,h⟩:=h;simp only[okO,Bool.and_eq_true,Bool.not_eq_true']at hok;obtain⟨⟨⟨⟨k1,k2⟩,k3⟩,k5⟩,k4⟩:=hok;have ho':l.toArray[i]? = some o:=by simpa using ho
   have hr:i∈Region.ready .any l.toArray listed:=by simpa using k2
   refine AnyG.first (Si := S) ho' hsel (fun L w => (GG_ne k3 L w).1) (fun L w => (GG_ne k3 L w).2) fuel listed (act n df σ) w hcl (fun L w hL hi hG => hG fun b hb => ?_)
    (Region.free_spec ho' k1) hr hy (fun _=>Z) ?_
   · cases hb':L.getD b false with
     | false=>rfl
     | true =>
       have:=succs_spec (List.all_eq_true.1 k5 b hb) L hL hb';rw[getD_false_of hi]at this;cases this
   · rw [jA]
     exact WS.sound hsel r fuel _ S _ w (by simpa [Od.depth] using hf) k4 (hcl.set hr) (by simpa using hsz) Z h
 | .cons i .eff r,0,_,_,_,_,hf,_,_,_,_,_=>by simp[Od.depth]at hf
 | .cons i .eff r,fuel+1,listed,S,σ,w,hf,hok,hcl,hsz,Z,h=>by
   simp only[okO,Bool.and_eq_true,Bool.not_eq_true',beq_iff_eq]at hok;obtain⟨⟨k1,k3⟩,k4⟩:=hok;refine⟨fun h0=>(by rw[k1]at h0; cases h0),fun j hj=>?_⟩;have hr:=hj;rw[k1]at hj;simp only[List.mem_singleton]at hj;subst hj;refine opR.mono ?_ h;rintro a' w' ⟨σ',S',rfl,himp,hS',h⟩;refine⟨fun _=>himp _ hS',?_⟩;exact AnyG.mono fuel _ _ _ (fun L w _ hG hb=>himp _ (hG hb)) (WS.sound hsel r fuel _ S' σ' w' (by simpa [Od.depth] using hf) k4 (hcl.set hr) (by simpa using hsz) hS' h)
 | .cons i .bar r,0,_,_,_,_,hf,_,_,_,_,_=>by simp[Od.depth]at hf
 | .cons i .bar r,fuel+1,listed,S,σ,w,hf,hok,hcl,hsz,Z,h=>by
   simp only[okO,Bool.and_eq_true,Bool.not_eq_true',beq_iff_eq]at hok;obtain⟨⟨k1,k3⟩,k4⟩:=hok;refine⟨fun h0=>(by rw[k1]at h0; cases h0),fun j hj=>?_⟩;have hr:=hj;rw[k1]at hj;simp only[List.mem_singleton]at hj;subst hj;have hlt:j < listed.size:=by
    obtain⟨_,o,ho,_⟩:=mem_ready.1 hr;have:=(Array.getElem?_eq_some_iff.1 ho).1;simpa [hsz] using this
   have hset:(listed.setIfInBounds j true).getD j false=true:=by simp[hlt]
   refine opR.mono ?_ h;rintro a' w' ⟨σ',S',rfl,hS',h⟩;refine⟨fun hb=>(by have:=hb j (by simp[bars]); rw[hset]at this; cases this),?_⟩;exact AnyG.mono fuel _ _ _ (fun L w hL _ hb => (by have := hb j (by simp [bars]); rw [hL j hset] at this; cases this))
    (WS.sound hsel r fuel _ S' σ' w' (by simpa [Od.depth] using hf) k4 (hcl.set hr) (by simpa using hsz) hS' h)
variable {n:Nat} {df:List Deferred} {ro:Option Nat} {σ:Nat→Value} {w:World} {X:List Nat} {w0:World} {I0 I:Imm} {L:List Res} {l:List Oper} {id:Nat}
def okR (l:List Oper)(order:Od):Bool:=okO l order (Array.replicate l.length false) && Region.noSelect l.toArray && Nat.ble order.depth l.length
theorem draw (order : Od) (hm : P.follows .mixedOrders = true) (hok : okR l order = true) (Z : St X w0 I0 I w L)
 (h:∀w',St X w0 I0 I w' L→OS P l Q n df order (KS X w0 I0 I L) σ w'):(Code.region id l.toArray true).wpIn (fen ro) 0 P Q (act n df σ) w:=by
 simp only[okR,Bool.and_eq_true]at hok;obtain⟨⟨k1,k2⟩,k3⟩:=hok;have hS':St X w0 I0 I { w with drawn:=w.drawn+1 } L:=Z.alike rfl rfl rfl rfl;have hany := WS.sound (P := P) (Q := Q) (Region.noSelect_spec k2) order l.toArray.size (Array.replicate l.length false) (KS X w0 I0 I L) σ _ (by simpa using Nat.le_of_ble_eq_true k3) k1
  (by intro j o _ hl; exfalso; rcases Nat.lt_or_ge j l.length with h' | h' <;> simp[h']at hl) (by simp) hS' (h _ hS').run
 exact wpIn_region_any hm (by simpa using any_of_G _ _ _ _ hany)
theorem drawS (m : List Bool) (order : Od) (hm : P.follows .mixedOrders = true) (hok : okR l order = true) (Z : St X w0 I0 I w L)
 (h:∀w',St X w0 I0 I w' L→OS P l Q n df order (KS X w0 I0 I (sel m L)) σ w'):(Code.region id l.toArray true).wpIn (fen ro) 0 P Q (act n df σ) w:=by
 have hd:St X w0 I0 I { w with drawn:=w.drawn+1 } L:=Z.alike rfl rfl rfl rfl;simp only[okR,Bool.and_eq_true]at hok;obtain⟨⟨k1,k2⟩,k3⟩:=hok;have hany := WS.sound (P := P) (Q := Q) (Region.noSelect_spec k2) order l.toArray.size (Array.replicate l.length false) (KS X w0 I0 I (sel m L)) σ _ (by simpa using Nat.le_of_ble_eq_true k3) k1
  (by intro j o _ hl; exfalso; rcases Nat.lt_or_ge j l.length with h' | h' <;> simp[h']at hl) (by simp) (hd.sel m) (h _ hd).run
 exact wpIn_region_any hm (by simpa using any_of_G _ _ _ _ hany)
theorem St.le {I':Imm}{L':List Res}{w1:World}(h0:St X w0 I0 I w1 L)(hs:Sub I I')(hl:L.Sublist L'):∀w,St X w0 I0 I' w L'→St X w0 I0 I w L:=fun w h =>
 ⟨h.os,h.tape,h.output,h.size,h.block,fun b o hI=>h.imm b o (hs b o hI),h0.old,h0.ext,fun r hr=>h.hold r (hl.subset hr),fun r hr b hb=>(by
   obtain⟨h1,h2⟩:=h.new r (hl.subset hr) b hb;refine⟨?_,h2⟩;cases hI:I b with
   | none=>rfl
   | some o=>rw[hs b o hI]at h1; cases h1),(flatMap_sub hl).nodup h.nodup⟩
variable {i:Nat} {r:Od} {S:World→Prop} {d:Option Tmp} {op:Op} {ty:TypeId} {p:String} {af:Array Edge} {v:Value} {R:Value→World→Prop}
theorem yi {ops:Array Oper}{g:Option (Nat×Bool)}(hw:Region.wanted ⟨d,op,ty,p,af,g⟩ (yielded ops (act n df σ).tmps)=true)(h:Gives P (ev n σ) S op ty v):YieldsIf P ops S ⟨d,op,ty,p,af,g⟩ v (act n df σ) :=
 .inl ⟨hw,fun w Z=>by have h':=h w Z; rw[← kU (ev n σ) d op ty p af g]at h'; rw[jT]; exact h'⟩
theorem yi_no {ops:Array Oper}{g:Option (Nat×Bool)}(hw:Region.wanted ⟨d,op,ty,p,af,g⟩ (yielded ops (act n df σ).tmps)=false):YieldsIf P ops S ⟨d,op,ty,p,af,g⟩ undef (act n df σ):=.inr ⟨hw,rfl⟩
theorem sp (hi:l[i]? = some ⟨d,op,ty,p,af,none⟩)(h:Gives P (ev n σ) (fun _=>True) op ty v)(k:OS P l Q n df r S (updO σ d v) w):OS P l Q n df (.cons i .pure r) S σ w :=
 ⟨⟨_,v,hi,yi rfl h,k.run⟩⟩
theorem sh (hi:l[i]? = some ⟨d,op,ty,p,af,none⟩)(h:Gives P (ev n σ) (KS X w0 I0 I L) op ty v)(k:OS P l Q n df r (KS X w0 I0 I L) (updO σ d v) w):OS P l Q n df (.cons i .held r) (KS X w0 I0 I L) σ w :=
 ⟨⟨_,v,hi,yi rfl h,k.run⟩⟩
section
variable {j t:Nat} {g g':Bool}
theorem xz (hj:(l[j]?).bind (·.dst)=some t)(hv:ev n σ (.tmp t) = .bool g):Region.wanted ⟨d,op,ty,p,af,some (j,g)⟩ (yielded l.toArray (act n df σ).tmps)=true:=by
 simp[Region.wanted,kv (ops:=l.toArray) (by simpa using hj) hv]
theorem vg (hj:(l[j]?).bind (·.dst)=some t)(hv:ev n σ (.tmp t) = .bool g')(hne:g' = !g):Region.wanted ⟨d,op,ty,p,af,some (j,g)⟩ (yielded l.toArray (act n df σ).tmps)=false:=by
 subst hne; simp[Region.wanted,kv (ops:=l.toArray) (by simpa using hj) hv]
theorem spt (hi : l[i]? = some ⟨d, op, ty, p, af, some (j, g)⟩) (hj : (l[j]?).bind (·.dst) = some t) (hv : ev n σ (.tmp t) = .bool g) (h : Gives P (ev n σ) (fun _ => True) op ty v) (k : OS P l Q n df r S (updO σ d v) w) :
 OS P l Q n df (.cons i .pure r) S σ w:=⟨⟨_,v,hi,yi (xz hj hv) h,k.run⟩⟩
theorem sht (hi : l[i]? = some ⟨d, op, ty, p, af, some (j, g)⟩) (hj : (l[j]?).bind (·.dst) = some t) (hv : ev n σ (.tmp t) = .bool g) (h : Gives P (ev n σ) (KS X w0 I0 I L) op ty v) (k : OS P l Q n df r (KS X w0 I0 I L) (updO σ d v) w) :
 OS P l Q n df (.cons i .held r) (KS X w0 I0 I L) σ w:=⟨⟨_,v,hi,yi (xz hj hv) h,k.run⟩⟩
theorem spf (hi : l[i]? = some ⟨d, op, ty, p, af, some (j, g)⟩) (hj : (l[j]?).bind (·.dst) = some t) (hv : ev n σ (.tmp t) = .bool g') (hne : g' = !g) (k : OS P l Q n df r S (updO σ d undef) w) :
 OS P l Q n df (.cons i .pure r) S σ w:=⟨⟨_,undef,hi,yi_no (vg hj hv hne),k.run⟩⟩
theorem shf (hi : l[i]? = some ⟨d, op, ty, p, af, some (j, g)⟩) (hj : (l[j]?).bind (·.dst) = some t) (hv : ev n σ (.tmp t) = .bool g') (hne : g' = !g) (k : OS P l Q n df r S (updO σ d undef) w) :
 OS P l Q n df (.cons i .held r) S σ w:=⟨⟨_,undef,hi,yi_no (vg hj hv hne),k.run⟩⟩
end
theorem op_does {ops : Array Oper} {g : Option (Nat × Bool)} {K : Act → World → Prop} (hi : ops[i]? = some ⟨d, op, ty, p, af, g⟩) (hw : Region.wanted ⟨d, op, ty, p, af, g⟩ (yielded ops (act n df σ).tmps) = true)
 (h:Does P (ev n σ) op ty w R) (k:∀v w',R v w'→K (act n df (updO σ d v)) w'):opR P ops i K (act n df σ) w:=by
 unfold opR;simp only[hi,hw,if_true];exact Does.opW (by rw[jT]; exact h) fun v w' hR=>by rw[jA]; exact k v w' hR
theorem se (hi : l[i]? = some ⟨d, op, ty, p, af, none⟩) (h : Does P (ev n σ) op ty w R)
 (k:∀v w',R v w'→∃I' L',(∀w,St X w0 I0 I' w L'→St X w0 I0 I w L)∧St X w0 I0 I' w' L'∧OS P l Q n df r (KS X w0 I0 I' L') (updO σ d v) w'):OS P l Q n df (.cons i .eff r) (KS X w0 I0 I L) σ w :=
 ⟨op_does (by simpa using hi) rfl h fun v w' hR=>let ⟨I',L',h1,h2,h3⟩:=k v w' hR; ⟨_,KS X w0 I0 I' L',rfl,h1,h2,h3.run⟩⟩
theorem sb (hi : l[i]? = some ⟨d, op, ty, p, af, none⟩) (h : Does P (ev n σ) op ty w R)
 (k:∀v w',R v w'→∃I' L',St X w0 I0 I' w' L'∧OS P l Q n df r (KS X w0 I0 I' L') (updO σ d v) w'):OS P l Q n df (.cons i .bar r) (KS X w0 I0 I L) σ w :=
 ⟨op_does (by simpa using hi) rfl h fun v w' hR=>let ⟨I',L',h2,h3⟩:=k v w' hR; ⟨_,KS X w0 I0 I' L',rfl,h2,h3.run⟩⟩
theorem set {j t : Nat} {g : Bool} (hi : l[i]? = some ⟨d, op, ty, p, af, some (j, g)⟩) (hj : (l[j]?).bind (·.dst) = some t) (hv : ev n σ (.tmp t) = .bool g) (h : Does P (ev n σ) op ty w R)
 (k:∀v w',R v w'→∃I' L',(∀w,St X w0 I0 I' w L'→St X w0 I0 I w L)∧St X w0 I0 I' w' L'∧OS P l Q n df r (KS X w0 I0 I' L') (updO σ d v) w'):OS P l Q n df (.cons i .eff r) (KS X w0 I0 I L) σ w :=
 ⟨op_does (by simpa using hi) (xz hj hv) h fun v w' hR=>let ⟨I',L',h1,h2,h3⟩:=k v w' hR; ⟨_,KS X w0 I0 I' L',rfl,h1,h2,h3.run⟩⟩
theorem op_no {ops : Array Oper} {g : Option (Nat × Bool)} {K : Act → World → Prop} (hi : ops[i]? = some ⟨d, op, ty, p, af, g⟩) (hw : Region.wanted ⟨d, op, ty, p, af, g⟩ (yielded ops (act n df σ).tmps) = false)
 (k:K (act n df (updO σ d undef)) w):opR P ops i K (act n df σ) w:=by
 unfold opR;simp only[hi,hw];rw[jA];simpa using k
theorem sef {j t : Nat} {g g' : Bool} (hi : l[i]? = some ⟨d, op, ty, p, af, some (j, g)⟩) (hj : (l[j]?).bind (·.dst) = some t) (hv : ev n σ (.tmp t) = .bool g') (hne : g' = !g) (Z : St X w0 I0 I w L) (k : OS P l Q n df r (KS X w0 I0 I L) (updO σ d undef) w) :
 OS P l Q n df (.cons i .eff r) (KS X w0 I0 I L) σ w :=
 ⟨op_no (by simpa using hi) (vg hj hv hne) ⟨_,KS X w0 I0 I L,rfl,fun _ h=>h,Z,k.run⟩⟩
theorem sk {j:Nat}{s:Od}(h1:OS P l Q n df (.cons i .eff r) S σ w)(h2:OS P l Q n df (.cons j .eff s) S σ w):OS P l Q n df (.fork i r j s) S σ w:=⟨⟨h1.run,h2.run⟩⟩
theorem sk3 {j k:Nat}{s t:Od}(h1:OS P l Q n df (.cons i .eff r) S σ w)(h2:OS P l Q n df (.cons j .eff s) S σ w)(h3:OS P l Q n df (.cons k .eff t) S σ w):OS P l Q n df (.fork3 i r j s k t) S σ w:=⟨⟨h1.run,h2.run,h3.run⟩⟩
theorem sn (k:Q .normal (act n df σ) w):OS P l Q n df .nil S σ w:=⟨k⟩
end
end Go.Inl
namespace Go.Inl
open Go Go.RowKit
section
variable {P : Program} {n : Nat} {df : List Deferred} {ro : Option Nat} {σ : Nat → Value} {w : World} {ops : Array Oper} {Q : Exit → Act → World → Prop} {rest : List Oper} {d : Option Tmp} {op : Op} {ty : TypeId} {p : String} {af : Array Edge}
 {X:List Nat} {w0:World} {I0 I:Imm} {L:List Res} {v val:Value} {j t:Nat} {g g':Bool} {C:Prop}
theorem kJ {a b:Bool}(h:¬a=b):a = !b:=by cases a <;> cases b <;> simp_all
theorem wanted_undef {ops:Array Oper}(hj:(ops[j]?).bind (·.dst)=some t)(hv:ev n σ (.tmp t)=undef):Region.wanted ⟨d,op,ty,p,af,some (j,g)⟩ (yielded ops (act n df σ).tmps)=false:=by
 have ht:(act n df σ).tmps.getD t undef=undef:=by rw[yt]; exact hv
 have:yielded ops (act n df σ).tmps j=none:=by
  unfold yielded;rw[hj,Option.bind_some];rw[Array.getD_eq_getD_getElem?]at ht;cases hh:(act n df σ).tmps[t]? with
  | none=>rfl
  | some v=>rw[hh]at ht; simp at ht; subst ht; rfl
 simp[Region.wanted,this]
def dstAt : List Oper → Nat → Option Tmp
 | [],_=>none
 | o::_,0=>o.dst
 | _::l,j+1=>dstAt l j
theorem dstAt_eq : ∀ (l : List Oper) (j : Nat), dstAt l j = (l[j]?).bind (·.dst)
 | [],j=>by simp[dstAt]
 | o::l,0=>by simp[dstAt]
 | o::l,j+1=>by simp[dstAt,dstAt_eq l j]
theorem jZ {l:List Oper}{j:Nat}{t:Tmp}(h:dstAt l j=some t):(l.toArray[j]?).bind (·.dst)=some t:=by rw[dstAt_eq]at h; simpa using h
theorem yJ {l:List Oper}{j:Nat}{t:Tmp}(h:dstAt l j=some t):(l[j]?).bind (·.dst)=some t:=by rw[dstAt_eq]at h; exact h
variable {l:List Oper}
theorem qu (hj' : dstAt l j = some t) (hv : ev n σ (.tmp t) = .bool g') (Z : St X w0 I0 I w L) (h : g' = g → Gives P (ev n σ) (KS X w0 I0 I L) op ty v)
 (k:∀u,(g'=g→u=v)→(¬g'=g→u=undef)→OL P l Q n df rest (updO σ d u) w):OL P l Q n df (⟨d,op,ty,p,af,some (j,g)⟩::rest) σ w:=by
 have hj:=jZ hj';by_cases e:g'=g
 · subst e; exact⟨wl_gt (S:=KS X w0 I0 I L) hj hv Z (h rfl) (k v (fun _=>rfl) (fun h=>absurd rfl h)).run⟩
 · exact⟨wl_gf hj hv (kJ e) (k undef (fun h=>absurd h e) (fun _=>rfl)).run⟩
theorem qn (hj' : dstAt l j = some t) (hc : C → ev n σ (.tmp t) = .bool g') (hn : ¬ C → ev n σ (.tmp t) = undef) (Z : St X w0 I0 I w L) (h : C ∧ g' = g → Gives P (ev n σ) (KS X w0 I0 I L) op ty v)
 (k:∀u,(C∧g'=g→u=v)→(¬(C∧g'=g)→u=undef)→OL P l Q n df rest (updO σ d u) w):OL P l Q n df (⟨d,op,ty,p,af,some (j,g)⟩::rest) σ w:=by
 have hj:=jZ hj';by_cases hC:C
 · refine qu hj' (hc hC) Z (fun e=>h ⟨hC,e⟩) fun u h1 h2=>k u (fun e=>h1 e.2) (fun e=>h2 fun e'=>e ⟨hC,e'⟩)
 · refine ⟨?_⟩
   unfold wpL;rw[if_neg (by rw[wanted_undef hj (hn hC)]; simp),jA];exact(k undef (fun e=>absurd e.1 hC) (fun _=>rfl)).run
theorem cvu (hj' : dstAt l j = some t) (hv : ev n σ (.tmp t) = .bool g') (Z : St X w0 I0 I w L) (h : g' = g → Does P (ev n σ) op ty w fun v w' => v = val ∧ Ext w I w' I)
 (k:∀w' u,St X w0 I0 I w' L→(g'=g→u=val)→(¬g'=g→u=undef)→OL P l Q n df rest (updO σ d u) w'):OL P l Q n df (⟨d,op,ty,p,af,some (j,g)⟩::rest) σ w:=by
 have hj:=jZ hj';by_cases e:g'=g
 · subst e
   refine⟨wl_et hj hv (h rfl) ?_⟩;rintro v w' ⟨rfl,hE⟩;exact(k w' _ (Z.call hE) (fun _=>rfl) (fun h=>absurd rfl h)).run
 · exact⟨wl_gf hj hv (kJ e) (k w undef Z (fun h=>absurd h e) (fun _=>rfl)).run⟩
variable {i:Nat} {r:Od} {S:World→Prop}
theorem spu (hi : l[i]? = some ⟨d, op, ty, p, af, some (j, g)⟩) (hj' : dstAt l j = some t) (hv : ev n σ (.tmp t) = .bool g') (h : g' = g → Gives P (ev n σ) (fun _ => True) op ty v)
 (k:∀u,(g'=g→u=v)→(¬g'=g→u=undef)→OS P l Q n df r S (updO σ d u) w):OS P l Q n df (.cons i .pure r) S σ w:=by
 have hj:=yJ hj';by_cases e:g'=g
 · subst e; exact spt hi hj hv (h rfl) (k v (fun _=>rfl) (fun h=>absurd rfl h))
 · exact spf hi hj hv (kJ e) (k undef (fun h=>absurd h e) (fun _=>rfl))
theorem shu (hi : l[i]? = some ⟨d, op, ty, p, af, some (j, g)⟩) (hj' : dstAt l j = some t) (hv : ev n σ (.tmp t) = .bool g') (h : g' = g → Gives P (ev n σ) (KS X w0 I0 I L) op ty v)
 (k:∀u,(g'=g→u=v)→(¬g'=g→u=undef)→OS P l Q n df r (KS X w0 I0 I L) (updO σ d u) w):OS P l Q n df (.cons i .held r) (KS X w0 I0 I L) σ w:=by
 have hj:=yJ hj';by_cases e:g'=g
 · subst e; exact sht hi hj hv (h rfl) (k v (fun _=>rfl) (fun h=>absurd rfl h))
 · exact shf hi hj hv (kJ e) (k undef (fun h=>absurd h e) (fun _=>rfl))
theorem scu (hi : l[i]? = some ⟨d, op, ty, p, af, some (j, g)⟩) (hj' : dstAt l j = some t) (hv : ev n σ (.tmp t) = .bool g') (Z : St X w0 I0 I w L) (h : g' = g → Does P (ev n σ) op ty w fun v w' => v = val ∧ Ext w I w' I)
 (k:∀w' u,St X w0 I0 I w' L→(g'=g→u=val)→(¬g'=g→u=undef)→OS P l Q n df r (KS X w0 I0 I L) (updO σ d u) w'):OS P l Q n df (.cons i .eff r) (KS X w0 I0 I L) σ w:=by
 have hj:=yJ hj';by_cases e:g'=g
 · subst e
   refine Inl.set hi hj hv (h rfl) ?_;rintro v w' ⟨rfl,hE⟩;exact⟨_,_,fun _ h=>h,Z.call hE,k w' _ (Z.call hE) (fun _=>rfl) (fun h=>absurd rfl h)⟩
 · exact sef hi hj hv (kJ e) Z (k w undef Z (fun h=>absurd h e) (fun _=>rfl))
end
/-! ### By one fact of the element's type -/
def Info (P:Program)(e:TypeId)(z:Value)(sz by':Nat):Prop:=∃i,P.info? e=some i∧i.zero=some z∧i.size=sz∧i.bytes=by'
section
variable {P:Program} {n:Nat} {df:List Deferred} {ro:Option Nat} {σ:Nat→Value} {w:World} {ty:TypeId} {X:List Nat} {w0:World} {I0 I:Imm} {L:List Res}
theorem i_make {t e : TypeId} {sz by' : Nat} {z : Value} {x y : Operand} {kl kc : IntKind} {l c : Int} (Z : St X w0 I0 I w L) (hT : P.underlying t = some (.slice e)) (hi : Info P e z sz by') (hx : ev n σ x = .int kl l) (hy : ev n σ y = .int kc c)
 (h0:0≤l) (hlc:l≤c) (hbytes:(by':Int)*c≤281474976710656) (h63:c≤9223372036854775807) :
 Does P (ev n σ) (.makeSlice t x y) ty w fun v w'=>∃b,v = .slice (some ⟨b,0,none⟩) l.toNat c.toNat∧St X w0 I0 I w' (.cel b e (madeCells z.cells (c.toNat*sz)).toList::L):=by
 obtain⟨i,h1,h2,h3,h4⟩:=hi;exact d_make Z hT h1 h2 h3 h4 hx hy h0 hlc hbytes h63
theorem xo {t e : TypeId} {sz by' : Nat} {z : Value} {x y : Operand} {kl kc : IntKind} {c : Int} (Z : St X w0 I0 I w L) (hT : P.underlying t = some (.slice e)) (hi : Info P e z sz by') (hx : ev n σ x = .int kl 0) (hy : ev n σ y = .int kc c)
 (hlc:0≤c) (hbytes:(by':Int)*c≤281474976710656) (h63:c≤9223372036854775807) :
 Does P (ev n σ) (.makeSlice t x y) ty w fun v w'=>∃ad cap,v = .slice ad 0 cap∧St X w0 I0 I w' (.row (.slice ad 0 cap) e sz 0 []::L):=by
 obtain⟨i,h1,h2,h3,h4⟩:=hi;refine(d_make0 Z hT h1 h2 h3 h4 hx hy hlc hbytes h63).mono ?_;rintro v w' ⟨h,_⟩;obtain⟨ad,cap,rfl⟩:=ya (k:=0) (L:=.row v e sz 0 []::L) (by simp) (by simpa using h);exact⟨ad,cap,rfl,h⟩
theorem i_append (k : Nat) {t e : TypeId} {sz by' : Nat} {z : Value} {x y : Operand} {aT : Array TypeId} {u : Value} {m m' c : Nat} {xs news : List Value} {ad : Addr} (Z : St X w0 I0 I w L) (ho : aT = #[t, t]) (hT : P.underlying t = some (.slice e))
 (hi:Info P e z sz by') (hzs:z.cells.size=sz) (h0:Nat.blt 0 sz=true) (hL:L[k]? = some (.row u e sz m xs)) (hx:ev n σ x=u) (hy:ev n σ y = .slice (some ad) m' c) (hl:news.length=m'*sz)
 (hc:∀j v,news[j]? = some v→w.cell? (ad.add j)=some v) (h1:news.all (·.oneCell')=true) (h63:m+m'≤9223372036854775807) (hbytes:(m+m')*by'≤140737488355328) :
 Does P (ev n σ) (.call { callee:=.builtin .append,args := #[x,y],argTypes:=aT }) ty w fun v w'=>∃ad cap,v = .slice ad (m+m') cap∧St X w0 I0 I w' (L.set k (.row (.slice ad (m+m') cap) e sz (m+m') (xs++news))):=by
 obtain⟨i,k1,k2,k3,k4⟩:=hi;refine(d_append k Z ho hT k1 k2 k3 k4 hzs h0 hL hx hy hl hc h1 h63 hbytes).mono ?_;rintro v w' ⟨h,_⟩;obtain⟨ad,cap,rfl⟩:=ya (List.getElem?_eq_some_iff.1 hL).1 h;exact⟨ad,cap,rfl,h⟩
theorem qB (k j : Nat) {t e T : TypeId} {sz by' : Nat} {z : Value} {x y : Operand} {aT : Array TypeId} {u : Value} {m m' c b : Nat} {xs news : List Value} (Z : St X w0 I0 I w L) (ho : aT = #[t, t]) (hT : P.underlying t = some (.slice e))
 (hi:Info P e z sz by') (hzs:z.cells.size=sz) (h0:Nat.blt 0 sz=true) (hL:L[k]? = some (.row u e sz m xs)) (hJ:L[j]? = some (.cel b T news)) (hx:ev n σ x=u) (hy:ev n σ y = .slice (some ⟨b,0,none⟩) m' c)
 (hl:news.length=m'*sz) (h1:news.all (·.oneCell')=true) (h63:m+m'≤9223372036854775807) (hbytes:(m+m')*by'≤140737488355328) :
 Does P (ev n σ) (.call { callee:=.builtin .append,args := #[x,y],argTypes:=aT }) ty w fun v w'=>∃ad cap,v = .slice ad (m+m') cap∧St X w0 I0 I w' (L.set k (.row (.slice ad (m+m') cap) e sz (m+m') (xs++news))):=by
 obtain⟨i,k1,k2,k3,k4⟩:=hi;refine(d_appendO k j Z ho hT k1 k2 k3 k4 hzs h0 hL hJ hx hy hl h1 h63 hbytes).mono ?_;rintro v w' ⟨h,_⟩;obtain⟨ad,cap,rfl⟩:=ya (List.getElem?_eq_some_iff.1 hL).1 h;exact⟨ad,cap,rfl,h⟩
end
/-! ### Slices of plain structs -/
def RFl {α:Type}(I:Imm)(sz:Nat)(enc:α→List Value)(v:Value)(xs:List α):Prop:=RSl I sz (fun cs x=>cs=enc x) v xs
theorem RFl.at {α:Type}{I:Imm}{sz:Nat}{enc:α→List Value}{v:Value}{xs:List α}(h:RFl I sz enc v xs){i:Nat}{x:α}(hx:xs[i]? = some x):atI I (elA v i sz 0) (enc x):=by
 obtain⟨cs,_,h2,rfl⟩:=RSl.at h hx;exact h2
theorem RFl.mono {α:Type}{I J:Imm}{sz:Nat}{enc:α→List Value}{v:Value}{xs:List α}(h:RFl I sz enc v xs)(hs:Sub I J):RFl J sz enc v xs:=RSl.mono h hs fun _ _ h=>h
theorem RFl.resl {α:Type}{I:Imm}{sz:Nat}{enc:α→List Value}{v:Value}{xs:List α}(hr:RFl I sz enc v xs)(l h:Nat)(hlh:l≤h)(hh:h≤xs.length):RFl I sz enc (Inl.resl v l h h sz) ((xs.take h).drop l):=RSl.resl hr l h hlh hh
def flat {α:Type}(enc:α→List Value)(xs:List α):List Value:=xs.flatMap enc
theorem qU {α:Type}{enc:α→List Value}{sz:Nat}(he:∀x,(enc x).length=sz)(xs:List α):(flat enc xs).length=xs.length*sz:=by
 induction xs with
 | nil=>simp[flat]
 | cons x xs ih=>simp only[flat,List.flatMap_cons,List.length_append,he,List.length_cons]at ih ⊢; rw[ih,Nat.add_mul]; omega
theorem qN {α : Type} {enc : α → List Value} {sz : Nat} (he : ∀ x, (enc x).length = sz) : ∀ (xs : List α) (i : Nat) (x : α), xs[i]? = some x → ∀ j v, (enc x)[j]? = some v → (flat enc xs)[i * sz + j]? = some v
 | [],i,x,hx=>by simp at hx
 | y::xs,0,x,hx=>by
   simp only[List.length_cons,Nat.zero_lt_succ,List.getElem?_eq_getElem,List.getElem_cons_zero,Option.some.injEq]at hx;subst hx;intro j v hv;have hj:=(List.getElem?_eq_some_iff.1 hv).1;simp only[flat,List.flatMap_cons,Nat.zero_mul,Nat.zero_add];rw[List.getElem?_append_left hj]; exact hv
 | y::xs,i+1,x,hx=>by
   intro j v hv;have:=qN he xs i x (by simpa using hx) j v hv;simp only[flat,List.flatMap_cons];rw[List.getElem?_append_right (by rw[he,Nat.add_mul]; omega),he,show(i+1)*sz+j - sz=i*sz+j by rw[Nat.add_mul]; omega];exact this
theorem ql {α:Type}(enc:α→List Value)(xs ys:List α):flat enc (xs++ys)=flat enc xs++flat enc ys:=by simp[flat]
theorem qS {α:Type}(enc:α→List Value)(x:α):flat enc [x]=enc x:=by simp[flat]
theorem RFl.of_block {α : Type} {I : Imm} {sz : Nat} {enc : α → List Value} (he : ∀ x, (enc x).length = sz) {b : Nat} {T : TypeId} {fz : Nat × Nat} {c : Array Value} {xs : List α} {cap : Nat} (hI : I b = some (.cells c T fz))
 (hc:∀(j:Nat) v,(flat enc xs)[j]? = some v→c[j]? = some v) (h1:xs.length≤cap) (h2:cap≤maxLen):RFl I sz enc (.slice (some ⟨b,0,none⟩) xs.length cap) xs :=
 .inr ⟨b,0,cap,rfl,h1,h2,fun i x hx=>⟨enc x,he x,⟨rfl,c,T,fz,hI,fun j v hv=>by
  simp only[Nat.zero_add]; exact hc _ v (qN he xs i x hx j v hv)⟩,rfl⟩⟩
section
variable {w0 w:World} {I0 I:Imm} {L:List Res}
theorem St.freezeRow {α : Type} {enc : α → List Value} {sz m : Nat} {E : TypeId} {u : Value} {xs : List α} (he : ∀ x, (enc x).length = sz) (h : St [] w0 I0 I w (.row u E sz m (flat enc xs) :: L)) (hm : m = xs.length) :
 ∃I',St [] w0 I0 I' w L∧Sub I I'∧RFl I' sz enc u xs:=by
 have hh:w.ownsRow 0 E sz u m (flat enc xs):=h.hold (.row u E sz m (flat enc xs)) (by simp);obtain⟨h1,h2,h3⟩:=h.freeze;refine⟨_,h1,h2,?_⟩;subst hm;rcases hh.2 with ⟨rfl,h0⟩ | ⟨g,cap,cur,rfl,_,hg,h4,h5,_,h7⟩
 · have hx := List.length_eq_zero_iff.1 h0
   exact .inl ⟨⟨none,0,rfl,by simp,fun _=>rfl⟩,hx⟩
 · have hI := h3 g (by simp [Res.foot, Value.ownBlock])
   rw[hg]at hI;refine RFl.of_block he hI (fun j v hj=>?_) h4 h5;rw[← h7,List.getElem?_take]at hj;split at hj
   · simpa using hj
   · cases hj
end
end Go.Inl
namespace Go.Inl
open Go Go.RowKit
section
variable {P:Program} {n:Nat} {σ:Nat→Value} {ty t:TypeId} {x y:Operand} {X:List Nat} {w0 w w':World} {I0 I:Imm} {L:List Res}
theorem St.startX {b:Nat}{T:TypeId}{cs:List Value}(h:Sat I w)(hb:w.heap[b]? = some (.cells cs.toArray T (0,0)))(hn:I b=none):St [b] w I I w [.cel b T cs] :=
 ⟨rfl,rfl,rfl,Nat.le_refl _,fun _ _ _=>rfl,h,fun _ _=>rfl,Sub.refl _,by
   intro r hr; simp only[List.mem_singleton]at hr; subst hr; exact hb,by
   intro r hr c hc; simp only[List.mem_singleton]at hr; subst hr; simp only[Res.foot,List.mem_singleton]at hc; subst hc; exact⟨hn,.inr (by simp)⟩,by simp[Res.foot]⟩
theorem St.callX {k b:Nat}{T:TypeId}{cs cs':List Value}(h:St X w0 I0 I w L)(hk:L[k]? = some (.cel b T cs))(h':St [b] w I I w' [.cel b T cs']):St X w0 I0 I w' (L.set k (.cel b T cs')) :=
 h.change hk h'.os h'.tape h'.output h'.size (fun c hc hne=>h'.block c hc (by simpa [Res.foot] using hne)) (fun c hc=>.inl hc) (by simp[Res.foot]) (h'.hold _ (by simp))
theorem qG {k b:Nat}{T:TypeId}{cs:List Value}(h:St X w0 I0 I w L)(hL:L[k]? = some (.cel b T cs)):w.heap[b]? = some (.cells cs.toArray T (0,0)):=h.hold _ (List.mem_of_getElem? hL)
theorem qF {k b:Nat}{T:TypeId}{cs:List Value}(h:St X w0 I0 I w L)(hL:L[k]? = some (.cel b T cs)):I b=none:=(h.new _ (List.mem_of_getElem? hL) b (by simp[Res.foot])).1
/-! ### One row of a block -/
theorem row_get {pre row post:List Value}{o c:Nat}{v:Value}(ho:o=pre.length)(hv:row[c]? = some v):(pre++(row++post))[o+c]? = some v:=by
 subst ho;have hc:=(List.getElem?_eq_some_iff.1 hv).1;rw[List.getElem?_append_right (by omega),Nat.add_sub_cancel_left,List.getElem?_append_left hc,hv]
theorem yk (k : Nat) {b o c : Nat} {T : TypeId} {pre row post : List Value} {v : Value} (ha : ∀ w, (isAgg t).run P w = .ok false w) (hL : L[k]? = some (.cel b T (pre ++ (row ++ post)))) (ho : o = pre.length)
 (hx:ev n σ x = .pointer (some ⟨b,o+c,none⟩)) (hv:row[c]? = some v):Gives P (ev n σ) (KS X w0 I0 I L) (.load t x) ty v :=
 qc k ha hL hx (row_get ho hv)
theorem g_ldF (k : Nat) {b o c m : Nat} {T : TypeId} {pre row post vs : List Value} (hm : ∀ w, (sizeOf t).run P w = .ok m w) (ha : ∀ w, (isAgg t).run P w = .ok true w) (hL : L[k]? = some (.cel b T (pre ++ (row ++ post)))) (ho : o = pre.length)
 (hx:ev n σ x = .pointer (some ⟨b,o+c,none⟩)) (hv:(row.drop c).take m=vs) (hl:vs.length=m):Gives P (ev n σ) (KS X w0 I0 I L) (.load t x) ty (.agg vs.toArray) :=
 kS hx fun w h=>jL (hm w) (ha w) hl fun j v hj=>by
  rw[qL,Nat.add_assoc];refine kx h hL (row_get ho ?_);subst hv;rw[List.getElem?_take]at hj;split at hj
  · simpa using hj
  · cases hj
theorem g_ldL (k : Nat) {b o m : Nat} {T : TypeId} {cs vs : List Value} (hm : ∀ w, (sizeOf t).run P w = .ok m w) (ha : ∀ w, (isAgg t).run P w = .ok true w) (hL : L[k]? = some (.cel b T cs))
 (hx:ev n σ x = .pointer (some ⟨b,o,none⟩)) (hv:∀(j:Nat) v,vs[j]? = some v→cs[o+j]? = some v) (hl:vs.length=m):Gives P (ev n σ) (KS X w0 I0 I L) (.load t x) ty (.agg vs.toArray) :=
 kS hx fun w h=>jL (hm w) (ha w) hl fun j v hj=>by
  rw[qL];exact kx h hL (hv j v hj)
theorem putL_app : ∀ (pre : List Value) (cs : List Value) (c : Nat) (vs : List Value), putL (pre ++ cs) (pre.length + c) vs = pre ++ putL cs c vs
 | [],cs,c,vs=>by simp
 | p::pre,cs,c,[]=>by cases cs <;> simp[putL]
 | p::pre,cs,c,v::vs=>by
   rw[show(p::pre).length+c=(pre.length+c)+1 by simp; omega,List.cons_append];show p::putL (pre++cs) (pre.length+c) (v::vs)=_
   rw[putL_app pre cs c (v::vs)]; rfl
theorem vJ : ∀ (row post : List Value) (c : Nat) (vs : List Value), c + vs.length ≤ row.length → putL (row ++ post) c vs = putL row c vs ++ post
 | row,post,c,[],_=>by cases row <;> cases post <;> simp[putL]
 | [],post,c,v::vs,h=>by simp at h
 | r::row,post,0,v::vs,h=>by
   show v::putL (row++post) 0 vs=_
   rw[vJ row post 0 vs (by simpa using h)]; rfl
 | r::row,post,c+1,v::vs,h=>by
   show r::putL (row++post) c (v::vs)=_
   rw[vJ row post c (v::vs) (by simp at h ⊢; omega)]; rfl
theorem jQ (k : Nat) {T : TypeId} {b o c m : Nat} {pre row post row' : List Value} (Z : St X w0 I0 I w L) (hm : ∀ w, (sizeOf t).run P w = .ok m w) (hL : L[k]? = some (.cel b T (pre ++ (row ++ post)))) (ho : o = pre.length)
 (hx:ev n σ x = .pointer (some ⟨b,o+c,none⟩)) {v:Value} (hy:ev n σ y=v) {vs:List Value} (hv:v.cells.toList=vs) (hlen:vs.length=m) (h1:vs.all (·.oneCell')=true) (hl:c+m≤row.length)
 (hc:putL row c vs=row'):Does P (ev n σ) (.store t x y) ty w fun u w'=>u=undef∧St X w0 I0 I w' (L.set k (.cel b T (pre++(row'++post)))):=by
 subst ho hc;exact qf k Z hm hL hx hy hv hlen h1 (by simp; omega) (by rw[putL_app,vJ row post c vs (by omega)])
theorem jH {S : World → Prop} {K : IntKind} {ix : Operand} {e : TypeId} {b len cap sz o : Nat} {i : Int} (hT : P.underlying t = some (.slice e)) (hs : ∀ w, (sizeOf e).run P w = .ok sz w)
 (hx:ev n σ x = .slice (some ⟨b,0,none⟩) len cap) (hi:ev n σ ix = .int K i) (h0:0≤i) (h1:i < len) (ho:i.toNat*sz=o) :
 Gives P (ev n σ) S (.indexAddr t x ix) ty (.pointer (some ⟨b,o,none⟩)):=by
 have:=kB (P:=P) (S:=S) (ty:=ty) hT hs hx hi h0 h1;rwa [Nat.zero_add,ho]at this
theorem madeCells_flat {α:Type}{enc:α→List Value}{sz:Nat}(he:∀x,(enc x).length=sz)(hz:0 < sz)(m:Nat)(a:α):(madeCells (enc a).toArray (m*sz)).toList=flat enc (List.replicate m a):=by
 apply List.ext_getElem?
 intro i;by_cases hi:i < m*sz
 · have hq : i / sz < m := Nat.div_lt_of_lt_mul (by rwa [Nat.mul_comm])
   have hr:i % sz < sz:=Nat.mod_lt _ hz;have h1:=qN he (List.replicate m a) (i / sz) a (by simp[hq]) (i % sz) ((enc a)[i % sz]'(by rw[he]; exact hr)) (List.getElem?_eq_getElem _);rw[show i / sz*sz+i % sz=i from Nat.div_add_mod' i sz]at h1;rw[h1];simp only[madeCells,Array.toList_map,Array.toList_range,List.getElem?_map,List.getElem?_range hi,Option.map_some,List.size_toArray,he];simp[he,hr]
 · have hl := qU he (List.replicate m a)
   rw[List.getElem?_eq_none (by simp[size_madeCells]; omega),List.getElem?_eq_none (by rw[hl]; simp; omega)]
theorem g_min {S:World→Prop}{K:IntKind}{a b:Int}{aT:Array TypeId}(hx:ev n σ x = .int K a)(hy:ev n σ y = .int K b):Gives P (ev n σ) S (.call { callee:=.builtin .min,args := #[x,y],argTypes:=aT }) ty (.int K (if b < a then b else a)):=fun w _=>by
 simp[execOp,resolve,invoke,builtin,hx,hy,run_min_int2]
theorem g_max {S:World→Prop}{K:IntKind}{a b:Int}{aT:Array TypeId}(hx:ev n σ x = .int K a)(hy:ev n σ y = .int K b):Gives P (ev n σ) S (.call { callee:=.builtin .max,args := #[x,y],argTypes:=aT }) ty (.int K (if b > a then b else a)):=fun w _=>by
 simp[execOp,resolve,invoke,builtin,hx,hy,run_max_int2]
theorem jc {f : FuncId} {T : TypeId} {v : Value} {name : String} {l : List Operand} {aT : Array TypeId} {vs : List Value} {R : Value → World → Prop} (hx : ev n σ x = .iface T v)
 (hm:∀w,(method (P.types.size+Made.depth) T v name).run P w = .ok (f,v) w) (hc:∀args w,(callFunc f args).run P w = .ok (.enter f args) w) (ha:l.map (ev n σ)=vs) (hF:Ctr P f (v::vs) w R) :
 Does P (ev n σ) (.call { callee:=.invoke x name,args:=l.toArray,argTypes:=aT }) ty w R:=by
 refine⟨?_⟩
 have he : (execOp (ev n σ) ⟨none, .call { callee := .invoke x name, args := l.toArray, argTypes := aT }, ty, "", #[], none⟩).run P w = .ok (.enter f (v :: vs).toArray) w := by
  subst ha;have hp:∀w,Sem.run P (Sem.program Sem.pure) w = .ok P w:=fun _=>rfl
  simp[execOp,resolve,hx,invoke,callMethod,program,hp,hm,hc,List.take_of_length_le]
 rw[he];exact hF.calls
theorem St.back {I':Imm}(h:St X w0 I0 I' w L):St X w0 I0 I0 w L :=
 ⟨h.os,h.tape,h.output,h.size,h.block,fun b o hI=>h.imm b o (h.ext b o hI),fun _ _=>rfl,Sub.refl _,h.hold,fun r hr b hb=>by
   obtain⟨h1,h2⟩:=h.new r hr b hb;refine⟨?_,h2⟩;cases hI:I0 b with
   | none=>rfl
   | some o=>(rw[h.ext b o hI]at h1; cases h1),h.nodup⟩
theorem setseg (off : Nat) : ∀ (us : List Value) (k : Nat) (pre mid post : List Value), mid.length = us.length → pre.length = off + k →
 (us.zipIdx k).foldl (fun(cs:Array Value) (q:Value×Nat)=>cs.setIfInBounds (off+q.2) q.1) (pre++(mid++post)).toArray=(pre++(us++post)).toArray
 | [],k,pre,mid,post,h,_=>by simp at h; subst h; rfl
 | u::us,k,pre,[],post,h,_=>by simp at h
 | u::us,k,pre,m::mid,post,h,hp=>by
   simp only[List.zipIdx_cons,List.foldl_cons];have e:(pre++(m::mid++post)).toArray.setIfInBounds (off+k) u=((pre++[u])++(mid++post)).toArray:=by
    rw[← hp]; simp
   rw[e,setseg off us (k+1) (pre++[u]) mid post (by simpa using h) (by simp[hp]; omega)];simp
theorem fill_seq (sz : Nat) : ∀ (vs : List Value) (j : Nat) (pre post : List Value), pre.length = j * sz → post.length = vs.length * sz → (∀ v ∈ vs, v.cells.toList.length = sz) →
 Instr.fill (fun i=>some (i*sz,sz)) (pre++post).toArray ((vs.zipIdx j).map fun q=>(q.2,q.1))=some (pre++vs.flatMap fun v=>v.cells.toList).toArray
 | [],j,pre,post,_,h,_=>by simp at h; subst h; simp[Instr.fill]
 | v::vs,j,pre,post,h1,h2,h3=>by
   have hv:v.cells.toList.length=sz:=h3 v (by simp);have hv':v.cells.size=sz:=by simpa using hv
   have hps:post.length=sz+vs.length*sz:=by rw[h2,List.length_cons,Nat.add_mul]; omega
   simp only[List.zipIdx_cons,List.map_cons,Instr.fill];have hsz:¬(v.cells.size≠sz || decide (j*sz+v.cells.size > (pre++post).toArray.size))=true:=by
    simp[hv',h1,hps]
   rw[if_neg hsz];have hfold:v.cells.zipIdx.foldl (fun cs x=>match x with | (c,i)=>cs.setIfInBounds (j*sz+i) c) (pre++post).toArray=(pre++(v.cells.toList++post.drop sz)).toArray:=by
    have:=setseg (j*sz) v.cells.toList 0 pre (post.take sz) (post.drop sz) (by simp[hv']; omega) (by simpa using h1);rw[List.take_append_drop]at this;rw[← this,← Array.foldl_toList];simp
   rw[hfold,← List.append_assoc,fill_seq sz vs (j+1) (pre++v.cells.toList) (post.drop sz) (by simp[h1,hv',Nat.add_mul]) (by simp[hps]) (fun u hu=>h3 u (by simp[hu]))];simp[List.flatMap_cons]
theorem d_lit {t e : TypeId} {len sz : Nat} {l : List (Nat × Operand)} {z : Value} {vs : List Value} {cs : List Value} (Z : St X w0 I0 I w L) (hT : P.underlying t = some (.slice e)) (hs : ∀ w, (sizeOf e).run P w = .ok sz w)
 (hz:∀w,(zeroValue e).run P w = .ok z w) (hsmall:Nat.ble (len*sz) 16777216=true) (hpos:Nat.beq (len*sz) 0=false)
 (hl:(l.map fun p=>(p.1,ev n σ p.2))=(vs.zipIdx 0).map fun q=>(q.2,q.1)) (hn:vs.length=len) (hv:∀v∈vs,v.cells.toList.length=sz) (hc:(vs.flatMap fun v=>v.cells.toList)=cs) :
 Does P (ev n σ) (.buildSlice t len l.toArray) ty w fun v w'=>∃b,v = .slice (some ⟨b,0,none⟩) len len∧St X w0 I0 I w' (.cel b e cs::L):=by
 subst hc;refine d_buildSlice Z hT hs hz hsmall hpos ?_;rw[hl];have:=fill_seq sz vs 0 [] ((Array.range (len*sz)).map (z.cells[· % z.cells.size]!)).toList (by simp) (by simp[hn]) hv;rw[List.nil_append,Array.toArray_toList,List.nil_append]at this;exact this
theorem zd {α : Type} : ∀ (l : List α) (k : Nat) (h : k < l.length), List.Perm (l[k] :: l.eraseIdx k) l
 | [],k,h=>by simp at h
 | a::l,0,h=>List.Perm.refl _
 | a::l,k+1,h=>(List.Perm.swap _ _ _).trans ((zd l k (by simpa using h)).cons a)
theorem St.pick {X:List Nat}(k:Nat)(h:St X w0 I0 I w L)(hk:Nat.ble (k+1) L.length=true:=by rfl):St X w0 I0 I w (L[k]'(Nat.le_of_ble_eq_true hk)::L.eraseIdx k):=h.perm (zd L k (Nat.le_of_ble_eq_true hk))
/-! ### Own blocks in another order -/
def nthR : List Res → Nat → Option Res
 | [],_=>none
 | r::_,0=>some r
 | _::L,k+1=>nthR L k
def ordR (L : List Res) : List Nat → List Res
 | []=>[]
 | k::ks=>match nthR L k with
   | some r=>r::ordR L ks
   | none=>ordR L ks
def nodupB : List Nat → Bool
 | []=>true
 | k::ks => !(ks.any fun j=>Nat.beq j k) && nodupB ks
theorem ye : ∀ {L : List Res} {k : Nat} {r : Res}, nthR L k = some r → r ∈ L
 | [],k,r,h=>by simp[nthR]at h
 | a::L,0,r,h=>by simp only[nthR,Option.some.injEq]at h; simp[h]
 | a::L,k+1,r,h=>List.mem_cons_of_mem _ (ye (L:=L) h)
theorem nthR_foot : ∀ {L : List Res} {k : Nat} {r : Res}, nthR L k = some r → (L.flatMap Res.foot).Nodup → r.foot.Nodup
 | [],k,r,h,_=>by simp[nthR]at h
 | a::L,0,r,h,hn=>by
   simp only[nthR,Option.some.injEq]at h; subst h
   rw[List.flatMap_cons]at hn; exact(List.nodup_append.1 hn).1
 | a::L,k+1,r,h,hn=>by
   rw[List.flatMap_cons]at hn; exact nthR_foot (L:=L) h (List.nodup_append.1 hn).2.1
theorem nthR_apart : ∀ {L : List Res} {i j : Nat} {r s : Res}, nthR L i = some r → nthR L j = some s → i ≠ j → (L.flatMap Res.foot).Nodup → ∀ b ∈ r.foot, b ∉ s.foot
 | [],i,j,r,s,h,_,_,_=>by simp[nthR]at h
 | a::L,0,0,r,s,_,_,hij,_=>absurd rfl hij
 | a::L,0,j+1,r,s,h1,h2,_,hn=>by
   simp only[nthR,Option.some.injEq]at h1; subst h1
   rw[List.flatMap_cons]at hn;intro b hb hs;exact(List.nodup_append.1 hn).2.2 b hb b (List.mem_flatMap.2 ⟨s,ye (L:=L) h2,hs⟩) rfl
 | a::L,i+1,0,r,s,h1,h2,_,hn=>by
   simp only[nthR,Option.some.injEq]at h2; subst h2
   rw[List.flatMap_cons]at hn;intro b hb hs;exact(List.nodup_append.1 hn).2.2 b hs b (List.mem_flatMap.2 ⟨r,ye (L:=L) h1,hb⟩) rfl
 | a::L,i+1,j+1,r,s,h1,h2,hij,hn=>by
   rw[List.flatMap_cons]at hn;exact nthR_apart (L:=L) h1 h2 (by omega) (List.nodup_append.1 hn).2.1
theorem yd {L : List Res} : ∀ {ks : List Nat} {r : Res}, r ∈ ordR L ks → ∃ k ∈ ks, nthR L k = some r
 | [],r,h=>by simp[ordR]at h
 | k::ks,r,h=>by
   unfold ordR at h;split at h
   · rename_i r' hr
     rcases List.mem_cons.1 h with rfl | h
     · exact⟨k,by simp,hr⟩
     · obtain ⟨j, h1, h2⟩ := yd h
       exact⟨j,by simp[h1],h2⟩
   · obtain ⟨j, h1, h2⟩ := yd h
     exact⟨j,by simp[h1],h2⟩
theorem yR {L : List Res} (hn : (L.flatMap Res.foot).Nodup) : ∀ {ks : List Nat}, nodupB ks = true → ((ordR L ks).flatMap Res.foot).Nodup
 | [],_=>by simp[ordR]
 | k::ks,h=>by
   simp only[nodupB,Bool.and_eq_true,Bool.not_eq_true',List.any_eq_false]at h;unfold ordR;split
   · rename_i r hr
     rw[List.flatMap_cons];refine List.nodup_append.2 ⟨nthR_foot hr hn,yR hn h.2,?_⟩;intro a ha b hb e;subst e;obtain⟨s,hs,hb⟩:=List.mem_flatMap.1 hb;obtain⟨j,hj,hs⟩:=yd hs;exact nthR_apart hr hs (fun e=>h.1 j hj (by rw[e]; exact Nat.beq_refl j)) hn a ha hb
   · exact yR hn h.2
theorem St.ord {X:List Nat}(ks:List Nat)(h:St X w0 I0 I w L)(hk:nodupB ks=true:=by rfl):St X w0 I0 I w (ordR L ks) :=
 ⟨h.os, h.tape, h.output, h.size, h.block, h.imm, h.old, h.ext, fun r hr => by obtain ⟨k, _, hr⟩ := yd hr; exact h.hold r (ye hr),
   fun r hr=>by obtain⟨k,_,hr⟩:=yd hr; exact h.new r (ye hr),yR h.nodup hk⟩
theorem St.freezeAt (k:Nat){b:Nat}{T:TypeId}{cs:List Value}(h:St [] w0 I0 I w L)(hk:L[k]? = some (.cel b T cs)):∃I',St [] w0 I0 I' w (L.eraseIdx k)∧Sub I I'∧atI I' ⟨b,0,none⟩ cs:=by
 have hlt:=(List.getElem?_eq_some_iff.1 hk).1;have he:=(List.getElem?_eq_some_iff.1 hk).2;have h1:St [] w0 I0 I w (.cel b T cs::L.eraseIdx k):=h.perm (by rw[← he]; exact zd L k hlt);have hh:w.heap[b]? = some (.cells cs.toArray T (0,0)):=h1.hold (.cel b T cs) (by simp);obtain⟨h2,h3,h4⟩:=h1.freeze;refine⟨_,h2,h3,rfl,cs.toArray,T,(0,0),?_,fun j v hv=>by simpa using hv⟩;rw[h4 b (by simp[Res.foot]),hh]
theorem St.freeze1 {w0 w:World}{I0 I:Imm}{L:List Res}{b:Nat}{T:TypeId}{cs:List Value}(h:St [] w0 I0 I w (.cel b T cs::L)):∃I',St [] w0 I0 I' w L∧Sub I I'∧atI I' ⟨b,0,none⟩ cs:=h.freezeAt 0 rfl
theorem St.callE {X:List Nat}{w0 w w':World}{I0 I I':Imm}{L:List Res}(h:St X w0 I0 I w L)(hE:Ext w I w' I'):St X w0 I0 I' w' L:=h.call hE
theorem jP {S:World→Prop}{f:Go.Fn}{lf lc:List Operand}{f1 c1:List Value}(h1:lf.map (ev n σ)=f1)(h2:lc.map (ev n σ)=c1):Gives P (ev n σ) S (.makeFunc f lf.toArray lc.toArray) ty (.func f f1.toArray c1.toArray):=fun w _=>by
 subst h1 h2; simp[execOp,Instr.makeFunc]
theorem mp0:List.map (fun p:Nat×Operand=>(p.1,ev n σ p.2)) []=[]:=rfl
theorem mp {i:Nat}{x:Operand}{v:Value}{l:List (Nat×Operand)}{ps:List (Nat×Value)}(h:ev n σ x=v)(hs:l.map (fun p=>(p.1,ev n σ p.2))=ps):((i,x)::l).map (fun p=>(p.1,ev n σ p.2))=(i,v)::ps:=by simp[h,hs]
theorem qs {S : World → Prop} {l : List (Nat × Operand)} {z : Value} {fs : Array Field} {pl : List (Nat × Nat)} {cs : List Value} {ps : List (Nat × Value)} (hz : ∀ w, (zeroValue t).run P w = .ok z w) (hT : P.underlying t = some (.struct fs))
 (hp:∀w,(fs.mapM fun f=>do pure (f.offset,← sizeOf f.type):Sem (Array (Nat×Nat))).run P w = .ok pl.toArray w)
 (hps:(l.map fun p=>(p.1,ev n σ p.2))=ps) (hf:Instr.fill (pl[·]?) z.cells ps=some cs.toArray):Gives P (ev n σ) S (.build t l.toArray) ty (.agg cs.toArray):=g_build hz hT hp (by rw[hps]; exact hf)
theorem jf {α : Type} {enc : α → List Value} {sz m : Nat} {E : TypeId} {u : Value} {xs : List α} (he : ∀ x, (enc x).length = sz) (h : St [] w0 I0 I w [.row u E sz m (flat enc xs)]) (hm : m = xs.length) :
 ∃I',Ext w0 I0 w I'∧Sub I I'∧RFl I' sz enc u xs:=St.freezeRow he h hm
theorem g_slice3N {e : TypeId} {S : World → Prop} {ad : Option Addr} {len cap sz l0 h0 m0 : Nat} {kl kh km : IntKind} {l h m : Int} {lo hi mx : Operand} (hT : P.underlying t = some (.slice e)) (hs : ∀ w, (sizeOf e).run P w = .ok sz w)
 (hx:ev n σ x = .slice ad len cap) (hl:ev n σ lo = .int kl l) (hh:ev n σ hi = .int kh h) (hm:ev n σ mx = .int km m) (h1:0≤l) (h2:l≤h) (h3:h≤m) (h4:m≤cap) (e1:l.toNat=l0) (e2:h.toNat=h0) (e3:m.toNat=m0) :
 Gives P (ev n σ) S (.slice t x (some lo) (some hi) (some mx)) ty (resl (.slice ad len cap) l0 h0 m0 sz):=by
 subst e1 e2 e3; exact g_slice3 hT hs hx hl hh hm h1 h2 h3 h4
theorem g_slice2N {e : TypeId} {S : World → Prop} {ad : Option Addr} {len cap sz l0 h0 : Nat} {kl kh : IntKind} {l h : Int} {lo hi : Operand} (hT : P.underlying t = some (.slice e)) (hs : ∀ w, (sizeOf e).run P w = .ok sz w)
 (hx:ev n σ x = .slice ad len cap) (hl:ev n σ lo = .int kl l) (hh:ev n σ hi = .int kh h) (h1:0≤l) (h2:l≤h) (h3:h≤cap) (e1:l.toNat=l0) (e2:h.toNat=h0) :
 Gives P (ev n σ) S (.slice t x (some lo) (some hi) none) ty (resl (.slice ad len cap) l0 h0 cap sz):=by
 subst e1 e2; exact g_slice2 hT hs hx hl hh h1 h2 h3
theorem kj {e : TypeId} {S : World → Prop} {ad : Option Addr} {len cap sz l0 : Nat} {kl : IntKind} {l : Int} {lo : Operand} (hT : P.underlying t = some (.slice e)) (hs : ∀ w, (sizeOf e).run P w = .ok sz w)
 (hx:ev n σ x = .slice ad len cap) (hl:ev n σ lo = .int kl l) (h1:0≤l) (h2:l≤len) (e1:l.toNat=l0) :
 Gives P (ev n σ) S (.slice t x (some lo) none none) ty (resl (.slice ad len cap) l0 len cap sz):=by
 subst e1; exact yh hT hs hx hl h1 h2
theorem zt {e : TypeId} {S : World → Prop} {ad : Option Addr} {len cap sz h0 : Nat} {kh : IntKind} {h : Int} {hi : Operand} (hT : P.underlying t = some (.slice e)) (hs : ∀ w, (sizeOf e).run P w = .ok sz w)
 (hx:ev n σ x = .slice ad len cap) (hh:ev n σ hi = .int kh h) (h1:0≤h) (h3:h≤cap) (e2:h.toNat=h0) :
 Gives P (ev n σ) S (.slice t x none (some hi) none) ty (resl (.slice ad len cap) 0 h0 cap sz):=by
 subst e2; exact g_sliceH hT hs hx hh h1 h3
end
end Go.Inl
