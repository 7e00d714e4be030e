/- Short names of steps. Conditions: none. -/
import Derived.Test.YtgkgihnpjgbmhaaGreatDoorKCore
namespace Go.Inl
open Go Go.RowKit
section
variable {P:Program} {n:Nat} {σ:Nat→Value} {S:World→Prop} {ty:TypeId} {x:Operand} {a:Int} {b:Bool}
theorem Qmi (h:ev n σ x = .int .i64 a):Gives P (ev n σ) S (.move x) ty (.int .i64 a):=qx h
theorem Qai (h:ev n σ x = .int .i64 a):Gives P (ev n σ) S (.assign x) ty (.int .i64 a):=qv h
theorem Qmb (h:ev n σ x = .bool b):Gives P (ev n σ) S (.move x) ty (.bool b):=qx h
theorem Qab (h:ev n σ x = .bool b):Gives P (ev n σ) S (.assign x) ty (.bool b):=qv h
theorem Qmw (h:ev n σ x = .int .u32 a):Gives P (ev n σ) S (.move x) ty (.int .u32 a):=qx h
theorem Qaw (h:ev n σ x = .int .u32 a):Gives P (ev n σ) S (.assign x) ty (.int .u32 a):=qv h
theorem Qxi {vs:Array Value}{i:Nat}(h:ev n σ x = .tuple vs)(hv:vs[i]? = some (.int .i64 a)):Gives P (ev n σ) S (.extract x i) ty (.int .i64 a):=qk h hv
end
section
variable {P:Program} {n:Nat} {df:List Deferred} {ro:Option Nat} {σ:Nat→Value} {w:World} {Q:Exit→Act→World→Prop} {l:List Oper}
theorem QwR {id:Nat}{y:Code}(h:OL P l (Exit.then (y.wpIn (fen ro) 0 P Q) Q) n df l σ w):(Code.seq (.region id l.toArray false) y).wpIn (fen ro) 0 P Q (act n df σ) w:=wpIn_seq (reg h)
theorem QoN {next:Act→World→Prop}(k:next (act n df σ) w):OL P l (Exit.then next Q) n df [] σ w:=qy (thenN k)
theorem QoR {id:Nat}{y:Code}{l2:List Oper}(k:OL P l2 (Exit.then (y.wpIn (fen ro) 0 P Q) Q) n df l2 σ w):OL P l (Exit.then ((Code.seq (.region id l2.toArray false) y).wpIn (fen ro) 0 P Q) Q) n df [] σ w:=qy (thenN (wpIn_seq (reg k)))
end
theorem zA (a b:Bool):((a && b)=true)=(a=true∧b=true):=Bool.and_eq_true a b
theorem zO (a b:Bool):((a || b)=true)=(a=true∨b=true):=Bool.or_eq_true a b
theorem zN (b:Bool):((!b)=true)=(b=false):=Bool.not_eq_true' b
theorem zI (a b:Bool):(a && b)=false↔(a=true→b=false):=Bool.and_eq_false_imp
theorem zF (a b:Bool):(a || b)=false↔a=false∧b=false:=Bool.or_eq_false_iff
theorem zM (b:Bool):((!b)=false)=(b=true):=Bool.not_eq_false' b
theorem zT {p:Prop}[Decidable p]:(decide p=true)=p:=decide_eq_true_eq
theorem zU {p:Prop}[Decidable p]:decide p=false↔¬p:=decide_eq_false_iff_not
abbrev Od.pg (i:Nat)(t:Od):Od:=.cons i .pure t
abbrev Od.hg (i:Nat)(t:Od):Od:=.cons i .held t
abbrev _root_.Go.Value.ig (n:Int):Value:=.int .i64 n
abbrev _root_.Go.Value.bg (n:Int):Value:=.int .u8 n
abbrev _root_.Go.Value.wg (n:Int):Value:=.int .u32 n
abbrev _root_.Go.Value.sg (a:Option Addr)(n m:Nat):Value:=.slice a n m
abbrev _root_.Go.Value.zg (b:Nat):Value:=.pointer (some ⟨b,0,none⟩)
end Go.Inl
