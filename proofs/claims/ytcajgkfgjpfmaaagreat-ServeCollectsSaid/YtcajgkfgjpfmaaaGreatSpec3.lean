/- Instructions and lifted code as plain Lean. Conditions: none. -/
import Derived.Test.YtcajgkfgjpfmaaaGreatKCore3
import Derived.Test.YtcajgkfgjpfmaaaGreatKCore2
import Derived.Test.YtcajgkfgjpfmaaaGreatKSpec
set_option linter.unusedSimpArgs false
set_option linter.unusedVariables false
namespace Go.Inl
open Go Go.RowKit
structure InstL where
 op:Int
 a:Int
 b:Int
 c:Int
 n:Int
def dataI (w:Int):InstL:=⟨0,0,0,0,w⟩
def regsP (op:Int):Int:=if op=1∨op=3∨op=4 then 3 else if op=2∨op=7∨op=8 then 1 else 0
def bitsP (op:Int):Int:=if op=5∨op=6 then 24 else if op=2∨op=7∨op=8 then 16 else 0
def signP (op:Int):Bool:=decide (op=5∨op=6∨op=7)
def targP (op:Int):Bool:=decide (5≤op∧op≤8)
def octP (w:Int)(i:Nat):Int:=w / 2 ^ (24 - 8*i) % 256
def lowP (w m:Int)(s:Bool):Int:=if s && decide (m / 2≤w % m) then w % m - m else w % m
def lowI (w op:Int):Int:=if bitsP op=24 then lowP w 16777216 (signP op) else if bitsP op=16 then lowP w 65536 (signP op) else 0
def badR (w op:Int):Bool:=(decide (0 < regsP op) && decide (15 < octP w 1)) || ((decide (1 < regsP op) && decide (15 < octP w 2)) || (decide (2 < regsP op) && decide (15 < octP w 3)))
def decI (w at_:Int):InstL :=
 if octP w 0=0∨8 < octP w 0 then dataI w
 else if badR w (octP w 0)=true then dataI w
 else ⟨octP w 0, if 0 < regsP (octP w 0) then octP w 1 else 0, if 1 < regsP (octP w 0) then octP w 2 else 0, if 2 < regsP (octP w 0) then octP w 3 else 0,
  if targP (octP w 0)=true then at_+4*lowI w (octP w 0) else lowI w (octP w 0)⟩
def linkedP (x:InstL)(len:Int):Bool:=decide (5≤x.op∧x.op≤8) && (decide (0≤x.n) && decide (x.n < len))
def instAt (ws:List Int)(i:Nat):InstL:=decI (ws.getD i 0) (4*(i:Int))
def lnk (ws:List Int)(i:Nat):Bool:=linkedP (instAt ws i) (4*(ws.length:Int))
end Go.Inl
