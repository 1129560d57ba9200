/- Own work. -/
import Derived.Test.YtbdlccajpcomjaaDoorFwLb17
import Derived.Test.YtbdlccajpcomjaaDoorFwB4
import Derived.Lib.Bytealg
import Derived.Lib.ItoaNum
set_option linter.unusedVariables false
set_option linter.unusedSimpArgs false
namespace Go.Fw.L19
open Go Go.Fw
set_option maxRecDepth 100000
def fU (S:V1→V1→Option V5):a7:={A:=V1×V1×Unit,B:=V1,f:=30,enc:=fun a=> [.cn,.sb 66 5 a.1,.v .str a.2.1],dec:=N9 66 5,S:=fun a=>S a.1 a.2.1,ag:=fun b=> [.sb 66 5 b],ok:=aiU (t:=66) (e:=5)}
def a6 (_:Nat) (x0 x1:List UInt8):Option V1:=if x0.length+x1.length≤140737488355328 then some (x0++x1) else none
def jd (S:Int→Option V5):a7:={A:=Int×Unit,B:=V1,f:=32,enc:=fun a=> [.v U2 a.1],dec:=(bZ (cO U2) dZ),S:=fun a=>S a.1,ag:=fun b=> [.v .str b],ok:=(gX (T:=U2) (fun es b h=>iv h))}
def cb (_:Nat) (x0:Int):Option V1:=some (Go.Lib.itoa x0)
def j9 (S:V1→Option V5):a7:={A:=V1×Unit,B:=V1,f:=33,enc:=fun a=> [.cn,.sb 66 5 a.1],dec:=N8 66 5,S:=fun a=>S a.1,ag:=fun b=> [.v .str b],ok:=aiT (t:=66) (e:=5)}
def eg (_:Nat) (x0:List UInt8):Option V1:=if x0=[] then none else some x0
def lN (S:b6→Option Dq):a7:={A:=b6×Unit,B:=b6,f:=35,enc:=fun a=> [.v cF a.1],dec:=(bZ (cO cF) dZ),S:=fun a=>S a.1,ag:=fun b=> [.own true 51 aw .no b],ok:=(gX (T:=cF) (fun es b h=>iv h))}
def eD (_:Nat) (x0:List ay):Option b6:=if x0.length≤3518437208883 then some x0 else none
def je (S:V6→Option V8):a7:={A:=V6×Unit,B:=V6,f:=36,enc:=fun a=> [.v U0 a.1],dec:=(bZ (cO U0) dZ),S:=fun a=>S a.1,ag:=fun b=> [.own true 9 .str .no b],ok:=(gX (T:=U0) (fun es b h=>iv h))}
def cj (_:Nat) (x0:List V1):Option V6:=if x0.length≤8796093022208 then some x0 else none
def lP (S:V1→Int→Option (Int)):a7:={A:=V1×Int×Unit,B:=Int,f:=78,enc:=fun a=> [.v .str a.1,.v U1 a.2.1],dec:=(bZ (cO .str) (bZ (cO U1) dZ)),S:=fun a=>S a.1 a.2.1,ag:=fun b=> [.v U2 b],ok:=(gX (T:=.str) (gX (T:=U1) (fun es b h=>iv h)))}
def eM (_:Nat) (x0:List UInt8) (x1:Int):Option Int:=some (Go.Lib.indexByte x0 x1.toNat.toUInt8)
def nF (S:Option (Bool)):a7:={A:=Unit,B:=Bool,f:=5,enc:=fun a=> [],dec:=dZ,S:=fun a=>S,ag:=fun b=> [.v .bool b],ok:=(fun es b h=>iv h)}
def S5 (_:Nat):Option Bool:=some true
def lO (S:Int→Option V5):a7:={A:=Int×Unit,B:=V1,f:=37,enc:=fun a=> [.v U2 a.1],dec:=(bZ (cO U2) dZ),S:=fun a=>S a.1,ag:=fun b=> [.v .str b],ok:=(gX (T:=U2) (fun es b h=>iv h))}
def oz:oM:=fun f=>match f with
 | 30=>some (fU (a6 0)).eP
 | 32=>some (jd (cb 0)).eP
 | 33=>some (j9 (eg 0)).eP
 | 35=>some (lN (eD 0)).eP
 | 36=>some (je (cj 0)).eP
 | 78=>some (lP (eM 0)).eP
 | _=>none
def R8:Nat→aH:=recC 37 d37 30000 (eN table oz 30000 1)
def nk:oM:=fun f=>match f with
 | 37=>some fun es=>(R8 250).run 37 es
 | f=>oz f
end Go.Fw.L19
