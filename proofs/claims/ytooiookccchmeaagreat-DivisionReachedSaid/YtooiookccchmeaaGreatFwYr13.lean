/- Own work. -/
import Derived.Test.YtooiookccchmeaaGreatFwLr13
import Derived.Test.YtooiookccchmeaaGreatFwB6
import Derived.Lib.Bytealg
import Derived.Test.YtooiookccchmeaaGreatFwB7
set_option linter.unusedVariables false
set_option linter.unusedSimpArgs false
namespace Go.Fw.L19
open Go Go.Fw
set_option maxRecDepth 100000
def jM (S:zD→V8→Option DR):aO:={A:=zD×V8×Unit,B:=V8,f:=43,enc:=fun a=> [.bI,.v (.fn zw U2) a.1,.own true 27 U5 .no a.2.1],dec:=Ir 27 U5 zw U2,S:=fun a=>S a.1 a.2.1,av:=fun b=> [.own true 27 U5 .no b],ok:=Xv (e:=27) (T:=U5) (A:=zw) (C:=U2)}
def eL (_:Nat) (x0:(V0×DQ)→Option Int) (x1:List V0):Option V8:=tM x0 x1
def im (S:V3→V3→Option V7):aO:={A:=V3×V3×Unit,B:=V3,f:=84,enc:=fun a=> [.bI,.sb 123 5 a.1,.v .str a.2.1],dec:=It 123 5,S:=fun a=>S a.1 a.2.1,av:=fun b=> [.sb 123 5 b],ok:=Xy (t:=123) (e:=5)}
def cD (_:Nat) (x0 x1:List UInt8):Option V3:=if x0.length+x1.length≤140737488355328 then some (x0++x1) else none
def jm (S:V3→Option V7):aO:={A:=V3×Unit,B:=V3,f:=85,enc:=fun a=> [.bI,.sb 123 5 a.1],dec:=Is 123 5,S:=fun a=>S a.1,av:=fun b=> [.v .str b],ok:=Xx (t:=123) (e:=5)}
def dW (_:Nat) (x0:List UInt8):Option V3:=some x0
def j6 (S:V3→Int→Option (Int)):aO:={A:=V3×Int×Unit,B:=Int,f:=145,enc:=fun a=> [.v .str a.1,.v U0 a.2.1],dec:=(bc (bL .str) (bc (bL U0) ck)),S:=fun a=>S a.1 a.2.1,av:=fun b=> [.v U2 b],ok:=(gn (T:=.str) (gn (T:=U0) (fun es b h=>jn h)))}
def ff (_:Nat) (x0:List UInt8) (x1:Int):Option Int:=some (Go.Lib.indexByte x0 x1.toNat.toUInt8)
def gx (S:aI→a6→Option gK):aO:={A:=aI×a6×Unit,B:=aI×Int,f:=41,enc:=fun a=> [.loc bF (.pair .no (.pair .no (.pair .mp .no))) a.1,.v aY a.2.1],dec:=(bc (uQ (.pair .no (.pair .no (.pair .mp .no))) bF) (bc (bL aY) ck)),S:=fun a=>S a.1 a.2.1,av:=fun b=> [.loc bF (.pair .no (.pair .no (.pair .mp .no))) b.1,.v U2 b.2],ok:=(Q7 (o:=(.pair .no (.pair .no (.pair .mp .no)))) (T:=bF) (gn (T:=aY) (fun es b h=>jn h)))}
def kA (S:aI→a6→Option jW):aO:={A:=aI×a6×Unit,B:=aI×V8,f:=42,enc:=fun a=> [.loc bF (.pair .no (.pair .no (.pair .mp .no))) a.1,.v aY a.2.1],dec:=(bc (uQ (.pair .no (.pair .no (.pair .mp .no))) bF) (bc (bL aY) ck)),S:=fun a=>S a.1 a.2.1,av:=fun b=> [.loc bF (.pair .no (.pair .no (.pair .mp .no))) b.1,.own true 27 U5 .no b.2],ok:=(Q7 (o:=(.pair .no (.pair .no (.pair .mp .no)))) (T:=bF) (gn (T:=aY) (fun es b h=>jn h)))}
def dA:mA:=fun f=>match f with
 | 43=>some (jM (eL 0)).fk
 | 84=>some (im (cD 0)).fk
 | 85=>some (jm (dW 0)).fk
 | 145=>some (j6 (ff 0)).fk
 | _=>none
def qF:Nat→az:=recC 41 d41 2000 (bD table dA 2000 4)
def dH:mA:=fun f=>match f with
 | 41=>some fun es=>(qF 250).run 41 es
 | f=>dA f
def yH:Nat→az:=recC 42 d42 2000 (bD table dH 2000 4)
def kJ:mA:=fun f=>match f with
 | 41=>some fun es=>(qF 250).run 41 es
 | 42=>some fun es=>(yH 250).run 42 es
 | f=>dA f
end Go.Fw.L19
