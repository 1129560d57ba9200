/- Own work. -/
import Derived.Test.YtooiookccchmeaaGreatFwLm13
import Derived.Test.YtooiookccchmeaaGreatFwB6
import Derived.Lib.Bytealg
import Derived.Test.YtooiookccchmeaaGreatFwB7
set_option linter.unusedVariables false
set_option linter.unusedSimpArgs false
namespace Go.Fw.L19
open Go Go.Fw
set_option maxRecDepth 100000
def jv (S:xz→V7→Option BT):aO:={A:=xz×V7×Unit,B:=V7,f:=43,enc:=fun a=> [.bE,.v (.fn xr U2) a.1,.own true 27 U5 .no a.2.1],dec:=FT 27 U5 xr U2,S:=fun a=>S a.1 a.2.1,au:=fun b=> [.own true 27 U5 .no b],ok:=Uh (e:=27) (T:=U5) (A:=xr) (C:=U2)}
def eE (_:Nat) (x0:(V0×V9)→Option Int) (x1:List V0):Option V7:=sr x0 x1
def gZ (S:V3→V3→Option V6):aO:={A:=V3×V3×Unit,B:=V3,f:=84,enc:=fun a=> [.bE,.sb 123 5 a.1,.v .str a.2.1],dec:=FV 123 5,S:=fun a=>S a.1 a.2.1,au:=fun b=> [.sb 123 5 b],ok:=Uk (t:=123) (e:=5)}
def cg (_:Nat) (x0 x1:List UInt8):Option V3:=if x0.length+x1.length≤140737488355328 then some (x0++x1) else none
def iV (S:V3→Option V6):aO:={A:=V3×Unit,B:=V3,f:=85,enc:=fun a=> [.bE,.sb 123 5 a.1],dec:=FU 123 5,S:=fun a=>S a.1,au:=fun b=> [.v .str b],ok:=Uj (t:=123) (e:=5)}
def dJ (_:Nat) (x0:List UInt8):Option V3:=some x0
def jL (S:V3→Int→Option (Int)):aO:={A:=V3×Int×Unit,B:=Int,f:=145,enc:=fun a=> [.v .str a.1,.v U0 a.2.1],dec:=(bc (bG .str) (bc (bG U0) bY)),S:=fun a=>S a.1 a.2.1,au:=fun b=> [.v U2 b],ok:=(fX (T:=.str) (fX (T:=U0) (fun es b h=>iW h)))}
def eX (_:Nat) (x0:List UInt8) (x1:Int):Option Int:=some (Go.Lib.indexByte x0 x1.toNat.toUInt8)
def gk (S:aI→a6→Option gz):aO:={A:=aI×a6×Unit,B:=aI×Int,f:=41,enc:=fun a=> [.loc bB (.pair .no (.pair .no (.pair .mp .no))) a.1,.v aX a.2.1],dec:=(bc (tj (.pair .no (.pair .no (.pair .mp .no))) bB) (bc (bG aX) bY)),S:=fun a=>S a.1 a.2.1,au:=fun b=> [.loc bB (.pair .no (.pair .no (.pair .mp .no))) b.1,.v U2 b.2],ok:=(N4 (o:=(.pair .no (.pair .no (.pair .mp .no)))) (T:=bB) (fX (T:=aX) (fun es b h=>iW h)))}
def j6 (S:aI→a6→Option jG):aO:={A:=aI×a6×Unit,B:=aI×V7,f:=42,enc:=fun a=> [.loc bB (.pair .no (.pair .no (.pair .mp .no))) a.1,.v aX a.2.1],dec:=(bc (tj (.pair .no (.pair .no (.pair .mp .no))) bB) (bc (bG aX) bY)),S:=fun a=>S a.1 a.2.1,au:=fun b=> [.loc bB (.pair .no (.pair .no (.pair .mp .no))) b.1,.own true 27 U5 .no b.2],ok:=(N4 (o:=(.pair .no (.pair .no (.pair .mp .no)))) (T:=bB) (fX (T:=aX) (fun es b h=>iW h)))}
def dv:lW:=fun f=>match f with
 | 43=>some (jv (eE 0)).fc
 | 84=>some (gZ (cg 0)).fc
 | 85=>some (iV (dJ 0)).fc
 | 145=>some (jL (eX 0)).fc
 | _=>none
def px:Nat→ay:=recC 41 d41 2000 (bz table dv 2000 4)
def dx:lW:=fun f=>match f with
 | 41=>some fun es=>(px 250).run 41 es
 | f=>dv f
def wJ:Nat→ay:=recC 42 d42 2000 (bz table dx 2000 4)
def kj:lW:=fun f=>match f with
 | 41=>some fun es=>(px 250).run 41 es
 | 42=>some fun es=>(wJ 250).run 42 es
 | f=>dv f
end Go.Fw.L19
