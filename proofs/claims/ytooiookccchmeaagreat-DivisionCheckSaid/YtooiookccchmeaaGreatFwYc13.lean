/- Own work. -/
import Derived.Test.YtooiookccchmeaaGreatFwLc13
import Derived.Test.YtooiookccchmeaaGreatFwB6
import Derived.Lib.Bytealg
import Derived.Test.YtooiookccchmeaaGreatFwB7
set_option linter.unusedVariables false
set_option linter.unusedSimpArgs false
namespace Go.Fw.L19
open Go Go.Fw
set_option maxRecDepth 100000
def jV (S:Aj→V7→Option EA):aN:={A:=Aj×V7×Unit,B:=V7,f:=43,enc:=fun a=> [.bJ,.v (.fn Af U2) a.1,.own true 27 U5 .no a.2.1],dec:=Jo 27 U5 Af U2,S:=fun a=>S a.1 a.2.1,aw:=fun b=> [.own true 27 U5 .no b],ok:=Y1 (e:=27) (T:=U5) (A:=Af) (C:=U2)}
def eQ (_:Nat) (x0:(V0×V9)→Option Int) (x1:List V0):Option V7:=tM x0 x1
def iE (S:V3→V3→Option V6):aN:={A:=V3×V3×Unit,B:=V3,f:=84,enc:=fun a=> [.bJ,.sb 123 5 a.1,.v .str a.2.1],dec:=Jq 123 5,S:=fun a=>S a.1 a.2.1,aw:=fun b=> [.sb 123 5 b],ok:=Y4 (t:=123) (e:=5)}
def cH (_:Nat) (x0 x1:List UInt8):Option V3:=if x0.length+x1.length≤140737488355328 then some (x0++x1) else none
def ju (S:V3→Option V6):aN:={A:=V3×Unit,B:=V3,f:=85,enc:=fun a=> [.bJ,.sb 123 5 a.1],dec:=Jp 123 5,S:=fun a=>S a.1,aw:=fun b=> [.v .str b],ok:=Y3 (t:=123) (e:=5)}
def eg (_:Nat) (x0:List UInt8):Option V3:=some x0
def kh (S:V3→Int→Option (Int)):aN:={A:=V3×Int×Unit,B:=Int,f:=145,enc:=fun a=> [.v .str a.1,.v U0 a.2.1],dec:=(bj (bM .str) (bj (bM U0) cz)),S:=fun a=>S a.1 a.2.1,aw:=fun b=> [.v U2 b],ok:=(gz (T:=.str) (gz (T:=U0) (fun es b h=>jv h)))}
def fo (_:Nat) (x0:List UInt8) (x1:Int):Option Int:=some (Go.Lib.indexByte x0 x1.toNat.toUInt8)
def gI (S:aI→a8→Option gU):aN:={A:=aI×a8×Unit,B:=aI×Int,f:=41,enc:=fun a=> [.loc bG (.pair .no (.pair .no (.pair .mp .no))) a.1,.v a6 a.2.1],dec:=(bj (uP (.pair .no (.pair .no (.pair .mp .no))) bG) (bj (bM a6) cz)),S:=fun a=>S a.1 a.2.1,aw:=fun b=> [.loc bG (.pair .no (.pair .no (.pair .mp .no))) b.1,.v U2 b.2],ok:=(Sy (o:=(.pair .no (.pair .no (.pair .mp .no)))) (T:=bG) (gz (T:=a6) (fun es b h=>jv h)))}
def kL (S:aI→a8→Option ka):aN:={A:=aI×a8×Unit,B:=aI×V7,f:=42,enc:=fun a=> [.loc bG (.pair .no (.pair .no (.pair .mp .no))) a.1,.v a6 a.2.1],dec:=(bj (uP (.pair .no (.pair .no (.pair .mp .no))) bG) (bj (bM a6) cz)),S:=fun a=>S a.1 a.2.1,aw:=fun b=> [.loc bG (.pair .no (.pair .no (.pair .mp .no))) b.1,.own true 27 U5 .no b.2],ok:=(Sy (o:=(.pair .no (.pair .no (.pair .mp .no)))) (T:=bG) (gz (T:=a6) (fun es b h=>jv h)))}
def dK:mK:=fun f=>match f with
 | 43=>some (jV (eQ 0)).fu
 | 84=>some (iE (cH 0)).fu
 | 85=>some (ju (eg 0)).fu
 | 145=>some (kh (fo 0)).fu
 | _=>none
def qp:Nat→aA:=recC 41 d41 2000 (bE table dK 2000 4)
def dO:mK:=fun f=>match f with
 | 41=>some fun es=>(qp 250).run 41 es
 | f=>dK f
def zA:Nat→aA:=recC 42 d42 2000 (bE table dO 2000 4)
def kV:mK:=fun f=>match f with
 | 41=>some fun es=>(qp 250).run 41 es
 | 42=>some fun es=>(zA 250).run 42 es
 | f=>dK f
end Go.Fw.L19
