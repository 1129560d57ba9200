/- Own work. -/
import Derived.Test.YtooiookccchmeaaGreatFwLs13
import Derived.Test.YtooiookccchmeaaGreatFwB6
import Derived.Lib.Bytealg
import Derived.Test.YtooiookccchmeaaGreatFwB7
set_option linter.unusedVariables false
set_option linter.unusedSimpArgs false
namespace Go.Fw.L19
open Go Go.Fw
set_option maxRecDepth 100000
def jh (S:wX→V7→Option BD):aJ:={A:=wX×V7×Unit,B:=V7,f:=43,enc:=fun a=> [.bB,.v (.fn wT U2) a.1,.own true 27 U5 .no a.2.1],dec:=F7 27 U5 wT U2,S:=fun a=>S a.1 a.2.1,aq:=fun b=> [.own true 27 U5 .no b],ok:=Wo (e:=27) (T:=U5) (A:=wT) (C:=U2)}
def eJ (_:Nat) (x0:(V0×V9)→Option Int) (x1:List V0):Option V7:=Bb x0 x1
def gN (S:V3→V3→Option V6):aJ:={A:=V3×V3×Unit,B:=V3,f:=84,enc:=fun a=> [.bB,.sb 123 5 a.1,.v .str a.2.1],dec:=F9 123 5,S:=fun a=>S a.1 a.2.1,aq:=fun b=> [.sb 123 5 b],ok:=Wr (t:=123) (e:=5)}
def ct (_:Nat) (x0 x1:List UInt8):Option V3:=if x0.length+x1.length≤140737488355328 then some (x0++x1) else none
def iI (S:V3→Option V6):aJ:={A:=V3×Unit,B:=V3,f:=85,enc:=fun a=> [.bB,.sb 123 5 a.1],dec:=F8 123 5,S:=fun a=>S a.1,aq:=fun b=> [.v .str b],ok:=Wq (t:=123) (e:=5)}
def dH (_:Nat) (x0:List UInt8):Option V3:=some x0
def jB (S:V3→Int→Option (Int)):aJ:={A:=V3×Int×Unit,B:=Int,f:=145,enc:=fun a=> [.v .str a.1,.v U0 a.2.1],dec:=(a7 (bC .str) (a7 (bC U0) b9)),S:=fun a=>S a.1 a.2.1,aq:=fun b=> [.v U2 b],ok:=(fP (T:=.str) (fP (T:=U0) (fun es b h=>iJ h)))}
def eR (_:Nat) (x0:List UInt8) (x1:Int):Option Int:=some (Go.Lib.indexByte x0 x1.toNat.toUInt8)
def fU (S:aF→aY→Option fZ):aJ:={A:=aF×aY×Unit,B:=aF×Int,f:=41,enc:=fun a=> [.loc bw (.pair .no (.pair .no (.pair .mp .no))) a.1,.v aU a.2.1],dec:=(a7 (sX (.pair .no (.pair .no (.pair .mp .no))) bw) (a7 (bC aU) b9)),S:=fun a=>S a.1 a.2.1,aq:=fun b=> [.loc bw (.pair .no (.pair .no (.pair .mp .no))) b.1,.v U2 b.2],ok:=(OY (o:=(.pair .no (.pair .no (.pair .mp .no)))) (T:=bw) (fP (T:=aU) (fun es b h=>iJ h)))}
def jU (S:aF→aY→Option jw):aJ:={A:=aF×aY×Unit,B:=aF×V7,f:=42,enc:=fun a=> [.loc bw (.pair .no (.pair .no (.pair .mp .no))) a.1,.v aU a.2.1],dec:=(a7 (sX (.pair .no (.pair .no (.pair .mp .no))) bw) (a7 (bC aU) b9)),S:=fun a=>S a.1 a.2.1,aq:=fun b=> [.loc bw (.pair .no (.pair .no (.pair .mp .no))) b.1,.own true 27 U5 .no b.2],ok:=(OY (o:=(.pair .no (.pair .no (.pair .mp .no)))) (T:=bw) (fP (T:=aU) (fun es b h=>iJ h)))}
def db:lU:=fun f=>match f with
 | 43=>some (jh (eJ 0)).eV
 | 84=>some (gN (ct 0)).eV
 | 85=>some (iI (dH 0)).eV
 | 145=>some (jB (eR 0)).eV
 | _=>none
def pk:Nat→az:=recC 41 d41 2000 (bt table db 2000 4)
def dh:lU:=fun f=>match f with
 | 41=>some fun es=>(pk 250).run 41 es
 | f=>db f
def wj:Nat→az:=recC 42 d42 2000 (bt table dh 2000 4)
def j8:lU:=fun f=>match f with
 | 41=>some fun es=>(pk 250).run 41 es
 | 42=>some fun es=>(wj 250).run 42 es
 | f=>db f
end Go.Fw.L19
