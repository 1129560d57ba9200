/- Own work. -/
import Derived.Test.YtooiookccchmeaaGreatFwLy13
import Derived.Test.YtooiookccchmeaaGreatFwB6
import Derived.Lib.Bytealg
import Derived.Test.YtooiookccchmeaaGreatFwB7
set_option linter.unusedVariables false
set_option linter.unusedSimpArgs false
namespace Go.Fw.L19
open Go Go.Fw
set_option maxRecDepth 100000
def jW (S:zS→V7→Option DY):aQ:={A:=zS×V7×Unit,B:=V7,f:=43,enc:=fun a=> [.bJ,.v (.fn zM U2) a.1,.own true 27 U5 .no a.2.1],dec:=Im 27 U5 zM U2,S:=fun a=>S a.1 a.2.1,av:=fun b=> [.own true 27 U5 .no b],ok:=XQ (e:=27) (T:=U5) (A:=zM) (C:=U2)}
def eV (_:Nat) (x0:zQ→Option Int) (x1:List V0):Option V7:=tT x0 x1
def jX (S:Int→Option mU):aQ:={A:=Int×Unit,B:=bm,f:=65,enc:=fun a=> [.dead,.v U2 a.1],dec:=(Io (ba (bL U2) ck)),S:=fun a=>S a.1,av:=fun b=> [.own true 43 aC .no b],ok:=(XS (gi (T:=U2) (fun es b h=>ir h)))}
def dW (_:Nat) (x0:Int):Option bm:=if 0≤x0∧x0≤(2513169434916:Int) then some [] else none
def iq (S:V4→V4→Option V6):aQ:={A:=V4×V4×Unit,B:=V4,f:=84,enc:=fun a=> [.bJ,.sb 123 5 a.1,.v .str a.2.1],dec:=Iq 123 5,S:=fun a=>S a.1 a.2.1,av:=fun b=> [.sb 123 5 b],ok:=XU (t:=123) (e:=5)}
def cF (_:Nat) (x0 x1:List UInt8):Option V4:=if x0.length+x1.length≤140737488355328 then some (x0++x1) else none
def jl (S:V4→Option V6):aQ:={A:=V4×Unit,B:=V4,f:=85,enc:=fun a=> [.bJ,.sb 123 5 a.1],dec:=Ip 123 5,S:=fun a=>S a.1,av:=fun b=> [.v .str b],ok:=XT (t:=123) (e:=5)}
def ee (_:Nat) (x0:List UInt8):Option V4:=some x0
def ko (S:V4→Int→Option (Int)):aQ:={A:=V4×Int×Unit,B:=Int,f:=145,enc:=fun a=> [.v .str a.1,.v U0 a.2.1],dec:=(ba (bL .str) (ba (bL U0) ck)),S:=fun a=>S a.1 a.2.1,av:=fun b=> [.v U2 b],ok:=(gi (T:=.str) (gi (T:=U0) (fun es b h=>ir h)))}
def fv (_:Nat) (x0:List UInt8) (x1:Int):Option Int:=some (Go.Lib.indexByte x0 x1.toNat.toUInt8)
def gG (S:aJ→a7→Option gQ):aQ:={A:=aJ×a7×Unit,B:=aJ×Int,f:=41,enc:=fun a=> [.loc bG (.pair .no (.pair .no (.pair .mp .no))) a.1,.v aZ a.2.1],dec:=(ba (u7 (.pair .no (.pair .no (.pair .mp .no))) bG) (ba (bL aZ) ck)),S:=fun a=>S a.1 a.2.1,av:=fun b=> [.loc bG (.pair .no (.pair .no (.pair .mp .no))) b.1,.v U2 b.2],ok:=(Rm (o:=(.pair .no (.pair .no (.pair .mp .no)))) (T:=bG) (gi (T:=aZ) (fun es b h=>ir h)))}
def kP (S:aJ→a7→Option kg):aQ:={A:=aJ×a7×Unit,B:=aJ×V7,f:=42,enc:=fun a=> [.loc bG (.pair .no (.pair .no (.pair .mp .no))) a.1,.v aZ a.2.1],dec:=(ba (u7 (.pair .no (.pair .no (.pair .mp .no))) bG) (ba (bL aZ) ck)),S:=fun a=>S a.1 a.2.1,av:=fun b=> [.loc bG (.pair .no (.pair .no (.pair .mp .no))) b.1,.own true 27 U5 .no b.2],ok:=(Rm (o:=(.pair .no (.pair .no (.pair .mp .no)))) (T:=bG) (gi (T:=aZ) (fun es b h=>ir h)))}
def dI:mO:=fun f=>match f with
 | 43=>some (jW (eV 0)).eY
 | 65=>some (jX (dW 0)).eY
 | 84=>some (iq (cF 0)).eY
 | 85=>some (jl (ee 0)).eY
 | 145=>some (ko (fv 0)).eY
 | _=>none
def qS:Nat→az:=recC 41 d41 2000 (bD table dI 2000 4)
def dP:mO:=fun f=>match f with
 | 41=>some fun es=>(qS 250).run 41 es
 | f=>dI f
def yY:Nat→az:=recC 42 d42 2000 (bD table dP 2000 4)
def k9:mO:=fun f=>match f with
 | 41=>some fun es=>(qS 250).run 41 es
 | 42=>some fun es=>(yY 250).run 42 es
 | f=>dI f
end Go.Fw.L19
