/- Own work. -/
import Derived.Test.YtooiookccchmeaaGreatFwLx13
import Derived.Test.YtooiookccchmeaaGreatFwB6
import Derived.Lib.Bytealg
import Derived.Test.YtooiookccchmeaaGreatFwB7
set_option linter.unusedVariables false
set_option linter.unusedSimpArgs false
namespace Go.Fw.L19
open Go Go.Fw
set_option maxRecDepth 100000
def jU (S:zq→V7→Option Dx):aO:={A:=zq×V7×Unit,B:=V7,f:=43,enc:=fun a=> [.bF,.v (.fn zk U2) a.1,.own true 27 U5 .no a.2.1],dec:=HQ 27 U5 zk U2,S:=fun a=>S a.1 a.2.1,av:=fun b=> [.own true 27 U5 .no b],ok:=Xp (e:=27) (T:=U5) (A:=zk) (C:=U2)}
def eX (_:Nat) (x0:zo→Option Int) (x1:List V0):Option V7:=tD x0 x1
def lx (S:Int→Option (b7)):aO:={A:=Int×Unit,B:=b7,f:=65,enc:=fun a=> [.dead,.v U2 a.1],dec:=(HR (bg (bG U2) cj)),S:=fun a=>S a.1,av:=fun b=> [.own true 43 aD .no b],ok:=(Xr (gi (T:=U2) (fun es b h=>iq h)))}
def lp (_:Nat) (x0:Int):Option b7:=if 0≤x0∧x0≤(2513169434916:Int) then some [] else none
def im (S:V4→V4→Option V6):aO:={A:=V4×V4×Unit,B:=V4,f:=84,enc:=fun a=> [.bF,.sb 123 5 a.1,.v .str a.2.1],dec:=HT 123 5,S:=fun a=>S a.1 a.2.1,av:=fun b=> [.sb 123 5 b],ok:=Xt (t:=123) (e:=5)}
def cG (_:Nat) (x0 x1:List UInt8):Option V4:=if x0.length+x1.length≤140737488355328 then some (x0++x1) else none
def jj (S:V4→Option V6):aO:={A:=V4×Unit,B:=V4,f:=85,enc:=fun a=> [.bF,.sb 123 5 a.1],dec:=HS 123 5,S:=fun a=>S a.1,av:=fun b=> [.v .str b],ok:=Xs (t:=123) (e:=5)}
def ej (_:Nat) (x0:List UInt8):Option V4:=some x0
def ko (S:V4→Int→Option (Int)):aO:={A:=V4×Int×Unit,B:=Int,f:=145,enc:=fun a=> [.v .str a.1,.v U0 a.2.1],dec:=(bg (bG .str) (bg (bG U0) cj)),S:=fun a=>S a.1 a.2.1,av:=fun b=> [.v U2 b],ok:=(gi (T:=.str) (gi (T:=U0) (fun es b h=>iq h)))}
def fB (_:Nat) (x0:List UInt8) (x1:Int):Option Int:=some (Go.Lib.indexByte x0 x1.toNat.toUInt8)
def gG (S:aI→a8→Option gQ):aO:={A:=aI×a8×Unit,B:=aI×Int,f:=41,enc:=fun a=> [.loc bC (.pair .no (.pair .no (.pair .mp .no))) a.1,.v a6 a.2.1],dec:=(bg (uJ (.pair .no (.pair .no (.pair .mp .no))) bC) (bg (bG a6) cj)),S:=fun a=>S a.1 a.2.1,av:=fun b=> [.loc bC (.pair .no (.pair .no (.pair .mp .no))) b.1,.v U2 b.2],ok:=(QM (o:=(.pair .no (.pair .no (.pair .mp .no)))) (T:=bC) (gi (T:=a6) (fun es b h=>iq h)))}
def kO (S:aI→a8→Option kg):aO:={A:=aI×a8×Unit,B:=aI×V7,f:=42,enc:=fun a=> [.loc bC (.pair .no (.pair .no (.pair .mp .no))) a.1,.v a6 a.2.1],dec:=(bg (uJ (.pair .no (.pair .no (.pair .mp .no))) bC) (bg (bG a6) cj)),S:=fun a=>S a.1 a.2.1,av:=fun b=> [.loc bC (.pair .no (.pair .no (.pair .mp .no))) b.1,.own true 27 U5 .no b.2],ok:=(QM (o:=(.pair .no (.pair .no (.pair .mp .no)))) (T:=bC) (gi (T:=a6) (fun es b h=>iq h)))}
def dH:mP:=fun f=>match f with
 | 43=>some (jU (eX 0)).fa
 | 65=>some (lx (lp 0)).fa
 | 84=>some (im (cG 0)).fa
 | 85=>some (jj (ej 0)).fa
 | 145=>some (ko (fB 0)).fa
 | _=>none
def qJ:Nat→az:=recC 41 d41 2000 (bz table dH 2000 4)
def dN:mP:=fun f=>match f with
 | 41=>some fun es=>(qJ 250).run 41 es
 | f=>dH f
def yC:Nat→az:=recC 42 d42 2000 (bz table dN 2000 4)
def kW:mP:=fun f=>match f with
 | 41=>some fun es=>(qJ 250).run 41 es
 | 42=>some fun es=>(yC 250).run 42 es
 | f=>dH f
end Go.Fw.L19
