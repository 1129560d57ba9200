/- Own work. -/
import Derived.Test.YtbdlccajpcomjaaDoorFwLk17
import Derived.Test.YtbdlccajpcomjaaDoorFwB4
import Derived.Lib.Bytealg
import Derived.Lib.ItoaNum
set_option linter.unusedVariables false
set_option linter.unusedSimpArgs false
namespace Go.Fw.L19
open Go Go.Fw
set_option maxRecDepth 100000
def ctr30 (S:V1→V1→Option V5):Ctr:={A:=V1×V1×Unit,B:=V1,f:=30,enc:=fun a=> [.und,.sb 66 5 a.1,.v .str a.2.1],dec:=decSW 66 5,S:=fun a=>S a.1 a.2.1,ent:=fun b=> [.sb 66 5 b],ok:=decSW_some (t:=66) (e:=5)}
def S30 (_:Nat) (x0 x1:List UInt8):Option V1:=if x0.length+x1.length≤140737488355328 then some (x0++x1) else none
def ctr32 (S:Int→Option V5):Ctr:={A:=Int×Unit,B:=V1,f:=32,enc:=fun a=> [.v U2 a.1],dec:=(decC (decV U2) dec0),S:=fun a=>S a.1,ent:=fun b=> [.v .str b],ok:=(decV_cons (T:=U2) (fun es b h=>dec0_some h))}
def S32 (_:Nat) (x0:Int):Option V1:=some (Go.Lib.itoa x0)
def ctr33 (S:V1→Option V5):Ctr:={A:=V1×Unit,B:=V1,f:=33,enc:=fun a=> [.und,.sb 66 5 a.1],dec:=decSS 66 5,S:=fun a=>S a.1,ent:=fun b=> [.v .str b],ok:=decSS_some (t:=66) (e:=5)}
def S33 (_:Nat) (x0:List UInt8):Option V1:=if x0=[] then none else some x0
def ctr35 (S:V17→Option (V17)):Ctr:={A:=V17×Unit,B:=V17,f:=35,enc:=fun a=> [.v U15 a.1],dec:=(decC (decV U15) dec0),S:=fun a=>S a.1,ent:=fun b=> [.own true 51 U14 .no b],ok:=(decV_cons (T:=U15) (fun es b h=>dec0_some h))}
def S35 (_:Nat) (x0:List V15):Option V17:=if x0.length≤3518437208883 then some x0 else none
def ctr36 (S:V6→Option V8):Ctr:={A:=V6×Unit,B:=V6,f:=36,enc:=fun a=> [.v U1 a.1],dec:=(decC (decV U1) dec0),S:=fun a=>S a.1,ent:=fun b=> [.own true 9 .str .no b],ok:=(decV_cons (T:=U1) (fun es b h=>dec0_some h))}
def S36 (_:Nat) (x0:List V1):Option V6:=if x0.length≤8796093022208 then some x0 else none
def ctr78 (S:V1→Int→Option (Int)):Ctr:={A:=V1×Int×Unit,B:=Int,f:=78,enc:=fun a=> [.v .str a.1,.v U0 a.2.1],dec:=(decC (decV .str) (decC (decV U0) dec0)),S:=fun a=>S a.1 a.2.1,ent:=fun b=> [.v U2 b],ok:=(decV_cons (T:=.str) (decV_cons (T:=U0) (fun es b h=>dec0_some h)))}
def S78 (_:Nat) (x0:List UInt8) (x1:Int):Option Int:=some (Go.Lib.indexByte x0 x1.toNat.toUInt8)
def ctr5 (S:Option (Bool)):Ctr:={A:=Unit,B:=Bool,f:=5,enc:=fun a=> [],dec:=dec0,S:=fun a=>S,ent:=fun b=> [.v .bool b],ok:=(fun es b h=>dec0_some h)}
def S5 (_:Nat):Option Bool:=some true
def ctr37 (S:Int→Option V5):Ctr:={A:=Int×Unit,B:=V1,f:=37,enc:=fun a=> [.v U2 a.1],dec:=(decC (decV U2) dec0),S:=fun a=>S a.1,ent:=fun b=> [.v .str b],ok:=(decV_cons (T:=U2) (fun es b h=>dec0_some h))}
def prims:Prims:=fun f=>match f with
 | 30=>some (ctr30 (S30 0)).prim
 | 32=>some (ctr32 (S32 0)).prim
 | 33=>some (ctr33 (S33 0)).prim
 | 35=>some (ctr35 (S35 0)).prim
 | 36=>some (ctr36 (S36 0)).prim
 | 78=>some (ctr78 (S78 0)).prim
 | _=>none
end Go.Fw.L19
