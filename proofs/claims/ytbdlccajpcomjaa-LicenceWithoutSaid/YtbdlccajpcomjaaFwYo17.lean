/- Own work. -/
import Derived.Test.YtbdlccajpcomjaaFwLo17
import Derived.Test.YtbdlccajpcomjaaFwB6
import Derived.Lib.Bytealg
import Derived.Lib.ItoaNum
set_option linter.unusedVariables false
set_option linter.unusedSimpArgs false
namespace Go.Fw.L19
open Go Go.Fw
set_option maxRecDepth 100000
def ctr47 (S:V11→Option V12):Ctr:={A:=V11×Unit,B:=V11,f:=47,enc:=fun a=> [.v U15 a.1],dec:=(decC (decV U15) dec0),S:=fun a=>S a.1,ent:=fun b=> [.own true 57 U13 .no b],ok:=(decV_cons (T:=U15) (fun es b h=>dec0_some h))}
def S47 (_:Nat) (x0:List V10):Option V11:=if x0.length≤3518437208883 then some x0 else none
def ctr48 (S:V4→Option V6):Ctr:={A:=V4×Unit,B:=V4,f:=48,enc:=fun a=> [.v U0 a.1],dec:=(decC (decV U0) dec0),S:=fun a=>S a.1,ent:=fun b=> [.own true 9 .str .no b],ok:=(decV_cons (T:=U0) (fun es b h=>dec0_some h))}
def S48 (_:Nat) (x0:List V1):Option V4:=if x0.length≤8796093022208 then some x0 else none
def ctr51 (S:V11→V14→Option V12):Ctr:={A:=V11×V14×Unit,B:=V11,f:=51,enc:=fun a=> [.und,.own true 57 U13 .no a.1,.v (.fn U16 .bool) a.2.1],dec:=decH 57 U13 U16 .bool,S:=fun a=>S a.1 a.2.1,ent:=fun b=> [.own true 57 U13 .no b],ok:=decH_some (e:=57) (T:=U13) (A:=U16) (C:=.bool)}
def S51 (_:Nat) (x0:List V10) (x1:(V10×Unit)→Option Bool):Option V11:=keepN x1 x0
def ctr86 (S:V1→Int→Option (Int)):Ctr:={A:=V1×Int×Unit,B:=Int,f:=86,enc:=fun a=> [.v .str a.1,.v U1 a.2.1],dec:=(decC (decV .str) (decC (decV U1) dec0)),S:=fun a=>S a.1 a.2.1,ent:=fun b=> [.v U2 b],ok:=(decV_cons (T:=.str) (decV_cons (T:=U1) (fun es b h=>dec0_some h)))}
def S86 (_:Nat) (x0:List UInt8) (x1:Int):Option Int:=some (Go.Lib.indexByte x0 x1.toNat.toUInt8)
def ctr7 (S:Option (Bool)):Ctr:={A:=Unit,B:=Bool,f:=7,enc:=fun a=> [],dec:=dec0,S:=fun a=>S,ent:=fun b=> [.v .bool b],ok:=(fun es b h=>dec0_some h)}
def S7 (_:Nat):Option Bool:=some true
def ctr30 (S:Int→Option V3):Ctr:={A:=Int×Unit,B:=V1,f:=30,enc:=fun a=> [.v U2 a.1],dec:=(decC (decV U2) dec0),S:=fun a=>S a.1,ent:=fun b=> [.v .str b],ok:=(decV_cons (T:=U2) (fun es b h=>dec0_some h))}
def prims:Prims:=fun f=>match f with
 | 47=>some (ctr47 (S47 0)).prim
 | 48=>some (ctr48 (S48 0)).prim
 | 51=>some (ctr51 (S51 0)).prim
 | 86=>some (ctr86 (S86 0)).prim
 | _=>none
end Go.Fw.L19
