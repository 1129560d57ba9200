/- Printed by an own program for this claim: the machine's code of functions, or their typed forms with their equations; no conditions. -/
import Derived.Test.YtbdlccajpcomjaaFwLs17
import Derived.Test.YtbdlccajpcomjaaFwB4
import Derived.Lib.Bytealg
set_option linter.unusedVariables false
set_option linter.unusedSimpArgs false
namespace Go.Fw.L19
open Go Go.Fw
set_option maxRecDepth 100000
set_option linter.unusedVariables false
def ctr47 (S:V17→Option (V17)):Ctr:={A:=V17×Unit,B:=V17,f:=47,enc:=fun a=> [.v U15 a.1],dec:=(decC (decV U15) dec0),S:=fun a=>S a.1,ent:=fun b=> [.own true 57 U13 .no b],ok:=(decV_cons (T:=U15) (fun es b h=>dec0_some h))}
def S47 (_:Nat) (x0:List V15):Option V17:=if x0.length≤3518437208883 then some x0 else none
def ctr48 (S:V6→Option V8):Ctr:={A:=V6×Unit,B:=V6,f:=48,enc:=fun a=> [.v U0 a.1],dec:=(decC (decV U0) dec0),S:=fun a=>S a.1,ent:=fun b=> [.own true 9 .str .no b],ok:=(decV_cons (T:=U0) (fun es b h=>dec0_some h))}
def S48 (_:Nat) (x0:List V1):Option V6:=if x0.length≤8796093022208 then some x0 else none
def ctr86 (S:V1→Int→Option (Int)):Ctr:={A:=V1×Int×Unit,B:=Int,f:=86,enc:=fun a=> [.v .str a.1,.v U1 a.2.1],dec:=(decC (decV .str) (decC (decV U1) dec0)),S:=fun a=>S a.1 a.2.1,ent:=fun b=> [.v U2 b],ok:=(decV_cons (T:=.str) (decV_cons (T:=U1) (fun es b h=>dec0_some h)))}
def S86 (_:Nat) (x0:List UInt8) (x1:Int):Option Int:=some (Go.Lib.indexByte x0 x1.toNat.toUInt8)
def ctr7 (S:Option (Bool)):Ctr:={A:=Unit,B:=Bool,f:=7,enc:=fun a=> [],dec:=dec0,S:=fun a=>S,ent:=fun b=> [.v .bool b],ok:=(fun es b h=>dec0_some h)}
def S7 (_:Nat):Option Bool:=some true
def ctr30 (S:Int→Option V5):Ctr:={A:=Int×Unit,B:=V1,f:=30,enc:=fun a=> [.v U2 a.1],dec:=(decC (decV U2) dec0),S:=fun a=>S a.1,ent:=fun b=> [.v .str b],ok:=(decV_cons (T:=U2) (fun es b h=>dec0_some h))}
def prims0:Prims:=fun f=>match f with
 | 47=>some (ctr47 (S47 0)).prim
 | 48=>some (ctr48 (S48 0)).prim
 | 86=>some (ctr86 (S86 0)).prim
 | _=>none
def rc30:Nat→Cal:=recC 30 d30 30000 (acall table prims0 30000 1)
def prims:Prims:=fun f=>match f with
 | 30=>some fun es=>(rc30 250).run 30 es
 | f=>prims0 f
end Go.Fw.L19
