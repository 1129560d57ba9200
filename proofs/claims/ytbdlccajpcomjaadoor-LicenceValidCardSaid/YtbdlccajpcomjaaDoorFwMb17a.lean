/- Own work. -/
import Derived.Test.YtbdlccajpcomjaaDoorFwYb17
import Derived.Test.YtbdlccajpcomjaaDoorFwB4
set_option linter.unusedVariables false
set_option linter.unusedSimpArgs false
open Option renaming bind_some → ah
namespace Go.Fw.L19
open Go Go.Fw
set_option maxRecDepth 100000
abbrev cw (f:FuncId) (T0:Ty) {B:Type} (S:den T0→Option B) (ag:B→List E):a7:={A:=den T0×Unit,B:=B,f:=f,enc:=fun a=> [.v T0 a.1],dec:=(bZ (cO T0) dZ),S:=fun a=>S a.1,ag:=ag,ok:=(gX (T:=T0) (fun es b h=>iv h))}
abbrev jK (f:FuncId) (T0 T1:Ty) {B:Type} (S:den T0→den T1→Option B) (ag:B→List E):a7:={A:=den T0×den T1×Unit,B:=B,f:=f,enc:=fun a=> [.v T0 a.1,.v T1 a.2.1],dec:=(bZ (cO T0) (bZ (cO T1) dZ)),S:=fun a=>S a.1 a.2.1,ag:=ag,ok:=(gX (T:=T0) (gX (T:=T1) (fun es b h=>iv h)))}
abbrev cv4 (f:FuncId) (T0 T1 T2 T3:Ty) {B:Type} (S:den T0→den T1→den T2→den T3→Option B) (ag:B→List E):a7:={A:=den T0×den T1×den T2×den T3×Unit,B:=B,f:=f,enc:=fun a=> [.v T0 a.1,.v T1 a.2.1,.v T2 a.2.2.1,.v T3 a.2.2.2.1],dec:=(bZ (cO T0) (bZ (cO T1) (bZ (cO T2) (bZ (cO T3) dZ)))),S:=fun a=>S a.1 a.2.1 a.2.2.1 a.2.2.2.1,ag:=ag,ok:=(gX (T:=T0) (gX (T:=T1) (gX (T:=T2) (gX (T:=T3) (fun es b h=>iv h)))))}
abbrev e0:=fun x0 x1=>([(0,.v U0 x0),(1,.v U2 x1)]:Env)
abbrev e1:=fun x0 x1 x2 x3=>([(0,.v U0 x0),(1,.v U2 x1),(5,.v U2 x2),(6,.v U2 x3)]:Env)
abbrev e2:=fun x0 x1 x2 x3 x4=>([(0,.v U0 x0),(1,.v U2 x1),(5,.v U2 x2),(6,.v U2 x3),(15,.v .bool x4)]:Env)
abbrev e3:=fun x0 x1=>([(1,.loc af .no x0),(3,.v U2 x1)]:Env)
abbrev e4:=fun x0 x1 x2=>([(1,.loc af .no x0),(3,.v U2 x1),(4,.v U2 x2)]:Env)
abbrev e5:=fun x0 x1 x2 x3=>([(1,.loc af .no x0),(3,.v U2 x1),(4,.v U2 x2),(16,.v .bool x3)]:Env)
abbrev e6:=fun x0 x1=>([(1,.loc af (.pair .no (.pair (.own true 51 .no) .no)) x0),(2,.loc af (.pair .no (.pair (.own true 51 .no) .no)) x1)]:Env)
abbrev e7:=fun x0 x1 x2 x3=>([(1,.loc af (.pair .no (.pair (.own true 51 .no) .no)) x0),(2,.loc af (.pair .no (.pair (.own true 51 .no) .no)) x1),(10,.v U2 x2),(11,.v U2 x3)]:Env)
abbrev e8:=fun x0 x1 x2 x3 x4=>([(1,.loc af (.pair .no (.pair (.own true 51 .no) .no)) x0),(2,.loc af (.pair .no (.pair (.own true 51 .no) .no)) x1),(10,.v U2 x2),(11,.v U2 x3),(12,.v .bool x4)]:Env)
abbrev e9:=fun x0 x1=>([(0,.v .str x0),(12,.v .bool x1)]:Env)
abbrev kc:=fun x0=>([(0,.dead),(2,.v U2 x0)]:Env)
abbrev ke:=fun x0=>([(0,.v .str x0),(2,.dead)]:Env)
abbrev aR:=fun x0 x1=>([(0,.v .str x0),(3,.v U2 x1)]:Env)
abbrev Oh:=fun x0 x1 x2=>([(0,.v .str x0),(3,.v U2 x1),(16,.v .bool x2)]:Env)
abbrev Fj:=fun x0 x1 x2 x3=>([(0,.v .str x0),(3,.v U2 x1),(4,.v U1 x2),(21,.v .bool x3)]:Env)
abbrev gM:=fun x0 x1=>([(0,.v .str x0),(2,.dead),(3,.v U2 x1)]:Env)
abbrev rE:=fun x0 x1 x2=>([(0,.v .str x0),(3,.v U2 x1),(30,.v .bool x2)]:Env)
abbrev fi:=fun x0=>([(0,.dead),(2,.v U2 x0),(3,.dead)]:Env)
abbrev kj:=fun x0=>([(2,.v U2 x0),(3,.dead)]:Env)
abbrev mo:=fun x0=>([(2,.dead),(3,.v U2 x0)]:Env)
abbrev o4:=fun x0 x1=>([(0,.v U3 x0),(1,.v U8 x1)]:Env)
abbrev ji:=fun x0 x1 x2 x3=>([(0,.v U3 x0),(1,.v U8 x1),(7,.v U2 x2),(8,.v U2 x3)]:Env)
abbrev OC:=fun x0 x1 x2 x3 x4=>([(0,.v U3 x0),(1,.v U8 x1),(7,.v U2 x2),(8,.v U2 x3),(9,.v .bool x4)]:Env)
abbrev FW:=fun x0 x1 x2 x3 x4 x5=>([(0,.v U3 x0),(1,.v U8 x1),(5,.v U2 x2),(7,.v U2 x3),(8,.v U2 x4),(16,.v .bool x5)]:Env)
abbrev kl:=fun x0=>([(0,.dead),(1,.dead),(4,.v U2 x0),(7,.dead),(8,.dead)]:Env)
abbrev F5:=fun x0 x1 x2 x3=>([(0,.v U3 x0),(1,.v U8 x1),(4,.dead),(7,.v U2 x2),(8,.v U2 x3)]:Env)
abbrev gO:=fun x0 x1=>([(0,.v U0 x0),(1,.v .str x1)]:Env)
abbrev Gh:=fun x0 x1 x2 x3=>([(0,.v U0 x0),(1,.v .str x1),(12,.v U2 x2),(13,.v .bool x3)]:Env)
abbrev o5:=fun x0=>([(0,.dead),(1,.dead),(4,.v .str x0)]:Env)
abbrev Gs:=fun x0 x1 x2=>([(0,.v U0 x0),(1,.v .str x1),(15,.v .bool x2)]:Env)
abbrev Gw:=fun x0 x1=>([(0,.v U0 x0),(1,.v .str x1),(4,.dead)]:Env)
abbrev eF:=fun x0 x1 x2=>([(0,.v U0 x0),(1,.v .str x1),(5,.v U2 x2)]:Env)
abbrev GF:=fun x0 x1 x2 x3=>([(0,.v U0 x0),(1,.v .str x1),(5,.v U2 x2),(22,.v .bool x3)]:Env)
abbrev GG:=fun x0 x1 x2 x3=>([(0,.v U0 x0),(1,.v .str x1),(5,.v U2 x2),(29,.v .bool x3)]:Env)
abbrev hZ:=fun x0 x1 x2 x3 x4 x5=>([(0,.v U0 x0),(1,.v .str x1),(5,.v U2 x2),(39,.v U0 x3),(40,.v U2 x4),(41,.v U2 x5)]:Env)
abbrev OY:=fun x0 x1 x2 x3 x4 x5 x6=>([(0,.v U0 x0),(1,.v .str x1),(5,.v U2 x2),(39,.v U0 x3),(40,.v U2 x4),(41,.v U2 x5),(42,.v .bool x6)]:Env)
abbrev GH:=fun x0 x1 x2 x3 x4 x5 x6=>([(0,.v U0 x0),(1,.v .str x1),(5,.v U2 x2),(7,.v .str x3),(39,.v U0 x4),(40,.v U2 x5),(41,.v U2 x6)]:Env)
abbrev GI:=fun x0 x1 x2 x3 x4 x5 x6 x7=>([(0,.v U0 x0),(1,.v .str x1),(5,.v U2 x2),(7,.v .str x3),(39,.v U0 x4),(40,.v U2 x5),(41,.v U2 x6),(49,.v .bool x7)]:Env)
abbrev jm:=fun x0 x1 x2 x3=>([(0,.v U0 x0),(7,.v U0 x1),(8,.v U2 x2),(9,.v U2 x3)]:Env)
abbrev OZ:=fun x0 x1 x2 x3 x4=>([(0,.v U0 x0),(7,.v U0 x1),(8,.v U2 x2),(9,.v U2 x3),(10,.v .bool x4)]:Env)
abbrev GJ:=fun x0 x1 x2 x3 x4 x5=>([(0,.v U0 x0),(5,.v .str x1),(7,.v U0 x2),(8,.v U2 x3),(9,.v U2 x4),(14,.v .bool x5)]:Env)
abbrev fb:=fun x0 x1=>([(2,.v .str x0),(3,.v U2 x1)]:Env)
abbrev e42:=fun x0 x1=>([(0,.dead),(2,.v .str x0),(3,.v U2 x1),(5,.dead),(7,.dead),(8,.dead),(9,.dead)]:Env)
abbrev e43:=fun x0 x1 x2 x3 x4=>([(0,.v U0 x0),(2,.dead),(3,.dead),(5,.v .str x1),(7,.v U0 x2),(8,.v U2 x3),(9,.v U2 x4)]:Env)
abbrev GK:=fun x0 x1 x2 x3 x4=>([(0,.v U0 x0),(7,.v U0 x1),(8,.v U2 x2),(9,.v U2 x3),(17,.v .bool x4)]:Env)
abbrev rH:=fun x0 x1=>([(0,.dead),(2,.v .str x0),(3,.v U2 x1),(7,.dead),(8,.dead),(9,.dead)]:Env)
abbrev GL:=fun x0 x1 x2 x3=>([(0,.v U0 x0),(2,.dead),(3,.dead),(7,.v U0 x1),(8,.v U2 x2),(9,.v U2 x3)]:Env)
abbrev tM:=fun x0 x1=>([(0,.dead),(2,.v .str x0),(3,.v U2 x1)]:Env)
abbrev wq:=fun x0=>([(0,.v U0 x0),(2,.dead),(3,.dead)]:Env)
abbrev GM:=fun x0 x1=>([(6,.v .str x0),(23,.v .bool x1)]:Env)
abbrev O0:=fun x0 x1=>([(2,.v .str x0),(3,.v U2 x1),(6,.dead)]:Env)
abbrev rI:=fun x0=>([(3,.own true 4294967295 U1 .no x0)]:Env)
abbrev gA:=fun x0 x1 x2=>([(3,.own true 4294967295 U1 .no x0),(8,.ref 3 []),(9,.v U2 x1),(10,.v U2 x2)]:Env)
abbrev O1:=fun x0 x1 x2 x3=>([(3,.own true 4294967295 U1 .no x0),(8,.ref 3 []),(9,.v U2 x1),(10,.v U2 x2),(11,.v .bool x3)]:Env)
abbrev GN:=fun x0 x1 x2 x3 x4 x5=>([(3,.own true 4294967295 U1 .no x0),(4,.v U2 x1),(5,.v U1 x2),(8,.ref 3 []),(9,.v U2 x3),(10,.v U2 x4),(20,.v .bool x5)]:Env)
abbrev GO:=fun x0 x1=>([(0,.v .str x0),(7,.v .bool x1)]:Env)
abbrev jn:=fun x0 x1 x2 x3=>([(0,.v U0 x0),(1,.v .str x1),(7,.v U2 x2),(8,.v U2 x3)]:Env)
abbrev O2:=fun x0 x1 x2 x3 x4=>([(0,.v U0 x0),(1,.v .str x1),(7,.v U2 x2),(8,.v U2 x3),(9,.v .bool x4)]:Env)
abbrev GP:=fun x0 x1 x2 x3 x4 x5=>([(0,.v U0 x0),(1,.v .str x1),(5,.v U2 x2),(7,.v U2 x3),(8,.v U2 x4),(16,.v .bool x5)]:Env)
abbrev GQ:=fun x0 x1 x2 x3=>([(0,.v U0 x0),(1,.v .str x1),(4,.dead),(7,.v U2 x2),(8,.v U2 x3)]:Env)
abbrev GR:=fun x0 x1=>([(1,.loc aw .no x0),(6,.v .bool x1)]:Env)
abbrev ia:=fun x0=>([(1,.dead),(2,.v U2 x0)]:Env)
abbrev GS:=fun x0 x1=>([(1,.loc aw .no x0),(25,.v .bool x1)]:Env)
abbrev o8:=fun x0=>([(1,.loc aw .no x0),(2,.dead)]:Env)
abbrev jo:=fun x0 x1 x2 x3=>([(1,.loc aw .no x0),(31,.v U0 x1),(32,.v U2 x2),(33,.v U2 x3)]:Env)
abbrev O3:=fun x0 x1 x2 x3 x4=>([(1,.loc aw .no x0),(31,.v U0 x1),(32,.v U2 x2),(33,.v U2 x3),(34,.v .bool x4)]:Env)
abbrev e66:=fun x0 x1 x2 x3 x4 x5=>([(1,.loc aw .no x0),(3,.v U2 x1),(4,.v .str x2),(31,.v U0 x3),(32,.v U2 x4),(33,.v U2 x5)]:Env)
abbrev GU:=fun x0 x1 x2 x3 x4 x5 x6 x7=>([(1,.loc aw .no x0),(3,.v U2 x1),(4,.v .str x2),(5,.v U2 x3),(31,.v U0 x4),(32,.v U2 x5),(33,.v U2 x6),(41,.v .bool x7)]:Env)
abbrev e68:=fun x0=>([(1,.dead),(2,.v U2 x0),(3,.dead),(4,.dead),(31,.dead),(32,.dead),(33,.dead)]:Env)
abbrev e69:=fun x0 x1 x2 x3 x4 x5=>([(1,.loc aw .no x0),(2,.dead),(3,.v U2 x1),(4,.v .str x2),(31,.v U0 x3),(32,.v U2 x4),(33,.v U2 x5)]:Env)
abbrev GV:=fun x0 x1 x2 x3 x4=>([(1,.loc aw .no x0),(31,.v U0 x1),(32,.v U2 x2),(33,.v U2 x3),(48,.v .bool x4)]:Env)
abbrev rJ:=fun x0=>([(1,.dead),(2,.v U2 x0),(31,.dead),(32,.dead),(33,.dead)]:Env)
abbrev GW:=fun x0 x1 x2 x3=>([(1,.loc aw .no x0),(2,.dead),(31,.v U0 x1),(32,.v U2 x2),(33,.v U2 x3)]:Env)
abbrev GX:=fun x0 x1=>([(1,.loc af .no x0),(6,.v .bool x1)]:Env)
abbrev GY:=fun x0 x1=>([(1,.loc af .no x0),(11,.v .bool x1)]:Env)
abbrev mr:=fun x0=>([(1,.loc af .no x0),(2,.dead)]:Env)
abbrev jq:=fun x0 x1 x2=>([(17,.v cF x0),(18,.v U2 x1),(19,.v U2 x2)]:Env)
abbrev O4:=fun x0 x1 x2 x3=>([(17,.v cF x0),(18,.v U2 x1),(19,.v U2 x2),(20,.v .bool x3)]:Env)
abbrev GZ:=fun x0 x1 x2 x3 x4=>([(5,.v U2 x0),(17,.v cF x1),(18,.v U2 x2),(19,.v U2 x3),(26,.v .bool x4)]:Env)
abbrev tN:=fun x0=>([(2,.v U2 x0),(17,.dead),(18,.dead),(19,.dead)]:Env)
abbrev G3:=fun x0 x1 x2=>([(2,.dead),(17,.v cF x0),(18,.v U2 x1),(19,.v U2 x2)]:Env)
abbrev G4:=fun x0 x1 x2=>([(0,.v U0 x0),(1,.v U2 x1),(12,.v .bool x2)]:Env)
abbrev G5:=fun x0 x1 x2=>([(1,.loc af .no x0),(4,.v U2 x1),(13,.v .bool x2)]:Env)
abbrev tO:=fun x0 x1=>([(1,.dead),(2,.v .str x0),(3,.v U2 x1)]:Env)
abbrev G6:=fun x0=>([(1,.loc af .no x0),(2,.dead),(3,.dead)]:Env)
abbrev gB:=fun x0 x1 x2 x3=>([(5,.sb 66 5 x0),(21,.v cF x1),(22,.v U2 x2),(23,.v U2 x3)]:Env)
abbrev O5:=fun x0 x1 x2 x3 x4=>([(5,.sb 66 5 x0),(21,.v cF x1),(22,.v U2 x2),(23,.v U2 x3),(24,.v .bool x4)]:Env)
abbrev e87:=fun x0 x1 x2 x3 x4=>([(5,.sb 66 5 x0),(7,.loc aw .no x1),(21,.v cF x2),(22,.v U2 x3),(23,.v U2 x4)]:Env)
abbrev ib:=fun x0 x1 x2 x3 x4 x5 x6=>([(5,.sb 66 5 x0),(21,.v cF x1),(22,.v U2 x2),(23,.v U2 x3),(38,.v U0 x4),(39,.v U2 x5),(40,.v U2 x6)]:Env)
abbrev O6:=fun x0 x1 x2 x3 x4 x5 x6 x7=>([(5,.sb 66 5 x0),(21,.v cF x1),(22,.v U2 x2),(23,.v U2 x3),(38,.v U0 x4),(39,.v U2 x5),(40,.v U2 x6),(41,.v .bool x7)]:Env)
abbrev G7:=fun x0 x1=>([(0,.v .str x0),(11,.v .bool x1)]:Env)
abbrev O7:=fun x0 x1 x2=>([(0,.v .str x0),(3,.v U2 x1),(15,.v .bool x2)]:Env)
abbrev o9:=fun x0 x1 x2=>([(0,.v .str x0),(3,.v U2 x1),(25,.v .bool x2)]:Env)
abbrev O8:=fun x0 x1 x2=>([(0,.v .str x0),(3,.v U2 x1),(54,.v .bool x2)]:Env)
abbrev gC:=fun x0 x1 x2=>([(0,.v .str x0),(3,.own true 5 U1 .no x1),(4,.v U2 x2)]:Env)
abbrev O9:=fun x0 x1 x2 x3=>([(0,.v .str x0),(3,.own true 5 U1 .no x1),(4,.v U2 x2),(11,.v .bool x3)]:Env)
abbrev G8:=fun x0 x1 x2 x3=>([(0,.v .str x0),(3,.own true 5 U1 .no x1),(4,.v U2 x2),(29,.v .bool x3)]:Env)
abbrev wu:=fun x0=>([(3,.own true 5 U1 .no x0)]:Env)
abbrev G9:=fun x0 x1=>([(0,.v U1 x0),(9,.v .bool x1)]:Env)
abbrev tP:=fun x0=>([(0,.dead),(2,.v .bool x0)]:Env)
abbrev eE:=fun x0 x1=>([(0,.v U1 x0),(3,.v U2 x1)]:Env)
abbrev rD:=fun x0 x1 x2=>([(0,.v U1 x0),(3,.v U2 x1),(11,.v .bool x2)]:Env)
abbrev EY:=fun x0 x1 x2=>([(0,.v U1 x0),(3,.v U2 x1),(17,.v .bool x2)]:Env)
abbrev kd:=fun x0=>([(0,.dead),(2,.v .bool x0),(3,.dead)]:Env)
abbrev oX:=fun x0 x1=>([(0,.v U1 x0),(2,.dead),(3,.v U2 x1)]:Env)
abbrev EZ:=fun x0 x1=>([(0,.v .str x0),(6,.v .bool x1)]:Env)
abbrev E0:=fun x0 x1=>([(0,.v .str x0),(14,.v .bool x1)]:Env)
abbrev Oc:=fun x0 x1 x2=>([(0,.v .str x0),(3,.v U2 x1),(18,.v .bool x2)]:Env)
abbrev Oe:=fun x0 x1 x2 x3=>([(0,.v U0 x0),(1,.v .str x1),(5,.v U2 x2),(9,.v .bool x3)]:Env)
abbrev E1:=fun x0 x1 x2 x3=>([(0,.v U0 x0),(1,.v .str x1),(5,.v U2 x2),(17,.v .bool x3)]:Env)
abbrev kg:=fun x0=>([(0,.dead),(1,.dead),(4,.v .bool x0),(5,.dead)]:Env)
abbrev E2:=fun x0 x1 x2=>([(0,.v U0 x0),(1,.v .str x1),(4,.dead),(5,.v U2 x2)]:Env)
abbrev E3:=fun x0 x1=>([(1,.loc aw .no x0),(22,.v .bool x1)]:Env)
abbrev E4:=fun x0 x1=>([(1,.loc aw .no x0),(26,.v .bool x1)]:Env)
abbrev jg:=fun x0 x1=>([(1,.loc aw .no x0),(3,.v U2 x1)]:Env)
abbrev Of:=fun x0 x1 x2=>([(1,.loc aw .no x0),(3,.v U2 x1),(31,.v .bool x2)]:Env)
abbrev E5:=fun x0 x1 x2 x3=>([(1,.loc aw .no x0),(3,.v U2 x1),(4,.v U2 x2),(41,.v .bool x3)]:Env)
abbrev kh:=fun x0=>([(1,.dead),(2,.v U2 x0),(3,.dead)]:Env)
abbrev tr:=fun x0 x1=>([(1,.loc aw .no x0),(2,.dead),(3,.v U2 x1)]:Env)
abbrev E6:=fun x0 x1 x2=>([(1,.loc aw .no x0),(3,.v U2 x1),(52,.v .bool x2)]:Env)
abbrev E7:=fun x0 x1=>([(1,.loc af .no x0),(8,.v .bool x1)]:Env)
abbrev E8:=fun x0 x1=>([(1,.loc af .no x0),(12,.v .bool x1)]:Env)
abbrev Og:=fun x0 x1 x2=>([(1,.loc af .no x0),(3,.v U2 x1),(17,.v .bool x2)]:Env)
abbrev E9:=fun x0 x1 x2 x3=>([(1,.loc af .no x0),(3,.v U2 x1),(4,.v U2 x2),(27,.v .bool x3)]:Env)
abbrev Fa:=fun x0 x1=>([(1,.loc af .no x0),(2,.dead),(3,.v U2 x1)]:Env)
abbrev Fb:=fun x0 x1=>([(0,.v U2 x0),(8,.v .bool x1)]:Env)
abbrev tu:=fun x0=>([(0,.dead),(2,.v .str x0)]:Env)
abbrev Fc:=fun x0=>([(0,.v U2 x0),(2,.dead)]:Env)
abbrev Fe:=fun x0 x1=>([(0,.v U2 x0),(4,.v .bool x1)]:Env)
abbrev Ff:=fun x0 x1 x2=>([(1,.loc af .no x0),(4,.v U2 x1),(12,.v .bool x2)]:Env)
abbrev gw:=fun x0 x1 x2=>([(1,.loc af .no x0),(5,.v .str x1),(6,.v U2 x2)]:Env)
abbrev Oi:=fun x0 x1 x2 x3=>([(1,.loc af .no x0),(5,.v .str x1),(6,.v U2 x2),(22,.v .bool x3)]:Env)
abbrev gh:=fun x0 x1 x2 x3 x4=>([(1,.loc af .no x0),(5,.v .str x1),(6,.v U2 x2),(7,.loc aw .no x3),(8,.v U2 x4)]:Env)
abbrev Oj:=fun x0 x1 x2 x3 x4 x5=>([(1,.loc af .no x0),(5,.v .str x1),(6,.v U2 x2),(7,.loc aw .no x3),(8,.v U2 x4),(45,.v .bool x5)]:Env)
abbrev Fg:=fun x0 x1 x2 x3 x4 x5=>([(1,.loc af .no x0),(5,.v .str x1),(6,.v U2 x2),(7,.loc aw .no x3),(8,.v U2 x4),(49,.v .bool x5)]:Env)
abbrev tv:=fun x0 x1 x2=>([(0,.v .str x0),(3,.v U2 x1),(13,.v .bool x2)]:Env)
abbrev Fh:=fun x0 x1=>([(0,.v .str x0),(30,.v .bool x1)]:Env)
abbrev mj:=fun x0 x1=>([(2,.v U2 x0),(3,.v .bool x1)]:Env)
abbrev tw:=fun x0 x1=>([(0,.dead),(2,.v U2 x0),(3,.v .bool x1)]:Env)
abbrev Fi:=fun x0=>([(0,.v .str x0),(2,.dead),(3,.dead)]:Env)
abbrev gx:=fun x0 x1=>([(0,.v .str x0),(4,.v U2 x1)]:Env)
abbrev hU:=fun x0 x1 x2 x3=>([(4,.v U2 x0),(32,.own true 4294967295 U1 .no x1),(33,.v U2 x2),(34,.v U2 x3)]:Env)
abbrev Ok:=fun x0 x1 x2 x3 x4=>([(4,.v U2 x0),(32,.own true 4294967295 U1 .no x1),(33,.v U2 x2),(34,.v U2 x3),(35,.v .bool x4)]:Env)
abbrev Ol:=fun x0 x1 x2=>([(0,.v .str x0),(4,.v U2 x1),(14,.v .bool x2)]:Env)
abbrev Fk:=fun x0 x1 x2=>([(0,.v .str x0),(4,.v U2 x1),(17,.v .bool x2)]:Env)
abbrev v7:=fun x0 x1=>([(0,.dead),(2,.v .str x0),(3,.v U2 x1),(4,.dead)]:Env)
abbrev Fl:=fun x0 x1 x2=>([(0,.v .str x0),(4,.v U2 x1),(28,.v .bool x2)]:Env)
abbrev Fm:=fun x0 x1=>([(0,.v .str x0),(2,.dead),(3,.dead),(4,.v U2 x1)]:Env)
abbrev Fo:=fun x0 x1=>([(0,.v .str x0),(2,.loc ax .no x1)]:Env)
abbrev Fp:=fun x0 x1 x2 x3=>([(0,.v .str x0),(2,.loc ax .no x1),(5,.v U1 x2),(14,.v .bool x3)]:Env)
abbrev Fq:=fun x0 x1 x2 x3=>([(0,.v .str x0),(2,.loc ax .no x1),(6,.v U2 x2),(20,.v .bool x3)]:Env)
abbrev dB:=fun x0 x1 x2=>([(2,.loc ax .no x0),(3,.v U2 x1),(4,.v U2 x2)]:Env)
abbrev Fs:=fun x0 x1 x2=>([(0,.dead),(2,.loc ax .no x0),(3,.v U2 x1),(4,.v U2 x2),(6,.dead)]:Env)
abbrev tx:=fun x0 x1 x2=>([(0,.v .str x0),(2,.loc ax .no x1),(3,.dead),(4,.dead),(6,.v U2 x2)]:Env)
abbrev Ft:=fun x0 x1 x2 x3=>([(0,.v .str x0),(2,.loc ax .no x1),(5,.v U1 x2),(27,.v .bool x3)]:Env)
abbrev Fu:=fun x0 x1 x2 x3=>([(0,.v .str x0),(2,.loc ax .no x1),(7,.v U2 x2),(33,.v .bool x3)]:Env)
abbrev adT:=fun x0 x1 x2=>([(0,.dead),(2,.loc ax .no x0),(3,.v U2 x1),(4,.v U2 x2),(7,.dead)]:Env)
abbrev Fv:=fun x0 x1 x2=>([(0,.v .str x0),(2,.loc ax .no x1),(3,.dead),(4,.dead),(7,.v U2 x2)]:Env)
abbrev Fx:=fun x0 x1 x2 x3=>([(0,.v .str x0),(2,.loc ax .no x1),(7,.v U2 x2),(43,.v .bool x3)]:Env)
abbrev Fy:=fun x0 x1 x2 x3=>([(0,.v .str x0),(2,.loc ax .no x1),(5,.v U1 x2),(50,.v .bool x3)]:Env)
abbrev FA:=fun x0 x1 x2=>([(0,.v .str x0),(2,.loc ax .no x1),(64,.v .bool x2)]:Env)
abbrev tz:=fun x0=>([(2,.loc ax .no x0),(3,.dead),(4,.dead)]:Env)
abbrev oY:=fun x0 x1=>([(0,.v .str x0),(13,.v .bool x1)]:Env)
abbrev oZ:=fun x0 x1 x2=>([(2,.own true 58 ax .no x0),(3,.v U2 x1),(4,.v U2 x2)]:Env)
abbrev tA:=fun x0 x1 x2=>([(0,.dead),(2,.own true 58 ax .no x0),(3,.v U2 x1),(4,.v U2 x2)]:Env)
abbrev FB:=fun x0=>([(0,.v .str x0),(2,.dead),(3,.dead),(4,.dead)]:Env)
abbrev dq:=fun x0 x1 x2 x3=>([(0,.v .str x0),(5,.own true 58 ax .no x1),(6,.v U2 x2),(7,.v U2 x3)]:Env)
abbrev Om:=fun x0 x1 x2 x3 x4=>([(0,.v .str x0),(5,.own true 58 ax .no x1),(6,.v U2 x2),(7,.v U2 x3),(17,.v .bool x4)]:Env)
abbrev adU:=fun x0 x1 x2 x3 x4=>([(0,.v .str x0),(5,.own true 58 ax .no x1),(6,.v U2 x2),(7,.v U2 x3),(20,.v U1 x4)]:Env)
abbrev wa:=fun x0 x1 x2 x3 x4 x5=>([(0,.v .str x0),(5,.own true 58 ax .no x1),(6,.v U2 x2),(7,.v U2 x3),(20,.v U1 x4),(42,.v .bool x5)]:Env)
abbrev ml:=fun x0 x1 x2 x3=>([(0,.v .str x0),(2,.dead),(3,.dead),(4,.dead),(5,.own true 58 ax .no x1),(6,.v U2 x2),(7,.v U2 x3)]:Env)
abbrev jL:=fun x0 x1 x2 x3 x4 x5=>([(0,.v .str x0),(5,.own true 58 ax .no x1),(6,.v U2 x2),(7,.v U2 x3),(20,.v U1 x4),(48,.v .bool x5)]:Env)
abbrev wb:=fun x0 x1 x2 x3 x4=>([(0,.v .str x0),(5,.own true 58 ax .no x1),(6,.v U2 x2),(7,.v U2 x3),(54,.v .bool x4)]:Env)
abbrev On:=fun x0 x1 x2 x3 x4=>([(0,.v .str x0),(5,.own true 58 ax .no x1),(6,.v U2 x2),(7,.v U2 x3),(65,.v .bool x4)]:Env)
abbrev adV:=fun x0 x1 x2 x3 x4 x5 x6=>([(0,.v .str x0),(5,.own true 58 ax .no x1),(6,.v U2 x2),(7,.v U2 x3),(8,.loc ax .no x4),(9,.v U2 x5),(10,.v U2 x6)]:Env)
abbrev FC:=fun x0 x1 x2 x3 x4 x5 x6 x7=>([(0,.v .str x0),(5,.own true 58 ax .no x1),(6,.v U2 x2),(7,.v U2 x3),(8,.loc ax .no x4),(9,.v U2 x5),(10,.v U2 x6),(30,.v .bool x7)]:Env)
abbrev FE:=fun x0 x1 x2=>([(0,.dead),(2,.own true 58 ax .no x0),(3,.v U2 x1),(4,.v U2 x2),(5,.dead),(6,.dead),(7,.dead),(8,.dead),(9,.dead)]:Env)
abbrev adW:=fun x0 x1 x2 x3 x4 x5=>([(0,.v .str x0),(2,.dead),(3,.dead),(4,.dead),(5,.own true 58 ax .no x1),(6,.v U2 x2),(7,.v U2 x3),(8,.loc ax .no x4),(9,.v U2 x5)]:Env)
abbrev mn:=fun x0 x1 x2=>([(0,.dead),(2,.own true 58 ax .no x0),(3,.v U2 x1),(4,.v U2 x2),(5,.dead),(6,.dead),(7,.dead)]:Env)
abbrev ki:=fun x0 x1 x2=>([(2,.own true 58 ax .no x0),(3,.v U2 x1),(4,.v U2 x2),(5,.dead)]:Env)
abbrev wc:=fun x0=>([(2,.dead),(3,.dead),(4,.dead),(5,.own true 58 ax .no x0)]:Env)
abbrev lQ:=fun x0 x1 x2=>([(2,.ref 5 []),(3,.v U2 x0),(4,.v U2 x1),(5,.own true 58 ax .no x2)]:Env)
abbrev Oo:=fun x0 x1 x2=>([(0,.at bl x0),(1,.v U2 x1),(2,.v .str x2)]:Env)
abbrev we:=fun x0 x1 x2=>([(0,.loc bl .no x0),(1,.v U2 x1),(2,.v .str x2)]:Env)
abbrev FF:=fun x0 x1=>([(0,.loc bl .no x0),(17,.v .bool x1)]:Env)
abbrev tB:=fun x0 x1=>([(0,.loc bl .no x0),(6,.v .str x1)]:Env)
abbrev FG:=fun x0 x1=>([(0,.at bl x0),(3,.v .bool x1)]:Env)
abbrev FH:=fun x0 x1=>([(0,.at bl x0),(25,.v .bool x1)]:Env)
abbrev Oq:=fun x0 x1=>([(0,.loc bl .no x0),(2,.v .str x1)]:Env)
abbrev gq:=fun x0 x1 x2 x3=>([(0,.loc bl .no x0),(2,.loc aw (.pair .no (.pair .no (.pair (.own true 9 .no) .no))) x1),(4,.loc aw (.pair .no (.pair .no (.pair (.own true 9 .no) .no))) x2),(5,.v .str x3)]:Env)
abbrev FI:=fun x0 x1 x2 x3 x4=>([(0,.loc bl .no x0),(2,.loc aw (.pair .no (.pair .no (.pair (.own true 9 .no) .no))) x1),(4,.loc aw (.pair .no (.pair .no (.pair (.own true 9 .no) .no))) x2),(5,.v .str x3),(23,.v .bool x4)]:Env)
abbrev Ot:=fun x0 x1 x2 x3 x4=>([(0,.loc bl .no x0),(2,.loc aw (.pair .no (.pair .no (.pair (.own true 9 .no) .no))) x1),(4,.loc aw (.pair .no (.pair .no (.pair (.own true 9 .no) .no))) x2),(5,.v .str x3),(46,.v .bool x4)]:Env)
abbrev Ou:=fun x0 x1 x2=>([(0,.loc bl .no x0),(2,.loc aw .no x1),(3,.v .str x2)]:Env)
abbrev Ov:=fun x0 x1 x2=>([(0,.v .str x0),(3,.v U2 x1),(5,.v .bool x2)]:Env)
abbrev FJ:=fun x0 x1 x2=>([(0,.v .str x0),(3,.v U2 x1),(11,.v .bool x2)]:Env)
abbrev adX:=fun x0 x1 x2 x3=>([(2,.loc af .no x0),(5,.own true 58 ax .no x1),(6,.v U2 x2),(7,.v U2 x3)]:Env)
abbrev FK:=fun x0 x1 x2 x3 x4=>([(2,.loc af .no x0),(5,.own true 58 ax .no x1),(6,.v U2 x2),(7,.v U2 x3),(24,.v .bool x4)]:Env)
abbrev mq:=fun x0 x1 x2=>([(2,.loc af (.pair .no (.pair (.own true 51 .no) .no)) x0),(3,.v U2 x1),(4,.v U2 x2)]:Env)
abbrev tC:=fun x0 x1 x2=>([(2,.loc af (.pair .no (.pair (.own true 51 .no) .no)) x0),(3,.v U2 x1),(4,.v U2 x2),(5,.dead)]:Env)
abbrev adY:=fun x0 x1=>([(2,.loc af .no x0),(3,.dead),(4,.dead),(5,.own true 58 ax .no x1)]:Env)
abbrev gY:=fun x0 x1 x2 x3 x4 x5=>([(2,.loc af .no x0),(5,.own false 58 ax .no x1),(8,.ptr 30 []),(9,.loc af (.pair .no (.pair (.own true 51 .no) .no)) x2),(10,.own true 9 .str .no x3),(11,.own true 3 U2 .no x4),(30,.loc bl .no x5)]:Env)
abbrev Ow:=fun x0 x1 x2 x3 x4 x5 x6=>([(2,.loc af .no x0),(5,.own false 58 ax .no x1),(8,.ptr 30 []),(9,.loc af (.pair .no (.pair (.own true 51 .no) .no)) x2),(10,.own true 9 .str .no x3),(11,.own true 3 U2 .no x4),(30,.loc bl .no x5),(47,.v .bool x6)]:Env)
abbrev FL:=fun x0 x1 x2 x3 x4 x5=>([(2,.loc af .no x0),(8,.ptr 30 []),(9,.loc af (.pair .no (.pair (.own true 51 .no) .no)) x1),(10,.own true 9 .str .no x2),(11,.own true 3 U2 .no x3),(30,.loc bl .no x4),(82,.v .bool x5)]:Env)
abbrev Ox:=fun x0 x1 x2=>([(2,.loc af (.pair .no (.pair (.own true 51 .no) .no)) x0),(3,.v U2 x1),(4,.v U2 x2),(9,.dead),(10,.dead),(11,.dead)]:Env)
abbrev adZ:=fun x0 x1 x2 x3=>([(2,.loc af .no x0),(3,.dead),(4,.dead),(9,.loc af (.pair .no (.pair (.own true 51 .no) .no)) x1),(10,.own true 9 .str .no x2),(11,.own true 3 U2 .no x3)]:Env)
abbrev jh:=fun x0 x1 x2 x3 x4 x5=>([(2,.loc af .no x0),(9,.loc af (.pair .no (.pair (.own true 51 .no) .no)) x1),(10,.own true 9 .str .no x2),(11,.own true 3 U2 .no x3),(86,.ref 10 []),(87,.v U2 x4),(88,.v U2 x5)]:Env)
abbrev Oy:=fun x0 x1 x2 x3 x4 x5 x6=>([(2,.loc af .no x0),(9,.loc af (.pair .no (.pair (.own true 51 .no) .no)) x1),(10,.own true 9 .str .no x2),(11,.own true 3 U2 .no x3),(86,.ref 10 []),(87,.v U2 x4),(88,.v U2 x5),(89,.v .bool x6)]:Env)
abbrev FM:=fun x0 x1 x2 x3 x4 x5 x6 x7=>([(2,.loc af .no x0),(9,.loc af (.pair .no (.pair (.own true 51 .no) .no)) x1),(10,.own true 9 .str .no x2),(11,.own true 3 U2 .no x3),(14,.v U2 x4),(86,.ref 10 []),(87,.v U2 x5),(88,.v U2 x6),(106,.v .bool x7)]:Env)
abbrev gN:=fun x0 x1 x2=>([(2,.loc af .no x0),(3,.v U2 x1),(4,.v U2 x2)]:Env)
abbrev tD:=fun x0 x1 x2=>([(2,.loc af .no x0),(3,.v U2 x1),(4,.v U2 x2),(9,.dead),(10,.dead),(11,.dead),(86,.dead),(87,.dead),(88,.dead)]:Env)
abbrev FN:=fun x0 x1 x2 x3 x4 x5=>([(2,.loc af .no x0),(3,.dead),(4,.dead),(9,.loc af (.pair .no (.pair (.own true 51 .no) .no)) x1),(10,.own true 9 .str .no x2),(11,.own true 3 U2 .no x3),(86,.ref 10 []),(87,.v U2 x4),(88,.v U2 x5)]:Env)
abbrev tE:=fun x0 x1 x2=>([(2,.loc af .no x0),(3,.v U2 x1),(4,.v U2 x2),(9,.dead)]:Env)
abbrev wg:=fun x0 x1=>([(2,.loc af .no x0),(3,.dead),(4,.dead),(9,.loc af (.pair .no (.pair (.own true 51 .no) .no)) x1)]:Env)
abbrev FO:=fun x0 x1 x2 x3=>([(2,.loc af .no x0),(9,.loc af (.pair .no (.pair (.own false 51 .no) .no)) x1),(16,.v U2 x2),(116,.v .bool x3)]:Env)
abbrev Oz:=fun x0 x1 x2=>([(2,.loc af (.pair .no (.pair (.own true 51 .no) .no)) x0),(3,.v U2 x1),(4,.v U2 x2),(9,.dead)]:Env)
abbrev ad0:=fun x0 x1=>([(2,.loc af .no x0),(3,.dead),(4,.dead),(9,.loc af (.pair .no (.pair (.own false 51 .no) .no)) x1)]:Env)
abbrev wh:=fun x0 x1=>([(0,.v U0 x0),(1,.v U0 x1)]:Env)
abbrev FP:=fun x0 x1 x2=>([(0,.v U0 x0),(1,.v U0 x1),(10,.v .bool x2)]:Env)
abbrev OA:=fun x0=>([(0,.dead),(1,.dead),(4,.v .bool x0)]:Env)
abbrev jj:=fun x0 x1 x2=>([(0,.v U0 x0),(1,.v U0 x1),(5,.v U2 x2)]:Env)
abbrev OD:=fun x0 x1 x2 x3=>([(0,.v U0 x0),(1,.v U0 x1),(5,.v U2 x2),(14,.v .bool x3)]:Env)
abbrev FQ:=fun x0 x1 x2 x3=>([(0,.v U0 x0),(1,.v U0 x1),(5,.v U2 x2),(25,.v .bool x3)]:Env)
abbrev FR:=fun x0 x1 x2=>([(0,.v U0 x0),(1,.v U0 x1),(4,.dead),(5,.v U2 x2)]:Env)
abbrev FT:=fun x0 x1 x2=>([(2,.loc af .no x0),(3,.loc af .no x1),(21,.v .bool x2)]:Env)
abbrev OE:=fun x0=>([(2,.dead),(3,.dead),(4,.v .bool x0)]:Env)
abbrev jk:=fun x0 x1 x2=>([(2,.loc af .no x0),(3,.loc af .no x1),(5,.v U2 x2)]:Env)
abbrev OF:=fun x0 x1 x2 x3=>([(2,.loc af .no x0),(3,.loc af .no x1),(5,.v U2 x2),(26,.v .bool x3)]:Env)
abbrev FU:=fun x0 x1 x2 x3=>([(2,.loc af .no x0),(3,.loc af .no x1),(5,.v U2 x2),(58,.v .bool x3)]:Env)
abbrev tF:=fun x0=>([(2,.dead),(3,.dead),(4,.v .bool x0),(5,.dead)]:Env)
abbrev FV:=fun x0 x1 x2=>([(2,.loc af .no x0),(3,.loc af .no x1),(4,.dead),(5,.v U2 x2)]:Env)
abbrev FX:=fun x0 x1=>([(1,.loc af .no x0),(16,.v .bool x1)]:Env)
abbrev FY:=fun x0 x1 x2 x3=>([(1,.loc af .no x0),(3,.v .str x1),(4,.v U2 x2),(43,.v .bool x3)]:Env)
abbrev OG:=fun x0=>([(1,.dead),(2,.v .bool x0),(3,.dead),(4,.dead)]:Env)
abbrev FZ:=fun x0 x1 x2=>([(1,.loc af .no x0),(3,.v .str x1),(45,.v .bool x2)]:Env)
abbrev OH:=fun x0=>([(1,.dead),(2,.v .bool x0),(3,.dead)]:Env)
abbrev OI:=fun x0 x1 x2=>([(0,.v .str x0),(3,.v U2 x1),(7,.v .bool x2)]:Env)
abbrev OJ:=fun x0 x1 x2=>([(0,.v .str x0),(3,.v U2 x1),(10,.v U1 x2)]:Env)
abbrev hX:=fun x0 x1 x2 x3=>([(0,.v .str x0),(3,.v U2 x1),(10,.v U1 x2),(12,.v .bool x3)]:Env)
abbrev wi:=fun x0 x1 x2=>([(0,.v .str x0),(3,.v U2 x1),(19,.v .bool x2)]:Env)
abbrev gy:=fun x0 x1 x2=>([(0,.v .str x0),(3,.v U2 x1),(4,.v U2 x2)]:Env)
abbrev F0:=fun x0 x1 x2 x3=>([(0,.v .str x0),(3,.v U2 x1),(4,.v U2 x2),(8,.v .bool x3)]:Env)
abbrev F1:=fun x0 x1 x2 x3=>([(0,.v .str x0),(3,.v U2 x1),(4,.v U2 x2),(14,.v .bool x3)]:Env)
abbrev iw:=fun x0 x1 x2=>([(0,.v .str x0),(2,.loc ax .no x1),(5,.v U2 x2)]:Env)
abbrev OK:=fun x0 x1 x2 x3=>([(0,.v .str x0),(2,.loc ax .no x1),(5,.v U2 x2),(15,.v .bool x3)]:Env)
abbrev F2:=fun x0 x1 x2 x3=>([(0,.v .str x0),(2,.loc ax .no x1),(5,.v U2 x2),(27,.v .bool x3)]:Env)
abbrev wj:=fun x0 x1 x2=>([(0,.dead),(2,.loc ax .no x0),(3,.v U2 x1),(4,.v U2 x2),(5,.dead)]:Env)
abbrev tG:=fun x0 x1 x2=>([(0,.v .str x0),(2,.loc ax .no x1),(3,.dead),(4,.dead),(5,.v U2 x2)]:Env)
abbrev F3:=fun x0 x1 x2 x3=>([(0,.v .str x0),(2,.loc ax .no x1),(5,.v U2 x2),(31,.v .bool x3)]:Env)
abbrev OL:=fun x0 x1 x2=>([(0,.v U1 x0),(3,.v U2 x1),(5,.v .bool x2)]:Env)
abbrev F4:=fun x0 x1 x2 x3=>([(0,.v .str x0),(2,.loc ax .no x1),(5,.v U2 x2),(10,.v .bool x3)]:Env)
abbrev F6:=fun x0 x1 x2 x3=>([(0,.v .str x0),(2,.loc ax .no x1),(5,.v U2 x2),(12,.v .bool x3)]:Env)
abbrev wk:=fun x0 x1 x2=>([(0,.dead),(2,.loc ax .no x0),(3,.v U2 x1),(4,.v U2 x2)]:Env)
abbrev tH:=fun x0 x1=>([(0,.v .str x0),(2,.loc ax .no x1),(3,.dead),(4,.dead)]:Env)
abbrev F7:=fun x0 x1 x2 x3=>([(0,.v .str x0),(2,.loc ax .no x1),(6,.v U2 x2),(22,.v .bool x3)]:Env)
abbrev F8:=fun x0 x1 x2 x3=>([(0,.v .str x0),(2,.loc ax .no x1),(6,.v U2 x2),(24,.v .bool x3)]:Env)
abbrev F9:=fun x0 x1 x2 x3=>([(0,.v .str x0),(2,.loc ax .no x1),(6,.v U2 x2),(32,.v .bool x3)]:Env)
abbrev Ga:=fun x0 x1 x2=>([(0,.v .str x0),(2,.loc ax .no x1),(41,.v .bool x2)]:Env)
abbrev Gb:=fun x0 x1 x2=>([(0,.v .str x0),(2,.loc ax .no x1),(49,.v .bool x2)]:Env)
abbrev Gc:=fun x0 x1 x2 x3 x4=>([(0,.v .str x0),(5,.own true 58 ax .no x1),(6,.v U2 x2),(7,.v U2 x3),(33,.v .bool x4)]:Env)
abbrev tI:=fun x0 x1 x2=>([(0,.dead),(2,.ref 5 []),(3,.v U2 x0),(4,.v U2 x1),(5,.own true 58 ax .no x2),(6,.dead),(7,.dead)]:Env)
abbrev ad1:=fun x0 x1 x2 x3 x4 x5 x6=>([(0,.v .str x0),(5,.own true 58 ax .no x1),(6,.v U2 x2),(7,.v U2 x3),(8,.v U2 x4),(9,.loc ax .no x5),(10,.v U2 x6)]:Env)
abbrev Ge:=fun x0 x1 x2 x3 x4 x5 x6 x7=>([(0,.v .str x0),(5,.own true 58 ax .no x1),(6,.v U2 x2),(7,.v U2 x3),(8,.v U2 x4),(9,.loc ax .no x5),(10,.v U2 x6),(44,.v .bool x7)]:Env)
abbrev ad2:=fun x0 x1 x2 x3 x4 x5=>([(0,.v .str x0),(2,.dead),(3,.dead),(4,.dead),(5,.own true 58 ax .no x1),(6,.v U2 x2),(7,.v U2 x3),(8,.v U2 x4),(9,.loc ax .no x5)]:Env)
abbrev OM:=fun x0 x1 x2 x3=>([(0,.v cc x0),(1,.v U2 x1),(2,.v U2 x2),(3,.v .str x3)]:Env)
abbrev tJ:=fun x0 x1=>([(0,.v cc x0),(1,.v U2 x1)]:Env)
abbrev Gf:=fun x0 x1 x2 x3=>([(0,.v cc x0),(1,.v U2 x1),(4,.loc af .no x2),(10,.v .bool x3)]:Env)
abbrev rF:=fun x0 x1 x2=>([(4,.loc af .no x0),(5,.v U2 x1),(6,.v U2 x2)]:Env)
abbrev ON:=fun x0 x1 x2=>([(0,.dead),(4,.loc af .no x0),(5,.v U2 x1),(6,.v U2 x2)]:Env)
abbrev ad3:=fun x0 x1=>([(0,.v cc x0),(4,.loc af .no x1),(5,.dead),(6,.dead)]:Env)
abbrev Gg:=fun x0 x1 x2=>([(0,.v cc x0),(4,.loc af .no x1),(19,.v .bool x2)]:Env)
abbrev OO:=fun x0 x1 x2=>([(4,.loc af (.pair .no (.pair (.own true 51 .no) .no)) x0),(5,.v U2 x1),(6,.v U2 x2)]:Env)
abbrev Gi:=fun x0 x1=>([(0,.v .str x0),(29,.v .bool x1)]:Env)
abbrev hY:=fun x0 x1 x2=>([(0,.v .str x0),(4,.v U2 x1),(5,.v U2 x2)]:Env)
abbrev OP:=fun x0 x1 x2 x3=>([(0,.v .str x0),(4,.v U2 x1),(5,.v U2 x2),(33,.v .bool x3)]:Env)
abbrev ko:=fun x0 x1 x2 x3=>([(0,.v cc x0),(1,.v U2 x1),(4,.loc aw (.pair .no (.pair .no (.pair (.own true 9 .no) .no))) x2),(7,.loc aw (.pair .no (.pair .no (.pair (.own true 9 .no) .no))) x3)]:Env)
abbrev Gj:=fun x0 x1 x2 x3 x4=>([(0,.v cc x0),(1,.v U2 x1),(4,.loc aw (.pair .no (.pair .no (.pair (.own true 9 .no) .no))) x2),(7,.loc aw (.pair .no (.pair .no (.pair (.own true 9 .no) .no))) x3),(11,.v .bool x4)]:Env)
abbrev nI:=fun x0 x1 x2=>([(4,.loc aw .no x0),(5,.v U2 x1),(6,.v .bool x2)]:Env)
abbrev nJ:=fun x0 x1 x2=>([(0,.dead),(1,.dead),(4,.loc aw .no x0),(5,.v U2 x1),(6,.v .bool x2),(7,.dead)]:Env)
abbrev gZ:=fun x0 x1 x2 x3=>([(0,.v cc x0),(1,.v U2 x1),(4,.loc aw (.pair .no (.pair .no (.pair (.own true 9 .no) .no))) x2),(5,.dead),(6,.dead),(7,.loc aw (.pair .no (.pair .no (.pair (.own true 9 .no) .no))) x3)]:Env)
abbrev Gk:=fun x0 x1 x2 x3 x4=>([(0,.v cc x0),(1,.v U2 x1),(4,.loc aw (.pair .no (.pair .no (.pair (.own true 9 .no) .no))) x2),(7,.loc aw (.pair .no (.pair .no (.pair (.own true 9 .no) .no))) x3),(18,.v .bool x4)]:Env)
abbrev wm:=fun x0 x1 x2 x3 x4=>([(0,.v cc x0),(1,.v U2 x1),(4,.loc aw (.pair .no (.pair .no (.pair (.own true 9 .no) .no))) x2),(7,.loc aw (.pair .no (.pair .no (.pair (.own true 9 .no) .no))) x3),(37,.v .bool x4)]:Env)
abbrev Gm:=fun x0 x1 x2 x3 x4=>([(0,.v cc x0),(1,.v U2 x1),(4,.loc aw (.pair .no (.pair .no (.pair (.own true 9 .no) .no))) x2),(7,.loc aw (.pair .no (.pair .no (.pair (.own true 9 .no) .no))) x3),(42,.v .bool x4)]:Env)
abbrev OQ:=fun x0 x1 x2 x3 x4=>([(0,.v cc x0),(1,.v U2 x1),(4,.loc aw (.pair .no (.pair .no (.pair (.own true 9 .no) .no))) x2),(7,.loc aw (.pair .no (.pair .no (.pair (.own true 9 .no) .no))) x3),(62,.v .bool x4)]:Env)
abbrev Gn:=fun x0 x1 x2 x3=>([(1,.v U2 x0),(4,.loc aw (.pair .no (.pair .no (.pair (.own true 9 .no) .no))) x1),(7,.loc aw (.pair .no (.pair .no (.pair (.own true 9 .no) .no))) x2),(66,.v .bool x3)]:Env)
abbrev OR:=fun x0 x1 x2=>([(1,.dead),(4,.loc aw .no x0),(5,.v U2 x1),(6,.v .bool x2),(7,.dead)]:Env)
abbrev ad4:=fun x0 x1 x2=>([(1,.v U2 x0),(4,.loc aw (.pair .no (.pair .no (.pair (.own true 9 .no) .no))) x1),(5,.dead),(6,.dead),(7,.loc aw (.pair .no (.pair .no (.pair (.own true 9 .no) .no))) x2)]:Env)
abbrev Gp:=fun x0 x1 x2 x3 x4=>([(2,.loc af .no x0),(5,.v cc x1),(6,.v U2 x2),(7,.v U2 x3),(24,.v .bool x4)]:Env)
abbrev o6:=fun x0 x1=>([(2,.loc af .no x0),(3,.dead),(4,.dead),(5,.v cc x1)]:Env)
abbrev Gq:=fun x0 x1 x2=>([(2,.loc af .no x0),(5,.v cc x1),(30,.v .bool x2)]:Env)
abbrev OS:=fun x0 x1 x2=>([(2,.loc af .no x0),(3,.v U2 x1),(4,.v U2 x2),(5,.dead)]:Env)
abbrev Gt:=fun x0 x1 x2=>([(2,.loc af .no x0),(5,.v cc x1),(38,.v .bool x2)]:Env)
abbrev Gu:=fun x0 x1 x2=>([(2,.loc af .no x0),(5,.v cc x1),(46,.v .bool x2)]:Env)
abbrev jl:=fun x0 x1 x2 x3 x4=>([(2,.loc af .no x0),(5,.v cc x1),(8,.loc af (.pair .no (.pair (.own true 51 .no) .no)) x2),(9,.own true 3 U2 .no x3),(10,.v U2 x4)]:Env)
abbrev OT:=fun x0 x1 x2 x3 x4 x5=>([(2,.loc af .no x0),(5,.v cc x1),(8,.loc af (.pair .no (.pair (.own true 51 .no) .no)) x2),(9,.own true 3 U2 .no x3),(10,.v U2 x4),(60,.v .bool x5)]:Env)
abbrev ad5:=fun x0 x1 x2 x3 x4 x5 x6 x7=>([(2,.loc af .no x0),(5,.v cc x1),(8,.loc af (.pair .no (.pair (.own true 51 .no) .no)) x2),(9,.own true 3 U2 .no x3),(10,.v U2 x4),(11,.loc aw .no x5),(12,.v U2 x6),(13,.v .bool x7)]:Env)
abbrev Gv:=fun x0 x1 x2 x3 x4 x5 x6 x7=>([(2,.loc af .no x0),(5,.v cc x1),(8,.loc af (.pair .no (.pair (.own true 51 .no) .no)) x2),(9,.own true 3 U2 .no x3),(10,.v U2 x4),(11,.loc aw .no x5),(12,.v U2 x6),(69,.v .bool x7)]:Env)
abbrev ad6:=fun x0 x1 x2=>([(2,.loc af .no x0),(3,.v U2 x1),(4,.v U2 x2),(5,.dead),(8,.dead),(9,.dead),(10,.dead),(11,.dead),(12,.dead)]:Env)
abbrev ad7:=fun x0 x1 x2 x3 x4 x5 x6=>([(2,.loc af .no x0),(3,.dead),(4,.dead),(5,.v cc x1),(8,.loc af (.pair .no (.pair (.own true 51 .no) .no)) x2),(9,.own true 3 U2 .no x3),(10,.v U2 x4),(11,.loc aw .no x5),(12,.v U2 x6)]:Env)
abbrev o7:=fun x0 x1 x2=>([(2,.loc af .no x0),(3,.v U2 x1),(4,.v U2 x2),(5,.dead),(8,.dead),(9,.dead),(10,.dead)]:Env)
abbrev rG:=fun x0 x1 x2 x3 x4=>([(2,.loc af .no x0),(3,.dead),(4,.dead),(5,.v cc x1),(8,.loc af (.pair .no (.pair (.own true 51 .no) .no)) x2),(9,.own true 3 U2 .no x3),(10,.v U2 x4)]:Env)
abbrev Gx:=fun x0 x1 x2 x3 x4 x5=>([(2,.loc af .no x0),(5,.v cc x1),(8,.loc af (.pair .no (.pair (.own true 51 .no) .no)) x2),(9,.own true 3 U2 .no x3),(10,.v U2 x4),(91,.v .bool x5)]:Env)
abbrev OU:=fun x0 x1 x2=>([(2,.loc af .no x0),(3,.v U2 x1),(4,.v U2 x2),(5,.dead),(8,.dead),(9,.dead)]:Env)
abbrev ad8:=fun x0 x1 x2 x3=>([(2,.loc af .no x0),(3,.dead),(4,.dead),(5,.v cc x1),(8,.loc af (.pair .no (.pair (.own true 51 .no) .no)) x2),(9,.own true 3 U2 .no x3)]:Env)
abbrev hI:=fun x0 x1 x2 x3 x4=>([(2,.loc af .no x0),(5,.v cc x1),(8,.loc af (.pair .no (.pair (.own true 51 .no) .no)) x2),(9,.own true 3 U2 .no x3),(14,.v U2 x4)]:Env)
abbrev OV:=fun x0 x1 x2 x3 x4 x5=>([(2,.loc af .no x0),(5,.v cc x1),(8,.loc af (.pair .no (.pair (.own true 51 .no) .no)) x2),(9,.own true 3 U2 .no x3),(14,.v U2 x4),(102,.v .bool x5)]:Env)
abbrev gz:=fun x0 x1 x2 x3 x4 x5=>([(2,.loc af .no x0),(5,.v cc x1),(8,.loc af (.pair .no (.pair (.own true 51 .no) .no)) x2),(9,.own true 3 U2 .no x3),(14,.v U2 x4),(15,.v U2 x5)]:Env)
abbrev OW:=fun x0 x1 x2 x3 x4 x5 x6=>([(2,.loc af .no x0),(5,.v cc x1),(8,.loc af (.pair .no (.pair (.own true 51 .no) .no)) x2),(9,.own true 3 U2 .no x3),(14,.v U2 x4),(15,.v U2 x5),(106,.v .bool x6)]:Env)
abbrev Gy:=fun x0 x1 x2 x3 x4 x5 x6=>([(2,.loc af .no x0),(5,.v cc x1),(8,.loc af (.pair .no (.pair (.own true 51 .no) .no)) x2),(9,.own true 3 U2 .no x3),(14,.v U2 x4),(15,.v U2 x5),(119,.v .bool x6)]:Env)
abbrev Gz:=fun x0 x1 x2 x3 x4 x5=>([(2,.loc af .no x0),(5,.v cc x1),(8,.loc af (.pair .no (.pair (.own true 51 .no) .no)) x2),(9,.own true 3 U2 .no x3),(14,.v U2 x4),(132,.v .bool x5)]:Env)
abbrev tK:=fun x0 x1 x2=>([(2,.loc af .no x0),(3,.v U2 x1),(4,.v U2 x2),(5,.dead),(8,.dead),(9,.dead),(14,.dead)]:Env)
abbrev GA:=fun x0 x1 x2 x3 x4=>([(2,.loc af .no x0),(3,.dead),(4,.dead),(5,.v cc x1),(8,.loc af (.pair .no (.pair (.own true 51 .no) .no)) x2),(9,.own true 3 U2 .no x3),(14,.v U2 x4)]:Env)
abbrev tL:=fun x0 x1 x2=>([(2,.loc af .no x0),(3,.v U2 x1),(4,.v U2 x2),(8,.dead)]:Env)
abbrev wo:=fun x0 x1=>([(2,.loc af .no x0),(3,.dead),(4,.dead),(8,.loc af (.pair .no (.pair (.own true 51 .no) .no)) x1)]:Env)
abbrev GB:=fun x0 x1 x2 x3=>([(2,.loc af .no x0),(8,.loc af (.pair .no (.pair (.own false 51 .no) .no)) x1),(16,.v U2 x2),(145,.v .bool x3)]:Env)
abbrev OX:=fun x0 x1 x2=>([(2,.loc af (.pair .no (.pair (.own true 51 .no) .no)) x0),(3,.v U2 x1),(4,.v U2 x2),(8,.dead)]:Env)
abbrev ad9:=fun x0 x1=>([(2,.loc af .no x0),(3,.dead),(4,.dead),(8,.loc af (.pair .no (.pair (.own false 51 .no) .no)) x1)]:Env)
abbrev GC:=fun x0 x1=>([(0,.v .str x0),(20,.v .bool x1)]:Env)
abbrev aea:=fun x0 x1 x2 x3 x4 x5=>([(3,.loc af .no x0),(4,.v U2 x1),(5,.v U2 x2),(6,.loc af .no x3),(7,.v U2 x4),(8,.v U2 x5)]:Env)
abbrev GD:=fun x0 x1 x2 x3 x4 x5 x6=>([(3,.loc af .no x0),(4,.v U2 x1),(5,.v U2 x2),(6,.loc af .no x3),(7,.v U2 x4),(8,.v U2 x5),(51,.v .bool x6)]:Env)
variable {N:Nat} {cl:aH} {R:Type} {K:KE R}
def yx (k0:V6→Int→Int→Option R) (x0:V6) (x1:Int):Option R:=
k0 x0 x1 (0:Int)
theorem aER (x0 x1):exec cl N Kw (e0 x0 x1) K=(yx (fun y0 y1 y2=>exec cl N (.seq (.seq Kx Ku) (.seq Kv .ret)) [(0,.v U0 y0),(1,.v U2 y1),(5,.v U2 y2)] K) x0 x1):=by
 kernel_rfl
def yz (k0:V6→Int→Int→Int→Option R) (x0:V6) (x1 x2:Int):Option R:=
k0 x0 x1 x2 (0:Int)
theorem aET (x0 x1 x2):exec cl N Kx [(0,.v U0 x0),(1,.v U2 x1),(5,.v U2 x2)] K=(yz (fun y0 y1 y2 y3=>K .normal (e1 y0 y1 y2 y3)) x0 x1 x2):=by
 kernel_rfl
theorem Rt (x0 x1 x2 x3):ae [0,1,5,6] (e1 x0 x1 x2 x3)=(e1 x0 x1 x2 x3):=by kernel_rfl
def yA (k0:V6→Int→Int→Int→Bool→Option R) (x0:V6) (x1 x2 x3:Int):Option R:=
al (decide (x3 < (x0.length:Int))) (k0 x0 x1 x2 x3 (decide (x2≤x1))) (k0 x0 x1 x2 x3 false)
theorem aEU (x0 x1 x2 x3):exec cl N Wu (e1 x0 x1 x2 x3) K=(yA (fun y0 y1 y2 y3 y4=>K .normal (e2 y0 y1 y2 y3 y4)) x0 x1 x2 x3):=by
 kernel_rfl
theorem aqg (x0 x1 x2 x3 x4):ae [0,1,5,6] (e2 x0 x1 x2 x3 x4)=(e1 x0 x1 x2 x3):=by kernel_rfl
theorem alu (x0 x1 x2 x3 x4):aD (ag (e2 x0 x1 x2 x3 x4) (.t 15))=some x4:=by kernel_rfl
def yB (k0:V6→Int→Int→Int→Option R) (x0:V6) (x1 x2 x3:Int):Option R:=
if 0≤x3∧x3 < (x0.length:Int) then
k0 x0 x1 (IntKind.i64.wrap ((IntKind.i64.wrap (x2+(1:Int)))+((x0.getD x3.toNat []).length:Int))) x3
else none
theorem aEV (x0 x1 x2 x3):exec cl N Ww (e1 x0 x1 x2 x3) K=(yB (fun y0 y1 y2 y3=>K .normal (e1 y0 y1 y2 y3)) x0 x1 x2 x3):=by
 kernel_rfl
def yC (k0:V6→Int→Int→Int→Option R) (x0:V6) (x1 x2 x3:Int):Option R:=
k0 x0 x1 x2 (IntKind.i64.wrap (x3+(1:Int)))
theorem aEW (x0 x1 x2 x3):exec cl N Wy (e1 x0 x1 x2 x3) K=(yC (fun y0 y1 y2 y3=>K .normal (e1 y0 y1 y2 y3)) x0 x1 x2 x3):=by
 kernel_rfl
def yD (k0:V6→Int→Int→Int→Option R) (k1:V6→Int→Int→Int→Option R) (x0:V6) (x1 x2 x3:Int):Option R:=
(yA (fun y0 y1 y2 y3 y4=>al y4 ((yB ((yC k0))) y0 y1 y2 y3) (k1 y0 y1 y2 y3)) x0 x1 x2 x3)
theorem aEX (x0 x1 x2 x3):exec cl N DR (e1 x0 x1 x2 x3) K=(yD (fun y0 y1 y2 y3=>K .normal (e1 y0 y1 y2 y3)) (fun y0 y1 y2 y3=>K (.exit 0) (e1 y0 y1 y2 y3)) x0 x1 x2 x3):=by
 simp only [DR,aM,aP,aO,aQ,aEU,Wv,aF,bf,alu,ah,ak,aj,bj,cG,aqg,Wx,bt,aEV,bp,bq,bo,Rt,aEW]
 rfl
def uG {R:Type} (k0:V6→Int→Int→Int→Option R):Nat→V6→Int→Int→Int→Option R
 | 0,_,_,_,_=>none
 | m+1,x0,x1,x2,x3=>(yD (uG k0 m) k0 x0 x1 x2 x3)
theorem awa:∀ (m) (x0 x1 x2 x3),iter [0,1,5,6] (fun env K=>exec cl N DR env K) K m (e1 x0 x1 x2 x3)=uG (fun y0 y1 y2 y3=>K (.exit 0) (e1 y0 y1 y2 y3)) m x0 x1 x2 x3:=by
 intro m
 induction m with
 | zero=>intros; rfl
 | succ m ih=>
   intro x0 x1 x2 x3
   simp only [cA,aEX,cC,cB,cD,Rt,ih]
   rfl
theorem aqh (x0 x1 x2 x3):ae [5] (e1 x0 x1 x2 x3)=[(5,.v U2 x2)]:=by kernel_rfl
def yE (N:Nat) (k0:Int→Option R) (x0:V6) (x1 x2 x3:Int):Option R:=
uG (fun y0 y1 y2 y3=>k0 y2) N x0 x1 x2 x3
theorem aEY (x0 x1 x2 x3):exec cl N Ky (e1 x0 x1 x2 x3) K=(yE N (fun y0=>K (.exit 0) [(5,.v U2 y0)]) x0 x1 x2 x3):=by
 simp only [Ky,aF,cz,Rt,awa,aqh]
 rfl
theorem aqi (x0):ae [5] [(5,.v U2 x0)]=[(5,.v U2 x0)]:=by kernel_rfl
def yw (k0:Int→Option R) (x0:Int):Option R:=
k0 x0
theorem aEQ (x0):exec cl N Kv [(5,.v U2 x0)] K=(yw (fun y0=>K .normal [(4,.v U2 y0)]) x0):=by
 kernel_rfl
def yy (N:Nat) (k0:Int→Option R) (x0:V6) (x1:Int):Option R:=
(yx (yz (yE N ((yw k0)))) x0 x1)
theorem aES (x0 x1):exec cl N Kw (e0 x0 x1) K=(yy N (fun y0=>K .ret [(4,.v U2 y0)]) x0 x1):=by
 simp only [aM,aP,aO,aQ,aER,aET,Ku,aF,bt,aEY,bp,bq,bo,aqi,aEQ,bg]
 rfl
theorem ay5 (y0):au d34 .ret [(4,.v U2 y0)]=some [.v U2 y0]:=by kernel_rfl
def tV (N:Nat) (x0:V6) (x1:Int) (k:Int→Option R):Option R:=
(yy N k x0 x1)
theorem ajU (x0 x1) (k:List E→Option R):exec cl N Kt (e0 x0 x1) (fun e env=>(au d34 e env).bind k)=tV N x0 x1 (fun r0=>k [.v U2 r0]):=by
 simp only [Kt,aES,ay5,ah]
 rfl
def qU (S:V6→Int→Option (Int)):a7:=jK 34 U0 U2 S fun b=> [.v U2 b]
def cR (N:Nat) (x0:V6) (x1:Int):Option (Int):=tV N x0 x1 (fun (r0:Int)=>some (r0))
def wH (k0:ad→Int→Option R) (x0:ad):Option R:=
k0 x0 (x0.1.length:Int)
theorem aBO (x0):exec cl N Ja [(0,.v af x0)] K=(wH (fun y0 y1=>exec cl N (.seq (.seq Jb I8) (.seq I9 .ret)) (e3 y0 y1) K) x0):=by
 kernel_rfl
def wJ (k0:ad→Int→Int→Option R) (x0:ad) (x1:Int):Option R:=
k0 x0 x1 (0:Int)
theorem aBQ (x0 x1):exec cl N Jb (e3 x0 x1) K=(wJ (fun y0 y1 y2=>K .normal (e4 y0 y1 y2)) x0 x1):=by
 kernel_rfl
theorem Ro (x0 x1 x2):ae [1,3,4] (e4 x0 x1 x2)=(e4 x0 x1 x2):=by kernel_rfl
def wK (k0:ad→Int→Int→Bool→Option R) (x0:ad) (x1 x2:Int):Option R:=
al (decide (x2 < (x0.2.1.length:Int))) (k0 x0 x1 x2 (decide (x2 < (50:Int)))) (k0 x0 x1 x2 false)
theorem aBR (x0 x1 x2):exec cl N Td (e4 x0 x1 x2) K=(wK (fun y0 y1 y2 y3=>K .normal (e5 y0 y1 y2 y3)) x0 x1 x2):=by
 kernel_rfl
theorem aoq (x0 x1 x2 x3):ae [1,3,4] (e5 x0 x1 x2 x3)=(e4 x0 x1 x2):=by kernel_rfl
theorem akJ (x0 x1 x2 x3):aD (ag (e5 x0 x1 x2 x3) (.t 16))=some x3:=by kernel_rfl
def wL (cR:V6→Int→Option (Int)) (k0:ad→Int→Int→Option R) (x0:ad) (x1 x2:Int):Option R:=
if 0≤x2∧x2 < (x0.2.1.length:Int) then
(cR ((x0.2.1.getD x2.toNat ((0:Int),((0:Int),([],())))).2.2.1) (1500:Int)).bind fun r21=>
k0 x0 (IntKind.i64.wrap (x1+r21)) x2
else none
theorem aBS (cR) (h34:(qU cR).holds cl) (x0 x1 x2):exec cl N Tf (e4 x0 x1 x2) K=(wL cR (fun y0 y1 y2=>K .normal (e4 y0 y1 y2)) x0 x1 x2):=by
 rw [←put_eq h34]
 kernel_rfl
def wM (k0:ad→Int→Int→Option R) (x0:ad) (x1 x2:Int):Option R:=
k0 x0 x1 (IntKind.i64.wrap (x2+(1:Int)))
theorem aBT (x0 x1 x2):exec cl N Ti (e4 x0 x1 x2) K=(wM (fun y0 y1 y2=>K .normal (e4 y0 y1 y2)) x0 x1 x2):=by
 kernel_rfl
def wN (cR:V6→Int→Option (Int)) (k0:ad→Int→Int→Option R) (k1:ad→Int→Int→Option R) (x0:ad) (x1 x2:Int):Option R:=
(wK (fun y0 y1 y2 y3=>al y3 ((wL cR ((wM k0))) y0 y1 y2) (k1 y0 y1 y2)) x0 x1 x2)
theorem aBU (cR) (h34:(qU cR).holds cl) (x0 x1 x2):exec cl N DB (e4 x0 x1 x2) K=(wN cR (fun y0 y1 y2=>K .normal (e4 y0 y1 y2)) (fun y0 y1 y2=>K (.exit 0) (e4 y0 y1 y2)) x0 x1 x2):=by
 simp only [DB,aM,aP,aO,aQ,aBR,Te,aF,bf,akJ,ah,ak,aj,bj,cG,aoq,Tg,bt,aBS cR h34,bp,bq,bo,Ro,aBT]
 rfl
def ux {R:Type} (cR:V6→Int→Option (Int)) (k0:ad→Int→Int→Option R):Nat→ad→Int→Int→Option R
 | 0,_,_,_=>none
 | m+1,x0,x1,x2=>(wN cR (ux cR k0 m) k0 x0 x1 x2)
theorem avX (cR) (h34:(qU cR).holds cl):∀ (m) (x0 x1 x2),iter [1,3,4] (fun env K=>exec cl N DB env K) K m (e4 x0 x1 x2)=ux cR (fun y0 y1 y2=>K (.exit 0) (e4 y0 y1 y2)) m x0 x1 x2:=by
 intro m
 induction m with
 | zero=>intros; rfl
 | succ m ih=>
   intro x0 x1 x2
   simp only [cA,aBU cR h34,cC,cB,cD,Ro,ih]
   rfl
theorem aor (x0 x1 x2):ae [1,3] (e4 x0 x1 x2)=(e3 x0 x1):=by kernel_rfl
def wO (N:Nat) (cR:V6→Int→Option (Int)) (k0:ad→Int→Option R) (x0:ad) (x1 x2:Int):Option R:=
ux cR (fun y0 y1 y2=>k0 y0 y1) N x0 x1 x2
theorem aBV (cR) (h34:(qU cR).holds cl) (x0 x1 x2):exec cl N Jc (e4 x0 x1 x2) K=(wO N cR (fun y0 y1=>K (.exit 0) (e3 y0 y1)) x0 x1 x2):=by
 simp only [Jc,aF,cz,Ro,avX cR h34,aor]
 rfl
theorem aos (x0 x1):ae [1,3] (e3 x0 x1)=(e3 x0 x1):=by kernel_rfl
def wG (k0:Bool→Option R) (x0:ad) (x1:Int):Option R:=
al (decide ((x0.2.1.length:Int)≤(40:Int))) (k0 (decide (x1≤(1500:Int)))) (k0 false)
theorem aBN (x0 x1):exec cl N I9 (e3 x0 x1) K=(wG (fun y0=>K .normal [(2,.v .bool y0)]) x0 x1):=by
 kernel_rfl
def wI (N:Nat) (cR:V6→Int→Option (Int)) (k0:Bool→Option R) (x0:ad):Option R:=
(wH (wJ (wO N cR ((wG k0)))) x0)
theorem aBP (cR) (h34:(qU cR).holds cl) (x0):exec cl N Ja [(0,.v af x0)] K=(wI N cR (fun y0=>K .ret [(2,.v .bool y0)]) x0):=by
 simp only [aM,aP,aO,aQ,aBO,aBQ,I8,aF,bt,aBV cR h34,bp,bq,bo,aos,aBN,bg]
 rfl
theorem ayA (y0):au d10 .ret [(2,.v .bool y0)]=some [.v .bool y0]:=by kernel_rfl
def g10 (N:Nat) (cR:V6→Int→Option (Int)) (x0:ad) (k:Bool→Option R):Option R:=
(wI N cR k x0)
theorem ajB (cR) (h34:(qU cR).holds cl) (x0) (k:List E→Option R):exec cl N I7 [(0,.v af x0)] (fun e env=>(au d10 e env).bind k)=g10 N cR x0 (fun r0=>k [.v .bool r0]):=by
 simp only [I7,aBP cR h34,ayA,ah]
 rfl
def Ew (S:ad→Option (Bool)):a7:=cw 10 af S fun b=> [.v .bool b]
def fH (N:Nat) (x0:ad):Option (Bool):=g10 N (cR N) x0 (fun (r0:Bool)=>some (r0))
def wT (eD:b6→Option Dq) (k0:ad→ad→Option R) (x0:ad):Option R:=
(eD x0.2.1).bind fun r33=>
k0 (x0.1,(r33,x0.2.2)) ([],([],()))
theorem aBZ (eD) (h35:(lN eD).holds cl) (x0):exec cl N Jh [(0,.v af x0)] K=(wT eD (fun y0 y1=>exec cl N (.seq (.seq Ji Jf) (.seq Jg .ret)) (e6 y0 y1) K) x0):=by
 rw [←put_eq h35]
 kernel_rfl
def wV (k0:ad→ad→Int→Int→Option R) (x0 x1:ad):Option R:=
k0 x0 x1 (x0.2.1.length:Int) (0:Int)
theorem aB1 (x0 x1):exec cl N Ji (e6 x0 x1) K=(wV (fun y0 y1 y2 y3=>K .normal (e7 y0 y1 y2 y3)) x0 x1):=by
 kernel_rfl
theorem Rp (x0 x1 x2 x3):ae [1,2,10,11] (e7 x0 x1 x2 x3)=(e7 x0 x1 x2 x3):=by kernel_rfl
def wW (k0:ad→ad→Int→Int→Bool→Option R) (x0 x1:ad) (x2 x3:Int):Option R:=
k0 x0 x1 x2 x3 (decide (x3 < x2))
theorem aB2 (x0 x1 x2 x3):exec cl N Tj (e7 x0 x1 x2 x3) K=(wW (fun y0 y1 y2 y3 y4=>K .normal (e8 y0 y1 y2 y3 y4)) x0 x1 x2 x3):=by
 kernel_rfl
theorem aot (x0 x1 x2 x3 x4):ae [1,2,10,11] (e8 x0 x1 x2 x3 x4)=(e7 x0 x1 x2 x3):=by kernel_rfl
theorem akK (x0 x1 x2 x3 x4):aD (ag (e8 x0 x1 x2 x3 x4) (.t 12))=some x4:=by kernel_rfl
def wX (cj:V6→Option V8) (k0:ad→ad→Int→Int→Option R) (x0 x1:ad) (x2 x3:Int):Option R:=
if 0≤x3∧x3 < (x0.2.1.length:Int) then
if x3.toNat < x0.2.1.length then
(cj ((x0.2.1.getD x3.toNat ((0:Int),((0:Int),([],())))).2.2.1)).bind fun r36=>
if 0≤x3∧x3 < (x0.2.1.length:Int) then
if x3.toNat < x0.2.1.length then
k0 (x0.1,((x0.2.1.set x3.toNat ((x0.2.1.getD x3.toNat ((0:Int),((0:Int),([],())))).1,((x0.2.1.getD x3.toNat ((0:Int),((0:Int),([],())))).2.1,(r36,(x0.2.1.getD x3.toNat ((0:Int),((0:Int),([],())))).2.2.2)))),x0.2.2)) x1 x2 x3
else none
else none
else none
else none
theorem aB3 (cj) (h36:(je cj).holds cl) (x0 x1 x2 x3):exec cl N Tl (e7 x0 x1 x2 x3) K=(wX cj (fun y0 y1 y2 y3=>K .normal (e7 y0 y1 y2 y3)) x0 x1 x2 x3):=by
 rw [←put_eq h36]
 kernel_rfl
def wY (k0:ad→ad→Int→Int→Option R) (x0 x1:ad) (x2 x3:Int):Option R:=
k0 x0 x1 x2 (IntKind.i64.wrap (x3+(1:Int)))
theorem aB4 (x0 x1 x2 x3):exec cl N Tn (e7 x0 x1 x2 x3) K=(wY (fun y0 y1 y2 y3=>K .normal (e7 y0 y1 y2 y3)) x0 x1 x2 x3):=by
 kernel_rfl
def wP (cj:V6→Option V8) (k0:ad→ad→Int→Int→Option R) (k1:ad→ad→Int→Int→Option R) (x0 x1:ad) (x2 x3:Int):Option R:=
(wW (fun y0 y1 y2 y3 y4=>al y4 ((wX cj ((wY k0))) y0 y1 y2 y3) (k1 y0 y1 y2 y3)) x0 x1 x2 x3)
theorem aBW (cj) (h36:(je cj).holds cl) (x0 x1 x2 x3):exec cl N DC (e7 x0 x1 x2 x3) K=(wP cj (fun y0 y1 y2 y3=>K .normal (e7 y0 y1 y2 y3)) (fun y0 y1 y2 y3=>K (.exit 0) (e7 y0 y1 y2 y3)) x0 x1 x2 x3):=by
 simp only [DC,aM,aP,aO,aQ,aB2,Tk,aF,bf,akK,ah,ak,aj,bj,cG,aot,Tm,bt,aB3 cj h36,bp,bq,bo,Rp,aB4]
 rfl
def uy {R:Type} (cj:V6→Option V8) (k0:ad→ad→Int→Int→Option R):Nat→ad→ad→Int→Int→Option R
 | 0,_,_,_,_=>none
 | m+1,x0,x1,x2,x3=>(wP cj (uy cj k0 m) k0 x0 x1 x2 x3)
theorem avY (cj) (h36:(je cj).holds cl):∀ (m) (x0 x1 x2 x3),iter [1,2,10,11] (fun env K=>exec cl N DC env K) K m (e7 x0 x1 x2 x3)=uy cj (fun y0 y1 y2 y3=>K (.exit 0) (e7 y0 y1 y2 y3)) m x0 x1 x2 x3:=by
 intro m
 induction m with
 | zero=>intros; rfl
 | succ m ih=>
   intro x0 x1 x2 x3
   simp only [cA,aBW cj h36,cC,cB,cD,Rp,ih]
   rfl
theorem aou (x0 x1 x2 x3):ae [1,2] (e7 x0 x1 x2 x3)=(e6 x0 x1):=by kernel_rfl
def wQ (N:Nat) (cj:V6→Option V8) (k0:ad→ad→Option R) (x0 x1:ad) (x2 x3:Int):Option R:=
uy cj (fun y0 y1 y2 y3=>k0 y0 y1) N x0 x1 x2 x3
theorem aBX (cj) (h36:(je cj).holds cl) (x0 x1 x2 x3):exec cl N Je (e7 x0 x1 x2 x3) K=(wQ N cj (fun y0 y1=>K (.exit 0) (e6 y0 y1)) x0 x1 x2 x3):=by
 simp only [Je,aF,cz,Rp,avY cj h36,aou]
 rfl
theorem aov (x0 x1):ae [1,2] (e6 x0 x1)=(e6 x0 x1):=by kernel_rfl
def wR (k0:ad→Option R) (x0 x1:ad):Option R:=
k0 x0
theorem aBY (x0 x1):exec cl N Jg (e6 x0 x1) K=(wR (fun y0=>K .normal [(2,.loc af .no y0)]) x0 x1):=by
 kernel_rfl
def wU (N:Nat) (eD:b6→Option Dq) (cj:V6→Option V8) (k0:ad→Option R) (x0:ad):Option R:=
(wT eD (wV (wQ N cj ((wR k0)))) x0)
theorem aB0 (eD) (cj) (h35:(lN eD).holds cl) (h36:(je cj).holds cl) (x0):exec cl N Jh [(0,.v af x0)] K=(wU N eD cj (fun y0=>K .ret [(2,.loc af .no y0)]) x0):=by
 simp only [aM,aP,aO,aQ,aBZ eD h35,aB1,Jf,aF,bt,aBX cj h36,bp,bq,bo,aov,aBY,bg]
 rfl
theorem ayB (y0):au d11 .ret [(2,.loc af .no y0)]=some [.v af y0]:=by kernel_rfl
def g11 (N:Nat) (eD:b6→Option Dq) (cj:V6→Option V8) (x0:ad) (k:ad→Option R):Option R:=
(wU N eD cj k x0)
theorem ajC (eD) (cj) (h35:(lN eD).holds cl) (h36:(je cj).holds cl) (x0) (k:List E→Option R):exec cl N Jd [(0,.v af x0)] (fun e env=>(au d11 e env).bind k)=g11 N eD cj x0 (fun r0=>k [.v af r0]):=by
 simp only [Jd,aB0 eD cj h35 h36,ayB,ah]
 rfl
def Ey (S:ad→Option vO):a7:=cw 11 af S fun b=> [.v af b]
def fI (N:Nat) (x0:ad):Option vO:=g11 N (eD N) (cj N) x0 (fun (r0:ad)=>some (r0))
def QQ (k0:Bool→Option R) (x0:Int):Option R:=
al (decide (x0≥(97:Int))) (k0 (decide (x0≤(122:Int)))) (k0 false)
theorem aIJ (x0):exec cl N LX [(0,.v U1 x0)] K=(QQ (fun y0=>exec cl N .ret [(2,.v .bool y0)] K) x0):=by
 kernel_rfl
def QR (k0:Bool→Option R) (x0:Int):Option R:=
(QQ k0 x0)
theorem aIK (x0):exec cl N LX [(0,.v U1 x0)] K=(QR (fun y0=>K .ret [(2,.v .bool y0)]) x0):=by
 simp only [aM,aP,aO,aQ,aIJ,bg]
 rfl
theorem azL (y0):au d61 .ret [(2,.v .bool y0)]=some [.v .bool y0]:=by kernel_rfl
def Hq (x0:Int) (k:Bool→Option R):Option R:=
(QR k x0)
theorem aki (x0) (k:List E→Option R):exec cl N LW [(0,.v U1 x0)] (fun e env=>(au d61 e env).bind k)=Hq x0 (fun r0=>k [.v .bool r0]):=by
 simp only [LW,aIK,azL,ah]
 rfl
def ka (S:Int→Option (Bool)):a7:=cw 61 U1 S fun b=> [.v .bool b]
def bE (N:Nat) (x0:Int):Option (Bool):=Hq x0 (fun (r0:Bool)=>some (r0))
def QS (k0:Bool→Option R) (x0:Int):Option R:=
al (decide (x0≥(48:Int))) (k0 (decide (x0≤(57:Int)))) (k0 false)
theorem aIL (x0):exec cl N LZ [(0,.v U1 x0)] K=(QS (fun y0=>exec cl N .ret [(2,.v .bool y0)] K) x0):=by
 kernel_rfl
def QT (k0:Bool→Option R) (x0:Int):Option R:=
(QS k0 x0)
theorem aIM (x0):exec cl N LZ [(0,.v U1 x0)] K=(QT (fun y0=>K .ret [(2,.v .bool y0)]) x0):=by
 simp only [aM,aP,aO,aQ,aIL,bg]
 rfl
theorem azM (y0):au d62 .ret [(2,.v .bool y0)]=some [.v .bool y0]:=by kernel_rfl
def Hr (x0:Int) (k:Bool→Option R):Option R:=
(QT k x0)
theorem akj (x0) (k:List E→Option R):exec cl N LY [(0,.v U1 x0)] (fun e env=>(au d62 e env).bind k)=Hr x0 (fun r0=>k [.v .bool r0]):=by
 simp only [LY,aIM,azM,ah]
 rfl
def gW (S:Int→Option (Bool)):a7:=cw 62 U1 S fun b=> [.v .bool b]
def aW (N:Nat) (x0:Int):Option (Bool):=Hr x0 (fun (r0:Bool)=>some (r0))
def Ah (k0:V1→Option R) (x0:V1):Option R:=
k0 x0
theorem aHK (x0):exec cl N Zl [(0,.v .str x0)] K=(Ah (fun y0=>K .normal [(0,.v .str y0)]) x0):=by
 kernel_rfl
def Ai (bE:Int→Option (Bool)) (k0:V1→Bool→Option R) (x0:V1):Option R:=
al (x0==([]:List UInt8)) (k0 x0 true) (if 0≤(0:Int)∧(0:Int) < (x0.length:Int) then
(bE ((x0.getD (0:Int).toNat 0).toNat:Int)).bind fun r69=>
k0 x0 (!r69)
else none)
theorem aHL (bE) (h61:(ka bE).holds cl) (x0):exec cl N Zm [(0,.v .str x0)] K=(Ai bE (fun y0 y1=>K .normal (e9 y0 y1)) x0):=by
 rw [←put_eq h61]
 kernel_rfl
def Ao (k0:Int→Option R) (x0:V1) (x1:Bool):Option R:=
k0 (0:Int)
theorem aHR (x0 x1):exec cl N Zv (e9 x0 x1) K=(Ao (fun y0=>K .normal [(2,.v U2 y0)]) x0 x1):=by
 kernel_rfl
theorem arW (x0):ae [0,2] [(2,.v U2 x0)]=(kc x0):=by kernel_rfl
theorem arX (x0 x1):ae [0,2] (e9 x0 x1)=(ke x0):=by kernel_rfl
theorem amf (x0 x1):aD (ag (e9 x0 x1) (.t 12))=some x1:=by kernel_rfl
def Ar (k0:V1→Int→Option R) (x0:V1):Option R:=
k0 x0 (1:Int)
theorem aHU (x0):exec cl N Zy (ke x0) K=(Ar (fun y0 y1=>K .normal (aR y0 y1)) x0):=by
 kernel_rfl
theorem ar1 (x0 x1):ae [0,3] (aR x0 x1)=(aR x0 x1):=by kernel_rfl
def As (k0:V1→Int→Bool→Option R) (x0:V1) (x1:Int):Option R:=
k0 x0 x1 (decide (x1 < (x0.length:Int)))
theorem aHV (x0 x1):exec cl N Zz (aR x0 x1) K=(As (fun y0 y1 y2=>K .normal (Oh y0 y1 y2)) x0 x1):=by
 kernel_rfl
theorem ar2 (x0 x1 x2):ae [0,3] (Oh x0 x1 x2)=(aR x0 x1):=by kernel_rfl
theorem amg (x0 x1 x2):aD (ag (Oh x0 x1 x2) (.t 16))=some x2:=by kernel_rfl
def At (k0:V1→Int→Int→Option R) (x0:V1) (x1:Int):Option R:=
if 0≤x1∧x1 < (x0.length:Int) then
k0 x0 x1 ((x0.getD x1.toNat 0).toNat:Int)
else none
theorem aHW (x0 x1):exec cl N ZB (aR x0 x1) K=(At (fun y0 y1 y2=>K .normal [(0,.v .str y0),(3,.v U2 y1),(4,.v U1 y2)]) x0 x1):=by
 kernel_rfl
def Au (bE:Int→Option (Bool)) (aW:Int→Option (Bool)) (k0:V1→Int→Int→Bool→Option R) (x0:V1) (x1 x2:Int):Option R:=
(bE x2).bind fun r72=>
al r72 (k0 x0 x1 x2 true) ((aW x2).bind fun r73=>
k0 x0 x1 x2 r73)
theorem aHX (bE) (aW) (h61:(ka bE).holds cl) (h62:(gW aW).holds cl) (x0 x1 x2):exec cl N ZC [(0,.v .str x0),(3,.v U2 x1),(4,.v U1 x2)] K=(Au bE aW (fun y0 y1 y2 y3=>K .normal (Fj y0 y1 y2 y3)) x0 x1 x2):=by
 rw [←put_eq h61]
 rw [←put_eq h62]
 kernel_rfl
def Av (k0:V1→Int→Option R) (x0:V1) (x1 x2:Int) (x3:Bool):Option R:=
k0 x0 (IntKind.i64.wrap (x1+(1:Int)))
theorem aHY (x0 x1 x2 x3):exec cl N ZD (Fj x0 x1 x2 x3) K=(Av (fun y0 y1=>K .normal (aR y0 y1)) x0 x1 x2 x3):=by
 kernel_rfl
theorem ar3 (x0 x1):ae [0,2,3] (aR x0 x1)=(gM x0 x1):=by kernel_rfl
def Aj (bE:Int→Option (Bool)) (aW:Int→Option (Bool)) (k0:V1→Int→Bool→Option R) (x0:V1) (x1 x2:Int) (x3:Bool):Option R:=
al (x2==(45:Int)) (al (decide ((IntKind.i64.wrap (x1+(1:Int))) < (x0.length:Int))) (let v78:Int:=(IntKind.i64.wrap (x1+(1:Int)))
if 0≤v78∧v78 < (x0.length:Int) then
(bE ((x0.getD v78.toNat 0).toNat:Int)).bind fun r80=>
al r80 (k0 x0 x1 true) (let v81:Int:=(IntKind.i64.wrap (x1+(1:Int)))
if 0≤v81∧v81 < (x0.length:Int) then
(aW ((x0.getD v81.toNat 0).toNat:Int)).bind fun r83=>
k0 x0 x1 r83
else none)
else none) (k0 x0 x1 false)) (k0 x0 x1 false)
theorem aHM (bE) (aW) (h61:(ka bE).holds cl) (h62:(gW aW).holds cl) (x0 x1 x2 x3):exec cl N Zn (Fj x0 x1 x2 x3) K=(Aj bE aW (fun y0 y1 y2=>K .normal (rE y0 y1 y2)) x0 x1 x2 x3):=by
 rw [←put_eq h61]
 rw [←put_eq h62]
 kernel_rfl
def Ak (k0:V1→Int→Option R) (x0:V1) (x1:Int) (x2:Bool):Option R:=
k0 x0 (IntKind.i64.wrap (x1+(2:Int)))
theorem aHN (x0 x1 x2):exec cl N Zo (rE x0 x1 x2) K=(Ak (fun y0 y1=>K .normal (aR y0 y1)) x0 x1 x2):=by
 kernel_rfl
def Al (k0:Int→Option R) (x0:V1) (x1:Int) (x2:Bool):Option R:=
k0 x1
theorem aHO (x0 x1 x2):exec cl N Zp (rE x0 x1 x2) K=(Al (fun y0=>K .normal [(2,.v U2 y0)]) x0 x1 x2):=by
 kernel_rfl
theorem ar4 (x0):ae [0,2,3] [(2,.v U2 x0)]=(fi x0):=by kernel_rfl
theorem amh (x0 x1 x2):aD (ag (rE x0 x1 x2) (.t 30))=some x2:=by kernel_rfl
theorem ar5 (x0 x1):ae [0,2,3] (gM x0 x1)=(gM x0 x1):=by kernel_rfl
theorem ar6 (x0):ae [0,2,3] (fi x0)=(fi x0):=by kernel_rfl
theorem ami (x0 x1 x2 x3):aD (ag (Fj x0 x1 x2 x3) (.t 21))=some x3:=by kernel_rfl
def Am (bE:Int→Option (Bool)) (aW:Int→Option (Bool)) (k0:V1→Int→Option R) (k1:Int→Option R) (k2:V1→Int→Option R) (x0:V1) (x1:Int):Option R:=
(As (fun y0 y1 y2=>al y2 ((At (Au bE aW (fun y0 y1 y2 y3=>al y3 (Av k0 y0 y1 y2 y3) (Aj bE aW (fun y0 y1 y2=>al y2 (Ak k0 y0 y1 y2) (Al k1 y0 y1 y2)) y0 y1 y2 y3)))) y0 y1) (k2 y0 y1)) x0 x1)
theorem aHP (bE) (aW) (h61:(ka bE).holds cl) (h62:(gW aW).holds cl) (x0 x1):exec cl N D0 (aR x0 x1) K=(Am bE aW (fun y0 y1=>K .normal (gM y0 y1)) (fun y0=>K .ret (fi y0)) (fun y0 y1=>K (.exit 0) (aR y0 y1)) x0 x1):=by
 simp only [D0,aM,aP,aO,aQ,aHV,ZA,aF,bf,amg,ah,ak,aj,bj,cG,ar2,Zt,bt,aHW,Zs,aHX bE aW h61 h62,Zr,ami,aHY,aHM bE aW h61 h62,Zq,amh,aHN,aHO,bg,ar3,ar4,ar5,ar6,bp,bq,bo]
 rfl
theorem ar7 (x0 x1):ae [0,3] (gM x0 x1)=(aR x0 x1):=by kernel_rfl
def CL {R:Type} (bE:Int→Option (Bool)) (aW:Int→Option (Bool)) (k0:Int→Option R) (k1:V1→Int→Option R):Nat→V1→Int→Option R
 | 0,_,_=>none
 | m+1,x0,x1=>(Am bE aW (CL bE aW k0 k1 m) k0 k1 x0 x1)
theorem awj (bE) (aW) (h61:(ka bE).holds cl) (h62:(gW aW).holds cl):∀ (m) (x0 x1),iter [0,3] (fun env K=>exec cl N D0 env K) K m (aR x0 x1)=CL bE aW (fun y0=>K .ret (fi y0)) (fun y0 y1=>K (.exit 0) (aR y0 y1)) m x0 x1:=by
 intro m
 induction m with
 | zero=>intros; rfl
 | succ m ih=>
   intro x0 x1
   simp only [cA,aHP bE aW h61 h62,cC,cB,cD,ar7,ih]
   rfl
theorem ar8 (x0):ae [2,3] (fi x0)=(kj x0):=by kernel_rfl
theorem arY (x0 x1):ae [2,3] (aR x0 x1)=(mo x1):=by kernel_rfl
def An (N:Nat) (bE:Int→Option (Bool)) (aW:Int→Option (Bool)) (k0:Int→Option R) (k1:Int→Option R) (x0:V1) (x1:Int):Option R:=
CL bE aW k0 (fun y0 y1=>k1 y1) N x0 x1
theorem aHQ (bE) (aW) (h61:(ka bE).holds cl) (h62:(gW aW).holds cl) (x0 x1):exec cl N LF (aR x0 x1) K=(An N bE aW (fun y0=>K .ret (kj y0)) (fun y0=>K (.exit 0) (mo y0)) x0 x1):=by
 simp only [LF,aF,cz,ar1,awj bE aW h61 h62,arY,ar8]
 rfl
theorem arZ (x0):ae [2,3] (kj x0)=(kj x0):=by kernel_rfl
theorem ar0 (x0):ae [2,3] (mo x0)=(mo x0):=by kernel_rfl
def Ap (k0:Int→Option R) (x0:Int):Option R:=
k0 x0
theorem aHS (x0):exec cl N Zw (mo x0) K=(Ap (fun y0=>K .normal [(2,.v U2 y0)]) x0):=by
 kernel_rfl
def Aq (N:Nat) (bE:Int→Option (Bool)) (aW:Int→Option (Bool)) (k0:Int→Option R) (k1:Int→Option R) (k2:Int→Option R) (x0:V1):Option R:=
(Ah (Ai bE (fun y0 y1=>al y1 (Ao k0 y0 y1) ((Ar (An N bE aW k1 ((Ap k2)))) y0))) x0)
theorem aHT (bE) (aW) (h61:(ka bE).holds cl) (h62:(gW aW).holds cl) (x0):exec cl N LG [(0,.v .str x0)] K=(Aq N bE aW (fun y0=>K .ret (kc y0)) (fun y0=>K .ret (kj y0)) (fun y0=>K .ret [(2,.v U2 y0)]) x0):=by
 simp only [LG,aM,aP,aO,aQ,aHK,aHL bE h61,Zx,aF,bf,amf,ah,ak,aj,aHR,bg,bj,arW,arX,aHU,Zu,bt,aHQ bE aW h61 h62,bp,bq,bo,arZ,ar0,aHS]
 rfl
theorem azA (y0):au d55 .ret (kc y0)=some [.v U2 y0]:=by kernel_rfl
theorem azB (y0):au d55 .ret (kj y0)=some [.v U2 y0]:=by kernel_rfl
theorem azC (y0):au d55 .ret [(2,.v U2 y0)]=some [.v U2 y0]:=by kernel_rfl
def ud (N:Nat) (bE:Int→Option (Bool)) (aW:Int→Option (Bool)) (x0:V1) (k:Int→Option R):Option R:=
(Aq N bE aW k k k x0)
theorem akb (bE) (aW) (h61:(ka bE).holds cl) (h62:(gW aW).holds cl) (x0) (k:List E→Option R):exec cl N LD [(0,.v .str x0)] (fun e env=>(au d55 e env).bind k)=ud N bE aW x0 (fun r0=>k [.v U2 r0]):=by
 simp only [LD,aHT bE aW h61 h62,azA,azB,azC,ah]
 rfl
def rh (S:V1→Option (Int)):a7:=cw 55 .str S fun b=> [.v U2 b]
def cK (N:Nat) (x0:V1):Option (Int):=ud N (bE N) (aW N) x0 (fun (r0:Int)=>some (r0))
def PG (cK:V1→Option (Int)) (k0:Bool→Option R) (x0:V1):Option R:=
al (x0 != ([]:List UInt8)) (al (decide ((x0.length:Int)≤(20:Int))) ((cK x0).bind fun r89=>
k0 (r89==(x0.length:Int))) (k0 false)) (k0 false)
theorem aE4 (cK) (h55:(rh cK).holds cl) (x0):exec cl N KC [(0,.v .str x0)] K=(PG cK (fun y0=>exec cl N .ret [(2,.v .bool y0)] K) x0):=by
 rw [←put_eq h55]
 kernel_rfl
def PH (cK:V1→Option (Int)) (k0:Bool→Option R) (x0:V1):Option R:=
(PG cK k0 x0)
theorem aE5 (cK) (h55:(rh cK).holds cl) (x0):exec cl N KC [(0,.v .str x0)] K=(PH cK (fun y0=>K .ret [(2,.v .bool y0)]) x0):=by
 simp only [aM,aP,aO,aQ,aE4 cK h55,bg]
 rfl
theorem ay8 (y0):au d38 .ret [(2,.v .bool y0)]=some [.v .bool y0]:=by kernel_rfl
def Hi (cK:V1→Option (Int)) (x0:V1) (k:Bool→Option R):Option R:=
(PH cK k x0)
theorem ajW (cK) (h55:(rh cK).holds cl) (x0) (k:List E→Option R):exec cl N KB [(0,.v .str x0)] (fun e env=>(au d38 e env).bind k)=Hi cK x0 (fun r0=>k [.v .bool r0]):=by
 simp only [KB,aE5 cK h55,ay8,ah]
 rfl
def EC (S:V1→Option (Bool)):a7:=cw 38 .str S fun b=> [.v .bool b]
def ft (N:Nat) (x0:V1):Option (Bool):=Hi (cK N) x0 (fun (r0:Bool)=>some (r0))
def aeT (eM:V1→Int→Option (Int)) (k0:Int→Option R) (x0:V1) (x1:Int):Option R:=
(eM x0 x1).bind fun r106=>
k0 r106
theorem aI5 (eM) (h78:(lP eM).holds cl) (x0 x1):exec cl N Mc [(0,.v .str x0),(1,.v U1 x1)] K=(aeT eM (fun y0=>exec cl N .ret [(4,.v U2 y0)] K) x0 x1):=by
 rw [←put_eq h78]
 kernel_rfl
def aeU (eM:V1→Int→Option (Int)) (k0:Int→Option R) (x0:V1) (x1:Int):Option R:=
(aeT eM k0 x0 x1)
theorem aI6 (eM) (h78:(lP eM).holds cl) (x0 x1):exec cl N Mc [(0,.v .str x0),(1,.v U1 x1)] K=(aeU eM (fun y0=>K .ret [(4,.v U2 y0)]) x0 x1):=by
 simp only [aM,aP,aO,aQ,aI5 eM h78,bg]
 rfl
theorem azQ (y0):au d65 .ret [(4,.v U2 y0)]=some [.v U2 y0]:=by kernel_rfl
def QU (eM:V1→Int→Option (Int)) (x0:V1) (x1:Int) (k:Int→Option R):Option R:=
(aeU eM k x0 x1)
theorem akm (eM) (h78:(lP eM).holds cl) (x0 x1) (k:List E→Option R):exec cl N Mb [(0,.v .str x0),(1,.v U1 x1)] (fun e env=>(au d65 e env).bind k)=QU eM x0 x1 (fun r0=>k [.v U2 r0]):=by
 simp only [Mb,aI6 eM h78,azQ,ah]
 rfl
def rp (S:V1→Int→Option (Int)):a7:=jK 65 .str U1 S fun b=> [.v U2 b]
def df (N:Nat) (x0:V1) (x1:Int):Option (Int):=QU (eM N) x0 x1 (fun (r0:Int)=>some (r0))
def afh (df:V1→Int→Option (Int)) (k0:Bool→Option R) (x0:Int):Option R:=
al (decide (x0≥(32:Int))) (al (decide (x0≤(126:Int))) ((df ([32,46,44,59,58,33,63,34,45,91,93,60,62,123,125]:List UInt8) x0).bind fun r111=>
k0 (decide (r111 < (0:Int)))) (k0 false)) (k0 false)
theorem aLw (df) (h65:(rp df).holds cl) (x0):exec cl N NF [(0,.v U1 x0)] K=(afh df (fun y0=>exec cl N .ret [(2,.v .bool y0)] K) x0):=by
 rw [←put_eq h65]
 kernel_rfl
def afi (df:V1→Int→Option (Int)) (k0:Bool→Option R) (x0:Int):Option R:=
(afh df k0 x0)
theorem aLx (df) (h65:(rp df).holds cl) (x0):exec cl N NF [(0,.v U1 x0)] K=(afi df (fun y0=>K .ret [(2,.v .bool y0)]) x0):=by
 simp only [aM,aP,aO,aQ,aLw df h65,bg]
 rfl
theorem aAk (y0):au d86 .ret [(2,.v .bool y0)]=some [.v .bool y0]:=by kernel_rfl
def Q9 (df:V1→Int→Option (Int)) (x0:Int) (k:Bool→Option R):Option R:=
(afi df k x0)
theorem akC (df) (h65:(rp df).holds cl) (x0) (k:List E→Option R):exec cl N ND [(0,.v U1 x0)] (fun e env=>(au d86 e env).bind k)=Q9 df x0 (fun r0=>k [.v .bool r0]):=by
 simp only [ND,aLx df h65,aAk,ah]
 rfl
def EP (S:Int→Option (Bool)):a7:=cw 86 U1 S fun b=> [.v .bool b]
def fR (N:Nat) (x0:Int):Option (Bool):=Q9 (df N) x0 (fun (r0:Bool)=>some (r0))
def Q7 (fR:Int→Option (Bool)) (k0:Bool→Option R) (x0:Int):Option R:=
(fR x0).bind fun r114=>
k0 (!r114)
theorem aLu (fR) (h86:(EP fR).holds cl) (x0):exec cl N NC [(0,.v U1 x0)] K=(Q7 fR (fun y0=>exec cl N .ret [(2,.v .bool y0)] K) x0):=by
 rw [←put_eq h86]
 kernel_rfl
def Q8 (fR:Int→Option (Bool)) (k0:Bool→Option R) (x0:Int):Option R:=
(Q7 fR k0 x0)
theorem aLv (fR) (h86:(EP fR).holds cl) (x0):exec cl N NC [(0,.v U1 x0)] K=(Q8 fR (fun y0=>K .ret [(2,.v .bool y0)]) x0):=by
 simp only [aM,aP,aO,aQ,aLu fR h86,bg]
 rfl
theorem aAj (y0):au d85 .ret [(2,.v .bool y0)]=some [.v .bool y0]:=by kernel_rfl
def Hx (fR:Int→Option (Bool)) (x0:Int) (k:Bool→Option R):Option R:=
(Q8 fR k x0)
theorem akB (fR) (h86:(EP fR).holds cl) (x0) (k:List E→Option R):exec cl N NB [(0,.v U1 x0)] (fun e env=>(au d85 e env).bind k)=Hx fR x0 (fun r0=>k [.v .bool r0]):=by
 simp only [NB,aLv fR h86,aAj,ah]
 rfl
def rB (S:Int→Option (Bool)):a7:=cw 85 U1 S fun b=> [.v .bool b]
def cN (N:Nat) (x0:Int):Option (Bool):=Hx (fR N) x0 (fun (r0:Bool)=>some (r0))
def Cm (k0:V0→dD→Option R) (x0:V0) (x1:dD):Option R:=
k0 x0 x1
theorem aL7 (x0 x1):exec cl N adf (o4 x0 x1) K=(Cm (fun y0 y1=>K .normal (o4 y0 y1)) x0 x1):=by
 kernel_rfl
def Cn (k0:V0→dD→Int→Int→Option R) (x0:V0) (x1:dD):Option R:=
k0 x0 x1 (x0.length:Int) (0:Int)
theorem aL8 (x0 x1):exec cl N adg (o4 x0 x1) K=(Cn (fun y0 y1 y2 y3=>K .normal (ji y0 y1 y2 y3)) x0 x1):=by
 kernel_rfl
theorem agA (x0 x1 x2 x3):ae [0,1,7,8] (ji x0 x1 x2 x3)=(ji x0 x1 x2 x3):=by kernel_rfl
def Ct (k0:V0→dD→Int→Int→Bool→Option R) (x0:V0) (x1:dD) (x2 x3:Int):Option R:=
k0 x0 x1 x2 x3 (decide (x3 < x2))
theorem aMe (x0 x1 x2 x3):exec cl N adk (ji x0 x1 x2 x3) K=(Ct (fun y0 y1 y2 y3 y4=>K .normal (OC y0 y1 y2 y3 y4)) x0 x1 x2 x3):=by
 kernel_rfl
theorem auP (x0 x1 x2 x3 x4):ae [0,1,7,8] (OC x0 x1 x2 x3 x4)=(ji x0 x1 x2 x3):=by kernel_rfl
theorem ani (x0 x1 x2 x3 x4):aD (ag (OC x0 x1 x2 x3 x4) (.t 9))=some x4:=by kernel_rfl
def Cv (k0:V0→dD→Int→Int→Int→Bool→Option R) (x0:V0) (x1:dD) (x2 x3:Int):Option R:=
if 0≤x3∧x3 < (x0.length:Int) then
(x1 ((x0.getD x3.toNat (0:Int)),())).bind fun r121=>
k0 x0 x1 x3 x2 x3 r121
else none
theorem aMg (x0 x1 x2 x3):exec cl N adn (ji x0 x1 x2 x3) K=(Cv (fun y0 y1 y2 y3 y4 y5=>exec cl N NQ (FW y0 y1 y2 y3 y4 y5) K) x0 x1 x2 x3):=by
 kernel_rfl
def Cu (k0:Int→Option R) (x0:V0) (x1:dD) (x2 x3 x4:Int) (x5:Bool):Option R:=
k0 x2
theorem aMf (x0 x1 x2 x3 x4 x5):exec cl N adm (FW x0 x1 x2 x3 x4 x5) K=(Cu (fun y0=>K .normal [(4,.v U2 y0)]) x0 x1 x2 x3 x4 x5):=by
 kernel_rfl
theorem auQ (x0):ae [0,1,4,7,8] [(4,.v U2 x0)]=(kl x0):=by kernel_rfl
theorem auR (x0 x1 x2 x3 x4 x5):ae [0,1,4,7,8] (FW x0 x1 x2 x3 x4 x5)=(F5 x0 x1 x3 x4):=by kernel_rfl
theorem anj (x0 x1 x2 x3 x4 x5):aD (ag (FW x0 x1 x2 x3 x4 x5) (.t 16))=some x5:=by kernel_rfl
theorem auS (x0):ae [0,1,4,7,8] (kl x0)=(kl x0):=by kernel_rfl
theorem auT (x0 x1 x2 x3):ae [0,1,4,7,8] (F5 x0 x1 x2 x3)=(F5 x0 x1 x2 x3):=by kernel_rfl
def Co (k0:V0→dD→Int→Int→Option R) (x0:V0) (x1:dD) (x2 x3:Int):Option R:=
k0 x0 x1 x2 (IntKind.i64.wrap (x3+(1:Int)))
theorem aL9 (x0 x1 x2 x3):exec cl N adh (F5 x0 x1 x2 x3) K=(Co (fun y0 y1 y2 y3=>K .normal (ji y0 y1 y2 y3)) x0 x1 x2 x3):=by
 kernel_rfl
def Cp (k0:Int→Option R) (k1:V0→dD→Int→Int→Option R) (k2:V0→dD→Int→Int→Option R) (x0:V0) (x1:dD) (x2 x3:Int):Option R:=
(Ct (fun y0 y1 y2 y3 y4=>al y4 ((Cv (fun y0 y1 y2 y3 y4 y5=>al y5 (Cu k0 y0 y1 y2 y3 y4 y5) (((Co k1)) y0 y1 y3 y4))) y0 y1 y2 y3) (k2 y0 y1 y2 y3)) x0 x1 x2 x3)
theorem aMa (x0 x1 x2 x3):exec cl N Ek (ji x0 x1 x2 x3) K=(Cp (fun y0=>K .ret (kl y0)) (fun y0 y1 y2 y3=>K .normal (ji y0 y1 y2 y3)) (fun y0 y1 y2 y3=>K (.exit 0) (ji y0 y1 y2 y3)) x0 x1 x2 x3):=by
 simp only [Ek,aM,aP,aO,aQ,aMe,adl,aF,bf,ani,ah,ak,aj,bj,cG,auP,ado,bt,aMg,NQ,anj,aMf,bg,auQ,auR,bp,bq,bo,auS,auT,aL9]
 rfl
def uY {R:Type} (k0:Int→Option R) (k1:V0→dD→Int→Int→Option R):Nat→V0→dD→Int→Int→Option R
 | 0,_,_,_,_=>none
 | m+1,x0,x1,x2,x3=>(Cp k0 (uY k0 k1 m) k1 x0 x1 x2 x3)
theorem awD:∀ (m) (x0 x1 x2 x3),iter [0,1,7,8] (fun env K=>exec cl N Ek env K) K m (ji x0 x1 x2 x3)=uY (fun y0=>K .ret (kl y0)) (fun y0 y1 y2 y3=>K (.exit 0) (ji y0 y1 y2 y3)) m x0 x1 x2 x3:=by
 intro m
 induction m with
 | zero=>intros; rfl
 | succ m ih=>
   intro x0 x1 x2 x3
   simp only [cA,aMa,cC,cB,cD,agA,ih]
   rfl
theorem auU (x0):ae [4] (kl x0)=[(4,.v U2 x0)]:=by kernel_rfl
theorem auV (x0 x1 x2 x3):ae [4] (ji x0 x1 x2 x3)=[(4,.dead)]:=by kernel_rfl
def Cq (N:Nat) (k0:Int→Option R) (k1:Option R) (x0:V0) (x1:dD) (x2 x3:Int):Option R:=
uY k0 (fun y0 y1 y2 y3=>k1) N x0 x1 x2 x3
theorem aMb (x0 x1 x2 x3):exec cl N NO (ji x0 x1 x2 x3) K=(Cq N (fun y0=>K .ret [(4,.v U2 y0)]) (K (.exit 0) [(4,.dead)]) x0 x1 x2 x3):=by
 simp only [NO,aF,cz,agA,awD,auU,auV]
 rfl
theorem auW (x0):ae [4] [(4,.v U2 x0)]=[(4,.v U2 x0)]:=by kernel_rfl
theorem auX:ae [4] [(4,.dead)]=[(4,.dead)]:=by kernel_rfl
def Cr (k0:Int→Option R):Option R:=
k0 (-1:Int)
theorem aMc:exec cl N adj [(4,.dead)] K=(Cr (fun y0=>K .normal [(4,.v U2 y0)])):=by
 kernel_rfl
def Cs (N:Nat) (k0:Int→Option R) (x0:V0) (x1:dD):Option R:=
(Cm (Cn (Cq N k0 (Cr k0))) x0 x1)
theorem aMd (x0 x1):exec cl N NP (o4 x0 x1) K=(Cs N (fun y0=>K .ret [(4,.v U2 y0)]) x0 x1):=by
 simp only [NP,aM,aP,aO,aQ,aL7,aL8,adi,aF,bt,aMb,bp,bq,bo,auW,auX,aMc,bg]
 rfl
theorem aAo (y0):au d94 .ret [(4,.v U2 y0)]=some [.v U2 y0]:=by kernel_rfl
def ur (N:Nat) (x0:V0) (x1:dD) (k:Int→Option R):Option R:=
(Cs N k x0 x1)
theorem akF (x0 x1) (k:List E→Option R):exec cl N NN (o4 x0 x1) (fun e env=>(au d94 e env).bind k)=ur N x0 x1 (fun r0=>k [.v U2 r0]):=by
 simp only [NN,aMd,aAo,ah]
 rfl
def ES (S:V0→dD→Option (Int)):a7:=jK 94 U3 U8 S fun b=> [.v U2 b]
def fS (N:Nat) (x0:V0) (x1:dD):Option (Int):=ur N x0 x1 (fun (r0:Int)=>some (r0))
def Q5 (fS:V0→dD→Option (Int)) (k0:Bool→Option R) (x0:V0) (x1:dD):Option R:=
(fS x0 x1).bind fun r125=>
k0 (decide (r125≥(0:Int)))
theorem aLs (fS) (h94:(ES fS).holds cl) (x0 x1):exec cl N NA (o4 x0 x1) K=(Q5 fS (fun y0=>exec cl N .ret [(4,.v .bool y0)] K) x0 x1):=by
 rw [←put_eq h94]
 kernel_rfl
def Q6 (fS:V0→dD→Option (Int)) (k0:Bool→Option R) (x0:V0) (x1:dD):Option R:=
(Q5 fS k0 x0 x1)
theorem aLt (fS) (h94:(ES fS).holds cl) (x0 x1):exec cl N NA (o4 x0 x1) K=(Q6 fS (fun y0=>K .ret [(4,.v .bool y0)]) x0 x1):=by
 simp only [aM,aP,aO,aQ,aLs fS h94,bg]
 rfl
theorem aAi (y0):au d84 .ret [(4,.v .bool y0)]=some [.v .bool y0]:=by kernel_rfl
def Hw (fS:V0→dD→Option (Int)) (x0:V0) (x1:dD) (k:Bool→Option R):Option R:=
(Q6 fS k x0 x1)
theorem akA (fS) (h94:(ES fS).holds cl) (x0 x1) (k:List E→Option R):exec cl N Nz (o4 x0 x1) (fun e env=>(au d84 e env).bind k)=Hw fS x0 x1 (fun r0=>k [.v .bool r0]):=by
 simp only [Nz,aLt fS h94,aAi,ah]
 rfl
def rA (S:V0→dD→Option (Bool)):a7:=jK 84 U3 U8 S fun b=> [.v .bool b]
def dc (N:Nat) (x0:V0) (x1:dD):Option (Bool):=Hw (fS N) x0 x1 (fun (r0:Bool)=>some (r0))
def afj (k0:V6→V1→Option R) (x0:V6) (x1:V1):Option R:=
k0 x0 x1
theorem aLy (x0 x1):exec cl N acy (gO x0 x1) K=(afj (fun y0 y1=>K .normal (gO y0 y1)) x0 x1):=by
 kernel_rfl
def afk (k0:V6→V1→Int→Option R) (x0:V6) (x1:V1):Option R:=
k0 x0 x1 (x0.length:Int)
theorem aLz (x0 x1):exec cl N acz (gO x0 x1) K=(afk (fun y0 y1 y2=>K .normal [(0,.v U0 y0),(1,.v .str y1),(12,.v U2 y2)]) x0 x1):=by
 kernel_rfl
def afs (k0:V6→V1→Int→Bool→Option R) (x0:V6) (x1:V1) (x2:Int):Option R:=
k0 x0 x1 x2 (x2==(0:Int))
theorem aLH (x0 x1 x2):exec cl N acJ [(0,.v U0 x0),(1,.v .str x1),(12,.v U2 x2)] K=(afs (fun y0 y1 y2 y3=>K .normal (Gh y0 y1 y2 y3)) x0 x1 x2):=by
 kernel_rfl
def afA (k0:V1→Option R) (x0:V6) (x1:V1) (x2:Int) (x3:Bool):Option R:=
k0 ([]:List UInt8)
theorem aLP (x0 x1 x2 x3):exec cl N acS (Gh x0 x1 x2 x3) K=(afA (fun y0=>K .normal [(4,.v .str y0)]) x0 x1 x2 x3):=by
 kernel_rfl
theorem auu (x0):ae [0,1,4] [(4,.v .str x0)]=(o5 x0):=by kernel_rfl
def afB (k0:V6→V1→Bool→Option R) (x0:V6) (x1:V1) (x2:Int) (x3:Bool):Option R:=
k0 x0 x1 (x2==(1:Int))
theorem aLQ (x0 x1 x2 x3):exec cl N acT (Gh x0 x1 x2 x3) K=(afB (fun y0 y1 y2=>K .normal (Gs y0 y1 y2)) x0 x1 x2 x3):=by
 kernel_rfl
def afE (k0:V1→Option R) (x0:V6) (x1:V1) (x2:Bool):Option R:=
if 0≤(0:Int)∧(0:Int) < (x0.length:Int) then
k0 (x0.getD (0:Int).toNat [])
else none
theorem aLT (x0 x1 x2):exec cl N acV (Gs x0 x1 x2) K=(afE (fun y0=>K .normal [(4,.v .str y0)]) x0 x1 x2):=by
 kernel_rfl
theorem auv (x0 x1 x2):ae [0,1,4] (Gs x0 x1 x2)=(Gw x0 x1):=by kernel_rfl
theorem am8 (x0 x1 x2):aD (ag (Gs x0 x1 x2) (.t 15))=some x2:=by kernel_rfl
theorem auy (x0):ae [0,1,4] (o5 x0)=(o5 x0):=by kernel_rfl
theorem auz (x0 x1):ae [0,1,4] (Gw x0 x1)=(Gw x0 x1):=by kernel_rfl
theorem am9 (x0 x1 x2 x3):aD (ag (Gh x0 x1 x2 x3) (.t 13))=some x3:=by kernel_rfl
def afF (k0:V6→V1→Int→Option R) (x0:V6) (x1:V1):Option R:=
k0 x0 x1 (0:Int)
theorem aLU (x0 x1):exec cl N acZ (Gw x0 x1) K=(afF (fun y0 y1 y2=>K .normal (eF y0 y1 y2)) x0 x1):=by
 kernel_rfl
def afl (k0:V6→V1→Int→Bool→Option R) (x0:V6) (x1:V1) (x2:Int):Option R:=
k0 x0 x1 x2 (decide ((x1.length:Int) > (0:Int)))
theorem aLA (x0 x1 x2):exec cl N acA (eF x0 x1 x2) K=(afl (fun y0 y1 y2 y3=>K .normal (GF y0 y1 y2 y3)) x0 x1 x2):=by
 kernel_rfl
def afm (k0:V6→V1→Int→Bool→Option R) (x0:V6) (x1:V1) (x2:Int) (x3:Bool):Option R:=
let v146:Int:=(IntKind.i64.wrap ((x0.length:Int) - (1:Int)))
if v146=0 then none else
k0 x0 x1 x2 (decide ((x1.length:Int)≥(IntKind.i64.wrap (Int.tdiv (9223372036854775807:Int) v146))))
theorem aLB (x0 x1 x2 x3):exec cl N acB (GF x0 x1 x2 x3) K=(afm (fun y0 y1 y2 y3=>K .normal (GG y0 y1 y2 y3)) x0 x1 x2 x3):=by
 kernel_rfl
def afn (x0:V6) (x1:V1) (x2:Int) (x3:Bool):Option R:=
none /- operation makeInterface -/
theorem aLC (x0 x1 x2 x3):exec cl N acC (GG x0 x1 x2 x3) K=(afn x0 x1 x2 x3):=by
 kernel_rfl
theorem auA (x0 x1 x2 x3):ae [0,1,5] (GG x0 x1 x2 x3)=(eF x0 x1 x2):=by kernel_rfl
theorem ana (x0 x1 x2 x3):aD (ag (GG x0 x1 x2 x3) (.t 29))=some x3:=by kernel_rfl
def afo (k0:V6→V1→Int→Option R) (x0:V6) (x1:V1) (x2:Int):Option R:=
k0 x0 x1 (IntKind.i64.wrap (x2+(IntKind.i64.wrap ((x1.length:Int) * (IntKind.i64.wrap ((x0.length:Int) - (1:Int)))))))
theorem aLD (x0 x1 x2):exec cl N acE (eF x0 x1 x2) K=(afo (fun y0 y1 y2=>K .normal (eF y0 y1 y2)) x0 x1 x2):=by
 kernel_rfl
theorem agy (x0 x1 x2):ae [0,1,5] (eF x0 x1 x2)=(eF x0 x1 x2):=by kernel_rfl
theorem auB (x0 x1 x2 x3):ae [0,1,5] (GF x0 x1 x2 x3)=(eF x0 x1 x2):=by kernel_rfl
theorem anb (x0 x1 x2 x3):aD (ag (GF x0 x1 x2 x3) (.t 22))=some x3:=by kernel_rfl
def afp (k0:V6→V1→Int→Option R) (x0:V6) (x1:V1) (x2:Int):Option R:=
(afl (fun y0 y1 y2 y3=>al y3 (afm (fun y0 y1 y2 y3=>al y3 (afn y0 y1 y2 y3) ((afo k0) y0 y1 y2)) y0 y1 y2 y3) (k0 y0 y1 y2)) x0 x1 x2)
theorem aLE (x0 x1 x2):exec cl N NH (eF x0 x1 x2) K=(afp (fun y0 y1 y2=>K .normal (eF y0 y1 y2)) x0 x1 x2):=by
 simp only [NH,aM,aP,aO,aQ,aLA,acF,aF,bf,anb,ah,ak,aj,aLB,acD,ana,aLC,bj,auA,aLD,agy,auB]
 rfl
def afq (k0:V6→V1→Int→V6→Int→Int→Option R) (x0:V6) (x1:V1) (x2:Int):Option R:=
k0 x0 x1 x2 x0 (x0.length:Int) (0:Int)
theorem aLF (x0 x1 x2):exec cl N acG (eF x0 x1 x2) K=(afq (fun y0 y1 y2 y3 y4 y5=>K .normal (hZ y0 y1 y2 y3 y4 y5)) x0 x1 x2):=by
 kernel_rfl
theorem RE (x0 x1 x2 x3 x4 x5):ae [0,1,5,39,40,41] (hZ x0 x1 x2 x3 x4 x5)=(hZ x0 x1 x2 x3 x4 x5):=by kernel_rfl
def afr (k0:V6→V1→Int→V6→Int→Int→Bool→Option R) (x0:V6) (x1:V1) (x2:Int) (x3:V6) (x4 x5:Int):Option R:=
k0 x0 x1 x2 x3 x4 x5 (decide (x5 < x4))
theorem aLG (x0 x1 x2 x3 x4 x5):exec cl N acH (hZ x0 x1 x2 x3 x4 x5) K=(afr (fun y0 y1 y2 y3 y4 y5 y6=>K .normal (OY y0 y1 y2 y3 y4 y5 y6)) x0 x1 x2 x3 x4 x5):=by
 kernel_rfl
theorem auC (x0 x1 x2 x3 x4 x5 x6):ae [0,1,5,39,40,41] (OY x0 x1 x2 x3 x4 x5 x6)=(hZ x0 x1 x2 x3 x4 x5):=by kernel_rfl
theorem anc (x0 x1 x2 x3 x4 x5 x6):aD (ag (OY x0 x1 x2 x3 x4 x5 x6) (.t 42))=some x6:=by kernel_rfl
def aft (k0:V6→V1→Int→V1→V6→Int→Int→Option R) (x0:V6) (x1:V1) (x2:Int) (x3:V6) (x4 x5:Int):Option R:=
if 0≤x5∧x5 < (x3.length:Int) then
k0 x0 x1 x2 (x3.getD x5.toNat []) x3 x4 x5
else none
theorem aLI (x0 x1 x2 x3 x4 x5):exec cl N acK (hZ x0 x1 x2 x3 x4 x5) K=(aft (fun y0 y1 y2 y3 y4 y5 y6=>K .normal (GH y0 y1 y2 y3 y4 y5 y6)) x0 x1 x2 x3 x4 x5):=by
 kernel_rfl
def afu (k0:V6→V1→Int→V1→V6→Int→Int→Bool→Option R) (x0:V6) (x1:V1) (x2:Int) (x3:V1) (x4:V6) (x5 x6:Int):Option R:=
k0 x0 x1 x2 x3 x4 x5 x6 (decide ((x3.length:Int) > (IntKind.i64.wrap ((9223372036854775807:Int) - x2))))
theorem aLJ (x0 x1 x2 x3 x4 x5 x6):exec cl N acL (GH x0 x1 x2 x3 x4 x5 x6) K=(afu (fun y0 y1 y2 y3 y4 y5 y6 y7=>K .normal (GI y0 y1 y2 y3 y4 y5 y6 y7)) x0 x1 x2 x3 x4 x5 x6):=by
 kernel_rfl
def afv (x0:V6) (x1:V1) (x2:Int) (x3:V1) (x4:V6) (x5 x6:Int) (x7:Bool):Option R:=
none /- operation makeInterface -/
theorem aLK (x0 x1 x2 x3 x4 x5 x6 x7):exec cl N acM (GI x0 x1 x2 x3 x4 x5 x6 x7) K=(afv x0 x1 x2 x3 x4 x5 x6 x7):=by
 kernel_rfl
theorem auD (x0 x1 x2 x3 x4 x5 x6 x7):ae [0,1,5,7,39,40,41] (GI x0 x1 x2 x3 x4 x5 x6 x7)=(GH x0 x1 x2 x3 x4 x5 x6):=by kernel_rfl
theorem ane (x0 x1 x2 x3 x4 x5 x6 x7):aD (ag (GI x0 x1 x2 x3 x4 x5 x6 x7) (.t 49))=some x7:=by kernel_rfl
def afw (k0:V6→V1→Int→V6→Int→Int→Option R) (x0:V6) (x1:V1) (x2:Int) (x3:V1) (x4:V6) (x5 x6:Int):Option R:=
k0 x0 x1 (IntKind.i64.wrap (x2+(x3.length:Int))) x4 x5 x6
theorem aLL (x0 x1 x2 x3 x4 x5 x6):exec cl N acO (GH x0 x1 x2 x3 x4 x5 x6) K=(afw (fun y0 y1 y2 y3 y4 y5=>K .normal (hZ y0 y1 y2 y3 y4 y5)) x0 x1 x2 x3 x4 x5 x6):=by
 kernel_rfl
def afx (k0:V6→V1→Int→V6→Int→Int→Option R) (x0:V6) (x1:V1) (x2:Int) (x3:V6) (x4 x5:Int):Option R:=
k0 x0 x1 x2 x3 x4 (IntKind.i64.wrap (x5+(1:Int)))
theorem aLM (x0 x1 x2 x3 x4 x5):exec cl N acQ (hZ x0 x1 x2 x3 x4 x5) K=(afx (fun y0 y1 y2 y3 y4 y5=>K .normal (hZ y0 y1 y2 y3 y4 y5)) x0 x1 x2 x3 x4 x5):=by
 kernel_rfl
def afy (k0:V6→V1→Int→V6→Int→Int→Option R) (k1:V6→V1→Int→V6→Int→Int→Option R) (x0:V6) (x1:V1) (x2:Int) (x3:V6) (x4 x5:Int):Option R:=
(afr (fun y0 y1 y2 y3 y4 y5 y6=>al y6 ((aft (afu (fun y0 y1 y2 y3 y4 y5 y6 y7=>al y7 (afv y0 y1 y2 y3 y4 y5 y6 y7) ((afw ((afx k0))) y0 y1 y2 y3 y4 y5 y6)))) y0 y1 y2 y3 y4 y5) (k1 y0 y1 y2 y3 y4 y5)) x0 x1 x2 x3 x4 x5)
theorem aLN (x0 x1 x2 x3 x4 x5):exec cl N Ei (hZ x0 x1 x2 x3 x4 x5) K=(afy (fun y0 y1 y2 y3 y4 y5=>K .normal (hZ y0 y1 y2 y3 y4 y5)) (fun y0 y1 y2 y3 y4 y5=>K (.exit 1) (hZ y0 y1 y2 y3 y4 y5)) x0 x1 x2 x3 x4 x5):=by
 simp only [Ei,aM,aP,aO,aQ,aLG,acI,aF,bf,anc,ah,ak,aj,bj,cG,auC,acP,bt,aLI,aLJ,acN,ane,aLK,auD,aLL,bp,bq,bo,RE,aLM]
 rfl
def RJ {R:Type} (k0:V6→V1→Int→V6→Int→Int→Option R):Nat→V6→V1→Int→V6→Int→Int→Option R
 | 0,_,_,_,_,_,_=>none
 | m+1,x0,x1,x2,x3,x4,x5=>(afy (RJ k0 m) k0 x0 x1 x2 x3 x4 x5)
theorem awB:∀ (m) (x0 x1 x2 x3 x4 x5),iter [0,1,5,39,40,41] (fun env K=>exec cl N Ei env K) K m (hZ x0 x1 x2 x3 x4 x5)=RJ (fun y0 y1 y2 y3 y4 y5=>K (.exit 1) (hZ y0 y1 y2 y3 y4 y5)) m x0 x1 x2 x3 x4 x5:=by
 intro m
 induction m with
 | zero=>intros; rfl
 | succ m ih=>
   intro x0 x1 x2 x3 x4 x5
   simp only [cA,aLN,cC,cB,cD,RE,ih]
   rfl
theorem auw (x0 x1 x2 x3 x4 x5):ae [0,1,5] (hZ x0 x1 x2 x3 x4 x5)=(eF x0 x1 x2):=by kernel_rfl
def afz (N:Nat) (k0:V6→V1→Int→Option R) (x0:V6) (x1:V1) (x2:Int) (x3:V6) (x4 x5:Int):Option R:=
RJ (fun y0 y1 y2 y3 y4 y5=>k0 y0 y1 y2) N x0 x1 x2 x3 x4 x5
theorem aLO (x0 x1 x2 x3 x4 x5):exec cl N NI (hZ x0 x1 x2 x3 x4 x5) K=(afz N (fun y0 y1 y2=>K (.exit 1) (eF y0 y1 y2)) x0 x1 x2 x3 x4 x5):=by
 simp only [NI,aF,cz,RE,awB,auw]
 rfl
def afC (x0:V6) (x1:V1) (x2:Int):Option R:=
none /- lent:sb -/
theorem aLR (x0 x1 x2):exec cl N acU (eF x0 x1 x2) K=(afC x0 x1 x2):=by
 kernel_rfl
def afD (N:Nat) (k0:V1→Option R) (x0:V6) (x1:V1):Option R:=
(afj (afk (afs (fun y0 y1 y2 y3=>al y3 (afA k0 y0 y1 y2 y3) (afB (fun y0 y1 y2=>al y2 (afE k0 y0 y1 y2) ((((afF (afp (afq (afz N afC)))))) y0 y1)) y0 y1 y2 y3)))) x0 x1)
theorem aLS (x0 x1):exec cl N NJ (gO x0 x1) K=(afD N (fun y0=>K .ret (o5 y0)) x0 x1):=by
 simp only [NJ,aM,aP,aO,aQ,aLy,aLz,acY,aF,bt,aLH,acX,bf,am9,ah,ak,aj,aLP,bg,aLQ,acW,am8,aLT,bj,auu,auv,auy,auz,bp,bq,bo,aLU,aLE,aLF,acR,aLO,agy,aLR]
 rfl
theorem aAl (y0):au d87 .ret (o5 y0)=some [.v .str y0]:=by kernel_rfl
def Ra (N:Nat) (x0:V6) (x1:V1) (k:V1→Option R):Option R:=
(afD N k x0 x1)
theorem akD (x0 x1) (k:List E→Option R):exec cl N NG (gO x0 x1) (fun e env=>(au d87 e env).bind k)=Ra N x0 x1 (fun r0=>k [.v .str r0]):=by
 simp only [NG,aLS,aAl,ah]
 rfl
def ER (S:V6→V1→Option V5):a7:=jK 87 U0 .str S fun b=> [.v .str b]
def ga (N:Nat) (x0:V6) (x1:V1):Option V5:=Ra N x0 x1 (fun (r0:V1)=>some (r0))
def Bw (k0:V6→Option R) (x0:V6):Option R:=
k0 x0
theorem aJV (x0):exec cl N abf [(0,.v U0 x0)] K=(Bw (fun y0=>K .normal [(0,.v U0 y0)]) x0):=by
 kernel_rfl
def Bx (k0:V6→V6→Int→Int→Option R) (x0:V6):Option R:=
k0 x0 x0 (x0.length:Int) (0:Int)
theorem aJW (x0):exec cl N abg [(0,.v U0 x0)] K=(Bx (fun y0 y1 y2 y3=>K .normal (jm y0 y1 y2 y3)) x0):=by
 kernel_rfl
theorem agt (x0 x1 x2 x3):ae [0,7,8,9] (jm x0 x1 x2 x3)=(jm x0 x1 x2 x3):=by kernel_rfl
def BE (k0:V6→V6→Int→Int→Bool→Option R) (x0 x1:V6) (x2 x3:Int):Option R:=
k0 x0 x1 x2 x3 (decide (x3 < x2))
theorem aJ3 (x0 x1 x2 x3):exec cl N abp (jm x0 x1 x2 x3) K=(BE (fun y0 y1 y2 y3 y4=>K .normal (OZ y0 y1 y2 y3 y4)) x0 x1 x2 x3):=by
 kernel_rfl
theorem atl (x0 x1 x2 x3 x4):ae [0,7,8,9] (OZ x0 x1 x2 x3 x4)=(jm x0 x1 x2 x3):=by kernel_rfl
theorem amL (x0 x1 x2 x3 x4):aD (ag (OZ x0 x1 x2 x3 x4) (.t 10))=some x4:=by kernel_rfl
def BH (k0:V6→V1→V6→Int→Int→Option R) (x0 x1:V6) (x2 x3:Int):Option R:=
if 0≤x3∧x3 < (x1.length:Int) then
k0 x0 (x1.getD x3.toNat []) x1 x2 x3
else none
theorem aJ6 (x0 x1 x2 x3):exec cl N abt (jm x0 x1 x2 x3) K=(BH (fun y0 y1 y2 y3 y4=>K .normal [(0,.v U0 y0),(5,.v .str y1),(7,.v U0 y2),(8,.v U2 y3),(9,.v U2 y4)]) x0 x1 x2 x3):=by
 kernel_rfl
def BI (k0:V6→V1→V6→Int→Int→Bool→Option R) (x0:V6) (x1:V1) (x2:V6) (x3 x4:Int):Option R:=
k0 x0 x1 x2 x3 x4 (x1==([]:List UInt8))
theorem aJ7 (x0 x1 x2 x3 x4):exec cl N abu [(0,.v U0 x0),(5,.v .str x1),(7,.v U0 x2),(8,.v U2 x3),(9,.v U2 x4)] K=(BI (fun y0 y1 y2 y3 y4 y5=>K .normal (GJ y0 y1 y2 y3 y4 y5)) x0 x1 x2 x3 x4):=by
 kernel_rfl
def BJ (k0:V1→Int→Option R) (x0:V6) (x1:V1) (x2:V6) (x3 x4:Int) (x5:Bool):Option R:=
k0 ([]:List UInt8) (7:Int)
theorem aJ8 (x0 x1 x2 x3 x4 x5):exec cl N abv (GJ x0 x1 x2 x3 x4 x5) K=(BJ (fun y0 y1=>K .normal (fb y0 y1)) x0 x1 x2 x3 x4 x5):=by
 kernel_rfl
theorem atr (x0 x1):ae [0,2,3,5,7,8,9] (fb x0 x1)=(e42 x0 x1):=by kernel_rfl
theorem att (x0 x1 x2 x3 x4 x5):ae [0,2,3,5,7,8,9] (GJ x0 x1 x2 x3 x4 x5)=(e43 x0 x1 x2 x3 x4):=by kernel_rfl
theorem amM (x0 x1 x2 x3 x4 x5):aD (ag (GJ x0 x1 x2 x3 x4 x5) (.t 14))=some x5:=by kernel_rfl
def BK (dc:V0→dD→Option (Bool)) (cN:Int→Option (Bool)) (k0:V6→V6→Int→Int→Bool→Option R) (x0:V6) (x1:V1) (x2:V6) (x3 x4:Int):Option R:=
(dc (x1.map fun b=>(b.toNat:Int)) (fun (x161:V2)=>((cN x161.1).bind fun b162=>some [.v .bool b162]).bind (vx .bool))).bind fun r163=>
k0 x0 x2 x3 x4 r163
theorem aJ9 (dc) (cN) (h84:(rA dc).holds cl) (h85:(rB cN).holds cl) (x0 x1 x2 x3 x4):exec cl N abx (e43 x0 x1 x2 x3 x4) K=(BK dc cN (fun y0 y1 y2 y3 y4=>K .normal (GK y0 y1 y2 y3 y4)) x0 x1 x2 x3 x4):=by
 rw [←put_eq h84]
 rw [←put_eq h85]
 kernel_rfl
def BL (k0:V1→Int→Option R) (x0 x1:V6) (x2 x3:Int) (x4:Bool):Option R:=
k0 ([]:List UInt8) (2:Int)
theorem aKa (x0 x1 x2 x3 x4):exec cl N aby (GK x0 x1 x2 x3 x4) K=(BL (fun y0 y1=>K .normal (fb y0 y1)) x0 x1 x2 x3 x4):=by
 kernel_rfl
theorem atu (x0 x1):ae [0,2,3,7,8,9] (fb x0 x1)=(rH x0 x1):=by kernel_rfl
theorem atv (x0 x1 x2 x3 x4):ae [0,2,3,7,8,9] (GK x0 x1 x2 x3 x4)=(GL x0 x1 x2 x3):=by kernel_rfl
theorem amN (x0 x1 x2 x3 x4):aD (ag (GK x0 x1 x2 x3 x4) (.t 17))=some x4:=by kernel_rfl
theorem atw (x0 x1):ae [0,2,3,7,8,9] (e42 x0 x1)=(rH x0 x1):=by kernel_rfl
theorem atx (x0 x1):ae [0,2,3,7,8,9] (rH x0 x1)=(rH x0 x1):=by kernel_rfl
theorem aty (x0 x1 x2 x3):ae [0,2,3,7,8,9] (GL x0 x1 x2 x3)=(GL x0 x1 x2 x3):=by kernel_rfl
def By (k0:V6→V6→Int→Int→Option R) (x0 x1:V6) (x2 x3:Int):Option R:=
k0 x0 x1 x2 (IntKind.i64.wrap (x3+(1:Int)))
theorem aJX (x0 x1 x2 x3):exec cl N abj (GL x0 x1 x2 x3) K=(By (fun y0 y1 y2 y3=>K .normal (jm y0 y1 y2 y3)) x0 x1 x2 x3):=by
 kernel_rfl
def Bz (dc:V0→dD→Option (Bool)) (cN:Int→Option (Bool)) (k0:V1→Int→Option R) (k1:V6→V6→Int→Int→Option R) (k2:V6→V6→Int→Int→Option R) (x0 x1:V6) (x2 x3:Int):Option R:=
(BE (fun y0 y1 y2 y3 y4=>al y4 ((BH (BI (fun y0 y1 y2 y3 y4 y5=>al y5 (BJ k0 y0 y1 y2 y3 y4 y5) ((BK dc cN (fun y0 y1 y2 y3 y4=>al y4 (BL k0 y0 y1 y2 y3 y4) (((By k1)) y0 y1 y2 y3))) y0 y1 y2 y3 y4)))) y0 y1 y2 y3) (k2 y0 y1 y2 y3)) x0 x1 x2 x3)
theorem aJY (dc) (cN) (h84:(rA dc).holds cl) (h85:(rB cN).holds cl) (x0 x1 x2 x3):exec cl N Eb (jm x0 x1 x2 x3) K=(Bz dc cN (fun y0 y1=>K .ret (rH y0 y1)) (fun y0 y1 y2 y3=>K .normal (jm y0 y1 y2 y3)) (fun y0 y1 y2 y3=>K (.exit 0) (jm y0 y1 y2 y3)) x0 x1 x2 x3):=by
 simp only [Eb,aM,aP,aO,aQ,aJ3,abr,aF,bf,amL,ah,ak,aj,bj,cG,atl,abi,bt,aJ6,aJ7,abw,amM,aJ8,bg,atr,att,aJ9 dc cN h84 h85,abh,amN,aKa,atu,atv,bp,bq,bo,atw,atx,aty,aJX]
 rfl
def uT {R:Type} (dc:V0→dD→Option (Bool)) (cN:Int→Option (Bool)) (k0:V1→Int→Option R) (k1:V6→V6→Int→Int→Option R):Nat→V6→V6→Int→Int→Option R
 | 0,_,_,_,_=>none
 | m+1,x0,x1,x2,x3=>(Bz dc cN k0 (uT dc cN k0 k1 m) k1 x0 x1 x2 x3)
theorem awu (dc) (cN) (h84:(rA dc).holds cl) (h85:(rB cN).holds cl):∀ (m) (x0 x1 x2 x3),iter [0,7,8,9] (fun env K=>exec cl N Eb env K) K m (jm x0 x1 x2 x3)=uT dc cN (fun y0 y1=>K .ret (rH y0 y1)) (fun y0 y1 y2 y3=>K (.exit 0) (jm y0 y1 y2 y3)) m x0 x1 x2 x3:=by
 intro m
 induction m with
 | zero=>intros; rfl
 | succ m ih=>
   intro x0 x1 x2 x3
   simp only [cA,aJY dc cN h84 h85,cC,cB,cD,agt,ih]
   rfl
theorem atz (x0 x1):ae [0,2,3] (rH x0 x1)=(tM x0 x1):=by kernel_rfl
theorem atm (x0 x1 x2 x3):ae [0,2,3] (jm x0 x1 x2 x3)=(wq x0):=by kernel_rfl
def BA (N:Nat) (dc:V0→dD→Option (Bool)) (cN:Int→Option (Bool)) (k0:V1→Int→Option R) (k1:V6→Option R) (x0 x1:V6) (x2 x3:Int):Option R:=
uT dc cN k0 (fun y0 y1 y2 y3=>k1 y0) N x0 x1 x2 x3
theorem aJZ (dc) (cN) (h84:(rA dc).holds cl) (h85:(rB cN).holds cl) (x0 x1 x2 x3):exec cl N ML (jm x0 x1 x2 x3) K=(BA N dc cN (fun y0 y1=>K .ret (tM y0 y1)) (fun y0=>K (.exit 0) (wq y0)) x0 x1 x2 x3):=by
 simp only [ML,aF,cz,agt,awu dc cN h84 h85,atm,atz]
 rfl
theorem atn (x0 x1):ae [0,2,3] (tM x0 x1)=(tM x0 x1):=by kernel_rfl
theorem ato (x0):ae [0,2,3] (wq x0)=(wq x0):=by kernel_rfl
def BB (ga:V6→V1→Option V5) (k0:V1→Option R) (x0:V6):Option R:=
(ga x0 ([32]:List UInt8)).bind fun r165=>
k0 r165
theorem aJ0 (ga) (h87:(ER ga).holds cl) (x0):exec cl N abl (wq x0) K=(BB ga (fun y0=>K .normal [(6,.v .str y0)]) x0):=by
 rw [←put_eq h87]
 kernel_rfl
def BC (k0:V1→Bool→Option R) (x0:V1):Option R:=
k0 x0 (decide ((x0.length:Int) > (120:Int)))
theorem aJ1 (x0):exec cl N abm [(6,.v .str x0)] K=(BC (fun y0 y1=>K .normal (GM y0 y1)) x0):=by
 kernel_rfl
def BD (k0:V1→Int→Option R) (x0:V1) (x1:Bool):Option R:=
k0 ([]:List UInt8) (3:Int)
theorem aJ2 (x0 x1):exec cl N abn (GM x0 x1) K=(BD (fun y0 y1=>K .normal (fb y0 y1)) x0 x1):=by
 kernel_rfl
theorem atp (x0 x1):ae [2,3,6] (fb x0 x1)=(O0 x0 x1):=by kernel_rfl
theorem atq (x0 x1):ae [2,3,6] (GM x0 x1)=[(2,.dead),(3,.dead),(6,.v .str x0)]:=by kernel_rfl
theorem amO (x0 x1):aD (ag (GM x0 x1) (.t 23))=some x1:=by kernel_rfl
def BF (k0:V1→Int→Option R) (x0:V1):Option R:=
k0 x0 (0:Int)
theorem aJ4 (x0):exec cl N abq [(2,.dead),(3,.dead),(6,.v .str x0)] K=(BF (fun y0 y1=>K .normal (fb y0 y1)) x0):=by
 kernel_rfl
def BG (N:Nat) (dc:V0→dD→Option (Bool)) (cN:Int→Option (Bool)) (ga:V6→V1→Option V5) (k0:V1→Int→Option R) (k1:V1→Int→Option R) (k2:V1→Int→Option R) (x0:V6):Option R:=
(Bw (Bx (BA N dc cN k0 ((BB ga (BC (fun y0 y1=>al y1 (BD k1 y0 y1) ((BF k2) y0))))))) x0)
theorem aJ5 (dc) (cN) (ga) (h84:(rA dc).holds cl) (h85:(rB cN).holds cl) (h87:(ER ga).holds cl) (x0):exec cl N MM [(0,.v U0 x0)] K=(BG N dc cN ga (fun y0 y1=>K .ret (tM y0 y1)) (fun y0 y1=>K .ret (O0 y0 y1)) (fun y0 y1=>K .ret (fb y0 y1)) x0):=by
 simp only [MM,aM,aP,aO,aQ,aJV,aJW,abk,aF,bt,aJZ dc cN h84 h85,bp,bq,bo,atn,ato,aJ0 ga h87,aJ1,abo,bf,amO,ah,ak,aj,aJ2,bg,bj,atp,atq,aJ4]
 rfl
theorem az0 (y0 y1):au d71 .ret (tM y0 y1)=some [.v .str y0,.v U2 y1]:=by kernel_rfl
theorem az1 (y0 y1):au d71 .ret (O0 y0 y1)=some [.v .str y0,.v U2 y1]:=by kernel_rfl
theorem az2 (y0 y1):au d71 .ret (fb y0 y1)=some [.v .str y0,.v U2 y1]:=by kernel_rfl
def uk (N:Nat) (dc:V0→dD→Option (Bool)) (cN:Int→Option (Bool)) (ga:V6→V1→Option V5) (x0:V6) (k:V1→Int→Option R):Option R:=
(BG N dc cN ga k k k x0)
theorem akr (dc) (cN) (ga) (h84:(rA dc).holds cl) (h85:(rB cN).holds cl) (h87:(ER ga).holds cl) (x0) (k:List E→Option R):exec cl N MK [(0,.v U0 x0)] (fun e env=>(au d71 e env).bind k)=uk N dc cN ga x0 (fun r0 r1=>k [.v .str r0,.v U2 r1]):=by
 simp only [MK,aJ5 dc cN ga h84 h85 h87,az0,az1,az2,ah]
 rfl
def EM (S:V6→Option V7):a7:=cw 71 U0 S fun b=> [.v .str b.1,.v U2 b.2]
def fO (N:Nat) (x0:V6):Option V7:=uk N (dc N) (cN N) (ga N) x0 (fun (r0:V1) (r1:Int)=>some (r0,r1))
def zr (k0:V0→Option R) (x0:V1):Option R:=
k0 (x0.map fun b=>(b.toNat:Int))
theorem aFS (x0):exec cl N KX [(0,.v .str x0)] K=(zr (fun y0=>exec cl N (.seq (.seq KY KV) (.seq KW .ret)) (rI y0) K) x0):=by
 kernel_rfl
def zw (k0:V0→Int→Int→Option R) (x0:V0):Option R:=
k0 x0 (x0.length:Int) (0:Int)
theorem aFU (x0):exec cl N KY (rI x0) K=(zw (fun y0 y1 y2=>K .normal (gA y0 y1 y2)) x0):=by
 kernel_rfl
theorem Ru (x0 x1 x2):ae [3,8,9,10] (gA x0 x1 x2)=(gA x0 x1 x2):=by kernel_rfl
def zx (k0:V0→Int→Int→Bool→Option R) (x0:V0) (x1 x2:Int):Option R:=
k0 x0 x1 x2 (decide (x2 < x1))
theorem aFV (x0 x1 x2):exec cl N Xs (gA x0 x1 x2) K=(zx (fun y0 y1 y2 y3=>K .normal (O1 y0 y1 y2 y3)) x0 x1 x2):=by
 kernel_rfl
theorem aqS (x0 x1 x2 x3):ae [3,8,9,10] (O1 x0 x1 x2 x3)=(gA x0 x1 x2):=by kernel_rfl
theorem alI (x0 x1 x2 x3):aD (ag (O1 x0 x1 x2 x3) (.t 11))=some x3:=by kernel_rfl
def zA (k0:V0→Int→Int→Int→Int→Bool→Option R) (x0:V0) (x1 x2:Int):Option R:=
if 0≤x2∧x2 < (x0.length:Int) then
if x2.toNat < x0.length then
let v181:Int:=(x0.getD x2.toNat (0:Int))
al (decide (v181≥(65:Int))) (k0 x0 x2 v181 x1 x2 (decide (v181≤(90:Int)))) (k0 x0 x2 v181 x1 x2 false)
else none
else none
theorem aFX (x0 x1 x2):exec cl N Xv (gA x0 x1 x2) K=(zA (fun y0 y1 y2 y3 y4 y5=>exec cl N KZ (GN y0 y1 y2 y3 y4 y5) K) x0 x1 x2):=by
 kernel_rfl
def zy (k0:V0→Int→Int→Option R) (x0:V0) (x1 x2 x3 x4:Int) (x5:Bool):Option R:=
if 0≤x1∧x1 < (x0.length:Int) then
if x1.toNat < x0.length then
k0 (x0.set x1.toNat (IntKind.u8.wrap ((IntKind.u8.wrap (x2 - (65:Int)))+(97:Int)))) x3 x4
else none
else none
theorem aFW (x0 x1 x2 x3 x4 x5):exec cl N Xu (GN x0 x1 x2 x3 x4 x5) K=(zy (fun y0 y1 y2=>K .normal (gA y0 y1 y2)) x0 x1 x2 x3 x4 x5):=by
 kernel_rfl
theorem aqT (x0 x1 x2 x3 x4 x5):ae [3,8,9,10] (GN x0 x1 x2 x3 x4 x5)=(gA x0 x3 x4):=by kernel_rfl
theorem alJ (x0 x1 x2 x3 x4 x5):aD (ag (GN x0 x1 x2 x3 x4 x5) (.t 20))=some x5:=by kernel_rfl
def zl (k0:V0→Int→Int→Option R) (x0:V0) (x1 x2:Int):Option R:=
(zA (fun y0 y1 y2 y3 y4 y5=>al y5 (zy k0 y0 y1 y2 y3 y4 y5) (k0 y0 y3 y4)) x0 x1 x2)
theorem aFN (x0 x1 x2):exec cl N KT (gA x0 x1 x2) K=(zl (fun y0 y1 y2=>K .normal (gA y0 y1 y2)) x0 x1 x2):=by
 simp only [KT,aF,bt,aM,aP,aO,aQ,aFX,KZ,bf,alJ,ah,ak,aj,aFW,bj,Ru,aqT,bp,bq,bo]
 rfl
def zn (k0:V0→Int→Int→Option R) (x0:V0) (x1 x2:Int):Option R:=
k0 x0 x1 (IntKind.i64.wrap (x2+(1:Int)))
theorem aFO (x0 x1 x2):exec cl N Xr (gA x0 x1 x2) K=(zn (fun y0 y1 y2=>K .normal (gA y0 y1 y2)) x0 x1 x2):=by
 kernel_rfl
def zo (k0:V0→Int→Int→Option R) (k1:V0→Int→Int→Option R) (x0:V0) (x1 x2:Int):Option R:=
(zx (fun y0 y1 y2 y3=>al y3 ((zl (zn k0)) y0 y1 y2) (k1 y0 y1 y2)) x0 x1 x2)
theorem aFP (x0 x1 x2):exec cl N DU (gA x0 x1 x2) K=(zo (fun y0 y1 y2=>K .normal (gA y0 y1 y2)) (fun y0 y1 y2=>K (.exit 0) (gA y0 y1 y2)) x0 x1 x2):=by
 simp only [DU,aM,aP,aO,aQ,aFV,Xt,aF,bf,alI,ah,ak,aj,bj,cG,aqS,aFN,aFO]
 rfl
def uJ {R:Type} (k0:V0→Int→Int→Option R):Nat→V0→Int→Int→Option R
 | 0,_,_,_=>none
 | m+1,x0,x1,x2=>(zo (uJ k0 m) k0 x0 x1 x2)
theorem awd:∀ (m) (x0 x1 x2),iter [3,8,9,10] (fun env K=>exec cl N DU env K) K m (gA x0 x1 x2)=uJ (fun y0 y1 y2=>K (.exit 0) (gA y0 y1 y2)) m x0 x1 x2:=by
 intro m
 induction m with
 | zero=>intros; rfl
 | succ m ih=>
   intro x0 x1 x2
   simp only [cA,aFP,cC,cB,cD,Ru,ih]
   rfl
theorem aqU (x0 x1 x2):ae [3] (gA x0 x1 x2)=(rI x0):=by kernel_rfl
def zp (N:Nat) (k0:V0→Option R) (x0:V0) (x1 x2:Int):Option R:=
uJ (fun y0 y1 y2=>k0 y0) N x0 x1 x2
theorem aFQ (x0 x1 x2):exec cl N KU (gA x0 x1 x2) K=(zp N (fun y0=>K (.exit 0) (rI y0)) x0 x1 x2):=by
 simp only [KU,aF,cz,Ru,awd,aqU]
 rfl
theorem aqV (x0):ae [3] (rI x0)=(rI x0):=by kernel_rfl
def zq (k0:V1→Option R) (x0:V0):Option R:=
k0 (x0.map fun n=>UInt8.ofNat n.toNat)
theorem aFR (x0):exec cl N KW (rI x0) K=(zq (fun y0=>K .normal [(2,.v .str y0)]) x0):=by
 kernel_rfl
def zt (N:Nat) (k0:V1→Option R) (x0:V1):Option R:=
(zr (zw (zp N ((zq k0)))) x0)
theorem aFT (x0):exec cl N KX [(0,.v .str x0)] K=(zt N (fun y0=>K .ret [(2,.v .str y0)]) x0):=by
 simp only [aM,aP,aO,aQ,aFS,aFU,KV,aF,bt,aFQ,bp,bq,bo,aqV,aFR,bg]
 rfl
theorem azh (y0):au d42 .ret [(2,.v .str y0)]=some [.v .str y0]:=by kernel_rfl
def tY (N:Nat) (x0:V1) (k:V1→Option R):Option R:=
(zt N k x0)
theorem aj1 (x0) (k:List E→Option R):exec cl N KS [(0,.v .str x0)] (fun e env=>(au d42 e env).bind k)=tY N x0 (fun r0=>k [.v .str r0]):=by
 simp only [KS,aFT,azh,ah]
 rfl
def EE (S:V1→Option V5):a7:=cw 42 .str S fun b=> [.v .str b]
def fL (N:Nat) (x0:V1):Option V5:=tY N x0 (fun (r0:V1)=>some (r0))
def QH (k0:V1→Option R) (x0:V1):Option R:=
k0 x0
theorem aHZ (x0):exec cl N ZE [(0,.v .str x0)] K=(QH (fun y0=>K .normal [(0,.v .str y0)]) x0):=by
 kernel_rfl
def QI (k0:V1→Bool→Option R) (x0:V1):Option R:=
k0 x0 (decide ((x0.length:Int) > (16:Int)))
theorem aH0 (x0):exec cl N ZF [(0,.v .str x0)] K=(QI (fun y0 y1=>K .normal (GO y0 y1)) x0):=by
 kernel_rfl
def QK (k0:Int→Option R) (x0:V1) (x1:Bool):Option R:=
k0 (3:Int)
theorem aH2 (x0 x1):exec cl N ZG (GO x0 x1) K=(QK (fun y0=>K .normal [(2,.v U2 y0)]) x0 x1):=by
 kernel_rfl
theorem ar9 (x0):ae [0,2] [(2,.v U2 x0)]=(kc x0):=by kernel_rfl
theorem asa (x0 x1):ae [0,2] (GO x0 x1)=(ke x0):=by kernel_rfl
theorem amj (x0 x1):aD (ag (GO x0 x1) (.t 7))=some x1:=by kernel_rfl
def QM (fL:V1→Option V5) (fO:V6→Option V7) (k0:Bool→Option R) (x0:V1):Option R:=
(fO [x0]).bind fun r191=>
al (r191.2 != (0:Int)) (k0 true) ((fL x0).bind fun r193=>
k0 (r193 != x0))
theorem aH4 (fL) (fO) (h42:(EE fL).holds cl) (h71:(EM fO).holds cl) (x0):exec cl N ZJ (ke x0) K=(QM fL fO (fun y0=>exec cl N LJ [(21,.v .bool y0)] K) x0):=by
 rw [←put_eq h42]
 rw [←put_eq h71]
 kernel_rfl
def QL (k0:Int→Option R) (x0:Bool):Option R:=
k0 (2:Int)
theorem aH3 (x0):exec cl N ZI [(21,.v .bool x0)] K=(QL (fun y0=>K .normal [(2,.v U2 y0)]) x0):=by
 kernel_rfl
theorem asb (x0):ae [2] [(2,.v U2 x0)]=[(2,.v U2 x0)]:=by kernel_rfl
theorem asc (x0):ae [2] [(21,.v .bool x0)]=[(2,.dead)]:=by kernel_rfl
theorem amk (x0):aD (ag [(21,.v .bool x0)] (.t 21))=some x0:=by kernel_rfl
def QN (k0:Int→Option R):Option R:=
k0 (0:Int)
theorem aH5:exec cl N ZK [(2,.dead)] K=(QN (fun y0=>K .normal [(2,.v U2 y0)])):=by
 kernel_rfl
def QJ (fL:V1→Option V5) (fO:V6→Option V7) (k0:Int→Option R) (k1:Int→Option R) (x0:V1):Option R:=
(QH (QI (fun y0 y1=>al y1 (QK k0 y0 y1) ((QM fL fO (fun y0=>al y0 (QL k1 y0) (QN k1))) y0))) x0)
theorem aH1 (fL) (fO) (h42:(EE fL).holds cl) (h71:(EM fO).holds cl) (x0):exec cl N LI [(0,.v .str x0)] K=(QJ fL fO (fun y0=>K .ret (kc y0)) (fun y0=>K .ret [(2,.v U2 y0)]) x0):=by
 simp only [LI,aM,aP,aO,aQ,aHZ,aH0,ZH,aF,bf,amj,ah,ak,aj,aH2,bg,bj,ar9,asa,aH4 fL fO h42 h71,LJ,amk,aH3,asb,asc,aH5]
 rfl
theorem azD (y0):au d56 .ret (kc y0)=some [.v U2 y0]:=by kernel_rfl
theorem azE (y0):au d56 .ret [(2,.v U2 y0)]=some [.v U2 y0]:=by kernel_rfl
def Ho (fL:V1→Option V5) (fO:V6→Option V7) (x0:V1) (k:Int→Option R):Option R:=
(QJ fL fO k k x0)
theorem akc (fL) (fO) (h42:(EE fL).holds cl) (h71:(EM fO).holds cl) (x0) (k:List E→Option R):exec cl N LH [(0,.v .str x0)] (fun e env=>(au d56 e env).bind k)=Ho fL fO x0 (fun r0=>k [.v U2 r0]):=by
 simp only [LH,aH1 fL fO h42 h71,azD,azE,ah]
 rfl
def ri (S:V1→Option (Int)):a7:=cw 56 .str S fun b=> [.v U2 b]
def cW (N:Nat) (x0:V1):Option (Int):=Ho (fL N) (fO N) x0 (fun (r0:Int)=>some (r0))
def BM (k0:V6→V1→Option R) (x0:V6) (x1:V1):Option R:=
k0 x0 x1
theorem aKb (x0 x1):exec cl N abz (gO x0 x1) K=(BM (fun y0 y1=>K .normal (gO y0 y1)) x0 x1):=by
 kernel_rfl
def BN (k0:V6→V1→Int→Int→Option R) (x0:V6) (x1:V1):Option R:=
k0 x0 x1 (x0.length:Int) (0:Int)
theorem aKc (x0 x1):exec cl N abA (gO x0 x1) K=(BN (fun y0 y1 y2 y3=>K .normal (jn y0 y1 y2 y3)) x0 x1):=by
 kernel_rfl
theorem agu (x0 x1 x2 x3):ae [0,1,7,8] (jn x0 x1 x2 x3)=(jn x0 x1 x2 x3):=by kernel_rfl
def BT (k0:V6→V1→Int→Int→Bool→Option R) (x0:V6) (x1:V1) (x2 x3:Int):Option R:=
k0 x0 x1 x2 x3 (decide (x3 < x2))
theorem aKi (x0 x1 x2 x3):exec cl N abE (jn x0 x1 x2 x3) K=(BT (fun y0 y1 y2 y3 y4=>K .normal (O2 y0 y1 y2 y3 y4)) x0 x1 x2 x3):=by
 kernel_rfl
theorem atA (x0 x1 x2 x3 x4):ae [0,1,7,8] (O2 x0 x1 x2 x3 x4)=(jn x0 x1 x2 x3):=by kernel_rfl
theorem amP (x0 x1 x2 x3 x4):aD (ag (O2 x0 x1 x2 x3 x4) (.t 9))=some x4:=by kernel_rfl
def BV (k0:V6→V1→Int→Int→Int→Bool→Option R) (x0:V6) (x1:V1) (x2 x3:Int):Option R:=
if 0≤x3∧x3 < (x0.length:Int) then
k0 x0 x1 x3 x2 x3 (x1==(x0.getD x3.toNat []))
else none
theorem aKk (x0 x1 x2 x3):exec cl N abH (jn x0 x1 x2 x3) K=(BV (fun y0 y1 y2 y3 y4 y5=>exec cl N MQ (GP y0 y1 y2 y3 y4 y5) K) x0 x1 x2 x3):=by
 kernel_rfl
def BU (k0:Int→Option R) (x0:V6) (x1:V1) (x2 x3 x4:Int) (x5:Bool):Option R:=
k0 x2
theorem aKj (x0 x1 x2 x3 x4 x5):exec cl N abG (GP x0 x1 x2 x3 x4 x5) K=(BU (fun y0=>K .normal [(4,.v U2 y0)]) x0 x1 x2 x3 x4 x5):=by
 kernel_rfl
theorem atB (x0):ae [0,1,4,7,8] [(4,.v U2 x0)]=(kl x0):=by kernel_rfl
theorem atC (x0 x1 x2 x3 x4 x5):ae [0,1,4,7,8] (GP x0 x1 x2 x3 x4 x5)=(GQ x0 x1 x3 x4):=by kernel_rfl
theorem amQ (x0 x1 x2 x3 x4 x5):aD (ag (GP x0 x1 x2 x3 x4 x5) (.t 16))=some x5:=by kernel_rfl
theorem atD (x0):ae [0,1,4,7,8] (kl x0)=(kl x0):=by kernel_rfl
theorem atE (x0 x1 x2 x3):ae [0,1,4,7,8] (GQ x0 x1 x2 x3)=(GQ x0 x1 x2 x3):=by kernel_rfl
def BO (k0:V6→V1→Int→Int→Option R) (x0:V6) (x1:V1) (x2 x3:Int):Option R:=
k0 x0 x1 x2 (IntKind.i64.wrap (x3+(1:Int)))
theorem aKd (x0 x1 x2 x3):exec cl N abB (GQ x0 x1 x2 x3) K=(BO (fun y0 y1 y2 y3=>K .normal (jn y0 y1 y2 y3)) x0 x1 x2 x3):=by
 kernel_rfl
def BP (k0:Int→Option R) (k1:V6→V1→Int→Int→Option R) (k2:V6→V1→Int→Int→Option R) (x0:V6) (x1:V1) (x2 x3:Int):Option R:=
(BT (fun y0 y1 y2 y3 y4=>al y4 ((BV (fun y0 y1 y2 y3 y4 y5=>al y5 (BU k0 y0 y1 y2 y3 y4 y5) (((BO k1)) y0 y1 y3 y4))) y0 y1 y2 y3) (k2 y0 y1 y2 y3)) x0 x1 x2 x3)
theorem aKe (x0 x1 x2 x3):exec cl N Ec (jn x0 x1 x2 x3) K=(BP (fun y0=>K .ret (kl y0)) (fun y0 y1 y2 y3=>K .normal (jn y0 y1 y2 y3)) (fun y0 y1 y2 y3=>K (.exit 0) (jn y0 y1 y2 y3)) x0 x1 x2 x3):=by
 simp only [Ec,aM,aP,aO,aQ,aKi,abF,aF,bf,amP,ah,ak,aj,bj,cG,atA,abI,bt,aKk,MQ,amQ,aKj,bg,atB,atC,bp,bq,bo,atD,atE,aKd]
 rfl
def uU {R:Type} (k0:Int→Option R) (k1:V6→V1→Int→Int→Option R):Nat→V6→V1→Int→Int→Option R
 | 0,_,_,_,_=>none
 | m+1,x0,x1,x2,x3=>(BP k0 (uU k0 k1 m) k1 x0 x1 x2 x3)
theorem awv:∀ (m) (x0 x1 x2 x3),iter [0,1,7,8] (fun env K=>exec cl N Ec env K) K m (jn x0 x1 x2 x3)=uU (fun y0=>K .ret (kl y0)) (fun y0 y1 y2 y3=>K (.exit 0) (jn y0 y1 y2 y3)) m x0 x1 x2 x3:=by
 intro m
 induction m with
 | zero=>intros; rfl
 | succ m ih=>
   intro x0 x1 x2 x3
   simp only [cA,aKe,cC,cB,cD,agu,ih]
   rfl
theorem atF (x0):ae [4] (kl x0)=[(4,.v U2 x0)]:=by kernel_rfl
theorem atG (x0 x1 x2 x3):ae [4] (jn x0 x1 x2 x3)=[(4,.dead)]:=by kernel_rfl
def BQ (N:Nat) (k0:Int→Option R) (k1:Option R) (x0:V6) (x1:V1) (x2 x3:Int):Option R:=
uU k0 (fun y0 y1 y2 y3=>k1) N x0 x1 x2 x3
theorem aKf (x0 x1 x2 x3):exec cl N MO (jn x0 x1 x2 x3) K=(BQ N (fun y0=>K .ret [(4,.v U2 y0)]) (K (.exit 0) [(4,.dead)]) x0 x1 x2 x3):=by
 simp only [MO,aF,cz,agu,awv,atF,atG]
 rfl
theorem atH (x0):ae [4] [(4,.v U2 x0)]=[(4,.v U2 x0)]:=by kernel_rfl
theorem atI:ae [4] [(4,.dead)]=[(4,.dead)]:=by kernel_rfl
def BR (k0:Int→Option R):Option R:=
k0 (-1:Int)
theorem aKg:exec cl N abD [(4,.dead)] K=(BR (fun y0=>K .normal [(4,.v U2 y0)])):=by
 kernel_rfl
def BS (N:Nat) (k0:Int→Option R) (x0:V6) (x1:V1):Option R:=
(BM (BN (BQ N k0 (BR k0))) x0 x1)
theorem aKh (x0 x1):exec cl N MP (gO x0 x1) K=(BS N (fun y0=>K .ret [(4,.v U2 y0)]) x0 x1):=by
 simp only [MP,aM,aP,aO,aQ,aKb,aKc,abC,aF,bt,aKf,bp,bq,bo,atH,atI,aKg,bg]
 rfl
theorem az3 (y0):au d72 .ret [(4,.v U2 y0)]=some [.v U2 y0]:=by kernel_rfl
def uo (N:Nat) (x0:V6) (x1:V1) (k:Int→Option R):Option R:=
(BS N k x0 x1)
theorem aks (x0 x1) (k:List E→Option R):exec cl N MN (gO x0 x1) (fun e env=>(au d72 e env).bind k)=uo N x0 x1 (fun r0=>k [.v U2 r0]):=by
 simp only [MN,aKh,az3,ah]
 rfl
def EN (S:V6→V1→Option (Int)):a7:=jK 72 U0 .str S fun b=> [.v U2 b]
def fP (N:Nat) (x0:V6) (x1:V1):Option (Int):=uo N x0 x1 (fun (r0:Int)=>some (r0))
def QO (fP:V6→V1→Option (Int)) (k0:Bool→Option R) (x0:V6) (x1:V1):Option R:=
(fP x0 x1).bind fun r206=>
k0 (decide (r206≥(0:Int)))
theorem aH6 (fP) (h72:(EN fP).holds cl) (x0 x1):exec cl N LL (gO x0 x1) K=(QO fP (fun y0=>exec cl N .ret [(4,.v .bool y0)] K) x0 x1):=by
 rw [←put_eq h72]
 kernel_rfl
def QP (fP:V6→V1→Option (Int)) (k0:Bool→Option R) (x0:V6) (x1:V1):Option R:=
(QO fP k0 x0 x1)
theorem aH7 (fP) (h72:(EN fP).holds cl) (x0 x1):exec cl N LL (gO x0 x1) K=(QP fP (fun y0=>K .ret [(4,.v .bool y0)]) x0 x1):=by
 simp only [aM,aP,aO,aQ,aH6 fP h72,bg]
 rfl
theorem azF (y0):au d57 .ret [(4,.v .bool y0)]=some [.v .bool y0]:=by kernel_rfl
def Hp (fP:V6→V1→Option (Int)) (x0:V6) (x1:V1) (k:Bool→Option R):Option R:=
(QP fP k x0 x1)
theorem akd (fP) (h72:(EN fP).holds cl) (x0 x1) (k:List E→Option R):exec cl N LK (gO x0 x1) (fun e env=>(au d57 e env).bind k)=Hp fP x0 x1 (fun r0=>k [.v .bool r0]):=by
 simp only [LK,aH7 fP h72,azF,ah]
 rfl
def rj (S:V6→V1→Option (Bool)):a7:=jK 57 U0 .str S fun b=> [.v .bool b]
def cX (N:Nat) (x0:V6) (x1:V1):Option (Bool):=Hp (fP N) x0 x1 (fun (r0:Bool)=>some (r0))
def yF (k0:ay→Option R) (x0:ay):Option R:=
k0 x0
theorem aE6 (x0):exec cl N WE [(0,.v aw x0)] K=(yF (fun y0=>K .normal [(1,.loc aw .no y0)]) x0):=by
 kernel_rfl
def yG (k0:ay→Bool→Option R) (x0:ay):Option R:=
al (decide (x0.1 < (1:Int))) (k0 x0 true) (al (decide (x0.1 > (12:Int))) (k0 x0 true) (al (decide (x0.2.1 < (0:Int))) (k0 x0 true) (k0 x0 (decide (x0.2.1 > (999:Int))))))
theorem aE7 (x0):exec cl N WG [(1,.loc aw .no x0)] K=(yG (fun y0 y1=>K .normal (GR y0 y1)) x0):=by
 kernel_rfl
def yM (k0:Int→Option R) (x0:ay) (x1:Bool):Option R:=
k0 (6:Int)
theorem aFd (x0 x1):exec cl N WO (GR x0 x1) K=(yM (fun y0=>K .normal [(2,.v U2 y0)]) x0 x1):=by
 kernel_rfl
theorem aql (x0):ae [1,2] [(2,.v U2 x0)]=(ia x0):=by kernel_rfl
def yS (k0:ay→Bool→Option R) (x0:ay) (x1:Bool):Option R:=
k0 x0 (decide ((x0.2.2.1.length:Int) > (20:Int)))
theorem aFj (x0 x1):exec cl N WU (GR x0 x1) K=(yS (fun y0 y1=>K .normal (GS y0 y1)) x0 x1):=by
 kernel_rfl
def yT (k0:Int→Option R) (x0:ay) (x1:Bool):Option R:=
k0 (3:Int)
theorem aFk (x0 x1):exec cl N WV (GS x0 x1) K=(yT (fun y0=>K .normal [(2,.v U2 y0)]) x0 x1):=by
 kernel_rfl
theorem aqm (x0 x1):ae [1,2] (GS x0 x1)=(o8 x0):=by kernel_rfl
theorem alw (x0 x1):aD (ag (GS x0 x1) (.t 25))=some x1:=by kernel_rfl
theorem aqu (x0):ae [1,2] (ia x0)=(ia x0):=by kernel_rfl
theorem aqv (x0):ae [1,2] (o8 x0)=(o8 x0):=by kernel_rfl
theorem alx (x0 x1):aD (ag (GR x0 x1) (.t 6))=some x1:=by kernel_rfl
def yU (k0:ay→V6→Int→Int→Option R) (x0:ay):Option R:=
k0 x0 x0.2.2.1 (x0.2.2.1.length:Int) (0:Int)
theorem aFl (x0):exec cl N WZ (o8 x0) K=(yU (fun y0 y1 y2 y3=>K .normal (jo y0 y1 y2 y3)) x0):=by
 kernel_rfl
theorem agn (x0 x1 x2 x3):ae [1,31,32,33] (jo x0 x1 x2 x3)=(jo x0 x1 x2 x3):=by kernel_rfl
def yV (k0:ay→V6→Int→Int→Bool→Option R) (x0:ay) (x1:V6) (x2 x3:Int):Option R:=
k0 x0 x1 x2 x3 (decide (x3 < x2))
theorem aFm (x0 x1 x2 x3):exec cl N W1 (jo x0 x1 x2 x3) K=(yV (fun y0 y1 y2 y3 y4=>K .normal (O3 y0 y1 y2 y3 y4)) x0 x1 x2 x3):=by
 kernel_rfl
theorem aqw (x0 x1 x2 x3 x4):ae [1,31,32,33] (O3 x0 x1 x2 x3 x4)=(jo x0 x1 x2 x3):=by kernel_rfl
theorem aly (x0 x1 x2 x3 x4):aD (ag (O3 x0 x1 x2 x3 x4) (.t 34))=some x4:=by kernel_rfl
def yH (k0:ay→Int→V1→V6→Int→Int→Option R) (x0:ay) (x1:V6) (x2 x3:Int):Option R:=
if 0≤x3∧x3 < (x1.length:Int) then
k0 x0 x3 (x1.getD x3.toNat []) x1 x2 x3
else none
theorem aE8 (x0 x1 x2 x3):exec cl N WI (jo x0 x1 x2 x3) K=(yH (fun y0 y1 y2 y3 y4 y5=>K .normal (e66 y0 y1 y2 y3 y4 y5)) x0 x1 x2 x3):=by
 kernel_rfl
def yJ (cW:V1→Option (Int)) (k0:ay→Int→V1→Int→V6→Int→Int→Bool→Option R) (x0:ay) (x1:Int) (x2:V1) (x3:V6) (x4 x5:Int):Option R:=
(cW x2).bind fun r217=>
k0 x0 x1 x2 r217 x3 x4 x5 (r217 != (0:Int))
theorem aFa (cW) (h56:(ri cW).holds cl) (x0 x1 x2 x3 x4 x5):exec cl N WK (e66 x0 x1 x2 x3 x4 x5) K=(yJ cW (fun y0 y1 y2 y3 y4 y5 y6 y7=>exec cl N KF (GU y0 y1 y2 y3 y4 y5 y6 y7) K) x0 x1 x2 x3 x4 x5):=by
 rw [←put_eq h56]
 kernel_rfl
def yI (k0:Int→Option R) (x0:ay) (x1:Int) (x2:V1) (x3:Int) (x4:V6) (x5 x6:Int) (x7:Bool):Option R:=
k0 x3
theorem aE9 (x0 x1 x2 x3 x4 x5 x6 x7):exec cl N WJ (GU x0 x1 x2 x3 x4 x5 x6 x7) K=(yI (fun y0=>K .normal [(2,.v U2 y0)]) x0 x1 x2 x3 x4 x5 x6 x7):=by
 kernel_rfl
theorem aqx (x0):ae [1,2,3,4,31,32,33] [(2,.v U2 x0)]=(e68 x0):=by kernel_rfl
theorem aqy (x0 x1 x2 x3 x4 x5 x6 x7):ae [1,2,3,4,31,32,33] (GU x0 x1 x2 x3 x4 x5 x6 x7)=(e69 x0 x1 x2 x4 x5 x6):=by kernel_rfl
theorem alz (x0 x1 x2 x3 x4 x5 x6 x7):aD (ag (GU x0 x1 x2 x3 x4 x5 x6 x7) (.t 41))=some x7:=by kernel_rfl
def yK (cX:V6→V1→Option (Bool)) (k0:ay→V6→Int→Int→Bool→Option R) (x0:ay) (x1:Int) (x2:V1) (x3:V6) (x4 x5:Int):Option R:=
if 0≤(0:Int)∧(0:Int)≤x1∧x1≤(x0.2.2.1.length:Int)∧(x0.2.2.1.length:Int)≤(x0.2.2.1.length:Int) then
(cX ((x0.2.2.1.drop (0:Int).toNat).take (x1.toNat - (0:Int).toNat)) x2).bind fun r220=>
k0 x0 x3 x4 x5 r220
else none
theorem aFb (cX) (h57:(rj cX).holds cl) (x0 x1 x2 x3 x4 x5):exec cl N WL (e69 x0 x1 x2 x3 x4 x5) K=(yK cX (fun y0 y1 y2 y3 y4=>K .normal (GV y0 y1 y2 y3 y4)) x0 x1 x2 x3 x4 x5):=by
 rw [←put_eq h57]
 kernel_rfl
def yL (k0:Int→Option R) (x0:ay) (x1:V6) (x2 x3:Int) (x4:Bool):Option R:=
k0 (5:Int)
theorem aFc (x0 x1 x2 x3 x4):exec cl N WM (GV x0 x1 x2 x3 x4) K=(yL (fun y0=>K .normal [(2,.v U2 y0)]) x0 x1 x2 x3 x4):=by
 kernel_rfl
theorem aqz (x0):ae [1,2,31,32,33] [(2,.v U2 x0)]=(rJ x0):=by kernel_rfl
theorem aqA (x0 x1 x2 x3 x4):ae [1,2,31,32,33] (GV x0 x1 x2 x3 x4)=(GW x0 x1 x2 x3):=by kernel_rfl
theorem alA (x0 x1 x2 x3 x4):aD (ag (GV x0 x1 x2 x3 x4) (.t 48))=some x4:=by kernel_rfl
theorem aqn (x0):ae [1,2,31,32,33] (e68 x0)=(rJ x0):=by kernel_rfl
theorem aqo (x0):ae [1,2,31,32,33] (rJ x0)=(rJ x0):=by kernel_rfl
theorem aqp (x0 x1 x2 x3):ae [1,2,31,32,33] (GW x0 x1 x2 x3)=(GW x0 x1 x2 x3):=by kernel_rfl
def yN (k0:ay→V6→Int→Int→Option R) (x0:ay) (x1:V6) (x2 x3:Int):Option R:=
k0 x0 x1 x2 (IntKind.i64.wrap (x3+(1:Int)))
theorem aFe (x0 x1 x2 x3):exec cl N WR (GW x0 x1 x2 x3) K=(yN (fun y0 y1 y2 y3=>K .normal (jo y0 y1 y2 y3)) x0 x1 x2 x3):=by
 kernel_rfl
def yO (cW:V1→Option (Int)) (cX:V6→V1→Option (Bool)) (k0:Int→Option R) (k1:ay→V6→Int→Int→Option R) (k2:ay→V6→Int→Int→Option R) (x0:ay) (x1:V6) (x2 x3:Int):Option R:=
(yV (fun y0 y1 y2 y3 y4=>al y4 ((yH (yJ cW (fun y0 y1 y2 y3 y4 y5 y6 y7=>al y7 (yI k0 y0 y1 y2 y3 y4 y5 y6 y7) ((yK cX (fun y0 y1 y2 y3 y4=>al y4 (yL k0 y0 y1 y2 y3 y4) (((yN k1)) y0 y1 y2 y3))) y0 y1 y2 y4 y5 y6)))) y0 y1 y2 y3) (k2 y0 y1 y2 y3)) x0 x1 x2 x3)
theorem aFf (cW) (cX) (h56:(ri cW).holds cl) (h57:(rj cX).holds cl) (x0 x1 x2 x3):exec cl N DS (jo x0 x1 x2 x3) K=(yO cW cX (fun y0=>K .ret (rJ y0)) (fun y0 y1 y2 y3=>K .normal (jo y0 y1 y2 y3)) (fun y0 y1 y2 y3=>K (.exit 1) (jo y0 y1 y2 y3)) x0 x1 x2 x3):=by
 simp only [DS,aM,aP,aO,aQ,aFm,WH,aF,bf,aly,ah,ak,aj,bj,cG,aqw,WQ,bt,aE8,aFa cW h56,KF,alz,aE9,bg,aqx,aqy,aFb cX h57,WN,alA,aFc,aqz,aqA,bp,bq,bo,aqn,aqo,aqp,aFe]
 rfl
def uH {R:Type} (cW:V1→Option (Int)) (cX:V6→V1→Option (Bool)) (k0:Int→Option R) (k1:ay→V6→Int→Int→Option R):Nat→ay→V6→Int→Int→Option R
 | 0,_,_,_,_=>none
 | m+1,x0,x1,x2,x3=>(yO cW cX k0 (uH cW cX k0 k1 m) k1 x0 x1 x2 x3)
theorem awb (cW) (cX) (h56:(ri cW).holds cl) (h57:(rj cX).holds cl):∀ (m) (x0 x1 x2 x3),iter [1,31,32,33] (fun env K=>exec cl N DS env K) K m (jo x0 x1 x2 x3)=uH cW cX (fun y0=>K .ret (rJ y0)) (fun y0 y1 y2 y3=>K (.exit 1) (jo y0 y1 y2 y3)) m x0 x1 x2 x3:=by
 intro m
 induction m with
 | zero=>intros; rfl
 | succ m ih=>
   intro x0 x1 x2 x3
   simp only [cA,aFf cW cX h56 h57,cC,cB,cD,agn,ih]
   rfl
theorem aqq (x0):ae [2] (rJ x0)=[(2,.v U2 x0)]:=by kernel_rfl
theorem aqr (x0 x1 x2 x3):ae [2] (jo x0 x1 x2 x3)=[(2,.dead)]:=by kernel_rfl
def yP (N:Nat) (cW:V1→Option (Int)) (cX:V6→V1→Option (Bool)) (k0:Int→Option R) (k1:Option R) (x0:ay) (x1:V6) (x2 x3:Int):Option R:=
uH cW cX k0 (fun y0 y1 y2 y3=>k1) N x0 x1 x2 x3
theorem aFg (cW) (cX) (h56:(ri cW).holds cl) (h57:(rj cX).holds cl) (x0 x1 x2 x3):exec cl N KG (jo x0 x1 x2 x3) K=(yP N cW cX (fun y0=>K .ret [(2,.v U2 y0)]) (K (.exit 1) [(2,.dead)]) x0 x1 x2 x3):=by
 simp only [KG,aF,cz,agn,awb cW cX h56 h57,aqq,aqr]
 rfl
theorem aqs (x0):ae [2] [(2,.v U2 x0)]=[(2,.v U2 x0)]:=by kernel_rfl
theorem aqt:ae [2] [(2,.dead)]=[(2,.dead)]:=by kernel_rfl
def yQ (k0:Int→Option R):Option R:=
k0 (0:Int)
theorem aFh:exec cl N WT [(2,.dead)] K=(yQ (fun y0=>K .normal [(2,.v U2 y0)])):=by
 kernel_rfl
def yR (N:Nat) (cW:V1→Option (Int)) (cX:V6→V1→Option (Bool)) (k0:Int→Option R) (k1:Int→Option R) (x0:ay):Option R:=
(yF (yG (fun y0 y1=>al y1 (yM k0 y0 y1) (yS (fun y0 y1=>al y1 (yT k0 y0 y1) ((((yU (yP N cW cX k1 (yQ k1))))) y0)) y0 y1))) x0)
theorem aFi (cW) (cX) (h56:(ri cW).holds cl) (h57:(rj cX).holds cl) (x0):exec cl N KH [(0,.v aw x0)] K=(yR N cW cX (fun y0=>K .ret (ia y0)) (fun y0=>K .ret [(2,.v U2 y0)]) x0):=by
 simp only [KH,aM,aP,aO,aQ,aE6,WY,aF,bt,aE7,WX,bf,alx,ah,ak,aj,aFd,bg,aFj,WW,alw,aFk,bj,aql,aqm,aqu,aqv,bp,bq,bo,aFl,WS,aFg cW cX h56 h57,aqs,aqt,aFh]
 rfl
theorem ay9 (y0):au d39 .ret (ia y0)=some [.v U2 y0]:=by kernel_rfl
theorem aza (y0):au d39 .ret [(2,.v U2 y0)]=some [.v U2 y0]:=by kernel_rfl
def tW (N:Nat) (cW:V1→Option (Int)) (cX:V6→V1→Option (Bool)) (x0:ay) (k:Int→Option R):Option R:=
(yR N cW cX k k x0)
theorem ajX (cW) (cX) (h56:(ri cW).holds cl) (h57:(rj cX).holds cl) (x0) (k:List E→Option R):exec cl N KD [(0,.v aw x0)] (fun e env=>(au d39 e env).bind k)=tW N cW cX x0 (fun r0=>k [.v U2 r0]):=by
 simp only [KD,aFi cW cX h56 h57,ay9,aza,ah]
 rfl
def qV (S:ay→Option (Int)):a7:=cw 39 aw S fun b=> [.v U2 b]
def cS (N:Nat) (x0:ay):Option (Int):=tW N (cW N) (cX N) x0 (fun (r0:Int)=>some (r0))
def wZ (k0:ad→Option R) (x0:ad):Option R:=
k0 x0
theorem aCs (x0):exec cl N TM [(0,.v af x0)] K=(wZ (fun y0=>K .normal [(1,.loc af .no y0)]) x0):=by
 kernel_rfl
def xa (ft:V1→Option (Bool)) (k0:ad→Bool→Option R) (x0:ad):Option R:=
(ft x0.1).bind fun r226=>
k0 x0 (!r226)
theorem aCt (ft) (h38:(EC ft).holds cl) (x0):exec cl N TN [(1,.loc af .no x0)] K=(xa ft (fun y0 y1=>K .normal (GX y0 y1)) x0):=by
 rw [←put_eq h38]
 kernel_rfl
def xf (k0:Int→Option R) (x0:ad) (x1:Bool):Option R:=
k0 (2:Int)
theorem aCy (x0 x1):exec cl N TT (GX x0 x1) K=(xf (fun y0=>K .normal [(2,.v U2 y0)]) x0 x1):=by
 kernel_rfl
theorem aoD (x0):ae [1,2] [(2,.v U2 x0)]=(ia x0):=by kernel_rfl
def xk (k0:ad→Bool→Option R) (x0:ad) (x1:Bool):Option R:=
k0 x0 (decide ((x0.2.1.length:Int) > (30:Int)))
theorem aCC (x0 x1):exec cl N TX (GX x0 x1) K=(xk (fun y0 y1=>K .normal (GY y0 y1)) x0 x1):=by
 kernel_rfl
def xl (k0:Int→Option R) (x0:ad) (x1:Bool):Option R:=
k0 (3:Int)
theorem aCD (x0 x1):exec cl N TY (GY x0 x1) K=(xl (fun y0=>K .normal [(2,.v U2 y0)]) x0 x1):=by
 kernel_rfl
theorem aoE (x0 x1):ae [1,2] (GY x0 x1)=(mr x0):=by kernel_rfl
theorem akP (x0 x1):aD (ag (GY x0 x1) (.t 11))=some x1:=by kernel_rfl
theorem aoJ (x0):ae [1,2] (ia x0)=(ia x0):=by kernel_rfl
theorem aoK (x0):ae [1,2] (mr x0)=(mr x0):=by kernel_rfl
theorem akQ (x0 x1):aD (ag (GX x0 x1) (.t 6))=some x1:=by kernel_rfl
def xm (k0:b6→Int→Int→Option R) (x0:ad):Option R:=
k0 x0.2.1 (x0.2.1.length:Int) (0:Int)
theorem aCE (x0):exec cl N T6 (mr x0) K=(xm (fun y0 y1 y2=>K .normal (jq y0 y1 y2)) x0):=by
 kernel_rfl
theorem agh (x0 x1 x2):ae [17,18,19] (jq x0 x1 x2)=(jq x0 x1 x2):=by kernel_rfl
def xn (k0:b6→Int→Int→Bool→Option R) (x0:b6) (x1 x2:Int):Option R:=
k0 x0 x1 x2 (decide (x2 < x1))
theorem aCF (x0 x1 x2):exec cl N T7 (jq x0 x1 x2) K=(xn (fun y0 y1 y2 y3=>K .normal (O4 y0 y1 y2 y3)) x0 x1 x2):=by
 kernel_rfl
theorem aoL (x0 x1 x2 x3):ae [17,18,19] (O4 x0 x1 x2 x3)=(jq x0 x1 x2):=by kernel_rfl
theorem akR (x0 x1 x2 x3):aD (ag (O4 x0 x1 x2 x3) (.t 20))=some x3:=by kernel_rfl
def xc (cS:ay→Option (Int)) (k0:Int→b6→Int→Int→Bool→Option R) (x0:b6) (x1 x2:Int):Option R:=
if 0≤x2∧x2 < (x0.length:Int) then
(cS (x0.getD x2.toNat ((0:Int),((0:Int),([],()))))).bind fun r230=>
k0 r230 x0 x1 x2 (r230 != (0:Int))
else none
theorem aCv (cS) (h39:(qV cS).holds cl) (x0 x1 x2):exec cl N TQ (jq x0 x1 x2) K=(xc cS (fun y0 y1 y2 y3 y4=>exec cl N Jt (GZ y0 y1 y2 y3 y4) K) x0 x1 x2):=by
 rw [←put_eq h39]
 kernel_rfl
def xb (k0:Int→Option R) (x0:Int) (x1:b6) (x2 x3:Int) (x4:Bool):Option R:=
k0 x0
theorem aCu (x0 x1 x2 x3 x4):exec cl N TP (GZ x0 x1 x2 x3 x4) K=(xb (fun y0=>K .normal [(2,.v U2 y0)]) x0 x1 x2 x3 x4):=by
 kernel_rfl
theorem aoM (x0):ae [2,17,18,19] [(2,.v U2 x0)]=(tN x0):=by kernel_rfl
theorem aoN (x0 x1 x2 x3 x4):ae [2,17,18,19] (GZ x0 x1 x2 x3 x4)=(G3 x1 x2 x3):=by kernel_rfl
theorem akS (x0 x1 x2 x3 x4):aD (ag (GZ x0 x1 x2 x3 x4) (.t 26))=some x4:=by kernel_rfl
theorem aoO (x0):ae [2,17,18,19] (tN x0)=(tN x0):=by kernel_rfl
theorem aoP (x0 x1 x2):ae [2,17,18,19] (G3 x0 x1 x2)=(G3 x0 x1 x2):=by kernel_rfl
def xd (k0:b6→Int→Int→Option R) (x0:b6) (x1 x2:Int):Option R:=
k0 x0 x1 (IntKind.i64.wrap (x2+(1:Int)))
theorem aCw (x0 x1 x2):exec cl N TS (G3 x0 x1 x2) K=(xd (fun y0 y1 y2=>K .normal (jq y0 y1 y2)) x0 x1 x2):=by
 kernel_rfl
def xe (cS:ay→Option (Int)) (k0:Int→Option R) (k1:b6→Int→Int→Option R) (k2:b6→Int→Int→Option R) (x0:b6) (x1 x2:Int):Option R:=
(xn (fun y0 y1 y2 y3=>al y3 ((xc cS (fun y0 y1 y2 y3 y4=>al y4 (xb k0 y0 y1 y2 y3 y4) (((xd k1)) y1 y2 y3))) y0 y1 y2) (k2 y0 y1 y2)) x0 x1 x2)
theorem aCx (cS) (h39:(qV cS).holds cl) (x0 x1 x2):exec cl N DF (jq x0 x1 x2) K=(xe cS (fun y0=>K .ret (tN y0)) (fun y0 y1 y2=>K .normal (jq y0 y1 y2)) (fun y0 y1 y2=>K (.exit 1) (jq y0 y1 y2)) x0 x1 x2):=by
 simp only [DF,aM,aP,aO,aQ,aCF,TO,aF,bf,akR,ah,ak,aj,bj,cG,aoL,TR,bt,aCv cS h39,Jt,akS,aCu,bg,aoM,aoN,bp,bq,bo,aoO,aoP,aCw]
 rfl
def uA {R:Type} (cS:ay→Option (Int)) (k0:Int→Option R) (k1:b6→Int→Int→Option R):Nat→b6→Int→Int→Option R
 | 0,_,_,_=>none
 | m+1,x0,x1,x2=>(xe cS k0 (uA cS k0 k1 m) k1 x0 x1 x2)
theorem av1 (cS) (h39:(qV cS).holds cl):∀ (m) (x0 x1 x2),iter [17,18,19] (fun env K=>exec cl N DF env K) K m (jq x0 x1 x2)=uA cS (fun y0=>K .ret (tN y0)) (fun y0 y1 y2=>K (.exit 1) (jq y0 y1 y2)) m x0 x1 x2:=by
 intro m
 induction m with
 | zero=>intros; rfl
 | succ m ih=>
   intro x0 x1 x2
   simp only [cA,aCx cS h39,cC,cB,cD,agh,ih]
   rfl
theorem aoF (x0):ae [2] (tN x0)=[(2,.v U2 x0)]:=by kernel_rfl
theorem aoG (x0 x1 x2):ae [2] (jq x0 x1 x2)=[(2,.dead)]:=by kernel_rfl
def xg (N:Nat) (cS:ay→Option (Int)) (k0:Int→Option R) (k1:Option R) (x0:b6) (x1 x2:Int):Option R:=
uA cS k0 (fun y0 y1 y2=>k1) N x0 x1 x2
theorem aCz (cS) (h39:(qV cS).holds cl) (x0 x1 x2):exec cl N Ju (jq x0 x1 x2) K=(xg N cS (fun y0=>K .ret [(2,.v U2 y0)]) (K (.exit 1) [(2,.dead)]) x0 x1 x2):=by
 simp only [Ju,aF,cz,agh,av1 cS h39,aoF,aoG]
 rfl
theorem aoH (x0):ae [2] [(2,.v U2 x0)]=[(2,.v U2 x0)]:=by kernel_rfl
theorem aoI:ae [2] [(2,.dead)]=[(2,.dead)]:=by kernel_rfl
def xi (k0:Int→Option R):Option R:=
k0 (0:Int)
theorem aCA:exec cl N TW [(2,.dead)] K=(xi (fun y0=>K .normal [(2,.v U2 y0)])):=by
 kernel_rfl
def xj (N:Nat) (ft:V1→Option (Bool)) (cS:ay→Option (Int)) (k0:Int→Option R) (k1:Int→Option R) (x0:ad):Option R:=
(wZ (xa ft (fun y0 y1=>al y1 (xf k0 y0 y1) (xk (fun y0 y1=>al y1 (xl k0 y0 y1) ((((xm (xg N cS k1 (xi k1))))) y0)) y0 y1))) x0)
theorem aCB (ft) (cS) (h38:(EC ft).holds cl) (h39:(qV cS).holds cl) (x0):exec cl N Jv [(0,.v af x0)] K=(xj N ft cS (fun y0=>K .ret (ia y0)) (fun y0=>K .ret [(2,.v U2 y0)]) x0):=by
 simp only [Jv,aM,aP,aO,aQ,aCs,T5,aF,bt,aCt ft h38,T4,bf,akQ,ah,ak,aj,aCy,bg,aCC,TZ,akP,aCD,bj,aoD,aoE,aoJ,aoK,bp,bq,bo,aCE,TU,aCz cS h39,aoH,aoI,aCA]
 rfl
theorem ayE (y0):au d13 .ret (ia y0)=some [.v U2 y0]:=by kernel_rfl
theorem ayF (y0):au d13 .ret [(2,.v U2 y0)]=some [.v U2 y0]:=by kernel_rfl
def g13 (N:Nat) (ft:V1→Option (Bool)) (cS:ay→Option (Int)) (x0:ad) (k:Int→Option R):Option R:=
(xj N ft cS k k x0)
theorem ajE (ft) (cS) (h38:(EC ft).holds cl) (h39:(qV cS).holds cl) (x0) (k:List E→Option R):exec cl N Js [(0,.v af x0)] (fun e env=>(au d13 e env).bind k)=g13 N ft cS x0 (fun r0=>k [.v U2 r0]):=by
 simp only [Js,aCB ft cS h38 h39,ayE,ayF,ah]
 rfl
def mh (S:ad→Option (Int)):a7:=cw 13 af S fun b=> [.v U2 b]
def bQ (N:Nat) (x0:ad):Option (Int):=g13 N (ft N) (cS N) x0 (fun (r0:Int)=>some (r0))
def aeR (k0:V6→Option R):Option R:=
k0 [([]:List UInt8),([109,117,116,101]:List UInt8),([110,101,120,116]:List UInt8),([98,114,101,118,105,115]:List UInt8),([105,110,100,105,102,102,101,114,101,110,116]:List UInt8),([108,101,110,103,116,104,101,110]:List UInt8),([115,104,111,114,116,101,110]:List UInt8),([115,121,110,105,122,101,115,105,115]:List UInt8),([101,108,105,115,105,111,110]:List UInt8),([101,99,116,104,108,105,112,115,105,115]:List UInt8),([112,114,111,100,101,108,105,115,105,111,110]:List UInt8),([104,105,97,116,117,115]:List UInt8),([99,111,114,114,101,112,116,105,111,110]:List UInt8)]
theorem aHI:exec cl N LC [] K=(aeR (fun y0=>exec cl N .ret [(0,.own true 9 .str .no y0)] K)):=by
 kernel_rfl
def aeS (k0:V6→Option R):Option R:=
(aeR k0)
theorem aHJ:exec cl N LC [] K=(aeS (fun y0=>K .ret [(0,.own true 9 .str .no y0)])):=by
 simp only [aM,aP,aO,aQ,aHI,bg]
 rfl
theorem azz (y0):au d53 .ret [(0,.own true 9 .str .no y0)]=some [.own true 9 .str .no y0]:=by kernel_rfl
def QG (k:V6→Option R):Option R:=
(aeS k)
theorem aka (k:List E→Option R):exec cl N LB [] (fun e env=>(au d53 e env).bind k)=QG (fun r0=>k [.own true 9 .str .no r0]):=by
 simp only [LB,aHJ,azz,ah]
 rfl
def EH (S:Option V8):a7:={A:=Unit,B:=V6,f:=53,enc:=fun a=> [],dec:=dZ,S:=fun a=>S,ag:=fun b=> [.own true 9 .str .no b],ok:=(fun es b h=>iv h)}
def gn (N:Nat):Option V8:=QG (fun (r0:V6)=>some (r0))
def aeM (k0:V6→Int→Option R) (x0:V6) (x1:Int):Option R:=
k0 x0 x1
theorem aHD (x0 x1):exec cl N Zg (e0 x0 x1) K=(aeM (fun y0 y1=>K .normal (e0 y0 y1)) x0 x1):=by
 kernel_rfl
def aeN (k0:V6→Int→Bool→Option R) (x0:V6) (x1:Int):Option R:=
al (decide (x1 < (0:Int))) (k0 x0 x1 true) (k0 x0 x1 (decide (x1≥(x0.length:Int))))
theorem aHE (x0 x1):exec cl N Zh (e0 x0 x1) K=(aeN (fun y0 y1 y2=>K .normal (G4 y0 y1 y2)) x0 x1):=by
 kernel_rfl
def aeO (k0:V1→Option R) (x0:V6) (x1:Int) (x2:Bool):Option R:=
k0 ([]:List UInt8)
theorem aHF (x0 x1 x2):exec cl N Zi (G4 x0 x1 x2) K=(aeO (fun y0=>K .normal [(4,.v .str y0)]) x0 x1 x2):=by
 kernel_rfl
theorem arU (x0):ae [0,1,4] [(4,.v .str x0)]=(o5 x0):=by kernel_rfl
theorem arV (x0 x1 x2):ae [0,1,4] (G4 x0 x1 x2)=[(0,.v U0 x0),(1,.v U2 x1),(4,.dead)]:=by kernel_rfl
theorem ame (x0 x1 x2):aD (ag (G4 x0 x1 x2) (.t 12))=some x2:=by kernel_rfl
def aeP (k0:V1→Option R) (x0:V6) (x1:Int):Option R:=
if 0≤x1∧x1 < (x0.length:Int) then
k0 (x0.getD x1.toNat [])
else none
theorem aHG (x0 x1):exec cl N Zk [(0,.v U0 x0),(1,.v U2 x1),(4,.dead)] K=(aeP (fun y0=>K .normal [(4,.v .str y0)]) x0 x1):=by
 kernel_rfl
def aeQ (k0:V1→Option R) (k1:V1→Option R) (x0:V6) (x1:Int):Option R:=
(aeM (aeN (fun y0 y1 y2=>al y2 (aeO k0 y0 y1 y2) ((aeP k1) y0 y1))) x0 x1)
theorem aHH (x0 x1):exec cl N LA (e0 x0 x1) K=(aeQ (fun y0=>K .ret (o5 y0)) (fun y0=>K .ret [(4,.v .str y0)]) x0 x1):=by
 simp only [LA,aM,aP,aO,aQ,aHD,aHE,Zj,aF,bf,ame,ah,ak,aj,aHF,bg,bj,arU,arV,aHG]
 rfl
theorem azx (y0):au d52 .ret (o5 y0)=some [.v .str y0]:=by kernel_rfl
theorem azy (y0):au d52 .ret [(4,.v .str y0)]=some [.v .str y0]:=by kernel_rfl
def QF (x0:V6) (x1:Int) (k:V1→Option R):Option R:=
(aeQ k k x0 x1)
theorem aj9 (x0 x1) (k:List E→Option R):exec cl N Lz (e0 x0 x1) (fun e env=>(au d52 e env).bind k)=QF x0 x1 (fun r0=>k [.v .str r0]):=by
 simp only [Lz,aHH,azx,azy,ah]
 rfl
def EG (S:V6→Int→Option V5):a7:=jK 52 U0 U2 S fun b=> [.v .str b]
def gm (N:Nat) (x0:V6) (x1:Int):Option V5:=QF x0 x1 (fun (r0:V1)=>some (r0))
def aeF (gm:V6→Int→Option V5) (gn:Option V8) (k0:V1→Option R) (x0:Int):Option R:=
(gn).bind fun r246=>
(gm r246 x0).bind fun r247=>
k0 r247
theorem aEO (gm) (gn) (h52:(EG gm).holds cl) (h53:(EH gn).holds cl) (x0):exec cl N Ks [(0,.v U2 x0)] K=(aeF gm gn (fun y0=>exec cl N .ret [(2,.v .str y0)] K) x0):=by
 rw [←put_eq h52]
 rw [←put_eq h53]
 kernel_rfl
def aeG (gm:V6→Int→Option V5) (gn:Option V8) (k0:V1→Option R) (x0:Int):Option R:=
(aeF gm gn k0 x0)
theorem aEP (gm) (gn) (h52:(EG gm).holds cl) (h53:(EH gn).holds cl) (x0):exec cl N Ks [(0,.v U2 x0)] K=(aeG gm gn (fun y0=>K .ret [(2,.v .str y0)]) x0):=by
 simp only [aM,aP,aO,aQ,aEO gm gn h52 h53,bg]
 rfl
theorem ay4 (y0):au d31 .ret [(2,.v .str y0)]=some [.v .str y0]:=by kernel_rfl
def PE (gm:V6→Int→Option V5) (gn:Option V8) (x0:Int) (k:V1→Option R):Option R:=
(aeG gm gn k x0)
theorem ajT (gm) (gn) (h52:(EG gm).holds cl) (h53:(EH gn).holds cl) (x0) (k:List E→Option R):exec cl N Kr [(0,.v U2 x0)] (fun e env=>(au d31 e env).bind k)=PE gm gn x0 (fun r0=>k [.v .str r0]):=by
 simp only [Kr,aEP gm gn h52 h53,ay4,ah]
 rfl
def jJ (S:Int→Option V5):a7:=cw 31 U2 S fun b=> [.v .str b]
def bw (N:Nat) (x0:Int):Option V5:=PE (gm N) (gn N) x0 (fun (r0:V1)=>some (r0))
def sd (k0:ad→Option R) (x0:ad):Option R:=
k0 x0
theorem aMh (x0):exec cl N adp [(0,.v af x0)] K=(sd (fun y0=>K .normal [(1,.loc af .no y0)]) x0):=by
 kernel_rfl
def sA (bQ:ad→Option (Int)) (k0:ad→Int→Bool→Option R) (x0:ad):Option R:=
(bQ x0).bind fun r268=>
k0 x0 r268 (r268 != (0:Int))
theorem aMx (bQ) (h13:(mh bQ).holds cl) (x0):exec cl N adB [(1,.loc af .no x0)] K=(sA bQ (fun y0 y1 y2=>exec cl N NZ (G5 y0 y1 y2) K) x0):=by
 rw [←put_eq h13]
 kernel_rfl
def sv (k0:V1→Int→Option R) (x0:ad) (x1:Int) (x2:Bool):Option R:=
k0 ([]:List UInt8) x1
theorem aMt (x0 x1 x2):exec cl N adz (G5 x0 x1 x2) K=(sv (fun y0 y1=>K .normal (fb y0 y1)) x0 x1 x2):=by
 kernel_rfl
theorem auY (x0 x1):ae [1,2,3] (fb x0 x1)=(tO x0 x1):=by kernel_rfl
theorem auZ (x0 x1 x2):ae [1,2,3] (G5 x0 x1 x2)=(G6 x0):=by kernel_rfl
theorem ank (x0 x1 x2):aD (ag (G5 x0 x1 x2) (.t 13))=some x2:=by kernel_rfl
def sx (a6:V1→V1→Option V5) (k0:ad→V1→Option R) (x0:ad):Option R:=
if ([108,105,99,101,110,99,101,32]:List UInt8).length+x0.1.length≤140737488355328 then
let v270:V1:=(([108,105,99,101,110,99,101,32]:List UInt8)++x0.1)
if v270.length+([32,123,10]:List UInt8).length≤140737488355328 then
(a6 ([]:List UInt8) (v270++([32,123,10]:List UInt8))).bind fun r272=>
k0 x0 r272
else none
else none
theorem aMv (a6) (h30:(fU a6).holds cl) (x0):exec cl N adA (G6 x0) K=(sx a6 (fun y0 y1=>exec cl N (.seq (.seq N0 NW) NX) [(1,.loc af .no y0),(5,.sb 66 5 y1)] K) x0):=by
 rw [←put_eq h30]
 kernel_rfl
def sB (k0:V1→b6→Int→Int→Option R) (x0:ad) (x1:V1):Option R:=
k0 x1 x0.2.1 (x0.2.1.length:Int) (0:Int)
theorem aMy (x0 x1):exec cl N N0 [(1,.loc af .no x0),(5,.sb 66 5 x1)] K=(sB (fun y0 y1 y2 y3=>K .normal (gB y0 y1 y2 y3)) x0 x1):=by
 kernel_rfl
theorem RF (x0 x1 x2 x3):ae [5,21,22,23] (gB x0 x1 x2 x3)=(gB x0 x1 x2 x3):=by kernel_rfl
def sC (k0:V1→b6→Int→Int→Bool→Option R) (x0:V1) (x1:b6) (x2 x3:Int):Option R:=
k0 x0 x1 x2 x3 (decide (x3 < x2))
theorem aMz (x0 x1 x2 x3):exec cl N adC (gB x0 x1 x2 x3) K=(sC (fun y0 y1 y2 y3 y4=>K .normal (O5 y0 y1 y2 y3 y4)) x0 x1 x2 x3):=by
 kernel_rfl
theorem au0 (x0 x1 x2 x3 x4):ae [5,21,22,23] (O5 x0 x1 x2 x3 x4)=(gB x0 x1 x2 x3):=by kernel_rfl
theorem anl (x0 x1 x2 x3 x4):aD (ag (O5 x0 x1 x2 x3 x4) (.t 24))=some x4:=by kernel_rfl
def sn (a6:V1→V1→Option V5) (bw:Int→Option V5) (cb:Int→Option V5) (k0:V1→ay→b6→Int→Int→Option R) (x0:V1) (x1:b6) (x2 x3:Int):Option R:=
if 0≤x3∧x3 < (x1.length:Int) then
(bw ((x1.getD x3.toNat ((0:Int),((0:Int),([],())))).1)).bind fun r274=>
if ([32,32]:List UInt8).length+r274.length≤140737488355328 then
let v275:V1:=(([32,32]:List UInt8)++r274)
if v275.length+([32]:List UInt8).length≤140737488355328 then
let v276:V1:=(v275++([32]:List UInt8))
(cb ((x1.getD x3.toNat ((0:Int),((0:Int),([],())))).2.1)).bind fun r277=>
if v276.length+r277.length≤140737488355328 then
(a6 x0 (v276++r277)).bind fun r279=>
k0 r279 (x1.getD x3.toNat ((0:Int),((0:Int),([],())))) x1 x2 x3
else none
else none
else none
else none
theorem aMp (a6) (bw) (cb) (h30:(fU a6).holds cl) (h31:(jJ bw).holds cl) (h32:(jd cb).holds cl) (x0 x1 x2 x3):exec cl N adw (gB x0 x1 x2 x3) K=(sn a6 bw cb (fun y0 y1 y2 y3 y4=>exec cl N (.seq (.seq NR NT) NU) (e87 y0 y1 y2 y3 y4) K) x0 x1 x2 x3):=by
 rw [←put_eq h30]
 rw [←put_eq h31]
 rw [←put_eq h32]
 kernel_rfl
def se (k0:V1→b6→Int→Int→V6→Int→Int→Option R) (x0:V1) (x1:ay) (x2:b6) (x3 x4:Int):Option R:=
k0 x0 x2 x3 x4 x1.2.2.1 (x1.2.2.1.length:Int) (0:Int)
theorem aMi (x0 x1 x2 x3 x4):exec cl N NR (e87 x0 x1 x2 x3 x4) K=(se (fun y0 y1 y2 y3 y4 y5 y6=>K .normal (ib y0 y1 y2 y3 y4 y5 y6)) x0 x1 x2 x3 x4):=by
 kernel_rfl
theorem RG (x0 x1 x2 x3 x4 x5 x6):ae [5,21,22,23,38,39,40] (ib x0 x1 x2 x3 x4 x5 x6)=(ib x0 x1 x2 x3 x4 x5 x6):=by kernel_rfl
def sf (k0:V1→b6→Int→Int→V6→Int→Int→Bool→Option R) (x0:V1) (x1:b6) (x2 x3:Int) (x4:V6) (x5 x6:Int):Option R:=
k0 x0 x1 x2 x3 x4 x5 x6 (decide (x6 < x5))
theorem aMj (x0 x1 x2 x3 x4 x5 x6):exec cl N adr (ib x0 x1 x2 x3 x4 x5 x6) K=(sf (fun y0 y1 y2 y3 y4 y5 y6 y7=>K .normal (O6 y0 y1 y2 y3 y4 y5 y6 y7)) x0 x1 x2 x3 x4 x5 x6):=by
 kernel_rfl
theorem au1 (x0 x1 x2 x3 x4 x5 x6 x7):ae [5,21,22,23,38,39,40] (O6 x0 x1 x2 x3 x4 x5 x6 x7)=(ib x0 x1 x2 x3 x4 x5 x6):=by kernel_rfl
theorem anm (x0 x1 x2 x3 x4 x5 x6 x7):aD (ag (O6 x0 x1 x2 x3 x4 x5 x6 x7) (.t 41))=some x7:=by kernel_rfl
def sg (a6:V1→V1→Option V5) (k0:V1→b6→Int→Int→V6→Int→Int→Option R) (x0:V1) (x1:b6) (x2 x3:Int) (x4:V6) (x5 x6:Int):Option R:=
if 0≤x6∧x6 < (x4.length:Int) then
let v281:Int:=(if (1:Int) < x6 then (1:Int) else x6)
if 0≤v281∧v281 < ([([32,105,110,32]:List UInt8),([44,32]:List UInt8)].length:Int) then
if v281.toNat < [([32,105,110,32]:List UInt8),([44,32]:List UInt8)].length then
let v282:V1:=([([32,105,110,32]:List UInt8),([44,32]:List UInt8)].getD v281.toNat [])
if v282.length+([34]:List UInt8).length≤140737488355328 then
let v283:V1:=(v282++([34]:List UInt8))
if v283.length+(x4.getD x6.toNat []).length≤140737488355328 then
let v284:V1:=(v283++(x4.getD x6.toNat []))
if v284.length+([34]:List UInt8).length≤140737488355328 then
(a6 x0 (v284++([34]:List UInt8))).bind fun r286=>
k0 r286 x1 x2 x3 x4 x5 x6
else none
else none
else none
else none
else none
else none
theorem aMk (a6) (h30:(fU a6).holds cl) (x0 x1 x2 x3 x4 x5 x6):exec cl N adt (ib x0 x1 x2 x3 x4 x5 x6) K=(sg a6 (fun y0 y1 y2 y3 y4 y5 y6=>K .normal (ib y0 y1 y2 y3 y4 y5 y6)) x0 x1 x2 x3 x4 x5 x6):=by
 rw [←put_eq h30]
 kernel_rfl
def sh (k0:V1→b6→Int→Int→V6→Int→Int→Option R) (x0:V1) (x1:b6) (x2 x3:Int) (x4:V6) (x5 x6:Int):Option R:=
k0 x0 x1 x2 x3 x4 x5 (IntKind.i64.wrap (x6+(1:Int)))
theorem aMl (x0 x1 x2 x3 x4 x5 x6):exec cl N adv (ib x0 x1 x2 x3 x4 x5 x6) K=(sh (fun y0 y1 y2 y3 y4 y5 y6=>K .normal (ib y0 y1 y2 y3 y4 y5 y6)) x0 x1 x2 x3 x4 x5 x6):=by
 kernel_rfl
def si (a6:V1→V1→Option V5) (k0:V1→b6→Int→Int→V6→Int→Int→Option R) (k1:V1→b6→Int→Int→V6→Int→Int→Option R) (x0:V1) (x1:b6) (x2 x3:Int) (x4:V6) (x5 x6:Int):Option R:=
(sf (fun y0 y1 y2 y3 y4 y5 y6 y7=>al y7 ((sg a6 ((sh k0))) y0 y1 y2 y3 y4 y5 y6) (k1 y0 y1 y2 y3 y4 y5 y6)) x0 x1 x2 x3 x4 x5 x6)
theorem aMm (a6) (h30:(fU a6).holds cl) (x0 x1 x2 x3 x4 x5 x6):exec cl N El (ib x0 x1 x2 x3 x4 x5 x6) K=(si a6 (fun y0 y1 y2 y3 y4 y5 y6=>K .normal (ib y0 y1 y2 y3 y4 y5 y6)) (fun y0 y1 y2 y3 y4 y5 y6=>K (.exit 2) (ib y0 y1 y2 y3 y4 y5 y6)) x0 x1 x2 x3 x4 x5 x6):=by
 simp only [El,aM,aP,aO,aQ,aMj,ads,aF,bf,anm,ah,ak,aj,bj,cG,au1,adu,bt,aMk a6 h30,bp,bq,bo,RG,aMl]
 rfl
def qe {R:Type} (a6:V1→V1→Option V5) (k0:V1→b6→Int→Int→V6→Int→Int→Option R):Nat→V1→b6→Int→Int→V6→Int→Int→Option R
 | 0,_,_,_,_,_,_,_=>none
 | m+1,x0,x1,x2,x3,x4,x5,x6=>(si a6 (qe a6 k0 m) k0 x0 x1 x2 x3 x4 x5 x6)
theorem awE (a6) (h30:(fU a6).holds cl):∀ (m) (x0 x1 x2 x3 x4 x5 x6),iter [5,21,22,23,38,39,40] (fun env K=>exec cl N El env K) K m (ib x0 x1 x2 x3 x4 x5 x6)=qe a6 (fun y0 y1 y2 y3 y4 y5 y6=>K (.exit 2) (ib y0 y1 y2 y3 y4 y5 y6)) m x0 x1 x2 x3 x4 x5 x6:=by
 intro m
 induction m with
 | zero=>intros; rfl
 | succ m ih=>
   intro x0 x1 x2 x3 x4 x5 x6
   simp only [cA,aMm a6 h30,cC,cB,cD,RG,ih]
   rfl
theorem au2 (x0 x1 x2 x3 x4 x5 x6):ae [5,21,22,23] (ib x0 x1 x2 x3 x4 x5 x6)=(gB x0 x1 x2 x3):=by kernel_rfl
def sj (N:Nat) (a6:V1→V1→Option V5) (k0:V1→b6→Int→Int→Option R) (x0:V1) (x1:b6) (x2 x3:Int) (x4:V6) (x5 x6:Int):Option R:=
qe a6 (fun y0 y1 y2 y3 y4 y5 y6=>k0 y0 y1 y2 y3) N x0 x1 x2 x3 x4 x5 x6
theorem aMn (a6) (h30:(fU a6).holds cl) (x0 x1 x2 x3 x4 x5 x6):exec cl N NS (ib x0 x1 x2 x3 x4 x5 x6) K=(sj N a6 (fun y0 y1 y2 y3=>K (.exit 2) (gB y0 y1 y2 y3)) x0 x1 x2 x3 x4 x5 x6):=by
 simp only [NS,aF,cz,RG,awE a6 h30,au2]
 rfl
def sk (a6:V1→V1→Option V5) (k0:V1→b6→Int→Int→Option R) (x0:V1) (x1:b6) (x2 x3:Int):Option R:=
(a6 x0 ([59,10]:List UInt8)).bind fun r288=>
k0 r288 x1 x2 x3
theorem aMo (a6) (h30:(fU a6).holds cl) (x0 x1 x2 x3):exec cl N NU (gB x0 x1 x2 x3) K=(sk a6 (fun y0 y1 y2 y3=>K .normal (gB y0 y1 y2 y3)) x0 x1 x2 x3):=by
 rw [←put_eq h30]
 kernel_rfl
def sq (k0:V1→b6→Int→Int→Option R) (x0:V1) (x1:b6) (x2 x3:Int):Option R:=
k0 x0 x1 x2 (IntKind.i64.wrap (x3+(1:Int)))
theorem aMq (x0 x1 x2 x3):exec cl N ady (gB x0 x1 x2 x3) K=(sq (fun y0 y1 y2 y3=>K .normal (gB y0 y1 y2 y3)) x0 x1 x2 x3):=by
 kernel_rfl
def sr (N:Nat) (a6:V1→V1→Option V5) (bw:Int→Option V5) (cb:Int→Option V5) (k0:V1→b6→Int→Int→Option R) (k1:V1→b6→Int→Int→Option R) (x0:V1) (x1:b6) (x2 x3:Int):Option R:=
(sC (fun y0 y1 y2 y3 y4=>al y4 ((sn a6 bw cb (se (sj N a6 ((sk a6 ((sq k0))))))) y0 y1 y2 y3) (k1 y0 y1 y2 y3)) x0 x1 x2 x3)
theorem aMr (a6) (bw) (cb) (h30:(fU a6).holds cl) (h31:(jJ bw).holds cl) (h32:(jd cb).holds cl) (x0 x1 x2 x3):exec cl N Em (gB x0 x1 x2 x3) K=(sr N a6 bw cb (fun y0 y1 y2 y3=>K .normal (gB y0 y1 y2 y3)) (fun y0 y1 y2 y3=>K (.exit 0) (gB y0 y1 y2 y3)) x0 x1 x2 x3):=by
 simp only [Em,aM,aP,aO,aQ,aMz,adq,aF,bf,anl,ah,ak,aj,bj,cG,au0,adx,bt,aMp a6 bw cb h30 h31 h32,aMi,NT,aMn a6 h30,bp,bq,bo,RF,aMo a6 h30,aMq]
 rfl
def uZ {R:Type} (N:Nat) (a6:V1→V1→Option V5) (bw:Int→Option V5) (cb:Int→Option V5) (k0:V1→b6→Int→Int→Option R):Nat→V1→b6→Int→Int→Option R
 | 0,_,_,_,_=>none
 | m+1,x0,x1,x2,x3=>(sr N a6 bw cb (uZ N a6 bw cb k0 m) k0 x0 x1 x2 x3)
theorem awF (a6) (bw) (cb) (h30:(fU a6).holds cl) (h31:(jJ bw).holds cl) (h32:(jd cb).holds cl):∀ (m) (x0 x1 x2 x3),iter [5,21,22,23] (fun env K=>exec cl N Em env K) K m (gB x0 x1 x2 x3)=uZ N a6 bw cb (fun y0 y1 y2 y3=>K (.exit 0) (gB y0 y1 y2 y3)) m x0 x1 x2 x3:=by
 intro m
 induction m with
 | zero=>intros; rfl
 | succ m ih=>
   intro x0 x1 x2 x3
   simp only [cA,aMr a6 bw cb h30 h31 h32,cC,cB,cD,RF,ih]
   rfl
theorem au3 (x0 x1 x2 x3):ae [5] (gB x0 x1 x2 x3)=[(5,.sb 66 5 x0)]:=by kernel_rfl
def su (N:Nat) (a6:V1→V1→Option V5) (bw:Int→Option V5) (cb:Int→Option V5) (k0:V1→Option R) (x0:V1) (x1:b6) (x2 x3:Int):Option R:=
uZ N a6 bw cb (fun y0 y1 y2 y3=>k0 y0) N x0 x1 x2 x3
theorem aMs (a6) (bw) (cb) (h30:(fU a6).holds cl) (h31:(jJ bw).holds cl) (h32:(jd cb).holds cl) (x0 x1 x2 x3):exec cl N NV (gB x0 x1 x2 x3) K=(su N a6 bw cb (fun y0=>K (.exit 0) [(5,.sb 66 5 y0)]) x0 x1 x2 x3):=by
 simp only [NV,aF,cz,RF,awF a6 bw cb h30 h31 h32,au3]
 rfl
theorem au4 (x0):ae [5] [(5,.sb 66 5 x0)]=[(5,.sb 66 5 x0)]:=by kernel_rfl
def sw (a6:V1→V1→Option V5) (eg:V1→Option V5) (k0:V1→Int→Option R) (x0:V1):Option R:=
(a6 x0 ([125,10]:List UInt8)).bind fun r291=>
(eg r291).bind fun r292=>
k0 r292 (0:Int)
theorem aMu (a6) (eg) (h30:(fU a6).holds cl) (h33:(j9 eg).holds cl) (x0):exec cl N NX [(5,.sb 66 5 x0)] K=(sw a6 eg (fun y0 y1=>exec cl N .ret (fb y0 y1) K) x0):=by
 rw [←put_eq h30]
 rw [←put_eq h33]
 kernel_rfl
def sz (N:Nat) (bQ:ad→Option (Int)) (a6:V1→V1→Option V5) (bw:Int→Option V5) (cb:Int→Option V5) (eg:V1→Option V5) (k0:V1→Int→Option R) (k1:V1→Int→Option R) (x0:ad):Option R:=
(sd (sA bQ (fun y0 y1 y2=>al y2 (sv k0 y0 y1 y2) ((sx a6 (sB (su N a6 bw cb ((sw a6 eg k1))))) y0))) x0)
theorem aMw (bQ) (a6) (bw) (cb) (eg) (h13:(mh bQ).holds cl) (h30:(fU a6).holds cl) (h31:(jJ bw).holds cl) (h32:(jd cb).holds cl) (h33:(j9 eg).holds cl) (x0):exec cl N NY [(0,.v af x0)] K=(sz N bQ a6 bw cb eg (fun y0 y1=>K .ret (tO y0 y1)) (fun y0 y1=>K .ret (fb y0 y1)) x0):=by
 simp only [NY,aM,aP,aO,aQ,aMh,aMx bQ h13,NZ,aF,bf,ank,ah,ak,aj,aMt,bg,bj,auY,auZ,aMv a6 h30,aMy,NW,bt,aMs a6 bw cb h30 h31 h32,bp,bq,bo,au4,aMu a6 eg h30 h33]
 rfl
theorem aAp (y0 y1):au d9 .ret (tO y0 y1)=some [.v .str y0,.v U2 y1]:=by kernel_rfl
theorem aAq (y0 y1):au d9 .ret (fb y0 y1)=some [.v .str y0,.v U2 y1]:=by kernel_rfl
def g9 (N:Nat) (bQ:ad→Option (Int)) (a6:V1→V1→Option V5) (bw:Int→Option V5) (cb:Int→Option V5) (eg:V1→Option V5) (x0:ad) (k:V1→Int→Option R):Option R:=
(sz N bQ a6 bw cb eg k k x0)
theorem akE (bQ) (a6) (bw) (cb) (eg) (h13:(mh bQ).holds cl) (h30:(fU a6).holds cl) (h31:(jJ bw).holds cl) (h32:(jd cb).holds cl) (h33:(j9 eg).holds cl) (x0) (k:List E→Option R):exec cl N c9 [(0,.v af x0)] (fun e env=>(au d9 e env).bind k)=g9 N bQ a6 bw cb eg x0 (fun r0 r1=>k [.v .str r0,.v U2 r1]):=by
 simp only [c9,aMw bQ a6 bw cb eg h13 h30 h31 h32 h33,aAp,aAq,ah]
 rfl
def rC (S:ad→Option V7):a7:=cw 9 af S fun b=> [.v .str b.1,.v U2 b.2]
def S9 (N:Nat) (x0:ad):Option V7:=g9 N (bQ N) (a6 N) (bw N) (cb N) (eg N) x0 (fun (r0:V1) (r1:Int)=>some (r0,r1))
def QW (k0:Bool→Option R) (x0:Int):Option R:=
al (decide (x0≥(97:Int))) (k0 (decide (x0≤(122:Int)))) (k0 false)
theorem aKl (x0):exec cl N MS [(0,.v U1 x0)] K=(QW (fun y0=>exec cl N .ret [(2,.v .bool y0)] K) x0):=by
 kernel_rfl
def QX (k0:Bool→Option R) (x0:Int):Option R:=
(QW k0 x0)
theorem aKm (x0):exec cl N MS [(0,.v U1 x0)] K=(QX (fun y0=>K .ret [(2,.v .bool y0)]) x0):=by
 simp only [aM,aP,aO,aQ,aKl,bg]
 rfl
theorem az4 (y0):au d73 .ret [(2,.v .bool y0)]=some [.v .bool y0]:=by kernel_rfl
def Hs (x0:Int) (k:Bool→Option R):Option R:=
(QX k x0)
theorem akt (x0) (k:List E→Option R):exec cl N MR [(0,.v U1 x0)] (fun e env=>(au d73 e env).bind k)=Hs x0 (fun r0=>k [.v .bool r0]):=by
 simp only [MR,aKm,az4,ah]
 rfl
def nG (S:Int→Option (Bool)):a7:=cw 73 U1 S fun b=> [.v .bool b]
def bT (N:Nat) (x0:Int):Option (Bool):=Hs x0 (fun (r0:Bool)=>some (r0))
def QY (k0:Bool→Option R) (x0:Int):Option R:=
al (decide (x0≥(48:Int))) (k0 (decide (x0≤(57:Int)))) (k0 false)
theorem aKn (x0):exec cl N MU [(0,.v U1 x0)] K=(QY (fun y0=>exec cl N .ret [(2,.v .bool y0)] K) x0):=by
 kernel_rfl
def QZ (k0:Bool→Option R) (x0:Int):Option R:=
(QY k0 x0)
theorem aKo (x0):exec cl N MU [(0,.v U1 x0)] K=(QZ (fun y0=>K .ret [(2,.v .bool y0)]) x0):=by
 simp only [aM,aP,aO,aQ,aKn,bg]
 rfl
theorem az5 (y0):au d74 .ret [(2,.v .bool y0)]=some [.v .bool y0]:=by kernel_rfl
def Ht (x0:Int) (k:Bool→Option R):Option R:=
(QZ k x0)
theorem aku (x0) (k:List E→Option R):exec cl N MT [(0,.v U1 x0)] (fun e env=>(au d74 e env).bind k)=Ht x0 (fun r0=>k [.v .bool r0]):=by
 simp only [MT,aKo,az5,ah]
 rfl
def jf (S:Int→Option (Bool)):a7:=cw 74 U1 S fun b=> [.v .bool b]
def bc (N:Nat) (x0:Int):Option (Bool):=Ht x0 (fun (r0:Bool)=>some (r0))
def nW (k0:V1→Option R) (x0:V1):Option R:=
k0 x0
theorem aH8 (x0):exec cl N ZL [(0,.v .str x0)] K=(nW (fun y0=>K .normal [(0,.v .str y0)]) x0):=by
 kernel_rfl
def nX (bT:Int→Option (Bool)) (k0:V1→Bool→Option R) (x0:V1):Option R:=
al (x0==([]:List UInt8)) (k0 x0 true) (if 0≤(0:Int)∧(0:Int) < (x0.length:Int) then
(bT ((x0.getD (0:Int).toNat 0).toNat:Int)).bind fun r328=>
k0 x0 (!r328)
else none)
theorem aH9 (bT) (h73:(nG bT).holds cl) (x0):exec cl N ZM [(0,.v .str x0)] K=(nX bT (fun y0 y1=>K .normal (G7 y0 y1)) x0):=by
 rw [←put_eq h73]
 kernel_rfl
def n7 (k0:Int→Option R) (x0:V1) (x1:Bool):Option R:=
k0 (0:Int)
theorem aIg (x0 x1):exec cl N ZT (G7 x0 x1) K=(n7 (fun y0=>K .normal [(2,.v U2 y0)]) x0 x1):=by
 kernel_rfl
theorem asd (x0):ae [0,2] [(2,.v U2 x0)]=(kc x0):=by kernel_rfl
theorem ase (x0 x1):ae [0,2] (G7 x0 x1)=(ke x0):=by kernel_rfl
theorem aml (x0 x1):aD (ag (G7 x0 x1) (.t 11))=some x1:=by kernel_rfl
def n8 (k0:V1→Int→Option R) (x0:V1):Option R:=
k0 x0 (1:Int)
theorem aIh (x0):exec cl N ZV (ke x0) K=(n8 (fun y0 y1=>K .normal (aR y0 y1)) x0):=by
 kernel_rfl
theorem Ry (x0 x1):ae [0,3] (aR x0 x1)=(aR x0 x1):=by kernel_rfl
def n9 (k0:V1→Int→Bool→Option R) (x0:V1) (x1:Int):Option R:=
k0 x0 x1 (decide (x1 < (x0.length:Int)))
theorem aIi (x0 x1):exec cl N ZW (aR x0 x1) K=(n9 (fun y0 y1 y2=>K .normal (O7 y0 y1 y2)) x0 x1):=by
 kernel_rfl
theorem asf (x0 x1 x2):ae [0,3] (O7 x0 x1 x2)=(aR x0 x1):=by kernel_rfl
theorem amm (x0 x1 x2):aD (ag (O7 x0 x1 x2) (.t 15))=some x2:=by kernel_rfl
def oc (bT:Int→Option (Bool)) (bc:Int→Option (Bool)) (k0:V1→Int→Bool→Option R) (x0:V1) (x1:Int):Option R:=
if 0≤x1∧x1 < (x0.length:Int) then
(bT ((x0.getD x1.toNat 0).toNat:Int)).bind fun r331=>
al r331 (k0 x0 x1 true) (if 0≤x1∧x1 < (x0.length:Int) then
(bc ((x0.getD x1.toNat 0).toNat:Int)).bind fun r333=>
k0 x0 x1 r333
else none)
else none
theorem aIj (bT) (bc) (h73:(nG bT).holds cl) (h74:(jf bc).holds cl) (x0 x1):exec cl N ZY (aR x0 x1) K=(oc bT bc (fun y0 y1 y2=>K .normal (o9 y0 y1 y2)) x0 x1):=by
 rw [←put_eq h73]
 rw [←put_eq h74]
 kernel_rfl
def od (k0:V1→Int→Option R) (x0:V1) (x1:Int) (x2:Bool):Option R:=
k0 x0 (IntKind.i64.wrap (x1+(1:Int)))
theorem aIk (x0 x1 x2):exec cl N ZZ (o9 x0 x1 x2) K=(od (fun y0 y1=>K .normal (aR y0 y1)) x0 x1 x2):=by
 kernel_rfl
theorem ash (x0 x1 x2):ae [0,3] (o9 x0 x1 x2)=(aR x0 x1):=by kernel_rfl
theorem amn (x0 x1 x2):aD (ag (o9 x0 x1 x2) (.t 25))=some x2:=by kernel_rfl
def nY (bT:Int→Option (Bool)) (bc:Int→Option (Bool)) (k0:V1→Int→Bool→Option R) (x0:V1) (x1:Int):Option R:=
if 0≤x1∧x1 < (x0.length:Int) then
al (((x0.getD x1.toNat 0).toNat:Int) != (45:Int)) (k0 x0 x1 true) (al ((IntKind.i64.wrap (x1+(1:Int)))==(x0.length:Int)) (k0 x0 x1 true) (let v339:Int:=(IntKind.i64.wrap (x1+(1:Int)))
if 0≤v339∧v339 < (x0.length:Int) then
(bT ((x0.getD v339.toNat 0).toNat:Int)).bind fun r341=>
al (!r341) (let v342:Int:=(IntKind.i64.wrap (x1+(1:Int)))
if 0≤v342∧v342 < (x0.length:Int) then
(bc ((x0.getD v342.toNat 0).toNat:Int)).bind fun r344=>
k0 x0 x1 (!r344)
else none) (k0 x0 x1 false)
else none))
else none
theorem aIa (bT) (bc) (h73:(nG bT).holds cl) (h74:(jf bc).holds cl) (x0 x1):exec cl N ZN (aR x0 x1) K=(nY bT bc (fun y0 y1 y2=>K .normal (O8 y0 y1 y2)) x0 x1):=by
 rw [←put_eq h73]
 rw [←put_eq h74]
 kernel_rfl
theorem asi (x0 x1 x2):ae [0,3] (O8 x0 x1 x2)=(aR x0 x1):=by kernel_rfl
theorem amo (x0 x1 x2):aD (ag (O8 x0 x1 x2) (.t 54))=some x2:=by kernel_rfl
def nZ (k0:V1→Int→Option R) (x0:V1) (x1:Int):Option R:=
k0 x0 (IntKind.i64.wrap (x1+(2:Int)))
theorem aIb (x0 x1):exec cl N ZP (aR x0 x1) K=(nZ (fun y0 y1=>K .normal (aR y0 y1)) x0 x1):=by
 kernel_rfl
def n0 (bT:Int→Option (Bool)) (bc:Int→Option (Bool)) (k0:V1→Int→Option R) (k1:V1→Int→Option R) (x0:V1) (x1:Int):Option R:=
(n9 (fun y0 y1 y2=>al y2 ((oc bT bc (fun y0 y1 y2=>al y2 (od k0 y0 y1 y2) ((nY bT bc (fun y0 y1 y2=>al y2 (k1 y0 y1) ((nZ k0) y0 y1))) y0 y1))) y0 y1) (k1 y0 y1)) x0 x1)
theorem aIc (bT) (bc) (h73:(nG bT).holds cl) (h74:(jf bc).holds cl) (x0 x1):exec cl N D1 (aR x0 x1) K=(n0 bT bc (fun y0 y1=>K .normal (aR y0 y1)) (fun y0 y1=>K (.exit 0) (aR y0 y1)) x0 x1):=by
 simp only [D1,aM,aP,aO,aQ,aIi,ZX,aF,bf,amm,ah,ak,aj,bj,cG,asf,ZQ,bt,aIj bT bc h73 h74,Z0,amn,aIk,Ry,ash,aIa bT bc h73 h74,ZO,amo,asi,aIb,bp,bq,bo,S2 1 0 rfl]
 rfl
def jO {R:Type} (bT:Int→Option (Bool)) (bc:Int→Option (Bool)) (k0:V1→Int→Option R):Nat→V1→Int→Option R
 | 0,_,_=>none
 | m+1,x0,x1=>(n0 bT bc (jO bT bc k0 m) k0 x0 x1)
theorem awk (bT) (bc) (h73:(nG bT).holds cl) (h74:(jf bc).holds cl):∀ (m) (x0 x1),iter [0,3] (fun env K=>exec cl N D1 env K) K m (aR x0 x1)=jO bT bc (fun y0 y1=>K (.exit 0) (aR y0 y1)) m x0 x1:=by
 intro m
 induction m with
 | zero=>intros; rfl
 | succ m ih=>
   intro x0 x1
   simp only [cA,aIc bT bc h73 h74,cC,cB,cD,Ry,ih]
   rfl
theorem asj (x0 x1):ae [3] (aR x0 x1)=[(3,.v U2 x1)]:=by kernel_rfl
def n4 (N:Nat) (bT:Int→Option (Bool)) (bc:Int→Option (Bool)) (k0:Int→Option R) (x0:V1) (x1:Int):Option R:=
jO bT bc (fun y0 y1=>k0 y1) N x0 x1
theorem aId (bT) (bc) (h73:(nG bT).holds cl) (h74:(jf bc).holds cl) (x0 x1):exec cl N LN (aR x0 x1) K=(n4 N bT bc (fun y0=>K (.exit 0) [(3,.v U2 y0)]) x0 x1):=by
 simp only [LN,aF,cz,Ry,awk bT bc h73 h74,asj]
 rfl
theorem asl (x0):ae [3] [(3,.v U2 x0)]=[(3,.v U2 x0)]:=by kernel_rfl
def n5 (k0:Int→Option R) (x0:Int):Option R:=
k0 x0
theorem aIe (x0):exec cl N ZS [(3,.v U2 x0)] K=(n5 (fun y0=>K .normal [(2,.v U2 y0)]) x0):=by
 kernel_rfl
def n6 (N:Nat) (bT:Int→Option (Bool)) (bc:Int→Option (Bool)) (k0:Int→Option R) (k1:Int→Option R) (x0:V1):Option R:=
(nW (nX bT (fun y0 y1=>al y1 (n7 k0 y0 y1) ((n8 (n4 N bT bc ((n5 k1)))) y0))) x0)
theorem aIf (bT) (bc) (h73:(nG bT).holds cl) (h74:(jf bc).holds cl) (x0):exec cl N LO [(0,.v .str x0)] K=(n6 N bT bc (fun y0=>K .ret (kc y0)) (fun y0=>K .ret [(2,.v U2 y0)]) x0):=by
 simp only [LO,aM,aP,aO,aQ,aH8,aH9 bT h73,ZU,aF,bf,aml,ah,ak,aj,aIg,bg,bj,asd,ase,aIh,ZR,bt,aId bT bc h73 h74,bp,bq,bo,asl,aIe]
 rfl
theorem azG (y0):au d58 .ret (kc y0)=some [.v U2 y0]:=by kernel_rfl
theorem azH (y0):au d58 .ret [(2,.v U2 y0)]=some [.v U2 y0]:=by kernel_rfl
def mV (N:Nat) (bT:Int→Option (Bool)) (bc:Int→Option (Bool)) (x0:V1) (k:Int→Option R):Option R:=
(n6 N bT bc k k x0)
theorem ake (bT) (bc) (h73:(nG bT).holds cl) (h74:(jf bc).holds cl) (x0) (k:List E→Option R):exec cl N LM [(0,.v .str x0)] (fun e env=>(au d58 e env).bind k)=mV N bT bc x0 (fun r0=>k [.v U2 r0]):=by
 simp only [LM,aIf bT bc h73 h74,azG,azH,ah]
 rfl
def rk (S:V1→Option (Int)):a7:=cw 58 .str S fun b=> [.v U2 b]
def cL (N:Nat) (x0:V1):Option (Int):=mV N (bT N) (bc N) x0 (fun (r0:Int)=>some (r0))
def Hj (cL:V1→Option (Int)) (k0:Bool→Option R) (x0:V1):Option R:=
al (x0 != ([]:List UInt8)) (al (decide ((x0.length:Int)≤(20:Int))) ((cL x0).bind fun r350=>
k0 (r350==(x0.length:Int))) (k0 false)) (k0 false)
theorem aFv (cL) (h58:(rk cL).holds cl) (x0):exec cl N KN [(0,.v .str x0)] K=(Hj cL (fun y0=>exec cl N .ret [(2,.v .bool y0)] K) x0):=by
 rw [←put_eq h58]
 kernel_rfl
def Hk (cL:V1→Option (Int)) (k0:Bool→Option R) (x0:V1):Option R:=
(Hj cL k0 x0)
theorem aFw (cL) (h58:(rk cL).holds cl) (x0):exec cl N KN [(0,.v .str x0)] K=(Hk cL (fun y0=>K .ret [(2,.v .bool y0)]) x0):=by
 simp only [aM,aP,aO,aQ,aFv cL h58,bg]
 rfl
theorem aze (y0):au d40 .ret [(2,.v .bool y0)]=some [.v .bool y0]:=by kernel_rfl
def yW (cL:V1→Option (Int)) (x0:V1) (k:Bool→Option R):Option R:=
(Hk cL k x0)
theorem ajZ (cL) (h58:(rk cL).holds cl) (x0) (k:List E→Option R):exec cl N KM [(0,.v .str x0)] (fun e env=>(au d40 e env).bind k)=yW cL x0 (fun r0=>k [.v .bool r0]):=by
 simp only [KM,aFw cL h58,aze,ah]
 rfl
def ED (S:V1→Option (Bool)):a7:=cw 40 .str S fun b=> [.v .bool b]
def eY (N:Nat) (x0:V1):Option (Bool):=yW (cL N) x0 (fun (r0:Bool)=>some (r0))
def B3 (k0:V1→V0→Option R) (x0:V1):Option R:=
if 0≤(x0.length:Int)∧(x0.length:Int)≤(x0.length:Int)∧(x0.length:Int)≤((140737488355328:Nat):Int) then
k0 x0 (List.replicate (x0.length:Int).toNat (0:Int))
else none
theorem aKu (x0):exec cl N M0 [(0,.v .str x0)] K=(B3 (fun y0 y1=>exec cl N (.seq (.seq M1 MY) (.seq MZ .ret)) [(0,.v .str y0),(3,.own true 5 U1 .no y1)] K) x0):=by
 kernel_rfl
def B5 (k0:V1→V0→Int→Option R) (x0:V1) (x1:V0):Option R:=
k0 x0 x1 (0:Int)
theorem aKw (x0 x1):exec cl N M1 [(0,.v .str x0),(3,.own true 5 U1 .no x1)] K=(B5 (fun y0 y1 y2=>K .normal (gC y0 y1 y2)) x0 x1):=by
 kernel_rfl
theorem RB (x0 x1 x2):ae [0,3,4] (gC x0 x1 x2)=(gC x0 x1 x2):=by kernel_rfl
def B6 (k0:V1→V0→Int→Bool→Option R) (x0:V1) (x1:V0) (x2:Int):Option R:=
k0 x0 x1 x2 (decide (x2 < (x0.length:Int)))
theorem aKx (x0 x1 x2):exec cl N abK (gC x0 x1 x2) K=(B6 (fun y0 y1 y2 y3=>K .normal (O9 y0 y1 y2 y3)) x0 x1 x2):=by
 kernel_rfl
theorem atJ (x0 x1 x2 x3):ae [0,3,4] (O9 x0 x1 x2 x3)=(gC x0 x1 x2):=by kernel_rfl
theorem amR (x0 x1 x2 x3):aD (ag (O9 x0 x1 x2 x3) (.t 11))=some x3:=by kernel_rfl
def B8 (k0:V1→V0→Int→Bool→Option R) (x0:V1) (x1:V0) (x2:Int):Option R:=
if 0≤x2∧x2 < (x0.length:Int) then
let v377:Int:=((x0.getD x2.toNat 0).toNat:Int)
if 0≤x2∧x2 < (x1.length:Int) then
if x2.toNat < x1.length then
if 0≤x2∧x2 < (x0.length:Int) then
al (decide (((x0.getD x2.toNat 0).toNat:Int)≥(65:Int))) (if 0≤x2∧x2 < (x0.length:Int) then
k0 x0 (x1.set x2.toNat v377) x2 (decide (((x0.getD x2.toNat 0).toNat:Int)≤(90:Int)))
else none) (k0 x0 (x1.set x2.toNat v377) x2 false)
else none
else none
else none
else none
theorem aKz (x0 x1 x2):exec cl N abN (gC x0 x1 x2) K=(B8 (fun y0 y1 y2 y3=>exec cl N M3 (G8 y0 y1 y2 y3) K) x0 x1 x2):=by
 kernel_rfl
def B7 (k0:V1→V0→Int→Option R) (x0:V1) (x1:V0) (x2:Int) (x3:Bool):Option R:=
if 0≤x2∧x2 < (x0.length:Int) then
if 0≤x2∧x2 < (x1.length:Int) then
if x2.toNat < x1.length then
k0 x0 (x1.set x2.toNat (IntKind.u8.wrap ((IntKind.u8.wrap (((x0.getD x2.toNat 0).toNat:Int) - (65:Int)))+(97:Int)))) x2
else none
else none
else none
theorem aKy (x0 x1 x2 x3):exec cl N abM (G8 x0 x1 x2 x3) K=(B7 (fun y0 y1 y2=>K .normal (gC y0 y1 y2)) x0 x1 x2 x3):=by
 kernel_rfl
theorem atK (x0 x1 x2 x3):ae [0,3,4] (G8 x0 x1 x2 x3)=(gC x0 x1 x2):=by kernel_rfl
theorem amS (x0 x1 x2 x3):aD (ag (G8 x0 x1 x2 x3) (.t 29))=some x3:=by kernel_rfl
def BW (k0:V1→V0→Int→Option R) (x0:V1) (x1:V0) (x2:Int):Option R:=
(B8 (fun y0 y1 y2 y3=>al y3 (B7 k0 y0 y1 y2 y3) (k0 y0 y1 y2)) x0 x1 x2)
theorem aKp (x0 x1 x2):exec cl N MW (gC x0 x1 x2) K=(BW (fun y0 y1 y2=>K .normal (gC y0 y1 y2)) x0 x1 x2):=by
 simp only [MW,aF,bt,aM,aP,aO,aQ,aKz,M3,bf,amS,ah,ak,aj,aKy,bj,RB,atK,bp,bq,bo]
 rfl
def BX (k0:V1→V0→Int→Option R) (x0:V1) (x1:V0) (x2:Int):Option R:=
k0 x0 x1 (IntKind.i64.wrap (x2+(1:Int)))
theorem aKq (x0 x1 x2):exec cl N abJ (gC x0 x1 x2) K=(BX (fun y0 y1 y2=>K .normal (gC y0 y1 y2)) x0 x1 x2):=by
 kernel_rfl
def BY (k0:V1→V0→Int→Option R) (k1:V1→V0→Int→Option R) (x0:V1) (x1:V0) (x2:Int):Option R:=
(B6 (fun y0 y1 y2 y3=>al y3 ((BW (BX k0)) y0 y1 y2) (k1 y0 y1 y2)) x0 x1 x2)
theorem aKr (x0 x1 x2):exec cl N Ed (gC x0 x1 x2) K=(BY (fun y0 y1 y2=>K .normal (gC y0 y1 y2)) (fun y0 y1 y2=>K (.exit 0) (gC y0 y1 y2)) x0 x1 x2):=by
 simp only [Ed,aM,aP,aO,aQ,aKx,abL,aF,bf,amR,ah,ak,aj,bj,cG,atJ,aKp,aKq]
 rfl
def uV {R:Type} (k0:V1→V0→Int→Option R):Nat→V1→V0→Int→Option R
 | 0,_,_,_=>none
 | m+1,x0,x1,x2=>(BY (uV k0 m) k0 x0 x1 x2)
theorem aww:∀ (m) (x0 x1 x2),iter [0,3,4] (fun env K=>exec cl N Ed env K) K m (gC x0 x1 x2)=uV (fun y0 y1 y2=>K (.exit 0) (gC y0 y1 y2)) m x0 x1 x2:=by
 intro m
 induction m with
 | zero=>intros; rfl
 | succ m ih=>
   intro x0 x1 x2
   simp only [cA,aKr,cC,cB,cD,RB,ih]
   rfl
theorem atL (x0 x1 x2):ae [3] (gC x0 x1 x2)=(wu x1):=by kernel_rfl
def BZ (N:Nat) (k0:V0→Option R) (x0:V1) (x1:V0) (x2:Int):Option R:=
uV (fun y0 y1 y2=>k0 y1) N x0 x1 x2
theorem aKs (x0 x1 x2):exec cl N MX (gC x0 x1 x2) K=(BZ N (fun y0=>K (.exit 0) (wu y0)) x0 x1 x2):=by
 simp only [MX,aF,cz,RB,aww,atL]
 rfl
theorem atM (x0):ae [3] (wu x0)=(wu x0):=by kernel_rfl
def B0 (k0:V1→Option R) (x0:V0):Option R:=
k0 (x0.map fun n=>UInt8.ofNat n.toNat)
theorem aKt (x0):exec cl N MZ (wu x0) K=(B0 (fun y0=>K .normal [(2,.v .str y0)]) x0):=by
 kernel_rfl
def B4 (N:Nat) (k0:V1→Option R) (x0:V1):Option R:=
(B3 (B5 (BZ N ((B0 k0)))) x0)
theorem aKv (x0):exec cl N M0 [(0,.v .str x0)] K=(B4 N (fun y0=>K .ret [(2,.v .str y0)]) x0):=by
 simp only [aM,aP,aO,aQ,aKu,aKw,MY,aF,bt,aKs,bp,bq,bo,atM,aKt,bg]
 rfl
theorem az6 (y0):au d75 .ret [(2,.v .str y0)]=some [.v .str y0]:=by kernel_rfl
def uq (N:Nat) (x0:V1) (k:V1→Option R):Option R:=
(B4 N k x0)
theorem akv (x0) (k:List E→Option R):exec cl N MV [(0,.v .str x0)] (fun e env=>(au d75 e env).bind k)=uq N x0 (fun r0=>k [.v .str r0]):=by
 simp only [MV,aKv,az6,ah]
 rfl
def EO (S:V1→Option V5):a7:=cw 75 .str S fun b=> [.v .str b]
def fQ (N:Nat) (x0:V1):Option V5:=uq N x0 (fun (r0:V1)=>some (r0))
def ae5 (k0:Int→Option R) (x0:Int):Option R:=
k0 x0
theorem aKA (x0):exec cl N abO [(0,.v U1 x0)] K=(ae5 (fun y0=>K .normal [(0,.v U1 y0)]) x0):=by
 kernel_rfl
def ae6 (k0:Int→Bool→Option R) (x0:Int):Option R:=
al (decide (x0 < (32:Int))) (k0 x0 true) (k0 x0 (decide (x0 > (126:Int))))
theorem aKB (x0):exec cl N abP [(0,.v U1 x0)] K=(ae6 (fun y0 y1=>K .normal (G9 y0 y1)) x0):=by
 kernel_rfl
def afc (k0:Bool→Option R) (x0:Int) (x1:Bool):Option R:=
k0 false
theorem aKH (x0 x1):exec cl N abU (G9 x0 x1) K=(afc (fun y0=>K .normal [(2,.v .bool y0)]) x0 x1):=by
 kernel_rfl
theorem atN (x0):ae [0,2] [(2,.v .bool x0)]=(tP x0):=by kernel_rfl
theorem atO (x0 x1):ae [0,2] (G9 x0 x1)=[(0,.v U1 x0),(2,.dead)]:=by kernel_rfl
theorem amT (x0 x1):aD (ag (G9 x0 x1) (.t 9))=some x1:=by kernel_rfl
def afd (k0:Int→Int→Option R) (x0:Int):Option R:=
k0 x0 (0:Int)
theorem aKI (x0):exec cl N abW [(0,.v U1 x0),(2,.dead)] K=(afd (fun y0 y1=>K .normal (eE y0 y1)) x0):=by
 kernel_rfl
theorem agv (x0 x1):ae [0,3] (eE x0 x1)=(eE x0 x1):=by kernel_rfl
def afe (k0:Int→Int→Bool→Option R) (x0 x1:Int):Option R:=
k0 x0 x1 (decide (x1 < (15:Int)))
theorem aKJ (x0 x1):exec cl N abX (eE x0 x1) K=(afe (fun y0 y1 y2=>K .normal (rD y0 y1 y2)) x0 x1):=by
 kernel_rfl
theorem atS (x0 x1 x2):ae [0,3] (rD x0 x1 x2)=(eE x0 x1):=by kernel_rfl
theorem amU (x0 x1 x2):aD (ag (rD x0 x1 x2) (.t 11))=some x2:=by kernel_rfl
def aff (k0:Int→Int→Bool→Option R) (x0 x1:Int):Option R:=
if 0≤x1∧x1 < (([32,46,44,59,58,33,63,34,45,91,93,60,62,123,125]:List UInt8).length:Int) then
k0 x0 x1 (((([32,46,44,59,58,33,63,34,45,91,93,60,62,123,125]:List UInt8).getD x1.toNat 0).toNat:Int)==x0)
else none
theorem aKK (x0 x1):exec cl N abZ (eE x0 x1) K=(aff (fun y0 y1 y2=>K .normal (EY y0 y1 y2)) x0 x1):=by
 kernel_rfl
def afg (k0:Bool→Option R) (x0 x1:Int) (x2:Bool):Option R:=
k0 false
theorem aKL (x0 x1 x2):exec cl N ab0 (EY x0 x1 x2) K=(afg (fun y0=>K .normal [(2,.v .bool y0)]) x0 x1 x2):=by
 kernel_rfl
theorem atT (x0):ae [0,2,3] [(2,.v .bool x0)]=(kd x0):=by kernel_rfl
theorem atU (x0 x1 x2):ae [0,2,3] (EY x0 x1 x2)=(oX x0 x1):=by kernel_rfl
theorem amV (x0 x1 x2):aD (ag (EY x0 x1 x2) (.t 17))=some x2:=by kernel_rfl
theorem atV (x0):ae [0,2,3] (kd x0)=(kd x0):=by kernel_rfl
theorem atW (x0 x1):ae [0,2,3] (oX x0 x1)=(oX x0 x1):=by kernel_rfl
def ae7 (k0:Int→Int→Option R) (x0 x1:Int):Option R:=
k0 x0 (IntKind.i64.wrap (x1+(1:Int)))
theorem aKC (x0 x1):exec cl N abR (oX x0 x1) K=(ae7 (fun y0 y1=>K .normal (eE y0 y1)) x0 x1):=by
 kernel_rfl
def ae8 (k0:Bool→Option R) (k1:Int→Int→Option R) (k2:Int→Int→Option R) (x0 x1:Int):Option R:=
(afe (fun y0 y1 y2=>al y2 ((aff (fun y0 y1 y2=>al y2 (afg k0 y0 y1 y2) (((ae7 k1)) y0 y1))) y0 y1) (k2 y0 y1)) x0 x1)
theorem aKD (x0 x1):exec cl N Ee (eE x0 x1) K=(ae8 (fun y0=>K .ret (kd y0)) (fun y0 y1=>K .normal (eE y0 y1)) (fun y0 y1=>K (.exit 0) (eE y0 y1)) x0 x1):=by
 simp only [Ee,aM,aP,aO,aQ,aKJ,abY,aF,bf,amU,ah,ak,aj,bj,cG,atS,abQ,bt,aKK,ab1,amV,aKL,bg,atT,atU,bp,bq,bo,atV,atW,aKC]
 rfl
def RI {R:Type} (k0:Bool→Option R) (k1:Int→Int→Option R):Nat→Int→Int→Option R
 | 0,_,_=>none
 | m+1,x0,x1=>(ae8 k0 (RI k0 k1 m) k1 x0 x1)
theorem awx:∀ (m) (x0 x1),iter [0,3] (fun env K=>exec cl N Ee env K) K m (eE x0 x1)=RI (fun y0=>K .ret (kd y0)) (fun y0 y1=>K (.exit 0) (eE y0 y1)) m x0 x1:=by
 intro m
 induction m with
 | zero=>intros; rfl
 | succ m ih=>
   intro x0 x1
   simp only [cA,aKD,cC,cB,cD,agv,ih]
   rfl
theorem atX (x0):ae [2] (kd x0)=[(2,.v .bool x0)]:=by kernel_rfl
theorem atY (x0 x1):ae [2] (eE x0 x1)=[(2,.dead)]:=by kernel_rfl
def ae9 (N:Nat) (k0:Bool→Option R) (k1:Option R) (x0 x1:Int):Option R:=
RI k0 (fun y0 y1=>k1) N x0 x1
theorem aKE (x0 x1):exec cl N M5 (eE x0 x1) K=(ae9 N (fun y0=>K .ret [(2,.v .bool y0)]) (K (.exit 0) [(2,.dead)]) x0 x1):=by
 simp only [M5,aF,cz,agv,awx,atX,atY]
 rfl
theorem atP (x0):ae [2] [(2,.v .bool x0)]=[(2,.v .bool x0)]:=by kernel_rfl
theorem atQ:ae [2] [(2,.dead)]=[(2,.dead)]:=by kernel_rfl
def afa (k0:Bool→Option R):Option R:=
k0 true
theorem aKF:exec cl N abT [(2,.dead)] K=(afa (fun y0=>K .normal [(2,.v .bool y0)])):=by
 kernel_rfl
def afb (N:Nat) (k0:Bool→Option R) (k1:Bool→Option R) (x0:Int):Option R:=
(ae5 (ae6 (fun y0 y1=>al y1 (afc k0 y0 y1) ((afd (ae9 N k1 (afa k1))) y0))) x0)
theorem aKG (x0):exec cl N M6 [(0,.v U1 x0)] K=(afb N (fun y0=>K .ret (tP y0)) (fun y0=>K .ret [(2,.v .bool y0)]) x0):=by
 simp only [M6,aM,aP,aO,aQ,aKA,aKB,abV,aF,bf,amT,ah,ak,aj,aKH,bg,bj,atN,atO,aKI,abS,bt,aKE,bp,bq,bo,atP,atQ,aKF]
 rfl
theorem az7 (y0):au d76 .ret (tP y0)=some [.v .bool y0]:=by kernel_rfl
theorem az8 (y0):au d76 .ret [(2,.v .bool y0)]=some [.v .bool y0]:=by kernel_rfl
def Q0 (N:Nat) (x0:Int) (k:Bool→Option R):Option R:=
(afb N k k x0)
theorem akw (x0) (k:List E→Option R):exec cl N M4 [(0,.v U1 x0)] (fun e env=>(au d76 e env).bind k)=Q0 N x0 (fun r0=>k [.v .bool r0]):=by
 simp only [M4,aKG,az7,az8,ah]
 rfl
def ru (S:Int→Option (Bool)):a7:=cw 76 U1 S fun b=> [.v .bool b]
def cM (N:Nat) (x0:Int):Option (Bool):=Q0 N x0 (fun (r0:Bool)=>some (r0))
def Aw (k0:V1→Option R) (x0:V1):Option R:=
k0 x0
theorem aIl (x0):exec cl N Z1 [(0,.v .str x0)] K=(Aw (fun y0=>K .normal [(0,.v .str y0)]) x0):=by
 kernel_rfl
def Ax (k0:V1→Bool→Option R) (x0:V1):Option R:=
k0 x0 (decide ((x0.length:Int) > (16:Int)))
theorem aIm (x0):exec cl N Z2 [(0,.v .str x0)] K=(Ax (fun y0 y1=>K .normal (EZ y0 y1)) x0):=by
 kernel_rfl
def AG (k0:Int→Option R) (x0:V1) (x1:Bool):Option R:=
k0 (3:Int)
theorem aIu (x0 x1):exec cl N aaa (EZ x0 x1) K=(AG (fun y0=>K .normal [(2,.v U2 y0)]) x0 x1):=by
 kernel_rfl
theorem asm (x0):ae [0,2] [(2,.v U2 x0)]=(kc x0):=by kernel_rfl
theorem asn (x0 x1):ae [0,2] (EZ x0 x1)=(ke x0):=by kernel_rfl
theorem amp (x0 x1):aD (ag (EZ x0 x1) (.t 6))=some x1:=by kernel_rfl
def AH (fQ:V1→Option V5) (k0:V1→Bool→Option R) (x0:V1):Option R:=
al (x0==([]:List UInt8)) (k0 x0 true) ((fQ x0).bind fun r404=>
k0 x0 (r404 != x0))
theorem aIv (fQ) (h75:(EO fQ).holds cl) (x0):exec cl N aac (ke x0) K=(AH fQ (fun y0 y1=>K .normal (E0 y0 y1)) x0):=by
 rw [←put_eq h75]
 kernel_rfl
def AJ (k0:Int→Option R) (x0:V1) (x1:Bool):Option R:=
k0 (2:Int)
theorem aIw (x0 x1):exec cl N aad (E0 x0 x1) K=(AJ (fun y0=>K .normal [(2,.v U2 y0)]) x0 x1):=by
 kernel_rfl
theorem asr (x0 x1):ae [0,2] (E0 x0 x1)=(ke x0):=by kernel_rfl
theorem amq (x0 x1):aD (ag (E0 x0 x1) (.t 14))=some x1:=by kernel_rfl
def AK (k0:V1→Int→Option R) (x0:V1):Option R:=
k0 x0 (0:Int)
theorem aIx (x0):exec cl N aaf (ke x0) K=(AK (fun y0 y1=>K .normal (aR y0 y1)) x0):=by
 kernel_rfl
theorem agp (x0 x1):ae [0,3] (aR x0 x1)=(aR x0 x1):=by kernel_rfl
def AL (k0:V1→Int→Bool→Option R) (x0:V1) (x1:Int):Option R:=
k0 x0 x1 (decide (x1 < (x0.length:Int)))
theorem aIy (x0 x1):exec cl N aag (aR x0 x1) K=(AL (fun y0 y1 y2=>K .normal (Oc y0 y1 y2)) x0 x1):=by
 kernel_rfl
theorem ass (x0 x1 x2):ae [0,3] (Oc x0 x1 x2)=(aR x0 x1):=by kernel_rfl
theorem amr (x0 x1 x2):aD (ag (Oc x0 x1 x2) (.t 18))=some x2:=by kernel_rfl
def Ay (cM:Int→Option (Bool)) (k0:V1→Int→Bool→Option R) (x0:V1) (x1:Int):Option R:=
if 0≤x1∧x1 < (x0.length:Int) then
(cM ((x0.getD x1.toNat 0).toNat:Int)).bind fun r407=>
k0 x0 x1 (!r407)
else none
theorem aIn (cM) (h76:(ru cM).holds cl) (x0 x1):exec cl N Z3 (aR x0 x1) K=(Ay cM (fun y0 y1 y2=>K .normal (o9 y0 y1 y2)) x0 x1):=by
 rw [←put_eq h76]
 kernel_rfl
def Az (k0:Int→Option R) (x0:V1) (x1:Int) (x2:Bool):Option R:=
k0 (2:Int)
theorem aIo (x0 x1 x2):exec cl N Z4 (o9 x0 x1 x2) K=(Az (fun y0=>K .normal [(2,.v U2 y0)]) x0 x1 x2):=by
 kernel_rfl
theorem ast (x0):ae [0,2,3] [(2,.v U2 x0)]=(fi x0):=by kernel_rfl
theorem asu (x0 x1 x2):ae [0,2,3] (o9 x0 x1 x2)=(gM x0 x1):=by kernel_rfl
theorem ams (x0 x1 x2):aD (ag (o9 x0 x1 x2) (.t 25))=some x2:=by kernel_rfl
theorem asv (x0):ae [0,2,3] (fi x0)=(fi x0):=by kernel_rfl
theorem asw (x0 x1):ae [0,2,3] (gM x0 x1)=(gM x0 x1):=by kernel_rfl
def AA (k0:V1→Int→Option R) (x0:V1) (x1:Int):Option R:=
k0 x0 (IntKind.i64.wrap (x1+(1:Int)))
theorem aIp (x0 x1):exec cl N Z7 (gM x0 x1) K=(AA (fun y0 y1=>K .normal (aR y0 y1)) x0 x1):=by
 kernel_rfl
def AB (cM:Int→Option (Bool)) (k0:Int→Option R) (k1:V1→Int→Option R) (k2:V1→Int→Option R) (x0:V1) (x1:Int):Option R:=
(AL (fun y0 y1 y2=>al y2 ((Ay cM (fun y0 y1 y2=>al y2 (Az k0 y0 y1 y2) (((AA k1)) y0 y1))) y0 y1) (k2 y0 y1)) x0 x1)
theorem aIq (cM) (h76:(ru cM).holds cl) (x0 x1):exec cl N D2 (aR x0 x1) K=(AB cM (fun y0=>K .ret (fi y0)) (fun y0 y1=>K .normal (aR y0 y1)) (fun y0 y1=>K (.exit 0) (aR y0 y1)) x0 x1):=by
 simp only [D2,aM,aP,aO,aQ,aIy,aah,aF,bf,amr,ah,ak,aj,bj,cG,ass,Z6,bt,aIn cM h76,Z5,ams,aIo,bg,ast,asu,bp,bq,bo,asv,asw,aIp]
 rfl
def uN {R:Type} (cM:Int→Option (Bool)) (k0:Int→Option R) (k1:V1→Int→Option R):Nat→V1→Int→Option R
 | 0,_,_=>none
 | m+1,x0,x1=>(AB cM k0 (uN cM k0 k1 m) k1 x0 x1)
theorem awl (cM) (h76:(ru cM).holds cl):∀ (m) (x0 x1),iter [0,3] (fun env K=>exec cl N D2 env K) K m (aR x0 x1)=uN cM (fun y0=>K .ret (fi y0)) (fun y0 y1=>K (.exit 0) (aR y0 y1)) m x0 x1:=by
 intro m
 induction m with
 | zero=>intros; rfl
 | succ m ih=>
   intro x0 x1
   simp only [cA,aIq cM h76,cC,cB,cD,agp,ih]
   rfl
theorem asx (x0):ae [2] (fi x0)=[(2,.v U2 x0)]:=by kernel_rfl
theorem aso (x0 x1):ae [2] (aR x0 x1)=[(2,.dead)]:=by kernel_rfl
def AD (N:Nat) (cM:Int→Option (Bool)) (k0:Int→Option R) (k1:Option R) (x0:V1) (x1:Int):Option R:=
uN cM k0 (fun y0 y1=>k1) N x0 x1
theorem aIr (cM) (h76:(ru cM).holds cl) (x0 x1):exec cl N LQ (aR x0 x1) K=(AD N cM (fun y0=>K .ret [(2,.v U2 y0)]) (K (.exit 0) [(2,.dead)]) x0 x1):=by
 simp only [LQ,aF,cz,agp,awl cM h76,aso,asx]
 rfl
theorem asp (x0):ae [2] [(2,.v U2 x0)]=[(2,.v U2 x0)]:=by kernel_rfl
theorem asq:ae [2] [(2,.dead)]=[(2,.dead)]:=by kernel_rfl
def AE (k0:Int→Option R):Option R:=
k0 (0:Int)
theorem aIs:exec cl N Z9 [(2,.dead)] K=(AE (fun y0=>K .normal [(2,.v U2 y0)])):=by
 kernel_rfl
def AF (N:Nat) (fQ:V1→Option V5) (cM:Int→Option (Bool)) (k0:Int→Option R) (k1:Int→Option R) (x0:V1):Option R:=
(Aw (Ax (fun y0 y1=>al y1 (AG k0 y0 y1) ((AH fQ (fun y0 y1=>al y1 (AJ k0 y0 y1) ((AK (AD N cM k1 (AE k1))) y0))) y0))) x0)
theorem aIt (fQ) (cM) (h75:(EO fQ).holds cl) (h76:(ru cM).holds cl) (x0):exec cl N LR [(0,.v .str x0)] K=(AF N fQ cM (fun y0=>K .ret (kc y0)) (fun y0=>K .ret [(2,.v U2 y0)]) x0):=by
 simp only [LR,aM,aP,aO,aQ,aIl,aIm,aab,aF,bf,amp,ah,ak,aj,aIu,bg,bj,asm,asn,aIv fQ h75,aae,amq,aIw,asr,aIx,Z8,bt,aIr cM h76,bp,bq,bo,asp,asq,aIs]
 rfl
theorem azI (y0):au d59 .ret (kc y0)=some [.v U2 y0]:=by kernel_rfl
theorem azJ (y0):au d59 .ret [(2,.v U2 y0)]=some [.v U2 y0]:=by kernel_rfl
def ue (N:Nat) (fQ:V1→Option V5) (cM:Int→Option (Bool)) (x0:V1) (k:Int→Option R):Option R:=
(AF N fQ cM k k x0)
theorem akf (fQ) (cM) (h75:(EO fQ).holds cl) (h76:(ru cM).holds cl) (x0) (k:List E→Option R):exec cl N LP [(0,.v .str x0)] (fun e env=>(au d59 e env).bind k)=ue N fQ cM x0 (fun r0=>k [.v U2 r0]):=by
 simp only [LP,aIt fQ cM h75 h76,azI,azJ,ah]
 rfl
def rl (S:V1→Option (Int)):a7:=cw 59 .str S fun b=> [.v U2 b]
def cY (N:Nat) (x0:V1):Option (Int):=ue N (fQ N) (cM N) x0 (fun (r0:Int)=>some (r0))
def AM (k0:V6→V1→Option R) (x0:V6) (x1:V1):Option R:=
k0 x0 x1
theorem aIz (x0 x1):exec cl N aai (gO x0 x1) K=(AM (fun y0 y1=>K .normal (gO y0 y1)) x0 x1):=by
 kernel_rfl
def AN (k0:V6→V1→Int→Option R) (x0:V6) (x1:V1):Option R:=
k0 x0 x1 (0:Int)
theorem aIA (x0 x1):exec cl N aaj (gO x0 x1) K=(AN (fun y0 y1 y2=>K .normal (eF y0 y1 y2)) x0 x1):=by
 kernel_rfl
theorem agq (x0 x1 x2):ae [0,1,5] (eF x0 x1 x2)=(eF x0 x1 x2):=by kernel_rfl
def AR (k0:V6→V1→Int→Bool→Option R) (x0:V6) (x1:V1) (x2:Int):Option R:=
k0 x0 x1 x2 (decide (x2 < (x0.length:Int)))
theorem aIE (x0 x1 x2):exec cl N aam (eF x0 x1 x2) K=(AR (fun y0 y1 y2 y3=>K .normal (Oe y0 y1 y2 y3)) x0 x1 x2):=by
 kernel_rfl
theorem asy (x0 x1 x2 x3):ae [0,1,5] (Oe x0 x1 x2 x3)=(eF x0 x1 x2):=by kernel_rfl
theorem amt (x0 x1 x2 x3):aD (ag (Oe x0 x1 x2 x3) (.t 9))=some x3:=by kernel_rfl
def AS (k0:V6→V1→Int→Bool→Option R) (x0:V6) (x1:V1) (x2:Int):Option R:=
if 0≤x2∧x2 < (x0.length:Int) then
k0 x0 x1 x2 ((x0.getD x2.toNat [])==x1)
else none
theorem aIF (x0 x1 x2):exec cl N aao (eF x0 x1 x2) K=(AS (fun y0 y1 y2 y3=>K .normal (E1 y0 y1 y2 y3)) x0 x1 x2):=by
 kernel_rfl
def AT (k0:Bool→Option R) (x0:V6) (x1:V1) (x2:Int) (x3:Bool):Option R:=
k0 true
theorem aIG (x0 x1 x2 x3):exec cl N aap (E1 x0 x1 x2 x3) K=(AT (fun y0=>K .normal [(4,.v .bool y0)]) x0 x1 x2 x3):=by
 kernel_rfl
theorem asz (x0):ae [0,1,4,5] [(4,.v .bool x0)]=(kg x0):=by kernel_rfl
theorem asA (x0 x1 x2 x3):ae [0,1,4,5] (E1 x0 x1 x2 x3)=(E2 x0 x1 x2):=by kernel_rfl
theorem amu (x0 x1 x2 x3):aD (ag (E1 x0 x1 x2 x3) (.t 17))=some x3:=by kernel_rfl
theorem asB (x0):ae [0,1,4,5] (kg x0)=(kg x0):=by kernel_rfl
theorem asC (x0 x1 x2):ae [0,1,4,5] (E2 x0 x1 x2)=(E2 x0 x1 x2):=by kernel_rfl
def AU (k0:V6→V1→Int→Option R) (x0:V6) (x1:V1) (x2:Int):Option R:=
k0 x0 x1 (IntKind.i64.wrap (x2+(1:Int)))
theorem aIH (x0 x1 x2):exec cl N aas (E2 x0 x1 x2) K=(AU (fun y0 y1 y2=>K .normal (eF y0 y1 y2)) x0 x1 x2):=by
 kernel_rfl
def AV (k0:Bool→Option R) (k1:V6→V1→Int→Option R) (k2:V6→V1→Int→Option R) (x0:V6) (x1:V1) (x2:Int):Option R:=
(AR (fun y0 y1 y2 y3=>al y3 ((AS (fun y0 y1 y2 y3=>al y3 (AT k0 y0 y1 y2 y3) (((AU k1)) y0 y1 y2))) y0 y1 y2) (k2 y0 y1 y2)) x0 x1 x2)
theorem aII (x0 x1 x2):exec cl N D3 (eF x0 x1 x2) K=(AV (fun y0=>K .ret (kg y0)) (fun y0 y1 y2=>K .normal (eF y0 y1 y2)) (fun y0 y1 y2=>K (.exit 0) (eF y0 y1 y2)) x0 x1 x2):=by
 simp only [D3,aM,aP,aO,aQ,aIE,aan,aF,bf,amt,ah,ak,aj,bj,cG,asy,aar,bt,aIF,aaq,amu,aIG,bg,asz,asA,bp,bq,bo,asB,asC,aIH]
 rfl
def uO {R:Type} (k0:Bool→Option R) (k1:V6→V1→Int→Option R):Nat→V6→V1→Int→Option R
 | 0,_,_,_=>none
 | m+1,x0,x1,x2=>(AV k0 (uO k0 k1 m) k1 x0 x1 x2)
theorem awm:∀ (m) (x0 x1 x2),iter [0,1,5] (fun env K=>exec cl N D3 env K) K m (eF x0 x1 x2)=uO (fun y0=>K .ret (kg y0)) (fun y0 y1 y2=>K (.exit 0) (eF y0 y1 y2)) m x0 x1 x2:=by
 intro m
 induction m with
 | zero=>intros; rfl
 | succ m ih=>
   intro x0 x1 x2
   simp only [cA,aII,cC,cB,cD,agq,ih]
   rfl
theorem asD (x0):ae [4] (kg x0)=[(4,.v .bool x0)]:=by kernel_rfl
theorem asE (x0 x1 x2):ae [4] (eF x0 x1 x2)=[(4,.dead)]:=by kernel_rfl
def AO (N:Nat) (k0:Bool→Option R) (k1:Option R) (x0:V6) (x1:V1) (x2:Int):Option R:=
uO k0 (fun y0 y1 y2=>k1) N x0 x1 x2
theorem aIB (x0 x1 x2):exec cl N LU (eF x0 x1 x2) K=(AO N (fun y0=>K .ret [(4,.v .bool y0)]) (K (.exit 0) [(4,.dead)]) x0 x1 x2):=by
 simp only [LU,aF,cz,agq,awm,asD,asE]
 rfl
theorem asF (x0):ae [4] [(4,.v .bool x0)]=[(4,.v .bool x0)]:=by kernel_rfl
theorem asG:ae [4] [(4,.dead)]=[(4,.dead)]:=by kernel_rfl
def AP (k0:Bool→Option R):Option R:=
k0 false
theorem aIC:exec cl N aal [(4,.dead)] K=(AP (fun y0=>K .normal [(4,.v .bool y0)])):=by
 kernel_rfl
def AQ (N:Nat) (k0:Bool→Option R) (x0:V6) (x1:V1):Option R:=
(AM (AN (AO N k0 (AP k0))) x0 x1)
theorem aID (x0 x1):exec cl N LV (gO x0 x1) K=(AQ N (fun y0=>K .ret [(4,.v .bool y0)]) x0 x1):=by
 simp only [LV,aM,aP,aO,aQ,aIz,aIA,aak,aF,bt,aIB,bp,bq,bo,asF,asG,aIC,bg]
 rfl
theorem azK (y0):au d60 .ret [(4,.v .bool y0)]=some [.v .bool y0]:=by kernel_rfl
def uf (N:Nat) (x0:V6) (x1:V1) (k:Bool→Option R):Option R:=
(AQ N k x0 x1)
theorem akh (x0 x1) (k:List E→Option R):exec cl N LS (gO x0 x1) (fun e env=>(au d60 e env).bind k)=uf N x0 x1 (fun r0=>k [.v .bool r0]):=by
 simp only [LS,aID,azK,ah]
 rfl
def rm (S:V6→V1→Option (Bool)):a7:=jK 60 U0 .str S fun b=> [.v .bool b]
def cZ (N:Nat) (x0:V6) (x1:V1):Option (Bool):=uf N x0 x1 (fun (r0:Bool)=>some (r0))
def yX (k0:ay→Option R) (x0:ay):Option R:=
k0 x0
theorem aFx (x0):exec cl N W8 [(0,.v aw x0)] K=(yX (fun y0=>K .normal [(1,.loc aw .no y0)]) x0):=by
 kernel_rfl
def yY (k0:ay→Bool→Option R) (x0:ay):Option R:=
al (decide (x0.1 < (1:Int))) (k0 x0 true) (al (decide (x0.1 > (12:Int))) (k0 x0 true) (al (decide (x0.2.1 < (0:Int))) (k0 x0 true) (k0 x0 (decide (x0.2.1 > (999:Int))))))
theorem aFy (x0):exec cl N W9 [(1,.loc aw .no x0)] K=(yY (fun y0 y1=>K .normal (E3 y0 y1)) x0):=by
 kernel_rfl
def zc (k0:Int→Option R) (x0:ay) (x1:Bool):Option R:=
k0 (6:Int)
theorem aFE (x0 x1):exec cl N Xh (E3 x0 x1) K=(zc (fun y0=>K .normal [(2,.v U2 y0)]) x0 x1):=by
 kernel_rfl
theorem aqF (x0):ae [1,2] [(2,.v U2 x0)]=(ia x0):=by kernel_rfl
theorem aqG (x0 x1):ae [1,2] (E3 x0 x1)=(o8 x0):=by kernel_rfl
theorem alD (x0 x1):aD (ag (E3 x0 x1) (.t 22))=some x1:=by kernel_rfl
def zh (k0:ay→Bool→Option R) (x0:ay):Option R:=
k0 x0 (decide ((x0.2.2.1.length:Int) > (20:Int)))
theorem aFJ (x0):exec cl N Xl (o8 x0) K=(zh (fun y0 y1=>K .normal (E4 y0 y1)) x0):=by
 kernel_rfl
def zi (k0:Int→Option R) (x0:ay) (x1:Bool):Option R:=
k0 (3:Int)
theorem aFK (x0 x1):exec cl N Xm (E4 x0 x1) K=(zi (fun y0=>K .normal [(2,.v U2 y0)]) x0 x1):=by
 kernel_rfl
theorem aqL (x0 x1):ae [1,2] (E4 x0 x1)=(o8 x0):=by kernel_rfl
theorem alE (x0 x1):aD (ag (E4 x0 x1) (.t 26))=some x1:=by kernel_rfl
def zj (k0:ay→Int→Option R) (x0:ay):Option R:=
k0 x0 (0:Int)
theorem aFL (x0):exec cl N Xo (o8 x0) K=(zj (fun y0 y1=>K .normal (jg y0 y1)) x0):=by
 kernel_rfl
theorem ago (x0 x1):ae [1,3] (jg x0 x1)=(jg x0 x1):=by kernel_rfl
def zk (k0:ay→Int→Bool→Option R) (x0:ay) (x1:Int):Option R:=
k0 x0 x1 (decide (x1 < (x0.2.2.1.length:Int)))
theorem aFM (x0 x1):exec cl N Xp (jg x0 x1) K=(zk (fun y0 y1 y2=>K .normal (Of y0 y1 y2)) x0 x1):=by
 kernel_rfl
theorem aqM (x0 x1 x2):ae [1,3] (Of x0 x1 x2)=(jg x0 x1):=by kernel_rfl
theorem alF (x0 x1 x2):aD (ag (Of x0 x1 x2) (.t 31))=some x2:=by kernel_rfl
def y8 (cY:V1→Option (Int)) (k0:ay→Int→Int→Bool→Option R) (x0:ay) (x1:Int):Option R:=
if 0≤x1∧x1 < (x0.2.2.1.length:Int) then
(cY (x0.2.2.1.getD x1.toNat [])).bind fun r428=>
k0 x0 x1 r428 (r428 != (0:Int))
else none
theorem aFA (cY) (h59:(rl cY).holds cl) (x0 x1):exec cl N Xb (jg x0 x1) K=(y8 cY (fun y0 y1 y2 y3=>exec cl N KP (E5 y0 y1 y2 y3) K) x0 x1):=by
 rw [←put_eq h59]
 kernel_rfl
def yZ (k0:Int→Option R) (x0:ay) (x1 x2:Int) (x3:Bool):Option R:=
k0 x2
theorem aFz (x0 x1 x2 x3):exec cl N Xa (E5 x0 x1 x2 x3) K=(yZ (fun y0=>K .normal [(2,.v U2 y0)]) x0 x1 x2 x3):=by
 kernel_rfl
theorem aqN (x0):ae [1,2,3] [(2,.v U2 x0)]=(kh x0):=by kernel_rfl
theorem aqO (x0 x1 x2 x3):ae [1,2,3] (E5 x0 x1 x2 x3)=(tr x0 x1):=by kernel_rfl
theorem alG (x0 x1 x2 x3):aD (ag (E5 x0 x1 x2 x3) (.t 41))=some x3:=by kernel_rfl
def y9 (cZ:V6→V1→Option (Bool)) (k0:ay→Int→Bool→Option R) (x0:ay) (x1:Int):Option R:=
if 0≤(0:Int)∧(0:Int)≤x1∧x1≤(x0.2.2.1.length:Int)∧(x0.2.2.1.length:Int)≤(x0.2.2.1.length:Int) then
if 0≤x1∧x1 < (x0.2.2.1.length:Int) then
(cZ ((x0.2.2.1.drop (0:Int).toNat).take (x1.toNat - (0:Int).toNat)) (x0.2.2.1.getD x1.toNat [])).bind fun r431=>
k0 x0 x1 r431
else none
else none
theorem aFB (cZ) (h60:(rm cZ).holds cl) (x0 x1):exec cl N Xc (tr x0 x1) K=(y9 cZ (fun y0 y1 y2=>K .normal (E6 y0 y1 y2)) x0 x1):=by
 rw [←put_eq h60]
 kernel_rfl
def za (k0:Int→Option R) (x0:ay) (x1:Int) (x2:Bool):Option R:=
k0 (5:Int)
theorem aFC (x0 x1 x2):exec cl N Xd (E6 x0 x1 x2) K=(za (fun y0=>K .normal [(2,.v U2 y0)]) x0 x1 x2):=by
 kernel_rfl
theorem aqP (x0 x1 x2):ae [1,2,3] (E6 x0 x1 x2)=(tr x0 x1):=by kernel_rfl
theorem alH (x0 x1 x2):aD (ag (E6 x0 x1 x2) (.t 52))=some x2:=by kernel_rfl
theorem aqQ (x0):ae [1,2,3] (kh x0)=(kh x0):=by kernel_rfl
theorem aqR (x0 x1):ae [1,2,3] (tr x0 x1)=(tr x0 x1):=by kernel_rfl
def zb (k0:ay→Int→Option R) (x0:ay) (x1:Int):Option R:=
k0 x0 (IntKind.i64.wrap (x1+(1:Int)))
theorem aFD (x0 x1):exec cl N Xg (tr x0 x1) K=(zb (fun y0 y1=>K .normal (jg y0 y1)) x0 x1):=by
 kernel_rfl
def zd (cY:V1→Option (Int)) (cZ:V6→V1→Option (Bool)) (k0:Int→Option R) (k1:ay→Int→Option R) (k2:ay→Int→Option R) (x0:ay) (x1:Int):Option R:=
(zk (fun y0 y1 y2=>al y2 ((y8 cY (fun y0 y1 y2 y3=>al y3 (yZ k0 y0 y1 y2 y3) ((y9 cZ (fun y0 y1 y2=>al y2 (za k0 y0 y1 y2) (((zb k1)) y0 y1))) y0 y1))) y0 y1) (k2 y0 y1)) x0 x1)
theorem aFF (cY) (cZ) (h59:(rl cY).holds cl) (h60:(rm cZ).holds cl) (x0 x1):exec cl N DT (jg x0 x1) K=(zd cY cZ (fun y0=>K .ret (kh y0)) (fun y0 y1=>K .normal (jg y0 y1)) (fun y0 y1=>K (.exit 0) (jg y0 y1)) x0 x1):=by
 simp only [DT,aM,aP,aO,aQ,aFM,Xq,aF,bf,alF,ah,ak,aj,bj,cG,aqM,Xf,bt,aFA cY h59,KP,alG,aFz,bg,aqN,aqO,aFB cZ h60,Xe,alH,aFC,aqP,bp,bq,bo,aqQ,aqR,aFD]
 rfl
def uI {R:Type} (cY:V1→Option (Int)) (cZ:V6→V1→Option (Bool)) (k0:Int→Option R) (k1:ay→Int→Option R):Nat→ay→Int→Option R
 | 0,_,_=>none
 | m+1,x0,x1=>(zd cY cZ k0 (uI cY cZ k0 k1 m) k1 x0 x1)
theorem awc (cY) (cZ) (h59:(rl cY).holds cl) (h60:(rm cZ).holds cl):∀ (m) (x0 x1),iter [1,3] (fun env K=>exec cl N DT env K) K m (jg x0 x1)=uI cY cZ (fun y0=>K .ret (kh y0)) (fun y0 y1=>K (.exit 0) (jg y0 y1)) m x0 x1:=by
 intro m
 induction m with
 | zero=>intros; rfl
 | succ m ih=>
   intro x0 x1
   simp only [cA,aFF cY cZ h59 h60,cC,cB,cD,ago,ih]
   rfl
theorem aqH (x0):ae [2] (kh x0)=[(2,.v U2 x0)]:=by kernel_rfl
theorem aqI (x0 x1):ae [2] (jg x0 x1)=[(2,.dead)]:=by kernel_rfl
def ze (N:Nat) (cY:V1→Option (Int)) (cZ:V6→V1→Option (Bool)) (k0:Int→Option R) (k1:Option R) (x0:ay) (x1:Int):Option R:=
uI cY cZ k0 (fun y0 y1=>k1) N x0 x1
theorem aFG (cY) (cZ) (h59:(rl cY).holds cl) (h60:(rm cZ).holds cl) (x0 x1):exec cl N KQ (jg x0 x1) K=(ze N cY cZ (fun y0=>K .ret [(2,.v U2 y0)]) (K (.exit 0) [(2,.dead)]) x0 x1):=by
 simp only [KQ,aF,cz,ago,awc cY cZ h59 h60,aqH,aqI]
 rfl
theorem aqJ (x0):ae [2] [(2,.v U2 x0)]=[(2,.v U2 x0)]:=by kernel_rfl
theorem aqK:ae [2] [(2,.dead)]=[(2,.dead)]:=by kernel_rfl
def zf (k0:Int→Option R):Option R:=
k0 (0:Int)
theorem aFH:exec cl N Xj [(2,.dead)] K=(zf (fun y0=>K .normal [(2,.v U2 y0)])):=by
 kernel_rfl
def zg (N:Nat) (cY:V1→Option (Int)) (cZ:V6→V1→Option (Bool)) (k0:Int→Option R) (k1:Int→Option R) (x0:ay):Option R:=
(yX (yY (fun y0 y1=>al y1 (zc k0 y0 y1) ((zh (fun y0 y1=>al y1 (zi k0 y0 y1) ((zj (ze N cY cZ k1 (zf k1))) y0))) y0))) x0)
theorem aFI (cY) (cZ) (h59:(rl cY).holds cl) (h60:(rm cZ).holds cl) (x0):exec cl N KR [(0,.v aw x0)] K=(zg N cY cZ (fun y0=>K .ret (ia y0)) (fun y0=>K .ret [(2,.v U2 y0)]) x0):=by
 simp only [KR,aM,aP,aO,aQ,aFx,aFy,Xk,aF,bf,alD,ah,ak,aj,aFE,bg,bj,aqF,aqG,aFJ,Xn,alE,aFK,aqL,aFL,Xi,bt,aFG cY cZ h59 h60,bp,bq,bo,aqJ,aqK,aFH]
 rfl
theorem azf (y0):au d41 .ret (ia y0)=some [.v U2 y0]:=by kernel_rfl
theorem azg (y0):au d41 .ret [(2,.v U2 y0)]=some [.v U2 y0]:=by kernel_rfl
def tX (N:Nat) (cY:V1→Option (Int)) (cZ:V6→V1→Option (Bool)) (x0:ay) (k:Int→Option R):Option R:=
(zg N cY cZ k k x0)
theorem aj0 (cY) (cZ) (h59:(rl cY).holds cl) (h60:(rm cZ).holds cl) (x0) (k:List E→Option R):exec cl N KO [(0,.v aw x0)] (fun e env=>(au d41 e env).bind k)=tX N cY cZ x0 (fun r0=>k [.v U2 r0]):=by
 simp only [KO,aFI cY cZ h59 h60,azf,azg,ah]
 rfl
def qW (S:ay→Option (Int)):a7:=cw 41 aw S fun b=> [.v U2 b]
def cT (N:Nat) (x0:ay):Option (Int):=tX N (cY N) (cZ N) x0 (fun (r0:Int)=>some (r0))
end Go.Fw.L19
