/- Own work. -/
import Derived.Test.YtbdlccajpcomjaaFwYo17
import Derived.Test.YtbdlccajpcomjaaFwB4
set_option linter.unusedVariables false
set_option linter.unusedSimpArgs false
namespace Go.Fw.L19
open Go Go.Fw
set_option maxRecDepth 100000
abbrev cv1 (f:FuncId) (T0:Ty) {B:Type} (S:den T0→Option B) (ent:B→List E):Ctr:={A:=den T0×Unit,B:=B,f:=f,enc:=fun a=> [.v T0 a.1],dec:=(decC (decV T0) dec0),S:=fun a=>S a.1,ent:=ent,ok:=(decV_cons (T:=T0) (fun es b h=>dec0_some h))}
abbrev cv2 (f:FuncId) (T0 T1:Ty) {B:Type} (S:den T0→den T1→Option B) (ent:B→List E):Ctr:={A:=den T0×den T1×Unit,B:=B,f:=f,enc:=fun a=> [.v T0 a.1,.v T1 a.2.1],dec:=(decC (decV T0) (decC (decV T1) dec0)),S:=fun a=>S a.1 a.2.1,ent:=ent,ok:=(decV_cons (T:=T0) (decV_cons (T:=T1) (fun es b h=>dec0_some h)))}
abbrev cv3 (f:FuncId) (T0 T1 T2:Ty) {B:Type} (S:den T0→den T1→den T2→Option B) (ent:B→List E):Ctr:={A:=den T0×den T1×den T2×Unit,B:=B,f:=f,enc:=fun a=> [.v T0 a.1,.v T1 a.2.1,.v T2 a.2.2.1],dec:=(decC (decV T0) (decC (decV T1) (decC (decV T2) dec0))),S:=fun a=>S a.1 a.2.1 a.2.2.1,ent:=ent,ok:=(decV_cons (T:=T0) (decV_cons (T:=T1) (decV_cons (T:=T2) (fun es b h=>dec0_some h))))}
abbrev e0:=fun x0 x1 x2 x3=>([(0,.v U0 x0),(1,.v U2 x1),(5,.v U2 x2),(6,.v U2 x3)]:Env)
abbrev e1:=fun x0 x1 x2 x3 x4=>([(0,.v U0 x0),(1,.v U2 x1),(5,.v U2 x2),(6,.v U2 x3),(15,.v .bool x4)]:Env)
abbrev e2:=fun x0 x1=>([(1,.loc U18 .no x0),(3,.v U2 x1)]:Env)
abbrev e3:=fun x0 x1 x2=>([(1,.loc U18 .no x0),(3,.v U2 x1),(4,.v U2 x2)]:Env)
abbrev e4:=fun x0 x1 x2 x3=>([(1,.loc U18 .no x0),(3,.v U2 x1),(4,.v U2 x2),(16,.v .bool x3)]:Env)
abbrev e5:=fun x0 x1=>([(1,.loc U18 (.pair .no (.pair (.own true 57 .no) .no)) x0),(2,.loc U18 (.pair .no (.pair (.own true 57 .no) .no)) x1)]:Env)
abbrev e6:=fun x0 x1 x2 x3=>([(1,.loc U18 (.pair .no (.pair (.own true 57 .no) .no)) x0),(2,.loc U18 (.pair .no (.pair (.own true 57 .no) .no)) x1),(10,.v U2 x2),(11,.v U2 x3)]:Env)
abbrev e7:=fun x0 x1 x2 x3 x4=>([(1,.loc U18 (.pair .no (.pair (.own true 57 .no) .no)) x0),(2,.loc U18 (.pair .no (.pair (.own true 57 .no) .no)) x1),(10,.v U2 x2),(11,.v U2 x3),(12,.v .bool x4)]:Env)
abbrev e8:=fun x0 x1 x2 x3=>([(3,.own true 57 U13 .no x0),(6,.v U15 x1),(7,.v U2 x2),(8,.v U2 x3)]:Env)
abbrev e9:=fun x0 x1 x2 x3 x4=>([(3,.own true 57 U13 .no x0),(6,.v U15 x1),(7,.v U2 x2),(8,.v U2 x3),(9,.v .bool x4)]:Env)
abbrev e10:=fun x0=>([(3,.own true 57 U13 .no x0)]:Env)
abbrev e11:=fun x0=>([(2,.ref 3 []),(3,.own true 57 U13 .no x0)]:Env)
abbrev e12:=fun x0 x1=>([(0,.v U18 x0),(1,.v U2 x1)]:Env)
abbrev e13:=fun x0 x1 x2 x3=>([(1,.v U2 x0),(2,.loc U18 .no x1),(4,.loc U18 (.pair .no (.pair (.own true 57 .no) .no)) x2),(5,.loc U18 (.pair .no (.pair (.own true 57 .no) .no)) x3)]:Env)
abbrev e14:=fun x0 x1 x2 x3 x4=>([(1,.v U2 x0),(2,.loc U18 .no x1),(4,.loc U18 (.pair .no (.pair (.own true 57 .no) .no)) x2),(5,.loc U18 (.pair .no (.pair (.own true 57 .no) .no)) x3),(6,.v U2 x4)]:Env)
abbrev e15:=fun x0 x1 x2 x3 x4 x5=>([(1,.v U2 x0),(2,.loc U18 .no x1),(4,.loc U18 (.pair .no (.pair (.own true 57 .no) .no)) x2),(5,.loc U18 (.pair .no (.pair (.own true 57 .no) .no)) x3),(6,.v U2 x4),(14,.v .bool x5)]:Env)
abbrev e16:=fun x0 x1 x2 x3 x4 x5=>([(1,.v U2 x0),(2,.loc U18 .no x1),(4,.loc U18 (.pair .no (.pair (.own true 57 .no) .no)) x2),(5,.loc U18 (.pair .no (.pair (.own true 57 .no) .no)) x3),(6,.v U2 x4),(24,.v .bool x5)]:Env)
abbrev e17:=fun x0 x1=>([(4,.loc U18 (.pair .no (.pair (.own true 57 .no) .no)) x0),(5,.loc U18 (.pair .no (.pair (.own true 57 .no) .no)) x1)]:Env)
abbrev e18:=fun x0 x1=>([(0,.v U0 x0),(1,.v U0 x1)]:Env)
abbrev e19:=fun x0 x1 x2=>([(0,.v U0 x0),(1,.v U0 x1),(10,.v .bool x2)]:Env)
abbrev e20:=fun x0=>([(0,.dead),(1,.dead),(4,.v .bool x0)]:Env)
abbrev e21:=fun x0 x1 x2=>([(0,.v U0 x0),(1,.v U0 x1),(5,.v U2 x2)]:Env)
abbrev e22:=fun x0 x1 x2 x3=>([(0,.v U0 x0),(1,.v U0 x1),(5,.v U2 x2),(14,.v .bool x3)]:Env)
abbrev e23:=fun x0 x1 x2 x3=>([(0,.v U0 x0),(1,.v U0 x1),(5,.v U2 x2),(25,.v .bool x3)]:Env)
abbrev e24:=fun x0=>([(0,.dead),(1,.dead),(4,.v .bool x0),(5,.dead)]:Env)
abbrev e25:=fun x0 x1 x2=>([(0,.v U0 x0),(1,.v U0 x1),(4,.dead),(5,.v U2 x2)]:Env)
abbrev e26:=fun x0 x1 x2=>([(2,.loc U18 .no x0),(3,.loc U18 .no x1),(21,.v .bool x2)]:Env)
abbrev e27:=fun x0=>([(2,.dead),(3,.dead),(4,.v .bool x0)]:Env)
abbrev e28:=fun x0 x1 x2=>([(2,.loc U18 .no x0),(3,.loc U18 .no x1),(5,.v U2 x2)]:Env)
abbrev e29:=fun x0 x1 x2 x3=>([(2,.loc U18 .no x0),(3,.loc U18 .no x1),(5,.v U2 x2),(26,.v .bool x3)]:Env)
abbrev e30:=fun x0 x1 x2 x3=>([(2,.loc U18 .no x0),(3,.loc U18 .no x1),(5,.v U2 x2),(58,.v .bool x3)]:Env)
abbrev e31:=fun x0=>([(2,.dead),(3,.dead),(4,.v .bool x0),(5,.dead)]:Env)
abbrev e32:=fun x0 x1 x2=>([(2,.loc U18 .no x0),(3,.loc U18 .no x1),(4,.dead),(5,.v U2 x2)]:Env)
abbrev e33:=fun x0=>([(3,.own true 4294967295 U1 .no x0)]:Env)
abbrev e34:=fun x0 x1 x2=>([(3,.own true 4294967295 U1 .no x0),(8,.ref 3 []),(9,.v U2 x1),(10,.v U2 x2)]:Env)
abbrev e35:=fun x0 x1 x2 x3=>([(3,.own true 4294967295 U1 .no x0),(8,.ref 3 []),(9,.v U2 x1),(10,.v U2 x2),(11,.v .bool x3)]:Env)
abbrev e36:=fun x0 x1 x2 x3 x4 x5=>([(3,.own true 4294967295 U1 .no x0),(4,.v U2 x1),(5,.v U1 x2),(8,.ref 3 []),(9,.v U2 x3),(10,.v U2 x4),(20,.v .bool x5)]:Env)
abbrev e37:=fun x0 x1=>([(0,.v U0 x0),(1,.v .str x1)]:Env)
abbrev e38:=fun x0 x1 x2 x3=>([(0,.v U0 x0),(1,.v .str x1),(7,.v U2 x2),(8,.v U2 x3)]:Env)
abbrev e39:=fun x0 x1 x2 x3 x4=>([(0,.v U0 x0),(1,.v .str x1),(7,.v U2 x2),(8,.v U2 x3),(9,.v .bool x4)]:Env)
abbrev e40:=fun x0 x1 x2 x3 x4 x5=>([(0,.v U0 x0),(1,.v .str x1),(5,.v U2 x2),(7,.v U2 x3),(8,.v U2 x4),(16,.v .bool x5)]:Env)
abbrev e41:=fun x0=>([(0,.dead),(1,.dead),(4,.v U2 x0),(7,.dead),(8,.dead)]:Env)
abbrev e42:=fun x0 x1 x2 x3=>([(0,.v U0 x0),(1,.v .str x1),(4,.dead),(7,.v U2 x2),(8,.v U2 x3)]:Env)
abbrev e43:=fun x0 x1 x2=>([(0,.v U18 x0),(1,.v U2 x1),(2,.v .str x2)]:Env)
abbrev e44:=fun x0 x1 x2 x3 x4 x5 x6=>([(1,.v U2 x0),(2,.v .str x1),(8,.v U2 x2),(9,.v .bool x3),(15,.v U15 x4),(16,.v U2 x5),(17,.v U2 x6)]:Env)
abbrev e45:=fun x0 x1 x2 x3 x4 x5 x6 x7=>([(1,.v U2 x0),(2,.v .str x1),(8,.v U2 x2),(9,.v .bool x3),(15,.v U15 x4),(16,.v U2 x5),(17,.v U2 x6),(18,.v .bool x7)]:Env)
abbrev e46:=fun x0 x1 x2 x3 x4 x5 x6 x7 x8=>([(1,.v U2 x0),(2,.v .str x1),(8,.v U2 x2),(9,.v .bool x3),(11,.loc U13 .no x4),(15,.v U15 x5),(16,.v U2 x6),(17,.v U2 x7),(39,.v .bool x8)]:Env)
abbrev e47:=fun x0 x1=>([(8,.v U2 x0),(9,.v .bool x1)]:Env)
abbrev e48:=fun x0 x1=>([(6,.v U2 x0),(7,.v .bool x1)]:Env)
abbrev e49:=fun x0 x1 x2=>([(0,.v .str x0),(3,.own true 5 U1 .no x1),(4,.v U2 x2)]:Env)
abbrev e50:=fun x0 x1 x2 x3=>([(0,.v .str x0),(3,.own true 5 U1 .no x1),(4,.v U2 x2),(11,.v .bool x3)]:Env)
abbrev e51:=fun x0 x1 x2 x3=>([(0,.v .str x0),(3,.own true 5 U1 .no x1),(4,.v U2 x2),(29,.v .bool x3)]:Env)
abbrev e52:=fun x0=>([(3,.own true 5 U1 .no x0)]:Env)
abbrev e53:=fun x0 x1 x2=>([(0,.v U0 x0),(1,.v .str x1),(5,.v U2 x2)]:Env)
abbrev e54:=fun x0 x1 x2 x3=>([(0,.v U0 x0),(1,.v .str x1),(5,.v U2 x2),(9,.v .bool x3)]:Env)
abbrev e55:=fun x0 x1 x2 x3=>([(0,.v U0 x0),(1,.v .str x1),(5,.v U2 x2),(17,.v .bool x3)]:Env)
abbrev e56:=fun x0 x1 x2=>([(0,.v U0 x0),(1,.v .str x1),(4,.dead),(5,.v U2 x2)]:Env)
abbrev e57:=fun x0 x1 x2 x3 x4=>([(1,.v U2 x0),(3,.loc U18 .no x1),(8,.v U2 x2),(9,.v .bool x3),(10,.v .str x4)]:Env)
abbrev e58:=fun x0 x1 x2 x3 x4 x5=>([(1,.v U2 x0),(3,.loc U18 .no x1),(8,.v U2 x2),(9,.v .bool x3),(10,.v .str x4),(11,.v U2 x5)]:Env)
abbrev e59:=fun x0 x1 x2 x3 x4 x5 x6=>([(1,.v U2 x0),(3,.loc U18 .no x1),(8,.v U2 x2),(9,.v .bool x3),(10,.v .str x4),(11,.v U2 x5),(19,.v .bool x6)]:Env)
abbrev e60:=fun x0 x1 x2 x3 x4 x5 x6=>([(1,.v U2 x0),(3,.loc U18 .no x1),(8,.v U2 x2),(9,.v .bool x3),(10,.v .str x4),(11,.v U2 x5),(12,.loc U13 .no x6)]:Env)
abbrev e61:=fun x0 x1 x2 x3 x4 x5 x6 x7=>([(1,.v U2 x0),(3,.loc U18 .no x1),(8,.v U2 x2),(9,.v .bool x3),(10,.v .str x4),(11,.v U2 x5),(12,.loc U13 .no x6),(43,.v .bool x7)]:Env)
abbrev e62:=fun x0 x1 x2 x3 x4 x5 x6 x7=>([(1,.v U2 x0),(3,.loc U18 .no x1),(8,.v U2 x2),(9,.v .bool x3),(10,.v .str x4),(11,.v U2 x5),(12,.loc U13 .no x6),(51,.v .bool x7)]:Env)
abbrev e63:=fun x0 x1 x2 x3=>([(1,.v U2 x0),(2,.v .str x1),(3,.loc U18 .no x2),(24,.v .bool x3)]:Env)
abbrev e64:=fun x0=>([(1,.dead),(2,.dead),(3,.dead),(6,.v .bool x0)]:Env)
abbrev e65:=fun x0 x1 x2 x3 x4=>([(1,.v U2 x0),(2,.v .str x1),(3,.loc U18 .no x2),(7,.loc U18 .no x3),(35,.v .bool x4)]:Env)
abbrev e66:=fun x0=>([(1,.dead),(2,.dead),(3,.dead),(6,.v .bool x0),(7,.dead)]:Env)
abbrev e67:=fun x0 x1 x2 x3=>([(1,.v U2 x0),(2,.v .str x1),(3,.loc U18 .no x2),(6,.dead),(7,.loc U18 .no x3)]:Env)
abbrev e68:=fun x0 x1 x2 x3 x4=>([(1,.v U2 x0),(2,.v .str x1),(3,.loc U18 .no x2),(7,.loc U18 .no x3),(8,.v U2 x4)]:Env)
abbrev e69:=fun x0 x1 x2 x3 x4 x5=>([(1,.v U2 x0),(2,.v .str x1),(3,.loc U18 .no x2),(7,.loc U18 .no x3),(8,.v U2 x4),(37,.v .bool x5)]:Env)
abbrev e70:=fun x0 x1 x2 x3 x4 x5=>([(1,.v U2 x0),(2,.v .str x1),(3,.loc U18 .no x2),(7,.loc U18 .no x3),(8,.v U2 x4),(74,.v .bool x5)]:Env)
abbrev e71:=fun x0=>([(1,.dead),(2,.dead),(3,.dead),(6,.v .bool x0),(7,.dead),(8,.dead)]:Env)
abbrev e72:=fun x0 x1 x2 x3 x4=>([(1,.v U2 x0),(2,.v .str x1),(3,.loc U18 .no x2),(6,.dead),(7,.loc U18 .no x3),(8,.v U2 x4)]:Env)
abbrev e73:=fun x0 x1=>([(0,.v .str x0),(11,.v .bool x1)]:Env)
abbrev e74:=fun x0=>([(0,.dead),(2,.v U2 x0)]:Env)
abbrev e75:=fun x0=>([(0,.v .str x0),(2,.dead)]:Env)
abbrev e76:=fun x0 x1=>([(0,.v .str x0),(3,.v U2 x1)]:Env)
abbrev e77:=fun x0 x1 x2=>([(0,.v .str x0),(3,.v U2 x1),(15,.v .bool x2)]:Env)
abbrev e78:=fun x0 x1 x2=>([(0,.v .str x0),(3,.v U2 x1),(25,.v .bool x2)]:Env)
abbrev e79:=fun x0 x1 x2=>([(0,.v .str x0),(3,.v U2 x1),(54,.v .bool x2)]:Env)
abbrev e80:=fun x0 x1=>([(0,.v U1 x0),(9,.v .bool x1)]:Env)
abbrev e81:=fun x0 x1=>([(0,.v U1 x0),(3,.v U2 x1)]:Env)
abbrev e82:=fun x0 x1 x2=>([(0,.v U1 x0),(3,.v U2 x1),(11,.v .bool x2)]:Env)
abbrev e83:=fun x0 x1 x2=>([(0,.v U1 x0),(3,.v U2 x1),(17,.v .bool x2)]:Env)
abbrev e84:=fun x0=>([(0,.dead),(2,.v .bool x0),(3,.dead)]:Env)
abbrev e85:=fun x0 x1=>([(0,.v U1 x0),(2,.dead),(3,.v U2 x1)]:Env)
abbrev e86:=fun x0 x1=>([(0,.v .str x0),(6,.v .bool x1)]:Env)
abbrev e87:=fun x0 x1=>([(0,.v .str x0),(14,.v .bool x1)]:Env)
abbrev e88:=fun x0 x1 x2=>([(0,.v .str x0),(3,.v U2 x1),(18,.v .bool x2)]:Env)
abbrev e89:=fun x0=>([(0,.dead),(2,.v U2 x0),(3,.dead)]:Env)
abbrev e90:=fun x0 x1=>([(0,.v .str x0),(2,.dead),(3,.v U2 x1)]:Env)
abbrev e91:=fun x0 x1=>([(1,.loc U13 .no x0),(22,.v .bool x1)]:Env)
abbrev e92:=fun x0=>([(1,.dead),(2,.v U2 x0)]:Env)
abbrev e93:=fun x0=>([(1,.loc U13 .no x0),(2,.dead)]:Env)
abbrev e94:=fun x0 x1=>([(1,.loc U13 .no x0),(26,.v .bool x1)]:Env)
abbrev e95:=fun x0 x1=>([(1,.loc U13 .no x0),(3,.v U2 x1)]:Env)
abbrev e96:=fun x0 x1 x2=>([(1,.loc U13 .no x0),(3,.v U2 x1),(31,.v .bool x2)]:Env)
abbrev e97:=fun x0 x1 x2 x3=>([(1,.loc U13 .no x0),(3,.v U2 x1),(4,.v U2 x2),(41,.v .bool x3)]:Env)
abbrev e98:=fun x0=>([(1,.dead),(2,.v U2 x0),(3,.dead)]:Env)
abbrev e99:=fun x0 x1=>([(1,.loc U13 .no x0),(2,.dead),(3,.v U2 x1)]:Env)
abbrev e100:=fun x0 x1 x2=>([(1,.loc U13 .no x0),(3,.v U2 x1),(52,.v .bool x2)]:Env)
abbrev e101:=fun x0 x1=>([(1,.loc U18 .no x0),(8,.v .bool x1)]:Env)
abbrev e102:=fun x0=>([(1,.loc U18 .no x0),(2,.dead)]:Env)
abbrev e103:=fun x0 x1=>([(1,.loc U18 .no x0),(12,.v .bool x1)]:Env)
abbrev e104:=fun x0 x1 x2=>([(1,.loc U18 .no x0),(3,.v U2 x1),(17,.v .bool x2)]:Env)
abbrev e105:=fun x0 x1 x2 x3=>([(1,.loc U18 .no x0),(3,.v U2 x1),(4,.v U2 x2),(27,.v .bool x3)]:Env)
abbrev e106:=fun x0 x1=>([(1,.loc U18 .no x0),(2,.dead),(3,.v U2 x1)]:Env)
abbrev e107:=fun x0 x1=>([(0,.v .str x0),(12,.v .bool x1)]:Env)
abbrev e108:=fun x0 x1 x2=>([(0,.v .str x0),(3,.v U2 x1),(16,.v .bool x2)]:Env)
abbrev e109:=fun x0 x1 x2 x3=>([(0,.v .str x0),(3,.v U2 x1),(4,.v U1 x2),(21,.v .bool x3)]:Env)
abbrev e110:=fun x0 x1 x2=>([(0,.v .str x0),(3,.v U2 x1),(30,.v .bool x2)]:Env)
abbrev e111:=fun x0=>([(2,.v U2 x0),(3,.dead)]:Env)
abbrev e112:=fun x0=>([(2,.dead),(3,.v U2 x0)]:Env)
abbrev e113:=fun x0 x1=>([(0,.v U3 x0),(1,.v U8 x1)]:Env)
abbrev e114:=fun x0 x1 x2 x3=>([(0,.v U3 x0),(1,.v U8 x1),(7,.v U2 x2),(8,.v U2 x3)]:Env)
abbrev e115:=fun x0 x1 x2 x3 x4=>([(0,.v U3 x0),(1,.v U8 x1),(7,.v U2 x2),(8,.v U2 x3),(9,.v .bool x4)]:Env)
abbrev e116:=fun x0 x1 x2 x3 x4 x5=>([(0,.v U3 x0),(1,.v U8 x1),(5,.v U2 x2),(7,.v U2 x3),(8,.v U2 x4),(16,.v .bool x5)]:Env)
abbrev e117:=fun x0 x1 x2 x3=>([(0,.v U3 x0),(1,.v U8 x1),(4,.dead),(7,.v U2 x2),(8,.v U2 x3)]:Env)
abbrev e118:=fun x0 x1 x2 x3=>([(0,.v U0 x0),(1,.v .str x1),(12,.v U2 x2),(13,.v .bool x3)]:Env)
abbrev e119:=fun x0=>([(0,.dead),(1,.dead),(4,.v .str x0)]:Env)
abbrev e120:=fun x0 x1 x2=>([(0,.v U0 x0),(1,.v .str x1),(15,.v .bool x2)]:Env)
abbrev e121:=fun x0 x1=>([(0,.v U0 x0),(1,.v .str x1),(4,.dead)]:Env)
abbrev e122:=fun x0 x1 x2 x3=>([(0,.v U0 x0),(1,.v .str x1),(5,.v U2 x2),(22,.v .bool x3)]:Env)
abbrev e123:=fun x0 x1 x2 x3=>([(0,.v U0 x0),(1,.v .str x1),(5,.v U2 x2),(29,.v .bool x3)]:Env)
abbrev e124:=fun x0 x1 x2 x3 x4 x5=>([(0,.v U0 x0),(1,.v .str x1),(5,.v U2 x2),(39,.v U0 x3),(40,.v U2 x4),(41,.v U2 x5)]:Env)
abbrev e125:=fun x0 x1 x2 x3 x4 x5 x6=>([(0,.v U0 x0),(1,.v .str x1),(5,.v U2 x2),(39,.v U0 x3),(40,.v U2 x4),(41,.v U2 x5),(42,.v .bool x6)]:Env)
abbrev e126:=fun x0 x1 x2 x3 x4 x5 x6=>([(0,.v U0 x0),(1,.v .str x1),(5,.v U2 x2),(7,.v .str x3),(39,.v U0 x4),(40,.v U2 x5),(41,.v U2 x6)]:Env)
abbrev e127:=fun x0 x1 x2 x3 x4 x5 x6 x7=>([(0,.v U0 x0),(1,.v .str x1),(5,.v U2 x2),(7,.v .str x3),(39,.v U0 x4),(40,.v U2 x5),(41,.v U2 x6),(49,.v .bool x7)]:Env)
abbrev e128:=fun x0 x1 x2 x3=>([(0,.v U0 x0),(7,.v U0 x1),(8,.v U2 x2),(9,.v U2 x3)]:Env)
abbrev e129:=fun x0 x1 x2 x3 x4=>([(0,.v U0 x0),(7,.v U0 x1),(8,.v U2 x2),(9,.v U2 x3),(10,.v .bool x4)]:Env)
abbrev e130:=fun x0 x1 x2 x3 x4 x5=>([(0,.v U0 x0),(5,.v .str x1),(7,.v U0 x2),(8,.v U2 x3),(9,.v U2 x4),(14,.v .bool x5)]:Env)
abbrev e131:=fun x0 x1=>([(2,.v .str x0),(3,.v U2 x1)]:Env)
abbrev e132:=fun x0 x1=>([(0,.dead),(2,.v .str x0),(3,.v U2 x1),(5,.dead),(7,.dead),(8,.dead),(9,.dead)]:Env)
abbrev e133:=fun x0 x1 x2 x3 x4=>([(0,.v U0 x0),(2,.dead),(3,.dead),(5,.v .str x1),(7,.v U0 x2),(8,.v U2 x3),(9,.v U2 x4)]:Env)
abbrev e134:=fun x0 x1 x2 x3 x4=>([(0,.v U0 x0),(7,.v U0 x1),(8,.v U2 x2),(9,.v U2 x3),(17,.v .bool x4)]:Env)
abbrev e135:=fun x0 x1=>([(0,.dead),(2,.v .str x0),(3,.v U2 x1),(7,.dead),(8,.dead),(9,.dead)]:Env)
abbrev e136:=fun x0 x1 x2 x3=>([(0,.v U0 x0),(2,.dead),(3,.dead),(7,.v U0 x1),(8,.v U2 x2),(9,.v U2 x3)]:Env)
abbrev e137:=fun x0 x1=>([(0,.dead),(2,.v .str x0),(3,.v U2 x1)]:Env)
abbrev e138:=fun x0=>([(0,.v U0 x0),(2,.dead),(3,.dead)]:Env)
abbrev e139:=fun x0 x1=>([(6,.v .str x0),(23,.v .bool x1)]:Env)
abbrev e140:=fun x0 x1=>([(2,.v .str x0),(3,.v U2 x1),(6,.dead)]:Env)
abbrev e141:=fun x0 x1=>([(0,.v .str x0),(7,.v .bool x1)]:Env)
abbrev e142:=fun x0 x1=>([(1,.loc U13 .no x0),(6,.v .bool x1)]:Env)
abbrev e143:=fun x0 x1=>([(1,.loc U13 .no x0),(25,.v .bool x1)]:Env)
abbrev e144:=fun x0 x1 x2 x3=>([(1,.loc U13 .no x0),(31,.v U0 x1),(32,.v U2 x2),(33,.v U2 x3)]:Env)
abbrev e145:=fun x0 x1 x2 x3 x4=>([(1,.loc U13 .no x0),(31,.v U0 x1),(32,.v U2 x2),(33,.v U2 x3),(34,.v .bool x4)]:Env)
abbrev e146:=fun x0 x1 x2 x3 x4 x5=>([(1,.loc U13 .no x0),(3,.v U2 x1),(4,.v .str x2),(31,.v U0 x3),(32,.v U2 x4),(33,.v U2 x5)]:Env)
abbrev e147:=fun x0 x1 x2 x3 x4 x5 x6 x7=>([(1,.loc U13 .no x0),(3,.v U2 x1),(4,.v .str x2),(5,.v U2 x3),(31,.v U0 x4),(32,.v U2 x5),(33,.v U2 x6),(41,.v .bool x7)]:Env)
abbrev e148:=fun x0=>([(1,.dead),(2,.v U2 x0),(3,.dead),(4,.dead),(31,.dead),(32,.dead),(33,.dead)]:Env)
abbrev e149:=fun x0 x1 x2 x3 x4 x5=>([(1,.loc U13 .no x0),(2,.dead),(3,.v U2 x1),(4,.v .str x2),(31,.v U0 x3),(32,.v U2 x4),(33,.v U2 x5)]:Env)
abbrev e150:=fun x0 x1 x2 x3 x4=>([(1,.loc U13 .no x0),(31,.v U0 x1),(32,.v U2 x2),(33,.v U2 x3),(48,.v .bool x4)]:Env)
abbrev e151:=fun x0=>([(1,.dead),(2,.v U2 x0),(31,.dead),(32,.dead),(33,.dead)]:Env)
abbrev e152:=fun x0 x1 x2 x3=>([(1,.loc U13 .no x0),(2,.dead),(31,.v U0 x1),(32,.v U2 x2),(33,.v U2 x3)]:Env)
abbrev e153:=fun x0 x1=>([(1,.loc U18 .no x0),(6,.v .bool x1)]:Env)
abbrev e154:=fun x0 x1=>([(1,.loc U18 .no x0),(11,.v .bool x1)]:Env)
abbrev e155:=fun x0 x1 x2=>([(17,.v U15 x0),(18,.v U2 x1),(19,.v U2 x2)]:Env)
abbrev e156:=fun x0 x1 x2 x3=>([(17,.v U15 x0),(18,.v U2 x1),(19,.v U2 x2),(20,.v .bool x3)]:Env)
abbrev e157:=fun x0 x1 x2 x3 x4=>([(5,.v U2 x0),(17,.v U15 x1),(18,.v U2 x2),(19,.v U2 x3),(26,.v .bool x4)]:Env)
abbrev e158:=fun x0=>([(2,.v U2 x0),(17,.dead),(18,.dead),(19,.dead)]:Env)
abbrev e159:=fun x0 x1 x2=>([(2,.dead),(17,.v U15 x0),(18,.v U2 x1),(19,.v U2 x2)]:Env)
variable {N:Nat} {cl:Cal} {R:Type} {K:KE R}
def g26_12 (k0:V4→Int→Int→Option R) (x0:V4) (x1:Int):Option R:=
k0 x0 x1 (0:Int)
theorem t26_12 (x0 x1):exec cl N c26_12 [(0,.v U0 x0),(1,.v U2 x1)] K=(g26_12 (fun y0 y1 y2=>exec cl N (.seq (.seq c26_2 c26_10) (.seq c26_11 .ret)) [(0,.v U0 y0),(1,.v U2 y1),(5,.v U2 y2)] K) x0 x1):=by
 kernel_rfl
def g26_2 (k0:V4→Int→Int→Int→Option R) (x0:V4) (x1 x2:Int):Option R:=
k0 x0 x1 x2 (0:Int)
theorem t26_2 (x0 x1 x2):exec cl N c26_2 [(0,.v U0 x0),(1,.v U2 x1),(5,.v U2 x2)] K=(g26_2 (fun y0 y1 y2 y3=>K .normal (e0 y0 y1 y2 y3)) x0 x1 x2):=by
 kernel_rfl
theorem kp26_0 (x0 x1 x2 x3):keep [0,1,5,6] (e0 x0 x1 x2 x3)=(e0 x0 x1 x2 x3):=by kernel_rfl
def g26_3 (k0:V4→Int→Int→Int→Bool→Option R) (x0:V4) (x1 x2 x3:Int):Option R:=
brB (decide (x3 < (x0.length:Int))) (k0 x0 x1 x2 x3 (decide (x2≤x1))) (k0 x0 x1 x2 x3 false)
theorem t26_3 (x0 x1 x2 x3):exec cl N c26_3 (e0 x0 x1 x2 x3) K=(g26_3 (fun y0 y1 y2 y3 y4=>K .normal (e1 y0 y1 y2 y3 y4)) x0 x1 x2 x3):=by
 kernel_rfl
theorem kp26_1 (x0 x1 x2 x3 x4):keep [0,1,5,6] (e1 x0 x1 x2 x3 x4)=(e0 x0 x1 x2 x3):=by kernel_rfl
theorem hb26_0 (x0 x1 x2 x3 x4):boolOf? (ent (e1 x0 x1 x2 x3 x4) (.t 15))=some x4:=by kernel_rfl
def g26_5 (k0:V4→Int→Int→Int→Option R) (x0:V4) (x1 x2 x3:Int):Option R:=
if 0≤x3∧x3 < (x0.length:Int) then
k0 x0 x1 (IntKind.i64.wrap ((IntKind.i64.wrap (x2+(1:Int)))+((x0.getD x3.toNat []).length:Int))) x3
else none
theorem t26_5 (x0 x1 x2 x3):exec cl N c26_5 (e0 x0 x1 x2 x3) K=(g26_5 (fun y0 y1 y2 y3=>K .normal (e0 y0 y1 y2 y3)) x0 x1 x2 x3):=by
 kernel_rfl
def g26_7 (k0:V4→Int→Int→Int→Option R) (x0:V4) (x1 x2 x3:Int):Option R:=
k0 x0 x1 x2 (IntKind.i64.wrap (x3+(1:Int)))
theorem t26_7 (x0 x1 x2 x3):exec cl N c26_7 (e0 x0 x1 x2 x3) K=(g26_7 (fun y0 y1 y2 y3=>K .normal (e0 y0 y1 y2 y3)) x0 x1 x2 x3):=by
 kernel_rfl
def g26_8 (k0:V4→Int→Int→Int→Option R) (k1:V4→Int→Int→Int→Option R) (x0:V4) (x1 x2 x3:Int):Option R:=
(g26_3 (fun y0 y1 y2 y3 y4=>brB y4 ((g26_5 ((g26_7 k0))) y0 y1 y2 y3) (k1 y0 y1 y2 y3)) x0 x1 x2 x3)
theorem t26_8 (x0 x1 x2 x3):exec cl N c26_8 (e0 x0 x1 x2 x3) K=(g26_8 (fun y0 y1 y2 y3=>K .normal (e0 y0 y1 y2 y3)) (fun y0 y1 y2 y3=>K (.exit 0) (e0 y0 y1 y2 y3)) x0 x1 x2 x3):=by
 simp only [c26_8,exec_seq,seqK_normal,seqK_exit,seqK_ret,t26_3,c26_4,exec_out,exec_cond',hb26_0,Option.bind_some,brB_true,brB_false,exec_skip,exec_exit,kp26_1,c26_6,exec_block,t26_5,blockK_normal,blockK_ret,blockK_eq,kp26_0,t26_7]
 rfl
def l26_9 {R:Type} (k0:V4→Int→Int→Int→Option R):Nat→V4→Int→Int→Int→Option R
 | 0,_,_,_,_=>none
 | m+1,x0,x1,x2,x3=>(g26_8 (l26_9 k0 m) k0 x0 x1 x2 x3)
theorem lt26_9:∀ (m) (x0 x1 x2 x3),iter [0,1,5,6] (fun env K=>exec cl N c26_8 env K) K m (e0 x0 x1 x2 x3)=l26_9 (fun y0 y1 y2 y3=>K (.exit 0) (e0 y0 y1 y2 y3)) m x0 x1 x2 x3:=by
 intro m
 induction m with
 | zero=>intros; rfl
 | succ m ih=>
   intro x0 x1 x2 x3
   simp only [iter_succ,t26_8,loopK_normal,loopK_exit,loopK_ret,kp26_0,ih]
   rfl
theorem kp26_2 (x0 x1 x2 x3):keep [5] (e0 x0 x1 x2 x3)=[(5,.v U2 x2)]:=by kernel_rfl
def g26_9 (N:Nat) (k0:Int→Option R) (x0:V4) (x1 x2 x3:Int):Option R:=
l26_9 (fun y0 y1 y2 y3=>k0 y2) N x0 x1 x2 x3
theorem t26_9 (x0 x1 x2 x3):exec cl N c26_9 (e0 x0 x1 x2 x3) K=(g26_9 N (fun y0=>K (.exit 0) [(5,.v U2 y0)]) x0 x1 x2 x3):=by
 simp only [c26_9,exec_out,exec_loop,kp26_0,lt26_9,kp26_2]
 rfl
theorem kp26_3 (x0):keep [5] [(5,.v U2 x0)]=[(5,.v U2 x0)]:=by kernel_rfl
def g26_11 (k0:Int→Option R) (x0:Int):Option R:=
k0 x0
theorem t26_11 (x0):exec cl N c26_11 [(5,.v U2 x0)] K=(g26_11 (fun y0=>K .normal [(4,.v U2 y0)]) x0):=by
 kernel_rfl
def g26_12b (N:Nat) (k0:Int→Option R) (x0:V4) (x1:Int):Option R:=
(g26_12 (g26_2 (g26_9 N ((g26_11 k0)))) x0 x1)
theorem t26_12b (x0 x1):exec cl N c26_12 [(0,.v U0 x0),(1,.v U2 x1)] K=(g26_12b N (fun y0=>K .ret [(4,.v U2 y0)]) x0 x1):=by
 simp only [exec_seq,seqK_normal,seqK_exit,seqK_ret,t26_12,t26_2,c26_10,exec_out,exec_block,t26_9,blockK_normal,blockK_ret,blockK_eq,kp26_3,t26_11,exec_ret]
 rfl
theorem rk26_0 (y0):retK d26 .ret [(4,.v U2 y0)]=some [.v U2 y0]:=by kernel_rfl
def g26 (N:Nat) (x0:V4) (x1:Int) (k:Int→Option R):Option R:=
(g26_12b N k x0 x1)
theorem gen26 (x0 x1) (k:List E→Option R):exec cl N c26 [(0,.v U0 x0),(1,.v U2 x1)] (fun e env=>(retK d26 e env).bind k)=g26 N x0 x1 (fun r0=>k [.v U2 r0]):=by
 simp only [c26,t26_12b,rk26_0,Option.bind_some]
 rfl
def ctr26 (S:V4→Int→Option (Int)):Ctr:=cv2 26 U0 U2 S fun b=> [.v U2 b]
def S26 (N:Nat) (x0:V4) (x1:Int):Option (Int):=g26 N x0 x1 (fun (r0:Int)=>some (r0))
def g8_12 (k0:V15→Int→Option R) (x0:V15):Option R:=
k0 x0 (x0.1.length:Int)
theorem t8_12 (x0):exec cl N c8_12 [(0,.v U18 x0)] K=(g8_12 (fun y0 y1=>exec cl N (.seq (.seq c8_2 c8_10) (.seq c8_11 .ret)) (e2 y0 y1) K) x0):=by
 kernel_rfl
def g8_2 (k0:V15→Int→Int→Option R) (x0:V15) (x1:Int):Option R:=
k0 x0 x1 (0:Int)
theorem t8_2 (x0 x1):exec cl N c8_2 (e2 x0 x1) K=(g8_2 (fun y0 y1 y2=>K .normal (e3 y0 y1 y2)) x0 x1):=by
 kernel_rfl
theorem kp8_0 (x0 x1 x2):keep [1,3,4] (e3 x0 x1 x2)=(e3 x0 x1 x2):=by kernel_rfl
def g8_3 (k0:V15→Int→Int→Bool→Option R) (x0:V15) (x1 x2:Int):Option R:=
brB (decide (x2 < (x0.2.1.length:Int))) (k0 x0 x1 x2 (decide (x2 < (50:Int)))) (k0 x0 x1 x2 false)
theorem t8_3 (x0 x1 x2):exec cl N c8_3 (e3 x0 x1 x2) K=(g8_3 (fun y0 y1 y2 y3=>K .normal (e4 y0 y1 y2 y3)) x0 x1 x2):=by
 kernel_rfl
theorem kp8_1 (x0 x1 x2 x3):keep [1,3,4] (e4 x0 x1 x2 x3)=(e3 x0 x1 x2):=by kernel_rfl
theorem hb8_0 (x0 x1 x2 x3):boolOf? (ent (e4 x0 x1 x2 x3) (.t 16))=some x3:=by kernel_rfl
def g8_5 (S26:V4→Int→Option (Int)) (k0:V15→Int→Int→Option R) (x0:V15) (x1 x2:Int):Option R:=
if 0≤x2∧x2 < (x0.2.1.length:Int) then
(S26 ((x0.2.1.getD x2.toNat ((0:Int),((0:Int),([],())))).2.2.1) (1500:Int)).bind fun r21=>
k0 x0 (IntKind.i64.wrap (x1+r21)) x2
else none
theorem t8_5 (S26) (h26:(ctr26 S26).holds cl) (x0 x1 x2):exec cl N c8_5 (e3 x0 x1 x2) K=(g8_5 S26 (fun y0 y1 y2=>K .normal (e3 y0 y1 y2)) x0 x1 x2):=by
 rw [←put_eq h26]
 kernel_rfl
def g8_7 (k0:V15→Int→Int→Option R) (x0:V15) (x1 x2:Int):Option R:=
k0 x0 x1 (IntKind.i64.wrap (x2+(1:Int)))
theorem t8_7 (x0 x1 x2):exec cl N c8_7 (e3 x0 x1 x2) K=(g8_7 (fun y0 y1 y2=>K .normal (e3 y0 y1 y2)) x0 x1 x2):=by
 kernel_rfl
def g8_8 (S26:V4→Int→Option (Int)) (k0:V15→Int→Int→Option R) (k1:V15→Int→Int→Option R) (x0:V15) (x1 x2:Int):Option R:=
(g8_3 (fun y0 y1 y2 y3=>brB y3 ((g8_5 S26 ((g8_7 k0))) y0 y1 y2) (k1 y0 y1 y2)) x0 x1 x2)
theorem t8_8 (S26) (h26:(ctr26 S26).holds cl) (x0 x1 x2):exec cl N c8_8 (e3 x0 x1 x2) K=(g8_8 S26 (fun y0 y1 y2=>K .normal (e3 y0 y1 y2)) (fun y0 y1 y2=>K (.exit 0) (e3 y0 y1 y2)) x0 x1 x2):=by
 simp only [c8_8,exec_seq,seqK_normal,seqK_exit,seqK_ret,t8_3,c8_4,exec_out,exec_cond',hb8_0,Option.bind_some,brB_true,brB_false,exec_skip,exec_exit,kp8_1,c8_6,exec_block,t8_5 S26 h26,blockK_normal,blockK_ret,blockK_eq,kp8_0,t8_7]
 rfl
def l8_9 {R:Type} (S26:V4→Int→Option (Int)) (k0:V15→Int→Int→Option R):Nat→V15→Int→Int→Option R
 | 0,_,_,_=>none
 | m+1,x0,x1,x2=>(g8_8 S26 (l8_9 S26 k0 m) k0 x0 x1 x2)
theorem lt8_9 (S26) (h26:(ctr26 S26).holds cl):∀ (m) (x0 x1 x2),iter [1,3,4] (fun env K=>exec cl N c8_8 env K) K m (e3 x0 x1 x2)=l8_9 S26 (fun y0 y1 y2=>K (.exit 0) (e3 y0 y1 y2)) m x0 x1 x2:=by
 intro m
 induction m with
 | zero=>intros; rfl
 | succ m ih=>
   intro x0 x1 x2
   simp only [iter_succ,t8_8 S26 h26,loopK_normal,loopK_exit,loopK_ret,kp8_0,ih]
   rfl
theorem kp8_2 (x0 x1 x2):keep [1,3] (e3 x0 x1 x2)=(e2 x0 x1):=by kernel_rfl
def g8_9 (N:Nat) (S26:V4→Int→Option (Int)) (k0:V15→Int→Option R) (x0:V15) (x1 x2:Int):Option R:=
l8_9 S26 (fun y0 y1 y2=>k0 y0 y1) N x0 x1 x2
theorem t8_9 (S26) (h26:(ctr26 S26).holds cl) (x0 x1 x2):exec cl N c8_9 (e3 x0 x1 x2) K=(g8_9 N S26 (fun y0 y1=>K (.exit 0) (e2 y0 y1)) x0 x1 x2):=by
 simp only [c8_9,exec_out,exec_loop,kp8_0,lt8_9 S26 h26,kp8_2]
 rfl
theorem kp8_3 (x0 x1):keep [1,3] (e2 x0 x1)=(e2 x0 x1):=by kernel_rfl
def g8_11 (k0:Bool→Option R) (x0:V15) (x1:Int):Option R:=
brB (decide ((x0.2.1.length:Int)≤(40:Int))) (k0 (decide (x1≤(1500:Int)))) (k0 false)
theorem t8_11 (x0 x1):exec cl N c8_11 (e2 x0 x1) K=(g8_11 (fun y0=>K .normal [(2,.v .bool y0)]) x0 x1):=by
 kernel_rfl
def g8_12b (N:Nat) (S26:V4→Int→Option (Int)) (k0:Bool→Option R) (x0:V15):Option R:=
(g8_12 (g8_2 (g8_9 N S26 ((g8_11 k0)))) x0)
theorem t8_12b (S26) (h26:(ctr26 S26).holds cl) (x0):exec cl N c8_12 [(0,.v U18 x0)] K=(g8_12b N S26 (fun y0=>K .ret [(2,.v .bool y0)]) x0):=by
 simp only [exec_seq,seqK_normal,seqK_exit,seqK_ret,t8_12,t8_2,c8_10,exec_out,exec_block,t8_9 S26 h26,blockK_normal,blockK_ret,blockK_eq,kp8_3,t8_11,exec_ret]
 rfl
theorem rk8_0 (y0):retK d8 .ret [(2,.v .bool y0)]=some [.v .bool y0]:=by kernel_rfl
def g8 (N:Nat) (S26:V4→Int→Option (Int)) (x0:V15) (k:Bool→Option R):Option R:=
(g8_12b N S26 k x0)
theorem gen8 (S26) (h26:(ctr26 S26).holds cl) (x0) (k:List E→Option R):exec cl N c8 [(0,.v U18 x0)] (fun e env=>(retK d8 e env).bind k)=g8 N S26 x0 (fun r0=>k [.v .bool r0]):=by
 simp only [c8,t8_12b S26 h26,rk8_0,Option.bind_some]
 rfl
def ctr8 (S:V15→Option (Bool)):Ctr:=cv1 8 U18 S fun b=> [.v .bool b]
def S8 (N:Nat) (x0:V15):Option (Bool):=g8 N (S26 N) x0 (fun (r0:Bool)=>some (r0))
def g19_14 (S47:V11→Option V12) (k0:V15→V15→Option R) (x0:V15):Option R:=
(S47 x0.2.1).bind fun r34=>
k0 (x0.1,(r34,x0.2.2)) ([],([],()))
theorem t19_14 (S47) (h47:(ctr47 S47).holds cl) (x0):exec cl N c19_14 [(0,.v U18 x0)] K=(g19_14 S47 (fun y0 y1=>exec cl N (.seq (.seq c19_2 c19_12) (.seq c19_13 .ret)) (e5 y0 y1) K) x0):=by
 rw [←put_eq h47]
 kernel_rfl
def g19_2 (k0:V15→V15→Int→Int→Option R) (x0 x1:V15):Option R:=
k0 x0 x1 (x0.2.1.length:Int) (0:Int)
theorem t19_2 (x0 x1):exec cl N c19_2 (e5 x0 x1) K=(g19_2 (fun y0 y1 y2 y3=>K .normal (e6 y0 y1 y2 y3)) x0 x1):=by
 kernel_rfl
theorem kp19_0 (x0 x1 x2 x3):keep [1,2,10,11] (e6 x0 x1 x2 x3)=(e6 x0 x1 x2 x3):=by kernel_rfl
def g19_3 (k0:V15→V15→Int→Int→Bool→Option R) (x0 x1:V15) (x2 x3:Int):Option R:=
k0 x0 x1 x2 x3 (decide (x3 < x2))
theorem t19_3 (x0 x1 x2 x3):exec cl N c19_3 (e6 x0 x1 x2 x3) K=(g19_3 (fun y0 y1 y2 y3 y4=>K .normal (e7 y0 y1 y2 y3 y4)) x0 x1 x2 x3):=by
 kernel_rfl
theorem kp19_1 (x0 x1 x2 x3 x4):keep [1,2,10,11] (e7 x0 x1 x2 x3 x4)=(e6 x0 x1 x2 x3):=by kernel_rfl
theorem hb19_0 (x0 x1 x2 x3 x4):boolOf? (ent (e7 x0 x1 x2 x3 x4) (.t 12))=some x4:=by kernel_rfl
def g19_7 (S48:V4→Option V6) (k0:V15→V15→Int→Int→Option R) (x0 x1:V15) (x2 x3:Int):Option R:=
if 0≤x3∧x3 < (x0.2.1.length:Int) then
if x3.toNat < x0.2.1.length then
(S48 ((x0.2.1.getD x3.toNat ((0:Int),((0:Int),([],())))).2.2.1)).bind fun r37=>
if 0≤x3∧x3 < (x0.2.1.length:Int) then
if x3.toNat < x0.2.1.length then
k0 (x0.1,((x0.2.1.set x3.toNat ((x0.2.1.getD x3.toNat ((0:Int),((0:Int),([],())))).1,((x0.2.1.getD x3.toNat ((0:Int),((0:Int),([],())))).2.1,(r37,(x0.2.1.getD x3.toNat ((0:Int),((0:Int),([],())))).2.2.2)))),x0.2.2)) x1 x2 x3
else none
else none
else none
else none
theorem t19_7 (S48) (h48:(ctr48 S48).holds cl) (x0 x1 x2 x3):exec cl N c19_7 (e6 x0 x1 x2 x3) K=(g19_7 S48 (fun y0 y1 y2 y3=>K .normal (e6 y0 y1 y2 y3)) x0 x1 x2 x3):=by
 rw [←put_eq h48]
 kernel_rfl
def g19_9 (k0:V15→V15→Int→Int→Option R) (x0 x1:V15) (x2 x3:Int):Option R:=
k0 x0 x1 x2 (IntKind.i64.wrap (x3+(1:Int)))
theorem t19_9 (x0 x1 x2 x3):exec cl N c19_9 (e6 x0 x1 x2 x3) K=(g19_9 (fun y0 y1 y2 y3=>K .normal (e6 y0 y1 y2 y3)) x0 x1 x2 x3):=by
 kernel_rfl
def g19_10 (S48:V4→Option V6) (k0:V15→V15→Int→Int→Option R) (k1:V15→V15→Int→Int→Option R) (x0 x1:V15) (x2 x3:Int):Option R:=
(g19_3 (fun y0 y1 y2 y3 y4=>brB y4 ((g19_7 S48 ((g19_9 k0))) y0 y1 y2 y3) (k1 y0 y1 y2 y3)) x0 x1 x2 x3)
theorem t19_10 (S48) (h48:(ctr48 S48).holds cl) (x0 x1 x2 x3):exec cl N c19_10 (e6 x0 x1 x2 x3) K=(g19_10 S48 (fun y0 y1 y2 y3=>K .normal (e6 y0 y1 y2 y3)) (fun y0 y1 y2 y3=>K (.exit 0) (e6 y0 y1 y2 y3)) x0 x1 x2 x3):=by
 simp only [c19_10,exec_seq,seqK_normal,seqK_exit,seqK_ret,t19_3,c19_4,exec_out,exec_cond',hb19_0,Option.bind_some,brB_true,brB_false,exec_skip,exec_exit,kp19_1,c19_8,exec_block,t19_7 S48 h48,blockK_normal,blockK_ret,blockK_eq,kp19_0,t19_9]
 rfl
def l19_11 {R:Type} (S48:V4→Option V6) (k0:V15→V15→Int→Int→Option R):Nat→V15→V15→Int→Int→Option R
 | 0,_,_,_,_=>none
 | m+1,x0,x1,x2,x3=>(g19_10 S48 (l19_11 S48 k0 m) k0 x0 x1 x2 x3)
theorem lt19_11 (S48) (h48:(ctr48 S48).holds cl):∀ (m) (x0 x1 x2 x3),iter [1,2,10,11] (fun env K=>exec cl N c19_10 env K) K m (e6 x0 x1 x2 x3)=l19_11 S48 (fun y0 y1 y2 y3=>K (.exit 0) (e6 y0 y1 y2 y3)) m x0 x1 x2 x3:=by
 intro m
 induction m with
 | zero=>intros; rfl
 | succ m ih=>
   intro x0 x1 x2 x3
   simp only [iter_succ,t19_10 S48 h48,loopK_normal,loopK_exit,loopK_ret,kp19_0,ih]
   rfl
theorem kp19_2 (x0 x1 x2 x3):keep [1,2] (e6 x0 x1 x2 x3)=(e5 x0 x1):=by kernel_rfl
def g19_11 (N:Nat) (S48:V4→Option V6) (k0:V15→V15→Option R) (x0 x1:V15) (x2 x3:Int):Option R:=
l19_11 S48 (fun y0 y1 y2 y3=>k0 y0 y1) N x0 x1 x2 x3
theorem t19_11 (S48) (h48:(ctr48 S48).holds cl) (x0 x1 x2 x3):exec cl N c19_11 (e6 x0 x1 x2 x3) K=(g19_11 N S48 (fun y0 y1=>K (.exit 0) (e5 y0 y1)) x0 x1 x2 x3):=by
 simp only [c19_11,exec_out,exec_loop,kp19_0,lt19_11 S48 h48,kp19_2]
 rfl
theorem kp19_3 (x0 x1):keep [1,2] (e5 x0 x1)=(e5 x0 x1):=by kernel_rfl
def g19_13 (k0:V15→Option R) (x0 x1:V15):Option R:=
k0 x0
theorem t19_13 (x0 x1):exec cl N c19_13 (e5 x0 x1) K=(g19_13 (fun y0=>K .normal [(2,.loc U18 .no y0)]) x0 x1):=by
 kernel_rfl
def g19_14b (N:Nat) (S47:V11→Option V12) (S48:V4→Option V6) (k0:V15→Option R) (x0:V15):Option R:=
(g19_14 S47 (g19_2 (g19_11 N S48 ((g19_13 k0)))) x0)
theorem t19_14b (S47) (S48) (h47:(ctr47 S47).holds cl) (h48:(ctr48 S48).holds cl) (x0):exec cl N c19_14 [(0,.v U18 x0)] K=(g19_14b N S47 S48 (fun y0=>K .ret [(2,.loc U18 .no y0)]) x0):=by
 simp only [exec_seq,seqK_normal,seqK_exit,seqK_ret,t19_14 S47 h47,t19_2,c19_12,exec_out,exec_block,t19_11 S48 h48,blockK_normal,blockK_ret,blockK_eq,kp19_3,t19_13,exec_ret]
 rfl
theorem rk19_0 (y0):retK d19 .ret [(2,.loc U18 .no y0)]=some [.v U18 y0]:=by kernel_rfl
def g19 (N:Nat) (S47:V11→Option V12) (S48:V4→Option V6) (x0:V15) (k:V15→Option R):Option R:=
(g19_14b N S47 S48 k x0)
theorem gen19 (S47) (S48) (h47:(ctr47 S47).holds cl) (h48:(ctr48 S48).holds cl) (x0) (k:List E→Option R):exec cl N c19 [(0,.v U18 x0)] (fun e env=>(retK d19 e env).bind k)=g19 N S47 S48 x0 (fun r0=>k [.v U18 r0]):=by
 simp only [c19,t19_14b S47 S48 h47 h48,rk19_0,Option.bind_some]
 rfl
def ctr19 (S:V15→Option V16):Ctr:=cv1 19 U18 S fun b=> [.v U18 b]
def S19 (N:Nat) (x0:V15):Option V16:=g19 N (S47 N) (S48 N) x0 (fun (r0:V15)=>some (r0))
def g46_15 (k0:V11→V11→Option R) (x0:V11):Option R:=
k0 x0 []
theorem t46_15 (x0):exec cl N c46_15 [(0,.v U15 x0)] K=(g46_15 (fun y0 y1=>exec cl N (.seq (.seq c46_2 c46_13) (.seq c46_14 .ret)) [(0,.v U15 y0),(3,.own true 57 U13 .no y1)] K) x0):=by
 kernel_rfl
def g46_2 (k0:V11→V11→Int→Int→Option R) (x0 x1:V11):Option R:=
k0 x1 x0 (x0.length:Int) (0:Int)
theorem t46_2 (x0 x1):exec cl N c46_2 [(0,.v U15 x0),(3,.own true 57 U13 .no x1)] K=(g46_2 (fun y0 y1 y2 y3=>K .normal (e8 y0 y1 y2 y3)) x0 x1):=by
 kernel_rfl
theorem kp46_0 (x0 x1 x2 x3):keep [3,6,7,8] (e8 x0 x1 x2 x3)=(e8 x0 x1 x2 x3):=by kernel_rfl
def g46_3 (k0:V11→V11→Int→Int→Bool→Option R) (x0 x1:V11) (x2 x3:Int):Option R:=
k0 x0 x1 x2 x3 (decide (x3 < x2))
theorem t46_3 (x0 x1 x2 x3):exec cl N c46_3 (e8 x0 x1 x2 x3) K=(g46_3 (fun y0 y1 y2 y3 y4=>K .normal (e9 y0 y1 y2 y3 y4)) x0 x1 x2 x3):=by
 kernel_rfl
theorem kp46_1 (x0 x1 x2 x3 x4):keep [3,6,7,8] (e9 x0 x1 x2 x3 x4)=(e8 x0 x1 x2 x3):=by kernel_rfl
theorem hb46_0 (x0 x1 x2 x3 x4):boolOf? (ent (e9 x0 x1 x2 x3 x4) (.t 9))=some x4:=by kernel_rfl
def g46_8 (S48:V4→Option V6) (k0:V11→V11→Int→Int→Option R) (x0 x1:V11) (x2 x3:Int):Option R:=
if 0≤x3∧x3 < (x1.length:Int) then
(S48 ((x1.getD x3.toNat ((0:Int),((0:Int),([],())))).2.2.1)).bind fun r46=>
if x0.length+[((x1.getD x3.toNat ((0:Int),((0:Int),([],())))).1,((x1.getD x3.toNat ((0:Int),((0:Int),([],())))).2.1,(r46,(x1.getD x3.toNat ((0:Int),((0:Int),([],())))).2.2.2)))].length≤3518437208883 then
k0 (x0++[((x1.getD x3.toNat ((0:Int),((0:Int),([],())))).1,((x1.getD x3.toNat ((0:Int),((0:Int),([],())))).2.1,(r46,(x1.getD x3.toNat ((0:Int),((0:Int),([],())))).2.2.2)))]) x1 x2 x3
else none
else none
theorem t46_8 (S48) (h48:(ctr48 S48).holds cl) (x0 x1 x2 x3):exec cl N c46_8 (e8 x0 x1 x2 x3) K=(g46_8 S48 (fun y0 y1 y2 y3=>K .normal (e8 y0 y1 y2 y3)) x0 x1 x2 x3):=by
 rw [←put_eq h48]
 kernel_rfl
def g46_10 (k0:V11→V11→Int→Int→Option R) (x0 x1:V11) (x2 x3:Int):Option R:=
k0 x0 x1 x2 (IntKind.i64.wrap (x3+(1:Int)))
theorem t46_10 (x0 x1 x2 x3):exec cl N c46_10 (e8 x0 x1 x2 x3) K=(g46_10 (fun y0 y1 y2 y3=>K .normal (e8 y0 y1 y2 y3)) x0 x1 x2 x3):=by
 kernel_rfl
def g46_11 (S48:V4→Option V6) (k0:V11→V11→Int→Int→Option R) (k1:V11→V11→Int→Int→Option R) (x0 x1:V11) (x2 x3:Int):Option R:=
(g46_3 (fun y0 y1 y2 y3 y4=>brB y4 ((g46_8 S48 ((g46_10 k0))) y0 y1 y2 y3) (k1 y0 y1 y2 y3)) x0 x1 x2 x3)
theorem t46_11 (S48) (h48:(ctr48 S48).holds cl) (x0 x1 x2 x3):exec cl N c46_11 (e8 x0 x1 x2 x3) K=(g46_11 S48 (fun y0 y1 y2 y3=>K .normal (e8 y0 y1 y2 y3)) (fun y0 y1 y2 y3=>K (.exit 0) (e8 y0 y1 y2 y3)) x0 x1 x2 x3):=by
 simp only [c46_11,exec_seq,seqK_normal,seqK_exit,seqK_ret,t46_3,c46_4,exec_out,exec_cond',hb46_0,Option.bind_some,brB_true,brB_false,exec_skip,exec_exit,kp46_1,c46_9,exec_block,t46_8 S48 h48,blockK_normal,blockK_ret,blockK_eq,kp46_0,t46_10]
 rfl
def l46_12 {R:Type} (S48:V4→Option V6) (k0:V11→V11→Int→Int→Option R):Nat→V11→V11→Int→Int→Option R
 | 0,_,_,_,_=>none
 | m+1,x0,x1,x2,x3=>(g46_11 S48 (l46_12 S48 k0 m) k0 x0 x1 x2 x3)
theorem lt46_12 (S48) (h48:(ctr48 S48).holds cl):∀ (m) (x0 x1 x2 x3),iter [3,6,7,8] (fun env K=>exec cl N c46_11 env K) K m (e8 x0 x1 x2 x3)=l46_12 S48 (fun y0 y1 y2 y3=>K (.exit 0) (e8 y0 y1 y2 y3)) m x0 x1 x2 x3:=by
 intro m
 induction m with
 | zero=>intros; rfl
 | succ m ih=>
   intro x0 x1 x2 x3
   simp only [iter_succ,t46_11 S48 h48,loopK_normal,loopK_exit,loopK_ret,kp46_0,ih]
   rfl
theorem kp46_2 (x0 x1 x2 x3):keep [3] (e8 x0 x1 x2 x3)=(e10 x0):=by kernel_rfl
def g46_12 (N:Nat) (S48:V4→Option V6) (k0:V11→Option R) (x0 x1:V11) (x2 x3:Int):Option R:=
l46_12 S48 (fun y0 y1 y2 y3=>k0 y0) N x0 x1 x2 x3
theorem t46_12 (S48) (h48:(ctr48 S48).holds cl) (x0 x1 x2 x3):exec cl N c46_12 (e8 x0 x1 x2 x3) K=(g46_12 N S48 (fun y0=>K (.exit 0) (e10 y0)) x0 x1 x2 x3):=by
 simp only [c46_12,exec_out,exec_loop,kp46_0,lt46_12 S48 h48,kp46_2]
 rfl
theorem kp46_3 (x0):keep [3] (e10 x0)=(e10 x0):=by kernel_rfl
def g46_14 (k0:V11→Option R) (x0:V11):Option R:=
k0 x0
theorem t46_14 (x0):exec cl N c46_14 (e10 x0) K=(g46_14 (fun y0=>K .normal (e11 y0)) x0):=by
 kernel_rfl
def g46_15b (N:Nat) (S48:V4→Option V6) (k0:V11→Option R) (x0:V11):Option R:=
(g46_15 (g46_2 (g46_12 N S48 ((g46_14 k0)))) x0)
theorem t46_15b (S48) (h48:(ctr48 S48).holds cl) (x0):exec cl N c46_15 [(0,.v U15 x0)] K=(g46_15b N S48 (fun y0=>K .ret (e11 y0)) x0):=by
 simp only [exec_seq,seqK_normal,seqK_exit,seqK_ret,t46_15,t46_2,c46_13,exec_out,exec_block,t46_12 S48 h48,blockK_normal,blockK_ret,blockK_eq,kp46_3,t46_14,exec_ret]
 rfl
theorem rk46_0 (y0):retK d46 .ret (e11 y0)=some [.own true 57 U13 .no y0]:=by kernel_rfl
def g46 (N:Nat) (S48:V4→Option V6) (x0:V11) (k:V11→Option R):Option R:=
(g46_15b N S48 k x0)
theorem gen46 (S48) (h48:(ctr48 S48).holds cl) (x0) (k:List E→Option R):exec cl N c46 [(0,.v U15 x0)] (fun e env=>(retK d46 e env).bind k)=g46 N S48 x0 (fun r0=>k [.own true 57 U13 .no r0]):=by
 simp only [c46,t46_15b S48 h48,rk46_0,Option.bind_some]
 rfl
def ctr46 (S:V11→Option V12):Ctr:=cv1 46 U15 S fun b=> [.own true 57 U13 .no b]
def S46 (N:Nat) (x0:V11):Option V12:=g46 N (S48 N) x0 (fun (r0:V11)=>some (r0))
def g52_2 (k0:Bool→Option R) (x0:V10) (x1:Int):Option R:=
k0 (x0.1==x1)
theorem t52_2 (x0 x1):exec cl N c52_2 [(0,.v U13 x0),(1,.at U2 x1)] K=(g52_2 (fun y0=>exec cl N .ret [(3,.v .bool y0)] K) x0 x1):=by
 kernel_rfl
def g52_2b (k0:Bool→Option R) (x0:V10) (x1:Int):Option R:=
(g52_2 k0 x0 x1)
theorem t52_2b (x0 x1):exec cl N c52_2 [(0,.v U13 x0),(1,.at U2 x1)] K=(g52_2b (fun y0=>K .ret [(3,.v .bool y0)]) x0 x1):=by
 simp only [exec_seq,seqK_normal,seqK_exit,seqK_ret,t52_2,exec_ret]
 rfl
theorem rk52_0 (y0):retK d52 .ret [(3,.v .bool y0)]=some [.v .bool y0]:=by kernel_rfl
def g52 (x0:V10) (x1:Int) (k:Bool→Option R):Option R:=
(g52_2b k x0 x1)
theorem gen52 (x0 x1) (k:List E→Option R):exec cl N c52 [(0,.v U13 x0),(1,.at U2 x1)] (fun e env=>(retK d52 e env).bind k)=g52 x0 x1 (fun r0=>k [.v .bool r0]):=by
 simp only [c52,t52_2b,rk52_0,Option.bind_some]
 rfl
def ctr52 (S:V10→Int→Option (Bool)):Ctr:={A:=V10×Int×Unit,B:=Bool,f:=52,enc:=fun a=> [.v U13 a.1,.at U2 a.2.1],dec:=(decC (decV U13) (decC (decA U2) dec0)),S:=fun a=>S a.1 a.2.1,ent:=fun b=> [.v .bool b],ok:=(decV_cons (T:=U13) (decA_cons (T:=U2) (fun es b h=>dec0_some h)))}
def S52 (N:Nat) (x0:V10) (x1:Int):Option (Bool):=g52 x0 x1 (fun (r0:Bool)=>some (r0))
def g22_2 (S46:V11→Option V12) (S51:V11→V14→Option V12) (S52:V10→Int→Option (Bool)) (k0:V15→Option R) (x0:V15) (x1:Int):Option R:=
(S46 x0.2.1).bind fun r53=>
(S51 r53 (fun (x54:(V10×Unit))=>((S52 x54.1 x1).bind fun b55=>some [.v .bool b55]).bind (unE .bool))).bind fun r56=>
k0 (x0.1,r56,())
theorem t22_2 (S46) (S51) (S52) (h46:(ctr46 S46).holds cl) (h51:(ctr51 S51).holds cl) (h52:(ctr52 S52).holds cl) (x0 x1):exec cl N c22_2 (e12 x0 x1) K=(g22_2 S46 S51 S52 (fun y0=>exec cl N .ret [(4,.loc U18 .no y0)] K) x0 x1):=by
 rw [←put_eq h46]
 rw [←put_eq h51]
 rw [←put_eq h52]
 kernel_rfl
def g22_2b (S46:V11→Option V12) (S51:V11→V14→Option V12) (S52:V10→Int→Option (Bool)) (k0:V15→Option R) (x0:V15) (x1:Int):Option R:=
(g22_2 S46 S51 S52 k0 x0 x1)
theorem t22_2b (S46) (S51) (S52) (h46:(ctr46 S46).holds cl) (h51:(ctr51 S51).holds cl) (h52:(ctr52 S52).holds cl) (x0 x1):exec cl N c22_2 (e12 x0 x1) K=(g22_2b S46 S51 S52 (fun y0=>K .ret [(4,.loc U18 .no y0)]) x0 x1):=by
 simp only [exec_seq,seqK_normal,seqK_exit,seqK_ret,t22_2 S46 S51 S52 h46 h51 h52,exec_ret]
 rfl
theorem rk22_0 (y0):retK d22 .ret [(4,.loc U18 .no y0)]=some [.v U18 y0]:=by kernel_rfl
def g22 (S46:V11→Option V12) (S51:V11→V14→Option V12) (S52:V10→Int→Option (Bool)) (x0:V15) (x1:Int) (k:V15→Option R):Option R:=
(g22_2b S46 S51 S52 k x0 x1)
theorem gen22 (S46) (S51) (S52) (h46:(ctr46 S46).holds cl) (h51:(ctr51 S51).holds cl) (h52:(ctr52 S52).holds cl) (x0 x1) (k:List E→Option R):exec cl N c22 (e12 x0 x1) (fun e env=>(retK d22 e env).bind k)=g22 S46 S51 S52 x0 x1 (fun r0=>k [.v U18 r0]):=by
 simp only [c22,t22_2b S46 S51 S52 h46 h51 h52,rk22_0,Option.bind_some]
 rfl
def ctr22 (S:V15→Int→Option V16):Ctr:=cv2 22 U18 U2 S fun b=> [.v U18 b]
def S22 (N:Nat) (x0:V15) (x1:Int):Option V16:=g22 (S46 N) (S51 N) (S52 N) x0 x1 (fun (r0:V15)=>some (r0))
def g23_14 (k0:Int→V15→V15→V15→Option R) (x0:V15) (x1:Int):Option R:=
k0 x1 x0 ([],([],())) (x0.1,[],())
theorem t23_14 (x0 x1):exec cl N c23_14 (e12 x0 x1) K=(g23_14 (fun y0 y1 y2 y3=>exec cl N (.seq (.seq c23_2 c23_12) (.seq c23_13 .ret)) (e13 y0 y1 y2 y3) K) x0 x1):=by
 kernel_rfl
def g23_2 (k0:Int→V15→V15→V15→Int→Option R) (x0:Int) (x1 x2 x3:V15):Option R:=
k0 x0 x1 x2 x3 (0:Int)
theorem t23_2 (x0 x1 x2 x3):exec cl N c23_2 (e13 x0 x1 x2 x3) K=(g23_2 (fun y0 y1 y2 y3 y4=>K .normal (e14 y0 y1 y2 y3 y4)) x0 x1 x2 x3):=by
 kernel_rfl
theorem kp23_0 (x0 x1 x2 x3 x4):keep [1,2,4,5,6] (e14 x0 x1 x2 x3 x4)=(e14 x0 x1 x2 x3 x4):=by kernel_rfl
def g23_3 (k0:Int→V15→V15→V15→Int→Bool→Option R) (x0:Int) (x1 x2 x3:V15) (x4:Int):Option R:=
k0 x0 x1 x2 x3 x4 (decide (x4 < (x1.2.1.length:Int)))
theorem t23_3 (x0 x1 x2 x3 x4):exec cl N c23_3 (e14 x0 x1 x2 x3 x4) K=(g23_3 (fun y0 y1 y2 y3 y4 y5=>K .normal (e15 y0 y1 y2 y3 y4 y5)) x0 x1 x2 x3 x4):=by
 kernel_rfl
theorem kp23_1 (x0 x1 x2 x3 x4 x5):keep [1,2,4,5,6] (e15 x0 x1 x2 x3 x4 x5)=(e14 x0 x1 x2 x3 x4):=by kernel_rfl
theorem hb23_0 (x0 x1 x2 x3 x4 x5):boolOf? (ent (e15 x0 x1 x2 x3 x4 x5) (.t 14))=some x5:=by kernel_rfl
def g23_5 (k0:Int→V15→V15→V15→Int→Bool→Option R) (x0:Int) (x1 x2 x3:V15) (x4:Int):Option R:=
if 0≤x4∧x4 < (x1.2.1.length:Int) then
k0 x0 x1 x2 x3 x4 ((x1.2.1.getD x4.toNat ((0:Int),((0:Int),([],())))).1 != x0)
else none
theorem t23_5 (x0 x1 x2 x3 x4):exec cl N c23_5 (e14 x0 x1 x2 x3 x4) K=(g23_5 (fun y0 y1 y2 y3 y4 y5=>K .normal (e16 y0 y1 y2 y3 y4 y5)) x0 x1 x2 x3 x4):=by
 kernel_rfl
def g23_6 (k0:Int→V15→V15→V15→Int→Option R) (x0:Int) (x1 x2 x3:V15) (x4:Int) (x5:Bool):Option R:=
if 0≤x4∧x4 < (x1.2.1.length:Int) then
if x3.2.1.length+[(x1.2.1.getD x4.toNat ((0:Int),((0:Int),([],()))))].length≤3518437208883 then
k0 x0 x1 x2 (x3.1,((x3.2.1++[(x1.2.1.getD x4.toNat ((0:Int),((0:Int),([],()))))]),x3.2.2)) x4
else none
else none
theorem t23_6 (x0 x1 x2 x3 x4 x5):exec cl N c23_6 (e16 x0 x1 x2 x3 x4 x5) K=(g23_6 (fun y0 y1 y2 y3 y4=>K .normal (e14 y0 y1 y2 y3 y4)) x0 x1 x2 x3 x4 x5):=by
 kernel_rfl
theorem kp23_2 (x0 x1 x2 x3 x4 x5):keep [1,2,4,5,6] (e16 x0 x1 x2 x3 x4 x5)=(e14 x0 x1 x2 x3 x4):=by kernel_rfl
theorem hb23_1 (x0 x1 x2 x3 x4 x5):boolOf? (ent (e16 x0 x1 x2 x3 x4 x5) (.t 24))=some x5:=by kernel_rfl
def g23_8 (k0:Int→V15→V15→V15→Int→Option R) (x0:Int) (x1 x2 x3:V15) (x4:Int):Option R:=
(g23_5 (fun y0 y1 y2 y3 y4 y5=>brB y5 (g23_6 k0 y0 y1 y2 y3 y4 y5) (k0 y0 y1 y2 y3 y4)) x0 x1 x2 x3 x4)
theorem t23_8 (x0 x1 x2 x3 x4):exec cl N c23_8 (e14 x0 x1 x2 x3 x4) K=(g23_8 (fun y0 y1 y2 y3 y4=>K .normal (e14 y0 y1 y2 y3 y4)) x0 x1 x2 x3 x4):=by
 simp only [c23_8,exec_out,exec_block,exec_seq,seqK_normal,seqK_exit,seqK_ret,t23_5,c23_7,exec_cond',hb23_1,Option.bind_some,brB_true,brB_false,t23_6,exec_skip,kp23_0,kp23_2,blockK_normal,blockK_ret,blockK_eq]
 rfl
def g23_9 (k0:Int→V15→V15→V15→Int→Option R) (x0:Int) (x1 x2 x3:V15) (x4:Int):Option R:=
k0 x0 x1 x2 x3 (IntKind.i64.wrap (x4+(1:Int)))
theorem t23_9 (x0 x1 x2 x3 x4):exec cl N c23_9 (e14 x0 x1 x2 x3 x4) K=(g23_9 (fun y0 y1 y2 y3 y4=>K .normal (e14 y0 y1 y2 y3 y4)) x0 x1 x2 x3 x4):=by
 kernel_rfl
def g23_10 (k0:Int→V15→V15→V15→Int→Option R) (k1:Int→V15→V15→V15→Int→Option R) (x0:Int) (x1 x2 x3:V15) (x4:Int):Option R:=
(g23_3 (fun y0 y1 y2 y3 y4 y5=>brB y5 ((g23_8 (g23_9 k0)) y0 y1 y2 y3 y4) (k1 y0 y1 y2 y3 y4)) x0 x1 x2 x3 x4)
theorem t23_10 (x0 x1 x2 x3 x4):exec cl N c23_10 (e14 x0 x1 x2 x3 x4) K=(g23_10 (fun y0 y1 y2 y3 y4=>K .normal (e14 y0 y1 y2 y3 y4)) (fun y0 y1 y2 y3 y4=>K (.exit 0) (e14 y0 y1 y2 y3 y4)) x0 x1 x2 x3 x4):=by
 simp only [c23_10,exec_seq,seqK_normal,seqK_exit,seqK_ret,t23_3,c23_4,exec_out,exec_cond',hb23_0,Option.bind_some,brB_true,brB_false,exec_skip,exec_exit,kp23_1,t23_8,t23_9]
 rfl
def l23_11 {R:Type} (k0:Int→V15→V15→V15→Int→Option R):Nat→Int→V15→V15→V15→Int→Option R
 | 0,_,_,_,_,_=>none
 | m+1,x0,x1,x2,x3,x4=>(g23_10 (l23_11 k0 m) k0 x0 x1 x2 x3 x4)
theorem lt23_11:∀ (m) (x0 x1 x2 x3 x4),iter [1,2,4,5,6] (fun env K=>exec cl N c23_10 env K) K m (e14 x0 x1 x2 x3 x4)=l23_11 (fun y0 y1 y2 y3 y4=>K (.exit 0) (e14 y0 y1 y2 y3 y4)) m x0 x1 x2 x3 x4:=by
 intro m
 induction m with
 | zero=>intros; rfl
 | succ m ih=>
   intro x0 x1 x2 x3 x4
   simp only [iter_succ,t23_10,loopK_normal,loopK_exit,loopK_ret,kp23_0,ih]
   rfl
theorem kp23_3 (x0 x1 x2 x3 x4):keep [4,5] (e14 x0 x1 x2 x3 x4)=(e17 x2 x3):=by kernel_rfl
def g23_11 (N:Nat) (k0:V15→V15→Option R) (x0:Int) (x1 x2 x3:V15) (x4:Int):Option R:=
l23_11 (fun y0 y1 y2 y3 y4=>k0 y2 y3) N x0 x1 x2 x3 x4
theorem t23_11 (x0 x1 x2 x3 x4):exec cl N c23_11 (e14 x0 x1 x2 x3 x4) K=(g23_11 N (fun y0 y1=>K (.exit 0) (e17 y0 y1)) x0 x1 x2 x3 x4):=by
 simp only [c23_11,exec_out,exec_loop,kp23_0,lt23_11,kp23_3]
 rfl
theorem kp23_4 (x0 x1):keep [4,5] (e17 x0 x1)=(e17 x0 x1):=by kernel_rfl
def g23_13 (k0:V15→Option R) (x0 x1:V15):Option R:=
k0 x1
theorem t23_13 (x0 x1):exec cl N c23_13 (e17 x0 x1) K=(g23_13 (fun y0=>K .normal [(4,.loc U18 .no y0)]) x0 x1):=by
 kernel_rfl
def g23_14b (N:Nat) (k0:V15→Option R) (x0:V15) (x1:Int):Option R:=
(g23_14 (g23_2 (g23_11 N ((g23_13 k0)))) x0 x1)
theorem t23_14b (x0 x1):exec cl N c23_14 (e12 x0 x1) K=(g23_14b N (fun y0=>K .ret [(4,.loc U18 .no y0)]) x0 x1):=by
 simp only [exec_seq,seqK_normal,seqK_exit,seqK_ret,t23_14,t23_2,c23_12,exec_out,exec_block,t23_11,blockK_normal,blockK_ret,blockK_eq,kp23_4,t23_13,exec_ret]
 rfl
theorem rk23_0 (y0):retK d23 .ret [(4,.loc U18 .no y0)]=some [.v U18 y0]:=by kernel_rfl
def g23 (N:Nat) (x0:V15) (x1:Int) (k:V15→Option R):Option R:=
(g23_14b N k x0 x1)
theorem gen23 (x0 x1) (k:List E→Option R):exec cl N c23 (e12 x0 x1) (fun e env=>(retK d23 e env).bind k)=g23 N x0 x1 (fun r0=>k [.v U18 r0]):=by
 simp only [c23,t23_14b,rk23_0,Option.bind_some]
 rfl
def ctr23 (S:V15→Int→Option V16):Ctr:=cv2 23 U18 U2 S fun b=> [.v U18 b]
def S23 (N:Nat) (x0:V15) (x1:Int):Option V16:=g23 N x0 x1 (fun (r0:V15)=>some (r0))
def g41_0 (k0:V4→V4→Option R) (x0 x1:V4):Option R:=
k0 x0 x1
theorem t41_0 (x0 x1):exec cl N c41_0 (e18 x0 x1) K=(g41_0 (fun y0 y1=>K .normal (e18 y0 y1)) x0 x1):=by
 kernel_rfl
def g41_1 (k0:V4→V4→Bool→Option R) (x0 x1:V4):Option R:=
k0 x0 x1 ((x0.length:Int) != (x1.length:Int))
theorem t41_1 (x0 x1):exec cl N c41_1 (e18 x0 x1) K=(g41_1 (fun y0 y1 y2=>K .normal (e19 y0 y1 y2)) x0 x1):=by
 kernel_rfl
def g41_2 (k0:Bool→Option R) (x0 x1:V4) (x2:Bool):Option R:=
k0 false
theorem t41_2 (x0 x1 x2):exec cl N c41_2 (e19 x0 x1 x2) K=(g41_2 (fun y0=>K .normal [(4,.v .bool y0)]) x0 x1 x2):=by
 kernel_rfl
theorem kp41_0 (x0):keep [0,1,4] [(4,.v .bool x0)]=(e20 x0):=by kernel_rfl
theorem kp41_1 (x0 x1 x2):keep [0,1,4] (e19 x0 x1 x2)=[(0,.v U0 x0),(1,.v U0 x1),(4,.dead)]:=by kernel_rfl
theorem hb41_0 (x0 x1 x2):boolOf? (ent (e19 x0 x1 x2) (.t 10))=some x2:=by kernel_rfl
def g41_4 (k0:V4→V4→Int→Option R) (x0 x1:V4):Option R:=
k0 x0 x1 (0:Int)
theorem t41_4 (x0 x1):exec cl N c41_4 [(0,.v U0 x0),(1,.v U0 x1),(4,.dead)] K=(g41_4 (fun y0 y1 y2=>K .normal (e21 y0 y1 y2)) x0 x1):=by
 kernel_rfl
theorem kp41_2 (x0 x1 x2):keep [0,1,5] (e21 x0 x1 x2)=(e21 x0 x1 x2):=by kernel_rfl
def g41_5 (k0:V4→V4→Int→Bool→Option R) (x0 x1:V4) (x2:Int):Option R:=
k0 x0 x1 x2 (decide (x2 < (x0.length:Int)))
theorem t41_5 (x0 x1 x2):exec cl N c41_5 (e21 x0 x1 x2) K=(g41_5 (fun y0 y1 y2 y3=>K .normal (e22 y0 y1 y2 y3)) x0 x1 x2):=by
 kernel_rfl
theorem kp41_3 (x0 x1 x2 x3):keep [0,1,5] (e22 x0 x1 x2 x3)=(e21 x0 x1 x2):=by kernel_rfl
theorem hb41_1 (x0 x1 x2 x3):boolOf? (ent (e22 x0 x1 x2 x3) (.t 14))=some x3:=by kernel_rfl
def g41_7 (k0:V4→V4→Int→Bool→Option R) (x0 x1:V4) (x2:Int):Option R:=
if 0≤x2∧x2 < (x0.length:Int) then
if 0≤x2∧x2 < (x1.length:Int) then
k0 x0 x1 x2 ((x0.getD x2.toNat []) != (x1.getD x2.toNat []))
else none
else none
theorem t41_7 (x0 x1 x2):exec cl N c41_7 (e21 x0 x1 x2) K=(g41_7 (fun y0 y1 y2 y3=>K .normal (e23 y0 y1 y2 y3)) x0 x1 x2):=by
 kernel_rfl
def g41_8 (k0:Bool→Option R) (x0 x1:V4) (x2:Int) (x3:Bool):Option R:=
k0 false
theorem t41_8 (x0 x1 x2 x3):exec cl N c41_8 (e23 x0 x1 x2 x3) K=(g41_8 (fun y0=>K .normal [(4,.v .bool y0)]) x0 x1 x2 x3):=by
 kernel_rfl
theorem kp41_4 (x0):keep [0,1,4,5] [(4,.v .bool x0)]=(e24 x0):=by kernel_rfl
theorem kp41_5 (x0 x1 x2 x3):keep [0,1,4,5] (e23 x0 x1 x2 x3)=(e25 x0 x1 x2):=by kernel_rfl
theorem hb41_2 (x0 x1 x2 x3):boolOf? (ent (e23 x0 x1 x2 x3) (.t 25))=some x3:=by kernel_rfl
theorem kp41_6 (x0):keep [0,1,4,5] (e24 x0)=(e24 x0):=by kernel_rfl
theorem kp41_7 (x0 x1 x2):keep [0,1,4,5] (e25 x0 x1 x2)=(e25 x0 x1 x2):=by kernel_rfl
def g41_11 (k0:V4→V4→Int→Option R) (x0 x1:V4) (x2:Int):Option R:=
k0 x0 x1 (IntKind.i64.wrap (x2+(1:Int)))
theorem t41_11 (x0 x1 x2):exec cl N c41_11 (e25 x0 x1 x2) K=(g41_11 (fun y0 y1 y2=>K .normal (e21 y0 y1 y2)) x0 x1 x2):=by
 kernel_rfl
def g41_12 (k0:Bool→Option R) (k1:V4→V4→Int→Option R) (k2:V4→V4→Int→Option R) (x0 x1:V4) (x2:Int):Option R:=
(g41_5 (fun y0 y1 y2 y3=>brB y3 ((g41_7 (fun y0 y1 y2 y3=>brB y3 (g41_8 k0 y0 y1 y2 y3) (((g41_11 k1)) y0 y1 y2))) y0 y1 y2) (k2 y0 y1 y2)) x0 x1 x2)
theorem t41_12 (x0 x1 x2):exec cl N c41_12 (e21 x0 x1 x2) K=(g41_12 (fun y0=>K .ret (e24 y0)) (fun y0 y1 y2=>K .normal (e21 y0 y1 y2)) (fun y0 y1 y2=>K (.exit 0) (e21 y0 y1 y2)) x0 x1 x2):=by
 simp only [c41_12,exec_seq,seqK_normal,seqK_exit,seqK_ret,t41_5,c41_6,exec_out,exec_cond',hb41_1,Option.bind_some,brB_true,brB_false,exec_skip,exec_exit,kp41_3,c41_10,exec_block,t41_7,c41_9,hb41_2,t41_8,exec_ret,kp41_4,kp41_5,blockK_normal,blockK_ret,blockK_eq,kp41_6,kp41_7,t41_11]
 rfl
def l41_13 {R:Type} (k0:Bool→Option R) (k1:V4→V4→Int→Option R):Nat→V4→V4→Int→Option R
 | 0,_,_,_=>none
 | m+1,x0,x1,x2=>(g41_12 k0 (l41_13 k0 k1 m) k1 x0 x1 x2)
theorem lt41_13:∀ (m) (x0 x1 x2),iter [0,1,5] (fun env K=>exec cl N c41_12 env K) K m (e21 x0 x1 x2)=l41_13 (fun y0=>K .ret (e24 y0)) (fun y0 y1 y2=>K (.exit 0) (e21 y0 y1 y2)) m x0 x1 x2:=by
 intro m
 induction m with
 | zero=>intros; rfl
 | succ m ih=>
   intro x0 x1 x2
   simp only [iter_succ,t41_12,loopK_normal,loopK_exit,loopK_ret,kp41_2,ih]
   rfl
theorem kp41_8 (x0):keep [4] (e24 x0)=[(4,.v .bool x0)]:=by kernel_rfl
theorem kp41_9 (x0 x1 x2):keep [4] (e21 x0 x1 x2)=[(4,.dead)]:=by kernel_rfl
def g41_13 (N:Nat) (k0:Bool→Option R) (k1:Option R) (x0 x1:V4) (x2:Int):Option R:=
l41_13 k0 (fun y0 y1 y2=>k1) N x0 x1 x2
theorem t41_13 (x0 x1 x2):exec cl N c41_13 (e21 x0 x1 x2) K=(g41_13 N (fun y0=>K .ret [(4,.v .bool y0)]) (K (.exit 0) [(4,.dead)]) x0 x1 x2):=by
 simp only [c41_13,exec_out,exec_loop,kp41_2,lt41_13,kp41_8,kp41_9]
 rfl
theorem kp41_10 (x0):keep [4] [(4,.v .bool x0)]=[(4,.v .bool x0)]:=by kernel_rfl
theorem kp41_11:keep [4] [(4,.dead)]=[(4,.dead)]:=by kernel_rfl
def g41_15 (k0:Bool→Option R):Option R:=
k0 true
theorem t41_15:exec cl N c41_15 [(4,.dead)] K=(g41_15 (fun y0=>K .normal [(4,.v .bool y0)])):=by
 kernel_rfl
def g41_16 (N:Nat) (k0:Bool→Option R) (k1:Bool→Option R) (x0 x1:V4):Option R:=
(g41_0 (g41_1 (fun y0 y1 y2=>brB y2 (g41_2 k0 y0 y1 y2) ((g41_4 (g41_13 N k1 (g41_15 k1))) y0 y1))) x0 x1)
theorem t41_16 (x0 x1):exec cl N c41_16 (e18 x0 x1) K=(g41_16 N (fun y0=>K .ret (e20 y0)) (fun y0=>K .ret [(4,.v .bool y0)]) x0 x1):=by
 simp only [c41_16,exec_seq,seqK_normal,seqK_exit,seqK_ret,t41_0,t41_1,c41_3,exec_out,exec_cond',hb41_0,Option.bind_some,brB_true,brB_false,t41_2,exec_ret,exec_skip,kp41_0,kp41_1,t41_4,c41_14,exec_block,t41_13,blockK_normal,blockK_ret,blockK_eq,kp41_10,kp41_11,t41_15]
 rfl
theorem rk41_0 (y0):retK d41 .ret (e20 y0)=some [.v .bool y0]:=by kernel_rfl
theorem rk41_1 (y0):retK d41 .ret [(4,.v .bool y0)]=some [.v .bool y0]:=by kernel_rfl
def g41 (N:Nat) (x0 x1:V4) (k:Bool→Option R):Option R:=
(g41_16 N k k x0 x1)
theorem gen41 (x0 x1) (k:List E→Option R):exec cl N c41 (e18 x0 x1) (fun e env=>(retK d41 e env).bind k)=g41 N x0 x1 (fun r0=>k [.v .bool r0]):=by
 simp only [c41,t41_16,rk41_0,rk41_1,Option.bind_some]
 rfl
def ctr41 (S:V4→V4→Option (Bool)):Ctr:=cv2 41 U0 U0 S fun b=> [.v .bool b]
def S41 (N:Nat) (x0:V4) (x1:V4):Option (Bool):=g41 N x0 x1 (fun (r0:Bool)=>some (r0))
def g14_0 (k0:V15→V15→Option R) (x0 x1:V15):Option R:=
k0 x0 x1
theorem t14_0 (x0 x1):exec cl N c14_0 [(0,.v U18 x0),(1,.v U18 x1)] K=(g14_0 (fun y0 y1=>K .normal [(2,.loc U18 .no y0),(3,.loc U18 .no y1)]) x0 x1):=by
 kernel_rfl
def g14_1 (k0:V15→V15→Bool→Option R) (x0 x1:V15):Option R:=
brB (x0.1 != x1.1) (k0 x0 x1 true) (k0 x0 x1 ((x0.2.1.length:Int) != (x1.2.1.length:Int)))
theorem t14_1 (x0 x1):exec cl N c14_1 [(2,.loc U18 .no x0),(3,.loc U18 .no x1)] K=(g14_1 (fun y0 y1 y2=>K .normal (e26 y0 y1 y2)) x0 x1):=by
 kernel_rfl
def g14_2 (k0:Bool→Option R) (x0 x1:V15) (x2:Bool):Option R:=
k0 false
theorem t14_2 (x0 x1 x2):exec cl N c14_2 (e26 x0 x1 x2) K=(g14_2 (fun y0=>K .normal [(4,.v .bool y0)]) x0 x1 x2):=by
 kernel_rfl
theorem kp14_0 (x0):keep [2,3,4] [(4,.v .bool x0)]=(e27 x0):=by kernel_rfl
theorem kp14_1 (x0 x1 x2):keep [2,3,4] (e26 x0 x1 x2)=[(2,.loc U18 .no x0),(3,.loc U18 .no x1),(4,.dead)]:=by kernel_rfl
theorem hb14_0 (x0 x1 x2):boolOf? (ent (e26 x0 x1 x2) (.t 21))=some x2:=by kernel_rfl
def g14_4 (k0:V15→V15→Int→Option R) (x0 x1:V15):Option R:=
k0 x0 x1 (0:Int)
theorem t14_4 (x0 x1):exec cl N c14_4 [(2,.loc U18 .no x0),(3,.loc U18 .no x1),(4,.dead)] K=(g14_4 (fun y0 y1 y2=>K .normal (e28 y0 y1 y2)) x0 x1):=by
 kernel_rfl
theorem kp14_2 (x0 x1 x2):keep [2,3,5] (e28 x0 x1 x2)=(e28 x0 x1 x2):=by kernel_rfl
def g14_5 (k0:V15→V15→Int→Bool→Option R) (x0 x1:V15) (x2:Int):Option R:=
k0 x0 x1 x2 (decide (x2 < (x0.2.1.length:Int)))
theorem t14_5 (x0 x1 x2):exec cl N c14_5 (e28 x0 x1 x2) K=(g14_5 (fun y0 y1 y2 y3=>K .normal (e29 y0 y1 y2 y3)) x0 x1 x2):=by
 kernel_rfl
theorem kp14_3 (x0 x1 x2 x3):keep [2,3,5] (e29 x0 x1 x2 x3)=(e28 x0 x1 x2):=by kernel_rfl
theorem hb14_1 (x0 x1 x2 x3):boolOf? (ent (e29 x0 x1 x2 x3) (.t 26))=some x3:=by kernel_rfl
def g14_11 (S41:V4→V4→Option (Bool)) (k0:V15→V15→Int→Bool→Option R) (x0 x1:V15) (x2:Int):Option R:=
if 0≤x2∧x2 < (x0.2.1.length:Int) then
if 0≤x2∧x2 < (x1.2.1.length:Int) then
brB ((x0.2.1.getD x2.toNat ((0:Int),((0:Int),([],())))).1 != (x1.2.1.getD x2.toNat ((0:Int),((0:Int),([],())))).1) (k0 x0 x1 x2 true) (brB ((x0.2.1.getD x2.toNat ((0:Int),((0:Int),([],())))).2.1 != (x1.2.1.getD x2.toNat ((0:Int),((0:Int),([],())))).2.1) (k0 x0 x1 x2 true) ((S41 ((x0.2.1.getD x2.toNat ((0:Int),((0:Int),([],())))).2.2.1) ((x1.2.1.getD x2.toNat ((0:Int),((0:Int),([],())))).2.2.1)).bind fun r86=>
k0 x0 x1 x2 (!r86)))
else none
else none
theorem t14_11 (S41) (h41:(ctr41 S41).holds cl) (x0 x1 x2):exec cl N c14_11 (e28 x0 x1 x2) K=(g14_11 S41 (fun y0 y1 y2 y3=>exec cl N c14_10 (e30 y0 y1 y2 y3) K) x0 x1 x2):=by
 rw [←put_eq h41]
 kernel_rfl
def g14_9 (k0:Bool→Option R) (x0 x1:V15) (x2:Int) (x3:Bool):Option R:=
k0 false
theorem t14_9 (x0 x1 x2 x3):exec cl N c14_9 (e30 x0 x1 x2 x3) K=(g14_9 (fun y0=>K .normal [(4,.v .bool y0)]) x0 x1 x2 x3):=by
 kernel_rfl
theorem kp14_4 (x0):keep [2,3,4,5] [(4,.v .bool x0)]=(e31 x0):=by kernel_rfl
theorem kp14_5 (x0 x1 x2 x3):keep [2,3,4,5] (e30 x0 x1 x2 x3)=(e32 x0 x1 x2):=by kernel_rfl
theorem hb14_2 (x0 x1 x2 x3):boolOf? (ent (e30 x0 x1 x2 x3) (.t 58))=some x3:=by kernel_rfl
theorem kp14_6 (x0):keep [2,3,4,5] (e31 x0)=(e31 x0):=by kernel_rfl
theorem kp14_7 (x0 x1 x2):keep [2,3,4,5] (e32 x0 x1 x2)=(e32 x0 x1 x2):=by kernel_rfl
def g14_13 (k0:V15→V15→Int→Option R) (x0 x1:V15) (x2:Int):Option R:=
k0 x0 x1 (IntKind.i64.wrap (x2+(1:Int)))
theorem t14_13 (x0 x1 x2):exec cl N c14_13 (e32 x0 x1 x2) K=(g14_13 (fun y0 y1 y2=>K .normal (e28 y0 y1 y2)) x0 x1 x2):=by
 kernel_rfl
def g14_14 (S41:V4→V4→Option (Bool)) (k0:Bool→Option R) (k1:V15→V15→Int→Option R) (k2:V15→V15→Int→Option R) (x0 x1:V15) (x2:Int):Option R:=
(g14_5 (fun y0 y1 y2 y3=>brB y3 ((g14_11 S41 (fun y0 y1 y2 y3=>brB y3 (g14_9 k0 y0 y1 y2 y3) (((g14_13 k1)) y0 y1 y2))) y0 y1 y2) (k2 y0 y1 y2)) x0 x1 x2)
theorem t14_14 (S41) (h41:(ctr41 S41).holds cl) (x0 x1 x2):exec cl N c14_14 (e28 x0 x1 x2) K=(g14_14 S41 (fun y0=>K .ret (e31 y0)) (fun y0 y1 y2=>K .normal (e28 y0 y1 y2)) (fun y0 y1 y2=>K (.exit 0) (e28 y0 y1 y2)) x0 x1 x2):=by
 simp only [c14_14,exec_seq,seqK_normal,seqK_exit,seqK_ret,t14_5,c14_6,exec_out,exec_cond',hb14_1,Option.bind_some,brB_true,brB_false,exec_skip,exec_exit,kp14_3,c14_12,exec_block,t14_11 S41 h41,c14_10,hb14_2,t14_9,exec_ret,kp14_4,kp14_5,blockK_normal,blockK_ret,blockK_eq,kp14_6,kp14_7,t14_13]
 rfl
def l14_15 {R:Type} (S41:V4→V4→Option (Bool)) (k0:Bool→Option R) (k1:V15→V15→Int→Option R):Nat→V15→V15→Int→Option R
 | 0,_,_,_=>none
 | m+1,x0,x1,x2=>(g14_14 S41 k0 (l14_15 S41 k0 k1 m) k1 x0 x1 x2)
theorem lt14_15 (S41) (h41:(ctr41 S41).holds cl):∀ (m) (x0 x1 x2),iter [2,3,5] (fun env K=>exec cl N c14_14 env K) K m (e28 x0 x1 x2)=l14_15 S41 (fun y0=>K .ret (e31 y0)) (fun y0 y1 y2=>K (.exit 0) (e28 y0 y1 y2)) m x0 x1 x2:=by
 intro m
 induction m with
 | zero=>intros; rfl
 | succ m ih=>
   intro x0 x1 x2
   simp only [iter_succ,t14_14 S41 h41,loopK_normal,loopK_exit,loopK_ret,kp14_2,ih]
   rfl
theorem kp14_8 (x0):keep [4] (e31 x0)=[(4,.v .bool x0)]:=by kernel_rfl
theorem kp14_9 (x0 x1 x2):keep [4] (e28 x0 x1 x2)=[(4,.dead)]:=by kernel_rfl
def g14_15 (N:Nat) (S41:V4→V4→Option (Bool)) (k0:Bool→Option R) (k1:Option R) (x0 x1:V15) (x2:Int):Option R:=
l14_15 S41 k0 (fun y0 y1 y2=>k1) N x0 x1 x2
theorem t14_15 (S41) (h41:(ctr41 S41).holds cl) (x0 x1 x2):exec cl N c14_15 (e28 x0 x1 x2) K=(g14_15 N S41 (fun y0=>K .ret [(4,.v .bool y0)]) (K (.exit 0) [(4,.dead)]) x0 x1 x2):=by
 simp only [c14_15,exec_out,exec_loop,kp14_2,lt14_15 S41 h41,kp14_8,kp14_9]
 rfl
theorem kp14_10 (x0):keep [4] [(4,.v .bool x0)]=[(4,.v .bool x0)]:=by kernel_rfl
theorem kp14_11:keep [4] [(4,.dead)]=[(4,.dead)]:=by kernel_rfl
def g14_17 (k0:Bool→Option R):Option R:=
k0 true
theorem t14_17:exec cl N c14_17 [(4,.dead)] K=(g14_17 (fun y0=>K .normal [(4,.v .bool y0)])):=by
 kernel_rfl
def g14_18 (N:Nat) (S41:V4→V4→Option (Bool)) (k0:Bool→Option R) (k1:Bool→Option R) (x0 x1:V15):Option R:=
(g14_0 (g14_1 (fun y0 y1 y2=>brB y2 (g14_2 k0 y0 y1 y2) ((g14_4 (g14_15 N S41 k1 (g14_17 k1))) y0 y1))) x0 x1)
theorem t14_18 (S41) (h41:(ctr41 S41).holds cl) (x0 x1):exec cl N c14_18 [(0,.v U18 x0),(1,.v U18 x1)] K=(g14_18 N S41 (fun y0=>K .ret (e27 y0)) (fun y0=>K .ret [(4,.v .bool y0)]) x0 x1):=by
 simp only [c14_18,exec_seq,seqK_normal,seqK_exit,seqK_ret,t14_0,t14_1,c14_3,exec_out,exec_cond',hb14_0,Option.bind_some,brB_true,brB_false,t14_2,exec_ret,exec_skip,kp14_0,kp14_1,t14_4,c14_16,exec_block,t14_15 S41 h41,blockK_normal,blockK_ret,blockK_eq,kp14_10,kp14_11,t14_17]
 rfl
theorem rk14_0 (y0):retK d14 .ret (e27 y0)=some [.v .bool y0]:=by kernel_rfl
theorem rk14_1 (y0):retK d14 .ret [(4,.v .bool y0)]=some [.v .bool y0]:=by kernel_rfl
def g14 (N:Nat) (S41:V4→V4→Option (Bool)) (x0 x1:V15) (k:Bool→Option R):Option R:=
(g14_18 N S41 k k x0 x1)
theorem gen14 (S41) (h41:(ctr41 S41).holds cl) (x0 x1) (k:List E→Option R):exec cl N c14 [(0,.v U18 x0),(1,.v U18 x1)] (fun e env=>(retK d14 e env).bind k)=g14 N S41 x0 x1 (fun r0=>k [.v .bool r0]):=by
 simp only [c14,t14_18 S41 h41,rk14_0,rk14_1,Option.bind_some]
 rfl
def ctr14 (S:V15→V15→Option (Bool)):Ctr:=cv2 14 U18 U18 S fun b=> [.v .bool b]
def S14 (N:Nat) (x0:V15) (x1:V15):Option (Bool):=g14 N (S41 N) x0 x1 (fun (r0:Bool)=>some (r0))
def g44_16 (k0:V0→Option R) (x0:V1):Option R:=
k0 (x0.map fun b=>(b.toNat:Int))
theorem t44_16 (x0):exec cl N c44_16 [(0,.v .str x0)] K=(g44_16 (fun y0=>exec cl N (.seq (.seq c44_2 c44_14) (.seq c44_15 .ret)) (e33 y0) K) x0):=by
 kernel_rfl
def g44_2 (k0:V0→Int→Int→Option R) (x0:V0):Option R:=
k0 x0 (x0.length:Int) (0:Int)
theorem t44_2 (x0):exec cl N c44_2 (e33 x0) K=(g44_2 (fun y0 y1 y2=>K .normal (e34 y0 y1 y2)) x0):=by
 kernel_rfl
theorem kp44_0 (x0 x1 x2):keep [3,8,9,10] (e34 x0 x1 x2)=(e34 x0 x1 x2):=by kernel_rfl
def g44_3 (k0:V0→Int→Int→Bool→Option R) (x0:V0) (x1 x2:Int):Option R:=
k0 x0 x1 x2 (decide (x2 < x1))
theorem t44_3 (x0 x1 x2):exec cl N c44_3 (e34 x0 x1 x2) K=(g44_3 (fun y0 y1 y2 y3=>K .normal (e35 y0 y1 y2 y3)) x0 x1 x2):=by
 kernel_rfl
theorem kp44_1 (x0 x1 x2 x3):keep [3,8,9,10] (e35 x0 x1 x2 x3)=(e34 x0 x1 x2):=by kernel_rfl
theorem hb44_0 (x0 x1 x2 x3):boolOf? (ent (e35 x0 x1 x2 x3) (.t 11))=some x3:=by kernel_rfl
def g44_9 (k0:V0→Int→Int→Int→Int→Bool→Option R) (x0:V0) (x1 x2:Int):Option R:=
if 0≤x2∧x2 < (x0.length:Int) then
if x2.toNat < x0.length then
let v101:Int:=(x0.getD x2.toNat (0:Int))
brB (decide (v101≥(65:Int))) (k0 x0 x2 v101 x1 x2 (decide (v101≤(90:Int)))) (k0 x0 x2 v101 x1 x2 false)
else none
else none
theorem t44_9 (x0 x1 x2):exec cl N c44_9 (e34 x0 x1 x2) K=(g44_9 (fun y0 y1 y2 y3 y4 y5=>exec cl N c44_8 (e36 y0 y1 y2 y3 y4 y5) K) x0 x1 x2):=by
 kernel_rfl
def g44_7 (k0:V0→Int→Int→Option R) (x0:V0) (x1 x2 x3 x4:Int) (x5:Bool):Option R:=
if 0≤x1∧x1 < (x0.length:Int) then
if x1.toNat < x0.length then
k0 (x0.set x1.toNat (IntKind.u8.wrap ((IntKind.u8.wrap (x2 - (65:Int)))+(97:Int)))) x3 x4
else none
else none
theorem t44_7 (x0 x1 x2 x3 x4 x5):exec cl N c44_7 (e36 x0 x1 x2 x3 x4 x5) K=(g44_7 (fun y0 y1 y2=>K .normal (e34 y0 y1 y2)) x0 x1 x2 x3 x4 x5):=by
 kernel_rfl
theorem kp44_2 (x0 x1 x2 x3 x4 x5):keep [3,8,9,10] (e36 x0 x1 x2 x3 x4 x5)=(e34 x0 x3 x4):=by kernel_rfl
theorem hb44_1 (x0 x1 x2 x3 x4 x5):boolOf? (ent (e36 x0 x1 x2 x3 x4 x5) (.t 20))=some x5:=by kernel_rfl
def g44_10 (k0:V0→Int→Int→Option R) (x0:V0) (x1 x2:Int):Option R:=
(g44_9 (fun y0 y1 y2 y3 y4 y5=>brB y5 (g44_7 k0 y0 y1 y2 y3 y4 y5) (k0 y0 y3 y4)) x0 x1 x2)
theorem t44_10 (x0 x1 x2):exec cl N c44_10 (e34 x0 x1 x2) K=(g44_10 (fun y0 y1 y2=>K .normal (e34 y0 y1 y2)) x0 x1 x2):=by
 simp only [c44_10,exec_out,exec_block,exec_seq,seqK_normal,seqK_exit,seqK_ret,t44_9,c44_8,exec_cond',hb44_1,Option.bind_some,brB_true,brB_false,t44_7,exec_skip,kp44_0,kp44_2,blockK_normal,blockK_ret,blockK_eq]
 rfl
def g44_11 (k0:V0→Int→Int→Option R) (x0:V0) (x1 x2:Int):Option R:=
k0 x0 x1 (IntKind.i64.wrap (x2+(1:Int)))
theorem t44_11 (x0 x1 x2):exec cl N c44_11 (e34 x0 x1 x2) K=(g44_11 (fun y0 y1 y2=>K .normal (e34 y0 y1 y2)) x0 x1 x2):=by
 kernel_rfl
def g44_12 (k0:V0→Int→Int→Option R) (k1:V0→Int→Int→Option R) (x0:V0) (x1 x2:Int):Option R:=
(g44_3 (fun y0 y1 y2 y3=>brB y3 ((g44_10 (g44_11 k0)) y0 y1 y2) (k1 y0 y1 y2)) x0 x1 x2)
theorem t44_12 (x0 x1 x2):exec cl N c44_12 (e34 x0 x1 x2) K=(g44_12 (fun y0 y1 y2=>K .normal (e34 y0 y1 y2)) (fun y0 y1 y2=>K (.exit 0) (e34 y0 y1 y2)) x0 x1 x2):=by
 simp only [c44_12,exec_seq,seqK_normal,seqK_exit,seqK_ret,t44_3,c44_4,exec_out,exec_cond',hb44_0,Option.bind_some,brB_true,brB_false,exec_skip,exec_exit,kp44_1,t44_10,t44_11]
 rfl
def l44_13 {R:Type} (k0:V0→Int→Int→Option R):Nat→V0→Int→Int→Option R
 | 0,_,_,_=>none
 | m+1,x0,x1,x2=>(g44_12 (l44_13 k0 m) k0 x0 x1 x2)
theorem lt44_13:∀ (m) (x0 x1 x2),iter [3,8,9,10] (fun env K=>exec cl N c44_12 env K) K m (e34 x0 x1 x2)=l44_13 (fun y0 y1 y2=>K (.exit 0) (e34 y0 y1 y2)) m x0 x1 x2:=by
 intro m
 induction m with
 | zero=>intros; rfl
 | succ m ih=>
   intro x0 x1 x2
   simp only [iter_succ,t44_12,loopK_normal,loopK_exit,loopK_ret,kp44_0,ih]
   rfl
theorem kp44_3 (x0 x1 x2):keep [3] (e34 x0 x1 x2)=(e33 x0):=by kernel_rfl
def g44_13 (N:Nat) (k0:V0→Option R) (x0:V0) (x1 x2:Int):Option R:=
l44_13 (fun y0 y1 y2=>k0 y0) N x0 x1 x2
theorem t44_13 (x0 x1 x2):exec cl N c44_13 (e34 x0 x1 x2) K=(g44_13 N (fun y0=>K (.exit 0) (e33 y0)) x0 x1 x2):=by
 simp only [c44_13,exec_out,exec_loop,kp44_0,lt44_13,kp44_3]
 rfl
theorem kp44_4 (x0):keep [3] (e33 x0)=(e33 x0):=by kernel_rfl
def g44_15 (k0:V1→Option R) (x0:V0):Option R:=
k0 (x0.map fun n=>UInt8.ofNat n.toNat)
theorem t44_15 (x0):exec cl N c44_15 (e33 x0) K=(g44_15 (fun y0=>K .normal [(2,.v .str y0)]) x0):=by
 kernel_rfl
def g44_16b (N:Nat) (k0:V1→Option R) (x0:V1):Option R:=
(g44_16 (g44_2 (g44_13 N ((g44_15 k0)))) x0)
theorem t44_16b (x0):exec cl N c44_16 [(0,.v .str x0)] K=(g44_16b N (fun y0=>K .ret [(2,.v .str y0)]) x0):=by
 simp only [exec_seq,seqK_normal,seqK_exit,seqK_ret,t44_16,t44_2,c44_14,exec_out,exec_block,t44_13,blockK_normal,blockK_ret,blockK_eq,kp44_4,t44_15,exec_ret]
 rfl
theorem rk44_0 (y0):retK d44 .ret [(2,.v .str y0)]=some [.v .str y0]:=by kernel_rfl
def g44 (N:Nat) (x0:V1) (k:V1→Option R):Option R:=
(g44_16b N k x0)
theorem gen44 (x0) (k:List E→Option R):exec cl N c44 [(0,.v .str x0)] (fun e env=>(retK d44 e env).bind k)=g44 N x0 (fun r0=>k [.v .str r0]):=by
 simp only [c44,t44_16b,rk44_0,Option.bind_some]
 rfl
def ctr44 (S:V1→Option V3):Ctr:=cv1 44 .str S fun b=> [.v .str b]
def S44 (N:Nat) (x0:V1):Option V3:=g44 N x0 (fun (r0:V1)=>some (r0))
def g84_0 (k0:V4→V1→Option R) (x0:V4) (x1:V1):Option R:=
k0 x0 x1
theorem t84_0 (x0 x1):exec cl N c84_0 (e37 x0 x1) K=(g84_0 (fun y0 y1=>K .normal (e37 y0 y1)) x0 x1):=by
 kernel_rfl
def g84_1 (k0:V4→V1→Int→Int→Option R) (x0:V4) (x1:V1):Option R:=
k0 x0 x1 (x0.length:Int) (0:Int)
theorem t84_1 (x0 x1):exec cl N c84_1 (e37 x0 x1) K=(g84_1 (fun y0 y1 y2 y3=>K .normal (e38 y0 y1 y2 y3)) x0 x1):=by
 kernel_rfl
theorem kp84_0 (x0 x1 x2 x3):keep [0,1,7,8] (e38 x0 x1 x2 x3)=(e38 x0 x1 x2 x3):=by kernel_rfl
def g84_2 (k0:V4→V1→Int→Int→Bool→Option R) (x0:V4) (x1:V1) (x2 x3:Int):Option R:=
k0 x0 x1 x2 x3 (decide (x3 < x2))
theorem t84_2 (x0 x1 x2 x3):exec cl N c84_2 (e38 x0 x1 x2 x3) K=(g84_2 (fun y0 y1 y2 y3 y4=>K .normal (e39 y0 y1 y2 y3 y4)) x0 x1 x2 x3):=by
 kernel_rfl
theorem kp84_1 (x0 x1 x2 x3 x4):keep [0,1,7,8] (e39 x0 x1 x2 x3 x4)=(e38 x0 x1 x2 x3):=by kernel_rfl
theorem hb84_0 (x0 x1 x2 x3 x4):boolOf? (ent (e39 x0 x1 x2 x3 x4) (.t 9))=some x4:=by kernel_rfl
def g84_8 (k0:V4→V1→Int→Int→Int→Bool→Option R) (x0:V4) (x1:V1) (x2 x3:Int):Option R:=
if 0≤x3∧x3 < (x0.length:Int) then
k0 x0 x1 x3 x2 x3 (x1==(x0.getD x3.toNat []))
else none
theorem t84_8 (x0 x1 x2 x3):exec cl N c84_8 (e38 x0 x1 x2 x3) K=(g84_8 (fun y0 y1 y2 y3 y4 y5=>exec cl N c84_7 (e40 y0 y1 y2 y3 y4 y5) K) x0 x1 x2 x3):=by
 kernel_rfl
def g84_6 (k0:Int→Option R) (x0:V4) (x1:V1) (x2 x3 x4:Int) (x5:Bool):Option R:=
k0 x2
theorem t84_6 (x0 x1 x2 x3 x4 x5):exec cl N c84_6 (e40 x0 x1 x2 x3 x4 x5) K=(g84_6 (fun y0=>K .normal [(4,.v U2 y0)]) x0 x1 x2 x3 x4 x5):=by
 kernel_rfl
theorem kp84_2 (x0):keep [0,1,4,7,8] [(4,.v U2 x0)]=(e41 x0):=by kernel_rfl
theorem kp84_3 (x0 x1 x2 x3 x4 x5):keep [0,1,4,7,8] (e40 x0 x1 x2 x3 x4 x5)=(e42 x0 x1 x3 x4):=by kernel_rfl
theorem hb84_1 (x0 x1 x2 x3 x4 x5):boolOf? (ent (e40 x0 x1 x2 x3 x4 x5) (.t 16))=some x5:=by kernel_rfl
theorem kp84_4 (x0):keep [0,1,4,7,8] (e41 x0)=(e41 x0):=by kernel_rfl
theorem kp84_5 (x0 x1 x2 x3):keep [0,1,4,7,8] (e42 x0 x1 x2 x3)=(e42 x0 x1 x2 x3):=by kernel_rfl
def g84_10 (k0:V4→V1→Int→Int→Option R) (x0:V4) (x1:V1) (x2 x3:Int):Option R:=
k0 x0 x1 x2 (IntKind.i64.wrap (x3+(1:Int)))
theorem t84_10 (x0 x1 x2 x3):exec cl N c84_10 (e42 x0 x1 x2 x3) K=(g84_10 (fun y0 y1 y2 y3=>K .normal (e38 y0 y1 y2 y3)) x0 x1 x2 x3):=by
 kernel_rfl
def g84_11 (k0:Int→Option R) (k1:V4→V1→Int→Int→Option R) (k2:V4→V1→Int→Int→Option R) (x0:V4) (x1:V1) (x2 x3:Int):Option R:=
(g84_2 (fun y0 y1 y2 y3 y4=>brB y4 ((g84_8 (fun y0 y1 y2 y3 y4 y5=>brB y5 (g84_6 k0 y0 y1 y2 y3 y4 y5) (((g84_10 k1)) y0 y1 y3 y4))) y0 y1 y2 y3) (k2 y0 y1 y2 y3)) x0 x1 x2 x3)
theorem t84_11 (x0 x1 x2 x3):exec cl N c84_11 (e38 x0 x1 x2 x3) K=(g84_11 (fun y0=>K .ret (e41 y0)) (fun y0 y1 y2 y3=>K .normal (e38 y0 y1 y2 y3)) (fun y0 y1 y2 y3=>K (.exit 0) (e38 y0 y1 y2 y3)) x0 x1 x2 x3):=by
 simp only [c84_11,exec_seq,seqK_normal,seqK_exit,seqK_ret,t84_2,c84_3,exec_out,exec_cond',hb84_0,Option.bind_some,brB_true,brB_false,exec_skip,exec_exit,kp84_1,c84_9,exec_block,t84_8,c84_7,hb84_1,t84_6,exec_ret,kp84_2,kp84_3,blockK_normal,blockK_ret,blockK_eq,kp84_4,kp84_5,t84_10]
 rfl
def l84_12 {R:Type} (k0:Int→Option R) (k1:V4→V1→Int→Int→Option R):Nat→V4→V1→Int→Int→Option R
 | 0,_,_,_,_=>none
 | m+1,x0,x1,x2,x3=>(g84_11 k0 (l84_12 k0 k1 m) k1 x0 x1 x2 x3)
theorem lt84_12:∀ (m) (x0 x1 x2 x3),iter [0,1,7,8] (fun env K=>exec cl N c84_11 env K) K m (e38 x0 x1 x2 x3)=l84_12 (fun y0=>K .ret (e41 y0)) (fun y0 y1 y2 y3=>K (.exit 0) (e38 y0 y1 y2 y3)) m x0 x1 x2 x3:=by
 intro m
 induction m with
 | zero=>intros; rfl
 | succ m ih=>
   intro x0 x1 x2 x3
   simp only [iter_succ,t84_11,loopK_normal,loopK_exit,loopK_ret,kp84_0,ih]
   rfl
theorem kp84_6 (x0):keep [4] (e41 x0)=[(4,.v U2 x0)]:=by kernel_rfl
theorem kp84_7 (x0 x1 x2 x3):keep [4] (e38 x0 x1 x2 x3)=[(4,.dead)]:=by kernel_rfl
def g84_12 (N:Nat) (k0:Int→Option R) (k1:Option R) (x0:V4) (x1:V1) (x2 x3:Int):Option R:=
l84_12 k0 (fun y0 y1 y2 y3=>k1) N x0 x1 x2 x3
theorem t84_12 (x0 x1 x2 x3):exec cl N c84_12 (e38 x0 x1 x2 x3) K=(g84_12 N (fun y0=>K .ret [(4,.v U2 y0)]) (K (.exit 0) [(4,.dead)]) x0 x1 x2 x3):=by
 simp only [c84_12,exec_out,exec_loop,kp84_0,lt84_12,kp84_6,kp84_7]
 rfl
theorem kp84_8 (x0):keep [4] [(4,.v U2 x0)]=[(4,.v U2 x0)]:=by kernel_rfl
theorem kp84_9:keep [4] [(4,.dead)]=[(4,.dead)]:=by kernel_rfl
def g84_14 (k0:Int→Option R):Option R:=
k0 (-1:Int)
theorem t84_14:exec cl N c84_14 [(4,.dead)] K=(g84_14 (fun y0=>K .normal [(4,.v U2 y0)])):=by
 kernel_rfl
def g84_15 (N:Nat) (k0:Int→Option R) (x0:V4) (x1:V1):Option R:=
(g84_0 (g84_1 (g84_12 N k0 (g84_14 k0))) x0 x1)
theorem t84_15 (x0 x1):exec cl N c84_15 (e37 x0 x1) K=(g84_15 N (fun y0=>K .ret [(4,.v U2 y0)]) x0 x1):=by
 simp only [c84_15,exec_seq,seqK_normal,seqK_exit,seqK_ret,t84_0,t84_1,c84_13,exec_out,exec_block,t84_12,blockK_normal,blockK_ret,blockK_eq,kp84_8,kp84_9,t84_14,exec_ret]
 rfl
theorem rk84_0 (y0):retK d84 .ret [(4,.v U2 y0)]=some [.v U2 y0]:=by kernel_rfl
def g84 (N:Nat) (x0:V4) (x1:V1) (k:Int→Option R):Option R:=
(g84_15 N k x0 x1)
theorem gen84 (x0 x1) (k:List E→Option R):exec cl N c84 (e37 x0 x1) (fun e env=>(retK d84 e env).bind k)=g84 N x0 x1 (fun r0=>k [.v U2 r0]):=by
 simp only [c84,t84_15,rk84_0,Option.bind_some]
 rfl
def ctr84 (S:V4→V1→Option (Int)):Ctr:=cv2 84 U0 .str S fun b=> [.v U2 b]
def S84 (N:Nat) (x0:V4) (x1:V1):Option (Int):=g84 N x0 x1 (fun (r0:Int)=>some (r0))
def g67_2 (S84:V4→V1→Option (Int)) (k0:Bool→Option R) (x0:V4) (x1:V1):Option R:=
(S84 x0 x1).bind fun r121=>
k0 (decide (r121≥(0:Int)))
theorem t67_2 (S84) (h84:(ctr84 S84).holds cl) (x0 x1):exec cl N c67_2 (e37 x0 x1) K=(g67_2 S84 (fun y0=>exec cl N .ret [(4,.v .bool y0)] K) x0 x1):=by
 rw [←put_eq h84]
 kernel_rfl
def g67_2b (S84:V4→V1→Option (Int)) (k0:Bool→Option R) (x0:V4) (x1:V1):Option R:=
(g67_2 S84 k0 x0 x1)
theorem t67_2b (S84) (h84:(ctr84 S84).holds cl) (x0 x1):exec cl N c67_2 (e37 x0 x1) K=(g67_2b S84 (fun y0=>K .ret [(4,.v .bool y0)]) x0 x1):=by
 simp only [exec_seq,seqK_normal,seqK_exit,seqK_ret,t67_2 S84 h84,exec_ret]
 rfl
theorem rk67_0 (y0):retK d67 .ret [(4,.v .bool y0)]=some [.v .bool y0]:=by kernel_rfl
def g67 (S84:V4→V1→Option (Int)) (x0:V4) (x1:V1) (k:Bool→Option R):Option R:=
(g67_2b S84 k x0 x1)
theorem gen67 (S84) (h84:(ctr84 S84).holds cl) (x0 x1) (k:List E→Option R):exec cl N c67 (e37 x0 x1) (fun e env=>(retK d67 e env).bind k)=g67 S84 x0 x1 (fun r0=>k [.v .bool r0]):=by
 simp only [c67,t67_2b S84 h84,rk67_0,Option.bind_some]
 rfl
def ctr67 (S:V4→V1→Option (Bool)):Ctr:=cv2 67 U0 .str S fun b=> [.v .bool b]
def S67 (N:Nat) (x0:V4) (x1:V1):Option (Bool):=g67 (S84 N) x0 x1 (fun (r0:Bool)=>some (r0))
def g45_2 (S67:V4→V1→Option (Bool)) (k0:Bool→Option R) (x0:V10) (x1:V1):Option R:=
brB ((x0.2.2.1.length:Int)==(0:Int)) (k0 true) ((S67 x0.2.2.1 x1).bind fun r125=>
k0 r125)
theorem t45_2 (S67) (h67:(ctr67 S67).holds cl) (x0 x1):exec cl N c45_2 [(0,.v U13 x0),(1,.v .str x1)] K=(g45_2 S67 (fun y0=>exec cl N .ret [(4,.v .bool y0)] K) x0 x1):=by
 rw [←put_eq h67]
 kernel_rfl
def g45_2b (S67:V4→V1→Option (Bool)) (k0:Bool→Option R) (x0:V10) (x1:V1):Option R:=
(g45_2 S67 k0 x0 x1)
theorem t45_2b (S67) (h67:(ctr67 S67).holds cl) (x0 x1):exec cl N c45_2 [(0,.v U13 x0),(1,.v .str x1)] K=(g45_2b S67 (fun y0=>K .ret [(4,.v .bool y0)]) x0 x1):=by
 simp only [exec_seq,seqK_normal,seqK_exit,seqK_ret,t45_2 S67 h67,exec_ret]
 rfl
theorem rk45_0 (y0):retK d45 .ret [(4,.v .bool y0)]=some [.v .bool y0]:=by kernel_rfl
def g45 (S67:V4→V1→Option (Bool)) (x0:V10) (x1:V1) (k:Bool→Option R):Option R:=
(g45_2b S67 k x0 x1)
theorem gen45 (S67) (h67:(ctr67 S67).holds cl) (x0 x1) (k:List E→Option R):exec cl N c45 [(0,.v U13 x0),(1,.v .str x1)] (fun e env=>(retK d45 e env).bind k)=g45 S67 x0 x1 (fun r0=>k [.v .bool r0]):=by
 simp only [c45,t45_2b S67 h67,rk45_0,Option.bind_some]
 rfl
def ctr45 (S:V10→V1→Option (Bool)):Ctr:=cv2 45 U13 .str S fun b=> [.v .bool b]
def S45 (N:Nat) (x0:V10) (x1:V1):Option (Bool):=g45 (S67 N) x0 x1 (fun (r0:Bool)=>some (r0))
def g17_17 (S44:V1→Option V3) (k0:Int→V1→V15→Int→Bool→Option R) (x0:V15) (x1:Int) (x2:V1):Option R:=
(S44 x2).bind fun r130=>
k0 x1 r130 x0 (0:Int) false
theorem t17_17 (S44) (h44:(ctr44 S44).holds cl) (x0 x1 x2):exec cl N c17_17 (e43 x0 x1 x2) K=(g17_17 S44 (fun y0 y1 y2 y3 y4=>exec cl N (.seq (.seq c17_3 c17_15) (.seq c17_16 .ret)) [(1,.v U2 y0),(2,.v .str y1),(3,.loc U18 .no y2),(8,.v U2 y3),(9,.v .bool y4)] K) x0 x1 x2):=by
 rw [←put_eq h44]
 kernel_rfl
def g17_3 (k0:Int→V1→Int→Bool→V11→Int→Int→Option R) (x0:Int) (x1:V1) (x2:V15) (x3:Int) (x4:Bool):Option R:=
k0 x0 x1 x3 x4 x2.2.1 (x2.2.1.length:Int) (0:Int)
theorem t17_3 (x0 x1 x2 x3 x4):exec cl N c17_3 [(1,.v U2 x0),(2,.v .str x1),(3,.loc U18 .no x2),(8,.v U2 x3),(9,.v .bool x4)] K=(g17_3 (fun y0 y1 y2 y3 y4 y5 y6=>K .normal (e44 y0 y1 y2 y3 y4 y5 y6)) x0 x1 x2 x3 x4):=by
 kernel_rfl
theorem kp17_0 (x0 x1 x2 x3 x4 x5 x6):keep [1,2,8,9,15,16,17] (e44 x0 x1 x2 x3 x4 x5 x6)=(e44 x0 x1 x2 x3 x4 x5 x6):=by kernel_rfl
def g17_4 (k0:Int→V1→Int→Bool→V11→Int→Int→Bool→Option R) (x0:Int) (x1:V1) (x2:Int) (x3:Bool) (x4:V11) (x5 x6:Int):Option R:=
k0 x0 x1 x2 x3 x4 x5 x6 (decide (x6 < x5))
theorem t17_4 (x0 x1 x2 x3 x4 x5 x6):exec cl N c17_4 (e44 x0 x1 x2 x3 x4 x5 x6) K=(g17_4 (fun y0 y1 y2 y3 y4 y5 y6 y7=>K .normal (e45 y0 y1 y2 y3 y4 y5 y6 y7)) x0 x1 x2 x3 x4 x5 x6):=by
 kernel_rfl
theorem kp17_1 (x0 x1 x2 x3 x4 x5 x6 x7):keep [1,2,8,9,15,16,17] (e45 x0 x1 x2 x3 x4 x5 x6 x7)=(e44 x0 x1 x2 x3 x4 x5 x6):=by kernel_rfl
theorem hb17_0 (x0 x1 x2 x3 x4 x5 x6 x7):boolOf? (ent (e45 x0 x1 x2 x3 x4 x5 x6 x7) (.t 18))=some x7:=by kernel_rfl
def g17_10 (S45:V10→V1→Option (Bool)) (k0:Int→V1→Int→Bool→V10→V11→Int→Int→Bool→Option R) (x0:Int) (x1:V1) (x2:Int) (x3:Bool) (x4:V11) (x5 x6:Int):Option R:=
if 0≤x6∧x6 < (x4.length:Int) then
brB ((x4.getD x6.toNat ((0:Int),((0:Int),([],())))).1==x0) ((S45 (x4.getD x6.toNat ((0:Int),((0:Int),([],())))) x1).bind fun r133=>
brB r133 (brB (!x3) (k0 x0 x1 x2 x3 (x4.getD x6.toNat ((0:Int),((0:Int),([],())))) x4 x5 x6 true) (k0 x0 x1 x2 x3 (x4.getD x6.toNat ((0:Int),((0:Int),([],())))) x4 x5 x6 (decide ((x4.getD x6.toNat ((0:Int),((0:Int),([],())))).2.1 < x2)))) (k0 x0 x1 x2 x3 (x4.getD x6.toNat ((0:Int),((0:Int),([],())))) x4 x5 x6 false)) (k0 x0 x1 x2 x3 (x4.getD x6.toNat ((0:Int),((0:Int),([],())))) x4 x5 x6 false)
else none
theorem t17_10 (S45) (h45:(ctr45 S45).holds cl) (x0 x1 x2 x3 x4 x5 x6):exec cl N c17_10 (e44 x0 x1 x2 x3 x4 x5 x6) K=(g17_10 S45 (fun y0 y1 y2 y3 y4 y5 y6 y7 y8=>exec cl N c17_9 (e46 y0 y1 y2 y3 y4 y5 y6 y7 y8) K) x0 x1 x2 x3 x4 x5 x6):=by
 rw [←put_eq h45]
 kernel_rfl
def g17_8 (k0:Int→V1→Int→Bool→V11→Int→Int→Option R) (x0:Int) (x1:V1) (x2:Int) (x3:Bool) (x4:V10) (x5:V11) (x6 x7:Int) (x8:Bool):Option R:=
k0 x0 x1 x4.2.1 true x5 x6 x7
theorem t17_8 (x0 x1 x2 x3 x4 x5 x6 x7 x8):exec cl N c17_8 (e46 x0 x1 x2 x3 x4 x5 x6 x7 x8) K=(g17_8 (fun y0 y1 y2 y3 y4 y5 y6=>K .normal (e44 y0 y1 y2 y3 y4 y5 y6)) x0 x1 x2 x3 x4 x5 x6 x7 x8):=by
 kernel_rfl
theorem kp17_2 (x0 x1 x2 x3 x4 x5 x6 x7 x8):keep [1,2,8,9,15,16,17] (e46 x0 x1 x2 x3 x4 x5 x6 x7 x8)=(e44 x0 x1 x2 x3 x5 x6 x7):=by kernel_rfl
theorem hb17_1 (x0 x1 x2 x3 x4 x5 x6 x7 x8):boolOf? (ent (e46 x0 x1 x2 x3 x4 x5 x6 x7 x8) (.t 39))=some x8:=by kernel_rfl
def g17_11 (S45:V10→V1→Option (Bool)) (k0:Int→V1→Int→Bool→V11→Int→Int→Option R) (x0:Int) (x1:V1) (x2:Int) (x3:Bool) (x4:V11) (x5 x6:Int):Option R:=
(g17_10 S45 (fun y0 y1 y2 y3 y4 y5 y6 y7 y8=>brB y8 (g17_8 k0 y0 y1 y2 y3 y4 y5 y6 y7 y8) (k0 y0 y1 y2 y3 y5 y6 y7)) x0 x1 x2 x3 x4 x5 x6)
theorem t17_11 (S45) (h45:(ctr45 S45).holds cl) (x0 x1 x2 x3 x4 x5 x6):exec cl N c17_11 (e44 x0 x1 x2 x3 x4 x5 x6) K=(g17_11 S45 (fun y0 y1 y2 y3 y4 y5 y6=>K .normal (e44 y0 y1 y2 y3 y4 y5 y6)) x0 x1 x2 x3 x4 x5 x6):=by
 simp only [c17_11,exec_out,exec_block,exec_seq,seqK_normal,seqK_exit,seqK_ret,t17_10 S45 h45,c17_9,exec_cond',hb17_1,Option.bind_some,brB_true,brB_false,t17_8,exec_skip,kp17_0,kp17_2,blockK_normal,blockK_ret,blockK_eq]
 rfl
def g17_12 (k0:Int→V1→Int→Bool→V11→Int→Int→Option R) (x0:Int) (x1:V1) (x2:Int) (x3:Bool) (x4:V11) (x5 x6:Int):Option R:=
k0 x0 x1 x2 x3 x4 x5 (IntKind.i64.wrap (x6+(1:Int)))
theorem t17_12 (x0 x1 x2 x3 x4 x5 x6):exec cl N c17_12 (e44 x0 x1 x2 x3 x4 x5 x6) K=(g17_12 (fun y0 y1 y2 y3 y4 y5 y6=>K .normal (e44 y0 y1 y2 y3 y4 y5 y6)) x0 x1 x2 x3 x4 x5 x6):=by
 kernel_rfl
def g17_13 (S45:V10→V1→Option (Bool)) (k0:Int→V1→Int→Bool→V11→Int→Int→Option R) (k1:Int→V1→Int→Bool→V11→Int→Int→Option R) (x0:Int) (x1:V1) (x2:Int) (x3:Bool) (x4:V11) (x5 x6:Int):Option R:=
(g17_4 (fun y0 y1 y2 y3 y4 y5 y6 y7=>brB y7 ((g17_11 S45 (g17_12 k0)) y0 y1 y2 y3 y4 y5 y6) (k1 y0 y1 y2 y3 y4 y5 y6)) x0 x1 x2 x3 x4 x5 x6)
theorem t17_13 (S45) (h45:(ctr45 S45).holds cl) (x0 x1 x2 x3 x4 x5 x6):exec cl N c17_13 (e44 x0 x1 x2 x3 x4 x5 x6) K=(g17_13 S45 (fun y0 y1 y2 y3 y4 y5 y6=>K .normal (e44 y0 y1 y2 y3 y4 y5 y6)) (fun y0 y1 y2 y3 y4 y5 y6=>K (.exit 0) (e44 y0 y1 y2 y3 y4 y5 y6)) x0 x1 x2 x3 x4 x5 x6):=by
 simp only [c17_13,exec_seq,seqK_normal,seqK_exit,seqK_ret,t17_4,c17_5,exec_out,exec_cond',hb17_0,Option.bind_some,brB_true,brB_false,exec_skip,exec_exit,kp17_1,t17_11 S45 h45,t17_12]
 rfl
def l17_14 {R:Type} (S45:V10→V1→Option (Bool)) (k0:Int→V1→Int→Bool→V11→Int→Int→Option R):Nat→Int→V1→Int→Bool→V11→Int→Int→Option R
 | 0,_,_,_,_,_,_,_=>none
 | m+1,x0,x1,x2,x3,x4,x5,x6=>(g17_13 S45 (l17_14 S45 k0 m) k0 x0 x1 x2 x3 x4 x5 x6)
theorem lt17_14 (S45) (h45:(ctr45 S45).holds cl):∀ (m) (x0 x1 x2 x3 x4 x5 x6),iter [1,2,8,9,15,16,17] (fun env K=>exec cl N c17_13 env K) K m (e44 x0 x1 x2 x3 x4 x5 x6)=l17_14 S45 (fun y0 y1 y2 y3 y4 y5 y6=>K (.exit 0) (e44 y0 y1 y2 y3 y4 y5 y6)) m x0 x1 x2 x3 x4 x5 x6:=by
 intro m
 induction m with
 | zero=>intros; rfl
 | succ m ih=>
   intro x0 x1 x2 x3 x4 x5 x6
   simp only [iter_succ,t17_13 S45 h45,loopK_normal,loopK_exit,loopK_ret,kp17_0,ih]
   rfl
theorem kp17_3 (x0 x1 x2 x3 x4 x5 x6):keep [8,9] (e44 x0 x1 x2 x3 x4 x5 x6)=(e47 x2 x3):=by kernel_rfl
def g17_14 (N:Nat) (S45:V10→V1→Option (Bool)) (k0:Int→Bool→Option R) (x0:Int) (x1:V1) (x2:Int) (x3:Bool) (x4:V11) (x5 x6:Int):Option R:=
l17_14 S45 (fun y0 y1 y2 y3 y4 y5 y6=>k0 y2 y3) N x0 x1 x2 x3 x4 x5 x6
theorem t17_14 (S45) (h45:(ctr45 S45).holds cl) (x0 x1 x2 x3 x4 x5 x6):exec cl N c17_14 (e44 x0 x1 x2 x3 x4 x5 x6) K=(g17_14 N S45 (fun y0 y1=>K (.exit 0) (e47 y0 y1)) x0 x1 x2 x3 x4 x5 x6):=by
 simp only [c17_14,exec_out,exec_loop,kp17_0,lt17_14 S45 h45,kp17_3]
 rfl
theorem kp17_4 (x0 x1):keep [8,9] (e47 x0 x1)=(e47 x0 x1):=by kernel_rfl
def g17_16 (k0:Int→Bool→Option R) (x0:Int) (x1:Bool):Option R:=
k0 x0 x1
theorem t17_16 (x0 x1):exec cl N c17_16 (e47 x0 x1) K=(g17_16 (fun y0 y1=>K .normal (e48 y0 y1)) x0 x1):=by
 kernel_rfl
def g17_17b (N:Nat) (S44:V1→Option V3) (S45:V10→V1→Option (Bool)) (k0:Int→Bool→Option R) (x0:V15) (x1:Int) (x2:V1):Option R:=
(g17_17 S44 (g17_3 (g17_14 N S45 ((g17_16 k0)))) x0 x1 x2)
theorem t17_17b (S44) (S45) (h44:(ctr44 S44).holds cl) (h45:(ctr45 S45).holds cl) (x0 x1 x2):exec cl N c17_17 (e43 x0 x1 x2) K=(g17_17b N S44 S45 (fun y0 y1=>K .ret (e48 y0 y1)) x0 x1 x2):=by
 simp only [exec_seq,seqK_normal,seqK_exit,seqK_ret,t17_17 S44 h44,t17_3,c17_15,exec_out,exec_block,t17_14 S45 h45,blockK_normal,blockK_ret,blockK_eq,kp17_4,t17_16,exec_ret]
 rfl
theorem rk17_0 (y0 y1):retK d17 .ret (e48 y0 y1)=some [.v U2 y0,.v .bool y1]:=by kernel_rfl
def g17 (N:Nat) (S44:V1→Option V3) (S45:V10→V1→Option (Bool)) (x0:V15) (x1:Int) (x2:V1) (k:Int→Bool→Option R):Option R:=
(g17_17b N S44 S45 k x0 x1 x2)
theorem gen17 (S44) (S45) (h44:(ctr44 S44).holds cl) (h45:(ctr45 S45).holds cl) (x0 x1 x2) (k:List E→Option R):exec cl N c17 (e43 x0 x1 x2) (fun e env=>(retK d17 e env).bind k)=g17 N S44 S45 x0 x1 x2 (fun r0 r1=>k [.v U2 r0,.v .bool r1]):=by
 simp only [c17,t17_17b S44 S45 h44 h45,rk17_0,Option.bind_some]
 rfl
def ctr17 (S:V15→Int→V1→Option V2):Ctr:=cv3 17 U18 U2 .str S fun b=> [.v U2 b.1,.v .bool b.2]
def S17 (N:Nat) (x0:V15) (x1:Int) (x2:V1):Option V2:=g17 N (S44 N) (S45 N) x0 x1 x2 (fun (r0:Int) (r1:Bool)=>some (r0,r1))
def g49_16 (k0:V1→V0→Option R) (x0:V1):Option R:=
if 0≤(x0.length:Int)∧(x0.length:Int)≤(x0.length:Int)∧(x0.length:Int)≤((140737488355328:Nat):Int) then
k0 x0 (List.replicate (x0.length:Int).toNat (0:Int))
else none
theorem t49_16 (x0):exec cl N c49_16 [(0,.v .str x0)] K=(g49_16 (fun y0 y1=>exec cl N (.seq (.seq c49_2 c49_14) (.seq c49_15 .ret)) [(0,.v .str y0),(3,.own true 5 U1 .no y1)] K) x0):=by
 kernel_rfl
def g49_2 (k0:V1→V0→Int→Option R) (x0:V1) (x1:V0):Option R:=
k0 x0 x1 (0:Int)
theorem t49_2 (x0 x1):exec cl N c49_2 [(0,.v .str x0),(3,.own true 5 U1 .no x1)] K=(g49_2 (fun y0 y1 y2=>K .normal (e49 y0 y1 y2)) x0 x1):=by
 kernel_rfl
theorem kp49_0 (x0 x1 x2):keep [0,3,4] (e49 x0 x1 x2)=(e49 x0 x1 x2):=by kernel_rfl
def g49_3 (k0:V1→V0→Int→Bool→Option R) (x0:V1) (x1:V0) (x2:Int):Option R:=
k0 x0 x1 x2 (decide (x2 < (x0.length:Int)))
theorem t49_3 (x0 x1 x2):exec cl N c49_3 (e49 x0 x1 x2) K=(g49_3 (fun y0 y1 y2 y3=>K .normal (e50 y0 y1 y2 y3)) x0 x1 x2):=by
 kernel_rfl
theorem kp49_1 (x0 x1 x2 x3):keep [0,3,4] (e50 x0 x1 x2 x3)=(e49 x0 x1 x2):=by kernel_rfl
theorem hb49_0 (x0 x1 x2 x3):boolOf? (ent (e50 x0 x1 x2 x3) (.t 11))=some x3:=by kernel_rfl
def g49_9 (k0:V1→V0→Int→Bool→Option R) (x0:V1) (x1:V0) (x2:Int):Option R:=
if 0≤x2∧x2 < (x0.length:Int) then
let v152:Int:=((x0.getD x2.toNat 0).toNat:Int)
if 0≤x2∧x2 < (x1.length:Int) then
if x2.toNat < x1.length then
if 0≤x2∧x2 < (x0.length:Int) then
brB (decide (((x0.getD x2.toNat 0).toNat:Int)≥(65:Int))) (if 0≤x2∧x2 < (x0.length:Int) then
k0 x0 (x1.set x2.toNat v152) x2 (decide (((x0.getD x2.toNat 0).toNat:Int)≤(90:Int)))
else none) (k0 x0 (x1.set x2.toNat v152) x2 false)
else none
else none
else none
else none
theorem t49_9 (x0 x1 x2):exec cl N c49_9 (e49 x0 x1 x2) K=(g49_9 (fun y0 y1 y2 y3=>exec cl N c49_8 (e51 y0 y1 y2 y3) K) x0 x1 x2):=by
 kernel_rfl
def g49_7 (k0:V1→V0→Int→Option R) (x0:V1) (x1:V0) (x2:Int) (x3:Bool):Option R:=
if 0≤x2∧x2 < (x0.length:Int) then
if 0≤x2∧x2 < (x1.length:Int) then
if x2.toNat < x1.length then
k0 x0 (x1.set x2.toNat (IntKind.u8.wrap ((IntKind.u8.wrap (((x0.getD x2.toNat 0).toNat:Int) - (65:Int)))+(97:Int)))) x2
else none
else none
else none
theorem t49_7 (x0 x1 x2 x3):exec cl N c49_7 (e51 x0 x1 x2 x3) K=(g49_7 (fun y0 y1 y2=>K .normal (e49 y0 y1 y2)) x0 x1 x2 x3):=by
 kernel_rfl
theorem kp49_2 (x0 x1 x2 x3):keep [0,3,4] (e51 x0 x1 x2 x3)=(e49 x0 x1 x2):=by kernel_rfl
theorem hb49_1 (x0 x1 x2 x3):boolOf? (ent (e51 x0 x1 x2 x3) (.t 29))=some x3:=by kernel_rfl
def g49_10 (k0:V1→V0→Int→Option R) (x0:V1) (x1:V0) (x2:Int):Option R:=
(g49_9 (fun y0 y1 y2 y3=>brB y3 (g49_7 k0 y0 y1 y2 y3) (k0 y0 y1 y2)) x0 x1 x2)
theorem t49_10 (x0 x1 x2):exec cl N c49_10 (e49 x0 x1 x2) K=(g49_10 (fun y0 y1 y2=>K .normal (e49 y0 y1 y2)) x0 x1 x2):=by
 simp only [c49_10,exec_out,exec_block,exec_seq,seqK_normal,seqK_exit,seqK_ret,t49_9,c49_8,exec_cond',hb49_1,Option.bind_some,brB_true,brB_false,t49_7,exec_skip,kp49_0,kp49_2,blockK_normal,blockK_ret,blockK_eq]
 rfl
def g49_11 (k0:V1→V0→Int→Option R) (x0:V1) (x1:V0) (x2:Int):Option R:=
k0 x0 x1 (IntKind.i64.wrap (x2+(1:Int)))
theorem t49_11 (x0 x1 x2):exec cl N c49_11 (e49 x0 x1 x2) K=(g49_11 (fun y0 y1 y2=>K .normal (e49 y0 y1 y2)) x0 x1 x2):=by
 kernel_rfl
def g49_12 (k0:V1→V0→Int→Option R) (k1:V1→V0→Int→Option R) (x0:V1) (x1:V0) (x2:Int):Option R:=
(g49_3 (fun y0 y1 y2 y3=>brB y3 ((g49_10 (g49_11 k0)) y0 y1 y2) (k1 y0 y1 y2)) x0 x1 x2)
theorem t49_12 (x0 x1 x2):exec cl N c49_12 (e49 x0 x1 x2) K=(g49_12 (fun y0 y1 y2=>K .normal (e49 y0 y1 y2)) (fun y0 y1 y2=>K (.exit 0) (e49 y0 y1 y2)) x0 x1 x2):=by
 simp only [c49_12,exec_seq,seqK_normal,seqK_exit,seqK_ret,t49_3,c49_4,exec_out,exec_cond',hb49_0,Option.bind_some,brB_true,brB_false,exec_skip,exec_exit,kp49_1,t49_10,t49_11]
 rfl
def l49_13 {R:Type} (k0:V1→V0→Int→Option R):Nat→V1→V0→Int→Option R
 | 0,_,_,_=>none
 | m+1,x0,x1,x2=>(g49_12 (l49_13 k0 m) k0 x0 x1 x2)
theorem lt49_13:∀ (m) (x0 x1 x2),iter [0,3,4] (fun env K=>exec cl N c49_12 env K) K m (e49 x0 x1 x2)=l49_13 (fun y0 y1 y2=>K (.exit 0) (e49 y0 y1 y2)) m x0 x1 x2:=by
 intro m
 induction m with
 | zero=>intros; rfl
 | succ m ih=>
   intro x0 x1 x2
   simp only [iter_succ,t49_12,loopK_normal,loopK_exit,loopK_ret,kp49_0,ih]
   rfl
theorem kp49_3 (x0 x1 x2):keep [3] (e49 x0 x1 x2)=(e52 x1):=by kernel_rfl
def g49_13 (N:Nat) (k0:V0→Option R) (x0:V1) (x1:V0) (x2:Int):Option R:=
l49_13 (fun y0 y1 y2=>k0 y1) N x0 x1 x2
theorem t49_13 (x0 x1 x2):exec cl N c49_13 (e49 x0 x1 x2) K=(g49_13 N (fun y0=>K (.exit 0) (e52 y0)) x0 x1 x2):=by
 simp only [c49_13,exec_out,exec_loop,kp49_0,lt49_13,kp49_3]
 rfl
theorem kp49_4 (x0):keep [3] (e52 x0)=(e52 x0):=by kernel_rfl
def g49_15 (k0:V1→Option R) (x0:V0):Option R:=
k0 (x0.map fun n=>UInt8.ofNat n.toNat)
theorem t49_15 (x0):exec cl N c49_15 (e52 x0) K=(g49_15 (fun y0=>K .normal [(2,.v .str y0)]) x0):=by
 kernel_rfl
def g49_16b (N:Nat) (k0:V1→Option R) (x0:V1):Option R:=
(g49_16 (g49_2 (g49_13 N ((g49_15 k0)))) x0)
theorem t49_16b (x0):exec cl N c49_16 [(0,.v .str x0)] K=(g49_16b N (fun y0=>K .ret [(2,.v .str y0)]) x0):=by
 simp only [exec_seq,seqK_normal,seqK_exit,seqK_ret,t49_16,t49_2,c49_14,exec_out,exec_block,t49_13,blockK_normal,blockK_ret,blockK_eq,kp49_4,t49_15,exec_ret]
 rfl
theorem rk49_0 (y0):retK d49 .ret [(2,.v .str y0)]=some [.v .str y0]:=by kernel_rfl
def g49 (N:Nat) (x0:V1) (k:V1→Option R):Option R:=
(g49_16b N k x0)
theorem gen49 (x0) (k:List E→Option R):exec cl N c49 [(0,.v .str x0)] (fun e env=>(retK d49 e env).bind k)=g49 N x0 (fun r0=>k [.v .str r0]):=by
 simp only [c49,t49_16b,rk49_0,Option.bind_some]
 rfl
def ctr49 (S:V1→Option V3):Ctr:=cv1 49 .str S fun b=> [.v .str b]
def S49 (N:Nat) (x0:V1):Option V3:=g49 N x0 (fun (r0:V1)=>some (r0))
def g50_0 (k0:V4→V1→Option R) (x0:V4) (x1:V1):Option R:=
k0 x0 x1
theorem t50_0 (x0 x1):exec cl N c50_0 (e37 x0 x1) K=(g50_0 (fun y0 y1=>K .normal (e37 y0 y1)) x0 x1):=by
 kernel_rfl
def g50_1 (k0:V4→V1→Int→Option R) (x0:V4) (x1:V1):Option R:=
k0 x0 x1 (0:Int)
theorem t50_1 (x0 x1):exec cl N c50_1 (e37 x0 x1) K=(g50_1 (fun y0 y1 y2=>K .normal (e53 y0 y1 y2)) x0 x1):=by
 kernel_rfl
theorem kp50_0 (x0 x1 x2):keep [0,1,5] (e53 x0 x1 x2)=(e53 x0 x1 x2):=by kernel_rfl
def g50_2 (k0:V4→V1→Int→Bool→Option R) (x0:V4) (x1:V1) (x2:Int):Option R:=
k0 x0 x1 x2 (decide (x2 < (x0.length:Int)))
theorem t50_2 (x0 x1 x2):exec cl N c50_2 (e53 x0 x1 x2) K=(g50_2 (fun y0 y1 y2 y3=>K .normal (e54 y0 y1 y2 y3)) x0 x1 x2):=by
 kernel_rfl
theorem kp50_1 (x0 x1 x2 x3):keep [0,1,5] (e54 x0 x1 x2 x3)=(e53 x0 x1 x2):=by kernel_rfl
theorem hb50_0 (x0 x1 x2 x3):boolOf? (ent (e54 x0 x1 x2 x3) (.t 9))=some x3:=by kernel_rfl
def g50_4 (k0:V4→V1→Int→Bool→Option R) (x0:V4) (x1:V1) (x2:Int):Option R:=
if 0≤x2∧x2 < (x0.length:Int) then
k0 x0 x1 x2 ((x0.getD x2.toNat [])==x1)
else none
theorem t50_4 (x0 x1 x2):exec cl N c50_4 (e53 x0 x1 x2) K=(g50_4 (fun y0 y1 y2 y3=>K .normal (e55 y0 y1 y2 y3)) x0 x1 x2):=by
 kernel_rfl
def g50_5 (k0:Bool→Option R) (x0:V4) (x1:V1) (x2:Int) (x3:Bool):Option R:=
k0 true
theorem t50_5 (x0 x1 x2 x3):exec cl N c50_5 (e55 x0 x1 x2 x3) K=(g50_5 (fun y0=>K .normal [(4,.v .bool y0)]) x0 x1 x2 x3):=by
 kernel_rfl
theorem kp50_2 (x0):keep [0,1,4,5] [(4,.v .bool x0)]=(e24 x0):=by kernel_rfl
theorem kp50_3 (x0 x1 x2 x3):keep [0,1,4,5] (e55 x0 x1 x2 x3)=(e56 x0 x1 x2):=by kernel_rfl
theorem hb50_1 (x0 x1 x2 x3):boolOf? (ent (e55 x0 x1 x2 x3) (.t 17))=some x3:=by kernel_rfl
theorem kp50_4 (x0):keep [0,1,4,5] (e24 x0)=(e24 x0):=by kernel_rfl
theorem kp50_5 (x0 x1 x2):keep [0,1,4,5] (e56 x0 x1 x2)=(e56 x0 x1 x2):=by kernel_rfl
def g50_8 (k0:V4→V1→Int→Option R) (x0:V4) (x1:V1) (x2:Int):Option R:=
k0 x0 x1 (IntKind.i64.wrap (x2+(1:Int)))
theorem t50_8 (x0 x1 x2):exec cl N c50_8 (e56 x0 x1 x2) K=(g50_8 (fun y0 y1 y2=>K .normal (e53 y0 y1 y2)) x0 x1 x2):=by
 kernel_rfl
def g50_9 (k0:Bool→Option R) (k1:V4→V1→Int→Option R) (k2:V4→V1→Int→Option R) (x0:V4) (x1:V1) (x2:Int):Option R:=
(g50_2 (fun y0 y1 y2 y3=>brB y3 ((g50_4 (fun y0 y1 y2 y3=>brB y3 (g50_5 k0 y0 y1 y2 y3) (((g50_8 k1)) y0 y1 y2))) y0 y1 y2) (k2 y0 y1 y2)) x0 x1 x2)
theorem t50_9 (x0 x1 x2):exec cl N c50_9 (e53 x0 x1 x2) K=(g50_9 (fun y0=>K .ret (e24 y0)) (fun y0 y1 y2=>K .normal (e53 y0 y1 y2)) (fun y0 y1 y2=>K (.exit 0) (e53 y0 y1 y2)) x0 x1 x2):=by
 simp only [c50_9,exec_seq,seqK_normal,seqK_exit,seqK_ret,t50_2,c50_3,exec_out,exec_cond',hb50_0,Option.bind_some,brB_true,brB_false,exec_skip,exec_exit,kp50_1,c50_7,exec_block,t50_4,c50_6,hb50_1,t50_5,exec_ret,kp50_2,kp50_3,blockK_normal,blockK_ret,blockK_eq,kp50_4,kp50_5,t50_8]
 rfl
def l50_10 {R:Type} (k0:Bool→Option R) (k1:V4→V1→Int→Option R):Nat→V4→V1→Int→Option R
 | 0,_,_,_=>none
 | m+1,x0,x1,x2=>(g50_9 k0 (l50_10 k0 k1 m) k1 x0 x1 x2)
theorem lt50_10:∀ (m) (x0 x1 x2),iter [0,1,5] (fun env K=>exec cl N c50_9 env K) K m (e53 x0 x1 x2)=l50_10 (fun y0=>K .ret (e24 y0)) (fun y0 y1 y2=>K (.exit 0) (e53 y0 y1 y2)) m x0 x1 x2:=by
 intro m
 induction m with
 | zero=>intros; rfl
 | succ m ih=>
   intro x0 x1 x2
   simp only [iter_succ,t50_9,loopK_normal,loopK_exit,loopK_ret,kp50_0,ih]
   rfl
theorem kp50_6 (x0):keep [4] (e24 x0)=[(4,.v .bool x0)]:=by kernel_rfl
theorem kp50_7 (x0 x1 x2):keep [4] (e53 x0 x1 x2)=[(4,.dead)]:=by kernel_rfl
def g50_10 (N:Nat) (k0:Bool→Option R) (k1:Option R) (x0:V4) (x1:V1) (x2:Int):Option R:=
l50_10 k0 (fun y0 y1 y2=>k1) N x0 x1 x2
theorem t50_10 (x0 x1 x2):exec cl N c50_10 (e53 x0 x1 x2) K=(g50_10 N (fun y0=>K .ret [(4,.v .bool y0)]) (K (.exit 0) [(4,.dead)]) x0 x1 x2):=by
 simp only [c50_10,exec_out,exec_loop,kp50_0,lt50_10,kp50_6,kp50_7]
 rfl
theorem kp50_8 (x0):keep [4] [(4,.v .bool x0)]=[(4,.v .bool x0)]:=by kernel_rfl
theorem kp50_9:keep [4] [(4,.dead)]=[(4,.dead)]:=by kernel_rfl
def g50_12 (k0:Bool→Option R):Option R:=
k0 false
theorem t50_12:exec cl N c50_12 [(4,.dead)] K=(g50_12 (fun y0=>K .normal [(4,.v .bool y0)])):=by
 kernel_rfl
def g50_13 (N:Nat) (k0:Bool→Option R) (x0:V4) (x1:V1):Option R:=
(g50_0 (g50_1 (g50_10 N k0 (g50_12 k0))) x0 x1)
theorem t50_13 (x0 x1):exec cl N c50_13 (e37 x0 x1) K=(g50_13 N (fun y0=>K .ret [(4,.v .bool y0)]) x0 x1):=by
 simp only [c50_13,exec_seq,seqK_normal,seqK_exit,seqK_ret,t50_0,t50_1,c50_11,exec_out,exec_block,t50_10,blockK_normal,blockK_ret,blockK_eq,kp50_8,kp50_9,t50_12,exec_ret]
 rfl
theorem rk50_0 (y0):retK d50 .ret [(4,.v .bool y0)]=some [.v .bool y0]:=by kernel_rfl
def g50 (N:Nat) (x0:V4) (x1:V1) (k:Bool→Option R):Option R:=
(g50_13 N k x0 x1)
theorem gen50 (x0 x1) (k:List E→Option R):exec cl N c50 (e37 x0 x1) (fun e env=>(retK d50 e env).bind k)=g50 N x0 x1 (fun r0=>k [.v .bool r0]):=by
 simp only [c50,t50_13,rk50_0,Option.bind_some]
 rfl
def ctr50 (S:V4→V1→Option (Bool)):Ctr:=cv2 50 U0 .str S fun b=> [.v .bool b]
def S50 (N:Nat) (x0:V4) (x1:V1):Option (Bool):=g50 N x0 x1 (fun (r0:Bool)=>some (r0))
def g21_18 (S49:V1→Option V3) (k0:Int→V15→Int→Bool→V1→Option R) (x0:V15) (x1:Int) (x2:V1):Option R:=
(S49 x2).bind fun r174=>
k0 x1 x0 (0:Int) false r174
theorem t21_18 (S49) (h49:(ctr49 S49).holds cl) (x0 x1 x2):exec cl N c21_18 (e43 x0 x1 x2) K=(g21_18 S49 (fun y0 y1 y2 y3 y4=>exec cl N (.seq (.seq c21_3 c21_16) (.seq c21_17 .ret)) (e57 y0 y1 y2 y3 y4) K) x0 x1 x2):=by
 rw [←put_eq h49]
 kernel_rfl
def g21_3 (k0:Int→V15→Int→Bool→V1→Int→Option R) (x0:Int) (x1:V15) (x2:Int) (x3:Bool) (x4:V1):Option R:=
k0 x0 x1 x2 x3 x4 (0:Int)
theorem t21_3 (x0 x1 x2 x3 x4):exec cl N c21_3 (e57 x0 x1 x2 x3 x4) K=(g21_3 (fun y0 y1 y2 y3 y4 y5=>K .normal (e58 y0 y1 y2 y3 y4 y5)) x0 x1 x2 x3 x4):=by
 kernel_rfl
theorem kp21_0 (x0 x1 x2 x3 x4 x5):keep [1,3,8,9,10,11] (e58 x0 x1 x2 x3 x4 x5)=(e58 x0 x1 x2 x3 x4 x5):=by kernel_rfl
def g21_4 (k0:Int→V15→Int→Bool→V1→Int→Bool→Option R) (x0:Int) (x1:V15) (x2:Int) (x3:Bool) (x4:V1) (x5:Int):Option R:=
k0 x0 x1 x2 x3 x4 x5 (decide (x5 < (x1.2.1.length:Int)))
theorem t21_4 (x0 x1 x2 x3 x4 x5):exec cl N c21_4 (e58 x0 x1 x2 x3 x4 x5) K=(g21_4 (fun y0 y1 y2 y3 y4 y5 y6=>K .normal (e59 y0 y1 y2 y3 y4 y5 y6)) x0 x1 x2 x3 x4 x5):=by
 kernel_rfl
theorem kp21_1 (x0 x1 x2 x3 x4 x5 x6):keep [1,3,8,9,10,11] (e59 x0 x1 x2 x3 x4 x5 x6)=(e58 x0 x1 x2 x3 x4 x5):=by kernel_rfl
theorem hb21_0 (x0 x1 x2 x3 x4 x5 x6):boolOf? (ent (e59 x0 x1 x2 x3 x4 x5 x6) (.t 19))=some x6:=by kernel_rfl
def g21_6 (k0:Int→V15→Int→Bool→V1→Int→V10→Option R) (x0:Int) (x1:V15) (x2:Int) (x3:Bool) (x4:V1) (x5:Int):Option R:=
if 0≤x5∧x5 < (x1.2.1.length:Int) then
k0 x0 x1 x2 x3 x4 x5 (x1.2.1.getD x5.toNat ((0:Int),((0:Int),([],()))))
else none
theorem t21_6 (x0 x1 x2 x3 x4 x5):exec cl N c21_6 (e58 x0 x1 x2 x3 x4 x5) K=(g21_6 (fun y0 y1 y2 y3 y4 y5 y6=>K .normal (e60 y0 y1 y2 y3 y4 y5 y6)) x0 x1 x2 x3 x4 x5):=by
 kernel_rfl
def g21_7 (S50:V4→V1→Option (Bool)) (k0:Int→V15→Int→Bool→V1→Int→V10→Bool→Option R) (x0:Int) (x1:V15) (x2:Int) (x3:Bool) (x4:V1) (x5:Int) (x6:V10):Option R:=
brB (x6.1 != x0) (k0 x0 x1 x2 x3 x4 x5 x6 true) (brB (decide ((x6.2.2.1.length:Int) > (0:Int))) ((S50 x6.2.2.1 x4).bind fun r177=>
k0 x0 x1 x2 x3 x4 x5 x6 (!r177)) (k0 x0 x1 x2 x3 x4 x5 x6 false))
theorem t21_7 (S50) (h50:(ctr50 S50).holds cl) (x0 x1 x2 x3 x4 x5 x6):exec cl N c21_7 (e60 x0 x1 x2 x3 x4 x5 x6) K=(g21_7 S50 (fun y0 y1 y2 y3 y4 y5 y6 y7=>K .normal (e61 y0 y1 y2 y3 y4 y5 y6 y7)) x0 x1 x2 x3 x4 x5 x6):=by
 rw [←put_eq h50]
 kernel_rfl
theorem kp21_2 (x0 x1 x2 x3 x4 x5 x6 x7):keep [1,3,8,9,10,11,12] (e61 x0 x1 x2 x3 x4 x5 x6 x7)=(e60 x0 x1 x2 x3 x4 x5 x6):=by kernel_rfl
theorem hb21_1 (x0 x1 x2 x3 x4 x5 x6 x7):boolOf? (ent (e61 x0 x1 x2 x3 x4 x5 x6 x7) (.t 43))=some x7:=by kernel_rfl
def g21_9 (k0:Int→V15→Int→Bool→V1→Int→V10→Bool→Option R) (x0:Int) (x1:V15) (x2:Int) (x3:Bool) (x4:V1) (x5:Int) (x6:V10):Option R:=
brB (!x3) (k0 x0 x1 x2 x3 x4 x5 x6 true) (k0 x0 x1 x2 x3 x4 x5 x6 (decide (x6.2.1 < x2)))
theorem t21_9 (x0 x1 x2 x3 x4 x5 x6):exec cl N c21_9 (e60 x0 x1 x2 x3 x4 x5 x6) K=(g21_9 (fun y0 y1 y2 y3 y4 y5 y6 y7=>K .normal (e62 y0 y1 y2 y3 y4 y5 y6 y7)) x0 x1 x2 x3 x4 x5 x6):=by
 kernel_rfl
def g21_10 (k0:Int→V15→Int→Bool→V1→Int→Option R) (x0:Int) (x1:V15) (x2:Int) (x3:Bool) (x4:V1) (x5:Int) (x6:V10) (x7:Bool):Option R:=
k0 x0 x1 x6.2.1 true x4 x5
theorem t21_10 (x0 x1 x2 x3 x4 x5 x6 x7):exec cl N c21_10 (e62 x0 x1 x2 x3 x4 x5 x6 x7) K=(g21_10 (fun y0 y1 y2 y3 y4 y5=>K .normal (e58 y0 y1 y2 y3 y4 y5)) x0 x1 x2 x3 x4 x5 x6 x7):=by
 kernel_rfl
theorem kp21_3 (x0 x1 x2 x3 x4 x5 x6 x7):keep [1,3,8,9,10,11] (e62 x0 x1 x2 x3 x4 x5 x6 x7)=(e58 x0 x1 x2 x3 x4 x5):=by kernel_rfl
theorem hb21_2 (x0 x1 x2 x3 x4 x5 x6 x7):boolOf? (ent (e62 x0 x1 x2 x3 x4 x5 x6 x7) (.t 51))=some x7:=by kernel_rfl
theorem kp21_4 (x0 x1 x2 x3 x4 x5 x6):keep [1,3,8,9,10,11] (e60 x0 x1 x2 x3 x4 x5 x6)=(e58 x0 x1 x2 x3 x4 x5):=by kernel_rfl
def g21_12 (S50:V4→V1→Option (Bool)) (k0:Int→V15→Int→Bool→V1→Int→Option R) (x0:Int) (x1:V15) (x2:Int) (x3:Bool) (x4:V1) (x5:Int):Option R:=
(g21_6 (g21_7 S50 (fun y0 y1 y2 y3 y4 y5 y6 y7=>brB y7 (k0 y0 y1 y2 y3 y4 y5) ((g21_9 (fun y0 y1 y2 y3 y4 y5 y6 y7=>brB y7 (g21_10 k0 y0 y1 y2 y3 y4 y5 y6 y7) (k0 y0 y1 y2 y3 y4 y5))) y0 y1 y2 y3 y4 y5 y6))) x0 x1 x2 x3 x4 x5)
theorem t21_12 (S50) (h50:(ctr50 S50).holds cl) (x0 x1 x2 x3 x4 x5):exec cl N c21_12 (e58 x0 x1 x2 x3 x4 x5) K=(g21_12 S50 (fun y0 y1 y2 y3 y4 y5=>K .normal (e58 y0 y1 y2 y3 y4 y5)) x0 x1 x2 x3 x4 x5):=by
 simp only [c21_12,exec_out,exec_block,exec_seq,seqK_normal,seqK_exit,seqK_ret,t21_6,t21_7 S50 h50,c21_8,exec_cond',hb21_1,Option.bind_some,brB_true,brB_false,exec_exit,exec_skip,kp21_2,t21_9,c21_11,hb21_2,t21_10,kp21_0,kp21_3,blockK_normal,blockK_ret,blockK_eq,kp21_4]
 rfl
def g21_13 (k0:Int→V15→Int→Bool→V1→Int→Option R) (x0:Int) (x1:V15) (x2:Int) (x3:Bool) (x4:V1) (x5:Int):Option R:=
k0 x0 x1 x2 x3 x4 (IntKind.i64.wrap (x5+(1:Int)))
theorem t21_13 (x0 x1 x2 x3 x4 x5):exec cl N c21_13 (e58 x0 x1 x2 x3 x4 x5) K=(g21_13 (fun y0 y1 y2 y3 y4 y5=>K .normal (e58 y0 y1 y2 y3 y4 y5)) x0 x1 x2 x3 x4 x5):=by
 kernel_rfl
def g21_14 (S50:V4→V1→Option (Bool)) (k0:Int→V15→Int→Bool→V1→Int→Option R) (k1:Int→V15→Int→Bool→V1→Int→Option R) (x0:Int) (x1:V15) (x2:Int) (x3:Bool) (x4:V1) (x5:Int):Option R:=
(g21_4 (fun y0 y1 y2 y3 y4 y5 y6=>brB y6 ((g21_12 S50 (g21_13 k0)) y0 y1 y2 y3 y4 y5) (k1 y0 y1 y2 y3 y4 y5)) x0 x1 x2 x3 x4 x5)
theorem t21_14 (S50) (h50:(ctr50 S50).holds cl) (x0 x1 x2 x3 x4 x5):exec cl N c21_14 (e58 x0 x1 x2 x3 x4 x5) K=(g21_14 S50 (fun y0 y1 y2 y3 y4 y5=>K .normal (e58 y0 y1 y2 y3 y4 y5)) (fun y0 y1 y2 y3 y4 y5=>K (.exit 0) (e58 y0 y1 y2 y3 y4 y5)) x0 x1 x2 x3 x4 x5):=by
 simp only [c21_14,exec_seq,seqK_normal,seqK_exit,seqK_ret,t21_4,c21_5,exec_out,exec_cond',hb21_0,Option.bind_some,brB_true,brB_false,exec_skip,exec_exit,kp21_1,t21_12 S50 h50,t21_13]
 rfl
def l21_15 {R:Type} (S50:V4→V1→Option (Bool)) (k0:Int→V15→Int→Bool→V1→Int→Option R):Nat→Int→V15→Int→Bool→V1→Int→Option R
 | 0,_,_,_,_,_,_=>none
 | m+1,x0,x1,x2,x3,x4,x5=>(g21_14 S50 (l21_15 S50 k0 m) k0 x0 x1 x2 x3 x4 x5)
theorem lt21_15 (S50) (h50:(ctr50 S50).holds cl):∀ (m) (x0 x1 x2 x3 x4 x5),iter [1,3,8,9,10,11] (fun env K=>exec cl N c21_14 env K) K m (e58 x0 x1 x2 x3 x4 x5)=l21_15 S50 (fun y0 y1 y2 y3 y4 y5=>K (.exit 0) (e58 y0 y1 y2 y3 y4 y5)) m x0 x1 x2 x3 x4 x5:=by
 intro m
 induction m with
 | zero=>intros; rfl
 | succ m ih=>
   intro x0 x1 x2 x3 x4 x5
   simp only [iter_succ,t21_14 S50 h50,loopK_normal,loopK_exit,loopK_ret,kp21_0,ih]
   rfl
theorem kp21_5 (x0 x1 x2 x3 x4 x5):keep [8,9] (e58 x0 x1 x2 x3 x4 x5)=(e47 x2 x3):=by kernel_rfl
def g21_15 (N:Nat) (S50:V4→V1→Option (Bool)) (k0:Int→Bool→Option R) (x0:Int) (x1:V15) (x2:Int) (x3:Bool) (x4:V1) (x5:Int):Option R:=
l21_15 S50 (fun y0 y1 y2 y3 y4 y5=>k0 y2 y3) N x0 x1 x2 x3 x4 x5
theorem t21_15 (S50) (h50:(ctr50 S50).holds cl) (x0 x1 x2 x3 x4 x5):exec cl N c21_15 (e58 x0 x1 x2 x3 x4 x5) K=(g21_15 N S50 (fun y0 y1=>K (.exit 0) (e47 y0 y1)) x0 x1 x2 x3 x4 x5):=by
 simp only [c21_15,exec_out,exec_loop,kp21_0,lt21_15 S50 h50,kp21_5]
 rfl
theorem kp21_6 (x0 x1):keep [8,9] (e47 x0 x1)=(e47 x0 x1):=by kernel_rfl
def g21_17 (k0:Int→Bool→Option R) (x0:Int) (x1:Bool):Option R:=
k0 x0 x1
theorem t21_17 (x0 x1):exec cl N c21_17 (e47 x0 x1) K=(g21_17 (fun y0 y1=>K .normal (e48 y0 y1)) x0 x1):=by
 kernel_rfl
def g21_18b (N:Nat) (S49:V1→Option V3) (S50:V4→V1→Option (Bool)) (k0:Int→Bool→Option R) (x0:V15) (x1:Int) (x2:V1):Option R:=
(g21_18 S49 (g21_3 (g21_15 N S50 ((g21_17 k0)))) x0 x1 x2)
theorem t21_18b (S49) (S50) (h49:(ctr49 S49).holds cl) (h50:(ctr50 S50).holds cl) (x0 x1 x2):exec cl N c21_18 (e43 x0 x1 x2) K=(g21_18b N S49 S50 (fun y0 y1=>K .ret (e48 y0 y1)) x0 x1 x2):=by
 simp only [exec_seq,seqK_normal,seqK_exit,seqK_ret,t21_18 S49 h49,t21_3,c21_16,exec_out,exec_block,t21_15 S50 h50,blockK_normal,blockK_ret,blockK_eq,kp21_6,t21_17,exec_ret]
 rfl
theorem rk21_0 (y0 y1):retK d21 .ret (e48 y0 y1)=some [.v U2 y0,.v .bool y1]:=by kernel_rfl
def g21 (N:Nat) (S49:V1→Option V3) (S50:V4→V1→Option (Bool)) (x0:V15) (x1:Int) (x2:V1) (k:Int→Bool→Option R):Option R:=
(g21_18b N S49 S50 k x0 x1 x2)
theorem gen21 (S49) (S50) (h49:(ctr49 S49).holds cl) (h50:(ctr50 S50).holds cl) (x0 x1 x2) (k:List E→Option R):exec cl N c21 (e43 x0 x1 x2) (fun e env=>(retK d21 e env).bind k)=g21 N S49 S50 x0 x1 x2 (fun r0 r1=>k [.v U2 r0,.v .bool r1]):=by
 simp only [c21,t21_18b S49 S50 h49 h50,rk21_0,Option.bind_some]
 rfl
def ctr21 (S:V15→Int→V1→Option V2):Ctr:=cv3 21 U18 U2 .str S fun b=> [.v U2 b.1,.v .bool b.2]
def S21 (N:Nat) (x0:V15) (x1:Int) (x2:V1):Option V2:=g21 N (S49 N) (S50 N) x0 x1 x2 (fun (r0:Int) (r1:Bool)=>some (r0,r1))
def g6_0 (k0:Int→V1→V15→Option R) (x0:V15) (x1:Int) (x2:V1):Option R:=
k0 x1 x2 x0
theorem t6_0 (x0 x1 x2):exec cl N c6_0 (e43 x0 x1 x2) K=(g6_0 (fun y0 y1 y2=>K .normal [(1,.v U2 y0),(2,.v .str y1),(3,.loc U18 .no y2)]) x0 x1 x2):=by
 kernel_rfl
def g6_1 (S7:Option (Bool)) (S8:V15→Option (Bool)) (k0:Int→V1→V15→Bool→Option R) (x0:Int) (x1:V1) (x2:V15):Option R:=
(S7).bind fun r188=>
brB (!r188) (k0 x0 x1 x2 true) ((S8 x2).bind fun r189=>
brB (!r189) (k0 x0 x1 x2 true) (k0 x0 x1 x2 (decide ((x1.length:Int) > (40:Int)))))
theorem t6_1 (S7) (S8) (h7:(ctr7 S7).holds cl) (h8:(ctr8 S8).holds cl) (x0 x1 x2):exec cl N c6_1 [(1,.v U2 x0),(2,.v .str x1),(3,.loc U18 .no x2)] K=(g6_1 S7 S8 (fun y0 y1 y2 y3=>K .normal (e63 y0 y1 y2 y3)) x0 x1 x2):=by
 rw [←put_eq h7]
 rw [←put_eq h8]
 kernel_rfl
def g6_2 (S7:Option (Bool)) (k0:Bool→Option R) (x0:Int) (x1:V1) (x2:V15) (x3:Bool):Option R:=
(S7).bind fun r191=>
k0 r191
theorem t6_2 (S7) (h7:(ctr7 S7).holds cl) (x0 x1 x2 x3):exec cl N c6_2 (e63 x0 x1 x2 x3) K=(g6_2 S7 (fun y0=>K .normal [(6,.v .bool y0)]) x0 x1 x2 x3):=by
 rw [←put_eq h7]
 kernel_rfl
theorem kp6_0 (x0):keep [1,2,3,6] [(6,.v .bool x0)]=(e64 x0):=by kernel_rfl
theorem kp6_1 (x0 x1 x2 x3):keep [1,2,3,6] (e63 x0 x1 x2 x3)=[(1,.v U2 x0),(2,.v .str x1),(3,.loc U18 .no x2),(6,.dead)]:=by kernel_rfl
theorem hb6_0 (x0 x1 x2 x3):boolOf? (ent (e63 x0 x1 x2 x3) (.t 24))=some x3:=by kernel_rfl
def g6_4 (S19:V15→Option V16) (S22:V15→Int→Option V16) (k0:Int→V1→V15→V15→Option R) (x0:Int) (x1:V1) (x2:V15):Option R:=
(S19 x2).bind fun r192=>
(S22 r192 x0).bind fun r193=>
k0 x0 x1 x2 r193
theorem t6_4 (S19) (S22) (h19:(ctr19 S19).holds cl) (h22:(ctr22 S22).holds cl) (x0 x1 x2):exec cl N c6_4 [(1,.v U2 x0),(2,.v .str x1),(3,.loc U18 .no x2),(6,.dead)] K=(g6_4 S19 S22 (fun y0 y1 y2 y3=>K .normal [(1,.v U2 y0),(2,.v .str y1),(3,.loc U18 .no y2),(7,.loc U18 .no y3)]) x0 x1 x2):=by
 rw [←put_eq h19]
 rw [←put_eq h22]
 kernel_rfl
def g6_5 (S14:V15→V15→Option (Bool)) (S23:V15→Int→Option V16) (k0:Int→V1→V15→V15→Bool→Option R) (x0:Int) (x1:V1) (x2 x3:V15):Option R:=
(S23 x2 x0).bind fun r194=>
(S14 x3 r194).bind fun r195=>
k0 x0 x1 x2 x3 (!r195)
theorem t6_5 (S14) (S23) (h14:(ctr14 S14).holds cl) (h23:(ctr23 S23).holds cl) (x0 x1 x2 x3):exec cl N c6_5 [(1,.v U2 x0),(2,.v .str x1),(3,.loc U18 .no x2),(7,.loc U18 .no x3)] K=(g6_5 S14 S23 (fun y0 y1 y2 y3 y4=>K .normal (e65 y0 y1 y2 y3 y4)) x0 x1 x2 x3):=by
 rw [←put_eq h14]
 rw [←put_eq h23]
 kernel_rfl
def g6_6 (k0:Bool→Option R) (x0:Int) (x1:V1) (x2 x3:V15) (x4:Bool):Option R:=
k0 false
theorem t6_6 (x0 x1 x2 x3 x4):exec cl N c6_6 (e65 x0 x1 x2 x3 x4) K=(g6_6 (fun y0=>K .normal [(6,.v .bool y0)]) x0 x1 x2 x3 x4):=by
 kernel_rfl
theorem kp6_2 (x0):keep [1,2,3,6,7] [(6,.v .bool x0)]=(e66 x0):=by kernel_rfl
theorem kp6_3 (x0 x1 x2 x3 x4):keep [1,2,3,6,7] (e65 x0 x1 x2 x3 x4)=(e67 x0 x1 x2 x3):=by kernel_rfl
theorem hb6_1 (x0 x1 x2 x3 x4):boolOf? (ent (e65 x0 x1 x2 x3 x4) (.t 35))=some x4:=by kernel_rfl
def g6_8 (k0:Int→V1→V15→V15→Int→Option R) (x0:Int) (x1:V1) (x2 x3:V15):Option R:=
k0 x0 x1 x2 x3 (1:Int)
theorem t6_8 (x0 x1 x2 x3):exec cl N c6_8 (e67 x0 x1 x2 x3) K=(g6_8 (fun y0 y1 y2 y3 y4=>K .normal (e68 y0 y1 y2 y3 y4)) x0 x1 x2 x3):=by
 kernel_rfl
theorem kp6_4 (x0 x1 x2 x3 x4):keep [1,2,3,7,8] (e68 x0 x1 x2 x3 x4)=(e68 x0 x1 x2 x3 x4):=by kernel_rfl
def g6_9 (k0:Int→V1→V15→V15→Int→Bool→Option R) (x0:Int) (x1:V1) (x2 x3:V15) (x4:Int):Option R:=
k0 x0 x1 x2 x3 x4 (decide (x4≤(12:Int)))
theorem t6_9 (x0 x1 x2 x3 x4):exec cl N c6_9 (e68 x0 x1 x2 x3 x4) K=(g6_9 (fun y0 y1 y2 y3 y4 y5=>K .normal (e69 y0 y1 y2 y3 y4 y5)) x0 x1 x2 x3 x4):=by
 kernel_rfl
theorem kp6_5 (x0 x1 x2 x3 x4 x5):keep [1,2,3,7,8] (e69 x0 x1 x2 x3 x4 x5)=(e68 x0 x1 x2 x3 x4):=by kernel_rfl
theorem hb6_2 (x0 x1 x2 x3 x4 x5):boolOf? (ent (e69 x0 x1 x2 x3 x4 x5) (.t 37))=some x5:=by kernel_rfl
def g6_16 (S17:V15→Int→V1→Option V2) (S21:V15→Int→V1→Option V2) (k0:Int→V1→V15→V15→Int→Bool→Option R) (x0:Int) (x1:V1) (x2 x3:V15) (x4:Int):Option R:=
(S17 x3 x4 x1).bind fun r200=>
(S21 x2 x4 x1).bind fun r201=>
brB (x4==x0) (brB r200.2 (k0 x0 x1 x2 x3 x4 true) (brB (x4 != x0) (brB (r200.1 != r201.1) (k0 x0 x1 x2 x3 x4 true) (k0 x0 x1 x2 x3 x4 (!(r200.2==r201.2)))) (k0 x0 x1 x2 x3 x4 false))) (brB (x4 != x0) (brB (r200.1 != r201.1) (k0 x0 x1 x2 x3 x4 true) (k0 x0 x1 x2 x3 x4 (!(r200.2==r201.2)))) (k0 x0 x1 x2 x3 x4 false))
theorem t6_16 (S17) (S21) (h17:(ctr17 S17).holds cl) (h21:(ctr21 S21).holds cl) (x0 x1 x2 x3 x4):exec cl N c6_16 (e68 x0 x1 x2 x3 x4) K=(g6_16 S17 S21 (fun y0 y1 y2 y3 y4 y5=>exec cl N c6_15 (e70 y0 y1 y2 y3 y4 y5) K) x0 x1 x2 x3 x4):=by
 rw [←put_eq h17]
 rw [←put_eq h21]
 kernel_rfl
def g6_14 (k0:Bool→Option R) (x0:Int) (x1:V1) (x2 x3:V15) (x4:Int) (x5:Bool):Option R:=
k0 false
theorem t6_14 (x0 x1 x2 x3 x4 x5):exec cl N c6_14 (e70 x0 x1 x2 x3 x4 x5) K=(g6_14 (fun y0=>K .normal [(6,.v .bool y0)]) x0 x1 x2 x3 x4 x5):=by
 kernel_rfl
theorem kp6_6 (x0):keep [1,2,3,6,7,8] [(6,.v .bool x0)]=(e71 x0):=by kernel_rfl
theorem kp6_7 (x0 x1 x2 x3 x4 x5):keep [1,2,3,6,7,8] (e70 x0 x1 x2 x3 x4 x5)=(e72 x0 x1 x2 x3 x4):=by kernel_rfl
theorem hb6_3 (x0 x1 x2 x3 x4 x5):boolOf? (ent (e70 x0 x1 x2 x3 x4 x5) (.t 74))=some x5:=by kernel_rfl
theorem kp6_8 (x0):keep [1,2,3,6,7,8] (e71 x0)=(e71 x0):=by kernel_rfl
theorem kp6_9 (x0 x1 x2 x3 x4):keep [1,2,3,6,7,8] (e72 x0 x1 x2 x3 x4)=(e72 x0 x1 x2 x3 x4):=by kernel_rfl
def g6_18 (k0:Int→V1→V15→V15→Int→Option R) (x0:Int) (x1:V1) (x2 x3:V15) (x4:Int):Option R:=
k0 x0 x1 x2 x3 (IntKind.i64.wrap (x4+(1:Int)))
theorem t6_18 (x0 x1 x2 x3 x4):exec cl N c6_18 (e72 x0 x1 x2 x3 x4) K=(g6_18 (fun y0 y1 y2 y3 y4=>K .normal (e68 y0 y1 y2 y3 y4)) x0 x1 x2 x3 x4):=by
 kernel_rfl
def g6_19 (S17:V15→Int→V1→Option V2) (S21:V15→Int→V1→Option V2) (k0:Bool→Option R) (k1:Int→V1→V15→V15→Int→Option R) (k2:Int→V1→V15→V15→Int→Option R) (x0:Int) (x1:V1) (x2 x3:V15) (x4:Int):Option R:=
(g6_9 (fun y0 y1 y2 y3 y4 y5=>brB y5 ((g6_16 S17 S21 (fun y0 y1 y2 y3 y4 y5=>brB y5 (g6_14 k0 y0 y1 y2 y3 y4 y5) (((g6_18 k1)) y0 y1 y2 y3 y4))) y0 y1 y2 y3 y4) (k2 y0 y1 y2 y3 y4)) x0 x1 x2 x3 x4)
theorem t6_19 (S17) (S21) (h17:(ctr17 S17).holds cl) (h21:(ctr21 S21).holds cl) (x0 x1 x2 x3 x4):exec cl N c6_19 (e68 x0 x1 x2 x3 x4) K=(g6_19 S17 S21 (fun y0=>K .ret (e71 y0)) (fun y0 y1 y2 y3 y4=>K .normal (e68 y0 y1 y2 y3 y4)) (fun y0 y1 y2 y3 y4=>K (.exit 0) (e68 y0 y1 y2 y3 y4)) x0 x1 x2 x3 x4):=by
 simp only [c6_19,exec_seq,seqK_normal,seqK_exit,seqK_ret,t6_9,c6_10,exec_out,exec_cond',hb6_2,Option.bind_some,brB_true,brB_false,exec_skip,exec_exit,kp6_5,c6_17,exec_block,t6_16 S17 S21 h17 h21,c6_15,hb6_3,t6_14,exec_ret,kp6_6,kp6_7,blockK_normal,blockK_ret,blockK_eq,kp6_8,kp6_9,t6_18]
 rfl
def l6_20 {R:Type} (S17:V15→Int→V1→Option V2) (S21:V15→Int→V1→Option V2) (k0:Bool→Option R) (k1:Int→V1→V15→V15→Int→Option R):Nat→Int→V1→V15→V15→Int→Option R
 | 0,_,_,_,_,_=>none
 | m+1,x0,x1,x2,x3,x4=>(g6_19 S17 S21 k0 (l6_20 S17 S21 k0 k1 m) k1 x0 x1 x2 x3 x4)
theorem lt6_20 (S17) (S21) (h17:(ctr17 S17).holds cl) (h21:(ctr21 S21).holds cl):∀ (m) (x0 x1 x2 x3 x4),iter [1,2,3,7,8] (fun env K=>exec cl N c6_19 env K) K m (e68 x0 x1 x2 x3 x4)=l6_20 S17 S21 (fun y0=>K .ret (e71 y0)) (fun y0 y1 y2 y3 y4=>K (.exit 0) (e68 y0 y1 y2 y3 y4)) m x0 x1 x2 x3 x4:=by
 intro m
 induction m with
 | zero=>intros; rfl
 | succ m ih=>
   intro x0 x1 x2 x3 x4
   simp only [iter_succ,t6_19 S17 S21 h17 h21,loopK_normal,loopK_exit,loopK_ret,kp6_4,ih]
   rfl
theorem kp6_10 (x0):keep [6] (e71 x0)=[(6,.v .bool x0)]:=by kernel_rfl
theorem kp6_11 (x0 x1 x2 x3 x4):keep [6] (e68 x0 x1 x2 x3 x4)=[(6,.dead)]:=by kernel_rfl
def g6_20 (N:Nat) (S17:V15→Int→V1→Option V2) (S21:V15→Int→V1→Option V2) (k0:Bool→Option R) (k1:Option R) (x0:Int) (x1:V1) (x2 x3:V15) (x4:Int):Option R:=
l6_20 S17 S21 k0 (fun y0 y1 y2 y3 y4=>k1) N x0 x1 x2 x3 x4
theorem t6_20 (S17) (S21) (h17:(ctr17 S17).holds cl) (h21:(ctr21 S21).holds cl) (x0 x1 x2 x3 x4):exec cl N c6_20 (e68 x0 x1 x2 x3 x4) K=(g6_20 N S17 S21 (fun y0=>K .ret [(6,.v .bool y0)]) (K (.exit 0) [(6,.dead)]) x0 x1 x2 x3 x4):=by
 simp only [c6_20,exec_out,exec_loop,kp6_4,lt6_20 S17 S21 h17 h21,kp6_10,kp6_11]
 rfl
theorem kp6_12 (x0):keep [6] [(6,.v .bool x0)]=[(6,.v .bool x0)]:=by kernel_rfl
theorem kp6_13:keep [6] [(6,.dead)]=[(6,.dead)]:=by kernel_rfl
def g6_22 (k0:Bool→Option R):Option R:=
k0 true
theorem t6_22:exec cl N c6_22 [(6,.dead)] K=(g6_22 (fun y0=>K .normal [(6,.v .bool y0)])):=by
 kernel_rfl
def g6_23 (N:Nat) (S7:Option (Bool)) (S8:V15→Option (Bool)) (S14:V15→V15→Option (Bool)) (S17:V15→Int→V1→Option V2) (S19:V15→Option V16) (S21:V15→Int→V1→Option V2) (S22:V15→Int→Option V16) (S23:V15→Int→Option V16) (k0:Bool→Option R) (k1:Bool→Option R) (k2:Bool→Option R) (x0:V15) (x1:Int) (x2:V1):Option R:=
(g6_0 (g6_1 S7 S8 (fun y0 y1 y2 y3=>brB y3 (g6_2 S7 k0 y0 y1 y2 y3) ((g6_4 S19 S22 (g6_5 S14 S23 (fun y0 y1 y2 y3 y4=>brB y4 (g6_6 k1 y0 y1 y2 y3 y4) ((g6_8 (g6_20 N S17 S21 k2 (g6_22 k2))) y0 y1 y2 y3)))) y0 y1 y2))) x0 x1 x2)
theorem t6_23 (S7) (S8) (S14) (S17) (S19) (S21) (S22) (S23) (h7:(ctr7 S7).holds cl) (h8:(ctr8 S8).holds cl) (h14:(ctr14 S14).holds cl) (h17:(ctr17 S17).holds cl) (h19:(ctr19 S19).holds cl) (h21:(ctr21 S21).holds cl) (h22:(ctr22 S22).holds cl) (h23:(ctr23 S23).holds cl) (x0 x1 x2):exec cl N c6_23 (e43 x0 x1 x2) K=(g6_23 N S7 S8 S14 S17 S19 S21 S22 S23 (fun y0=>K .ret (e64 y0)) (fun y0=>K .ret (e66 y0)) (fun y0=>K .ret [(6,.v .bool y0)]) x0 x1 x2):=by
 simp only [c6_23,exec_seq,seqK_normal,seqK_exit,seqK_ret,t6_0,t6_1 S7 S8 h7 h8,c6_3,exec_out,exec_cond',hb6_0,Option.bind_some,brB_true,brB_false,t6_2 S7 h7,exec_ret,exec_skip,kp6_0,kp6_1,t6_4 S19 S22 h19 h22,t6_5 S14 S23 h14 h23,c6_7,hb6_1,t6_6,kp6_2,kp6_3,t6_8,c6_21,exec_block,t6_20 S17 S21 h17 h21,blockK_normal,blockK_ret,blockK_eq,kp6_12,kp6_13,t6_22]
 rfl
theorem rk6_0 (y0):retK d6 .ret (e64 y0)=some [.v .bool y0]:=by kernel_rfl
theorem rk6_1 (y0):retK d6 .ret (e66 y0)=some [.v .bool y0]:=by kernel_rfl
theorem rk6_2 (y0):retK d6 .ret [(6,.v .bool y0)]=some [.v .bool y0]:=by kernel_rfl
def g6 (N:Nat) (S7:Option (Bool)) (S8:V15→Option (Bool)) (S14:V15→V15→Option (Bool)) (S17:V15→Int→V1→Option V2) (S19:V15→Option V16) (S21:V15→Int→V1→Option V2) (S22:V15→Int→Option V16) (S23:V15→Int→Option V16) (x0:V15) (x1:Int) (x2:V1) (k:Bool→Option R):Option R:=
(g6_23 N S7 S8 S14 S17 S19 S21 S22 S23 k k k x0 x1 x2)
theorem gen6 (S7) (S8) (S14) (S17) (S19) (S21) (S22) (S23) (h7:(ctr7 S7).holds cl) (h8:(ctr8 S8).holds cl) (h14:(ctr14 S14).holds cl) (h17:(ctr17 S17).holds cl) (h19:(ctr19 S19).holds cl) (h21:(ctr21 S21).holds cl) (h22:(ctr22 S22).holds cl) (h23:(ctr23 S23).holds cl) (x0 x1 x2) (k:List E→Option R):exec cl N c6 (e43 x0 x1 x2) (fun e env=>(retK d6 e env).bind k)=g6 N S7 S8 S14 S17 S19 S21 S22 S23 x0 x1 x2 (fun r0=>k [.v .bool r0]):=by
 simp only [c6,t6_23 S7 S8 S14 S17 S19 S21 S22 S23 h7 h8 h14 h17 h19 h21 h22 h23,rk6_0,rk6_1,rk6_2,Option.bind_some]
 rfl
def ctr6 (S:V15→Int→V1→Option (Bool)):Ctr:=cv3 6 U18 U2 .str S fun b=> [.v .bool b]
def S6 (N:Nat) (x0:V15) (x1:Int) (x2:V1):Option (Bool):=g6 N (S7 N) (S8 N) (S14 N) (S17 N) (S19 N) (S21 N) (S22 N) (S23 N) x0 x1 x2 (fun (r0:Bool)=>some (r0))
def g72_2 (k0:Bool→Option R) (x0:Int):Option R:=
brB (decide (x0≥(97:Int))) (k0 (decide (x0≤(122:Int)))) (k0 false)
theorem t72_2 (x0):exec cl N c72_2 [(0,.v U1 x0)] K=(g72_2 (fun y0=>exec cl N .ret [(2,.v .bool y0)] K) x0):=by
 kernel_rfl
def g72_2b (k0:Bool→Option R) (x0:Int):Option R:=
(g72_2 k0 x0)
theorem t72_2b (x0):exec cl N c72_2 [(0,.v U1 x0)] K=(g72_2b (fun y0=>K .ret [(2,.v .bool y0)]) x0):=by
 simp only [exec_seq,seqK_normal,seqK_exit,seqK_ret,t72_2,exec_ret]
 rfl
theorem rk72_0 (y0):retK d72 .ret [(2,.v .bool y0)]=some [.v .bool y0]:=by kernel_rfl
def g72 (x0:Int) (k:Bool→Option R):Option R:=
(g72_2b k x0)
theorem gen72 (x0) (k:List E→Option R):exec cl N c72 [(0,.v U1 x0)] (fun e env=>(retK d72 e env).bind k)=g72 x0 (fun r0=>k [.v .bool r0]):=by
 simp only [c72,t72_2b,rk72_0,Option.bind_some]
 rfl
def ctr72 (S:Int→Option (Bool)):Ctr:=cv1 72 U1 S fun b=> [.v .bool b]
def S72 (N:Nat) (x0:Int):Option (Bool):=g72 x0 (fun (r0:Bool)=>some (r0))
def g73_2 (k0:Bool→Option R) (x0:Int):Option R:=
brB (decide (x0≥(48:Int))) (k0 (decide (x0≤(57:Int)))) (k0 false)
theorem t73_2 (x0):exec cl N c73_2 [(0,.v U1 x0)] K=(g73_2 (fun y0=>exec cl N .ret [(2,.v .bool y0)] K) x0):=by
 kernel_rfl
def g73_2b (k0:Bool→Option R) (x0:Int):Option R:=
(g73_2 k0 x0)
theorem t73_2b (x0):exec cl N c73_2 [(0,.v U1 x0)] K=(g73_2b (fun y0=>K .ret [(2,.v .bool y0)]) x0):=by
 simp only [exec_seq,seqK_normal,seqK_exit,seqK_ret,t73_2,exec_ret]
 rfl
theorem rk73_0 (y0):retK d73 .ret [(2,.v .bool y0)]=some [.v .bool y0]:=by kernel_rfl
def g73 (x0:Int) (k:Bool→Option R):Option R:=
(g73_2b k x0)
theorem gen73 (x0) (k:List E→Option R):exec cl N c73 [(0,.v U1 x0)] (fun e env=>(retK d73 e env).bind k)=g73 x0 (fun r0=>k [.v .bool r0]):=by
 simp only [c73,t73_2b,rk73_0,Option.bind_some]
 rfl
def ctr73 (S:Int→Option (Bool)):Ctr:=cv1 73 U1 S fun b=> [.v .bool b]
def S73 (N:Nat) (x0:Int):Option (Bool):=g73 x0 (fun (r0:Bool)=>some (r0))
def g54_0 (k0:V1→Option R) (x0:V1):Option R:=
k0 x0
theorem t54_0 (x0):exec cl N c54_0 [(0,.v .str x0)] K=(g54_0 (fun y0=>K .normal [(0,.v .str y0)]) x0):=by
 kernel_rfl
def g54_1 (S72:Int→Option (Bool)) (k0:V1→Bool→Option R) (x0:V1):Option R:=
brB (x0==([]:List UInt8)) (k0 x0 true) (if 0≤(0:Int)∧(0:Int) < (x0.length:Int) then
(S72 ((x0.getD (0:Int).toNat 0).toNat:Int)).bind fun r239=>
k0 x0 (!r239)
else none)
theorem t54_1 (S72) (h72:(ctr72 S72).holds cl) (x0):exec cl N c54_1 [(0,.v .str x0)] K=(g54_1 S72 (fun y0 y1=>K .normal (e73 y0 y1)) x0):=by
 rw [←put_eq h72]
 kernel_rfl
def g54_2 (k0:Int→Option R) (x0:V1) (x1:Bool):Option R:=
k0 (0:Int)
theorem t54_2 (x0 x1):exec cl N c54_2 (e73 x0 x1) K=(g54_2 (fun y0=>K .normal [(2,.v U2 y0)]) x0 x1):=by
 kernel_rfl
theorem kp54_0 (x0):keep [0,2] [(2,.v U2 x0)]=(e74 x0):=by kernel_rfl
theorem kp54_1 (x0 x1):keep [0,2] (e73 x0 x1)=(e75 x0):=by kernel_rfl
theorem hb54_0 (x0 x1):boolOf? (ent (e73 x0 x1) (.t 11))=some x1:=by kernel_rfl
def g54_4 (k0:V1→Int→Option R) (x0:V1):Option R:=
k0 x0 (1:Int)
theorem t54_4 (x0):exec cl N c54_4 (e75 x0) K=(g54_4 (fun y0 y1=>K .normal (e76 y0 y1)) x0):=by
 kernel_rfl
theorem kp54_2 (x0 x1):keep [0,3] (e76 x0 x1)=(e76 x0 x1):=by kernel_rfl
def g54_5 (k0:V1→Int→Bool→Option R) (x0:V1) (x1:Int):Option R:=
k0 x0 x1 (decide (x1 < (x0.length:Int)))
theorem t54_5 (x0 x1):exec cl N c54_5 (e76 x0 x1) K=(g54_5 (fun y0 y1 y2=>K .normal (e77 y0 y1 y2)) x0 x1):=by
 kernel_rfl
theorem kp54_3 (x0 x1 x2):keep [0,3] (e77 x0 x1 x2)=(e76 x0 x1):=by kernel_rfl
theorem hb54_1 (x0 x1 x2):boolOf? (ent (e77 x0 x1 x2) (.t 15))=some x2:=by kernel_rfl
def g54_7 (S72:Int→Option (Bool)) (S73:Int→Option (Bool)) (k0:V1→Int→Bool→Option R) (x0:V1) (x1:Int):Option R:=
if 0≤x1∧x1 < (x0.length:Int) then
(S72 ((x0.getD x1.toNat 0).toNat:Int)).bind fun r242=>
brB r242 (k0 x0 x1 true) (if 0≤x1∧x1 < (x0.length:Int) then
(S73 ((x0.getD x1.toNat 0).toNat:Int)).bind fun r244=>
k0 x0 x1 r244
else none)
else none
theorem t54_7 (S72) (S73) (h72:(ctr72 S72).holds cl) (h73:(ctr73 S73).holds cl) (x0 x1):exec cl N c54_7 (e76 x0 x1) K=(g54_7 S72 S73 (fun y0 y1 y2=>K .normal (e78 y0 y1 y2)) x0 x1):=by
 rw [←put_eq h72]
 rw [←put_eq h73]
 kernel_rfl
def g54_8 (k0:V1→Int→Option R) (x0:V1) (x1:Int) (x2:Bool):Option R:=
k0 x0 (IntKind.i64.wrap (x1+(1:Int)))
theorem t54_8 (x0 x1 x2):exec cl N c54_8 (e78 x0 x1 x2) K=(g54_8 (fun y0 y1=>K .normal (e76 y0 y1)) x0 x1 x2):=by
 kernel_rfl
theorem kp54_4 (x0 x1 x2):keep [0,3] (e78 x0 x1 x2)=(e76 x0 x1):=by kernel_rfl
theorem hb54_2 (x0 x1 x2):boolOf? (ent (e78 x0 x1 x2) (.t 25))=some x2:=by kernel_rfl
def g54_10 (S72:Int→Option (Bool)) (S73:Int→Option (Bool)) (k0:V1→Int→Bool→Option R) (x0:V1) (x1:Int):Option R:=
if 0≤x1∧x1 < (x0.length:Int) then
brB (((x0.getD x1.toNat 0).toNat:Int) != (45:Int)) (k0 x0 x1 true) (brB ((IntKind.i64.wrap (x1+(1:Int)))==(x0.length:Int)) (k0 x0 x1 true) (let v250:Int:=(IntKind.i64.wrap (x1+(1:Int)))
if 0≤v250∧v250 < (x0.length:Int) then
(S72 ((x0.getD v250.toNat 0).toNat:Int)).bind fun r252=>
brB (!r252) (let v253:Int:=(IntKind.i64.wrap (x1+(1:Int)))
if 0≤v253∧v253 < (x0.length:Int) then
(S73 ((x0.getD v253.toNat 0).toNat:Int)).bind fun r255=>
k0 x0 x1 (!r255)
else none) (k0 x0 x1 false)
else none))
else none
theorem t54_10 (S72) (S73) (h72:(ctr72 S72).holds cl) (h73:(ctr73 S73).holds cl) (x0 x1):exec cl N c54_10 (e76 x0 x1) K=(g54_10 S72 S73 (fun y0 y1 y2=>K .normal (e79 y0 y1 y2)) x0 x1):=by
 rw [←put_eq h72]
 rw [←put_eq h73]
 kernel_rfl
theorem kp54_5 (x0 x1 x2):keep [0,3] (e79 x0 x1 x2)=(e76 x0 x1):=by kernel_rfl
theorem hb54_3 (x0 x1 x2):boolOf? (ent (e79 x0 x1 x2) (.t 54))=some x2:=by kernel_rfl
def g54_12 (k0:V1→Int→Option R) (x0:V1) (x1:Int):Option R:=
k0 x0 (IntKind.i64.wrap (x1+(2:Int)))
theorem t54_12 (x0 x1):exec cl N c54_12 (e76 x0 x1) K=(g54_12 (fun y0 y1=>K .normal (e76 y0 y1)) x0 x1):=by
 kernel_rfl
def g54_14 (S72:Int→Option (Bool)) (S73:Int→Option (Bool)) (k0:V1→Int→Option R) (k1:V1→Int→Option R) (x0:V1) (x1:Int):Option R:=
(g54_5 (fun y0 y1 y2=>brB y2 ((g54_7 S72 S73 (fun y0 y1 y2=>brB y2 (g54_8 k0 y0 y1 y2) ((g54_10 S72 S73 (fun y0 y1 y2=>brB y2 (k1 y0 y1) ((g54_12 k0) y0 y1))) y0 y1))) y0 y1) (k1 y0 y1)) x0 x1)
theorem t54_14 (S72) (S73) (h72:(ctr72 S72).holds cl) (h73:(ctr73 S73).holds cl) (x0 x1):exec cl N c54_14 (e76 x0 x1) K=(g54_14 S72 S73 (fun y0 y1=>K .normal (e76 y0 y1)) (fun y0 y1=>K (.exit 0) (e76 y0 y1)) x0 x1):=by
 simp only [c54_14,exec_seq,seqK_normal,seqK_exit,seqK_ret,t54_5,c54_6,exec_out,exec_cond',hb54_1,Option.bind_some,brB_true,brB_false,exec_skip,exec_exit,kp54_3,c54_13,exec_block,t54_7 S72 S73 h72 h73,c54_9,hb54_2,t54_8,kp54_2,kp54_4,t54_10 S72 S73 h72 h73,c54_11,hb54_3,kp54_5,t54_12,blockK_normal,blockK_ret,blockK_eq,blockK_ne 1 0 rfl]
 rfl
def l54_15 {R:Type} (S72:Int→Option (Bool)) (S73:Int→Option (Bool)) (k0:V1→Int→Option R):Nat→V1→Int→Option R
 | 0,_,_=>none
 | m+1,x0,x1=>(g54_14 S72 S73 (l54_15 S72 S73 k0 m) k0 x0 x1)
theorem lt54_15 (S72) (S73) (h72:(ctr72 S72).holds cl) (h73:(ctr73 S73).holds cl):∀ (m) (x0 x1),iter [0,3] (fun env K=>exec cl N c54_14 env K) K m (e76 x0 x1)=l54_15 S72 S73 (fun y0 y1=>K (.exit 0) (e76 y0 y1)) m x0 x1:=by
 intro m
 induction m with
 | zero=>intros; rfl
 | succ m ih=>
   intro x0 x1
   simp only [iter_succ,t54_14 S72 S73 h72 h73,loopK_normal,loopK_exit,loopK_ret,kp54_2,ih]
   rfl
theorem kp54_6 (x0 x1):keep [3] (e76 x0 x1)=[(3,.v U2 x1)]:=by kernel_rfl
def g54_15 (N:Nat) (S72:Int→Option (Bool)) (S73:Int→Option (Bool)) (k0:Int→Option R) (x0:V1) (x1:Int):Option R:=
l54_15 S72 S73 (fun y0 y1=>k0 y1) N x0 x1
theorem t54_15 (S72) (S73) (h72:(ctr72 S72).holds cl) (h73:(ctr73 S73).holds cl) (x0 x1):exec cl N c54_15 (e76 x0 x1) K=(g54_15 N S72 S73 (fun y0=>K (.exit 0) [(3,.v U2 y0)]) x0 x1):=by
 simp only [c54_15,exec_out,exec_loop,kp54_2,lt54_15 S72 S73 h72 h73,kp54_6]
 rfl
theorem kp54_7 (x0):keep [3] [(3,.v U2 x0)]=[(3,.v U2 x0)]:=by kernel_rfl
def g54_17 (k0:Int→Option R) (x0:Int):Option R:=
k0 x0
theorem t54_17 (x0):exec cl N c54_17 [(3,.v U2 x0)] K=(g54_17 (fun y0=>K .normal [(2,.v U2 y0)]) x0):=by
 kernel_rfl
def g54_18 (N:Nat) (S72:Int→Option (Bool)) (S73:Int→Option (Bool)) (k0:Int→Option R) (k1:Int→Option R) (x0:V1):Option R:=
(g54_0 (g54_1 S72 (fun y0 y1=>brB y1 (g54_2 k0 y0 y1) ((g54_4 (g54_15 N S72 S73 ((g54_17 k1)))) y0))) x0)
theorem t54_18 (S72) (S73) (h72:(ctr72 S72).holds cl) (h73:(ctr73 S73).holds cl) (x0):exec cl N c54_18 [(0,.v .str x0)] K=(g54_18 N S72 S73 (fun y0=>K .ret (e74 y0)) (fun y0=>K .ret [(2,.v U2 y0)]) x0):=by
 simp only [c54_18,exec_seq,seqK_normal,seqK_exit,seqK_ret,t54_0,t54_1 S72 h72,c54_3,exec_out,exec_cond',hb54_0,Option.bind_some,brB_true,brB_false,t54_2,exec_ret,exec_skip,kp54_0,kp54_1,t54_4,c54_16,exec_block,t54_15 S72 S73 h72 h73,blockK_normal,blockK_ret,blockK_eq,kp54_7,t54_17]
 rfl
theorem rk54_0 (y0):retK d54 .ret (e74 y0)=some [.v U2 y0]:=by kernel_rfl
theorem rk54_1 (y0):retK d54 .ret [(2,.v U2 y0)]=some [.v U2 y0]:=by kernel_rfl
def g54 (N:Nat) (S72:Int→Option (Bool)) (S73:Int→Option (Bool)) (x0:V1) (k:Int→Option R):Option R:=
(g54_18 N S72 S73 k k x0)
theorem gen54 (S72) (S73) (h72:(ctr72 S72).holds cl) (h73:(ctr73 S73).holds cl) (x0) (k:List E→Option R):exec cl N c54 [(0,.v .str x0)] (fun e env=>(retK d54 e env).bind k)=g54 N S72 S73 x0 (fun r0=>k [.v U2 r0]):=by
 simp only [c54,t54_18 S72 S73 h72 h73,rk54_0,rk54_1,Option.bind_some]
 rfl
def ctr54 (S:V1→Option (Int)):Ctr:=cv1 54 .str S fun b=> [.v U2 b]
def S54 (N:Nat) (x0:V1):Option (Int):=g54 N (S72 N) (S73 N) x0 (fun (r0:Int)=>some (r0))
def g27_2 (S54:V1→Option (Int)) (k0:Bool→Option R) (x0:V1):Option R:=
brB (x0 != ([]:List UInt8)) (brB (decide ((x0.length:Int)≤(20:Int))) ((S54 x0).bind fun r261=>
k0 (r261==(x0.length:Int))) (k0 false)) (k0 false)
theorem t27_2 (S54) (h54:(ctr54 S54).holds cl) (x0):exec cl N c27_2 [(0,.v .str x0)] K=(g27_2 S54 (fun y0=>exec cl N .ret [(2,.v .bool y0)] K) x0):=by
 rw [←put_eq h54]
 kernel_rfl
def g27_2b (S54:V1→Option (Int)) (k0:Bool→Option R) (x0:V1):Option R:=
(g27_2 S54 k0 x0)
theorem t27_2b (S54) (h54:(ctr54 S54).holds cl) (x0):exec cl N c27_2 [(0,.v .str x0)] K=(g27_2b S54 (fun y0=>K .ret [(2,.v .bool y0)]) x0):=by
 simp only [exec_seq,seqK_normal,seqK_exit,seqK_ret,t27_2 S54 h54,exec_ret]
 rfl
theorem rk27_0 (y0):retK d27 .ret [(2,.v .bool y0)]=some [.v .bool y0]:=by kernel_rfl
def g27 (S54:V1→Option (Int)) (x0:V1) (k:Bool→Option R):Option R:=
(g27_2b S54 k x0)
theorem gen27 (S54) (h54:(ctr54 S54).holds cl) (x0) (k:List E→Option R):exec cl N c27 [(0,.v .str x0)] (fun e env=>(retK d27 e env).bind k)=g27 S54 x0 (fun r0=>k [.v .bool r0]):=by
 simp only [c27,t27_2b S54 h54,rk27_0,Option.bind_some]
 rfl
def ctr27 (S:V1→Option (Bool)):Ctr:=cv1 27 .str S fun b=> [.v .bool b]
def S27 (N:Nat) (x0:V1):Option (Bool):=g27 (S54 N) x0 (fun (r0:Bool)=>some (r0))
def g74_0 (k0:Int→Option R) (x0:Int):Option R:=
k0 x0
theorem t74_0 (x0):exec cl N c74_0 [(0,.v U1 x0)] K=(g74_0 (fun y0=>K .normal [(0,.v U1 y0)]) x0):=by
 kernel_rfl
def g74_1 (k0:Int→Bool→Option R) (x0:Int):Option R:=
brB (decide (x0 < (32:Int))) (k0 x0 true) (k0 x0 (decide (x0 > (126:Int))))
theorem t74_1 (x0):exec cl N c74_1 [(0,.v U1 x0)] K=(g74_1 (fun y0 y1=>K .normal (e80 y0 y1)) x0):=by
 kernel_rfl
def g74_2 (k0:Bool→Option R) (x0:Int) (x1:Bool):Option R:=
k0 false
theorem t74_2 (x0 x1):exec cl N c74_2 (e80 x0 x1) K=(g74_2 (fun y0=>K .normal [(2,.v .bool y0)]) x0 x1):=by
 kernel_rfl
theorem kp74_0 (x0):keep [0,2] [(2,.v .bool x0)]=[(0,.dead),(2,.v .bool x0)]:=by kernel_rfl
theorem kp74_1 (x0 x1):keep [0,2] (e80 x0 x1)=[(0,.v U1 x0),(2,.dead)]:=by kernel_rfl
theorem hb74_0 (x0 x1):boolOf? (ent (e80 x0 x1) (.t 9))=some x1:=by kernel_rfl
def g74_4 (k0:Int→Int→Option R) (x0:Int):Option R:=
k0 x0 (0:Int)
theorem t74_4 (x0):exec cl N c74_4 [(0,.v U1 x0),(2,.dead)] K=(g74_4 (fun y0 y1=>K .normal (e81 y0 y1)) x0):=by
 kernel_rfl
theorem kp74_2 (x0 x1):keep [0,3] (e81 x0 x1)=(e81 x0 x1):=by kernel_rfl
def g74_5 (k0:Int→Int→Bool→Option R) (x0 x1:Int):Option R:=
k0 x0 x1 (decide (x1 < (15:Int)))
theorem t74_5 (x0 x1):exec cl N c74_5 (e81 x0 x1) K=(g74_5 (fun y0 y1 y2=>K .normal (e82 y0 y1 y2)) x0 x1):=by
 kernel_rfl
theorem kp74_3 (x0 x1 x2):keep [0,3] (e82 x0 x1 x2)=(e81 x0 x1):=by kernel_rfl
theorem hb74_1 (x0 x1 x2):boolOf? (ent (e82 x0 x1 x2) (.t 11))=some x2:=by kernel_rfl
def g74_7 (k0:Int→Int→Bool→Option R) (x0 x1:Int):Option R:=
if 0≤x1∧x1 < (([32,46,44,59,58,33,63,34,45,91,93,60,62,123,125]:List UInt8).length:Int) then
k0 x0 x1 (((([32,46,44,59,58,33,63,34,45,91,93,60,62,123,125]:List UInt8).getD x1.toNat 0).toNat:Int)==x0)
else none
theorem t74_7 (x0 x1):exec cl N c74_7 (e81 x0 x1) K=(g74_7 (fun y0 y1 y2=>K .normal (e83 y0 y1 y2)) x0 x1):=by
 kernel_rfl
def g74_8 (k0:Bool→Option R) (x0 x1:Int) (x2:Bool):Option R:=
k0 false
theorem t74_8 (x0 x1 x2):exec cl N c74_8 (e83 x0 x1 x2) K=(g74_8 (fun y0=>K .normal [(2,.v .bool y0)]) x0 x1 x2):=by
 kernel_rfl
theorem kp74_4 (x0):keep [0,2,3] [(2,.v .bool x0)]=(e84 x0):=by kernel_rfl
theorem kp74_5 (x0 x1 x2):keep [0,2,3] (e83 x0 x1 x2)=(e85 x0 x1):=by kernel_rfl
theorem hb74_2 (x0 x1 x2):boolOf? (ent (e83 x0 x1 x2) (.t 17))=some x2:=by kernel_rfl
theorem kp74_6 (x0):keep [0,2,3] (e84 x0)=(e84 x0):=by kernel_rfl
theorem kp74_7 (x0 x1):keep [0,2,3] (e85 x0 x1)=(e85 x0 x1):=by kernel_rfl
def g74_11 (k0:Int→Int→Option R) (x0 x1:Int):Option R:=
k0 x0 (IntKind.i64.wrap (x1+(1:Int)))
theorem t74_11 (x0 x1):exec cl N c74_11 (e85 x0 x1) K=(g74_11 (fun y0 y1=>K .normal (e81 y0 y1)) x0 x1):=by
 kernel_rfl
def g74_12 (k0:Bool→Option R) (k1:Int→Int→Option R) (k2:Int→Int→Option R) (x0 x1:Int):Option R:=
(g74_5 (fun y0 y1 y2=>brB y2 ((g74_7 (fun y0 y1 y2=>brB y2 (g74_8 k0 y0 y1 y2) (((g74_11 k1)) y0 y1))) y0 y1) (k2 y0 y1)) x0 x1)
theorem t74_12 (x0 x1):exec cl N c74_12 (e81 x0 x1) K=(g74_12 (fun y0=>K .ret (e84 y0)) (fun y0 y1=>K .normal (e81 y0 y1)) (fun y0 y1=>K (.exit 0) (e81 y0 y1)) x0 x1):=by
 simp only [c74_12,exec_seq,seqK_normal,seqK_exit,seqK_ret,t74_5,c74_6,exec_out,exec_cond',hb74_1,Option.bind_some,brB_true,brB_false,exec_skip,exec_exit,kp74_3,c74_10,exec_block,t74_7,c74_9,hb74_2,t74_8,exec_ret,kp74_4,kp74_5,blockK_normal,blockK_ret,blockK_eq,kp74_6,kp74_7,t74_11]
 rfl
def l74_13 {R:Type} (k0:Bool→Option R) (k1:Int→Int→Option R):Nat→Int→Int→Option R
 | 0,_,_=>none
 | m+1,x0,x1=>(g74_12 k0 (l74_13 k0 k1 m) k1 x0 x1)
theorem lt74_13:∀ (m) (x0 x1),iter [0,3] (fun env K=>exec cl N c74_12 env K) K m (e81 x0 x1)=l74_13 (fun y0=>K .ret (e84 y0)) (fun y0 y1=>K (.exit 0) (e81 y0 y1)) m x0 x1:=by
 intro m
 induction m with
 | zero=>intros; rfl
 | succ m ih=>
   intro x0 x1
   simp only [iter_succ,t74_12,loopK_normal,loopK_exit,loopK_ret,kp74_2,ih]
   rfl
theorem kp74_8 (x0):keep [2] (e84 x0)=[(2,.v .bool x0)]:=by kernel_rfl
theorem kp74_9 (x0 x1):keep [2] (e81 x0 x1)=[(2,.dead)]:=by kernel_rfl
def g74_13 (N:Nat) (k0:Bool→Option R) (k1:Option R) (x0 x1:Int):Option R:=
l74_13 k0 (fun y0 y1=>k1) N x0 x1
theorem t74_13 (x0 x1):exec cl N c74_13 (e81 x0 x1) K=(g74_13 N (fun y0=>K .ret [(2,.v .bool y0)]) (K (.exit 0) [(2,.dead)]) x0 x1):=by
 simp only [c74_13,exec_out,exec_loop,kp74_2,lt74_13,kp74_8,kp74_9]
 rfl
theorem kp74_10 (x0):keep [2] [(2,.v .bool x0)]=[(2,.v .bool x0)]:=by kernel_rfl
theorem kp74_11:keep [2] [(2,.dead)]=[(2,.dead)]:=by kernel_rfl
def g74_15 (k0:Bool→Option R):Option R:=
k0 true
theorem t74_15:exec cl N c74_15 [(2,.dead)] K=(g74_15 (fun y0=>K .normal [(2,.v .bool y0)])):=by
 kernel_rfl
def g74_16 (N:Nat) (k0:Bool→Option R) (k1:Bool→Option R) (x0:Int):Option R:=
(g74_0 (g74_1 (fun y0 y1=>brB y1 (g74_2 k0 y0 y1) ((g74_4 (g74_13 N k1 (g74_15 k1))) y0))) x0)
theorem t74_16 (x0):exec cl N c74_16 [(0,.v U1 x0)] K=(g74_16 N (fun y0=>K .ret [(0,.dead),(2,.v .bool y0)]) (fun y0=>K .ret [(2,.v .bool y0)]) x0):=by
 simp only [c74_16,exec_seq,seqK_normal,seqK_exit,seqK_ret,t74_0,t74_1,c74_3,exec_out,exec_cond',hb74_0,Option.bind_some,brB_true,brB_false,t74_2,exec_ret,exec_skip,kp74_0,kp74_1,t74_4,c74_14,exec_block,t74_13,blockK_normal,blockK_ret,blockK_eq,kp74_10,kp74_11,t74_15]
 rfl
theorem rk74_0 (y0):retK d74 .ret [(0,.dead),(2,.v .bool y0)]=some [.v .bool y0]:=by kernel_rfl
theorem rk74_1 (y0):retK d74 .ret [(2,.v .bool y0)]=some [.v .bool y0]:=by kernel_rfl
def g74 (N:Nat) (x0:Int) (k:Bool→Option R):Option R:=
(g74_16 N k k x0)
theorem gen74 (x0) (k:List E→Option R):exec cl N c74 [(0,.v U1 x0)] (fun e env=>(retK d74 e env).bind k)=g74 N x0 (fun r0=>k [.v .bool r0]):=by
 simp only [c74,t74_16,rk74_0,rk74_1,Option.bind_some]
 rfl
def ctr74 (S:Int→Option (Bool)):Ctr:=cv1 74 U1 S fun b=> [.v .bool b]
def S74 (N:Nat) (x0:Int):Option (Bool):=g74 N x0 (fun (r0:Bool)=>some (r0))
def g55_0 (k0:V1→Option R) (x0:V1):Option R:=
k0 x0
theorem t55_0 (x0):exec cl N c55_0 [(0,.v .str x0)] K=(g55_0 (fun y0=>K .normal [(0,.v .str y0)]) x0):=by
 kernel_rfl
def g55_1 (k0:V1→Bool→Option R) (x0:V1):Option R:=
k0 x0 (decide ((x0.length:Int) > (16:Int)))
theorem t55_1 (x0):exec cl N c55_1 [(0,.v .str x0)] K=(g55_1 (fun y0 y1=>K .normal (e86 y0 y1)) x0):=by
 kernel_rfl
def g55_2 (k0:Int→Option R) (x0:V1) (x1:Bool):Option R:=
k0 (3:Int)
theorem t55_2 (x0 x1):exec cl N c55_2 (e86 x0 x1) K=(g55_2 (fun y0=>K .normal [(2,.v U2 y0)]) x0 x1):=by
 kernel_rfl
theorem kp55_0 (x0):keep [0,2] [(2,.v U2 x0)]=(e74 x0):=by kernel_rfl
theorem kp55_1 (x0 x1):keep [0,2] (e86 x0 x1)=(e75 x0):=by kernel_rfl
theorem hb55_0 (x0 x1):boolOf? (ent (e86 x0 x1) (.t 6))=some x1:=by kernel_rfl
def g55_4 (S49:V1→Option V3) (k0:V1→Bool→Option R) (x0:V1):Option R:=
brB (x0==([]:List UInt8)) (k0 x0 true) ((S49 x0).bind fun r291=>
k0 x0 (r291 != x0))
theorem t55_4 (S49) (h49:(ctr49 S49).holds cl) (x0):exec cl N c55_4 (e75 x0) K=(g55_4 S49 (fun y0 y1=>K .normal (e87 y0 y1)) x0):=by
 rw [←put_eq h49]
 kernel_rfl
def g55_5 (k0:Int→Option R) (x0:V1) (x1:Bool):Option R:=
k0 (2:Int)
theorem t55_5 (x0 x1):exec cl N c55_5 (e87 x0 x1) K=(g55_5 (fun y0=>K .normal [(2,.v U2 y0)]) x0 x1):=by
 kernel_rfl
theorem kp55_2 (x0 x1):keep [0,2] (e87 x0 x1)=(e75 x0):=by kernel_rfl
theorem hb55_1 (x0 x1):boolOf? (ent (e87 x0 x1) (.t 14))=some x1:=by kernel_rfl
def g55_7 (k0:V1→Int→Option R) (x0:V1):Option R:=
k0 x0 (0:Int)
theorem t55_7 (x0):exec cl N c55_7 (e75 x0) K=(g55_7 (fun y0 y1=>K .normal (e76 y0 y1)) x0):=by
 kernel_rfl
theorem kp55_3 (x0 x1):keep [0,3] (e76 x0 x1)=(e76 x0 x1):=by kernel_rfl
def g55_8 (k0:V1→Int→Bool→Option R) (x0:V1) (x1:Int):Option R:=
k0 x0 x1 (decide (x1 < (x0.length:Int)))
theorem t55_8 (x0 x1):exec cl N c55_8 (e76 x0 x1) K=(g55_8 (fun y0 y1 y2=>K .normal (e88 y0 y1 y2)) x0 x1):=by
 kernel_rfl
theorem kp55_4 (x0 x1 x2):keep [0,3] (e88 x0 x1 x2)=(e76 x0 x1):=by kernel_rfl
theorem hb55_2 (x0 x1 x2):boolOf? (ent (e88 x0 x1 x2) (.t 18))=some x2:=by kernel_rfl
def g55_10 (S74:Int→Option (Bool)) (k0:V1→Int→Bool→Option R) (x0:V1) (x1:Int):Option R:=
if 0≤x1∧x1 < (x0.length:Int) then
(S74 ((x0.getD x1.toNat 0).toNat:Int)).bind fun r294=>
k0 x0 x1 (!r294)
else none
theorem t55_10 (S74) (h74:(ctr74 S74).holds cl) (x0 x1):exec cl N c55_10 (e76 x0 x1) K=(g55_10 S74 (fun y0 y1 y2=>K .normal (e78 y0 y1 y2)) x0 x1):=by
 rw [←put_eq h74]
 kernel_rfl
def g55_11 (k0:Int→Option R) (x0:V1) (x1:Int) (x2:Bool):Option R:=
k0 (2:Int)
theorem t55_11 (x0 x1 x2):exec cl N c55_11 (e78 x0 x1 x2) K=(g55_11 (fun y0=>K .normal [(2,.v U2 y0)]) x0 x1 x2):=by
 kernel_rfl
theorem kp55_5 (x0):keep [0,2,3] [(2,.v U2 x0)]=(e89 x0):=by kernel_rfl
theorem kp55_6 (x0 x1 x2):keep [0,2,3] (e78 x0 x1 x2)=(e90 x0 x1):=by kernel_rfl
theorem hb55_3 (x0 x1 x2):boolOf? (ent (e78 x0 x1 x2) (.t 25))=some x2:=by kernel_rfl
theorem kp55_7 (x0):keep [0,2,3] (e89 x0)=(e89 x0):=by kernel_rfl
theorem kp55_8 (x0 x1):keep [0,2,3] (e90 x0 x1)=(e90 x0 x1):=by kernel_rfl
def g55_14 (k0:V1→Int→Option R) (x0:V1) (x1:Int):Option R:=
k0 x0 (IntKind.i64.wrap (x1+(1:Int)))
theorem t55_14 (x0 x1):exec cl N c55_14 (e90 x0 x1) K=(g55_14 (fun y0 y1=>K .normal (e76 y0 y1)) x0 x1):=by
 kernel_rfl
def g55_15 (S74:Int→Option (Bool)) (k0:Int→Option R) (k1:V1→Int→Option R) (k2:V1→Int→Option R) (x0:V1) (x1:Int):Option R:=
(g55_8 (fun y0 y1 y2=>brB y2 ((g55_10 S74 (fun y0 y1 y2=>brB y2 (g55_11 k0 y0 y1 y2) (((g55_14 k1)) y0 y1))) y0 y1) (k2 y0 y1)) x0 x1)
theorem t55_15 (S74) (h74:(ctr74 S74).holds cl) (x0 x1):exec cl N c55_15 (e76 x0 x1) K=(g55_15 S74 (fun y0=>K .ret (e89 y0)) (fun y0 y1=>K .normal (e76 y0 y1)) (fun y0 y1=>K (.exit 0) (e76 y0 y1)) x0 x1):=by
 simp only [c55_15,exec_seq,seqK_normal,seqK_exit,seqK_ret,t55_8,c55_9,exec_out,exec_cond',hb55_2,Option.bind_some,brB_true,brB_false,exec_skip,exec_exit,kp55_4,c55_13,exec_block,t55_10 S74 h74,c55_12,hb55_3,t55_11,exec_ret,kp55_5,kp55_6,blockK_normal,blockK_ret,blockK_eq,kp55_7,kp55_8,t55_14]
 rfl
def l55_16 {R:Type} (S74:Int→Option (Bool)) (k0:Int→Option R) (k1:V1→Int→Option R):Nat→V1→Int→Option R
 | 0,_,_=>none
 | m+1,x0,x1=>(g55_15 S74 k0 (l55_16 S74 k0 k1 m) k1 x0 x1)
theorem lt55_16 (S74) (h74:(ctr74 S74).holds cl):∀ (m) (x0 x1),iter [0,3] (fun env K=>exec cl N c55_15 env K) K m (e76 x0 x1)=l55_16 S74 (fun y0=>K .ret (e89 y0)) (fun y0 y1=>K (.exit 0) (e76 y0 y1)) m x0 x1:=by
 intro m
 induction m with
 | zero=>intros; rfl
 | succ m ih=>
   intro x0 x1
   simp only [iter_succ,t55_15 S74 h74,loopK_normal,loopK_exit,loopK_ret,kp55_3,ih]
   rfl
theorem kp55_9 (x0):keep [2] (e89 x0)=[(2,.v U2 x0)]:=by kernel_rfl
theorem kp55_10 (x0 x1):keep [2] (e76 x0 x1)=[(2,.dead)]:=by kernel_rfl
def g55_16 (N:Nat) (S74:Int→Option (Bool)) (k0:Int→Option R) (k1:Option R) (x0:V1) (x1:Int):Option R:=
l55_16 S74 k0 (fun y0 y1=>k1) N x0 x1
theorem t55_16 (S74) (h74:(ctr74 S74).holds cl) (x0 x1):exec cl N c55_16 (e76 x0 x1) K=(g55_16 N S74 (fun y0=>K .ret [(2,.v U2 y0)]) (K (.exit 0) [(2,.dead)]) x0 x1):=by
 simp only [c55_16,exec_out,exec_loop,kp55_3,lt55_16 S74 h74,kp55_10,kp55_9]
 rfl
theorem kp55_11 (x0):keep [2] [(2,.v U2 x0)]=[(2,.v U2 x0)]:=by kernel_rfl
theorem kp55_12:keep [2] [(2,.dead)]=[(2,.dead)]:=by kernel_rfl
def g55_18 (k0:Int→Option R):Option R:=
k0 (0:Int)
theorem t55_18:exec cl N c55_18 [(2,.dead)] K=(g55_18 (fun y0=>K .normal [(2,.v U2 y0)])):=by
 kernel_rfl
def g55_19 (N:Nat) (S49:V1→Option V3) (S74:Int→Option (Bool)) (k0:Int→Option R) (k1:Int→Option R) (x0:V1):Option R:=
(g55_0 (g55_1 (fun y0 y1=>brB y1 (g55_2 k0 y0 y1) ((g55_4 S49 (fun y0 y1=>brB y1 (g55_5 k0 y0 y1) ((g55_7 (g55_16 N S74 k1 (g55_18 k1))) y0))) y0))) x0)
theorem t55_19 (S49) (S74) (h49:(ctr49 S49).holds cl) (h74:(ctr74 S74).holds cl) (x0):exec cl N c55_19 [(0,.v .str x0)] K=(g55_19 N S49 S74 (fun y0=>K .ret (e74 y0)) (fun y0=>K .ret [(2,.v U2 y0)]) x0):=by
 simp only [c55_19,exec_seq,seqK_normal,seqK_exit,seqK_ret,t55_0,t55_1,c55_3,exec_out,exec_cond',hb55_0,Option.bind_some,brB_true,brB_false,t55_2,exec_ret,exec_skip,kp55_0,kp55_1,t55_4 S49 h49,c55_6,hb55_1,t55_5,kp55_2,t55_7,c55_17,exec_block,t55_16 S74 h74,blockK_normal,blockK_ret,blockK_eq,kp55_11,kp55_12,t55_18]
 rfl
theorem rk55_0 (y0):retK d55 .ret (e74 y0)=some [.v U2 y0]:=by kernel_rfl
theorem rk55_1 (y0):retK d55 .ret [(2,.v U2 y0)]=some [.v U2 y0]:=by kernel_rfl
def g55 (N:Nat) (S49:V1→Option V3) (S74:Int→Option (Bool)) (x0:V1) (k:Int→Option R):Option R:=
(g55_19 N S49 S74 k k x0)
theorem gen55 (S49) (S74) (h49:(ctr49 S49).holds cl) (h74:(ctr74 S74).holds cl) (x0) (k:List E→Option R):exec cl N c55 [(0,.v .str x0)] (fun e env=>(retK d55 e env).bind k)=g55 N S49 S74 x0 (fun r0=>k [.v U2 r0]):=by
 simp only [c55,t55_19 S49 S74 h49 h74,rk55_0,rk55_1,Option.bind_some]
 rfl
def ctr55 (S:V1→Option (Int)):Ctr:=cv1 55 .str S fun b=> [.v U2 b]
def S55 (N:Nat) (x0:V1):Option (Int):=g55 N (S49 N) (S74 N) x0 (fun (r0:Int)=>some (r0))
def g28_0 (k0:V10→Option R) (x0:V10):Option R:=
k0 x0
theorem t28_0 (x0):exec cl N c28_0 [(0,.v U13 x0)] K=(g28_0 (fun y0=>K .normal [(1,.loc U13 .no y0)]) x0):=by
 kernel_rfl
def g28_1 (k0:V10→Bool→Option R) (x0:V10):Option R:=
brB (decide (x0.1 < (1:Int))) (k0 x0 true) (brB (decide (x0.1 > (12:Int))) (k0 x0 true) (brB (decide (x0.2.1 < (0:Int))) (k0 x0 true) (k0 x0 (decide (x0.2.1 > (999:Int))))))
theorem t28_1 (x0):exec cl N c28_1 [(1,.loc U13 .no x0)] K=(g28_1 (fun y0 y1=>K .normal (e91 y0 y1)) x0):=by
 kernel_rfl
def g28_2 (k0:Int→Option R) (x0:V10) (x1:Bool):Option R:=
k0 (6:Int)
theorem t28_2 (x0 x1):exec cl N c28_2 (e91 x0 x1) K=(g28_2 (fun y0=>K .normal [(2,.v U2 y0)]) x0 x1):=by
 kernel_rfl
theorem kp28_0 (x0):keep [1,2] [(2,.v U2 x0)]=(e92 x0):=by kernel_rfl
theorem kp28_1 (x0 x1):keep [1,2] (e91 x0 x1)=(e93 x0):=by kernel_rfl
theorem hb28_0 (x0 x1):boolOf? (ent (e91 x0 x1) (.t 22))=some x1:=by kernel_rfl
def g28_4 (k0:V10→Bool→Option R) (x0:V10):Option R:=
k0 x0 (decide ((x0.2.2.1.length:Int) > (20:Int)))
theorem t28_4 (x0):exec cl N c28_4 (e93 x0) K=(g28_4 (fun y0 y1=>K .normal (e94 y0 y1)) x0):=by
 kernel_rfl
def g28_5 (k0:Int→Option R) (x0:V10) (x1:Bool):Option R:=
k0 (3:Int)
theorem t28_5 (x0 x1):exec cl N c28_5 (e94 x0 x1) K=(g28_5 (fun y0=>K .normal [(2,.v U2 y0)]) x0 x1):=by
 kernel_rfl
theorem kp28_2 (x0 x1):keep [1,2] (e94 x0 x1)=(e93 x0):=by kernel_rfl
theorem hb28_1 (x0 x1):boolOf? (ent (e94 x0 x1) (.t 26))=some x1:=by kernel_rfl
def g28_7 (k0:V10→Int→Option R) (x0:V10):Option R:=
k0 x0 (0:Int)
theorem t28_7 (x0):exec cl N c28_7 (e93 x0) K=(g28_7 (fun y0 y1=>K .normal (e95 y0 y1)) x0):=by
 kernel_rfl
theorem kp28_3 (x0 x1):keep [1,3] (e95 x0 x1)=(e95 x0 x1):=by kernel_rfl
def g28_8 (k0:V10→Int→Bool→Option R) (x0:V10) (x1:Int):Option R:=
k0 x0 x1 (decide (x1 < (x0.2.2.1.length:Int)))
theorem t28_8 (x0 x1):exec cl N c28_8 (e95 x0 x1) K=(g28_8 (fun y0 y1 y2=>K .normal (e96 y0 y1 y2)) x0 x1):=by
 kernel_rfl
theorem kp28_4 (x0 x1 x2):keep [1,3] (e96 x0 x1 x2)=(e95 x0 x1):=by kernel_rfl
theorem hb28_2 (x0 x1 x2):boolOf? (ent (e96 x0 x1 x2) (.t 31))=some x2:=by kernel_rfl
def g28_14 (S55:V1→Option (Int)) (k0:V10→Int→Int→Bool→Option R) (x0:V10) (x1:Int):Option R:=
if 0≤x1∧x1 < (x0.2.2.1.length:Int) then
(S55 (x0.2.2.1.getD x1.toNat [])).bind fun r309=>
k0 x0 x1 r309 (r309 != (0:Int))
else none
theorem t28_14 (S55) (h55:(ctr55 S55).holds cl) (x0 x1):exec cl N c28_14 (e95 x0 x1) K=(g28_14 S55 (fun y0 y1 y2 y3=>exec cl N c28_13 (e97 y0 y1 y2 y3) K) x0 x1):=by
 rw [←put_eq h55]
 kernel_rfl
def g28_12 (k0:Int→Option R) (x0:V10) (x1 x2:Int) (x3:Bool):Option R:=
k0 x2
theorem t28_12 (x0 x1 x2 x3):exec cl N c28_12 (e97 x0 x1 x2 x3) K=(g28_12 (fun y0=>K .normal [(2,.v U2 y0)]) x0 x1 x2 x3):=by
 kernel_rfl
theorem kp28_5 (x0):keep [1,2,3] [(2,.v U2 x0)]=(e98 x0):=by kernel_rfl
theorem kp28_6 (x0 x1 x2 x3):keep [1,2,3] (e97 x0 x1 x2 x3)=(e99 x0 x1):=by kernel_rfl
theorem hb28_3 (x0 x1 x2 x3):boolOf? (ent (e97 x0 x1 x2 x3) (.t 41))=some x3:=by kernel_rfl
def g28_15 (S50:V4→V1→Option (Bool)) (k0:V10→Int→Bool→Option R) (x0:V10) (x1:Int):Option R:=
if 0≤(0:Int)∧(0:Int)≤x1∧x1≤(x0.2.2.1.length:Int)∧(x0.2.2.1.length:Int)≤(x0.2.2.1.length:Int) then
if 0≤x1∧x1 < (x0.2.2.1.length:Int) then
(S50 ((x0.2.2.1.drop (0:Int).toNat).take (x1.toNat - (0:Int).toNat)) (x0.2.2.1.getD x1.toNat [])).bind fun r312=>
k0 x0 x1 r312
else none
else none
theorem t28_15 (S50) (h50:(ctr50 S50).holds cl) (x0 x1):exec cl N c28_15 (e99 x0 x1) K=(g28_15 S50 (fun y0 y1 y2=>K .normal (e100 y0 y1 y2)) x0 x1):=by
 rw [←put_eq h50]
 kernel_rfl
def g28_16 (k0:Int→Option R) (x0:V10) (x1:Int) (x2:Bool):Option R:=
k0 (5:Int)
theorem t28_16 (x0 x1 x2):exec cl N c28_16 (e100 x0 x1 x2) K=(g28_16 (fun y0=>K .normal [(2,.v U2 y0)]) x0 x1 x2):=by
 kernel_rfl
theorem kp28_7 (x0 x1 x2):keep [1,2,3] (e100 x0 x1 x2)=(e99 x0 x1):=by kernel_rfl
theorem hb28_4 (x0 x1 x2):boolOf? (ent (e100 x0 x1 x2) (.t 52))=some x2:=by kernel_rfl
theorem kp28_8 (x0):keep [1,2,3] (e98 x0)=(e98 x0):=by kernel_rfl
theorem kp28_9 (x0 x1):keep [1,2,3] (e99 x0 x1)=(e99 x0 x1):=by kernel_rfl
def g28_19 (k0:V10→Int→Option R) (x0:V10) (x1:Int):Option R:=
k0 x0 (IntKind.i64.wrap (x1+(1:Int)))
theorem t28_19 (x0 x1):exec cl N c28_19 (e99 x0 x1) K=(g28_19 (fun y0 y1=>K .normal (e95 y0 y1)) x0 x1):=by
 kernel_rfl
def g28_20 (S50:V4→V1→Option (Bool)) (S55:V1→Option (Int)) (k0:Int→Option R) (k1:V10→Int→Option R) (k2:V10→Int→Option R) (x0:V10) (x1:Int):Option R:=
(g28_8 (fun y0 y1 y2=>brB y2 ((g28_14 S55 (fun y0 y1 y2 y3=>brB y3 (g28_12 k0 y0 y1 y2 y3) ((g28_15 S50 (fun y0 y1 y2=>brB y2 (g28_16 k0 y0 y1 y2) (((g28_19 k1)) y0 y1))) y0 y1))) y0 y1) (k2 y0 y1)) x0 x1)
theorem t28_20 (S50) (S55) (h50:(ctr50 S50).holds cl) (h55:(ctr55 S55).holds cl) (x0 x1):exec cl N c28_20 (e95 x0 x1) K=(g28_20 S50 S55 (fun y0=>K .ret (e98 y0)) (fun y0 y1=>K .normal (e95 y0 y1)) (fun y0 y1=>K (.exit 0) (e95 y0 y1)) x0 x1):=by
 simp only [c28_20,exec_seq,seqK_normal,seqK_exit,seqK_ret,t28_8,c28_9,exec_out,exec_cond',hb28_2,Option.bind_some,brB_true,brB_false,exec_skip,exec_exit,kp28_4,c28_18,exec_block,t28_14 S55 h55,c28_13,hb28_3,t28_12,exec_ret,kp28_5,kp28_6,t28_15 S50 h50,c28_17,hb28_4,t28_16,kp28_7,blockK_normal,blockK_ret,blockK_eq,kp28_8,kp28_9,t28_19]
 rfl
def l28_21 {R:Type} (S50:V4→V1→Option (Bool)) (S55:V1→Option (Int)) (k0:Int→Option R) (k1:V10→Int→Option R):Nat→V10→Int→Option R
 | 0,_,_=>none
 | m+1,x0,x1=>(g28_20 S50 S55 k0 (l28_21 S50 S55 k0 k1 m) k1 x0 x1)
theorem lt28_21 (S50) (S55) (h50:(ctr50 S50).holds cl) (h55:(ctr55 S55).holds cl):∀ (m) (x0 x1),iter [1,3] (fun env K=>exec cl N c28_20 env K) K m (e95 x0 x1)=l28_21 S50 S55 (fun y0=>K .ret (e98 y0)) (fun y0 y1=>K (.exit 0) (e95 y0 y1)) m x0 x1:=by
 intro m
 induction m with
 | zero=>intros; rfl
 | succ m ih=>
   intro x0 x1
   simp only [iter_succ,t28_20 S50 S55 h50 h55,loopK_normal,loopK_exit,loopK_ret,kp28_3,ih]
   rfl
theorem kp28_10 (x0):keep [2] (e98 x0)=[(2,.v U2 x0)]:=by kernel_rfl
theorem kp28_11 (x0 x1):keep [2] (e95 x0 x1)=[(2,.dead)]:=by kernel_rfl
def g28_21 (N:Nat) (S50:V4→V1→Option (Bool)) (S55:V1→Option (Int)) (k0:Int→Option R) (k1:Option R) (x0:V10) (x1:Int):Option R:=
l28_21 S50 S55 k0 (fun y0 y1=>k1) N x0 x1
theorem t28_21 (S50) (S55) (h50:(ctr50 S50).holds cl) (h55:(ctr55 S55).holds cl) (x0 x1):exec cl N c28_21 (e95 x0 x1) K=(g28_21 N S50 S55 (fun y0=>K .ret [(2,.v U2 y0)]) (K (.exit 0) [(2,.dead)]) x0 x1):=by
 simp only [c28_21,exec_out,exec_loop,kp28_3,lt28_21 S50 S55 h50 h55,kp28_10,kp28_11]
 rfl
theorem kp28_12 (x0):keep [2] [(2,.v U2 x0)]=[(2,.v U2 x0)]:=by kernel_rfl
theorem kp28_13:keep [2] [(2,.dead)]=[(2,.dead)]:=by kernel_rfl
def g28_23 (k0:Int→Option R):Option R:=
k0 (0:Int)
theorem t28_23:exec cl N c28_23 [(2,.dead)] K=(g28_23 (fun y0=>K .normal [(2,.v U2 y0)])):=by
 kernel_rfl
def g28_24 (N:Nat) (S50:V4→V1→Option (Bool)) (S55:V1→Option (Int)) (k0:Int→Option R) (k1:Int→Option R) (x0:V10):Option R:=
(g28_0 (g28_1 (fun y0 y1=>brB y1 (g28_2 k0 y0 y1) ((g28_4 (fun y0 y1=>brB y1 (g28_5 k0 y0 y1) ((g28_7 (g28_21 N S50 S55 k1 (g28_23 k1))) y0))) y0))) x0)
theorem t28_24 (S50) (S55) (h50:(ctr50 S50).holds cl) (h55:(ctr55 S55).holds cl) (x0):exec cl N c28_24 [(0,.v U13 x0)] K=(g28_24 N S50 S55 (fun y0=>K .ret (e92 y0)) (fun y0=>K .ret [(2,.v U2 y0)]) x0):=by
 simp only [c28_24,exec_seq,seqK_normal,seqK_exit,seqK_ret,t28_0,t28_1,c28_3,exec_out,exec_cond',hb28_0,Option.bind_some,brB_true,brB_false,t28_2,exec_ret,exec_skip,kp28_0,kp28_1,t28_4,c28_6,hb28_1,t28_5,kp28_2,t28_7,c28_22,exec_block,t28_21 S50 S55 h50 h55,blockK_normal,blockK_ret,blockK_eq,kp28_12,kp28_13,t28_23]
 rfl
theorem rk28_0 (y0):retK d28 .ret (e92 y0)=some [.v U2 y0]:=by kernel_rfl
theorem rk28_1 (y0):retK d28 .ret [(2,.v U2 y0)]=some [.v U2 y0]:=by kernel_rfl
def g28 (N:Nat) (S50:V4→V1→Option (Bool)) (S55:V1→Option (Int)) (x0:V10) (k:Int→Option R):Option R:=
(g28_24 N S50 S55 k k x0)
theorem gen28 (S50) (S55) (h50:(ctr50 S50).holds cl) (h55:(ctr55 S55).holds cl) (x0) (k:List E→Option R):exec cl N c28 [(0,.v U13 x0)] (fun e env=>(retK d28 e env).bind k)=g28 N S50 S55 x0 (fun r0=>k [.v U2 r0]):=by
 simp only [c28,t28_24 S50 S55 h50 h55,rk28_0,rk28_1,Option.bind_some]
 rfl
def ctr28 (S:V10→Option (Int)):Ctr:=cv1 28 U13 S fun b=> [.v U2 b]
def S28 (N:Nat) (x0:V10):Option (Int):=g28 N (S50 N) (S55 N) x0 (fun (r0:Int)=>some (r0))
def g9_0 (k0:V15→Option R) (x0:V15):Option R:=
k0 x0
theorem t9_0 (x0):exec cl N c9_0 [(0,.v U18 x0)] K=(g9_0 (fun y0=>K .normal [(1,.loc U18 .no y0)]) x0):=by
 kernel_rfl
def g9_1 (S27:V1→Option (Bool)) (k0:V15→Bool→Option R) (x0:V15):Option R:=
(S27 x0.1).bind fun r318=>
k0 x0 (!r318)
theorem t9_1 (S27) (h27:(ctr27 S27).holds cl) (x0):exec cl N c9_1 [(1,.loc U18 .no x0)] K=(g9_1 S27 (fun y0 y1=>K .normal (e101 y0 y1)) x0):=by
 rw [←put_eq h27]
 kernel_rfl
def g9_2 (k0:Int→Option R) (x0:V15) (x1:Bool):Option R:=
k0 (2:Int)
theorem t9_2 (x0 x1):exec cl N c9_2 (e101 x0 x1) K=(g9_2 (fun y0=>K .normal [(2,.v U2 y0)]) x0 x1):=by
 kernel_rfl
theorem kp9_0 (x0):keep [1,2] [(2,.v U2 x0)]=(e92 x0):=by kernel_rfl
theorem kp9_1 (x0 x1):keep [1,2] (e101 x0 x1)=(e102 x0):=by kernel_rfl
theorem hb9_0 (x0 x1):boolOf? (ent (e101 x0 x1) (.t 8))=some x1:=by kernel_rfl
def g9_4 (k0:V15→Bool→Option R) (x0:V15):Option R:=
k0 x0 (decide ((x0.2.1.length:Int) > (30:Int)))
theorem t9_4 (x0):exec cl N c9_4 (e102 x0) K=(g9_4 (fun y0 y1=>K .normal (e103 y0 y1)) x0):=by
 kernel_rfl
def g9_5 (k0:Int→Option R) (x0:V15) (x1:Bool):Option R:=
k0 (3:Int)
theorem t9_5 (x0 x1):exec cl N c9_5 (e103 x0 x1) K=(g9_5 (fun y0=>K .normal [(2,.v U2 y0)]) x0 x1):=by
 kernel_rfl
theorem kp9_2 (x0 x1):keep [1,2] (e103 x0 x1)=(e102 x0):=by kernel_rfl
theorem hb9_1 (x0 x1):boolOf? (ent (e103 x0 x1) (.t 12))=some x1:=by kernel_rfl
def g9_7 (k0:V15→Int→Option R) (x0:V15):Option R:=
k0 x0 (0:Int)
theorem t9_7 (x0):exec cl N c9_7 (e102 x0) K=(g9_7 (fun y0 y1=>K .normal (e2 y0 y1)) x0):=by
 kernel_rfl
theorem kp9_3 (x0 x1):keep [1,3] (e2 x0 x1)=(e2 x0 x1):=by kernel_rfl
def g9_8 (k0:V15→Int→Bool→Option R) (x0:V15) (x1:Int):Option R:=
k0 x0 x1 (decide (x1 < (x0.2.1.length:Int)))
theorem t9_8 (x0 x1):exec cl N c9_8 (e2 x0 x1) K=(g9_8 (fun y0 y1 y2=>K .normal (e104 y0 y1 y2)) x0 x1):=by
 kernel_rfl
theorem kp9_4 (x0 x1 x2):keep [1,3] (e104 x0 x1 x2)=(e2 x0 x1):=by kernel_rfl
theorem hb9_2 (x0 x1 x2):boolOf? (ent (e104 x0 x1 x2) (.t 17))=some x2:=by kernel_rfl
def g9_14 (S28:V10→Option (Int)) (k0:V15→Int→Int→Bool→Option R) (x0:V15) (x1:Int):Option R:=
if 0≤x1∧x1 < (x0.2.1.length:Int) then
(S28 (x0.2.1.getD x1.toNat ((0:Int),((0:Int),([],()))))).bind fun r322=>
k0 x0 x1 r322 (r322 != (0:Int))
else none
theorem t9_14 (S28) (h28:(ctr28 S28).holds cl) (x0 x1):exec cl N c9_14 (e2 x0 x1) K=(g9_14 S28 (fun y0 y1 y2 y3=>exec cl N c9_13 (e105 y0 y1 y2 y3) K) x0 x1):=by
 rw [←put_eq h28]
 kernel_rfl
def g9_12 (k0:Int→Option R) (x0:V15) (x1 x2:Int) (x3:Bool):Option R:=
k0 x2
theorem t9_12 (x0 x1 x2 x3):exec cl N c9_12 (e105 x0 x1 x2 x3) K=(g9_12 (fun y0=>K .normal [(2,.v U2 y0)]) x0 x1 x2 x3):=by
 kernel_rfl
theorem kp9_5 (x0):keep [1,2,3] [(2,.v U2 x0)]=(e98 x0):=by kernel_rfl
theorem kp9_6 (x0 x1 x2 x3):keep [1,2,3] (e105 x0 x1 x2 x3)=(e106 x0 x1):=by kernel_rfl
theorem hb9_3 (x0 x1 x2 x3):boolOf? (ent (e105 x0 x1 x2 x3) (.t 27))=some x3:=by kernel_rfl
theorem kp9_7 (x0):keep [1,2,3] (e98 x0)=(e98 x0):=by kernel_rfl
theorem kp9_8 (x0 x1):keep [1,2,3] (e106 x0 x1)=(e106 x0 x1):=by kernel_rfl
def g9_16 (k0:V15→Int→Option R) (x0:V15) (x1:Int):Option R:=
k0 x0 (IntKind.i64.wrap (x1+(1:Int)))
theorem t9_16 (x0 x1):exec cl N c9_16 (e106 x0 x1) K=(g9_16 (fun y0 y1=>K .normal (e2 y0 y1)) x0 x1):=by
 kernel_rfl
def g9_17 (S28:V10→Option (Int)) (k0:Int→Option R) (k1:V15→Int→Option R) (k2:V15→Int→Option R) (x0:V15) (x1:Int):Option R:=
(g9_8 (fun y0 y1 y2=>brB y2 ((g9_14 S28 (fun y0 y1 y2 y3=>brB y3 (g9_12 k0 y0 y1 y2 y3) (((g9_16 k1)) y0 y1))) y0 y1) (k2 y0 y1)) x0 x1)
theorem t9_17 (S28) (h28:(ctr28 S28).holds cl) (x0 x1):exec cl N c9_17 (e2 x0 x1) K=(g9_17 S28 (fun y0=>K .ret (e98 y0)) (fun y0 y1=>K .normal (e2 y0 y1)) (fun y0 y1=>K (.exit 0) (e2 y0 y1)) x0 x1):=by
 simp only [c9_17,exec_seq,seqK_normal,seqK_exit,seqK_ret,t9_8,c9_9,exec_out,exec_cond',hb9_2,Option.bind_some,brB_true,brB_false,exec_skip,exec_exit,kp9_4,c9_15,exec_block,t9_14 S28 h28,c9_13,hb9_3,t9_12,exec_ret,kp9_5,kp9_6,blockK_normal,blockK_ret,blockK_eq,kp9_7,kp9_8,t9_16]
 rfl
def l9_18 {R:Type} (S28:V10→Option (Int)) (k0:Int→Option R) (k1:V15→Int→Option R):Nat→V15→Int→Option R
 | 0,_,_=>none
 | m+1,x0,x1=>(g9_17 S28 k0 (l9_18 S28 k0 k1 m) k1 x0 x1)
theorem lt9_18 (S28) (h28:(ctr28 S28).holds cl):∀ (m) (x0 x1),iter [1,3] (fun env K=>exec cl N c9_17 env K) K m (e2 x0 x1)=l9_18 S28 (fun y0=>K .ret (e98 y0)) (fun y0 y1=>K (.exit 0) (e2 y0 y1)) m x0 x1:=by
 intro m
 induction m with
 | zero=>intros; rfl
 | succ m ih=>
   intro x0 x1
   simp only [iter_succ,t9_17 S28 h28,loopK_normal,loopK_exit,loopK_ret,kp9_3,ih]
   rfl
theorem kp9_9 (x0):keep [2] (e98 x0)=[(2,.v U2 x0)]:=by kernel_rfl
theorem kp9_10 (x0 x1):keep [2] (e2 x0 x1)=[(2,.dead)]:=by kernel_rfl
def g9_18 (N:Nat) (S28:V10→Option (Int)) (k0:Int→Option R) (k1:Option R) (x0:V15) (x1:Int):Option R:=
l9_18 S28 k0 (fun y0 y1=>k1) N x0 x1
theorem t9_18 (S28) (h28:(ctr28 S28).holds cl) (x0 x1):exec cl N c9_18 (e2 x0 x1) K=(g9_18 N S28 (fun y0=>K .ret [(2,.v U2 y0)]) (K (.exit 0) [(2,.dead)]) x0 x1):=by
 simp only [c9_18,exec_out,exec_loop,kp9_3,lt9_18 S28 h28,kp9_10,kp9_9]
 rfl
theorem kp9_11 (x0):keep [2] [(2,.v U2 x0)]=[(2,.v U2 x0)]:=by kernel_rfl
theorem kp9_12:keep [2] [(2,.dead)]=[(2,.dead)]:=by kernel_rfl
def g9_20 (k0:Int→Option R):Option R:=
k0 (0:Int)
theorem t9_20:exec cl N c9_20 [(2,.dead)] K=(g9_20 (fun y0=>K .normal [(2,.v U2 y0)])):=by
 kernel_rfl
def g9_21 (N:Nat) (S27:V1→Option (Bool)) (S28:V10→Option (Int)) (k0:Int→Option R) (k1:Int→Option R) (x0:V15):Option R:=
(g9_0 (g9_1 S27 (fun y0 y1=>brB y1 (g9_2 k0 y0 y1) ((g9_4 (fun y0 y1=>brB y1 (g9_5 k0 y0 y1) ((g9_7 (g9_18 N S28 k1 (g9_20 k1))) y0))) y0))) x0)
theorem t9_21 (S27) (S28) (h27:(ctr27 S27).holds cl) (h28:(ctr28 S28).holds cl) (x0):exec cl N c9_21 [(0,.v U18 x0)] K=(g9_21 N S27 S28 (fun y0=>K .ret (e92 y0)) (fun y0=>K .ret [(2,.v U2 y0)]) x0):=by
 simp only [c9_21,exec_seq,seqK_normal,seqK_exit,seqK_ret,t9_0,t9_1 S27 h27,c9_3,exec_out,exec_cond',hb9_0,Option.bind_some,brB_true,brB_false,t9_2,exec_ret,exec_skip,kp9_0,kp9_1,t9_4,c9_6,hb9_1,t9_5,kp9_2,t9_7,c9_19,exec_block,t9_18 S28 h28,blockK_normal,blockK_ret,blockK_eq,kp9_11,kp9_12,t9_20]
 rfl
theorem rk9_0 (y0):retK d9 .ret (e92 y0)=some [.v U2 y0]:=by kernel_rfl
theorem rk9_1 (y0):retK d9 .ret [(2,.v U2 y0)]=some [.v U2 y0]:=by kernel_rfl
def g9 (N:Nat) (S27:V1→Option (Bool)) (S28:V10→Option (Int)) (x0:V15) (k:Int→Option R):Option R:=
(g9_21 N S27 S28 k k x0)
theorem gen9 (S27) (S28) (h27:(ctr27 S27).holds cl) (h28:(ctr28 S28).holds cl) (x0) (k:List E→Option R):exec cl N c9 [(0,.v U18 x0)] (fun e env=>(retK d9 e env).bind k)=g9 N S27 S28 x0 (fun r0=>k [.v U2 r0]):=by
 simp only [c9,t9_21 S27 S28 h27 h28,rk9_0,rk9_1,Option.bind_some]
 rfl
def ctr9 (S:V15→Option (Int)):Ctr:=cv1 9 U18 S fun b=> [.v U2 b]
def S9 (N:Nat) (x0:V15):Option (Int):=g9 N (S27 N) (S28 N) x0 (fun (r0:Int)=>some (r0))
def g76_2 (k0:Bool→Option R) (x0:Int):Option R:=
brB (decide (x0≥(97:Int))) (k0 (decide (x0≤(122:Int)))) (k0 false)
theorem t76_2 (x0):exec cl N c76_2 [(0,.v U1 x0)] K=(g76_2 (fun y0=>exec cl N .ret [(2,.v .bool y0)] K) x0):=by
 kernel_rfl
def g76_2b (k0:Bool→Option R) (x0:Int):Option R:=
(g76_2 k0 x0)
theorem t76_2b (x0):exec cl N c76_2 [(0,.v U1 x0)] K=(g76_2b (fun y0=>K .ret [(2,.v .bool y0)]) x0):=by
 simp only [exec_seq,seqK_normal,seqK_exit,seqK_ret,t76_2,exec_ret]
 rfl
theorem rk76_0 (y0):retK d76 .ret [(2,.v .bool y0)]=some [.v .bool y0]:=by kernel_rfl
def g76 (x0:Int) (k:Bool→Option R):Option R:=
(g76_2b k x0)
theorem gen76 (x0) (k:List E→Option R):exec cl N c76 [(0,.v U1 x0)] (fun e env=>(retK d76 e env).bind k)=g76 x0 (fun r0=>k [.v .bool r0]):=by
 simp only [c76,t76_2b,rk76_0,Option.bind_some]
 rfl
def ctr76 (S:Int→Option (Bool)):Ctr:=cv1 76 U1 S fun b=> [.v .bool b]
def S76 (N:Nat) (x0:Int):Option (Bool):=g76 x0 (fun (r0:Bool)=>some (r0))
def g77_2 (k0:Bool→Option R) (x0:Int):Option R:=
brB (decide (x0≥(48:Int))) (k0 (decide (x0≤(57:Int)))) (k0 false)
theorem t77_2 (x0):exec cl N c77_2 [(0,.v U1 x0)] K=(g77_2 (fun y0=>exec cl N .ret [(2,.v .bool y0)] K) x0):=by
 kernel_rfl
def g77_2b (k0:Bool→Option R) (x0:Int):Option R:=
(g77_2 k0 x0)
theorem t77_2b (x0):exec cl N c77_2 [(0,.v U1 x0)] K=(g77_2b (fun y0=>K .ret [(2,.v .bool y0)]) x0):=by
 simp only [exec_seq,seqK_normal,seqK_exit,seqK_ret,t77_2,exec_ret]
 rfl
theorem rk77_0 (y0):retK d77 .ret [(2,.v .bool y0)]=some [.v .bool y0]:=by kernel_rfl
def g77 (x0:Int) (k:Bool→Option R):Option R:=
(g77_2b k x0)
theorem gen77 (x0) (k:List E→Option R):exec cl N c77 [(0,.v U1 x0)] (fun e env=>(retK d77 e env).bind k)=g77 x0 (fun r0=>k [.v .bool r0]):=by
 simp only [c77,t77_2b,rk77_0,Option.bind_some]
 rfl
def ctr77 (S:Int→Option (Bool)):Ctr:=cv1 77 U1 S fun b=> [.v .bool b]
def S77 (N:Nat) (x0:Int):Option (Bool):=g77 x0 (fun (r0:Bool)=>some (r0))
def g65_0 (k0:V1→Option R) (x0:V1):Option R:=
k0 x0
theorem t65_0 (x0):exec cl N c65_0 [(0,.v .str x0)] K=(g65_0 (fun y0=>K .normal [(0,.v .str y0)]) x0):=by
 kernel_rfl
def g65_1 (S76:Int→Option (Bool)) (k0:V1→Bool→Option R) (x0:V1):Option R:=
brB (x0==([]:List UInt8)) (k0 x0 true) (if 0≤(0:Int)∧(0:Int) < (x0.length:Int) then
(S76 ((x0.getD (0:Int).toNat 0).toNat:Int)).bind fun r355=>
k0 x0 (!r355)
else none)
theorem t65_1 (S76) (h76:(ctr76 S76).holds cl) (x0):exec cl N c65_1 [(0,.v .str x0)] K=(g65_1 S76 (fun y0 y1=>K .normal (e107 y0 y1)) x0):=by
 rw [←put_eq h76]
 kernel_rfl
def g65_2 (k0:Int→Option R) (x0:V1) (x1:Bool):Option R:=
k0 (0:Int)
theorem t65_2 (x0 x1):exec cl N c65_2 (e107 x0 x1) K=(g65_2 (fun y0=>K .normal [(2,.v U2 y0)]) x0 x1):=by
 kernel_rfl
theorem kp65_0 (x0):keep [0,2] [(2,.v U2 x0)]=(e74 x0):=by kernel_rfl
theorem kp65_1 (x0 x1):keep [0,2] (e107 x0 x1)=(e75 x0):=by kernel_rfl
theorem hb65_0 (x0 x1):boolOf? (ent (e107 x0 x1) (.t 12))=some x1:=by kernel_rfl
def g65_4 (k0:V1→Int→Option R) (x0:V1):Option R:=
k0 x0 (1:Int)
theorem t65_4 (x0):exec cl N c65_4 (e75 x0) K=(g65_4 (fun y0 y1=>K .normal (e76 y0 y1)) x0):=by
 kernel_rfl
theorem kp65_2 (x0 x1):keep [0,3] (e76 x0 x1)=(e76 x0 x1):=by kernel_rfl
def g65_5 (k0:V1→Int→Bool→Option R) (x0:V1) (x1:Int):Option R:=
k0 x0 x1 (decide (x1 < (x0.length:Int)))
theorem t65_5 (x0 x1):exec cl N c65_5 (e76 x0 x1) K=(g65_5 (fun y0 y1 y2=>K .normal (e108 y0 y1 y2)) x0 x1):=by
 kernel_rfl
theorem kp65_3 (x0 x1 x2):keep [0,3] (e108 x0 x1 x2)=(e76 x0 x1):=by kernel_rfl
theorem hb65_1 (x0 x1 x2):boolOf? (ent (e108 x0 x1 x2) (.t 16))=some x2:=by kernel_rfl
def g65_7 (k0:V1→Int→Int→Option R) (x0:V1) (x1:Int):Option R:=
if 0≤x1∧x1 < (x0.length:Int) then
k0 x0 x1 ((x0.getD x1.toNat 0).toNat:Int)
else none
theorem t65_7 (x0 x1):exec cl N c65_7 (e76 x0 x1) K=(g65_7 (fun y0 y1 y2=>K .normal [(0,.v .str y0),(3,.v U2 y1),(4,.v U1 y2)]) x0 x1):=by
 kernel_rfl
def g65_8 (S76:Int→Option (Bool)) (S77:Int→Option (Bool)) (k0:V1→Int→Int→Bool→Option R) (x0:V1) (x1 x2:Int):Option R:=
(S76 x2).bind fun r358=>
brB r358 (k0 x0 x1 x2 true) ((S77 x2).bind fun r359=>
k0 x0 x1 x2 r359)
theorem t65_8 (S76) (S77) (h76:(ctr76 S76).holds cl) (h77:(ctr77 S77).holds cl) (x0 x1 x2):exec cl N c65_8 [(0,.v .str x0),(3,.v U2 x1),(4,.v U1 x2)] K=(g65_8 S76 S77 (fun y0 y1 y2 y3=>K .normal (e109 y0 y1 y2 y3)) x0 x1 x2):=by
 rw [←put_eq h76]
 rw [←put_eq h77]
 kernel_rfl
def g65_9 (k0:V1→Int→Option R) (x0:V1) (x1 x2:Int) (x3:Bool):Option R:=
k0 x0 (IntKind.i64.wrap (x1+(1:Int)))
theorem t65_9 (x0 x1 x2 x3):exec cl N c65_9 (e109 x0 x1 x2 x3) K=(g65_9 (fun y0 y1=>K .normal (e76 y0 y1)) x0 x1 x2 x3):=by
 kernel_rfl
theorem kp65_4 (x0 x1):keep [0,2,3] (e76 x0 x1)=(e90 x0 x1):=by kernel_rfl
def g65_10 (S76:Int→Option (Bool)) (S77:Int→Option (Bool)) (k0:V1→Int→Bool→Option R) (x0:V1) (x1 x2:Int) (x3:Bool):Option R:=
brB (x2==(45:Int)) (brB (decide ((IntKind.i64.wrap (x1+(1:Int))) < (x0.length:Int))) (let v364:Int:=(IntKind.i64.wrap (x1+(1:Int)))
if 0≤v364∧v364 < (x0.length:Int) then
(S76 ((x0.getD v364.toNat 0).toNat:Int)).bind fun r366=>
brB r366 (k0 x0 x1 true) (let v367:Int:=(IntKind.i64.wrap (x1+(1:Int)))
if 0≤v367∧v367 < (x0.length:Int) then
(S77 ((x0.getD v367.toNat 0).toNat:Int)).bind fun r369=>
k0 x0 x1 r369
else none)
else none) (k0 x0 x1 false)) (k0 x0 x1 false)
theorem t65_10 (S76) (S77) (h76:(ctr76 S76).holds cl) (h77:(ctr77 S77).holds cl) (x0 x1 x2 x3):exec cl N c65_10 (e109 x0 x1 x2 x3) K=(g65_10 S76 S77 (fun y0 y1 y2=>K .normal (e110 y0 y1 y2)) x0 x1 x2 x3):=by
 rw [←put_eq h76]
 rw [←put_eq h77]
 kernel_rfl
def g65_11 (k0:V1→Int→Option R) (x0:V1) (x1:Int) (x2:Bool):Option R:=
k0 x0 (IntKind.i64.wrap (x1+(2:Int)))
theorem t65_11 (x0 x1 x2):exec cl N c65_11 (e110 x0 x1 x2) K=(g65_11 (fun y0 y1=>K .normal (e76 y0 y1)) x0 x1 x2):=by
 kernel_rfl
def g65_12 (k0:Int→Option R) (x0:V1) (x1:Int) (x2:Bool):Option R:=
k0 x1
theorem t65_12 (x0 x1 x2):exec cl N c65_12 (e110 x0 x1 x2) K=(g65_12 (fun y0=>K .normal [(2,.v U2 y0)]) x0 x1 x2):=by
 kernel_rfl
theorem kp65_5 (x0):keep [0,2,3] [(2,.v U2 x0)]=(e89 x0):=by kernel_rfl
theorem hb65_2 (x0 x1 x2):boolOf? (ent (e110 x0 x1 x2) (.t 30))=some x2:=by kernel_rfl
theorem kp65_6 (x0 x1):keep [0,2,3] (e90 x0 x1)=(e90 x0 x1):=by kernel_rfl
theorem kp65_7 (x0):keep [0,2,3] (e89 x0)=(e89 x0):=by kernel_rfl
theorem hb65_3 (x0 x1 x2 x3):boolOf? (ent (e109 x0 x1 x2 x3) (.t 21))=some x3:=by kernel_rfl
def g65_17 (S76:Int→Option (Bool)) (S77:Int→Option (Bool)) (k0:V1→Int→Option R) (k1:Int→Option R) (k2:V1→Int→Option R) (x0:V1) (x1:Int):Option R:=
(g65_5 (fun y0 y1 y2=>brB y2 ((g65_7 (g65_8 S76 S77 (fun y0 y1 y2 y3=>brB y3 (g65_9 k0 y0 y1 y2 y3) (g65_10 S76 S77 (fun y0 y1 y2=>brB y2 (g65_11 k0 y0 y1 y2) (g65_12 k1 y0 y1 y2)) y0 y1 y2 y3)))) y0 y1) (k2 y0 y1)) x0 x1)
theorem t65_17 (S76) (S77) (h76:(ctr76 S76).holds cl) (h77:(ctr77 S77).holds cl) (x0 x1):exec cl N c65_17 (e76 x0 x1) K=(g65_17 S76 S77 (fun y0 y1=>K .normal (e90 y0 y1)) (fun y0=>K .ret (e89 y0)) (fun y0 y1=>K (.exit 0) (e76 y0 y1)) x0 x1):=by
 simp only [c65_17,exec_seq,seqK_normal,seqK_exit,seqK_ret,t65_5,c65_6,exec_out,exec_cond',hb65_1,Option.bind_some,brB_true,brB_false,exec_skip,exec_exit,kp65_3,c65_16,exec_block,t65_7,c65_15,t65_8 S76 S77 h76 h77,c65_14,hb65_3,t65_9,t65_10 S76 S77 h76 h77,c65_13,hb65_2,t65_11,t65_12,exec_ret,kp65_4,kp65_5,kp65_6,kp65_7,blockK_normal,blockK_ret,blockK_eq]
 rfl
theorem kp65_8 (x0 x1):keep [0,3] (e90 x0 x1)=(e76 x0 x1):=by kernel_rfl
def l65_18 {R:Type} (S76:Int→Option (Bool)) (S77:Int→Option (Bool)) (k0:Int→Option R) (k1:V1→Int→Option R):Nat→V1→Int→Option R
 | 0,_,_=>none
 | m+1,x0,x1=>(g65_17 S76 S77 (l65_18 S76 S77 k0 k1 m) k0 k1 x0 x1)
theorem lt65_18 (S76) (S77) (h76:(ctr76 S76).holds cl) (h77:(ctr77 S77).holds cl):∀ (m) (x0 x1),iter [0,3] (fun env K=>exec cl N c65_17 env K) K m (e76 x0 x1)=l65_18 S76 S77 (fun y0=>K .ret (e89 y0)) (fun y0 y1=>K (.exit 0) (e76 y0 y1)) m x0 x1:=by
 intro m
 induction m with
 | zero=>intros; rfl
 | succ m ih=>
   intro x0 x1
   simp only [iter_succ,t65_17 S76 S77 h76 h77,loopK_normal,loopK_exit,loopK_ret,kp65_8,ih]
   rfl
theorem kp65_9 (x0):keep [2,3] (e89 x0)=(e111 x0):=by kernel_rfl
theorem kp65_10 (x0 x1):keep [2,3] (e76 x0 x1)=(e112 x1):=by kernel_rfl
def g65_18 (N:Nat) (S76:Int→Option (Bool)) (S77:Int→Option (Bool)) (k0:Int→Option R) (k1:Int→Option R) (x0:V1) (x1:Int):Option R:=
l65_18 S76 S77 k0 (fun y0 y1=>k1 y1) N x0 x1
theorem t65_18 (S76) (S77) (h76:(ctr76 S76).holds cl) (h77:(ctr77 S77).holds cl) (x0 x1):exec cl N c65_18 (e76 x0 x1) K=(g65_18 N S76 S77 (fun y0=>K .ret (e111 y0)) (fun y0=>K (.exit 0) (e112 y0)) x0 x1):=by
 simp only [c65_18,exec_out,exec_loop,kp65_2,lt65_18 S76 S77 h76 h77,kp65_10,kp65_9]
 rfl
theorem kp65_11 (x0):keep [2,3] (e111 x0)=(e111 x0):=by kernel_rfl
theorem kp65_12 (x0):keep [2,3] (e112 x0)=(e112 x0):=by kernel_rfl
def g65_20 (k0:Int→Option R) (x0:Int):Option R:=
k0 x0
theorem t65_20 (x0):exec cl N c65_20 (e112 x0) K=(g65_20 (fun y0=>K .normal [(2,.v U2 y0)]) x0):=by
 kernel_rfl
def g65_21 (N:Nat) (S76:Int→Option (Bool)) (S77:Int→Option (Bool)) (k0:Int→Option R) (k1:Int→Option R) (k2:Int→Option R) (x0:V1):Option R:=
(g65_0 (g65_1 S76 (fun y0 y1=>brB y1 (g65_2 k0 y0 y1) ((g65_4 (g65_18 N S76 S77 k1 ((g65_20 k2)))) y0))) x0)
theorem t65_21 (S76) (S77) (h76:(ctr76 S76).holds cl) (h77:(ctr77 S77).holds cl) (x0):exec cl N c65_21 [(0,.v .str x0)] K=(g65_21 N S76 S77 (fun y0=>K .ret (e74 y0)) (fun y0=>K .ret (e111 y0)) (fun y0=>K .ret [(2,.v U2 y0)]) x0):=by
 simp only [c65_21,exec_seq,seqK_normal,seqK_exit,seqK_ret,t65_0,t65_1 S76 h76,c65_3,exec_out,exec_cond',hb65_0,Option.bind_some,brB_true,brB_false,t65_2,exec_ret,exec_skip,kp65_0,kp65_1,t65_4,c65_19,exec_block,t65_18 S76 S77 h76 h77,blockK_normal,blockK_ret,blockK_eq,kp65_11,kp65_12,t65_20]
 rfl
theorem rk65_0 (y0):retK d65 .ret (e74 y0)=some [.v U2 y0]:=by kernel_rfl
theorem rk65_1 (y0):retK d65 .ret (e111 y0)=some [.v U2 y0]:=by kernel_rfl
theorem rk65_2 (y0):retK d65 .ret [(2,.v U2 y0)]=some [.v U2 y0]:=by kernel_rfl
def g65 (N:Nat) (S76:Int→Option (Bool)) (S77:Int→Option (Bool)) (x0:V1) (k:Int→Option R):Option R:=
(g65_21 N S76 S77 k k k x0)
theorem gen65 (S76) (S77) (h76:(ctr76 S76).holds cl) (h77:(ctr77 S77).holds cl) (x0) (k:List E→Option R):exec cl N c65 [(0,.v .str x0)] (fun e env=>(retK d65 e env).bind k)=g65 N S76 S77 x0 (fun r0=>k [.v U2 r0]):=by
 simp only [c65,t65_21 S76 S77 h76 h77,rk65_0,rk65_1,rk65_2,Option.bind_some]
 rfl
def ctr65 (S:V1→Option (Int)):Ctr:=cv1 65 .str S fun b=> [.v U2 b]
def S65 (N:Nat) (x0:V1):Option (Int):=g65 N (S76 N) (S77 N) x0 (fun (r0:Int)=>some (r0))
def g42_2 (S65:V1→Option (Int)) (k0:Bool→Option R) (x0:V1):Option R:=
brB (x0 != ([]:List UInt8)) (brB (decide ((x0.length:Int)≤(20:Int))) ((S65 x0).bind fun r375=>
k0 (r375==(x0.length:Int))) (k0 false)) (k0 false)
theorem t42_2 (S65) (h65:(ctr65 S65).holds cl) (x0):exec cl N c42_2 [(0,.v .str x0)] K=(g42_2 S65 (fun y0=>exec cl N .ret [(2,.v .bool y0)] K) x0):=by
 rw [←put_eq h65]
 kernel_rfl
def g42_2b (S65:V1→Option (Int)) (k0:Bool→Option R) (x0:V1):Option R:=
(g42_2 S65 k0 x0)
theorem t42_2b (S65) (h65:(ctr65 S65).holds cl) (x0):exec cl N c42_2 [(0,.v .str x0)] K=(g42_2b S65 (fun y0=>K .ret [(2,.v .bool y0)]) x0):=by
 simp only [exec_seq,seqK_normal,seqK_exit,seqK_ret,t42_2 S65 h65,exec_ret]
 rfl
theorem rk42_0 (y0):retK d42 .ret [(2,.v .bool y0)]=some [.v .bool y0]:=by kernel_rfl
def g42 (S65:V1→Option (Int)) (x0:V1) (k:Bool→Option R):Option R:=
(g42_2b S65 k x0)
theorem gen42 (S65) (h65:(ctr65 S65).holds cl) (x0) (k:List E→Option R):exec cl N c42 [(0,.v .str x0)] (fun e env=>(retK d42 e env).bind k)=g42 S65 x0 (fun r0=>k [.v .bool r0]):=by
 simp only [c42,t42_2b S65 h65,rk42_0,Option.bind_some]
 rfl
def ctr42 (S:V1→Option (Bool)):Ctr:=cv1 42 .str S fun b=> [.v .bool b]
def S42 (N:Nat) (x0:V1):Option (Bool):=g42 (S65 N) x0 (fun (r0:Bool)=>some (r0))
def g80_2 (S86:V1→Int→Option (Int)) (k0:Int→Option R) (x0:V1) (x1:Int):Option R:=
(S86 x0 x1).bind fun r392=>
k0 r392
theorem t80_2 (S86) (h86:(ctr86 S86).holds cl) (x0 x1):exec cl N c80_2 [(0,.v .str x0),(1,.v U1 x1)] K=(g80_2 S86 (fun y0=>exec cl N .ret [(4,.v U2 y0)] K) x0 x1):=by
 rw [←put_eq h86]
 kernel_rfl
def g80_2b (S86:V1→Int→Option (Int)) (k0:Int→Option R) (x0:V1) (x1:Int):Option R:=
(g80_2 S86 k0 x0 x1)
theorem t80_2b (S86) (h86:(ctr86 S86).holds cl) (x0 x1):exec cl N c80_2 [(0,.v .str x0),(1,.v U1 x1)] K=(g80_2b S86 (fun y0=>K .ret [(4,.v U2 y0)]) x0 x1):=by
 simp only [exec_seq,seqK_normal,seqK_exit,seqK_ret,t80_2 S86 h86,exec_ret]
 rfl
theorem rk80_0 (y0):retK d80 .ret [(4,.v U2 y0)]=some [.v U2 y0]:=by kernel_rfl
def g80 (S86:V1→Int→Option (Int)) (x0:V1) (x1:Int) (k:Int→Option R):Option R:=
(g80_2b S86 k x0 x1)
theorem gen80 (S86) (h86:(ctr86 S86).holds cl) (x0 x1) (k:List E→Option R):exec cl N c80 [(0,.v .str x0),(1,.v U1 x1)] (fun e env=>(retK d80 e env).bind k)=g80 S86 x0 x1 (fun r0=>k [.v U2 r0]):=by
 simp only [c80,t80_2b S86 h86,rk80_0,Option.bind_some]
 rfl
def ctr80 (S:V1→Int→Option (Int)):Ctr:=cv2 80 .str U1 S fun b=> [.v U2 b]
def S80 (N:Nat) (x0:V1) (x1:Int):Option (Int):=g80 (S86 N) x0 x1 (fun (r0:Int)=>some (r0))
def g89_2 (S80:V1→Int→Option (Int)) (k0:Bool→Option R) (x0:Int):Option R:=
brB (decide (x0≥(32:Int))) (brB (decide (x0≤(126:Int))) ((S80 ([32,46,44,59,58,33,63,34,45,91,93,60,62,123,125]:List UInt8) x0).bind fun r397=>
k0 (decide (r397 < (0:Int)))) (k0 false)) (k0 false)
theorem t89_2 (S80) (h80:(ctr80 S80).holds cl) (x0):exec cl N c89_2 [(0,.v U1 x0)] K=(g89_2 S80 (fun y0=>exec cl N .ret [(2,.v .bool y0)] K) x0):=by
 rw [←put_eq h80]
 kernel_rfl
def g89_2b (S80:V1→Int→Option (Int)) (k0:Bool→Option R) (x0:Int):Option R:=
(g89_2 S80 k0 x0)
theorem t89_2b (S80) (h80:(ctr80 S80).holds cl) (x0):exec cl N c89_2 [(0,.v U1 x0)] K=(g89_2b S80 (fun y0=>K .ret [(2,.v .bool y0)]) x0):=by
 simp only [exec_seq,seqK_normal,seqK_exit,seqK_ret,t89_2 S80 h80,exec_ret]
 rfl
theorem rk89_0 (y0):retK d89 .ret [(2,.v .bool y0)]=some [.v .bool y0]:=by kernel_rfl
def g89 (S80:V1→Int→Option (Int)) (x0:Int) (k:Bool→Option R):Option R:=
(g89_2b S80 k x0)
theorem gen89 (S80) (h80:(ctr80 S80).holds cl) (x0) (k:List E→Option R):exec cl N c89 [(0,.v U1 x0)] (fun e env=>(retK d89 e env).bind k)=g89 S80 x0 (fun r0=>k [.v .bool r0]):=by
 simp only [c89,t89_2b S80 h80,rk89_0,Option.bind_some]
 rfl
def ctr89 (S:Int→Option (Bool)):Ctr:=cv1 89 U1 S fun b=> [.v .bool b]
def S89 (N:Nat) (x0:Int):Option (Bool):=g89 (S80 N) x0 (fun (r0:Bool)=>some (r0))
def g88_2 (S89:Int→Option (Bool)) (k0:Bool→Option R) (x0:Int):Option R:=
(S89 x0).bind fun r400=>
k0 (!r400)
theorem t88_2 (S89) (h89:(ctr89 S89).holds cl) (x0):exec cl N c88_2 [(0,.v U1 x0)] K=(g88_2 S89 (fun y0=>exec cl N .ret [(2,.v .bool y0)] K) x0):=by
 rw [←put_eq h89]
 kernel_rfl
def g88_2b (S89:Int→Option (Bool)) (k0:Bool→Option R) (x0:Int):Option R:=
(g88_2 S89 k0 x0)
theorem t88_2b (S89) (h89:(ctr89 S89).holds cl) (x0):exec cl N c88_2 [(0,.v U1 x0)] K=(g88_2b S89 (fun y0=>K .ret [(2,.v .bool y0)]) x0):=by
 simp only [exec_seq,seqK_normal,seqK_exit,seqK_ret,t88_2 S89 h89,exec_ret]
 rfl
theorem rk88_0 (y0):retK d88 .ret [(2,.v .bool y0)]=some [.v .bool y0]:=by kernel_rfl
def g88 (S89:Int→Option (Bool)) (x0:Int) (k:Bool→Option R):Option R:=
(g88_2b S89 k x0)
theorem gen88 (S89) (h89:(ctr89 S89).holds cl) (x0) (k:List E→Option R):exec cl N c88 [(0,.v U1 x0)] (fun e env=>(retK d88 e env).bind k)=g88 S89 x0 (fun r0=>k [.v .bool r0]):=by
 simp only [c88,t88_2b S89 h89,rk88_0,Option.bind_some]
 rfl
def ctr88 (S:Int→Option (Bool)):Ctr:=cv1 88 U1 S fun b=> [.v .bool b]
def S88 (N:Nat) (x0:Int):Option (Bool):=g88 (S89 N) x0 (fun (r0:Bool)=>some (r0))
end Go.Fw.L19
