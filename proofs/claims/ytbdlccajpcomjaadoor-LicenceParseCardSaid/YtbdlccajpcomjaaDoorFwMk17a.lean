/- Own work. -/
import Derived.Test.YtbdlccajpcomjaaDoorFwYk17
import Derived.Test.YtbdlccajpcomjaaDoorFwB4
set_option linter.unusedVariables false
set_option linter.unusedSimpArgs false
namespace Go.Fw.L19
open Go Go.Fw
set_option maxRecDepth 100000
abbrev cv1 (f:FuncId) (T0:Ty) {B:Type} (S:den T0→Option B) (ent:B→List E):Ctr:={A:=den T0×Unit,B:=B,f:=f,enc:=fun a=> [.v T0 a.1],dec:=(decC (decV T0) dec0),S:=fun a=>S a.1,ent:=ent,ok:=(decV_cons (T:=T0) (fun es b h=>dec0_some h))}
abbrev cv2 (f:FuncId) (T0 T1:Ty) {B:Type} (S:den T0→den T1→Option B) (ent:B→List E):Ctr:={A:=den T0×den T1×Unit,B:=B,f:=f,enc:=fun a=> [.v T0 a.1,.v T1 a.2.1],dec:=(decC (decV T0) (decC (decV T1) dec0)),S:=fun a=>S a.1 a.2.1,ent:=ent,ok:=(decV_cons (T:=T0) (decV_cons (T:=T1) (fun es b h=>dec0_some h)))}
abbrev cv4 (f:FuncId) (T0 T1 T2 T3:Ty) {B:Type} (S:den T0→den T1→den T2→den T3→Option B) (ent:B→List E):Ctr:={A:=den T0×den T1×den T2×den T3×Unit,B:=B,f:=f,enc:=fun a=> [.v T0 a.1,.v T1 a.2.1,.v T2 a.2.2.1,.v T3 a.2.2.2.1],dec:=(decC (decV T0) (decC (decV T1) (decC (decV T2) (decC (decV T3) dec0)))),S:=fun a=>S a.1 a.2.1 a.2.2.1 a.2.2.2.1,ent:=ent,ok:=(decV_cons (T:=T0) (decV_cons (T:=T1) (decV_cons (T:=T2) (decV_cons (T:=T3) (fun es b h=>dec0_some h)))))}
abbrev e0:=fun x0 x1=>([(0,.v .str x0),(12,.v .bool x1)]:Env)
abbrev e1:=fun x0=>([(0,.dead),(2,.v U2 x0)]:Env)
abbrev e2:=fun x0=>([(0,.v .str x0),(2,.dead)]:Env)
abbrev e3:=fun x0 x1=>([(0,.v .str x0),(3,.v U2 x1)]:Env)
abbrev e4:=fun x0 x1 x2=>([(0,.v .str x0),(3,.v U2 x1),(16,.v .bool x2)]:Env)
abbrev e5:=fun x0 x1 x2 x3=>([(0,.v .str x0),(3,.v U2 x1),(4,.v U0 x2),(21,.v .bool x3)]:Env)
abbrev e6:=fun x0 x1=>([(0,.v .str x0),(2,.dead),(3,.v U2 x1)]:Env)
abbrev e7:=fun x0 x1 x2=>([(0,.v .str x0),(3,.v U2 x1),(30,.v .bool x2)]:Env)
abbrev e8:=fun x0=>([(0,.dead),(2,.v U2 x0),(3,.dead)]:Env)
abbrev e9:=fun x0=>([(2,.v U2 x0),(3,.dead)]:Env)
abbrev e10:=fun x0=>([(2,.dead),(3,.v U2 x0)]:Env)
abbrev e11:=fun x0 x1 x2=>([(0,.v .str x0),(3,.v U2 x1),(13,.v .bool x2)]:Env)
abbrev e12:=fun x0 x1=>([(0,.v .str x0),(30,.v .bool x1)]:Env)
abbrev e13:=fun x0 x1=>([(2,.v U2 x0),(3,.v .bool x1)]:Env)
abbrev e14:=fun x0 x1=>([(0,.dead),(2,.v U2 x0),(3,.v .bool x1)]:Env)
abbrev e15:=fun x0=>([(0,.v .str x0),(2,.dead),(3,.dead)]:Env)
abbrev e16:=fun x0 x1=>([(0,.v .str x0),(4,.v U2 x1)]:Env)
abbrev e17:=fun x0 x1 x2 x3=>([(4,.v U2 x0),(32,.own true 4294967295 U0 .no x1),(33,.v U2 x2),(34,.v U2 x3)]:Env)
abbrev e18:=fun x0 x1 x2 x3 x4=>([(4,.v U2 x0),(32,.own true 4294967295 U0 .no x1),(33,.v U2 x2),(34,.v U2 x3),(35,.v .bool x4)]:Env)
abbrev e19:=fun x0 x1 x2=>([(0,.v .str x0),(4,.v U2 x1),(14,.v .bool x2)]:Env)
abbrev e20:=fun x0 x1 x2=>([(0,.v .str x0),(4,.v U2 x1),(17,.v .bool x2)]:Env)
abbrev e21:=fun x0 x1=>([(2,.v .str x0),(3,.v U2 x1)]:Env)
abbrev e22:=fun x0 x1=>([(0,.dead),(2,.v .str x0),(3,.v U2 x1),(4,.dead)]:Env)
abbrev e23:=fun x0 x1 x2=>([(0,.v .str x0),(4,.v U2 x1),(28,.v .bool x2)]:Env)
abbrev e24:=fun x0 x1=>([(0,.v .str x0),(2,.dead),(3,.dead),(4,.v U2 x1)]:Env)
abbrev e25:=fun x0 x1=>([(0,.v .str x0),(2,.loc U12 .no x1)]:Env)
abbrev e26:=fun x0 x1 x2 x3=>([(0,.v .str x0),(2,.loc U12 .no x1),(5,.v U0 x2),(14,.v .bool x3)]:Env)
abbrev e27:=fun x0 x1 x2 x3=>([(0,.v .str x0),(2,.loc U12 .no x1),(6,.v U2 x2),(20,.v .bool x3)]:Env)
abbrev e28:=fun x0 x1 x2=>([(2,.loc U12 .no x0),(3,.v U2 x1),(4,.v U2 x2)]:Env)
abbrev e29:=fun x0 x1 x2=>([(0,.dead),(2,.loc U12 .no x0),(3,.v U2 x1),(4,.v U2 x2),(6,.dead)]:Env)
abbrev e30:=fun x0 x1 x2=>([(0,.v .str x0),(2,.loc U12 .no x1),(3,.dead),(4,.dead),(6,.v U2 x2)]:Env)
abbrev e31:=fun x0 x1 x2 x3=>([(0,.v .str x0),(2,.loc U12 .no x1),(5,.v U0 x2),(27,.v .bool x3)]:Env)
abbrev e32:=fun x0 x1 x2 x3=>([(0,.v .str x0),(2,.loc U12 .no x1),(7,.v U2 x2),(33,.v .bool x3)]:Env)
abbrev e33:=fun x0 x1 x2=>([(0,.dead),(2,.loc U12 .no x0),(3,.v U2 x1),(4,.v U2 x2),(7,.dead)]:Env)
abbrev e34:=fun x0 x1 x2=>([(0,.v .str x0),(2,.loc U12 .no x1),(3,.dead),(4,.dead),(7,.v U2 x2)]:Env)
abbrev e35:=fun x0 x1 x2 x3=>([(0,.v .str x0),(2,.loc U12 .no x1),(7,.v U2 x2),(43,.v .bool x3)]:Env)
abbrev e36:=fun x0 x1 x2 x3=>([(0,.v .str x0),(2,.loc U12 .no x1),(5,.v U0 x2),(50,.v .bool x3)]:Env)
abbrev e37:=fun x0 x1 x2=>([(0,.v .str x0),(2,.loc U12 .no x1),(64,.v .bool x2)]:Env)
abbrev e38:=fun x0=>([(2,.loc U12 .no x0),(3,.dead),(4,.dead)]:Env)
abbrev e39:=fun x0 x1=>([(0,.v .str x0),(13,.v .bool x1)]:Env)
abbrev e40:=fun x0 x1 x2=>([(2,.own true 58 U12 .no x0),(3,.v U2 x1),(4,.v U2 x2)]:Env)
abbrev e41:=fun x0 x1 x2=>([(0,.dead),(2,.own true 58 U12 .no x0),(3,.v U2 x1),(4,.v U2 x2)]:Env)
abbrev e42:=fun x0=>([(0,.v .str x0),(2,.dead),(3,.dead),(4,.dead)]:Env)
abbrev e43:=fun x0 x1 x2 x3=>([(0,.v .str x0),(5,.own true 58 U12 .no x1),(6,.v U2 x2),(7,.v U2 x3)]:Env)
abbrev e44:=fun x0 x1 x2 x3 x4=>([(0,.v .str x0),(5,.own true 58 U12 .no x1),(6,.v U2 x2),(7,.v U2 x3),(17,.v .bool x4)]:Env)
abbrev e45:=fun x0 x1 x2 x3 x4=>([(0,.v .str x0),(5,.own true 58 U12 .no x1),(6,.v U2 x2),(7,.v U2 x3),(20,.v U0 x4)]:Env)
abbrev e46:=fun x0 x1 x2 x3 x4 x5=>([(0,.v .str x0),(5,.own true 58 U12 .no x1),(6,.v U2 x2),(7,.v U2 x3),(20,.v U0 x4),(42,.v .bool x5)]:Env)
abbrev e47:=fun x0 x1 x2 x3=>([(0,.v .str x0),(2,.dead),(3,.dead),(4,.dead),(5,.own true 58 U12 .no x1),(6,.v U2 x2),(7,.v U2 x3)]:Env)
abbrev e48:=fun x0 x1 x2 x3 x4 x5=>([(0,.v .str x0),(5,.own true 58 U12 .no x1),(6,.v U2 x2),(7,.v U2 x3),(20,.v U0 x4),(48,.v .bool x5)]:Env)
abbrev e49:=fun x0 x1 x2 x3 x4=>([(0,.v .str x0),(5,.own true 58 U12 .no x1),(6,.v U2 x2),(7,.v U2 x3),(54,.v .bool x4)]:Env)
abbrev e50:=fun x0 x1 x2 x3 x4=>([(0,.v .str x0),(5,.own true 58 U12 .no x1),(6,.v U2 x2),(7,.v U2 x3),(65,.v .bool x4)]:Env)
abbrev e51:=fun x0 x1 x2 x3 x4 x5 x6=>([(0,.v .str x0),(5,.own true 58 U12 .no x1),(6,.v U2 x2),(7,.v U2 x3),(8,.loc U12 .no x4),(9,.v U2 x5),(10,.v U2 x6)]:Env)
abbrev e52:=fun x0 x1 x2 x3 x4 x5 x6 x7=>([(0,.v .str x0),(5,.own true 58 U12 .no x1),(6,.v U2 x2),(7,.v U2 x3),(8,.loc U12 .no x4),(9,.v U2 x5),(10,.v U2 x6),(30,.v .bool x7)]:Env)
abbrev e53:=fun x0 x1 x2=>([(0,.dead),(2,.own true 58 U12 .no x0),(3,.v U2 x1),(4,.v U2 x2),(5,.dead),(6,.dead),(7,.dead),(8,.dead),(9,.dead)]:Env)
abbrev e54:=fun x0 x1 x2 x3 x4 x5=>([(0,.v .str x0),(2,.dead),(3,.dead),(4,.dead),(5,.own true 58 U12 .no x1),(6,.v U2 x2),(7,.v U2 x3),(8,.loc U12 .no x4),(9,.v U2 x5)]:Env)
abbrev e55:=fun x0 x1 x2=>([(0,.dead),(2,.own true 58 U12 .no x0),(3,.v U2 x1),(4,.v U2 x2),(5,.dead),(6,.dead),(7,.dead)]:Env)
abbrev e56:=fun x0 x1 x2=>([(2,.own true 58 U12 .no x0),(3,.v U2 x1),(4,.v U2 x2),(5,.dead)]:Env)
abbrev e57:=fun x0=>([(2,.dead),(3,.dead),(4,.dead),(5,.own true 58 U12 .no x0)]:Env)
abbrev e58:=fun x0 x1 x2=>([(2,.ref 5 []),(3,.v U2 x0),(4,.v U2 x1),(5,.own true 58 U12 .no x2)]:Env)
abbrev e59:=fun x0 x1 x2=>([(0,.at U18 x0),(1,.v U2 x1),(2,.v .str x2)]:Env)
abbrev e60:=fun x0 x1 x2=>([(0,.loc U18 .no x0),(1,.v U2 x1),(2,.v .str x2)]:Env)
abbrev e61:=fun x0 x1=>([(0,.loc U18 .no x0),(17,.v .bool x1)]:Env)
abbrev e62:=fun x0 x1=>([(0,.loc U18 .no x0),(6,.v .str x1)]:Env)
abbrev e63:=fun x0 x1=>([(0,.at U18 x0),(3,.v .bool x1)]:Env)
abbrev e64:=fun x0 x1=>([(0,.at U18 x0),(25,.v .bool x1)]:Env)
abbrev e65:=fun x0 x1=>([(0,.loc U18 .no x0),(2,.v .str x1)]:Env)
abbrev e66:=fun x0 x1 x2 x3=>([(0,.loc U18 .no x0),(2,.loc U14 (.pair .no (.pair .no (.pair (.own true 9 .no) .no))) x1),(4,.loc U14 (.pair .no (.pair .no (.pair (.own true 9 .no) .no))) x2),(5,.v .str x3)]:Env)
abbrev e67:=fun x0 x1 x2 x3 x4=>([(0,.loc U18 .no x0),(2,.loc U14 (.pair .no (.pair .no (.pair (.own true 9 .no) .no))) x1),(4,.loc U14 (.pair .no (.pair .no (.pair (.own true 9 .no) .no))) x2),(5,.v .str x3),(23,.v .bool x4)]:Env)
abbrev e68:=fun x0 x1 x2 x3 x4=>([(0,.loc U18 .no x0),(2,.loc U14 (.pair .no (.pair .no (.pair (.own true 9 .no) .no))) x1),(4,.loc U14 (.pair .no (.pair .no (.pair (.own true 9 .no) .no))) x2),(5,.v .str x3),(46,.v .bool x4)]:Env)
abbrev e69:=fun x0 x1 x2=>([(0,.loc U18 .no x0),(2,.loc U14 .no x1),(3,.v .str x2)]:Env)
abbrev e70:=fun x0 x1=>([(0,.v U1 x0),(1,.v U2 x1)]:Env)
abbrev e71:=fun x0 x1 x2=>([(0,.v U1 x0),(1,.v U2 x1),(12,.v .bool x2)]:Env)
abbrev e72:=fun x0=>([(0,.dead),(1,.dead),(4,.v .str x0)]:Env)
abbrev e73:=fun x0 x1 x2=>([(0,.v .str x0),(3,.v U2 x1),(5,.v .bool x2)]:Env)
abbrev e74:=fun x0 x1 x2=>([(0,.v .str x0),(3,.v U2 x1),(11,.v .bool x2)]:Env)
abbrev e75:=fun x0 x1=>([(0,.v U3 x0),(1,.v U8 x1)]:Env)
abbrev e76:=fun x0 x1 x2 x3=>([(0,.v U3 x0),(1,.v U8 x1),(7,.v U2 x2),(8,.v U2 x3)]:Env)
abbrev e77:=fun x0 x1 x2 x3 x4=>([(0,.v U3 x0),(1,.v U8 x1),(7,.v U2 x2),(8,.v U2 x3),(9,.v .bool x4)]:Env)
abbrev e78:=fun x0 x1 x2 x3 x4 x5=>([(0,.v U3 x0),(1,.v U8 x1),(5,.v U2 x2),(7,.v U2 x3),(8,.v U2 x4),(16,.v .bool x5)]:Env)
abbrev e79:=fun x0=>([(0,.dead),(1,.dead),(4,.v U2 x0),(7,.dead),(8,.dead)]:Env)
abbrev e80:=fun x0 x1 x2 x3=>([(0,.v U3 x0),(1,.v U8 x1),(4,.dead),(7,.v U2 x2),(8,.v U2 x3)]:Env)
abbrev e81:=fun x0 x1=>([(0,.v U1 x0),(1,.v .str x1)]:Env)
abbrev e82:=fun x0 x1 x2 x3=>([(0,.v U1 x0),(1,.v .str x1),(12,.v U2 x2),(13,.v .bool x3)]:Env)
abbrev e83:=fun x0 x1 x2=>([(0,.v U1 x0),(1,.v .str x1),(15,.v .bool x2)]:Env)
abbrev e84:=fun x0 x1=>([(0,.v U1 x0),(1,.v .str x1),(4,.dead)]:Env)
abbrev e85:=fun x0 x1 x2=>([(0,.v U1 x0),(1,.v .str x1),(5,.v U2 x2)]:Env)
abbrev e86:=fun x0 x1 x2 x3=>([(0,.v U1 x0),(1,.v .str x1),(5,.v U2 x2),(22,.v .bool x3)]:Env)
abbrev e87:=fun x0 x1 x2 x3=>([(0,.v U1 x0),(1,.v .str x1),(5,.v U2 x2),(29,.v .bool x3)]:Env)
abbrev e88:=fun x0 x1 x2 x3 x4 x5=>([(0,.v U1 x0),(1,.v .str x1),(5,.v U2 x2),(39,.v U1 x3),(40,.v U2 x4),(41,.v U2 x5)]:Env)
abbrev e89:=fun x0 x1 x2 x3 x4 x5 x6=>([(0,.v U1 x0),(1,.v .str x1),(5,.v U2 x2),(39,.v U1 x3),(40,.v U2 x4),(41,.v U2 x5),(42,.v .bool x6)]:Env)
abbrev e90:=fun x0 x1 x2 x3 x4 x5 x6=>([(0,.v U1 x0),(1,.v .str x1),(5,.v U2 x2),(7,.v .str x3),(39,.v U1 x4),(40,.v U2 x5),(41,.v U2 x6)]:Env)
abbrev e91:=fun x0 x1 x2 x3 x4 x5 x6 x7=>([(0,.v U1 x0),(1,.v .str x1),(5,.v U2 x2),(7,.v .str x3),(39,.v U1 x4),(40,.v U2 x5),(41,.v U2 x6),(49,.v .bool x7)]:Env)
abbrev e92:=fun x0 x1 x2 x3=>([(0,.v U1 x0),(7,.v U1 x1),(8,.v U2 x2),(9,.v U2 x3)]:Env)
abbrev e93:=fun x0 x1 x2 x3 x4=>([(0,.v U1 x0),(7,.v U1 x1),(8,.v U2 x2),(9,.v U2 x3),(10,.v .bool x4)]:Env)
abbrev e94:=fun x0 x1 x2 x3 x4 x5=>([(0,.v U1 x0),(5,.v .str x1),(7,.v U1 x2),(8,.v U2 x3),(9,.v U2 x4),(14,.v .bool x5)]:Env)
abbrev e95:=fun x0 x1=>([(0,.dead),(2,.v .str x0),(3,.v U2 x1),(5,.dead),(7,.dead),(8,.dead),(9,.dead)]:Env)
abbrev e96:=fun x0 x1 x2 x3 x4=>([(0,.v U1 x0),(2,.dead),(3,.dead),(5,.v .str x1),(7,.v U1 x2),(8,.v U2 x3),(9,.v U2 x4)]:Env)
abbrev e97:=fun x0 x1 x2 x3 x4=>([(0,.v U1 x0),(7,.v U1 x1),(8,.v U2 x2),(9,.v U2 x3),(17,.v .bool x4)]:Env)
abbrev e98:=fun x0 x1=>([(0,.dead),(2,.v .str x0),(3,.v U2 x1),(7,.dead),(8,.dead),(9,.dead)]:Env)
abbrev e99:=fun x0 x1 x2 x3=>([(0,.v U1 x0),(2,.dead),(3,.dead),(7,.v U1 x1),(8,.v U2 x2),(9,.v U2 x3)]:Env)
abbrev e100:=fun x0 x1=>([(0,.dead),(2,.v .str x0),(3,.v U2 x1)]:Env)
abbrev e101:=fun x0=>([(0,.v U1 x0),(2,.dead),(3,.dead)]:Env)
abbrev e102:=fun x0 x1=>([(6,.v .str x0),(23,.v .bool x1)]:Env)
abbrev e103:=fun x0 x1=>([(2,.v .str x0),(3,.v U2 x1),(6,.dead)]:Env)
abbrev e104:=fun x0=>([(3,.own true 4294967295 U0 .no x0)]:Env)
abbrev e105:=fun x0 x1 x2=>([(3,.own true 4294967295 U0 .no x0),(8,.ref 3 []),(9,.v U2 x1),(10,.v U2 x2)]:Env)
abbrev e106:=fun x0 x1 x2 x3=>([(3,.own true 4294967295 U0 .no x0),(8,.ref 3 []),(9,.v U2 x1),(10,.v U2 x2),(11,.v .bool x3)]:Env)
abbrev e107:=fun x0 x1 x2 x3 x4 x5=>([(3,.own true 4294967295 U0 .no x0),(4,.v U2 x1),(5,.v U0 x2),(8,.ref 3 []),(9,.v U2 x3),(10,.v U2 x4),(20,.v .bool x5)]:Env)
abbrev e108:=fun x0 x1=>([(0,.v .str x0),(7,.v .bool x1)]:Env)
abbrev e109:=fun x0 x1 x2 x3=>([(0,.v U1 x0),(1,.v .str x1),(7,.v U2 x2),(8,.v U2 x3)]:Env)
abbrev e110:=fun x0 x1 x2 x3 x4=>([(0,.v U1 x0),(1,.v .str x1),(7,.v U2 x2),(8,.v U2 x3),(9,.v .bool x4)]:Env)
abbrev e111:=fun x0 x1 x2 x3 x4 x5=>([(0,.v U1 x0),(1,.v .str x1),(5,.v U2 x2),(7,.v U2 x3),(8,.v U2 x4),(16,.v .bool x5)]:Env)
abbrev e112:=fun x0 x1 x2 x3=>([(0,.v U1 x0),(1,.v .str x1),(4,.dead),(7,.v U2 x2),(8,.v U2 x3)]:Env)
abbrev e113:=fun x0 x1=>([(1,.loc U14 .no x0),(6,.v .bool x1)]:Env)
abbrev e114:=fun x0=>([(1,.dead),(2,.v U2 x0)]:Env)
abbrev e115:=fun x0 x1=>([(1,.loc U14 .no x0),(25,.v .bool x1)]:Env)
abbrev e116:=fun x0=>([(1,.loc U14 .no x0),(2,.dead)]:Env)
abbrev e117:=fun x0 x1 x2 x3=>([(1,.loc U14 .no x0),(31,.v U1 x1),(32,.v U2 x2),(33,.v U2 x3)]:Env)
abbrev e118:=fun x0 x1 x2 x3 x4=>([(1,.loc U14 .no x0),(31,.v U1 x1),(32,.v U2 x2),(33,.v U2 x3),(34,.v .bool x4)]:Env)
abbrev e119:=fun x0 x1 x2 x3 x4 x5=>([(1,.loc U14 .no x0),(3,.v U2 x1),(4,.v .str x2),(31,.v U1 x3),(32,.v U2 x4),(33,.v U2 x5)]:Env)
abbrev e120:=fun x0 x1 x2 x3 x4 x5 x6 x7=>([(1,.loc U14 .no x0),(3,.v U2 x1),(4,.v .str x2),(5,.v U2 x3),(31,.v U1 x4),(32,.v U2 x5),(33,.v U2 x6),(41,.v .bool x7)]:Env)
abbrev e121:=fun x0=>([(1,.dead),(2,.v U2 x0),(3,.dead),(4,.dead),(31,.dead),(32,.dead),(33,.dead)]:Env)
abbrev e122:=fun x0 x1 x2 x3 x4 x5=>([(1,.loc U14 .no x0),(2,.dead),(3,.v U2 x1),(4,.v .str x2),(31,.v U1 x3),(32,.v U2 x4),(33,.v U2 x5)]:Env)
abbrev e123:=fun x0 x1 x2 x3 x4=>([(1,.loc U14 .no x0),(31,.v U1 x1),(32,.v U2 x2),(33,.v U2 x3),(48,.v .bool x4)]:Env)
abbrev e124:=fun x0=>([(1,.dead),(2,.v U2 x0),(31,.dead),(32,.dead),(33,.dead)]:Env)
abbrev e125:=fun x0 x1 x2 x3=>([(1,.loc U14 .no x0),(2,.dead),(31,.v U1 x1),(32,.v U2 x2),(33,.v U2 x3)]:Env)
abbrev e126:=fun x0 x1=>([(1,.loc U17 .no x0),(6,.v .bool x1)]:Env)
abbrev e127:=fun x0 x1=>([(1,.loc U17 .no x0),(11,.v .bool x1)]:Env)
abbrev e128:=fun x0=>([(1,.loc U17 .no x0),(2,.dead)]:Env)
abbrev e129:=fun x0 x1 x2=>([(17,.v U15 x0),(18,.v U2 x1),(19,.v U2 x2)]:Env)
abbrev e130:=fun x0 x1 x2 x3=>([(17,.v U15 x0),(18,.v U2 x1),(19,.v U2 x2),(20,.v .bool x3)]:Env)
abbrev e131:=fun x0 x1 x2 x3 x4=>([(5,.v U2 x0),(17,.v U15 x1),(18,.v U2 x2),(19,.v U2 x3),(26,.v .bool x4)]:Env)
abbrev e132:=fun x0=>([(2,.v U2 x0),(17,.dead),(18,.dead),(19,.dead)]:Env)
abbrev e133:=fun x0 x1 x2=>([(2,.dead),(17,.v U15 x0),(18,.v U2 x1),(19,.v U2 x2)]:Env)
abbrev e134:=fun x0 x1 x2 x3=>([(2,.loc U17 .no x0),(5,.own true 58 U12 .no x1),(6,.v U2 x2),(7,.v U2 x3)]:Env)
abbrev e135:=fun x0 x1 x2 x3 x4=>([(2,.loc U17 .no x0),(5,.own true 58 U12 .no x1),(6,.v U2 x2),(7,.v U2 x3),(24,.v .bool x4)]:Env)
abbrev e136:=fun x0 x1 x2=>([(2,.loc U17 (.pair .no (.pair (.own true 51 .no) .no)) x0),(3,.v U2 x1),(4,.v U2 x2)]:Env)
abbrev e137:=fun x0 x1 x2=>([(2,.loc U17 (.pair .no (.pair (.own true 51 .no) .no)) x0),(3,.v U2 x1),(4,.v U2 x2),(5,.dead)]:Env)
abbrev e138:=fun x0 x1=>([(2,.loc U17 .no x0),(3,.dead),(4,.dead),(5,.own true 58 U12 .no x1)]:Env)
abbrev e139:=fun x0 x1 x2 x3 x4 x5=>([(2,.loc U17 .no x0),(5,.own false 58 U12 .no x1),(8,.ptr 30 []),(9,.loc U17 (.pair .no (.pair (.own true 51 .no) .no)) x2),(10,.own true 9 .str .no x3),(11,.own true 3 U2 .no x4),(30,.loc U18 .no x5)]:Env)
abbrev e140:=fun x0 x1 x2 x3 x4 x5 x6=>([(2,.loc U17 .no x0),(5,.own false 58 U12 .no x1),(8,.ptr 30 []),(9,.loc U17 (.pair .no (.pair (.own true 51 .no) .no)) x2),(10,.own true 9 .str .no x3),(11,.own true 3 U2 .no x4),(30,.loc U18 .no x5),(47,.v .bool x6)]:Env)
abbrev e141:=fun x0 x1 x2 x3 x4 x5=>([(2,.loc U17 .no x0),(8,.ptr 30 []),(9,.loc U17 (.pair .no (.pair (.own true 51 .no) .no)) x1),(10,.own true 9 .str .no x2),(11,.own true 3 U2 .no x3),(30,.loc U18 .no x4),(82,.v .bool x5)]:Env)
abbrev e142:=fun x0 x1 x2=>([(2,.loc U17 (.pair .no (.pair (.own true 51 .no) .no)) x0),(3,.v U2 x1),(4,.v U2 x2),(9,.dead),(10,.dead),(11,.dead)]:Env)
abbrev e143:=fun x0 x1 x2 x3=>([(2,.loc U17 .no x0),(3,.dead),(4,.dead),(9,.loc U17 (.pair .no (.pair (.own true 51 .no) .no)) x1),(10,.own true 9 .str .no x2),(11,.own true 3 U2 .no x3)]:Env)
abbrev e144:=fun x0 x1 x2 x3 x4 x5=>([(2,.loc U17 .no x0),(9,.loc U17 (.pair .no (.pair (.own true 51 .no) .no)) x1),(10,.own true 9 .str .no x2),(11,.own true 3 U2 .no x3),(86,.ref 10 []),(87,.v U2 x4),(88,.v U2 x5)]:Env)
abbrev e145:=fun x0 x1 x2 x3 x4 x5 x6=>([(2,.loc U17 .no x0),(9,.loc U17 (.pair .no (.pair (.own true 51 .no) .no)) x1),(10,.own true 9 .str .no x2),(11,.own true 3 U2 .no x3),(86,.ref 10 []),(87,.v U2 x4),(88,.v U2 x5),(89,.v .bool x6)]:Env)
abbrev e146:=fun x0 x1 x2 x3 x4 x5 x6 x7=>([(2,.loc U17 .no x0),(9,.loc U17 (.pair .no (.pair (.own true 51 .no) .no)) x1),(10,.own true 9 .str .no x2),(11,.own true 3 U2 .no x3),(14,.v U2 x4),(86,.ref 10 []),(87,.v U2 x5),(88,.v U2 x6),(106,.v .bool x7)]:Env)
abbrev e147:=fun x0 x1 x2=>([(2,.loc U17 .no x0),(3,.v U2 x1),(4,.v U2 x2)]:Env)
abbrev e148:=fun x0 x1 x2=>([(2,.loc U17 .no x0),(3,.v U2 x1),(4,.v U2 x2),(9,.dead),(10,.dead),(11,.dead),(86,.dead),(87,.dead),(88,.dead)]:Env)
abbrev e149:=fun x0 x1 x2 x3 x4 x5=>([(2,.loc U17 .no x0),(3,.dead),(4,.dead),(9,.loc U17 (.pair .no (.pair (.own true 51 .no) .no)) x1),(10,.own true 9 .str .no x2),(11,.own true 3 U2 .no x3),(86,.ref 10 []),(87,.v U2 x4),(88,.v U2 x5)]:Env)
abbrev e150:=fun x0 x1 x2=>([(2,.loc U17 .no x0),(3,.v U2 x1),(4,.v U2 x2),(9,.dead)]:Env)
abbrev e151:=fun x0 x1=>([(2,.loc U17 .no x0),(3,.dead),(4,.dead),(9,.loc U17 (.pair .no (.pair (.own true 51 .no) .no)) x1)]:Env)
abbrev e152:=fun x0 x1 x2 x3=>([(2,.loc U17 .no x0),(9,.loc U17 (.pair .no (.pair (.own false 51 .no) .no)) x1),(16,.v U2 x2),(116,.v .bool x3)]:Env)
abbrev e153:=fun x0 x1 x2=>([(2,.loc U17 (.pair .no (.pair (.own true 51 .no) .no)) x0),(3,.v U2 x1),(4,.v U2 x2),(9,.dead)]:Env)
abbrev e154:=fun x0 x1=>([(2,.loc U17 .no x0),(3,.dead),(4,.dead),(9,.loc U17 (.pair .no (.pair (.own false 51 .no) .no)) x1)]:Env)
abbrev e155:=fun x0 x1 x2=>([(0,.v .str x0),(3,.v U2 x1),(7,.v .bool x2)]:Env)
abbrev e156:=fun x0 x1 x2=>([(0,.v .str x0),(3,.v U2 x1),(10,.v U0 x2)]:Env)
abbrev e157:=fun x0 x1 x2 x3=>([(0,.v .str x0),(3,.v U2 x1),(10,.v U0 x2),(12,.v .bool x3)]:Env)
abbrev e158:=fun x0 x1 x2=>([(0,.v .str x0),(3,.v U2 x1),(19,.v .bool x2)]:Env)
abbrev e159:=fun x0 x1 x2=>([(0,.v .str x0),(3,.v U2 x1),(4,.v U2 x2)]:Env)
abbrev e160:=fun x0 x1 x2 x3=>([(0,.v .str x0),(3,.v U2 x1),(4,.v U2 x2),(8,.v .bool x3)]:Env)
abbrev e161:=fun x0 x1 x2 x3=>([(0,.v .str x0),(3,.v U2 x1),(4,.v U2 x2),(14,.v .bool x3)]:Env)
abbrev e162:=fun x0 x1=>([(0,.v .str x0),(11,.v .bool x1)]:Env)
abbrev e163:=fun x0 x1 x2=>([(0,.v .str x0),(3,.v U2 x1),(15,.v .bool x2)]:Env)
abbrev e164:=fun x0 x1 x2=>([(0,.v .str x0),(3,.v U2 x1),(25,.v .bool x2)]:Env)
abbrev e165:=fun x0 x1 x2=>([(0,.v .str x0),(3,.v U2 x1),(54,.v .bool x2)]:Env)
abbrev e166:=fun x0 x1 x2=>([(0,.v .str x0),(2,.loc U12 .no x1),(5,.v U2 x2)]:Env)
abbrev e167:=fun x0 x1 x2 x3=>([(0,.v .str x0),(2,.loc U12 .no x1),(5,.v U2 x2),(15,.v .bool x3)]:Env)
abbrev e168:=fun x0 x1 x2 x3=>([(0,.v .str x0),(2,.loc U12 .no x1),(5,.v U2 x2),(27,.v .bool x3)]:Env)
abbrev e169:=fun x0 x1 x2=>([(0,.dead),(2,.loc U12 .no x0),(3,.v U2 x1),(4,.v U2 x2),(5,.dead)]:Env)
abbrev e170:=fun x0 x1 x2=>([(0,.v .str x0),(2,.loc U12 .no x1),(3,.dead),(4,.dead),(5,.v U2 x2)]:Env)
abbrev e171:=fun x0 x1 x2 x3=>([(0,.v .str x0),(2,.loc U12 .no x1),(5,.v U2 x2),(31,.v .bool x3)]:Env)
abbrev e172:=fun x0 x1=>([(0,.v U0 x0),(3,.v U2 x1)]:Env)
abbrev e173:=fun x0 x1 x2=>([(0,.v U0 x0),(3,.v U2 x1),(5,.v .bool x2)]:Env)
abbrev e174:=fun x0 x1 x2=>([(0,.v U0 x0),(3,.v U2 x1),(11,.v .bool x2)]:Env)
abbrev e175:=fun x0=>([(0,.dead),(2,.v .bool x0),(3,.dead)]:Env)
abbrev e176:=fun x0 x1=>([(0,.v U0 x0),(2,.dead),(3,.v U2 x1)]:Env)
abbrev e177:=fun x0 x1 x2 x3=>([(0,.v .str x0),(2,.loc U12 .no x1),(5,.v U2 x2),(10,.v .bool x3)]:Env)
abbrev e178:=fun x0 x1 x2 x3=>([(0,.v .str x0),(2,.loc U12 .no x1),(5,.v U2 x2),(12,.v .bool x3)]:Env)
abbrev e179:=fun x0 x1 x2=>([(0,.dead),(2,.loc U12 .no x0),(3,.v U2 x1),(4,.v U2 x2)]:Env)
abbrev e180:=fun x0 x1=>([(0,.v .str x0),(2,.loc U12 .no x1),(3,.dead),(4,.dead)]:Env)
abbrev e181:=fun x0 x1 x2 x3=>([(0,.v .str x0),(2,.loc U12 .no x1),(6,.v U2 x2),(22,.v .bool x3)]:Env)
abbrev e182:=fun x0 x1 x2 x3=>([(0,.v .str x0),(2,.loc U12 .no x1),(6,.v U2 x2),(24,.v .bool x3)]:Env)
abbrev e183:=fun x0 x1 x2 x3=>([(0,.v .str x0),(2,.loc U12 .no x1),(6,.v U2 x2),(32,.v .bool x3)]:Env)
abbrev e184:=fun x0 x1 x2=>([(0,.v .str x0),(2,.loc U12 .no x1),(41,.v .bool x2)]:Env)
abbrev e185:=fun x0 x1 x2=>([(0,.v .str x0),(2,.loc U12 .no x1),(49,.v .bool x2)]:Env)
abbrev e186:=fun x0 x1 x2 x3 x4=>([(0,.v .str x0),(5,.own true 58 U12 .no x1),(6,.v U2 x2),(7,.v U2 x3),(33,.v .bool x4)]:Env)
abbrev e187:=fun x0 x1 x2=>([(0,.dead),(2,.ref 5 []),(3,.v U2 x0),(4,.v U2 x1),(5,.own true 58 U12 .no x2),(6,.dead),(7,.dead)]:Env)
abbrev e188:=fun x0 x1 x2 x3 x4 x5 x6=>([(0,.v .str x0),(5,.own true 58 U12 .no x1),(6,.v U2 x2),(7,.v U2 x3),(8,.v U2 x4),(9,.loc U12 .no x5),(10,.v U2 x6)]:Env)
abbrev e189:=fun x0 x1 x2 x3 x4 x5 x6 x7=>([(0,.v .str x0),(5,.own true 58 U12 .no x1),(6,.v U2 x2),(7,.v U2 x3),(8,.v U2 x4),(9,.loc U12 .no x5),(10,.v U2 x6),(44,.v .bool x7)]:Env)
abbrev e190:=fun x0 x1 x2 x3 x4 x5=>([(0,.v .str x0),(2,.dead),(3,.dead),(4,.dead),(5,.own true 58 U12 .no x1),(6,.v U2 x2),(7,.v U2 x3),(8,.v U2 x4),(9,.loc U12 .no x5)]:Env)
abbrev e191:=fun x0 x1 x2 x3=>([(0,.v U13 x0),(1,.v U2 x1),(2,.v U2 x2),(3,.v .str x3)]:Env)
abbrev e192:=fun x0 x1=>([(0,.v U13 x0),(1,.v U2 x1)]:Env)
abbrev e193:=fun x0 x1 x2 x3=>([(0,.v U13 x0),(1,.v U2 x1),(4,.loc U17 .no x2),(10,.v .bool x3)]:Env)
abbrev e194:=fun x0 x1 x2=>([(4,.loc U17 .no x0),(5,.v U2 x1),(6,.v U2 x2)]:Env)
abbrev e195:=fun x0 x1 x2=>([(0,.dead),(4,.loc U17 .no x0),(5,.v U2 x1),(6,.v U2 x2)]:Env)
abbrev e196:=fun x0 x1=>([(0,.v U13 x0),(4,.loc U17 .no x1),(5,.dead),(6,.dead)]:Env)
abbrev e197:=fun x0 x1 x2=>([(0,.v U13 x0),(4,.loc U17 .no x1),(19,.v .bool x2)]:Env)
abbrev e198:=fun x0 x1 x2=>([(4,.loc U17 (.pair .no (.pair (.own true 51 .no) .no)) x0),(5,.v U2 x1),(6,.v U2 x2)]:Env)
abbrev e199:=fun x0 x1=>([(0,.v .str x0),(29,.v .bool x1)]:Env)
abbrev e200:=fun x0 x1 x2=>([(0,.v .str x0),(4,.v U2 x1),(5,.v U2 x2)]:Env)
abbrev e201:=fun x0 x1 x2 x3=>([(0,.v .str x0),(4,.v U2 x1),(5,.v U2 x2),(33,.v .bool x3)]:Env)
abbrev e202:=fun x0 x1 x2 x3=>([(0,.v U13 x0),(1,.v U2 x1),(4,.loc U14 (.pair .no (.pair .no (.pair (.own true 9 .no) .no))) x2),(7,.loc U14 (.pair .no (.pair .no (.pair (.own true 9 .no) .no))) x3)]:Env)
abbrev e203:=fun x0 x1 x2 x3 x4=>([(0,.v U13 x0),(1,.v U2 x1),(4,.loc U14 (.pair .no (.pair .no (.pair (.own true 9 .no) .no))) x2),(7,.loc U14 (.pair .no (.pair .no (.pair (.own true 9 .no) .no))) x3),(11,.v .bool x4)]:Env)
abbrev e204:=fun x0 x1 x2=>([(4,.loc U14 .no x0),(5,.v U2 x1),(6,.v .bool x2)]:Env)
abbrev e205:=fun x0 x1 x2=>([(0,.dead),(1,.dead),(4,.loc U14 .no x0),(5,.v U2 x1),(6,.v .bool x2),(7,.dead)]:Env)
abbrev e206:=fun x0 x1 x2 x3=>([(0,.v U13 x0),(1,.v U2 x1),(4,.loc U14 (.pair .no (.pair .no (.pair (.own true 9 .no) .no))) x2),(5,.dead),(6,.dead),(7,.loc U14 (.pair .no (.pair .no (.pair (.own true 9 .no) .no))) x3)]:Env)
abbrev e207:=fun x0 x1 x2 x3 x4=>([(0,.v U13 x0),(1,.v U2 x1),(4,.loc U14 (.pair .no (.pair .no (.pair (.own true 9 .no) .no))) x2),(7,.loc U14 (.pair .no (.pair .no (.pair (.own true 9 .no) .no))) x3),(18,.v .bool x4)]:Env)
abbrev e208:=fun x0 x1 x2 x3 x4=>([(0,.v U13 x0),(1,.v U2 x1),(4,.loc U14 (.pair .no (.pair .no (.pair (.own true 9 .no) .no))) x2),(7,.loc U14 (.pair .no (.pair .no (.pair (.own true 9 .no) .no))) x3),(37,.v .bool x4)]:Env)
abbrev e209:=fun x0 x1 x2 x3 x4=>([(0,.v U13 x0),(1,.v U2 x1),(4,.loc U14 (.pair .no (.pair .no (.pair (.own true 9 .no) .no))) x2),(7,.loc U14 (.pair .no (.pair .no (.pair (.own true 9 .no) .no))) x3),(42,.v .bool x4)]:Env)
abbrev e210:=fun x0 x1 x2 x3 x4=>([(0,.v U13 x0),(1,.v U2 x1),(4,.loc U14 (.pair .no (.pair .no (.pair (.own true 9 .no) .no))) x2),(7,.loc U14 (.pair .no (.pair .no (.pair (.own true 9 .no) .no))) x3),(62,.v .bool x4)]:Env)
abbrev e211:=fun x0 x1 x2 x3=>([(1,.v U2 x0),(4,.loc U14 (.pair .no (.pair .no (.pair (.own true 9 .no) .no))) x1),(7,.loc U14 (.pair .no (.pair .no (.pair (.own true 9 .no) .no))) x2),(66,.v .bool x3)]:Env)
abbrev e212:=fun x0 x1 x2=>([(1,.dead),(4,.loc U14 .no x0),(5,.v U2 x1),(6,.v .bool x2),(7,.dead)]:Env)
abbrev e213:=fun x0 x1 x2=>([(1,.v U2 x0),(4,.loc U14 (.pair .no (.pair .no (.pair (.own true 9 .no) .no))) x1),(5,.dead),(6,.dead),(7,.loc U14 (.pair .no (.pair .no (.pair (.own true 9 .no) .no))) x2)]:Env)
abbrev e214:=fun x0 x1=>([(0,.v U2 x0),(8,.v .bool x1)]:Env)
abbrev e215:=fun x0 x1 x2=>([(0,.v .str x0),(3,.own true 5 U0 .no x1),(4,.v U2 x2)]:Env)
abbrev e216:=fun x0 x1 x2 x3=>([(0,.v .str x0),(3,.own true 5 U0 .no x1),(4,.v U2 x2),(11,.v .bool x3)]:Env)
abbrev e217:=fun x0 x1 x2 x3=>([(0,.v .str x0),(3,.own true 5 U0 .no x1),(4,.v U2 x2),(29,.v .bool x3)]:Env)
abbrev e218:=fun x0=>([(3,.own true 5 U0 .no x0)]:Env)
abbrev e219:=fun x0 x1=>([(0,.v U0 x0),(9,.v .bool x1)]:Env)
abbrev e220:=fun x0=>([(0,.dead),(2,.v .bool x0)]:Env)
abbrev e221:=fun x0 x1 x2=>([(0,.v U0 x0),(3,.v U2 x1),(17,.v .bool x2)]:Env)
abbrev e222:=fun x0 x1=>([(0,.v .str x0),(6,.v .bool x1)]:Env)
abbrev e223:=fun x0 x1=>([(0,.v .str x0),(14,.v .bool x1)]:Env)
abbrev e224:=fun x0 x1 x2=>([(0,.v .str x0),(3,.v U2 x1),(18,.v .bool x2)]:Env)
abbrev e225:=fun x0 x1 x2 x3=>([(0,.v U1 x0),(1,.v .str x1),(5,.v U2 x2),(9,.v .bool x3)]:Env)
abbrev e226:=fun x0 x1 x2 x3=>([(0,.v U1 x0),(1,.v .str x1),(5,.v U2 x2),(17,.v .bool x3)]:Env)
abbrev e227:=fun x0=>([(0,.dead),(1,.dead),(4,.v .bool x0),(5,.dead)]:Env)
abbrev e228:=fun x0 x1 x2=>([(0,.v U1 x0),(1,.v .str x1),(4,.dead),(5,.v U2 x2)]:Env)
abbrev e229:=fun x0 x1=>([(1,.loc U14 .no x0),(22,.v .bool x1)]:Env)
abbrev e230:=fun x0 x1=>([(1,.loc U14 .no x0),(26,.v .bool x1)]:Env)
abbrev e231:=fun x0 x1=>([(1,.loc U14 .no x0),(3,.v U2 x1)]:Env)
abbrev e232:=fun x0 x1 x2=>([(1,.loc U14 .no x0),(3,.v U2 x1),(31,.v .bool x2)]:Env)
abbrev e233:=fun x0 x1 x2 x3=>([(1,.loc U14 .no x0),(3,.v U2 x1),(4,.v U2 x2),(41,.v .bool x3)]:Env)
abbrev e234:=fun x0=>([(1,.dead),(2,.v U2 x0),(3,.dead)]:Env)
abbrev e235:=fun x0 x1=>([(1,.loc U14 .no x0),(2,.dead),(3,.v U2 x1)]:Env)
abbrev e236:=fun x0 x1 x2=>([(1,.loc U14 .no x0),(3,.v U2 x1),(52,.v .bool x2)]:Env)
abbrev e237:=fun x0 x1=>([(1,.loc U17 .no x0),(8,.v .bool x1)]:Env)
abbrev e238:=fun x0 x1=>([(1,.loc U17 .no x0),(12,.v .bool x1)]:Env)
abbrev e239:=fun x0 x1=>([(1,.loc U17 .no x0),(3,.v U2 x1)]:Env)
abbrev e240:=fun x0 x1 x2=>([(1,.loc U17 .no x0),(3,.v U2 x1),(17,.v .bool x2)]:Env)
abbrev e241:=fun x0 x1 x2 x3=>([(1,.loc U17 .no x0),(3,.v U2 x1),(4,.v U2 x2),(27,.v .bool x3)]:Env)
abbrev e242:=fun x0 x1=>([(1,.loc U17 .no x0),(2,.dead),(3,.v U2 x1)]:Env)
abbrev e243:=fun x0 x1 x2 x3 x4=>([(2,.loc U17 .no x0),(5,.v U13 x1),(6,.v U2 x2),(7,.v U2 x3),(24,.v .bool x4)]:Env)
abbrev e244:=fun x0 x1=>([(2,.loc U17 .no x0),(3,.dead),(4,.dead),(5,.v U13 x1)]:Env)
abbrev e245:=fun x0 x1 x2=>([(2,.loc U17 .no x0),(5,.v U13 x1),(30,.v .bool x2)]:Env)
abbrev e246:=fun x0 x1 x2=>([(2,.loc U17 .no x0),(3,.v U2 x1),(4,.v U2 x2),(5,.dead)]:Env)
abbrev e247:=fun x0 x1 x2=>([(2,.loc U17 .no x0),(5,.v U13 x1),(38,.v .bool x2)]:Env)
abbrev e248:=fun x0 x1 x2=>([(2,.loc U17 .no x0),(5,.v U13 x1),(46,.v .bool x2)]:Env)
abbrev e249:=fun x0 x1 x2 x3 x4=>([(2,.loc U17 .no x0),(5,.v U13 x1),(8,.loc U17 (.pair .no (.pair (.own true 51 .no) .no)) x2),(9,.own true 3 U2 .no x3),(10,.v U2 x4)]:Env)
abbrev e250:=fun x0 x1 x2 x3 x4 x5=>([(2,.loc U17 .no x0),(5,.v U13 x1),(8,.loc U17 (.pair .no (.pair (.own true 51 .no) .no)) x2),(9,.own true 3 U2 .no x3),(10,.v U2 x4),(60,.v .bool x5)]:Env)
abbrev e251:=fun x0 x1 x2 x3 x4 x5 x6 x7=>([(2,.loc U17 .no x0),(5,.v U13 x1),(8,.loc U17 (.pair .no (.pair (.own true 51 .no) .no)) x2),(9,.own true 3 U2 .no x3),(10,.v U2 x4),(11,.loc U14 .no x5),(12,.v U2 x6),(13,.v .bool x7)]:Env)
abbrev e252:=fun x0 x1 x2 x3 x4 x5 x6 x7=>([(2,.loc U17 .no x0),(5,.v U13 x1),(8,.loc U17 (.pair .no (.pair (.own true 51 .no) .no)) x2),(9,.own true 3 U2 .no x3),(10,.v U2 x4),(11,.loc U14 .no x5),(12,.v U2 x6),(69,.v .bool x7)]:Env)
abbrev e253:=fun x0 x1 x2=>([(2,.loc U17 .no x0),(3,.v U2 x1),(4,.v U2 x2),(5,.dead),(8,.dead),(9,.dead),(10,.dead),(11,.dead),(12,.dead)]:Env)
abbrev e254:=fun x0 x1 x2 x3 x4 x5 x6=>([(2,.loc U17 .no x0),(3,.dead),(4,.dead),(5,.v U13 x1),(8,.loc U17 (.pair .no (.pair (.own true 51 .no) .no)) x2),(9,.own true 3 U2 .no x3),(10,.v U2 x4),(11,.loc U14 .no x5),(12,.v U2 x6)]:Env)
abbrev e255:=fun x0 x1 x2=>([(2,.loc U17 .no x0),(3,.v U2 x1),(4,.v U2 x2),(5,.dead),(8,.dead),(9,.dead),(10,.dead)]:Env)
abbrev e256:=fun x0 x1 x2 x3 x4=>([(2,.loc U17 .no x0),(3,.dead),(4,.dead),(5,.v U13 x1),(8,.loc U17 (.pair .no (.pair (.own true 51 .no) .no)) x2),(9,.own true 3 U2 .no x3),(10,.v U2 x4)]:Env)
abbrev e257:=fun x0 x1 x2 x3 x4 x5=>([(2,.loc U17 .no x0),(5,.v U13 x1),(8,.loc U17 (.pair .no (.pair (.own true 51 .no) .no)) x2),(9,.own true 3 U2 .no x3),(10,.v U2 x4),(91,.v .bool x5)]:Env)
abbrev e258:=fun x0 x1 x2=>([(2,.loc U17 .no x0),(3,.v U2 x1),(4,.v U2 x2),(5,.dead),(8,.dead),(9,.dead)]:Env)
abbrev e259:=fun x0 x1 x2 x3=>([(2,.loc U17 .no x0),(3,.dead),(4,.dead),(5,.v U13 x1),(8,.loc U17 (.pair .no (.pair (.own true 51 .no) .no)) x2),(9,.own true 3 U2 .no x3)]:Env)
abbrev e260:=fun x0 x1 x2 x3 x4=>([(2,.loc U17 .no x0),(5,.v U13 x1),(8,.loc U17 (.pair .no (.pair (.own true 51 .no) .no)) x2),(9,.own true 3 U2 .no x3),(14,.v U2 x4)]:Env)
abbrev e261:=fun x0 x1 x2 x3 x4 x5=>([(2,.loc U17 .no x0),(5,.v U13 x1),(8,.loc U17 (.pair .no (.pair (.own true 51 .no) .no)) x2),(9,.own true 3 U2 .no x3),(14,.v U2 x4),(102,.v .bool x5)]:Env)
abbrev e262:=fun x0 x1 x2 x3 x4 x5=>([(2,.loc U17 .no x0),(5,.v U13 x1),(8,.loc U17 (.pair .no (.pair (.own true 51 .no) .no)) x2),(9,.own true 3 U2 .no x3),(14,.v U2 x4),(15,.v U2 x5)]:Env)
abbrev e263:=fun x0 x1 x2 x3 x4 x5 x6=>([(2,.loc U17 .no x0),(5,.v U13 x1),(8,.loc U17 (.pair .no (.pair (.own true 51 .no) .no)) x2),(9,.own true 3 U2 .no x3),(14,.v U2 x4),(15,.v U2 x5),(106,.v .bool x6)]:Env)
abbrev e264:=fun x0 x1 x2 x3 x4 x5 x6=>([(2,.loc U17 .no x0),(5,.v U13 x1),(8,.loc U17 (.pair .no (.pair (.own true 51 .no) .no)) x2),(9,.own true 3 U2 .no x3),(14,.v U2 x4),(15,.v U2 x5),(119,.v .bool x6)]:Env)
abbrev e265:=fun x0 x1 x2 x3 x4 x5=>([(2,.loc U17 .no x0),(5,.v U13 x1),(8,.loc U17 (.pair .no (.pair (.own true 51 .no) .no)) x2),(9,.own true 3 U2 .no x3),(14,.v U2 x4),(132,.v .bool x5)]:Env)
abbrev e266:=fun x0 x1 x2=>([(2,.loc U17 .no x0),(3,.v U2 x1),(4,.v U2 x2),(5,.dead),(8,.dead),(9,.dead),(14,.dead)]:Env)
abbrev e267:=fun x0 x1 x2 x3 x4=>([(2,.loc U17 .no x0),(3,.dead),(4,.dead),(5,.v U13 x1),(8,.loc U17 (.pair .no (.pair (.own true 51 .no) .no)) x2),(9,.own true 3 U2 .no x3),(14,.v U2 x4)]:Env)
abbrev e268:=fun x0 x1 x2=>([(2,.loc U17 .no x0),(3,.v U2 x1),(4,.v U2 x2),(8,.dead)]:Env)
abbrev e269:=fun x0 x1=>([(2,.loc U17 .no x0),(3,.dead),(4,.dead),(8,.loc U17 (.pair .no (.pair (.own true 51 .no) .no)) x1)]:Env)
abbrev e270:=fun x0 x1 x2 x3=>([(2,.loc U17 .no x0),(8,.loc U17 (.pair .no (.pair (.own false 51 .no) .no)) x1),(16,.v U2 x2),(145,.v .bool x3)]:Env)
abbrev e271:=fun x0 x1 x2=>([(2,.loc U17 (.pair .no (.pair (.own true 51 .no) .no)) x0),(3,.v U2 x1),(4,.v U2 x2),(8,.dead)]:Env)
abbrev e272:=fun x0 x1=>([(2,.loc U17 .no x0),(3,.dead),(4,.dead),(8,.loc U17 (.pair .no (.pair (.own false 51 .no) .no)) x1)]:Env)
abbrev e273:=fun x0 x1=>([(0,.v U1 x0),(1,.v U1 x1)]:Env)
abbrev e274:=fun x0 x1 x2=>([(0,.v U1 x0),(1,.v U1 x1),(10,.v .bool x2)]:Env)
abbrev e275:=fun x0=>([(0,.dead),(1,.dead),(4,.v .bool x0)]:Env)
abbrev e276:=fun x0 x1 x2=>([(0,.v U1 x0),(1,.v U1 x1),(5,.v U2 x2)]:Env)
abbrev e277:=fun x0 x1 x2 x3=>([(0,.v U1 x0),(1,.v U1 x1),(5,.v U2 x2),(14,.v .bool x3)]:Env)
abbrev e278:=fun x0 x1 x2 x3=>([(0,.v U1 x0),(1,.v U1 x1),(5,.v U2 x2),(25,.v .bool x3)]:Env)
abbrev e279:=fun x0 x1 x2=>([(0,.v U1 x0),(1,.v U1 x1),(4,.dead),(5,.v U2 x2)]:Env)
abbrev e280:=fun x0 x1 x2=>([(2,.loc U17 .no x0),(3,.loc U17 .no x1),(21,.v .bool x2)]:Env)
abbrev e281:=fun x0=>([(2,.dead),(3,.dead),(4,.v .bool x0)]:Env)
abbrev e282:=fun x0 x1 x2=>([(2,.loc U17 .no x0),(3,.loc U17 .no x1),(5,.v U2 x2)]:Env)
abbrev e283:=fun x0 x1 x2 x3=>([(2,.loc U17 .no x0),(3,.loc U17 .no x1),(5,.v U2 x2),(26,.v .bool x3)]:Env)
abbrev e284:=fun x0 x1 x2 x3=>([(2,.loc U17 .no x0),(3,.loc U17 .no x1),(5,.v U2 x2),(58,.v .bool x3)]:Env)
abbrev e285:=fun x0=>([(2,.dead),(3,.dead),(4,.v .bool x0),(5,.dead)]:Env)
abbrev e286:=fun x0 x1 x2=>([(2,.loc U17 .no x0),(3,.loc U17 .no x1),(4,.dead),(5,.v U2 x2)]:Env)
abbrev e287:=fun x0 x1 x2=>([(1,.loc U17 .no x0),(4,.v U2 x1),(13,.v .bool x2)]:Env)
abbrev e288:=fun x0 x1=>([(1,.dead),(2,.v .str x0),(3,.v U2 x1)]:Env)
abbrev e289:=fun x0 x1 x2 x3=>([(5,.sb 66 5 x0),(21,.v U15 x1),(22,.v U2 x2),(23,.v U2 x3)]:Env)
abbrev e290:=fun x0 x1 x2 x3 x4=>([(5,.sb 66 5 x0),(21,.v U15 x1),(22,.v U2 x2),(23,.v U2 x3),(24,.v .bool x4)]:Env)
abbrev e291:=fun x0 x1 x2 x3 x4=>([(5,.sb 66 5 x0),(7,.loc U14 .no x1),(21,.v U15 x2),(22,.v U2 x3),(23,.v U2 x4)]:Env)
abbrev e292:=fun x0 x1 x2 x3 x4 x5 x6=>([(5,.sb 66 5 x0),(21,.v U15 x1),(22,.v U2 x2),(23,.v U2 x3),(38,.v U1 x4),(39,.v U2 x5),(40,.v U2 x6)]:Env)
abbrev e293:=fun x0 x1 x2 x3 x4 x5 x6 x7=>([(5,.sb 66 5 x0),(21,.v U15 x1),(22,.v U2 x2),(23,.v U2 x3),(38,.v U1 x4),(39,.v U2 x5),(40,.v U2 x6),(41,.v .bool x7)]:Env)
abbrev e294:=fun x0 x1=>([(0,.v .str x0),(20,.v .bool x1)]:Env)
abbrev e295:=fun x0 x1 x2 x3 x4 x5=>([(3,.loc U17 .no x0),(4,.v U2 x1),(5,.v U2 x2),(6,.loc U17 .no x3),(7,.v U2 x4),(8,.v U2 x5)]:Env)
abbrev e296:=fun x0 x1 x2 x3 x4 x5 x6=>([(3,.loc U17 .no x0),(4,.v U2 x1),(5,.v U2 x2),(6,.loc U17 .no x3),(7,.v U2 x4),(8,.v U2 x5),(51,.v .bool x6)]:Env)
variable {N:Nat} {cl:Cal} {R:Type} {K:KE R}
def g61_2 (k0:Bool→Option R) (x0:Int):Option R:=
brB (decide (x0≥(97:Int))) (k0 (decide (x0≤(122:Int)))) (k0 false)
theorem t61_2 (x0):exec cl N c61_2 [(0,.v U0 x0)] K=(g61_2 (fun y0=>exec cl N .ret [(2,.v .bool y0)] K) x0):=by
 kernel_rfl
def g61_2b (k0:Bool→Option R) (x0:Int):Option R:=
(g61_2 k0 x0)
theorem t61_2b (x0):exec cl N c61_2 [(0,.v U0 x0)] K=(g61_2b (fun y0=>K .ret [(2,.v .bool y0)]) x0):=by
 simp only [xS,sN,sE,sR,t61_2,exec_ret]
 rfl
theorem rk61_0 (y0):retK d61 .ret [(2,.v .bool y0)]=some [.v .bool y0]:=by kernel_rfl
def g61 (x0:Int) (k:Bool→Option R):Option R:=
(g61_2b k x0)
theorem gen61 (x0) (k:List E→Option R):exec cl N c61 [(0,.v U0 x0)] (fun e env=>(retK d61 e env).bind k)=g61 x0 (fun r0=>k [.v .bool r0]):=by
 simp only [c61,t61_2b,rk61_0,Option.bind_some]
 rfl
def ctr61 (S:Int→Option (Bool)):Ctr:=cv1 61 U0 S fun b=> [.v .bool b]
def S61 (N:Nat) (x0:Int):Option (Bool):=g61 x0 (fun (r0:Bool)=>some (r0))
def g62_2 (k0:Bool→Option R) (x0:Int):Option R:=
brB (decide (x0≥(48:Int))) (k0 (decide (x0≤(57:Int)))) (k0 false)
theorem t62_2 (x0):exec cl N c62_2 [(0,.v U0 x0)] K=(g62_2 (fun y0=>exec cl N .ret [(2,.v .bool y0)] K) x0):=by
 kernel_rfl
def g62_2b (k0:Bool→Option R) (x0:Int):Option R:=
(g62_2 k0 x0)
theorem t62_2b (x0):exec cl N c62_2 [(0,.v U0 x0)] K=(g62_2b (fun y0=>K .ret [(2,.v .bool y0)]) x0):=by
 simp only [xS,sN,sE,sR,t62_2,exec_ret]
 rfl
theorem rk62_0 (y0):retK d62 .ret [(2,.v .bool y0)]=some [.v .bool y0]:=by kernel_rfl
def g62 (x0:Int) (k:Bool→Option R):Option R:=
(g62_2b k x0)
theorem gen62 (x0) (k:List E→Option R):exec cl N c62 [(0,.v U0 x0)] (fun e env=>(retK d62 e env).bind k)=g62 x0 (fun r0=>k [.v .bool r0]):=by
 simp only [c62,t62_2b,rk62_0,Option.bind_some]
 rfl
def ctr62 (S:Int→Option (Bool)):Ctr:=cv1 62 U0 S fun b=> [.v .bool b]
def S62 (N:Nat) (x0:Int):Option (Bool):=g62 x0 (fun (r0:Bool)=>some (r0))
def g55_0 (k0:V1→Option R) (x0:V1):Option R:=
k0 x0
theorem t55_0 (x0):exec cl N c55_0 [(0,.v .str x0)] K=(g55_0 (fun y0=>K .normal [(0,.v .str y0)]) x0):=by
 kernel_rfl
def g55_1 (S61:Int→Option (Bool)) (k0:V1→Bool→Option R) (x0:V1):Option R:=
brB (x0==([]:List UInt8)) (k0 x0 true) (if 0≤(0:Int)∧(0:Int) < (x0.length:Int) then
(S61 ((x0.getD (0:Int).toNat 0).toNat:Int)).bind fun r51=>
k0 x0 (!r51)
else none)
theorem t55_1 (S61) (h61:(ctr61 S61).holds cl) (x0):exec cl N c55_1 [(0,.v .str x0)] K=(g55_1 S61 (fun y0 y1=>K .normal (e0 y0 y1)) x0):=by
 rw [←put_eq h61]
 kernel_rfl
def g55_2 (k0:Int→Option R) (x0:V1) (x1:Bool):Option R:=
k0 (0:Int)
theorem t55_2 (x0 x1):exec cl N c55_2 (e0 x0 x1) K=(g55_2 (fun y0=>K .normal [(2,.v U2 y0)]) x0 x1):=by
 kernel_rfl
theorem kp55_0 (x0):keep [0,2] [(2,.v U2 x0)]=(e1 x0):=by kernel_rfl
theorem kp55_1 (x0 x1):keep [0,2] (e0 x0 x1)=(e2 x0):=by kernel_rfl
theorem hb55_0 (x0 x1):boolOf? (ent (e0 x0 x1) (.t 12))=some x1:=by kernel_rfl
def g55_4 (k0:V1→Int→Option R) (x0:V1):Option R:=
k0 x0 (1:Int)
theorem t55_4 (x0):exec cl N c55_4 (e2 x0) K=(g55_4 (fun y0 y1=>K .normal (e3 y0 y1)) x0):=by
 kernel_rfl
theorem kp55_2 (x0 x1):keep [0,3] (e3 x0 x1)=(e3 x0 x1):=by kernel_rfl
def g55_5 (k0:V1→Int→Bool→Option R) (x0:V1) (x1:Int):Option R:=
k0 x0 x1 (decide (x1 < (x0.length:Int)))
theorem t55_5 (x0 x1):exec cl N c55_5 (e3 x0 x1) K=(g55_5 (fun y0 y1 y2=>K .normal (e4 y0 y1 y2)) x0 x1):=by
 kernel_rfl
theorem kp55_3 (x0 x1 x2):keep [0,3] (e4 x0 x1 x2)=(e3 x0 x1):=by kernel_rfl
theorem hb55_1 (x0 x1 x2):boolOf? (ent (e4 x0 x1 x2) (.t 16))=some x2:=by kernel_rfl
def g55_7 (k0:V1→Int→Int→Option R) (x0:V1) (x1:Int):Option R:=
if 0≤x1∧x1 < (x0.length:Int) then
k0 x0 x1 ((x0.getD x1.toNat 0).toNat:Int)
else none
theorem t55_7 (x0 x1):exec cl N c55_7 (e3 x0 x1) K=(g55_7 (fun y0 y1 y2=>K .normal [(0,.v .str y0),(3,.v U2 y1),(4,.v U0 y2)]) x0 x1):=by
 kernel_rfl
def g55_8 (S61:Int→Option (Bool)) (S62:Int→Option (Bool)) (k0:V1→Int→Int→Bool→Option R) (x0:V1) (x1 x2:Int):Option R:=
(S61 x2).bind fun r54=>
brB r54 (k0 x0 x1 x2 true) ((S62 x2).bind fun r55=>
k0 x0 x1 x2 r55)
theorem t55_8 (S61) (S62) (h61:(ctr61 S61).holds cl) (h62:(ctr62 S62).holds cl) (x0 x1 x2):exec cl N c55_8 [(0,.v .str x0),(3,.v U2 x1),(4,.v U0 x2)] K=(g55_8 S61 S62 (fun y0 y1 y2 y3=>K .normal (e5 y0 y1 y2 y3)) x0 x1 x2):=by
 rw [←put_eq h61]
 rw [←put_eq h62]
 kernel_rfl
def g55_9 (k0:V1→Int→Option R) (x0:V1) (x1 x2:Int) (x3:Bool):Option R:=
k0 x0 (IntKind.i64.wrap (x1+(1:Int)))
theorem t55_9 (x0 x1 x2 x3):exec cl N c55_9 (e5 x0 x1 x2 x3) K=(g55_9 (fun y0 y1=>K .normal (e3 y0 y1)) x0 x1 x2 x3):=by
 kernel_rfl
theorem kp55_4 (x0 x1):keep [0,2,3] (e3 x0 x1)=(e6 x0 x1):=by kernel_rfl
def g55_10 (S61:Int→Option (Bool)) (S62:Int→Option (Bool)) (k0:V1→Int→Bool→Option R) (x0:V1) (x1 x2:Int) (x3:Bool):Option R:=
brB (x2==(45:Int)) (brB (decide ((IntKind.i64.wrap (x1+(1:Int))) < (x0.length:Int))) (let v60:Int:=(IntKind.i64.wrap (x1+(1:Int)))
if 0≤v60∧v60 < (x0.length:Int) then
(S61 ((x0.getD v60.toNat 0).toNat:Int)).bind fun r62=>
brB r62 (k0 x0 x1 true) (let v63:Int:=(IntKind.i64.wrap (x1+(1:Int)))
if 0≤v63∧v63 < (x0.length:Int) then
(S62 ((x0.getD v63.toNat 0).toNat:Int)).bind fun r65=>
k0 x0 x1 r65
else none)
else none) (k0 x0 x1 false)) (k0 x0 x1 false)
theorem t55_10 (S61) (S62) (h61:(ctr61 S61).holds cl) (h62:(ctr62 S62).holds cl) (x0 x1 x2 x3):exec cl N c55_10 (e5 x0 x1 x2 x3) K=(g55_10 S61 S62 (fun y0 y1 y2=>K .normal (e7 y0 y1 y2)) x0 x1 x2 x3):=by
 rw [←put_eq h61]
 rw [←put_eq h62]
 kernel_rfl
def g55_11 (k0:V1→Int→Option R) (x0:V1) (x1:Int) (x2:Bool):Option R:=
k0 x0 (IntKind.i64.wrap (x1+(2:Int)))
theorem t55_11 (x0 x1 x2):exec cl N c55_11 (e7 x0 x1 x2) K=(g55_11 (fun y0 y1=>K .normal (e3 y0 y1)) x0 x1 x2):=by
 kernel_rfl
def g55_12 (k0:Int→Option R) (x0:V1) (x1:Int) (x2:Bool):Option R:=
k0 x1
theorem t55_12 (x0 x1 x2):exec cl N c55_12 (e7 x0 x1 x2) K=(g55_12 (fun y0=>K .normal [(2,.v U2 y0)]) x0 x1 x2):=by
 kernel_rfl
theorem kp55_5 (x0):keep [0,2,3] [(2,.v U2 x0)]=(e8 x0):=by kernel_rfl
theorem hb55_2 (x0 x1 x2):boolOf? (ent (e7 x0 x1 x2) (.t 30))=some x2:=by kernel_rfl
theorem kp55_6 (x0 x1):keep [0,2,3] (e6 x0 x1)=(e6 x0 x1):=by kernel_rfl
theorem kp55_7 (x0):keep [0,2,3] (e8 x0)=(e8 x0):=by kernel_rfl
theorem hb55_3 (x0 x1 x2 x3):boolOf? (ent (e5 x0 x1 x2 x3) (.t 21))=some x3:=by kernel_rfl
def g55_17 (S61:Int→Option (Bool)) (S62:Int→Option (Bool)) (k0:V1→Int→Option R) (k1:Int→Option R) (k2:V1→Int→Option R) (x0:V1) (x1:Int):Option R:=
(g55_5 (fun y0 y1 y2=>brB y2 ((g55_7 (g55_8 S61 S62 (fun y0 y1 y2 y3=>brB y3 (g55_9 k0 y0 y1 y2 y3) (g55_10 S61 S62 (fun y0 y1 y2=>brB y2 (g55_11 k0 y0 y1 y2) (g55_12 k1 y0 y1 y2)) y0 y1 y2 y3)))) y0 y1) (k2 y0 y1)) x0 x1)
theorem t55_17 (S61) (S62) (h61:(ctr61 S61).holds cl) (h62:(ctr62 S62).holds cl) (x0 x1):exec cl N c55_17 (e3 x0 x1) K=(g55_17 S61 S62 (fun y0 y1=>K .normal (e6 y0 y1)) (fun y0=>K .ret (e8 y0)) (fun y0 y1=>K (.exit 0) (e3 y0 y1)) x0 x1):=by
 simp only [c55_17,xS,sN,sE,sR,t55_5,c55_6,exec_out,exec_cond',hb55_1,Option.bind_some,bT,bF,exec_skip,exec_exit,kp55_3,c55_16,xB,t55_7,c55_15,t55_8 S61 S62 h61 h62,c55_14,hb55_3,t55_9,t55_10 S61 S62 h61 h62,c55_13,hb55_2,t55_11,t55_12,exec_ret,kp55_4,kp55_5,kp55_6,kp55_7,blockK_normal,blockK_ret,blockK_eq]
 rfl
theorem kp55_8 (x0 x1):keep [0,3] (e6 x0 x1)=(e3 x0 x1):=by kernel_rfl
def l55_18 {R:Type} (S61:Int→Option (Bool)) (S62:Int→Option (Bool)) (k0:Int→Option R) (k1:V1→Int→Option R):Nat→V1→Int→Option R
 | 0,_,_=>none
 | m+1,x0,x1=>(g55_17 S61 S62 (l55_18 S61 S62 k0 k1 m) k0 k1 x0 x1)
theorem lt55_18 (S61) (S62) (h61:(ctr61 S61).holds cl) (h62:(ctr62 S62).holds cl):∀ (m) (x0 x1),iter [0,3] (fun env K=>exec cl N c55_17 env K) K m (e3 x0 x1)=l55_18 S61 S62 (fun y0=>K .ret (e8 y0)) (fun y0 y1=>K (.exit 0) (e3 y0 y1)) m x0 x1:=by
 intro m
 induction m with
 | zero=>intros; rfl
 | succ m ih=>
   intro x0 x1
   simp only [iter_succ,t55_17 S61 S62 h61 h62,loopK_normal,loopK_exit,loopK_ret,kp55_8,ih]
   rfl
theorem kp55_9 (x0):keep [2,3] (e8 x0)=(e9 x0):=by kernel_rfl
theorem kp55_10 (x0 x1):keep [2,3] (e3 x0 x1)=(e10 x1):=by kernel_rfl
def g55_18 (N:Nat) (S61:Int→Option (Bool)) (S62:Int→Option (Bool)) (k0:Int→Option R) (k1:Int→Option R) (x0:V1) (x1:Int):Option R:=
l55_18 S61 S62 k0 (fun y0 y1=>k1 y1) N x0 x1
theorem t55_18 (S61) (S62) (h61:(ctr61 S61).holds cl) (h62:(ctr62 S62).holds cl) (x0 x1):exec cl N c55_18 (e3 x0 x1) K=(g55_18 N S61 S62 (fun y0=>K .ret (e9 y0)) (fun y0=>K (.exit 0) (e10 y0)) x0 x1):=by
 simp only [c55_18,exec_out,exec_loop,kp55_2,lt55_18 S61 S62 h61 h62,kp55_10,kp55_9]
 rfl
theorem kp55_11 (x0):keep [2,3] (e9 x0)=(e9 x0):=by kernel_rfl
theorem kp55_12 (x0):keep [2,3] (e10 x0)=(e10 x0):=by kernel_rfl
def g55_20 (k0:Int→Option R) (x0:Int):Option R:=
k0 x0
theorem t55_20 (x0):exec cl N c55_20 (e10 x0) K=(g55_20 (fun y0=>K .normal [(2,.v U2 y0)]) x0):=by
 kernel_rfl
def g55_21 (N:Nat) (S61:Int→Option (Bool)) (S62:Int→Option (Bool)) (k0:Int→Option R) (k1:Int→Option R) (k2:Int→Option R) (x0:V1):Option R:=
(g55_0 (g55_1 S61 (fun y0 y1=>brB y1 (g55_2 k0 y0 y1) ((g55_4 (g55_18 N S61 S62 k1 ((g55_20 k2)))) y0))) x0)
theorem t55_21 (S61) (S62) (h61:(ctr61 S61).holds cl) (h62:(ctr62 S62).holds cl) (x0):exec cl N c55_21 [(0,.v .str x0)] K=(g55_21 N S61 S62 (fun y0=>K .ret (e1 y0)) (fun y0=>K .ret (e9 y0)) (fun y0=>K .ret [(2,.v U2 y0)]) x0):=by
 simp only [c55_21,xS,sN,sE,sR,t55_0,t55_1 S61 h61,c55_3,exec_out,exec_cond',hb55_0,Option.bind_some,bT,bF,t55_2,exec_ret,exec_skip,kp55_0,kp55_1,t55_4,c55_19,xB,t55_18 S61 S62 h61 h62,blockK_normal,blockK_ret,blockK_eq,kp55_11,kp55_12,t55_20]
 rfl
theorem rk55_0 (y0):retK d55 .ret (e1 y0)=some [.v U2 y0]:=by kernel_rfl
theorem rk55_1 (y0):retK d55 .ret (e9 y0)=some [.v U2 y0]:=by kernel_rfl
theorem rk55_2 (y0):retK d55 .ret [(2,.v U2 y0)]=some [.v U2 y0]:=by kernel_rfl
def g55 (N:Nat) (S61:Int→Option (Bool)) (S62:Int→Option (Bool)) (x0:V1) (k:Int→Option R):Option R:=
(g55_21 N S61 S62 k k k x0)
theorem gen55 (S61) (S62) (h61:(ctr61 S61).holds cl) (h62:(ctr62 S62).holds cl) (x0) (k:List E→Option R):exec cl N c55 [(0,.v .str x0)] (fun e env=>(retK d55 e env).bind k)=g55 N S61 S62 x0 (fun r0=>k [.v U2 r0]):=by
 simp only [c55,t55_21 S61 S62 h61 h62,rk55_0,rk55_1,rk55_2,Option.bind_some]
 rfl
def ctr55 (S:V1→Option (Int)):Ctr:=cv1 55 .str S fun b=> [.v U2 b]
def S55 (N:Nat) (x0:V1):Option (Int):=g55 N (S61 N) (S62 N) x0 (fun (r0:Int)=>some (r0))
def g63_10 (k0:V1→Int→Option R) (x0:V1):Option R:=
k0 x0 (0:Int)
theorem t63_10 (x0):exec cl N c63_10 [(0,.v .str x0)] K=(g63_10 (fun y0 y1=>exec cl N (.seq c63_8 (.seq c63_9 .ret)) (e3 y0 y1) K) x0):=by
 kernel_rfl
theorem kp63_0 (x0 x1):keep [0,3] (e3 x0 x1)=(e3 x0 x1):=by kernel_rfl
def g63_2 (S62:Int→Option (Bool)) (k0:V1→Int→Bool→Option R) (x0:V1) (x1:Int):Option R:=
brB (decide (x1 < (x0.length:Int))) (if 0≤x1∧x1 < (x0.length:Int) then
(S62 ((x0.getD x1.toNat 0).toNat:Int)).bind fun r79=>
k0 x0 x1 r79
else none) (k0 x0 x1 false)
theorem t63_2 (S62) (h62:(ctr62 S62).holds cl) (x0 x1):exec cl N c63_2 (e3 x0 x1) K=(g63_2 S62 (fun y0 y1 y2=>K .normal (e11 y0 y1 y2)) x0 x1):=by
 rw [←put_eq h62]
 kernel_rfl
theorem kp63_1 (x0 x1 x2):keep [0,3] (e11 x0 x1 x2)=(e3 x0 x1):=by kernel_rfl
theorem hb63_0 (x0 x1 x2):boolOf? (ent (e11 x0 x1 x2) (.t 13))=some x2:=by kernel_rfl
def g63_4 (k0:V1→Int→Option R) (x0:V1) (x1:Int):Option R:=
k0 x0 (IntKind.i64.wrap (x1+(1:Int)))
theorem t63_4 (x0 x1):exec cl N c63_4 (e3 x0 x1) K=(g63_4 (fun y0 y1=>K .normal (e3 y0 y1)) x0 x1):=by
 kernel_rfl
def g63_6 (S62:Int→Option (Bool)) (k0:V1→Int→Option R) (k1:V1→Int→Option R) (x0:V1) (x1:Int):Option R:=
(g63_2 S62 (fun y0 y1 y2=>brB y2 ((g63_4 k0) y0 y1) (k1 y0 y1)) x0 x1)
theorem t63_6 (S62) (h62:(ctr62 S62).holds cl) (x0 x1):exec cl N c63_6 (e3 x0 x1) K=(g63_6 S62 (fun y0 y1=>K .normal (e3 y0 y1)) (fun y0 y1=>K (.exit 0) (e3 y0 y1)) x0 x1):=by
 simp only [c63_6,xS,sN,sE,sR,t63_2 S62 h62,c63_3,exec_out,exec_cond',hb63_0,Option.bind_some,bT,bF,exec_skip,exec_exit,kp63_1,c63_5,xB,t63_4,blockK_normal,blockK_ret,blockK_eq,kp63_0]
 rfl
def l63_7 {R:Type} (S62:Int→Option (Bool)) (k0:V1→Int→Option R):Nat→V1→Int→Option R
 | 0,_,_=>none
 | m+1,x0,x1=>(g63_6 S62 (l63_7 S62 k0 m) k0 x0 x1)
theorem lt63_7 (S62) (h62:(ctr62 S62).holds cl):∀ (m) (x0 x1),iter [0,3] (fun env K=>exec cl N c63_6 env K) K m (e3 x0 x1)=l63_7 S62 (fun y0 y1=>K (.exit 0) (e3 y0 y1)) m x0 x1:=by
 intro m
 induction m with
 | zero=>intros; rfl
 | succ m ih=>
   intro x0 x1
   simp only [iter_succ,t63_6 S62 h62,loopK_normal,loopK_exit,loopK_ret,kp63_0,ih]
   rfl
theorem kp63_2 (x0 x1):keep [3] (e3 x0 x1)=[(3,.v U2 x1)]:=by kernel_rfl
def g63_7 (N:Nat) (S62:Int→Option (Bool)) (k0:Int→Option R) (x0:V1) (x1:Int):Option R:=
l63_7 S62 (fun y0 y1=>k0 y1) N x0 x1
theorem t63_7 (S62) (h62:(ctr62 S62).holds cl) (x0 x1):exec cl N c63_7 (e3 x0 x1) K=(g63_7 N S62 (fun y0=>K (.exit 0) [(3,.v U2 y0)]) x0 x1):=by
 simp only [c63_7,exec_out,exec_loop,kp63_0,lt63_7 S62 h62,kp63_2]
 rfl
theorem kp63_3 (x0):keep [3] [(3,.v U2 x0)]=[(3,.v U2 x0)]:=by kernel_rfl
def g63_9 (k0:Int→Option R) (x0:Int):Option R:=
k0 x0
theorem t63_9 (x0):exec cl N c63_9 [(3,.v U2 x0)] K=(g63_9 (fun y0=>K .normal [(2,.v U2 y0)]) x0):=by
 kernel_rfl
def g63_10b (N:Nat) (S62:Int→Option (Bool)) (k0:Int→Option R) (x0:V1):Option R:=
(g63_10 (g63_7 N S62 ((g63_9 k0))) x0)
theorem t63_10b (S62) (h62:(ctr62 S62).holds cl) (x0):exec cl N c63_10 [(0,.v .str x0)] K=(g63_10b N S62 (fun y0=>K .ret [(2,.v U2 y0)]) x0):=by
 simp only [xS,sN,sE,sR,t63_10,c63_8,exec_out,xB,t63_7 S62 h62,blockK_normal,blockK_ret,blockK_eq,kp63_3,t63_9,exec_ret]
 rfl
theorem rk63_0 (y0):retK d63 .ret [(2,.v U2 y0)]=some [.v U2 y0]:=by kernel_rfl
def g63 (N:Nat) (S62:Int→Option (Bool)) (x0:V1) (k:Int→Option R):Option R:=
(g63_10b N S62 k x0)
theorem gen63 (S62) (h62:(ctr62 S62).holds cl) (x0) (k:List E→Option R):exec cl N c63 [(0,.v .str x0)] (fun e env=>(retK d63 e env).bind k)=g63 N S62 x0 (fun r0=>k [.v U2 r0]):=by
 simp only [c63,t63_10b S62 h62,rk63_0,Option.bind_some]
 rfl
def ctr63 (S:V1→Option (Int)):Ctr:=cv1 63 .str S fun b=> [.v U2 b]
def S63 (N:Nat) (x0:V1):Option (Int):=g63 N (S62 N) x0 (fun (r0:Int)=>some (r0))
def g45_0 (k0:V1→Option R) (x0:V1):Option R:=
k0 x0
theorem t45_0 (x0):exec cl N c45_0 [(0,.v .str x0)] K=(g45_0 (fun y0=>K .normal [(0,.v .str y0)]) x0):=by
 kernel_rfl
def g45_1 (S63:V1→Option (Int)) (k0:V1→Bool→Option R) (x0:V1):Option R:=
brB (x0==([]:List UInt8)) (k0 x0 true) (brB (decide ((x0.length:Int) > (6:Int))) (k0 x0 true) ((S63 x0).bind fun r102=>
brB (r102 != (x0.length:Int)) (k0 x0 true) (brB (decide ((x0.length:Int) > (1:Int))) (if 0≤(0:Int)∧(0:Int) < (x0.length:Int) then
k0 x0 (((x0.getD (0:Int).toNat 0).toNat:Int)==(48:Int))
else none) (k0 x0 false))))
theorem t45_1 (S63) (h63:(ctr63 S63).holds cl) (x0):exec cl N c45_1 [(0,.v .str x0)] K=(g45_1 S63 (fun y0 y1=>K .normal (e12 y0 y1)) x0):=by
 rw [←put_eq h63]
 kernel_rfl
def g45_2 (k0:Int→Bool→Option R) (x0:V1) (x1:Bool):Option R:=
k0 (0:Int) false
theorem t45_2 (x0 x1):exec cl N c45_2 (e12 x0 x1) K=(g45_2 (fun y0 y1=>K .normal (e13 y0 y1)) x0 x1):=by
 kernel_rfl
theorem kp45_0 (x0 x1):keep [0,2,3] (e13 x0 x1)=(e14 x0 x1):=by kernel_rfl
theorem kp45_1 (x0 x1):keep [0,2,3] (e12 x0 x1)=(e15 x0):=by kernel_rfl
theorem hb45_0 (x0 x1):boolOf? (ent (e12 x0 x1) (.t 30))=some x1:=by kernel_rfl
def g45_4 (k0:V1→Int→Option R) (x0:V1):Option R:=
k0 x0 (0:Int)
theorem t45_4 (x0):exec cl N c45_4 (e15 x0) K=(g45_4 (fun y0 y1=>K .normal (e16 y0 y1)) x0):=by
 kernel_rfl
def g45_5 (k0:Int→V0→Int→Int→Option R) (x0:V1) (x1:Int):Option R:=
k0 x1 (x0.map fun b=>(b.toNat:Int)) ((x0.map fun b=>(b.toNat:Int)).length:Int) (0:Int)
theorem t45_5 (x0 x1):exec cl N c45_5 (e16 x0 x1) K=(g45_5 (fun y0 y1 y2 y3=>K .normal (e17 y0 y1 y2 y3)) x0 x1):=by
 kernel_rfl
theorem kp45_2 (x0 x1 x2 x3):keep [4,32,33,34] (e17 x0 x1 x2 x3)=(e17 x0 x1 x2 x3):=by kernel_rfl
def g45_6 (k0:Int→V0→Int→Int→Bool→Option R) (x0:Int) (x1:V0) (x2 x3:Int):Option R:=
k0 x0 x1 x2 x3 (decide (x3 < x2))
theorem t45_6 (x0 x1 x2 x3):exec cl N c45_6 (e17 x0 x1 x2 x3) K=(g45_6 (fun y0 y1 y2 y3 y4=>K .normal (e18 y0 y1 y2 y3 y4)) x0 x1 x2 x3):=by
 kernel_rfl
theorem kp45_3 (x0 x1 x2 x3 x4):keep [4,32,33,34] (e18 x0 x1 x2 x3 x4)=(e17 x0 x1 x2 x3):=by kernel_rfl
theorem hb45_1 (x0 x1 x2 x3 x4):boolOf? (ent (e18 x0 x1 x2 x3 x4) (.t 35))=some x4:=by kernel_rfl
def g45_10 (k0:Int→V0→Int→Int→Option R) (x0:Int) (x1:V0) (x2 x3:Int):Option R:=
if 0≤x3∧x3 < (x1.length:Int) then
if x3.toNat < x1.length then
k0 (IntKind.i64.wrap ((IntKind.i64.wrap ((10:Int) * x0))+(IntKind.i64.wrap (IntKind.u8.wrap ((x1.getD x3.toNat (0:Int)) - (48:Int)))))) x1 x2 x3
else none
else none
theorem t45_10 (x0 x1 x2 x3):exec cl N c45_10 (e17 x0 x1 x2 x3) K=(g45_10 (fun y0 y1 y2 y3=>K .normal (e17 y0 y1 y2 y3)) x0 x1 x2 x3):=by
 kernel_rfl
def g45_12 (k0:Int→V0→Int→Int→Option R) (x0:Int) (x1:V0) (x2 x3:Int):Option R:=
k0 x0 x1 x2 (IntKind.i64.wrap (x3+(1:Int)))
theorem t45_12 (x0 x1 x2 x3):exec cl N c45_12 (e17 x0 x1 x2 x3) K=(g45_12 (fun y0 y1 y2 y3=>K .normal (e17 y0 y1 y2 y3)) x0 x1 x2 x3):=by
 kernel_rfl
def g45_13 (k0:Int→V0→Int→Int→Option R) (k1:Int→V0→Int→Int→Option R) (x0:Int) (x1:V0) (x2 x3:Int):Option R:=
(g45_6 (fun y0 y1 y2 y3 y4=>brB y4 ((g45_10 ((g45_12 k0))) y0 y1 y2 y3) (k1 y0 y1 y2 y3)) x0 x1 x2 x3)
theorem t45_13 (x0 x1 x2 x3):exec cl N c45_13 (e17 x0 x1 x2 x3) K=(g45_13 (fun y0 y1 y2 y3=>K .normal (e17 y0 y1 y2 y3)) (fun y0 y1 y2 y3=>K (.exit 0) (e17 y0 y1 y2 y3)) x0 x1 x2 x3):=by
 simp only [c45_13,xS,sN,sE,sR,t45_6,c45_7,exec_out,exec_cond',hb45_1,Option.bind_some,bT,bF,exec_skip,exec_exit,kp45_3,c45_11,xB,t45_10,blockK_normal,blockK_ret,blockK_eq,kp45_2,t45_12]
 rfl
def l45_14 {R:Type} (k0:Int→V0→Int→Int→Option R):Nat→Int→V0→Int→Int→Option R
 | 0,_,_,_,_=>none
 | m+1,x0,x1,x2,x3=>(g45_13 (l45_14 k0 m) k0 x0 x1 x2 x3)
theorem lt45_14:∀ (m) (x0 x1 x2 x3),iter [4,32,33,34] (fun env K=>exec cl N c45_13 env K) K m (e17 x0 x1 x2 x3)=l45_14 (fun y0 y1 y2 y3=>K (.exit 0) (e17 y0 y1 y2 y3)) m x0 x1 x2 x3:=by
 intro m
 induction m with
 | zero=>intros; rfl
 | succ m ih=>
   intro x0 x1 x2 x3
   simp only [iter_succ,t45_13,loopK_normal,loopK_exit,loopK_ret,kp45_2,ih]
   rfl
theorem kp45_4 (x0 x1 x2 x3):keep [4] (e17 x0 x1 x2 x3)=[(4,.v U2 x0)]:=by kernel_rfl
def g45_14 (N:Nat) (k0:Int→Option R) (x0:Int) (x1:V0) (x2 x3:Int):Option R:=
l45_14 (fun y0 y1 y2 y3=>k0 y0) N x0 x1 x2 x3
theorem t45_14 (x0 x1 x2 x3):exec cl N c45_14 (e17 x0 x1 x2 x3) K=(g45_14 N (fun y0=>K (.exit 0) [(4,.v U2 y0)]) x0 x1 x2 x3):=by
 simp only [c45_14,exec_out,exec_loop,kp45_2,lt45_14,kp45_4]
 rfl
theorem kp45_5 (x0):keep [4] [(4,.v U2 x0)]=[(4,.v U2 x0)]:=by kernel_rfl
def g45_16 (k0:Int→Bool→Option R) (x0:Int):Option R:=
k0 x0 true
theorem t45_16 (x0):exec cl N c45_16 [(4,.v U2 x0)] K=(g45_16 (fun y0 y1=>K .normal (e13 y0 y1)) x0):=by
 kernel_rfl
def g45_17 (N:Nat) (S63:V1→Option (Int)) (k0:Int→Bool→Option R) (k1:Int→Bool→Option R) (x0:V1):Option R:=
(g45_0 (g45_1 S63 (fun y0 y1=>brB y1 (g45_2 k0 y0 y1) ((g45_4 (g45_5 (g45_14 N ((g45_16 k1))))) y0))) x0)
theorem t45_17 (S63) (h63:(ctr63 S63).holds cl) (x0):exec cl N c45_17 [(0,.v .str x0)] K=(g45_17 N S63 (fun y0 y1=>K .ret (e14 y0 y1)) (fun y0 y1=>K .ret (e13 y0 y1)) x0):=by
 simp only [c45_17,xS,sN,sE,sR,t45_0,t45_1 S63 h63,c45_3,exec_out,exec_cond',hb45_0,Option.bind_some,bT,bF,t45_2,exec_ret,exec_skip,kp45_0,kp45_1,t45_4,t45_5,c45_15,xB,t45_14,blockK_normal,blockK_ret,blockK_eq,kp45_5,t45_16]
 rfl
theorem rk45_0 (y0 y1):retK d45 .ret (e14 y0 y1)=some [.v U2 y0,.v .bool y1]:=by kernel_rfl
theorem rk45_1 (y0 y1):retK d45 .ret (e13 y0 y1)=some [.v U2 y0,.v .bool y1]:=by kernel_rfl
def g45 (N:Nat) (S63:V1→Option (Int)) (x0:V1) (k:Int→Bool→Option R):Option R:=
(g45_17 N S63 k k x0)
theorem gen45 (S63) (h63:(ctr63 S63).holds cl) (x0) (k:List E→Option R):exec cl N c45 [(0,.v .str x0)] (fun e env=>(retK d45 e env).bind k)=g45 N S63 x0 (fun r0 r1=>k [.v U2 r0,.v .bool r1]):=by
 simp only [c45,t45_17 S63 h63,rk45_0,rk45_1,Option.bind_some]
 rfl
def ctr45 (S:V1→Option V3):Ctr:=cv1 45 .str S fun b=> [.v U2 b.1,.v .bool b.2]
def S45 (N:Nat) (x0:V1):Option V3:=g45 N (S63 N) x0 (fun (r0:Int) (r1:Bool)=>some (r0,r1))
def g77_2 (k0:Bool→Option R) (x0:Int):Option R:=
brB (decide (x0≥(32:Int))) (brB (decide (x0≤(126:Int))) (k0 (x0 != (34:Int))) (k0 false)) (k0 false)
theorem t77_2 (x0):exec cl N c77_2 [(0,.v U0 x0)] K=(g77_2 (fun y0=>exec cl N .ret [(2,.v .bool y0)] K) x0):=by
 kernel_rfl
def g77_2b (k0:Bool→Option R) (x0:Int):Option R:=
(g77_2 k0 x0)
theorem t77_2b (x0):exec cl N c77_2 [(0,.v U0 x0)] K=(g77_2b (fun y0=>K .ret [(2,.v .bool y0)]) x0):=by
 simp only [xS,sN,sE,sR,t77_2,exec_ret]
 rfl
theorem rk77_0 (y0):retK d77 .ret [(2,.v .bool y0)]=some [.v .bool y0]:=by kernel_rfl
def g77 (x0:Int) (k:Bool→Option R):Option R:=
(g77_2b k x0)
theorem gen77 (x0) (k:List E→Option R):exec cl N c77 [(0,.v U0 x0)] (fun e env=>(retK d77 e env).bind k)=g77 x0 (fun r0=>k [.v .bool r0]):=by
 simp only [c77,t77_2b,rk77_0,Option.bind_some]
 rfl
def ctr77 (S:Int→Option (Bool)):Ctr:=cv1 77 U0 S fun b=> [.v .bool b]
def S77 (N:Nat) (x0:Int):Option (Bool):=g77 x0 (fun (r0:Bool)=>some (r0))
def g64_17 (k0:V1→Int→Option R) (x0:V1):Option R:=
k0 x0 (1:Int)
theorem t64_17 (x0):exec cl N c64_17 [(0,.v .str x0)] K=(g64_17 (fun y0 y1=>exec cl N (.seq c64_8 (.seq c64_15 (.seq c64_16 .ret))) (e16 y0 y1) K) x0):=by
 kernel_rfl
theorem kp64_0 (x0 x1):keep [0,4] (e16 x0 x1)=(e16 x0 x1):=by kernel_rfl
def g64_2 (S77:Int→Option (Bool)) (k0:V1→Int→Bool→Option R) (x0:V1) (x1:Int):Option R:=
brB (decide (x1 < (x0.length:Int))) (if 0≤x1∧x1 < (x0.length:Int) then
(S77 ((x0.getD x1.toNat 0).toNat:Int)).bind fun r140=>
k0 x0 x1 r140
else none) (k0 x0 x1 false)
theorem t64_2 (S77) (h77:(ctr77 S77).holds cl) (x0 x1):exec cl N c64_2 (e16 x0 x1) K=(g64_2 S77 (fun y0 y1 y2=>K .normal (e19 y0 y1 y2)) x0 x1):=by
 rw [←put_eq h77]
 kernel_rfl
theorem kp64_1 (x0 x1 x2):keep [0,4] (e19 x0 x1 x2)=(e16 x0 x1):=by kernel_rfl
theorem hb64_0 (x0 x1 x2):boolOf? (ent (e19 x0 x1 x2) (.t 14))=some x2:=by kernel_rfl
def g64_4 (k0:V1→Int→Option R) (x0:V1) (x1:Int):Option R:=
k0 x0 (IntKind.i64.wrap (x1+(1:Int)))
theorem t64_4 (x0 x1):exec cl N c64_4 (e16 x0 x1) K=(g64_4 (fun y0 y1=>K .normal (e16 y0 y1)) x0 x1):=by
 kernel_rfl
def g64_6 (S77:Int→Option (Bool)) (k0:V1→Int→Option R) (k1:V1→Int→Option R) (x0:V1) (x1:Int):Option R:=
(g64_2 S77 (fun y0 y1 y2=>brB y2 ((g64_4 k0) y0 y1) (k1 y0 y1)) x0 x1)
theorem t64_6 (S77) (h77:(ctr77 S77).holds cl) (x0 x1):exec cl N c64_6 (e16 x0 x1) K=(g64_6 S77 (fun y0 y1=>K .normal (e16 y0 y1)) (fun y0 y1=>K (.exit 0) (e16 y0 y1)) x0 x1):=by
 simp only [c64_6,xS,sN,sE,sR,t64_2 S77 h77,c64_3,exec_out,exec_cond',hb64_0,Option.bind_some,bT,bF,exec_skip,exec_exit,kp64_1,c64_5,xB,t64_4,blockK_normal,blockK_ret,blockK_eq,kp64_0]
 rfl
def l64_7 {R:Type} (S77:Int→Option (Bool)) (k0:V1→Int→Option R):Nat→V1→Int→Option R
 | 0,_,_=>none
 | m+1,x0,x1=>(g64_6 S77 (l64_7 S77 k0 m) k0 x0 x1)
theorem lt64_7 (S77) (h77:(ctr77 S77).holds cl):∀ (m) (x0 x1),iter [0,4] (fun env K=>exec cl N c64_6 env K) K m (e16 x0 x1)=l64_7 S77 (fun y0 y1=>K (.exit 0) (e16 y0 y1)) m x0 x1:=by
 intro m
 induction m with
 | zero=>intros; rfl
 | succ m ih=>
   intro x0 x1
   simp only [iter_succ,t64_6 S77 h77,loopK_normal,loopK_exit,loopK_ret,kp64_0,ih]
   rfl
def g64_7 (N:Nat) (S77:Int→Option (Bool)) (k0:V1→Int→Option R) (x0:V1) (x1:Int):Option R:=
l64_7 S77 k0 N x0 x1
theorem t64_7 (S77) (h77:(ctr77 S77).holds cl) (x0 x1):exec cl N c64_7 (e16 x0 x1) K=(g64_7 N S77 (fun y0 y1=>K (.exit 0) (e16 y0 y1)) x0 x1):=by
 simp only [c64_7,exec_out,exec_loop,kp64_0,lt64_7 S77 h77,kp64_0]
 rfl
def g64_9 (k0:V1→Int→Bool→Option R) (x0:V1) (x1:Int):Option R:=
brB (x1==(x0.length:Int)) (k0 x0 x1 true) (if 0≤x1∧x1 < (x0.length:Int) then
k0 x0 x1 (((x0.getD x1.toNat 0).toNat:Int) != (34:Int))
else none)
theorem t64_9 (x0 x1):exec cl N c64_9 (e16 x0 x1) K=(g64_9 (fun y0 y1 y2=>K .normal (e20 y0 y1 y2)) x0 x1):=by
 kernel_rfl
def g64_10 (k0:V1→Int→Option R) (x0:V1) (x1:Int) (x2:Bool):Option R:=
k0 ([]:List UInt8) (2:Int)
theorem t64_10 (x0 x1 x2):exec cl N c64_10 (e20 x0 x1 x2) K=(g64_10 (fun y0 y1=>K .normal (e21 y0 y1)) x0 x1 x2):=by
 kernel_rfl
theorem kp64_2 (x0 x1):keep [0,2,3,4] (e21 x0 x1)=(e22 x0 x1):=by kernel_rfl
def g64_11 (k0:V1→Int→Bool→Option R) (x0:V1) (x1:Int) (x2:Bool):Option R:=
k0 x0 x1 (decide ((IntKind.i64.wrap (x1 - (1:Int))) > (60:Int)))
theorem t64_11 (x0 x1 x2):exec cl N c64_11 (e20 x0 x1 x2) K=(g64_11 (fun y0 y1 y2=>K .normal (e23 y0 y1 y2)) x0 x1 x2):=by
 kernel_rfl
def g64_12 (k0:V1→Int→Option R) (x0:V1) (x1:Int) (x2:Bool):Option R:=
k0 ([]:List UInt8) (3:Int)
theorem t64_12 (x0 x1 x2):exec cl N c64_12 (e23 x0 x1 x2) K=(g64_12 (fun y0 y1=>K .normal (e21 y0 y1)) x0 x1 x2):=by
 kernel_rfl
theorem kp64_3 (x0 x1 x2):keep [0,2,3,4] (e23 x0 x1 x2)=(e24 x0 x1):=by kernel_rfl
theorem hb64_1 (x0 x1 x2):boolOf? (ent (e23 x0 x1 x2) (.t 28))=some x2:=by kernel_rfl
theorem kp64_4 (x0 x1):keep [0,2,3,4] (e22 x0 x1)=(e22 x0 x1):=by kernel_rfl
theorem kp64_5 (x0 x1):keep [0,2,3,4] (e24 x0 x1)=(e24 x0 x1):=by kernel_rfl
theorem hb64_2 (x0 x1 x2):boolOf? (ent (e20 x0 x1 x2) (.t 17))=some x2:=by kernel_rfl
def g64_16 (k0:V1→Int→Option R) (x0:V1) (x1:Int):Option R:=
if 0≤(1:Int)∧(1:Int)≤x1∧x1≤(x0.length:Int) then
k0 ((x0.drop (1:Int).toNat).take (x1.toNat - (1:Int).toNat)) (0:Int)
else none
theorem t64_16 (x0 x1):exec cl N c64_16 (e24 x0 x1) K=(g64_16 (fun y0 y1=>K .normal (e21 y0 y1)) x0 x1):=by
 kernel_rfl
def g64_17b (N:Nat) (S77:Int→Option (Bool)) (k0:V1→Int→Option R) (k1:V1→Int→Option R) (x0:V1):Option R:=
(g64_17 (g64_7 N S77 ((g64_9 (fun y0 y1 y2=>brB y2 (g64_10 k0 y0 y1 y2) (g64_11 (fun y0 y1 y2=>brB y2 (g64_12 k0 y0 y1 y2) ((((g64_16 k1))) y0 y1)) y0 y1 y2))))) x0)
theorem t64_17b (S77) (h77:(ctr77 S77).holds cl) (x0):exec cl N c64_17 [(0,.v .str x0)] K=(g64_17b N S77 (fun y0 y1=>K .ret (e22 y0 y1)) (fun y0 y1=>K .ret (e21 y0 y1)) x0):=by
 simp only [xS,sN,sE,sR,t64_17,c64_8,exec_out,xB,t64_7 S77 h77,blockK_normal,blockK_ret,blockK_eq,kp64_0,c64_15,t64_9,c64_14,exec_cond',hb64_2,Option.bind_some,bT,bF,t64_10,exec_ret,t64_11,c64_13,hb64_1,t64_12,exec_skip,kp64_2,kp64_3,kp64_4,kp64_5,t64_16]
 rfl
theorem rk64_0 (y0 y1):retK d64 .ret (e22 y0 y1)=some [.v .str y0,.v U2 y1]:=by kernel_rfl
theorem rk64_1 (y0 y1):retK d64 .ret (e21 y0 y1)=some [.v .str y0,.v U2 y1]:=by kernel_rfl
def g64 (N:Nat) (S77:Int→Option (Bool)) (x0:V1) (k:V1→Int→Option R):Option R:=
(g64_17b N S77 k k x0)
theorem gen64 (S77) (h77:(ctr77 S77).holds cl) (x0) (k:List E→Option R):exec cl N c64 [(0,.v .str x0)] (fun e env=>(retK d64 e env).bind k)=g64 N S77 x0 (fun r0 r1=>k [.v .str r0,.v U2 r1]):=by
 simp only [c64,t64_17b S77 h77,rk64_0,rk64_1,Option.bind_some]
 rfl
def ctr64 (S:V1→Option V7):Ctr:=cv1 64 .str S fun b=> [.v .str b.1,.v U2 b.2]
def S64 (N:Nat) (x0:V1):Option V7:=g64 N (S77 N) x0 (fun (r0:V1) (r1:Int)=>some (r0,r1))
def g65_2 (S78:V1→Int→Option (Int)) (k0:Int→Option R) (x0:V1) (x1:Int):Option R:=
(S78 x0 x1).bind fun r153=>
k0 r153
theorem t65_2 (S78) (h78:(ctr78 S78).holds cl) (x0 x1):exec cl N c65_2 [(0,.v .str x0),(1,.v U0 x1)] K=(g65_2 S78 (fun y0=>exec cl N .ret [(4,.v U2 y0)] K) x0 x1):=by
 rw [←put_eq h78]
 kernel_rfl
def g65_2b (S78:V1→Int→Option (Int)) (k0:Int→Option R) (x0:V1) (x1:Int):Option R:=
(g65_2 S78 k0 x0 x1)
theorem t65_2b (S78) (h78:(ctr78 S78).holds cl) (x0 x1):exec cl N c65_2 [(0,.v .str x0),(1,.v U0 x1)] K=(g65_2b S78 (fun y0=>K .ret [(4,.v U2 y0)]) x0 x1):=by
 simp only [xS,sN,sE,sR,t65_2 S78 h78,exec_ret]
 rfl
theorem rk65_0 (y0):retK d65 .ret [(4,.v U2 y0)]=some [.v U2 y0]:=by kernel_rfl
def g65 (S78:V1→Int→Option (Int)) (x0:V1) (x1:Int) (k:Int→Option R):Option R:=
(g65_2b S78 k x0 x1)
theorem gen65 (S78) (h78:(ctr78 S78).holds cl) (x0 x1) (k:List E→Option R):exec cl N c65 [(0,.v .str x0),(1,.v U0 x1)] (fun e env=>(retK d65 e env).bind k)=g65 S78 x0 x1 (fun r0=>k [.v U2 r0]):=by
 simp only [c65,t65_2b S78 h78,rk65_0,Option.bind_some]
 rfl
def ctr65 (S:V1→Int→Option (Int)):Ctr:=cv2 65 .str U0 S fun b=> [.v U2 b]
def S65 (N:Nat) (x0:V1) (x1:Int):Option (Int):=g65 (S78 N) x0 x1 (fun (r0:Int)=>some (r0))
def g44_0 (k0:V1→V14→Option R) (x0:V1):Option R:=
k0 x0 ((0:Int),([],((0:Int),())))
theorem t44_0 (x0):exec cl N c44_0 [(0,.v .str x0)] K=(g44_0 (fun y0 y1=>K .normal (e25 y0 y1)) x0):=by
 kernel_rfl
def g44_1 (k0:V1→V14→Int→Option R) (x0:V1) (x1:V14):Option R:=
if 0≤(0:Int)∧(0:Int) < (x0.length:Int) then
k0 x0 x1 ((x0.getD (0:Int).toNat 0).toNat:Int)
else none
theorem t44_1 (x0 x1):exec cl N c44_1 (e25 x0 x1) K=(g44_1 (fun y0 y1 y2=>K .normal [(0,.v .str y0),(2,.loc U12 .no y1),(5,.v U0 y2)]) x0 x1):=by
 kernel_rfl
def g44_2 (S61:Int→Option (Bool)) (k0:V1→V14→Int→Bool→Option R) (x0:V1) (x1:V14) (x2:Int):Option R:=
(S61 x2).bind fun r160=>
k0 x0 x1 x2 r160
theorem t44_2 (S61) (h61:(ctr61 S61).holds cl) (x0 x1 x2):exec cl N c44_2 [(0,.v .str x0),(2,.loc U12 .no x1),(5,.v U0 x2)] K=(g44_2 S61 (fun y0 y1 y2 y3=>K .normal (e26 y0 y1 y2 y3)) x0 x1 x2):=by
 rw [←put_eq h61]
 kernel_rfl
def g44_3 (S55:V1→Option (Int)) (k0:V1→V14→Int→Option R) (x0:V1) (x1:V14) (x2:Int) (x3:Bool):Option R:=
(S55 x0).bind fun r161=>
k0 x0 x1 r161
theorem t44_3 (S55) (h55:(ctr55 S55).holds cl) (x0 x1 x2 x3):exec cl N c44_3 (e26 x0 x1 x2 x3) K=(g44_3 S55 (fun y0 y1 y2=>K .normal [(0,.v .str y0),(2,.loc U12 .no y1),(6,.v U2 y2)]) x0 x1 x2 x3):=by
 rw [←put_eq h55]
 kernel_rfl
def g44_4 (k0:V1→V14→Int→Bool→Option R) (x0:V1) (x1:V14) (x2:Int):Option R:=
k0 x0 x1 x2 (decide (x2 > (20:Int)))
theorem t44_4 (x0 x1 x2):exec cl N c44_4 [(0,.v .str x0),(2,.loc U12 .no x1),(6,.v U2 x2)] K=(g44_4 (fun y0 y1 y2 y3=>K .normal (e27 y0 y1 y2 y3)) x0 x1 x2):=by
 kernel_rfl
def g44_5 (k0:V14→Int→Int→Option R) (x0:V1) (x1:V14) (x2:Int) (x3:Bool):Option R:=
k0 ((0:Int),[],(0:Int),()) (0:Int) (3:Int)
theorem t44_5 (x0 x1 x2 x3):exec cl N c44_5 (e27 x0 x1 x2 x3) K=(g44_5 (fun y0 y1 y2=>K .normal (e28 y0 y1 y2)) x0 x1 x2 x3):=by
 kernel_rfl
theorem kp44_0 (x0 x1 x2):keep [0,2,3,4,6] (e28 x0 x1 x2)=(e29 x0 x1 x2):=by kernel_rfl
theorem kp44_1 (x0 x1 x2 x3):keep [0,2,3,4,6] (e27 x0 x1 x2 x3)=(e30 x0 x1 x2):=by kernel_rfl
theorem hb44_0 (x0 x1 x2 x3):boolOf? (ent (e27 x0 x1 x2 x3) (.t 20))=some x3:=by kernel_rfl
def g44_7 (k0:V14→Int→Int→Option R) (x0:V1) (x1:V14) (x2:Int):Option R:=
if 0≤(0:Int)∧(0:Int)≤x2∧x2≤(x0.length:Int) then
k0 ((1:Int),((x0.drop (0:Int).toNat).take (x2.toNat - (0:Int).toNat)),(0:Int),()) x2 (0:Int)
else none
theorem t44_7 (x0 x1 x2):exec cl N c44_7 (e30 x0 x1 x2) K=(g44_7 (fun y0 y1 y2=>K .normal (e28 y0 y1 y2)) x0 x1 x2):=by
 kernel_rfl
theorem kp44_2 (x0 x1 x2):keep [2,3,4] (e29 x0 x1 x2)=(e28 x0 x1 x2):=by kernel_rfl
theorem kp44_3 (x0 x1 x2):keep [2,3,4] (e28 x0 x1 x2)=(e28 x0 x1 x2):=by kernel_rfl
def g44_8 (S62:Int→Option (Bool)) (k0:V1→V14→Int→Bool→Option R) (x0:V1) (x1:V14) (x2:Int) (x3:Bool):Option R:=
(S62 x2).bind fun r166=>
k0 x0 x1 x2 r166
theorem t44_8 (S62) (h62:(ctr62 S62).holds cl) (x0 x1 x2 x3):exec cl N c44_8 (e26 x0 x1 x2 x3) K=(g44_8 S62 (fun y0 y1 y2 y3=>K .normal (e31 y0 y1 y2 y3)) x0 x1 x2 x3):=by
 rw [←put_eq h62]
 kernel_rfl
def g44_9 (S63:V1→Option (Int)) (k0:V1→V14→Int→Option R) (x0:V1) (x1:V14) (x2:Int) (x3:Bool):Option R:=
(S63 x0).bind fun r167=>
k0 x0 x1 r167
theorem t44_9 (S63) (h63:(ctr63 S63).holds cl) (x0 x1 x2 x3):exec cl N c44_9 (e31 x0 x1 x2 x3) K=(g44_9 S63 (fun y0 y1 y2=>K .normal [(0,.v .str y0),(2,.loc U12 .no y1),(7,.v U2 y2)]) x0 x1 x2 x3):=by
 rw [←put_eq h63]
 kernel_rfl
def g44_10 (k0:V1→V14→Int→Bool→Option R) (x0:V1) (x1:V14) (x2:Int):Option R:=
k0 x0 x1 x2 (decide (x2 > (6:Int)))
theorem t44_10 (x0 x1 x2):exec cl N c44_10 [(0,.v .str x0),(2,.loc U12 .no x1),(7,.v U2 x2)] K=(g44_10 (fun y0 y1 y2 y3=>K .normal (e32 y0 y1 y2 y3)) x0 x1 x2):=by
 kernel_rfl
def g44_11 (k0:V14→Int→Int→Option R) (x0:V1) (x1:V14) (x2:Int) (x3:Bool):Option R:=
k0 ((0:Int),[],(0:Int),()) (0:Int) (3:Int)
theorem t44_11 (x0 x1 x2 x3):exec cl N c44_11 (e32 x0 x1 x2 x3) K=(g44_11 (fun y0 y1 y2=>K .normal (e28 y0 y1 y2)) x0 x1 x2 x3):=by
 kernel_rfl
theorem kp44_4 (x0 x1 x2):keep [0,2,3,4,7] (e28 x0 x1 x2)=(e33 x0 x1 x2):=by kernel_rfl
theorem kp44_5 (x0 x1 x2 x3):keep [0,2,3,4,7] (e32 x0 x1 x2 x3)=(e34 x0 x1 x2):=by kernel_rfl
theorem hb44_1 (x0 x1 x2 x3):boolOf? (ent (e32 x0 x1 x2 x3) (.t 33))=some x3:=by kernel_rfl
def g44_17 (S45:V1→Option V3) (k0:V1→V14→Int→Bool→Option R) (x0:V1) (x1:V14) (x2:Int):Option R:=
if 0≤(0:Int)∧(0:Int)≤x2∧x2≤(x0.length:Int) then
(S45 ((x0.drop (0:Int).toNat).take (x2.toNat - (0:Int).toNat))).bind fun r173=>
k0 x0 x1 x2 (!r173.2)
else none
theorem t44_17 (S45) (h45:(ctr45 S45).holds cl) (x0 x1 x2):exec cl N c44_17 (e34 x0 x1 x2) K=(g44_17 S45 (fun y0 y1 y2 y3=>exec cl N c44_16 (e35 y0 y1 y2 y3) K) x0 x1 x2):=by
 rw [←put_eq h45]
 kernel_rfl
def g44_15 (k0:V14→Int→Int→Option R) (x0:V1) (x1:V14) (x2:Int) (x3:Bool):Option R:=
k0 ((0:Int),[],(0:Int),()) (0:Int) (2:Int)
theorem t44_15 (x0 x1 x2 x3):exec cl N c44_15 (e35 x0 x1 x2 x3) K=(g44_15 (fun y0 y1 y2=>K .normal (e28 y0 y1 y2)) x0 x1 x2 x3):=by
 kernel_rfl
theorem kp44_6 (x0 x1 x2 x3):keep [0,2,3,4,7] (e35 x0 x1 x2 x3)=(e34 x0 x1 x2):=by kernel_rfl
theorem hb44_2 (x0 x1 x2 x3):boolOf? (ent (e35 x0 x1 x2 x3) (.t 43))=some x3:=by kernel_rfl
def g44_18 (k0:V14→Int→Int→Option R) (x0:V1) (x1:V14) (x2:Int):Option R:=
if 0≤(0:Int)∧(0:Int)≤x2∧x2≤(x0.length:Int) then
k0 ((2:Int),((x0.drop (0:Int).toNat).take (x2.toNat - (0:Int).toNat)),(0:Int),()) x2 (0:Int)
else none
theorem t44_18 (x0 x1 x2):exec cl N c44_18 (e34 x0 x1 x2) K=(g44_18 (fun y0 y1 y2=>K .normal (e28 y0 y1 y2)) x0 x1 x2):=by
 kernel_rfl
theorem kp44_7 (x0 x1 x2):keep [2,3,4] (e33 x0 x1 x2)=(e28 x0 x1 x2):=by kernel_rfl
def g44_19 (k0:V1→V14→Int→Bool→Option R) (x0:V1) (x1:V14) (x2:Int) (x3:Bool):Option R:=
k0 x0 x1 x2 (x2==(34:Int))
theorem t44_19 (x0 x1 x2 x3):exec cl N c44_19 (e31 x0 x1 x2 x3) K=(g44_19 (fun y0 y1 y2 y3=>K .normal (e36 y0 y1 y2 y3)) x0 x1 x2 x3):=by
 kernel_rfl
def g44_22 (S64:V1→Option V7) (k0:V14→Int→Int→Option R) (x0:V1) (x1:V14) (x2:Int) (x3:Bool):Option R:=
(S64 x0).bind fun r179=>
k0 ((3:Int),r179.1,(0:Int),()) (IntKind.i64.wrap ((r179.1.length:Int)+(2:Int))) r179.2
theorem t44_22 (S64) (h64:(ctr64 S64).holds cl) (x0 x1 x2 x3):exec cl N c44_22 (e36 x0 x1 x2 x3) K=(g44_22 S64 (fun y0 y1 y2=>exec cl N .ret (e28 y0 y1 y2) K) x0 x1 x2 x3):=by
 rw [←put_eq h64]
 kernel_rfl
def g44_23 (S65:V1→Int→Option (Int)) (k0:V1→V14→Bool→Option R) (x0:V1) (x1:V14) (x2:Int) (x3:Bool):Option R:=
(S65 ([123,125,40,41,91,93,47,59,58,126,64,61,94,44,46,124,43,42,60,62,45]:List UInt8) x2).bind fun r182=>
k0 x0 x1 (decide (r182≥(0:Int)))
theorem t44_23 (S65) (h65:(ctr65 S65).holds cl) (x0 x1 x2 x3):exec cl N c44_23 (e36 x0 x1 x2 x3) K=(g44_23 S65 (fun y0 y1 y2=>K .normal (e37 y0 y1 y2)) x0 x1 x2 x3):=by
 rw [←put_eq h65]
 kernel_rfl
def g44_24 (k0:V14→Int→Int→Option R) (x0:V1) (x1:V14) (x2:Bool):Option R:=
if 0≤(0:Int)∧(0:Int)≤(1:Int)∧(1:Int)≤(x0.length:Int) then
k0 ((4:Int),((x0.drop (0:Int).toNat).take ((1:Int).toNat - (0:Int).toNat)),(0:Int),()) (1:Int) (0:Int)
else none
theorem t44_24 (x0 x1 x2):exec cl N c44_24 (e37 x0 x1 x2) K=(g44_24 (fun y0 y1 y2=>K .normal (e28 y0 y1 y2)) x0 x1 x2):=by
 kernel_rfl
theorem kp44_8 (x0 x1 x2):keep [2,3,4] (e37 x0 x1 x2)=(e38 x1):=by kernel_rfl
theorem hb44_3 (x0 x1 x2):boolOf? (ent (e37 x0 x1 x2) (.t 64))=some x2:=by kernel_rfl
theorem kp44_9 (x0):keep [2,3,4] (e38 x0)=(e38 x0):=by kernel_rfl
theorem hb44_4 (x0 x1 x2 x3):boolOf? (ent (e36 x0 x1 x2 x3) (.t 50))=some x3:=by kernel_rfl
theorem hb44_5 (x0 x1 x2 x3):boolOf? (ent (e31 x0 x1 x2 x3) (.t 27))=some x3:=by kernel_rfl
theorem hb44_6 (x0 x1 x2 x3):boolOf? (ent (e26 x0 x1 x2 x3) (.t 14))=some x3:=by kernel_rfl
def g44_30 (k0:V14→Int→Int→Option R) (x0:V14):Option R:=
k0 ((0:Int),[],(0:Int),()) (0:Int) (2:Int)
theorem t44_30 (x0):exec cl N c44_30 (e38 x0) K=(g44_30 (fun y0 y1 y2=>K .normal (e28 y0 y1 y2)) x0):=by
 kernel_rfl
def g44_31 (S45:V1→Option V3) (S55:V1→Option (Int)) (S61:Int→Option (Bool)) (S62:Int→Option (Bool)) (S63:V1→Option (Int)) (S64:V1→Option V7) (S65:V1→Int→Option (Int)) (k0:V14→Int→Int→Option R) (x0:V1):Option R:=
(g44_0 (g44_1 (g44_2 S61 (fun y0 y1 y2 y3=>brB y3 (g44_3 S55 (g44_4 (fun y0 y1 y2 y3=>brB y3 (g44_5 k0 y0 y1 y2 y3) ((g44_7 k0) y0 y1 y2))) y0 y1 y2 y3) (g44_8 S62 (fun y0 y1 y2 y3=>brB y3 (g44_9 S63 (g44_10 (fun y0 y1 y2 y3=>brB y3 (g44_11 k0 y0 y1 y2 y3) ((g44_17 S45 (fun y0 y1 y2 y3=>brB y3 (g44_15 k0 y0 y1 y2 y3) ((g44_18 k0) y0 y1 y2))) y0 y1 y2))) y0 y1 y2 y3) (g44_19 (fun y0 y1 y2 y3=>brB y3 (g44_22 S64 k0 y0 y1 y2 y3) (g44_23 S65 (fun y0 y1 y2=>brB y2 (g44_24 k0 y0 y1 y2) ((((((g44_30 k0))))) y1)) y0 y1 y2 y3)) y0 y1 y2 y3)) y0 y1 y2 y3)))) x0)
theorem t44_31 (S45) (S55) (S61) (S62) (S63) (S64) (S65) (h45:(ctr45 S45).holds cl) (h55:(ctr55 S55).holds cl) (h61:(ctr61 S61).holds cl) (h62:(ctr62 S62).holds cl) (h63:(ctr63 S63).holds cl) (h64:(ctr64 S64).holds cl) (h65:(ctr65 S65).holds cl) (x0):exec cl N c44_31 [(0,.v .str x0)] K=(g44_31 S45 S55 S61 S62 S63 S64 S65 (fun y0 y1 y2=>K .ret (e28 y0 y1 y2)) x0):=by
 simp only [c44_31,xS,sN,sE,sR,t44_0,t44_1,c44_29,exec_out,xB,t44_2 S61 h61,c44_28,exec_cond',hb44_6,Option.bind_some,bT,bF,t44_3 S55 h55,t44_4,c44_6,hb44_0,t44_5,exec_ret,exec_skip,kp44_0,kp44_1,t44_7,t44_8 S62 h62,c44_27,hb44_5,t44_9 S63 h63,t44_10,c44_12,hb44_1,t44_11,kp44_4,kp44_5,t44_17 S45 h45,c44_16,hb44_2,t44_15,kp44_6,t44_18,t44_19,c44_26,hb44_4,t44_22 S64 h64,t44_23 S65 h65,c44_25,hb44_3,t44_24,kp44_3,kp44_8,kp44_9,kp44_7,kp44_2,blockK_normal,blockK_ret,blockK_eq,t44_30]
 rfl
theorem rk44_0 (y0 y1 y2):retK d44 .ret (e28 y0 y1 y2)=some [.v U12 y0,.v U2 y1,.v U2 y2]:=by kernel_rfl
def g44 (S45:V1→Option V3) (S55:V1→Option (Int)) (S61:Int→Option (Bool)) (S62:Int→Option (Bool)) (S63:V1→Option (Int)) (S64:V1→Option V7) (S65:V1→Int→Option (Int)) (x0:V1) (k:V14→Int→Int→Option R):Option R:=
(g44_31 S45 S55 S61 S62 S63 S64 S65 k x0)
theorem gen44 (S45) (S55) (S61) (S62) (S63) (S64) (S65) (h45:(ctr45 S45).holds cl) (h55:(ctr55 S55).holds cl) (h61:(ctr61 S61).holds cl) (h62:(ctr62 S62).holds cl) (h63:(ctr63 S63).holds cl) (h64:(ctr64 S64).holds cl) (h65:(ctr65 S65).holds cl) (x0) (k:List E→Option R):exec cl N c44 [(0,.v .str x0)] (fun e env=>(retK d44 e env).bind k)=g44 S45 S55 S61 S62 S63 S64 S65 x0 (fun r0 r1 r2=>k [.v U12 r0,.v U2 r1,.v U2 r2]):=by
 simp only [c44,t44_31 S45 S55 S61 S62 S63 S64 S65 h45 h55 h61 h62 h63 h64 h65,rk44_0,Option.bind_some]
 rfl
def ctr44 (S:V1→Option V18):Ctr:=cv1 44 .str S fun b=> [.v U12 b.1,.v U2 b.2.1,.v U2 b.2.2]
def S44 (N:Nat) (x0:V1):Option V18:=g44 (S45 N) (S55 N) (S61 N) (S62 N) (S63 N) (S64 N) (S65 N) x0 (fun (r0:V14) (r1:Int) (r2:Int)=>some (r0,r1,r2))
def g18_0 (k0:V1→Option R) (x0:V1):Option R:=
k0 x0
theorem t18_0 (x0):exec cl N c18_0 [(0,.v .str x0)] K=(g18_0 (fun y0=>K .normal [(0,.v .str y0)]) x0):=by
 kernel_rfl
def g18_1 (k0:V1→Bool→Option R) (x0:V1):Option R:=
k0 x0 (decide ((x0.length:Int) > (20000:Int)))
theorem t18_1 (x0):exec cl N c18_1 [(0,.v .str x0)] K=(g18_1 (fun y0 y1=>K .normal (e39 y0 y1)) x0):=by
 kernel_rfl
def g18_2 (k0:V16→Int→Int→Option R) (x0:V1) (x1:Bool):Option R:=
k0 [] (0:Int) (3:Int)
theorem t18_2 (x0 x1):exec cl N c18_2 (e39 x0 x1) K=(g18_2 (fun y0 y1 y2=>K .normal (e40 y0 y1 y2)) x0 x1):=by
 kernel_rfl
theorem kp18_0 (x0 x1 x2):keep [0,2,3,4] (e40 x0 x1 x2)=(e41 x0 x1 x2):=by kernel_rfl
theorem kp18_1 (x0 x1):keep [0,2,3,4] (e39 x0 x1)=(e42 x0):=by kernel_rfl
theorem hb18_0 (x0 x1):boolOf? (ent (e39 x0 x1) (.t 13))=some x1:=by kernel_rfl
def g18_46 (k0:V1→V16→Int→Option R) (x0:V1):Option R:=
k0 x0 [] (1:Int)
theorem t18_46 (x0):exec cl N c18_46 (e42 x0) K=(g18_46 (fun y0 y1 y2=>exec cl N (.seq (.seq c18_6 c18_44) (.seq c18_45 .ret)) [(0,.v .str y0),(5,.own true 58 U12 .no y1),(6,.v U2 y2)] K) x0):=by
 kernel_rfl
def g18_6 (k0:V1→V16→Int→Int→Option R) (x0:V1) (x1:V16) (x2:Int):Option R:=
k0 x0 x1 x2 (0:Int)
theorem t18_6 (x0 x1 x2):exec cl N c18_6 [(0,.v .str x0),(5,.own true 58 U12 .no x1),(6,.v U2 x2)] K=(g18_6 (fun y0 y1 y2 y3=>K .normal (e43 y0 y1 y2 y3)) x0 x1 x2):=by
 kernel_rfl
theorem kp18_2 (x0 x1 x2 x3):keep [0,5,6,7] (e43 x0 x1 x2 x3)=(e43 x0 x1 x2 x3):=by kernel_rfl
def g18_7 (k0:V1→V16→Int→Int→Bool→Option R) (x0:V1) (x1:V16) (x2 x3:Int):Option R:=
k0 x0 x1 x2 x3 (decide (x3 < (x0.length:Int)))
theorem t18_7 (x0 x1 x2 x3):exec cl N c18_7 (e43 x0 x1 x2 x3) K=(g18_7 (fun y0 y1 y2 y3 y4=>K .normal (e44 y0 y1 y2 y3 y4)) x0 x1 x2 x3):=by
 kernel_rfl
theorem kp18_3 (x0 x1 x2 x3 x4):keep [0,5,6,7] (e44 x0 x1 x2 x3 x4)=(e43 x0 x1 x2 x3):=by kernel_rfl
theorem hb18_1 (x0 x1 x2 x3 x4):boolOf? (ent (e44 x0 x1 x2 x3 x4) (.t 17))=some x4:=by kernel_rfl
def g18_9 (k0:V1→V16→Int→Int→Int→Option R) (x0:V1) (x1:V16) (x2 x3:Int):Option R:=
if 0≤x3∧x3 < (x0.length:Int) then
k0 x0 x1 x2 x3 ((x0.getD x3.toNat 0).toNat:Int)
else none
theorem t18_9 (x0 x1 x2 x3):exec cl N c18_9 (e43 x0 x1 x2 x3) K=(g18_9 (fun y0 y1 y2 y3 y4=>K .normal (e45 y0 y1 y2 y3 y4)) x0 x1 x2 x3):=by
 kernel_rfl
def g18_10 (k0:V1→V16→Int→Int→Int→Bool→Option R) (x0:V1) (x1:V16) (x2 x3 x4:Int):Option R:=
k0 x0 x1 x2 x3 x4 (x4==(10:Int))
theorem t18_10 (x0 x1 x2 x3 x4):exec cl N c18_10 (e45 x0 x1 x2 x3 x4) K=(g18_10 (fun y0 y1 y2 y3 y4 y5=>K .normal (e46 y0 y1 y2 y3 y4 y5)) x0 x1 x2 x3 x4):=by
 kernel_rfl
def g18_13 (k0:V1→V16→Int→Int→Option R) (x0:V1) (x1:V16) (x2 x3 x4:Int) (x5:Bool):Option R:=
k0 x0 x1 (IntKind.i64.wrap (x2+(1:Int))) (IntKind.i64.wrap (x3+(1:Int)))
theorem t18_13 (x0 x1 x2 x3 x4 x5):exec cl N c18_13 (e46 x0 x1 x2 x3 x4 x5) K=(g18_13 (fun y0 y1 y2 y3=>K .normal (e43 y0 y1 y2 y3)) x0 x1 x2 x3 x4 x5):=by
 kernel_rfl
theorem kp18_4 (x0 x1 x2 x3):keep [0,2,3,4,5,6,7] (e43 x0 x1 x2 x3)=(e47 x0 x1 x2 x3):=by kernel_rfl
def g18_14 (k0:V1→V16→Int→Int→Int→Bool→Option R) (x0:V1) (x1:V16) (x2 x3 x4:Int) (x5:Bool):Option R:=
k0 x0 x1 x2 x3 x4 (x4==(32:Int))
theorem t18_14 (x0 x1 x2 x3 x4 x5):exec cl N c18_14 (e46 x0 x1 x2 x3 x4 x5) K=(g18_14 (fun y0 y1 y2 y3 y4 y5=>K .normal (e48 y0 y1 y2 y3 y4 y5)) x0 x1 x2 x3 x4 x5):=by
 kernel_rfl
theorem kp18_5 (x0 x1 x2 x3 x4 x5):keep [0,5,6,7,20,48] (e48 x0 x1 x2 x3 x4 x5)=(e48 x0 x1 x2 x3 x4 x5):=by kernel_rfl
def g18_15 (k0:V1→V16→Int→Int→Int→Bool→Option R) (x0:V1) (x1:V16) (x2 x3 x4:Int) (x5:Bool):Option R:=
k0 x0 x1 x2 x3 x4 (x4==(9:Int))
theorem t18_15 (x0 x1 x2 x3 x4 x5):exec cl N c18_15 (e48 x0 x1 x2 x3 x4 x5) K=(g18_15 (fun y0 y1 y2 y3 y4 y5=>K .normal (e48 y0 y1 y2 y3 y4 y5)) x0 x1 x2 x3 x4 x5):=by
 kernel_rfl
def g18_16 (k0:V1→V16→Int→Int→Int→Bool→Option R) (x0:V1) (x1:V16) (x2 x3 x4:Int) (x5:Bool):Option R:=
k0 x0 x1 x2 x3 x4 (x4==(13:Int))
theorem t18_16 (x0 x1 x2 x3 x4 x5):exec cl N c18_16 (e48 x0 x1 x2 x3 x4 x5) K=(g18_16 (fun y0 y1 y2 y3 y4 y5=>K .normal (e48 y0 y1 y2 y3 y4 y5)) x0 x1 x2 x3 x4 x5):=by
 kernel_rfl
theorem hb18_2 (x0 x1 x2 x3 x4 x5):boolOf? (ent (e48 x0 x1 x2 x3 x4 x5) (.t 48))=some x5:=by kernel_rfl
theorem hb18_3 (x0 x1 x2 x3 x4 x5):boolOf? (ent (e48 x0 x1 x2 x3 x4 x5) (.t 48))=some x5:=by kernel_rfl
def g18_19 (k0:V1→V16→Int→Int→Int→Bool→Option R) (x0:V1) (x1:V16) (x2 x3 x4:Int) (x5:Bool):Option R:=
(g18_14 (fun y0 y1 y2 y3 y4 y5=>brB y5 (k0 y0 y1 y2 y3 y4 y5) (g18_15 (fun y0 y1 y2 y3 y4 y5=>brB y5 (k0 y0 y1 y2 y3 y4 y5) (g18_16 k0 y0 y1 y2 y3 y4 y5)) y0 y1 y2 y3 y4 y5)) x0 x1 x2 x3 x4 x5)
theorem t18_19 (x0 x1 x2 x3 x4 x5):exec cl N c18_19 (e46 x0 x1 x2 x3 x4 x5) K=(g18_19 (fun y0 y1 y2 y3 y4 y5=>K .normal (e48 y0 y1 y2 y3 y4 y5)) x0 x1 x2 x3 x4 x5):=by
 simp only [c18_19,xS,sN,sE,sR,t18_14,c18_18,exec_out,exec_cond',hb18_3,Option.bind_some,bT,bF,exec_skip,t18_15,c18_17,hb18_2,t18_16,kp18_5]
 rfl
def g18_20 (k0:V1→V16→Int→Int→Option R) (x0:V1) (x1:V16) (x2 x3 x4:Int) (x5:Bool):Option R:=
k0 x0 x1 x2 (IntKind.i64.wrap (x3+(1:Int)))
theorem t18_20 (x0 x1 x2 x3 x4 x5):exec cl N c18_20 (e48 x0 x1 x2 x3 x4 x5) K=(g18_20 (fun y0 y1 y2 y3=>K .normal (e43 y0 y1 y2 y3)) x0 x1 x2 x3 x4 x5):=by
 kernel_rfl
def g18_21 (k0:V1→V16→Int→Int→Bool→Option R) (x0:V1) (x1:V16) (x2 x3 x4:Int) (x5:Bool):Option R:=
k0 x0 x1 x2 x3 (x4==(35:Int))
theorem t18_21 (x0 x1 x2 x3 x4 x5):exec cl N c18_21 (e48 x0 x1 x2 x3 x4 x5) K=(g18_21 (fun y0 y1 y2 y3 y4=>K .normal (e49 y0 y1 y2 y3 y4)) x0 x1 x2 x3 x4 x5):=by
 kernel_rfl
theorem kp18_6 (x0 x1 x2 x3 x4):keep [0,5,6,7] (e49 x0 x1 x2 x3 x4)=(e43 x0 x1 x2 x3):=by kernel_rfl
def g18_22 (k0:V1→V16→Int→Int→Bool→Option R) (x0:V1) (x1:V16) (x2 x3:Int):Option R:=
brB (decide (x3 < (x0.length:Int))) (if 0≤x3∧x3 < (x0.length:Int) then
k0 x0 x1 x2 x3 (((x0.getD x3.toNat 0).toNat:Int) != (10:Int))
else none) (k0 x0 x1 x2 x3 false)
theorem t18_22 (x0 x1 x2 x3):exec cl N c18_22 (e43 x0 x1 x2 x3) K=(g18_22 (fun y0 y1 y2 y3 y4=>K .normal (e50 y0 y1 y2 y3 y4)) x0 x1 x2 x3):=by
 kernel_rfl
theorem kp18_7 (x0 x1 x2 x3 x4):keep [0,5,6,7] (e50 x0 x1 x2 x3 x4)=(e43 x0 x1 x2 x3):=by kernel_rfl
theorem hb18_4 (x0 x1 x2 x3 x4):boolOf? (ent (e50 x0 x1 x2 x3 x4) (.t 65))=some x4:=by kernel_rfl
def g18_24 (k0:V1→V16→Int→Int→Option R) (x0:V1) (x1:V16) (x2 x3:Int):Option R:=
k0 x0 x1 x2 (IntKind.i64.wrap (x3+(1:Int)))
theorem t18_24 (x0 x1 x2 x3):exec cl N c18_24 (e43 x0 x1 x2 x3) K=(g18_24 (fun y0 y1 y2 y3=>K .normal (e43 y0 y1 y2 y3)) x0 x1 x2 x3):=by
 kernel_rfl
def g18_26 (k0:V1→V16→Int→Int→Option R) (k1:V1→V16→Int→Int→Option R) (x0:V1) (x1:V16) (x2 x3:Int):Option R:=
(g18_22 (fun y0 y1 y2 y3 y4=>brB y4 ((g18_24 k0) y0 y1 y2 y3) (k1 y0 y1 y2 y3)) x0 x1 x2 x3)
theorem t18_26 (x0 x1 x2 x3):exec cl N c18_26 (e43 x0 x1 x2 x3) K=(g18_26 (fun y0 y1 y2 y3=>K .normal (e43 y0 y1 y2 y3)) (fun y0 y1 y2 y3=>K (.exit 3) (e43 y0 y1 y2 y3)) x0 x1 x2 x3):=by
 simp only [c18_26,xS,sN,sE,sR,t18_22,c18_23,exec_out,exec_cond',hb18_4,Option.bind_some,bT,bF,exec_skip,exec_exit,kp18_7,c18_25,xB,t18_24,blockK_normal,blockK_ret,blockK_eq,kp18_2]
 rfl
def l18_27 {R:Type} (k0:V1→V16→Int→Int→Option R):Nat→V1→V16→Int→Int→Option R
 | 0,_,_,_,_=>none
 | m+1,x0,x1,x2,x3=>(g18_26 (l18_27 k0 m) k0 x0 x1 x2 x3)
theorem lt18_27:∀ (m) (x0 x1 x2 x3),iter [0,5,6,7] (fun env K=>exec cl N c18_26 env K) K m (e43 x0 x1 x2 x3)=l18_27 (fun y0 y1 y2 y3=>K (.exit 3) (e43 y0 y1 y2 y3)) m x0 x1 x2 x3:=by
 intro m
 induction m with
 | zero=>intros; rfl
 | succ m ih=>
   intro x0 x1 x2 x3
   simp only [iter_succ,t18_26,loopK_normal,loopK_exit,loopK_ret,kp18_2,ih]
   rfl
def g18_27 (N:Nat) (k0:V1→V16→Int→Int→Option R) (x0:V1) (x1:V16) (x2 x3:Int) (x4:Bool):Option R:=
l18_27 k0 N x0 x1 x2 x3
theorem t18_27 (x0 x1 x2 x3 x4):exec cl N c18_27 (e49 x0 x1 x2 x3 x4) K=(g18_27 N (fun y0 y1 y2 y3=>K (.exit 3) (e43 y0 y1 y2 y3)) x0 x1 x2 x3 x4):=by
 simp only [c18_27,exec_out,exec_loop,kp18_6,lt18_27,kp18_2]
 rfl
def g18_29 (S44:V1→Option V18) (k0:V1→V16→Int→Int→V14→Int→Int→Option R) (x0:V1) (x1:V16) (x2 x3:Int) (x4:Bool):Option R:=
if 0≤x3∧x3≤(x0.length:Int)∧(x0.length:Int)≤(x0.length:Int) then
(S44 ((x0.drop x3.toNat).take ((x0.length:Int).toNat - x3.toNat))).bind fun r207=>
k0 x0 x1 x2 x3 r207.1 r207.2.1 r207.2.2
else none
theorem t18_29 (S44) (h44:(ctr44 S44).holds cl) (x0 x1 x2 x3 x4):exec cl N c18_29 (e49 x0 x1 x2 x3 x4) K=(g18_29 S44 (fun y0 y1 y2 y3 y4 y5 y6=>K .normal (e51 y0 y1 y2 y3 y4 y5 y6)) x0 x1 x2 x3 x4):=by
 rw [←put_eq h44]
 kernel_rfl
def g18_30 (k0:V1→V16→Int→Int→V14→Int→Int→Bool→Option R) (x0:V1) (x1:V16) (x2 x3:Int) (x4:V14) (x5 x6:Int):Option R:=
k0 x0 x1 x2 x3 x4 x5 x6 (x6 != (0:Int))
theorem t18_30 (x0 x1 x2 x3 x4 x5 x6):exec cl N c18_30 (e51 x0 x1 x2 x3 x4 x5 x6) K=(g18_30 (fun y0 y1 y2 y3 y4 y5 y6 y7=>K .normal (e52 y0 y1 y2 y3 y4 y5 y6 y7)) x0 x1 x2 x3 x4 x5 x6):=by
 kernel_rfl
def g18_31 (k0:V16→Int→Int→Option R) (x0:V1) (x1:V16) (x2 x3:Int) (x4:V14) (x5 x6:Int) (x7:Bool):Option R:=
k0 [] x2 x6
theorem t18_31 (x0 x1 x2 x3 x4 x5 x6 x7):exec cl N c18_31 (e52 x0 x1 x2 x3 x4 x5 x6 x7) K=(g18_31 (fun y0 y1 y2=>K .normal (e40 y0 y1 y2)) x0 x1 x2 x3 x4 x5 x6 x7):=by
 kernel_rfl
theorem kp18_8 (x0 x1 x2):keep [0,2,3,4,5,6,7,8,9] (e40 x0 x1 x2)=(e53 x0 x1 x2):=by kernel_rfl
theorem kp18_9 (x0 x1 x2 x3 x4 x5 x6 x7):keep [0,2,3,4,5,6,7,8,9] (e52 x0 x1 x2 x3 x4 x5 x6 x7)=(e54 x0 x1 x2 x3 x4 x5):=by kernel_rfl
theorem hb18_5 (x0 x1 x2 x3 x4 x5 x6 x7):boolOf? (ent (e52 x0 x1 x2 x3 x4 x5 x6 x7) (.t 30))=some x7:=by kernel_rfl
def g18_36 (k0:V1→V16→Int→Int→Option R) (x0:V1) (x1:V16) (x2 x3:Int) (x4:V14) (x5:Int):Option R:=
if x1.length+[(x4.1,(x4.2.1,(x2,x4.2.2.2)))].length≤4398046511104 then
k0 x0 (x1++[(x4.1,(x4.2.1,(x2,x4.2.2.2)))]) x2 (IntKind.i64.wrap (x3+x5))
else none
theorem t18_36 (x0 x1 x2 x3 x4 x5):exec cl N c18_36 (e54 x0 x1 x2 x3 x4 x5) K=(g18_36 (fun y0 y1 y2 y3=>K .normal (e43 y0 y1 y2 y3)) x0 x1 x2 x3 x4 x5):=by
 kernel_rfl
theorem kp18_10 (x0 x1 x2):keep [0,2,3,4,5,6,7] (e53 x0 x1 x2)=(e55 x0 x1 x2):=by kernel_rfl
theorem hb18_6 (x0 x1 x2 x3 x4):boolOf? (ent (e49 x0 x1 x2 x3 x4) (.t 54))=some x4:=by kernel_rfl
theorem kp18_11 (x0 x1 x2 x3):keep [0,2,3,4,5,6,7] (e47 x0 x1 x2 x3)=(e47 x0 x1 x2 x3):=by kernel_rfl
theorem kp18_12 (x0 x1 x2):keep [0,2,3,4,5,6,7] (e55 x0 x1 x2)=(e55 x0 x1 x2):=by kernel_rfl
theorem hb18_7 (x0 x1 x2 x3 x4 x5):boolOf? (ent (e48 x0 x1 x2 x3 x4 x5) (.t 48))=some x5:=by kernel_rfl
theorem hb18_8 (x0 x1 x2 x3 x4 x5):boolOf? (ent (e46 x0 x1 x2 x3 x4 x5) (.t 42))=some x5:=by kernel_rfl
def g18_42 (N:Nat) (S44:V1→Option V18) (k0:V1→V16→Int→Int→Option R) (k1:V16→Int→Int→Option R) (k2:V1→V16→Int→Int→Option R) (x0:V1) (x1:V16) (x2 x3:Int):Option R:=
(g18_7 (fun y0 y1 y2 y3 y4=>brB y4 ((g18_9 (g18_10 (fun y0 y1 y2 y3 y4 y5=>brB y5 (g18_13 k0 y0 y1 y2 y3 y4 y5) (g18_19 (fun y0 y1 y2 y3 y4 y5=>brB y5 (g18_20 k0 y0 y1 y2 y3 y4 y5) (g18_21 (fun y0 y1 y2 y3 y4=>brB y4 (g18_27 N k0 y0 y1 y2 y3 y4) (g18_29 S44 (g18_30 (fun y0 y1 y2 y3 y4 y5 y6 y7=>brB y7 (g18_31 k1 y0 y1 y2 y3 y4 y5 y6 y7) ((g18_36 k0) y0 y1 y2 y3 y4 y5))) y0 y1 y2 y3 y4)) y0 y1 y2 y3 y4 y5)) y0 y1 y2 y3 y4 y5)))) y0 y1 y2 y3) (k2 y0 y1 y2 y3)) x0 x1 x2 x3)
theorem t18_42 (S44) (h44:(ctr44 S44).holds cl) (x0 x1 x2 x3):exec cl N c18_42 (e43 x0 x1 x2 x3) K=(g18_42 N S44 (fun y0 y1 y2 y3=>K .normal (e47 y0 y1 y2 y3)) (fun y0 y1 y2=>K .ret (e55 y0 y1 y2)) (fun y0 y1 y2 y3=>K (.exit 0) (e43 y0 y1 y2 y3)) x0 x1 x2 x3):=by
 simp only [c18_42,xS,sN,sE,sR,t18_7,c18_8,exec_out,exec_cond',hb18_1,Option.bind_some,bT,bF,exec_skip,exec_exit,kp18_3,c18_41,xB,t18_9,c18_40,t18_10,c18_39,hb18_8,t18_13,t18_19,c18_38,hb18_7,t18_20,t18_21,c18_37,hb18_6,c18_28,t18_27,blockK_normal,blockK_ret,blockK_eq,kp18_2,t18_29 S44 h44,t18_30,c18_32,hb18_5,t18_31,exec_ret,kp18_8,kp18_9,t18_36,kp18_10,kp18_4,kp18_11,kp18_12]
 rfl
theorem kp18_13 (x0 x1 x2 x3):keep [0,5,6,7] (e47 x0 x1 x2 x3)=(e43 x0 x1 x2 x3):=by kernel_rfl
def l18_43 {R:Type} (N:Nat) (S44:V1→Option V18) (k0:V16→Int→Int→Option R) (k1:V1→V16→Int→Int→Option R):Nat→V1→V16→Int→Int→Option R
 | 0,_,_,_,_=>none
 | m+1,x0,x1,x2,x3=>(g18_42 N S44 (l18_43 N S44 k0 k1 m) k0 k1 x0 x1 x2 x3)
theorem lt18_43 (S44) (h44:(ctr44 S44).holds cl):∀ (m) (x0 x1 x2 x3),iter [0,5,6,7] (fun env K=>exec cl N c18_42 env K) K m (e43 x0 x1 x2 x3)=l18_43 N S44 (fun y0 y1 y2=>K .ret (e55 y0 y1 y2)) (fun y0 y1 y2 y3=>K (.exit 0) (e43 y0 y1 y2 y3)) m x0 x1 x2 x3:=by
 intro m
 induction m with
 | zero=>intros; rfl
 | succ m ih=>
   intro x0 x1 x2 x3
   simp only [iter_succ,t18_42 S44 h44,loopK_normal,loopK_exit,loopK_ret,kp18_13,ih]
   rfl
theorem kp18_14 (x0 x1 x2):keep [2,3,4,5] (e55 x0 x1 x2)=(e56 x0 x1 x2):=by kernel_rfl
theorem kp18_15 (x0 x1 x2 x3):keep [2,3,4,5] (e43 x0 x1 x2 x3)=(e57 x1):=by kernel_rfl
def g18_43 (N:Nat) (S44:V1→Option V18) (k0:V16→Int→Int→Option R) (k1:V16→Option R) (x0:V1) (x1:V16) (x2 x3:Int):Option R:=
l18_43 N S44 k0 (fun y0 y1 y2 y3=>k1 y1) N x0 x1 x2 x3
theorem t18_43 (S44) (h44:(ctr44 S44).holds cl) (x0 x1 x2 x3):exec cl N c18_43 (e43 x0 x1 x2 x3) K=(g18_43 N S44 (fun y0 y1 y2=>K .ret (e56 y0 y1 y2)) (fun y0=>K (.exit 0) (e57 y0)) x0 x1 x2 x3):=by
 simp only [c18_43,exec_out,exec_loop,kp18_2,lt18_43 S44 h44,kp18_14,kp18_15]
 rfl
theorem kp18_16 (x0 x1 x2):keep [2,3,4,5] (e56 x0 x1 x2)=(e56 x0 x1 x2):=by kernel_rfl
theorem kp18_17 (x0):keep [2,3,4,5] (e57 x0)=(e57 x0):=by kernel_rfl
def g18_45 (k0:Int→Int→V16→Option R) (x0:V16):Option R:=
k0 (0:Int) (0:Int) x0
theorem t18_45 (x0):exec cl N c18_45 (e57 x0) K=(g18_45 (fun y0 y1 y2=>K .normal (e58 y0 y1 y2)) x0):=by
 kernel_rfl
def g18_47 (N:Nat) (S44:V1→Option V18) (k0:V16→Int→Int→Option R) (k1:V16→Int→Int→Option R) (k2:Int→Int→V16→Option R) (x0:V1):Option R:=
(g18_0 (g18_1 (fun y0 y1=>brB y1 (g18_2 k0 y0 y1) ((g18_46 (g18_6 (g18_43 N S44 k1 ((g18_45 k2))))) y0))) x0)
theorem t18_47 (S44) (h44:(ctr44 S44).holds cl) (x0):exec cl N c18_47 [(0,.v .str x0)] K=(g18_47 N S44 (fun y0 y1 y2=>K .ret (e41 y0 y1 y2)) (fun y0 y1 y2=>K .ret (e56 y0 y1 y2)) (fun y0 y1 y2=>K .ret (e58 y0 y1 y2)) x0):=by
 simp only [c18_47,xS,sN,sE,sR,t18_0,t18_1,c18_3,exec_out,exec_cond',hb18_0,Option.bind_some,bT,bF,t18_2,exec_ret,exec_skip,kp18_0,kp18_1,t18_46,t18_6,c18_44,xB,t18_43 S44 h44,blockK_normal,blockK_ret,blockK_eq,kp18_16,kp18_17,t18_45]
 rfl
theorem rk18_0 (y0 y1 y2):retK d18 .ret (e41 y0 y1 y2)=some [.own true 58 U12 .no y0,.v U2 y1,.v U2 y2]:=by kernel_rfl
theorem rk18_1 (y0 y1 y2):retK d18 .ret (e56 y0 y1 y2)=some [.own true 58 U12 .no y0,.v U2 y1,.v U2 y2]:=by kernel_rfl
theorem rk18_2 (y0 y1 y2):retK d18 .ret (e58 y0 y1 y2)=some [.own true 58 U12 .no y2,.v U2 y0,.v U2 y1]:=by kernel_rfl
def g18 (N:Nat) (S44:V1→Option V18) (x0:V1) (k:V16→Int→Int→Option R):Option R:=
(g18_47 N S44 k k (fun y0 y1 y2=>k y2 y0 y1) x0)
theorem gen18 (S44) (h44:(ctr44 S44).holds cl) (x0) (k:List E→Option R):exec cl N c18 [(0,.v .str x0)] (fun e env=>(retK d18 e env).bind k)=g18 N S44 x0 (fun r0 r1 r2=>k [.own true 58 U12 .no r0,.v U2 r1,.v U2 r2]):=by
 simp only [c18,t18_47 S44 h44,rk18_0,rk18_1,rk18_2,Option.bind_some]
 rfl
def ctr18 (S:V1→Option V19):Ctr:=cv1 18 .str S fun b=> [.own true 58 U12 .no b.1,.v U2 b.2.1,.v U2 b.2.2]
def S18 (N:Nat) (x0:V1):Option V19:=g18 N (S44 N) x0 (fun (r0:V16) (r1:Int) (r2:Int)=>some (r0,r1,r2))
def g20_2 (k0:Bool→Option R) (x0:V22) (x1:Int) (x2:V1):Option R:=
brB (decide (x0.2.1 < (x0.1.length:Int))) (if 0≤x0.2.1∧x0.2.1 < (x0.1.length:Int) then
brB ((x0.1.getD x0.2.1.toNat ((0:Int),([],((0:Int),())))).1==x1) (brB (x2==([]:List UInt8)) (k0 true) (if 0≤x0.2.1∧x0.2.1 < (x0.1.length:Int) then
k0 ((x0.1.getD x0.2.1.toNat ((0:Int),([],((0:Int),())))).2.1==x2)
else none)) (k0 false)
else none) (k0 false)
theorem t20_2 (x0 x1 x2):exec cl N c20_2 (e59 x0 x1 x2) K=(g20_2 (fun y0=>exec cl N .ret [(6,.v .bool y0)] K) x0 x1 x2):=by
 kernel_rfl
def g20_2b (k0:Bool→Option R) (x0:V22) (x1:Int) (x2:V1):Option R:=
(g20_2 k0 x0 x1 x2)
theorem t20_2b (x0 x1 x2):exec cl N c20_2 (e59 x0 x1 x2) K=(g20_2b (fun y0=>K .ret [(6,.v .bool y0)]) x0 x1 x2):=by
 simp only [xS,sN,sE,sR,t20_2,exec_ret]
 rfl
theorem rk20_0 (y0):retK d20 .ret [(6,.v .bool y0)]=some [.v .bool y0]:=by kernel_rfl
def g20 (x0:V22) (x1:Int) (x2:V1) (k:Bool→Option R):Option R:=
(g20_2b k x0 x1 x2)
theorem gen20 (x0 x1 x2) (k:List E→Option R):exec cl N c20 (e59 x0 x1 x2) (fun e env=>(retK d20 e env).bind k)=g20 x0 x1 x2 (fun r0=>k [.v .bool r0]):=by
 simp only [c20,t20_2b,rk20_0,Option.bind_some]
 rfl
def ctr20 (S:V22→Int→V1→Option (Bool)):Ctr:={A:=V22×Int×V1×Unit,B:=Bool,f:=20,enc:=fun a=> [.at U18 a.1,.v U2 a.2.1,.v .str a.2.2.1],dec:=(decC (decA U18) (decC (decV U2) (decC (decV .str) dec0))),S:=fun a=>S a.1 a.2.1 a.2.2.1,ent:=fun b=> [.v .bool b],ok:=(decA_cons (T:=U18) (decV_cons (T:=U2) (decV_cons (T:=.str) (fun es b h=>dec0_some h))))}
def S20 (N:Nat) (x0:V22) (x1:Int) (x2:V1):Option (Bool):=g20 x0 x1 x2 (fun (r0:Bool)=>some (r0))
def g19_0 (k0:V22→Int→V1→Option R) (x0:V22) (x1:Int) (x2:V1):Option R:=
k0 x0 x1 x2
theorem t19_0 (x0 x1 x2):exec cl N c19_0 (e60 x0 x1 x2) K=(g19_0 (fun y0 y1 y2=>K .normal (e60 y0 y1 y2)) x0 x1 x2):=by
 kernel_rfl
def g19_1 (S20:V22→Int→V1→Option (Bool)) (k0:V22→Bool→Option R) (x0:V22) (x1:Int) (x2:V1):Option R:=
brB x0.2.2.1 (k0 x0 true) ((S20 x0 x1 x2).bind fun r229=>
k0 x0 (!r229))
theorem t19_1 (S20) (h20:(ctr20 S20).holds cl) (x0 x1 x2):exec cl N c19_1 (e60 x0 x1 x2) K=(g19_1 S20 (fun y0 y1=>K .normal (e61 y0 y1)) x0 x1 x2):=by
 rw [←put_eq h20]
 kernel_rfl
def g19_4 (k0:V22→V1→Option R) (x0:V22) (x1:Bool):Option R:=
k0 (x0.1,(x0.2.1,(true,x0.2.2.2))) ([]:List UInt8)
theorem t19_4 (x0 x1):exec cl N c19_4 (e61 x0 x1) K=(g19_4 (fun y0 y1=>exec cl N .ret (e62 y0 y1) K) x0 x1):=by
 kernel_rfl
theorem kp19_0 (x0 x1):keep [0,6] (e62 x0 x1)=(e62 x0 x1):=by kernel_rfl
theorem kp19_1 (x0 x1):keep [0,6] (e61 x0 x1)=[(0,.loc U18 .no x0),(6,.dead)]:=by kernel_rfl
theorem hb19_0 (x0 x1):boolOf? (ent (e61 x0 x1) (.t 17))=some x1:=by kernel_rfl
def g19_8 (k0:V22→V1→Option R) (x0:V22):Option R:=
let v231:Int:=(IntKind.i64.wrap (x0.2.1+(1:Int)))
let v232:Int:=(IntKind.i64.wrap (v231 - (1:Int)))
if 0≤v232∧v232 < (x0.1.length:Int) then
k0 (x0.1,(v231,x0.2.2)) ((x0.1.getD v232.toNat ((0:Int),([],((0:Int),())))).2.1)
else none
theorem t19_8 (x0):exec cl N c19_8 [(0,.loc U18 .no x0),(6,.dead)] K=(g19_8 (fun y0 y1=>exec cl N .ret (e62 y0 y1) K) x0):=by
 kernel_rfl
def g19_9 (S20:V22→Int→V1→Option (Bool)) (k0:V22→V1→Option R) (x0:V22) (x1:Int) (x2:V1):Option R:=
(g19_0 (g19_1 S20 (fun y0 y1=>brB y1 (g19_4 k0 y0 y1) ((g19_8 k0) y0))) x0 x1 x2)
theorem t19_9 (S20) (h20:(ctr20 S20).holds cl) (x0 x1 x2):exec cl N c19_9 (e60 x0 x1 x2) K=(g19_9 S20 (fun y0 y1=>K .ret (e62 y0 y1)) x0 x1 x2):=by
 simp only [c19_9,xS,sN,sE,sR,t19_0,t19_1 S20 h20,c19_5,exec_out,exec_cond',hb19_0,Option.bind_some,bT,bF,t19_4,exec_ret,exec_skip,kp19_0,kp19_1,t19_8]
 rfl
theorem rk19_0 (y0 y1):retK d19 .ret (e62 y0 y1)=some [.loc U18 .no y0,.v .str y1]:=by kernel_rfl
def g19 (S20:V22→Int→V1→Option (Bool)) (x0:V22) (x1:Int) (x2:V1) (k:V22→V1→Option R):Option R:=
(g19_9 S20 k x0 x1 x2)
theorem gen19 (S20) (h20:(ctr20 S20).holds cl) (x0 x1 x2) (k:List E→Option R):exec cl N c19 (e60 x0 x1 x2) (fun e env=>(retK d19 e env).bind k)=g19 S20 x0 x1 x2 (fun r0 r1=>k [.loc U18 .no r0,.v .str r1]):=by
 simp only [c19,t19_9 S20 h20,rk19_0,Option.bind_some]
 rfl
def ctr19 (S:V22→Int→V1→Option V24):Ctr:={A:=V22×Int×V1×Unit,B:=V22×V1,f:=19,enc:=fun a=> [.loc U18 .no a.1,.v U2 a.2.1,.v .str a.2.2.1],dec:=(decC (decL .no U18) (decC (decV U2) (decC (decV .str) dec0))),S:=fun a=>S a.1 a.2.1 a.2.2.1,ent:=fun b=> [.loc U18 .no b.1,.v .str b.2],ok:=(decL_cons (o:=.no) (T:=U18) (decV_cons (T:=U2) (decV_cons (T:=.str) (fun es b h=>dec0_some h))))}
def S19 (N:Nat) (x0:V22) (x1:Int) (x2:V1):Option V24:=g19 (S20 N) x0 x1 x2 (fun (r0:V22) (r1:V1)=>some (r0,r1))
def g21_0 (k0:V22→Option R) (x0:V22):Option R:=
k0 x0
theorem t21_0 (x0):exec cl N c21_0 [(0,.at U18 x0)] K=(g21_0 (fun y0=>K .normal [(0,.at U18 y0)]) x0):=by
 kernel_rfl
def g21_1 (k0:V22→Bool→Option R) (x0:V22):Option R:=
k0 x0 (decide (x0.2.1 < (x0.1.length:Int)))
theorem t21_1 (x0):exec cl N c21_1 [(0,.at U18 x0)] K=(g21_1 (fun y0 y1=>K .normal (e63 y0 y1)) x0):=by
 kernel_rfl
def g21_2 (k0:Int→Option R) (x0:V22) (x1:Bool):Option R:=
if 0≤x0.2.1∧x0.2.1 < (x0.1.length:Int) then
k0 ((x0.1.getD x0.2.1.toNat ((0:Int),([],((0:Int),())))).2.2.1)
else none
theorem t21_2 (x0 x1):exec cl N c21_2 (e63 x0 x1) K=(g21_2 (fun y0=>K .normal [(2,.v U2 y0)]) x0 x1):=by
 kernel_rfl
theorem kp21_0 (x0):keep [2] [(2,.v U2 x0)]=[(2,.v U2 x0)]:=by kernel_rfl
def g21_3 (k0:V22→Bool→Option R) (x0:V22) (x1:Bool):Option R:=
k0 x0 (decide ((x0.1.length:Int) > (0:Int)))
theorem t21_3 (x0 x1):exec cl N c21_3 (e63 x0 x1) K=(g21_3 (fun y0 y1=>K .normal (e64 y0 y1)) x0 x1):=by
 kernel_rfl
def g21_4 (k0:Int→Option R) (x0:V22) (x1:Bool):Option R:=
let v247:Int:=(IntKind.i64.wrap ((x0.1.length:Int) - (1:Int)))
if 0≤v247∧v247 < (x0.1.length:Int) then
k0 ((x0.1.getD v247.toNat ((0:Int),([],((0:Int),())))).2.2.1)
else none
theorem t21_4 (x0 x1):exec cl N c21_4 (e64 x0 x1) K=(g21_4 (fun y0=>K .normal [(2,.v U2 y0)]) x0 x1):=by
 kernel_rfl
theorem kp21_1 (x0 x1):keep [2] (e64 x0 x1)=[(2,.dead)]:=by kernel_rfl
theorem hb21_0 (x0 x1):boolOf? (ent (e64 x0 x1) (.t 25))=some x1:=by kernel_rfl
theorem kp21_2:keep [2] [(2,.dead)]=[(2,.dead)]:=by kernel_rfl
theorem hb21_1 (x0 x1):boolOf? (ent (e63 x0 x1) (.t 3))=some x1:=by kernel_rfl
def g21_8 (k0:Int→Option R):Option R:=
k0 (1:Int)
theorem t21_8:exec cl N c21_8 [(2,.dead)] K=(g21_8 (fun y0=>K .normal [(2,.v U2 y0)])):=by
 kernel_rfl
def g21_9 (k0:Int→Option R) (x0:V22):Option R:=
(g21_0 (g21_1 (fun y0 y1=>brB y1 (g21_2 k0 y0 y1) (g21_3 (fun y0 y1=>brB y1 (g21_4 k0 y0 y1) (g21_8 k0)) y0 y1))) x0)
theorem t21_9 (x0):exec cl N c21_9 [(0,.at U18 x0)] K=(g21_9 (fun y0=>K .ret [(2,.v U2 y0)]) x0):=by
 simp only [c21_9,xS,sN,sE,sR,t21_0,c21_7,exec_out,xB,t21_1,c21_6,exec_cond',hb21_1,Option.bind_some,bT,bF,t21_2,exec_ret,t21_3,c21_5,hb21_0,t21_4,exec_skip,kp21_0,kp21_1,kp21_2,blockK_normal,blockK_ret,blockK_eq,t21_8]
 rfl
theorem rk21_0 (y0):retK d21 .ret [(2,.v U2 y0)]=some [.v U2 y0]:=by kernel_rfl
def g21 (x0:V22) (k:Int→Option R):Option R:=
(g21_9 k x0)
theorem gen21 (x0) (k:List E→Option R):exec cl N c21 [(0,.at U18 x0)] (fun e env=>(retK d21 e env).bind k)=g21 x0 (fun r0=>k [.v U2 r0]):=by
 simp only [c21,t21_9,rk21_0,Option.bind_some]
 rfl
def ctr21 (S:V22→Option (Int)):Ctr:={A:=V22×Unit,B:=Int,f:=21,enc:=fun a=> [.at U18 a.1],dec:=(decC (decA U18) dec0),S:=fun a=>S a.1,ent:=fun b=> [.v U2 b],ok:=(decA_cons (T:=U18) (fun es b h=>dec0_some h))}
def S21 (N:Nat) (x0:V22):Option (Int):=g21 x0 (fun (r0:Int)=>some (r0))
def g46_2 (S19:V22→Int→V1→Option V24) (k0:V22→V1→Option R) (x0:V22):Option R:=
(S19 x0 (3:Int) ([]:List UInt8)).bind fun r258=>
k0 r258.1 r258.2
theorem t46_2 (S19) (h19:(ctr19 S19).holds cl) (x0):exec cl N c46_2 [(0,.loc U18 .no x0)] K=(g46_2 S19 (fun y0 y1=>exec cl N .ret (e65 y0 y1) K) x0):=by
 rw [←put_eq h19]
 kernel_rfl
def g46_2b (S19:V22→Int→V1→Option V24) (k0:V22→V1→Option R) (x0:V22):Option R:=
(g46_2 S19 k0 x0)
theorem t46_2b (S19) (h19:(ctr19 S19).holds cl) (x0):exec cl N c46_2 [(0,.loc U18 .no x0)] K=(g46_2b S19 (fun y0 y1=>K .ret (e65 y0 y1)) x0):=by
 simp only [xS,sN,sE,sR,t46_2 S19 h19,exec_ret]
 rfl
theorem rk46_0 (y0 y1):retK d46 .ret (e65 y0 y1)=some [.loc U18 .no y0,.v .str y1]:=by kernel_rfl
def g46 (S19:V22→Int→V1→Option V24) (x0:V22) (k:V22→V1→Option R):Option R:=
(g46_2b S19 k x0)
theorem gen46 (S19) (h19:(ctr19 S19).holds cl) (x0) (k:List E→Option R):exec cl N c46 [(0,.loc U18 .no x0)] (fun e env=>(retK d46 e env).bind k)=g46 S19 x0 (fun r0 r1=>k [.loc U18 .no r0,.v .str r1]):=by
 simp only [c46,t46_2b S19 h19,rk46_0,Option.bind_some]
 rfl
def ctr46 (S:V22→Option V24):Ctr:={A:=V22×Unit,B:=V22×V1,f:=46,enc:=fun a=> [.loc U18 .no a.1],dec:=(decC (decL .no U18) dec0),S:=fun a=>S a.1,ent:=fun b=> [.loc U18 .no b.1,.v .str b.2],ok:=(decL_cons (o:=.no) (T:=U18) (fun es b h=>dec0_some h))}
def S46 (N:Nat) (x0:V22):Option V24:=g46 (S19 N) x0 (fun (r0:V22) (r1:V1)=>some (r0,r1))
def g22_22 (S19:V22→Int→V1→Option V24) (S45:V1→Option V3) (k0:V22→V15→V15→V1→Option R) (x0:V22):Option R:=
(S19 x0 (1:Int) ([]:List UInt8)).bind fun r267=>
(S19 r267.1 (2:Int) ([]:List UInt8)).bind fun r268=>
(S45 r268.2).bind fun r269=>
k0 r268.1 ((0:Int),((0:Int),([],()))) ((0:Int),(r269.1,([],()))) r267.2
theorem t22_22 (S19) (S45) (h19:(ctr19 S19).holds cl) (h45:(ctr45 S45).holds cl) (x0):exec cl N c22_22 [(0,.loc U18 .no x0)] K=(g22_22 S19 S45 (fun y0 y1 y2 y3=>exec cl N (.seq c22_18 c22_21) (e66 y0 y1 y2 y3) K) x0):=by
 rw [←put_eq h19]
 rw [←put_eq h45]
 kernel_rfl
def g22_4 (S20:V22→Int→V1→Option (Bool)) (k0:V22→V15→V15→V1→Bool→Option R) (x0:V22) (x1 x2:V15) (x3:V1):Option R:=
(S20 x0 (1:Int) ([105,110]:List UInt8)).bind fun r270=>
brB r270 (k0 x0 x1 x2 x3 (!x0.2.2.1)) (k0 x0 x1 x2 x3 false)
theorem t22_4 (S20) (h20:(ctr20 S20).holds cl) (x0 x1 x2 x3):exec cl N c22_4 (e66 x0 x1 x2 x3) K=(g22_4 S20 (fun y0 y1 y2 y3 y4=>K .normal (e67 y0 y1 y2 y3 y4)) x0 x1 x2 x3):=by
 rw [←put_eq h20]
 kernel_rfl
def g22_16 (S46:V22→Option V24) (k0:V22→V15→V15→V1→Option R) (x0:V22) (x1 x2:V15) (x3:V1) (x4:Bool):Option R:=
(S46 (x0.1,((IntKind.i64.wrap (x0.2.1+(1:Int))),x0.2.2))).bind fun r273=>
if x2.2.2.1.length+[r273.2].length≤8796093022208 then
k0 r273.1 x1 (x2.1,(x2.2.1,((x2.2.2.1++[r273.2]),x2.2.2.2))) x3
else none
theorem t22_16 (S46) (h46:(ctr46 S46).holds cl) (x0 x1 x2 x3 x4):exec cl N c22_16 (e67 x0 x1 x2 x3 x4) K=(g22_16 S46 (fun y0 y1 y2 y3=>exec cl N c22_15 (e66 y0 y1 y2 y3) K) x0 x1 x2 x3 x4):=by
 rw [←put_eq h46]
 kernel_rfl
theorem kp22_0 (x0 x1 x2 x3):keep [0,2,4,5] (e66 x0 x1 x2 x3)=(e66 x0 x1 x2 x3):=by kernel_rfl
def g22_7 (S20:V22→Int→V1→Option (Bool)) (k0:V22→V15→V15→V1→Bool→Option R) (x0:V22) (x1 x2:V15) (x3:V1):Option R:=
(S20 x0 (4:Int) ([44]:List UInt8)).bind fun r274=>
brB r274 (k0 x0 x1 x2 x3 (!x0.2.2.1)) (k0 x0 x1 x2 x3 false)
theorem t22_7 (S20) (h20:(ctr20 S20).holds cl) (x0 x1 x2 x3):exec cl N c22_7 (e66 x0 x1 x2 x3) K=(g22_7 S20 (fun y0 y1 y2 y3 y4=>K .normal (e68 y0 y1 y2 y3 y4)) x0 x1 x2 x3):=by
 rw [←put_eq h20]
 kernel_rfl
theorem kp22_1 (x0 x1 x2 x3 x4):keep [0,2,4,5] (e68 x0 x1 x2 x3 x4)=(e66 x0 x1 x2 x3):=by kernel_rfl
theorem hb22_0 (x0 x1 x2 x3 x4):boolOf? (ent (e68 x0 x1 x2 x3 x4) (.t 46))=some x4:=by kernel_rfl
def g22_11 (S46:V22→Option V24) (k0:V22→V15→V15→V1→Option R) (x0:V22) (x1 x2:V15) (x3:V1):Option R:=
(S46 (x0.1,((IntKind.i64.wrap (x0.2.1+(1:Int))),x0.2.2))).bind fun r277=>
if x2.2.2.1.length+[r277.2].length≤8796093022208 then
k0 r277.1 x1 (x2.1,(x2.2.1,((x2.2.2.1++[r277.2]),x2.2.2.2))) x3
else none
theorem t22_11 (S46) (h46:(ctr46 S46).holds cl) (x0 x1 x2 x3):exec cl N c22_11 (e66 x0 x1 x2 x3) K=(g22_11 S46 (fun y0 y1 y2 y3=>K .normal (e66 y0 y1 y2 y3)) x0 x1 x2 x3):=by
 rw [←put_eq h46]
 kernel_rfl
def g22_13 (S20:V22→Int→V1→Option (Bool)) (S46:V22→Option V24) (k0:V22→V15→V15→V1→Option R) (k1:V22→V15→V15→V1→Option R) (x0:V22) (x1 x2:V15) (x3:V1):Option R:=
(g22_7 S20 (fun y0 y1 y2 y3 y4=>brB y4 ((g22_11 S46 k0) y0 y1 y2 y3) (k1 y0 y1 y2 y3)) x0 x1 x2 x3)
theorem t22_13 (S20) (S46) (h20:(ctr20 S20).holds cl) (h46:(ctr46 S46).holds cl) (x0 x1 x2 x3):exec cl N c22_13 (e66 x0 x1 x2 x3) K=(g22_13 S20 S46 (fun y0 y1 y2 y3=>K .normal (e66 y0 y1 y2 y3)) (fun y0 y1 y2 y3=>K (.exit 0) (e66 y0 y1 y2 y3)) x0 x1 x2 x3):=by
 simp only [c22_13,xS,sN,sE,sR,t22_7 S20 h20,c22_8,exec_out,exec_cond',hb22_0,Option.bind_some,bT,bF,exec_skip,exec_exit,kp22_1,c22_12,xB,t22_11 S46 h46,blockK_normal,blockK_ret,blockK_eq,kp22_0]
 rfl
def l22_14 {R:Type} (S20:V22→Int→V1→Option (Bool)) (S46:V22→Option V24) (k0:V22→V15→V15→V1→Option R):Nat→V22→V15→V15→V1→Option R
 | 0,_,_,_,_=>none
 | m+1,x0,x1,x2,x3=>(g22_13 S20 S46 (l22_14 S20 S46 k0 m) k0 x0 x1 x2 x3)
theorem lt22_14 (S20) (S46) (h20:(ctr20 S20).holds cl) (h46:(ctr46 S46).holds cl):∀ (m) (x0 x1 x2 x3),iter [0,2,4,5] (fun env K=>exec cl N c22_13 env K) K m (e66 x0 x1 x2 x3)=l22_14 S20 S46 (fun y0 y1 y2 y3=>K (.exit 0) (e66 y0 y1 y2 y3)) m x0 x1 x2 x3:=by
 intro m
 induction m with
 | zero=>intros; rfl
 | succ m ih=>
   intro x0 x1 x2 x3
   simp only [iter_succ,t22_13 S20 S46 h20 h46,loopK_normal,loopK_exit,loopK_ret,kp22_0,ih]
   rfl
def g22_14 (N:Nat) (S20:V22→Int→V1→Option (Bool)) (S46:V22→Option V24) (k0:V22→V15→V15→V1→Option R) (x0:V22) (x1 x2:V15) (x3:V1):Option R:=
l22_14 S20 S46 k0 N x0 x1 x2 x3
theorem t22_14 (S20) (S46) (h20:(ctr20 S20).holds cl) (h46:(ctr46 S46).holds cl) (x0 x1 x2 x3):exec cl N c22_14 (e66 x0 x1 x2 x3) K=(g22_14 N S20 S46 (fun y0 y1 y2 y3=>K (.exit 0) (e66 y0 y1 y2 y3)) x0 x1 x2 x3):=by
 simp only [c22_14,exec_out,exec_loop,kp22_0,lt22_14 S20 S46 h20 h46,kp22_0]
 rfl
theorem kp22_2 (x0 x1 x2 x3 x4):keep [0,2,4,5] (e67 x0 x1 x2 x3 x4)=(e66 x0 x1 x2 x3):=by kernel_rfl
theorem hb22_1 (x0 x1 x2 x3 x4):boolOf? (ent (e67 x0 x1 x2 x3 x4) (.t 23))=some x4:=by kernel_rfl
def g22_18 (N:Nat) (S20:V22→Int→V1→Option (Bool)) (S46:V22→Option V24) (k0:V22→V15→V15→V1→Option R) (x0:V22) (x1 x2:V15) (x3:V1):Option R:=
(g22_4 S20 (fun y0 y1 y2 y3 y4=>brB y4 (g22_16 S46 (g22_14 N S20 S46 k0) y0 y1 y2 y3 y4) (k0 y0 y1 y2 y3)) x0 x1 x2 x3)
theorem t22_18 (S20) (S46) (h20:(ctr20 S20).holds cl) (h46:(ctr46 S46).holds cl) (x0 x1 x2 x3):exec cl N c22_18 (e66 x0 x1 x2 x3) K=(g22_18 N S20 S46 (fun y0 y1 y2 y3=>K .normal (e66 y0 y1 y2 y3)) x0 x1 x2 x3):=by
 simp only [c22_18,xS,sN,sE,sR,t22_4 S20 h20,c22_17,exec_out,exec_cond',hb22_1,Option.bind_some,bT,bF,t22_16 S46 h46,c22_15,xB,t22_14 S20 S46 h20 h46,blockK_normal,blockK_ret,blockK_eq,kp22_0,exec_skip,kp22_2]
 rfl
def g22_21 (S19:V22→Int→V1→Option V24) (k0:V22→V15→V1→Option R) (x0:V22) (x1 x2:V15) (x3:V1):Option R:=
(S19 x0 (4:Int) ([59]:List UInt8)).bind fun r279=>
k0 r279.1 x2 x3
theorem t22_21 (S19) (h19:(ctr19 S19).holds cl) (x0 x1 x2 x3):exec cl N c22_21 (e66 x0 x1 x2 x3) K=(g22_21 S19 (fun y0 y1 y2=>exec cl N .ret (e69 y0 y1 y2) K) x0 x1 x2 x3):=by
 rw [←put_eq h19]
 kernel_rfl
def g22_22b (N:Nat) (S19:V22→Int→V1→Option V24) (S20:V22→Int→V1→Option (Bool)) (S45:V1→Option V3) (S46:V22→Option V24) (k0:V22→V15→V1→Option R) (x0:V22):Option R:=
(g22_22 S19 S45 (g22_18 N S20 S46 (g22_21 S19 k0)) x0)
theorem t22_22b (S19) (S20) (S45) (S46) (h19:(ctr19 S19).holds cl) (h20:(ctr20 S20).holds cl) (h45:(ctr45 S45).holds cl) (h46:(ctr46 S46).holds cl) (x0):exec cl N c22_22 [(0,.loc U18 .no x0)] K=(g22_22b N S19 S20 S45 S46 (fun y0 y1 y2=>K .ret (e69 y0 y1 y2)) x0):=by
 simp only [xS,sN,sE,sR,t22_22 S19 S45 h19 h45,t22_18 S20 S46 h20 h46,t22_21 S19 h19,exec_ret]
 rfl
theorem rk22_0 (y0 y1 y2):retK d22 .ret (e69 y0 y1 y2)=some [.loc U18 .no y0,.v U14 y1,.v .str y2]:=by kernel_rfl
def g22 (N:Nat) (S19:V22→Int→V1→Option V24) (S20:V22→Int→V1→Option (Bool)) (S45:V1→Option V3) (S46:V22→Option V24) (x0:V22) (k:V22→V15→V1→Option R):Option R:=
(g22_22b N S19 S20 S45 S46 k x0)
theorem gen22 (S19) (S20) (S45) (S46) (h19:(ctr19 S19).holds cl) (h20:(ctr20 S20).holds cl) (h45:(ctr45 S45).holds cl) (h46:(ctr46 S46).holds cl) (x0) (k:List E→Option R):exec cl N c22 [(0,.loc U18 .no x0)] (fun e env=>(retK d22 e env).bind k)=g22 N S19 S20 S45 S46 x0 (fun r0 r1 r2=>k [.loc U18 .no r0,.v U14 r1,.v .str r2]):=by
 simp only [c22,t22_22b S19 S20 S45 S46 h19 h20 h45 h46,rk22_0,Option.bind_some]
 rfl
def ctr22 (S:V22→Option V26):Ctr:={A:=V22×Unit,B:=V22×V15×V1,f:=22,enc:=fun a=> [.loc U18 .no a.1],dec:=(decC (decL .no U18) dec0),S:=fun a=>S a.1,ent:=fun b=> [.loc U18 .no b.1,.v U14 b.2.1,.v .str b.2.2],ok:=(decL_cons (o:=.no) (T:=U18) (fun es b h=>dec0_some h))}
def S22 (N:Nat) (x0:V22):Option V26:=g22 N (S19 N) (S20 N) (S45 N) (S46 N) x0 (fun (r0:V22) (r1:V15) (r2:V1)=>some (r0,r1,r2))
def g53_2 (k0:V6→Option R):Option R:=
k0 [([]:List UInt8),([109,117,116,101]:List UInt8),([110,101,120,116]:List UInt8),([98,114,101,118,105,115]:List UInt8),([105,110,100,105,102,102,101,114,101,110,116]:List UInt8),([108,101,110,103,116,104,101,110]:List UInt8),([115,104,111,114,116,101,110]:List UInt8),([115,121,110,105,122,101,115,105,115]:List UInt8),([101,108,105,115,105,111,110]:List UInt8),([101,99,116,104,108,105,112,115,105,115]:List UInt8),([112,114,111,100,101,108,105,115,105,111,110]:List UInt8),([104,105,97,116,117,115]:List UInt8),([99,111,114,114,101,112,116,105,111,110]:List UInt8)]
theorem t53_2:exec cl N c53_2 [] K=(g53_2 (fun y0=>exec cl N .ret [(0,.own true 9 .str .no y0)] K)):=by
 kernel_rfl
def g53_2b (k0:V6→Option R):Option R:=
(g53_2 k0)
theorem t53_2b:exec cl N c53_2 [] K=(g53_2b (fun y0=>K .ret [(0,.own true 9 .str .no y0)])):=by
 simp only [xS,sN,sE,sR,t53_2,exec_ret]
 rfl
theorem rk53_0 (y0):retK d53 .ret [(0,.own true 9 .str .no y0)]=some [.own true 9 .str .no y0]:=by kernel_rfl
def g53 (k:V6→Option R):Option R:=
(g53_2b k)
theorem gen53 (k:List E→Option R):exec cl N c53 [] (fun e env=>(retK d53 e env).bind k)=g53 (fun r0=>k [.own true 9 .str .no r0]):=by
 simp only [c53,t53_2b,rk53_0,Option.bind_some]
 rfl
def ctr53 (S:Option V8):Ctr:={A:=Unit,B:=V6,f:=53,enc:=fun a=> [],dec:=dec0,S:=fun a=>S,ent:=fun b=> [.own true 9 .str .no b],ok:=(fun es b h=>dec0_some h)}
def S53 (N:Nat):Option V8:=g53 (fun (r0:V6)=>some (r0))
def g52_0 (k0:V6→Int→Option R) (x0:V6) (x1:Int):Option R:=
k0 x0 x1
theorem t52_0 (x0 x1):exec cl N c52_0 (e70 x0 x1) K=(g52_0 (fun y0 y1=>K .normal (e70 y0 y1)) x0 x1):=by
 kernel_rfl
def g52_1 (k0:V6→Int→Bool→Option R) (x0:V6) (x1:Int):Option R:=
brB (decide (x1 < (0:Int))) (k0 x0 x1 true) (k0 x0 x1 (decide (x1≥(x0.length:Int))))
theorem t52_1 (x0 x1):exec cl N c52_1 (e70 x0 x1) K=(g52_1 (fun y0 y1 y2=>K .normal (e71 y0 y1 y2)) x0 x1):=by
 kernel_rfl
def g52_2 (k0:V1→Option R) (x0:V6) (x1:Int) (x2:Bool):Option R:=
k0 ([]:List UInt8)
theorem t52_2 (x0 x1 x2):exec cl N c52_2 (e71 x0 x1 x2) K=(g52_2 (fun y0=>K .normal [(4,.v .str y0)]) x0 x1 x2):=by
 kernel_rfl
theorem kp52_0 (x0):keep [0,1,4] [(4,.v .str x0)]=(e72 x0):=by kernel_rfl
theorem kp52_1 (x0 x1 x2):keep [0,1,4] (e71 x0 x1 x2)=[(0,.v U1 x0),(1,.v U2 x1),(4,.dead)]:=by kernel_rfl
theorem hb52_0 (x0 x1 x2):boolOf? (ent (e71 x0 x1 x2) (.t 12))=some x2:=by kernel_rfl
def g52_4 (k0:V1→Option R) (x0:V6) (x1:Int):Option R:=
if 0≤x1∧x1 < (x0.length:Int) then
k0 (x0.getD x1.toNat [])
else none
theorem t52_4 (x0 x1):exec cl N c52_4 [(0,.v U1 x0),(1,.v U2 x1),(4,.dead)] K=(g52_4 (fun y0=>K .normal [(4,.v .str y0)]) x0 x1):=by
 kernel_rfl
def g52_5 (k0:V1→Option R) (k1:V1→Option R) (x0:V6) (x1:Int):Option R:=
(g52_0 (g52_1 (fun y0 y1 y2=>brB y2 (g52_2 k0 y0 y1 y2) ((g52_4 k1) y0 y1))) x0 x1)
theorem t52_5 (x0 x1):exec cl N c52_5 (e70 x0 x1) K=(g52_5 (fun y0=>K .ret (e72 y0)) (fun y0=>K .ret [(4,.v .str y0)]) x0 x1):=by
 simp only [c52_5,xS,sN,sE,sR,t52_0,t52_1,c52_3,exec_out,exec_cond',hb52_0,Option.bind_some,bT,bF,t52_2,exec_ret,exec_skip,kp52_0,kp52_1,t52_4]
 rfl
theorem rk52_0 (y0):retK d52 .ret (e72 y0)=some [.v .str y0]:=by kernel_rfl
theorem rk52_1 (y0):retK d52 .ret [(4,.v .str y0)]=some [.v .str y0]:=by kernel_rfl
def g52 (x0:V6) (x1:Int) (k:V1→Option R):Option R:=
(g52_5 k k x0 x1)
theorem gen52 (x0 x1) (k:List E→Option R):exec cl N c52 (e70 x0 x1) (fun e env=>(retK d52 e env).bind k)=g52 x0 x1 (fun r0=>k [.v .str r0]):=by
 simp only [c52,t52_5,rk52_0,rk52_1,Option.bind_some]
 rfl
def ctr52 (S:V6→Int→Option V5):Ctr:=cv2 52 U1 U2 S fun b=> [.v .str b]
def S52 (N:Nat) (x0:V6) (x1:Int):Option V5:=g52 x0 x1 (fun (r0:V1)=>some (r0))
def g31_2 (S52:V6→Int→Option V5) (S53:Option V8) (k0:V1→Option R) (x0:Int):Option R:=
(S53).bind fun r296=>
(S52 r296 x0).bind fun r297=>
k0 r297
theorem t31_2 (S52) (S53) (h52:(ctr52 S52).holds cl) (h53:(ctr53 S53).holds cl) (x0):exec cl N c31_2 [(0,.v U2 x0)] K=(g31_2 S52 S53 (fun y0=>exec cl N .ret [(2,.v .str y0)] K) x0):=by
 rw [←put_eq h52]
 rw [←put_eq h53]
 kernel_rfl
def g31_2b (S52:V6→Int→Option V5) (S53:Option V8) (k0:V1→Option R) (x0:Int):Option R:=
(g31_2 S52 S53 k0 x0)
theorem t31_2b (S52) (S53) (h52:(ctr52 S52).holds cl) (h53:(ctr53 S53).holds cl) (x0):exec cl N c31_2 [(0,.v U2 x0)] K=(g31_2b S52 S53 (fun y0=>K .ret [(2,.v .str y0)]) x0):=by
 simp only [xS,sN,sE,sR,t31_2 S52 S53 h52 h53,exec_ret]
 rfl
theorem rk31_0 (y0):retK d31 .ret [(2,.v .str y0)]=some [.v .str y0]:=by kernel_rfl
def g31 (S52:V6→Int→Option V5) (S53:Option V8) (x0:Int) (k:V1→Option R):Option R:=
(g31_2b S52 S53 k x0)
theorem gen31 (S52) (S53) (h52:(ctr52 S52).holds cl) (h53:(ctr53 S53).holds cl) (x0) (k:List E→Option R):exec cl N c31 [(0,.v U2 x0)] (fun e env=>(retK d31 e env).bind k)=g31 S52 S53 x0 (fun r0=>k [.v .str r0]):=by
 simp only [c31,t31_2b S52 S53 h52 h53,rk31_0,Option.bind_some]
 rfl
def ctr31 (S:Int→Option V5):Ctr:=cv1 31 U2 S fun b=> [.v .str b]
def S31 (N:Nat) (x0:Int):Option V5:=g31 (S52 N) (S53 N) x0 (fun (r0:V1)=>some (r0))
def g23_0 (k0:V1→Option R) (x0:V1):Option R:=
k0 x0
theorem t23_0 (x0):exec cl N c23_0 [(0,.v .str x0)] K=(g23_0 (fun y0=>K .normal [(0,.v .str y0)]) x0):=by
 kernel_rfl
def g23_1 (k0:V1→Int→Option R) (x0:V1):Option R:=
k0 x0 (1:Int)
theorem t23_1 (x0):exec cl N c23_1 [(0,.v .str x0)] K=(g23_1 (fun y0 y1=>K .normal (e3 y0 y1)) x0):=by
 kernel_rfl
theorem kp23_0 (x0 x1):keep [0,3] (e3 x0 x1)=(e3 x0 x1):=by kernel_rfl
def g23_2 (k0:V1→Int→Bool→Option R) (x0:V1) (x1:Int):Option R:=
k0 x0 x1 (decide (x1≤(12:Int)))
theorem t23_2 (x0 x1):exec cl N c23_2 (e3 x0 x1) K=(g23_2 (fun y0 y1 y2=>K .normal (e73 y0 y1 y2)) x0 x1):=by
 kernel_rfl
theorem kp23_1 (x0 x1 x2):keep [0,3] (e73 x0 x1 x2)=(e3 x0 x1):=by kernel_rfl
theorem hb23_0 (x0 x1 x2):boolOf? (ent (e73 x0 x1 x2) (.t 5))=some x2:=by kernel_rfl
def g23_4 (S31:Int→Option V5) (k0:V1→Int→Bool→Option R) (x0:V1) (x1:Int):Option R:=
(S31 x1).bind fun r301=>
k0 x0 x1 (r301==x0)
theorem t23_4 (S31) (h31:(ctr31 S31).holds cl) (x0 x1):exec cl N c23_4 (e3 x0 x1) K=(g23_4 S31 (fun y0 y1 y2=>K .normal (e74 y0 y1 y2)) x0 x1):=by
 rw [←put_eq h31]
 kernel_rfl
def g23_5 (k0:Int→Option R) (x0:V1) (x1:Int) (x2:Bool):Option R:=
k0 x1
theorem t23_5 (x0 x1 x2):exec cl N c23_5 (e74 x0 x1 x2) K=(g23_5 (fun y0=>K .normal [(2,.v U2 y0)]) x0 x1 x2):=by
 kernel_rfl
theorem kp23_2 (x0):keep [0,2,3] [(2,.v U2 x0)]=(e8 x0):=by kernel_rfl
theorem kp23_3 (x0 x1 x2):keep [0,2,3] (e74 x0 x1 x2)=(e6 x0 x1):=by kernel_rfl
theorem hb23_1 (x0 x1 x2):boolOf? (ent (e74 x0 x1 x2) (.t 11))=some x2:=by kernel_rfl
theorem kp23_4 (x0):keep [0,2,3] (e8 x0)=(e8 x0):=by kernel_rfl
theorem kp23_5 (x0 x1):keep [0,2,3] (e6 x0 x1)=(e6 x0 x1):=by kernel_rfl
def g23_8 (k0:V1→Int→Option R) (x0:V1) (x1:Int):Option R:=
k0 x0 (IntKind.i64.wrap (x1+(1:Int)))
theorem t23_8 (x0 x1):exec cl N c23_8 (e6 x0 x1) K=(g23_8 (fun y0 y1=>K .normal (e3 y0 y1)) x0 x1):=by
 kernel_rfl
def g23_9 (S31:Int→Option V5) (k0:Int→Option R) (k1:V1→Int→Option R) (k2:V1→Int→Option R) (x0:V1) (x1:Int):Option R:=
(g23_2 (fun y0 y1 y2=>brB y2 ((g23_4 S31 (fun y0 y1 y2=>brB y2 (g23_5 k0 y0 y1 y2) (((g23_8 k1)) y0 y1))) y0 y1) (k2 y0 y1)) x0 x1)
theorem t23_9 (S31) (h31:(ctr31 S31).holds cl) (x0 x1):exec cl N c23_9 (e3 x0 x1) K=(g23_9 S31 (fun y0=>K .ret (e8 y0)) (fun y0 y1=>K .normal (e3 y0 y1)) (fun y0 y1=>K (.exit 0) (e3 y0 y1)) x0 x1):=by
 simp only [c23_9,xS,sN,sE,sR,t23_2,c23_3,exec_out,exec_cond',hb23_0,Option.bind_some,bT,bF,exec_skip,exec_exit,kp23_1,c23_7,xB,t23_4 S31 h31,c23_6,hb23_1,t23_5,exec_ret,kp23_2,kp23_3,blockK_normal,blockK_ret,blockK_eq,kp23_4,kp23_5,t23_8]
 rfl
def l23_10 {R:Type} (S31:Int→Option V5) (k0:Int→Option R) (k1:V1→Int→Option R):Nat→V1→Int→Option R
 | 0,_,_=>none
 | m+1,x0,x1=>(g23_9 S31 k0 (l23_10 S31 k0 k1 m) k1 x0 x1)
theorem lt23_10 (S31) (h31:(ctr31 S31).holds cl):∀ (m) (x0 x1),iter [0,3] (fun env K=>exec cl N c23_9 env K) K m (e3 x0 x1)=l23_10 S31 (fun y0=>K .ret (e8 y0)) (fun y0 y1=>K (.exit 0) (e3 y0 y1)) m x0 x1:=by
 intro m
 induction m with
 | zero=>intros; rfl
 | succ m ih=>
   intro x0 x1
   simp only [iter_succ,t23_9 S31 h31,loopK_normal,loopK_exit,loopK_ret,kp23_0,ih]
   rfl
theorem kp23_6 (x0):keep [2] (e8 x0)=[(2,.v U2 x0)]:=by kernel_rfl
theorem kp23_7 (x0 x1):keep [2] (e3 x0 x1)=[(2,.dead)]:=by kernel_rfl
def g23_10 (N:Nat) (S31:Int→Option V5) (k0:Int→Option R) (k1:Option R) (x0:V1) (x1:Int):Option R:=
l23_10 S31 k0 (fun y0 y1=>k1) N x0 x1
theorem t23_10 (S31) (h31:(ctr31 S31).holds cl) (x0 x1):exec cl N c23_10 (e3 x0 x1) K=(g23_10 N S31 (fun y0=>K .ret [(2,.v U2 y0)]) (K (.exit 0) [(2,.dead)]) x0 x1):=by
 simp only [c23_10,exec_out,exec_loop,kp23_0,lt23_10 S31 h31,kp23_6,kp23_7]
 rfl
theorem kp23_8 (x0):keep [2] [(2,.v U2 x0)]=[(2,.v U2 x0)]:=by kernel_rfl
theorem kp23_9:keep [2] [(2,.dead)]=[(2,.dead)]:=by kernel_rfl
def g23_12 (k0:Int→Option R):Option R:=
k0 (0:Int)
theorem t23_12:exec cl N c23_12 [(2,.dead)] K=(g23_12 (fun y0=>K .normal [(2,.v U2 y0)])):=by
 kernel_rfl
def g23_13 (N:Nat) (S31:Int→Option V5) (k0:Int→Option R) (x0:V1):Option R:=
(g23_0 (g23_1 (g23_10 N S31 k0 (g23_12 k0))) x0)
theorem t23_13 (S31) (h31:(ctr31 S31).holds cl) (x0):exec cl N c23_13 [(0,.v .str x0)] K=(g23_13 N S31 (fun y0=>K .ret [(2,.v U2 y0)]) x0):=by
 simp only [c23_13,xS,sN,sE,sR,t23_0,t23_1,c23_11,exec_out,xB,t23_10 S31 h31,blockK_normal,blockK_ret,blockK_eq,kp23_8,kp23_9,t23_12,exec_ret]
 rfl
theorem rk23_0 (y0):retK d23 .ret [(2,.v U2 y0)]=some [.v U2 y0]:=by kernel_rfl
def g23 (N:Nat) (S31:Int→Option V5) (x0:V1) (k:Int→Option R):Option R:=
(g23_13 N S31 k x0)
theorem gen23 (S31) (h31:(ctr31 S31).holds cl) (x0) (k:List E→Option R):exec cl N c23 [(0,.v .str x0)] (fun e env=>(retK d23 e env).bind k)=g23 N S31 x0 (fun r0=>k [.v U2 r0]):=by
 simp only [c23,t23_13 S31 h31,rk23_0,Option.bind_some]
 rfl
def ctr23 (S:V1→Option (Int)):Ctr:=cv1 23 .str S fun b=> [.v U2 b]
def S23 (N:Nat) (x0:V1):Option (Int):=g23 N (S31 N) x0 (fun (r0:Int)=>some (r0))
def g38_2 (S55:V1→Option (Int)) (k0:Bool→Option R) (x0:V1):Option R:=
brB (x0 != ([]:List UInt8)) (brB (decide ((x0.length:Int)≤(20:Int))) ((S55 x0).bind fun r316=>
k0 (r316==(x0.length:Int))) (k0 false)) (k0 false)
theorem t38_2 (S55) (h55:(ctr55 S55).holds cl) (x0):exec cl N c38_2 [(0,.v .str x0)] K=(g38_2 S55 (fun y0=>exec cl N .ret [(2,.v .bool y0)] K) x0):=by
 rw [←put_eq h55]
 kernel_rfl
def g38_2b (S55:V1→Option (Int)) (k0:Bool→Option R) (x0:V1):Option R:=
(g38_2 S55 k0 x0)
theorem t38_2b (S55) (h55:(ctr55 S55).holds cl) (x0):exec cl N c38_2 [(0,.v .str x0)] K=(g38_2b S55 (fun y0=>K .ret [(2,.v .bool y0)]) x0):=by
 simp only [xS,sN,sE,sR,t38_2 S55 h55,exec_ret]
 rfl
theorem rk38_0 (y0):retK d38 .ret [(2,.v .bool y0)]=some [.v .bool y0]:=by kernel_rfl
def g38 (S55:V1→Option (Int)) (x0:V1) (k:Bool→Option R):Option R:=
(g38_2b S55 k x0)
theorem gen38 (S55) (h55:(ctr55 S55).holds cl) (x0) (k:List E→Option R):exec cl N c38 [(0,.v .str x0)] (fun e env=>(retK d38 e env).bind k)=g38 S55 x0 (fun r0=>k [.v .bool r0]):=by
 simp only [c38,t38_2b S55 h55,rk38_0,Option.bind_some]
 rfl
def ctr38 (S:V1→Option (Bool)):Ctr:=cv1 38 .str S fun b=> [.v .bool b]
def S38 (N:Nat) (x0:V1):Option (Bool):=g38 (S55 N) x0 (fun (r0:Bool)=>some (r0))
def g86_2 (S65:V1→Int→Option (Int)) (k0:Bool→Option R) (x0:Int):Option R:=
brB (decide (x0≥(32:Int))) (brB (decide (x0≤(126:Int))) ((S65 ([32,46,44,59,58,33,63,34,45,91,93,60,62,123,125]:List UInt8) x0).bind fun r336=>
k0 (decide (r336 < (0:Int)))) (k0 false)) (k0 false)
theorem t86_2 (S65) (h65:(ctr65 S65).holds cl) (x0):exec cl N c86_2 [(0,.v U0 x0)] K=(g86_2 S65 (fun y0=>exec cl N .ret [(2,.v .bool y0)] K) x0):=by
 rw [←put_eq h65]
 kernel_rfl
def g86_2b (S65:V1→Int→Option (Int)) (k0:Bool→Option R) (x0:Int):Option R:=
(g86_2 S65 k0 x0)
theorem t86_2b (S65) (h65:(ctr65 S65).holds cl) (x0):exec cl N c86_2 [(0,.v U0 x0)] K=(g86_2b S65 (fun y0=>K .ret [(2,.v .bool y0)]) x0):=by
 simp only [xS,sN,sE,sR,t86_2 S65 h65,exec_ret]
 rfl
theorem rk86_0 (y0):retK d86 .ret [(2,.v .bool y0)]=some [.v .bool y0]:=by kernel_rfl
def g86 (S65:V1→Int→Option (Int)) (x0:Int) (k:Bool→Option R):Option R:=
(g86_2b S65 k x0)
theorem gen86 (S65) (h65:(ctr65 S65).holds cl) (x0) (k:List E→Option R):exec cl N c86 [(0,.v U0 x0)] (fun e env=>(retK d86 e env).bind k)=g86 S65 x0 (fun r0=>k [.v .bool r0]):=by
 simp only [c86,t86_2b S65 h65,rk86_0,Option.bind_some]
 rfl
def ctr86 (S:Int→Option (Bool)):Ctr:=cv1 86 U0 S fun b=> [.v .bool b]
def S86 (N:Nat) (x0:Int):Option (Bool):=g86 (S65 N) x0 (fun (r0:Bool)=>some (r0))
def g85_2 (S86:Int→Option (Bool)) (k0:Bool→Option R) (x0:Int):Option R:=
(S86 x0).bind fun r339=>
k0 (!r339)
theorem t85_2 (S86) (h86:(ctr86 S86).holds cl) (x0):exec cl N c85_2 [(0,.v U0 x0)] K=(g85_2 S86 (fun y0=>exec cl N .ret [(2,.v .bool y0)] K) x0):=by
 rw [←put_eq h86]
 kernel_rfl
def g85_2b (S86:Int→Option (Bool)) (k0:Bool→Option R) (x0:Int):Option R:=
(g85_2 S86 k0 x0)
theorem t85_2b (S86) (h86:(ctr86 S86).holds cl) (x0):exec cl N c85_2 [(0,.v U0 x0)] K=(g85_2b S86 (fun y0=>K .ret [(2,.v .bool y0)]) x0):=by
 simp only [xS,sN,sE,sR,t85_2 S86 h86,exec_ret]
 rfl
theorem rk85_0 (y0):retK d85 .ret [(2,.v .bool y0)]=some [.v .bool y0]:=by kernel_rfl
def g85 (S86:Int→Option (Bool)) (x0:Int) (k:Bool→Option R):Option R:=
(g85_2b S86 k x0)
theorem gen85 (S86) (h86:(ctr86 S86).holds cl) (x0) (k:List E→Option R):exec cl N c85 [(0,.v U0 x0)] (fun e env=>(retK d85 e env).bind k)=g85 S86 x0 (fun r0=>k [.v .bool r0]):=by
 simp only [c85,t85_2b S86 h86,rk85_0,Option.bind_some]
 rfl
def ctr85 (S:Int→Option (Bool)):Ctr:=cv1 85 U0 S fun b=> [.v .bool b]
def S85 (N:Nat) (x0:Int):Option (Bool):=g85 (S86 N) x0 (fun (r0:Bool)=>some (r0))
def g94_0 (k0:V0→V11→Option R) (x0:V0) (x1:V11):Option R:=
k0 x0 x1
theorem t94_0 (x0 x1):exec cl N c94_0 (e75 x0 x1) K=(g94_0 (fun y0 y1=>K .normal (e75 y0 y1)) x0 x1):=by
 kernel_rfl
def g94_1 (k0:V0→V11→Int→Int→Option R) (x0:V0) (x1:V11):Option R:=
k0 x0 x1 (x0.length:Int) (0:Int)
theorem t94_1 (x0 x1):exec cl N c94_1 (e75 x0 x1) K=(g94_1 (fun y0 y1 y2 y3=>K .normal (e76 y0 y1 y2 y3)) x0 x1):=by
 kernel_rfl
theorem kp94_0 (x0 x1 x2 x3):keep [0,1,7,8] (e76 x0 x1 x2 x3)=(e76 x0 x1 x2 x3):=by kernel_rfl
def g94_2 (k0:V0→V11→Int→Int→Bool→Option R) (x0:V0) (x1:V11) (x2 x3:Int):Option R:=
k0 x0 x1 x2 x3 (decide (x3 < x2))
theorem t94_2 (x0 x1 x2 x3):exec cl N c94_2 (e76 x0 x1 x2 x3) K=(g94_2 (fun y0 y1 y2 y3 y4=>K .normal (e77 y0 y1 y2 y3 y4)) x0 x1 x2 x3):=by
 kernel_rfl
theorem kp94_1 (x0 x1 x2 x3 x4):keep [0,1,7,8] (e77 x0 x1 x2 x3 x4)=(e76 x0 x1 x2 x3):=by kernel_rfl
theorem hb94_0 (x0 x1 x2 x3 x4):boolOf? (ent (e77 x0 x1 x2 x3 x4) (.t 9))=some x4:=by kernel_rfl
def g94_8 (k0:V0→V11→Int→Int→Int→Bool→Option R) (x0:V0) (x1:V11) (x2 x3:Int):Option R:=
if 0≤x3∧x3 < (x0.length:Int) then
(x1 ((x0.getD x3.toNat (0:Int)),())).bind fun r346=>
k0 x0 x1 x3 x2 x3 r346
else none
theorem t94_8 (x0 x1 x2 x3):exec cl N c94_8 (e76 x0 x1 x2 x3) K=(g94_8 (fun y0 y1 y2 y3 y4 y5=>exec cl N c94_7 (e78 y0 y1 y2 y3 y4 y5) K) x0 x1 x2 x3):=by
 kernel_rfl
def g94_6 (k0:Int→Option R) (x0:V0) (x1:V11) (x2 x3 x4:Int) (x5:Bool):Option R:=
k0 x2
theorem t94_6 (x0 x1 x2 x3 x4 x5):exec cl N c94_6 (e78 x0 x1 x2 x3 x4 x5) K=(g94_6 (fun y0=>K .normal [(4,.v U2 y0)]) x0 x1 x2 x3 x4 x5):=by
 kernel_rfl
theorem kp94_2 (x0):keep [0,1,4,7,8] [(4,.v U2 x0)]=(e79 x0):=by kernel_rfl
theorem kp94_3 (x0 x1 x2 x3 x4 x5):keep [0,1,4,7,8] (e78 x0 x1 x2 x3 x4 x5)=(e80 x0 x1 x3 x4):=by kernel_rfl
theorem hb94_1 (x0 x1 x2 x3 x4 x5):boolOf? (ent (e78 x0 x1 x2 x3 x4 x5) (.t 16))=some x5:=by kernel_rfl
theorem kp94_4 (x0):keep [0,1,4,7,8] (e79 x0)=(e79 x0):=by kernel_rfl
theorem kp94_5 (x0 x1 x2 x3):keep [0,1,4,7,8] (e80 x0 x1 x2 x3)=(e80 x0 x1 x2 x3):=by kernel_rfl
def g94_10 (k0:V0→V11→Int→Int→Option R) (x0:V0) (x1:V11) (x2 x3:Int):Option R:=
k0 x0 x1 x2 (IntKind.i64.wrap (x3+(1:Int)))
theorem t94_10 (x0 x1 x2 x3):exec cl N c94_10 (e80 x0 x1 x2 x3) K=(g94_10 (fun y0 y1 y2 y3=>K .normal (e76 y0 y1 y2 y3)) x0 x1 x2 x3):=by
 kernel_rfl
def g94_11 (k0:Int→Option R) (k1:V0→V11→Int→Int→Option R) (k2:V0→V11→Int→Int→Option R) (x0:V0) (x1:V11) (x2 x3:Int):Option R:=
(g94_2 (fun y0 y1 y2 y3 y4=>brB y4 ((g94_8 (fun y0 y1 y2 y3 y4 y5=>brB y5 (g94_6 k0 y0 y1 y2 y3 y4 y5) (((g94_10 k1)) y0 y1 y3 y4))) y0 y1 y2 y3) (k2 y0 y1 y2 y3)) x0 x1 x2 x3)
theorem t94_11 (x0 x1 x2 x3):exec cl N c94_11 (e76 x0 x1 x2 x3) K=(g94_11 (fun y0=>K .ret (e79 y0)) (fun y0 y1 y2 y3=>K .normal (e76 y0 y1 y2 y3)) (fun y0 y1 y2 y3=>K (.exit 0) (e76 y0 y1 y2 y3)) x0 x1 x2 x3):=by
 simp only [c94_11,xS,sN,sE,sR,t94_2,c94_3,exec_out,exec_cond',hb94_0,Option.bind_some,bT,bF,exec_skip,exec_exit,kp94_1,c94_9,xB,t94_8,c94_7,hb94_1,t94_6,exec_ret,kp94_2,kp94_3,blockK_normal,blockK_ret,blockK_eq,kp94_4,kp94_5,t94_10]
 rfl
def l94_12 {R:Type} (k0:Int→Option R) (k1:V0→V11→Int→Int→Option R):Nat→V0→V11→Int→Int→Option R
 | 0,_,_,_,_=>none
 | m+1,x0,x1,x2,x3=>(g94_11 k0 (l94_12 k0 k1 m) k1 x0 x1 x2 x3)
theorem lt94_12:∀ (m) (x0 x1 x2 x3),iter [0,1,7,8] (fun env K=>exec cl N c94_11 env K) K m (e76 x0 x1 x2 x3)=l94_12 (fun y0=>K .ret (e79 y0)) (fun y0 y1 y2 y3=>K (.exit 0) (e76 y0 y1 y2 y3)) m x0 x1 x2 x3:=by
 intro m
 induction m with
 | zero=>intros; rfl
 | succ m ih=>
   intro x0 x1 x2 x3
   simp only [iter_succ,t94_11,loopK_normal,loopK_exit,loopK_ret,kp94_0,ih]
   rfl
theorem kp94_6 (x0):keep [4] (e79 x0)=[(4,.v U2 x0)]:=by kernel_rfl
theorem kp94_7 (x0 x1 x2 x3):keep [4] (e76 x0 x1 x2 x3)=[(4,.dead)]:=by kernel_rfl
def g94_12 (N:Nat) (k0:Int→Option R) (k1:Option R) (x0:V0) (x1:V11) (x2 x3:Int):Option R:=
l94_12 k0 (fun y0 y1 y2 y3=>k1) N x0 x1 x2 x3
theorem t94_12 (x0 x1 x2 x3):exec cl N c94_12 (e76 x0 x1 x2 x3) K=(g94_12 N (fun y0=>K .ret [(4,.v U2 y0)]) (K (.exit 0) [(4,.dead)]) x0 x1 x2 x3):=by
 simp only [c94_12,exec_out,exec_loop,kp94_0,lt94_12,kp94_6,kp94_7]
 rfl
theorem kp94_8 (x0):keep [4] [(4,.v U2 x0)]=[(4,.v U2 x0)]:=by kernel_rfl
theorem kp94_9:keep [4] [(4,.dead)]=[(4,.dead)]:=by kernel_rfl
def g94_14 (k0:Int→Option R):Option R:=
k0 (-1:Int)
theorem t94_14:exec cl N c94_14 [(4,.dead)] K=(g94_14 (fun y0=>K .normal [(4,.v U2 y0)])):=by
 kernel_rfl
def g94_15 (N:Nat) (k0:Int→Option R) (x0:V0) (x1:V11):Option R:=
(g94_0 (g94_1 (g94_12 N k0 (g94_14 k0))) x0 x1)
theorem t94_15 (x0 x1):exec cl N c94_15 (e75 x0 x1) K=(g94_15 N (fun y0=>K .ret [(4,.v U2 y0)]) x0 x1):=by
 simp only [c94_15,xS,sN,sE,sR,t94_0,t94_1,c94_13,exec_out,xB,t94_12,blockK_normal,blockK_ret,blockK_eq,kp94_8,kp94_9,t94_14,exec_ret]
 rfl
theorem rk94_0 (y0):retK d94 .ret [(4,.v U2 y0)]=some [.v U2 y0]:=by kernel_rfl
def g94 (N:Nat) (x0:V0) (x1:V11) (k:Int→Option R):Option R:=
(g94_15 N k x0 x1)
theorem gen94 (x0 x1) (k:List E→Option R):exec cl N c94 (e75 x0 x1) (fun e env=>(retK d94 e env).bind k)=g94 N x0 x1 (fun r0=>k [.v U2 r0]):=by
 simp only [c94,t94_15,rk94_0,Option.bind_some]
 rfl
def ctr94 (S:V0→V11→Option (Int)):Ctr:=cv2 94 U3 U8 S fun b=> [.v U2 b]
def S94 (N:Nat) (x0:V0) (x1:V11):Option (Int):=g94 N x0 x1 (fun (r0:Int)=>some (r0))
def g84_2 (S94:V0→V11→Option (Int)) (k0:Bool→Option R) (x0:V0) (x1:V11):Option R:=
(S94 x0 x1).bind fun r350=>
k0 (decide (r350≥(0:Int)))
theorem t84_2 (S94) (h94:(ctr94 S94).holds cl) (x0 x1):exec cl N c84_2 (e75 x0 x1) K=(g84_2 S94 (fun y0=>exec cl N .ret [(4,.v .bool y0)] K) x0 x1):=by
 rw [←put_eq h94]
 kernel_rfl
def g84_2b (S94:V0→V11→Option (Int)) (k0:Bool→Option R) (x0:V0) (x1:V11):Option R:=
(g84_2 S94 k0 x0 x1)
theorem t84_2b (S94) (h94:(ctr94 S94).holds cl) (x0 x1):exec cl N c84_2 (e75 x0 x1) K=(g84_2b S94 (fun y0=>K .ret [(4,.v .bool y0)]) x0 x1):=by
 simp only [xS,sN,sE,sR,t84_2 S94 h94,exec_ret]
 rfl
theorem rk84_0 (y0):retK d84 .ret [(4,.v .bool y0)]=some [.v .bool y0]:=by kernel_rfl
def g84 (S94:V0→V11→Option (Int)) (x0:V0) (x1:V11) (k:Bool→Option R):Option R:=
(g84_2b S94 k x0 x1)
theorem gen84 (S94) (h94:(ctr94 S94).holds cl) (x0 x1) (k:List E→Option R):exec cl N c84 (e75 x0 x1) (fun e env=>(retK d84 e env).bind k)=g84 S94 x0 x1 (fun r0=>k [.v .bool r0]):=by
 simp only [c84,t84_2b S94 h94,rk84_0,Option.bind_some]
 rfl
def ctr84 (S:V0→V11→Option (Bool)):Ctr:=cv2 84 U3 U8 S fun b=> [.v .bool b]
def S84 (N:Nat) (x0:V0) (x1:V11):Option (Bool):=g84 (S94 N) x0 x1 (fun (r0:Bool)=>some (r0))
def g87_0 (k0:V6→V1→Option R) (x0:V6) (x1:V1):Option R:=
k0 x0 x1
theorem t87_0 (x0 x1):exec cl N c87_0 (e81 x0 x1) K=(g87_0 (fun y0 y1=>K .normal (e81 y0 y1)) x0 x1):=by
 kernel_rfl
def g87_1 (k0:V6→V1→Int→Option R) (x0:V6) (x1:V1):Option R:=
k0 x0 x1 (x0.length:Int)
theorem t87_1 (x0 x1):exec cl N c87_1 (e81 x0 x1) K=(g87_1 (fun y0 y1 y2=>K .normal [(0,.v U1 y0),(1,.v .str y1),(12,.v U2 y2)]) x0 x1):=by
 kernel_rfl
def g87_2 (k0:V6→V1→Int→Bool→Option R) (x0:V6) (x1:V1) (x2:Int):Option R:=
k0 x0 x1 x2 (x2==(0:Int))
theorem t87_2 (x0 x1 x2):exec cl N c87_2 [(0,.v U1 x0),(1,.v .str x1),(12,.v U2 x2)] K=(g87_2 (fun y0 y1 y2 y3=>K .normal (e82 y0 y1 y2 y3)) x0 x1 x2):=by
 kernel_rfl
def g87_3 (k0:V1→Option R) (x0:V6) (x1:V1) (x2:Int) (x3:Bool):Option R:=
k0 ([]:List UInt8)
theorem t87_3 (x0 x1 x2 x3):exec cl N c87_3 (e82 x0 x1 x2 x3) K=(g87_3 (fun y0=>K .normal [(4,.v .str y0)]) x0 x1 x2 x3):=by
 kernel_rfl
theorem kp87_0 (x0):keep [0,1,4] [(4,.v .str x0)]=(e72 x0):=by kernel_rfl
def g87_4 (k0:V6→V1→Bool→Option R) (x0:V6) (x1:V1) (x2:Int) (x3:Bool):Option R:=
k0 x0 x1 (x2==(1:Int))
theorem t87_4 (x0 x1 x2 x3):exec cl N c87_4 (e82 x0 x1 x2 x3) K=(g87_4 (fun y0 y1 y2=>K .normal (e83 y0 y1 y2)) x0 x1 x2 x3):=by
 kernel_rfl
def g87_5 (k0:V1→Option R) (x0:V6) (x1:V1) (x2:Bool):Option R:=
if 0≤(0:Int)∧(0:Int) < (x0.length:Int) then
k0 (x0.getD (0:Int).toNat [])
else none
theorem t87_5 (x0 x1 x2):exec cl N c87_5 (e83 x0 x1 x2) K=(g87_5 (fun y0=>K .normal [(4,.v .str y0)]) x0 x1 x2):=by
 kernel_rfl
theorem kp87_1 (x0 x1 x2):keep [0,1,4] (e83 x0 x1 x2)=(e84 x0 x1):=by kernel_rfl
theorem hb87_0 (x0 x1 x2):boolOf? (ent (e83 x0 x1 x2) (.t 15))=some x2:=by kernel_rfl
theorem kp87_2 (x0):keep [0,1,4] (e72 x0)=(e72 x0):=by kernel_rfl
theorem kp87_3 (x0 x1):keep [0,1,4] (e84 x0 x1)=(e84 x0 x1):=by kernel_rfl
theorem hb87_1 (x0 x1 x2 x3):boolOf? (ent (e82 x0 x1 x2 x3) (.t 13))=some x3:=by kernel_rfl
def g87_9 (k0:V6→V1→Int→Option R) (x0:V6) (x1:V1):Option R:=
k0 x0 x1 (0:Int)
theorem t87_9 (x0 x1):exec cl N c87_9 (e84 x0 x1) K=(g87_9 (fun y0 y1 y2=>K .normal (e85 y0 y1 y2)) x0 x1):=by
 kernel_rfl
def g87_10 (k0:V6→V1→Int→Bool→Option R) (x0:V6) (x1:V1) (x2:Int):Option R:=
k0 x0 x1 x2 (decide ((x1.length:Int) > (0:Int)))
theorem t87_10 (x0 x1 x2):exec cl N c87_10 (e85 x0 x1 x2) K=(g87_10 (fun y0 y1 y2 y3=>K .normal (e86 y0 y1 y2 y3)) x0 x1 x2):=by
 kernel_rfl
def g87_11 (k0:V6→V1→Int→Bool→Option R) (x0:V6) (x1:V1) (x2:Int) (x3:Bool):Option R:=
let v371:Int:=(IntKind.i64.wrap ((x0.length:Int) - (1:Int)))
if v371=0 then none else
k0 x0 x1 x2 (decide ((x1.length:Int)≥(IntKind.i64.wrap (Int.tdiv (9223372036854775807:Int) v371))))
theorem t87_11 (x0 x1 x2 x3):exec cl N c87_11 (e86 x0 x1 x2 x3) K=(g87_11 (fun y0 y1 y2 y3=>K .normal (e87 y0 y1 y2 y3)) x0 x1 x2 x3):=by
 kernel_rfl
def g87_12 (x0:V6) (x1:V1) (x2:Int) (x3:Bool):Option R:=
none /- operation makeInterface -/
theorem t87_12 (x0 x1 x2 x3):exec cl N c87_12 (e87 x0 x1 x2 x3) K=(g87_12 x0 x1 x2 x3):=by
 kernel_rfl
theorem kp87_4 (x0 x1 x2 x3):keep [0,1,5] (e87 x0 x1 x2 x3)=(e85 x0 x1 x2):=by kernel_rfl
theorem hb87_2 (x0 x1 x2 x3):boolOf? (ent (e87 x0 x1 x2 x3) (.t 29))=some x3:=by kernel_rfl
def g87_14 (k0:V6→V1→Int→Option R) (x0:V6) (x1:V1) (x2:Int):Option R:=
k0 x0 x1 (IntKind.i64.wrap (x2+(IntKind.i64.wrap ((x1.length:Int) * (IntKind.i64.wrap ((x0.length:Int) - (1:Int)))))))
theorem t87_14 (x0 x1 x2):exec cl N c87_14 (e85 x0 x1 x2) K=(g87_14 (fun y0 y1 y2=>K .normal (e85 y0 y1 y2)) x0 x1 x2):=by
 kernel_rfl
theorem kp87_5 (x0 x1 x2):keep [0,1,5] (e85 x0 x1 x2)=(e85 x0 x1 x2):=by kernel_rfl
theorem kp87_6 (x0 x1 x2 x3):keep [0,1,5] (e86 x0 x1 x2 x3)=(e85 x0 x1 x2):=by kernel_rfl
theorem hb87_3 (x0 x1 x2 x3):boolOf? (ent (e86 x0 x1 x2 x3) (.t 22))=some x3:=by kernel_rfl
def g87_16 (k0:V6→V1→Int→Option R) (x0:V6) (x1:V1) (x2:Int):Option R:=
(g87_10 (fun y0 y1 y2 y3=>brB y3 (g87_11 (fun y0 y1 y2 y3=>brB y3 (g87_12 y0 y1 y2 y3) ((g87_14 k0) y0 y1 y2)) y0 y1 y2 y3) (k0 y0 y1 y2)) x0 x1 x2)
theorem t87_16 (x0 x1 x2):exec cl N c87_16 (e85 x0 x1 x2) K=(g87_16 (fun y0 y1 y2=>K .normal (e85 y0 y1 y2)) x0 x1 x2):=by
 simp only [c87_16,xS,sN,sE,sR,t87_10,c87_15,exec_out,exec_cond',hb87_3,Option.bind_some,bT,bF,t87_11,c87_13,hb87_2,t87_12,exec_skip,kp87_4,t87_14,kp87_5,kp87_6]
 rfl
def g87_17 (k0:V6→V1→Int→V6→Int→Int→Option R) (x0:V6) (x1:V1) (x2:Int):Option R:=
k0 x0 x1 x2 x0 (x0.length:Int) (0:Int)
theorem t87_17 (x0 x1 x2):exec cl N c87_17 (e85 x0 x1 x2) K=(g87_17 (fun y0 y1 y2 y3 y4 y5=>K .normal (e88 y0 y1 y2 y3 y4 y5)) x0 x1 x2):=by
 kernel_rfl
theorem kp87_7 (x0 x1 x2 x3 x4 x5):keep [0,1,5,39,40,41] (e88 x0 x1 x2 x3 x4 x5)=(e88 x0 x1 x2 x3 x4 x5):=by kernel_rfl
def g87_18 (k0:V6→V1→Int→V6→Int→Int→Bool→Option R) (x0:V6) (x1:V1) (x2:Int) (x3:V6) (x4 x5:Int):Option R:=
k0 x0 x1 x2 x3 x4 x5 (decide (x5 < x4))
theorem t87_18 (x0 x1 x2 x3 x4 x5):exec cl N c87_18 (e88 x0 x1 x2 x3 x4 x5) K=(g87_18 (fun y0 y1 y2 y3 y4 y5 y6=>K .normal (e89 y0 y1 y2 y3 y4 y5 y6)) x0 x1 x2 x3 x4 x5):=by
 kernel_rfl
theorem kp87_8 (x0 x1 x2 x3 x4 x5 x6):keep [0,1,5,39,40,41] (e89 x0 x1 x2 x3 x4 x5 x6)=(e88 x0 x1 x2 x3 x4 x5):=by kernel_rfl
theorem hb87_4 (x0 x1 x2 x3 x4 x5 x6):boolOf? (ent (e89 x0 x1 x2 x3 x4 x5 x6) (.t 42))=some x6:=by kernel_rfl
def g87_20 (k0:V6→V1→Int→V1→V6→Int→Int→Option R) (x0:V6) (x1:V1) (x2:Int) (x3:V6) (x4 x5:Int):Option R:=
if 0≤x5∧x5 < (x3.length:Int) then
k0 x0 x1 x2 (x3.getD x5.toNat []) x3 x4 x5
else none
theorem t87_20 (x0 x1 x2 x3 x4 x5):exec cl N c87_20 (e88 x0 x1 x2 x3 x4 x5) K=(g87_20 (fun y0 y1 y2 y3 y4 y5 y6=>K .normal (e90 y0 y1 y2 y3 y4 y5 y6)) x0 x1 x2 x3 x4 x5):=by
 kernel_rfl
def g87_21 (k0:V6→V1→Int→V1→V6→Int→Int→Bool→Option R) (x0:V6) (x1:V1) (x2:Int) (x3:V1) (x4:V6) (x5 x6:Int):Option R:=
k0 x0 x1 x2 x3 x4 x5 x6 (decide ((x3.length:Int) > (IntKind.i64.wrap ((9223372036854775807:Int) - x2))))
theorem t87_21 (x0 x1 x2 x3 x4 x5 x6):exec cl N c87_21 (e90 x0 x1 x2 x3 x4 x5 x6) K=(g87_21 (fun y0 y1 y2 y3 y4 y5 y6 y7=>K .normal (e91 y0 y1 y2 y3 y4 y5 y6 y7)) x0 x1 x2 x3 x4 x5 x6):=by
 kernel_rfl
def g87_22 (x0:V6) (x1:V1) (x2:Int) (x3:V1) (x4:V6) (x5 x6:Int) (x7:Bool):Option R:=
none /- operation makeInterface -/
theorem t87_22 (x0 x1 x2 x3 x4 x5 x6 x7):exec cl N c87_22 (e91 x0 x1 x2 x3 x4 x5 x6 x7) K=(g87_22 x0 x1 x2 x3 x4 x5 x6 x7):=by
 kernel_rfl
theorem kp87_9 (x0 x1 x2 x3 x4 x5 x6 x7):keep [0,1,5,7,39,40,41] (e91 x0 x1 x2 x3 x4 x5 x6 x7)=(e90 x0 x1 x2 x3 x4 x5 x6):=by kernel_rfl
theorem hb87_5 (x0 x1 x2 x3 x4 x5 x6 x7):boolOf? (ent (e91 x0 x1 x2 x3 x4 x5 x6 x7) (.t 49))=some x7:=by kernel_rfl
def g87_24 (k0:V6→V1→Int→V6→Int→Int→Option R) (x0:V6) (x1:V1) (x2:Int) (x3:V1) (x4:V6) (x5 x6:Int):Option R:=
k0 x0 x1 (IntKind.i64.wrap (x2+(x3.length:Int))) x4 x5 x6
theorem t87_24 (x0 x1 x2 x3 x4 x5 x6):exec cl N c87_24 (e90 x0 x1 x2 x3 x4 x5 x6) K=(g87_24 (fun y0 y1 y2 y3 y4 y5=>K .normal (e88 y0 y1 y2 y3 y4 y5)) x0 x1 x2 x3 x4 x5 x6):=by
 kernel_rfl
def g87_26 (k0:V6→V1→Int→V6→Int→Int→Option R) (x0:V6) (x1:V1) (x2:Int) (x3:V6) (x4 x5:Int):Option R:=
k0 x0 x1 x2 x3 x4 (IntKind.i64.wrap (x5+(1:Int)))
theorem t87_26 (x0 x1 x2 x3 x4 x5):exec cl N c87_26 (e88 x0 x1 x2 x3 x4 x5) K=(g87_26 (fun y0 y1 y2 y3 y4 y5=>K .normal (e88 y0 y1 y2 y3 y4 y5)) x0 x1 x2 x3 x4 x5):=by
 kernel_rfl
def g87_27 (k0:V6→V1→Int→V6→Int→Int→Option R) (k1:V6→V1→Int→V6→Int→Int→Option R) (x0:V6) (x1:V1) (x2:Int) (x3:V6) (x4 x5:Int):Option R:=
(g87_18 (fun y0 y1 y2 y3 y4 y5 y6=>brB y6 ((g87_20 (g87_21 (fun y0 y1 y2 y3 y4 y5 y6 y7=>brB y7 (g87_22 y0 y1 y2 y3 y4 y5 y6 y7) ((g87_24 ((g87_26 k0))) y0 y1 y2 y3 y4 y5 y6)))) y0 y1 y2 y3 y4 y5) (k1 y0 y1 y2 y3 y4 y5)) x0 x1 x2 x3 x4 x5)
theorem t87_27 (x0 x1 x2 x3 x4 x5):exec cl N c87_27 (e88 x0 x1 x2 x3 x4 x5) K=(g87_27 (fun y0 y1 y2 y3 y4 y5=>K .normal (e88 y0 y1 y2 y3 y4 y5)) (fun y0 y1 y2 y3 y4 y5=>K (.exit 1) (e88 y0 y1 y2 y3 y4 y5)) x0 x1 x2 x3 x4 x5):=by
 simp only [c87_27,xS,sN,sE,sR,t87_18,c87_19,exec_out,exec_cond',hb87_4,Option.bind_some,bT,bF,exec_skip,exec_exit,kp87_8,c87_25,xB,t87_20,t87_21,c87_23,hb87_5,t87_22,kp87_9,t87_24,blockK_normal,blockK_ret,blockK_eq,kp87_7,t87_26]
 rfl
def l87_28 {R:Type} (k0:V6→V1→Int→V6→Int→Int→Option R):Nat→V6→V1→Int→V6→Int→Int→Option R
 | 0,_,_,_,_,_,_=>none
 | m+1,x0,x1,x2,x3,x4,x5=>(g87_27 (l87_28 k0 m) k0 x0 x1 x2 x3 x4 x5)
theorem lt87_28:∀ (m) (x0 x1 x2 x3 x4 x5),iter [0,1,5,39,40,41] (fun env K=>exec cl N c87_27 env K) K m (e88 x0 x1 x2 x3 x4 x5)=l87_28 (fun y0 y1 y2 y3 y4 y5=>K (.exit 1) (e88 y0 y1 y2 y3 y4 y5)) m x0 x1 x2 x3 x4 x5:=by
 intro m
 induction m with
 | zero=>intros; rfl
 | succ m ih=>
   intro x0 x1 x2 x3 x4 x5
   simp only [iter_succ,t87_27,loopK_normal,loopK_exit,loopK_ret,kp87_7,ih]
   rfl
theorem kp87_10 (x0 x1 x2 x3 x4 x5):keep [0,1,5] (e88 x0 x1 x2 x3 x4 x5)=(e85 x0 x1 x2):=by kernel_rfl
def g87_28 (N:Nat) (k0:V6→V1→Int→Option R) (x0:V6) (x1:V1) (x2:Int) (x3:V6) (x4 x5:Int):Option R:=
l87_28 (fun y0 y1 y2 y3 y4 y5=>k0 y0 y1 y2) N x0 x1 x2 x3 x4 x5
theorem t87_28 (x0 x1 x2 x3 x4 x5):exec cl N c87_28 (e88 x0 x1 x2 x3 x4 x5) K=(g87_28 N (fun y0 y1 y2=>K (.exit 1) (e85 y0 y1 y2)) x0 x1 x2 x3 x4 x5):=by
 simp only [c87_28,exec_out,exec_loop,kp87_7,lt87_28,kp87_10]
 rfl
def g87_46 (x0:V6) (x1:V1) (x2:Int):Option R:=
none /- lent:sb -/
theorem t87_46 (x0 x1 x2):exec cl N c87_46 (e85 x0 x1 x2) K=(g87_46 x0 x1 x2):=by
 kernel_rfl
def g87_47 (N:Nat) (k0:V1→Option R) (x0:V6) (x1:V1):Option R:=
(g87_0 (g87_1 (g87_2 (fun y0 y1 y2 y3=>brB y3 (g87_3 k0 y0 y1 y2 y3) (g87_4 (fun y0 y1 y2=>brB y2 (g87_5 k0 y0 y1 y2) ((((g87_9 (g87_16 (g87_17 (g87_28 N g87_46)))))) y0 y1)) y0 y1 y2 y3)))) x0 x1)
theorem t87_47 (x0 x1):exec cl N c87_47 (e81 x0 x1) K=(g87_47 N (fun y0=>K .ret (e72 y0)) x0 x1):=by
 simp only [c87_47,xS,sN,sE,sR,t87_0,t87_1,c87_8,exec_out,xB,t87_2,c87_7,exec_cond',hb87_1,Option.bind_some,bT,bF,t87_3,exec_ret,t87_4,c87_6,hb87_0,t87_5,exec_skip,kp87_0,kp87_1,kp87_2,kp87_3,blockK_normal,blockK_ret,blockK_eq,t87_9,t87_16,t87_17,c87_29,t87_28,kp87_5,t87_46]
 rfl
theorem rk87_0 (y0):retK d87 .ret (e72 y0)=some [.v .str y0]:=by kernel_rfl
def g87 (N:Nat) (x0:V6) (x1:V1) (k:V1→Option R):Option R:=
(g87_47 N k x0 x1)
theorem gen87 (x0 x1) (k:List E→Option R):exec cl N c87 (e81 x0 x1) (fun e env=>(retK d87 e env).bind k)=g87 N x0 x1 (fun r0=>k [.v .str r0]):=by
 simp only [c87,t87_47,rk87_0,Option.bind_some]
 rfl
def ctr87 (S:V6→V1→Option V5):Ctr:=cv2 87 U1 .str S fun b=> [.v .str b]
def S87 (N:Nat) (x0:V6) (x1:V1):Option V5:=g87 N x0 x1 (fun (r0:V1)=>some (r0))
def g71_0 (k0:V6→Option R) (x0:V6):Option R:=
k0 x0
theorem t71_0 (x0):exec cl N c71_0 [(0,.v U1 x0)] K=(g71_0 (fun y0=>K .normal [(0,.v U1 y0)]) x0):=by
 kernel_rfl
def g71_1 (k0:V6→V6→Int→Int→Option R) (x0:V6):Option R:=
k0 x0 x0 (x0.length:Int) (0:Int)
theorem t71_1 (x0):exec cl N c71_1 [(0,.v U1 x0)] K=(g71_1 (fun y0 y1 y2 y3=>K .normal (e92 y0 y1 y2 y3)) x0):=by
 kernel_rfl
theorem kp71_0 (x0 x1 x2 x3):keep [0,7,8,9] (e92 x0 x1 x2 x3)=(e92 x0 x1 x2 x3):=by kernel_rfl
def g71_2 (k0:V6→V6→Int→Int→Bool→Option R) (x0 x1:V6) (x2 x3:Int):Option R:=
k0 x0 x1 x2 x3 (decide (x3 < x2))
theorem t71_2 (x0 x1 x2 x3):exec cl N c71_2 (e92 x0 x1 x2 x3) K=(g71_2 (fun y0 y1 y2 y3 y4=>K .normal (e93 y0 y1 y2 y3 y4)) x0 x1 x2 x3):=by
 kernel_rfl
theorem kp71_1 (x0 x1 x2 x3 x4):keep [0,7,8,9] (e93 x0 x1 x2 x3 x4)=(e92 x0 x1 x2 x3):=by kernel_rfl
theorem hb71_0 (x0 x1 x2 x3 x4):boolOf? (ent (e93 x0 x1 x2 x3 x4) (.t 10))=some x4:=by kernel_rfl
def g71_4 (k0:V6→V1→V6→Int→Int→Option R) (x0 x1:V6) (x2 x3:Int):Option R:=
if 0≤x3∧x3 < (x1.length:Int) then
k0 x0 (x1.getD x3.toNat []) x1 x2 x3
else none
theorem t71_4 (x0 x1 x2 x3):exec cl N c71_4 (e92 x0 x1 x2 x3) K=(g71_4 (fun y0 y1 y2 y3 y4=>K .normal [(0,.v U1 y0),(5,.v .str y1),(7,.v U1 y2),(8,.v U2 y3),(9,.v U2 y4)]) x0 x1 x2 x3):=by
 kernel_rfl
def g71_5 (k0:V6→V1→V6→Int→Int→Bool→Option R) (x0:V6) (x1:V1) (x2:V6) (x3 x4:Int):Option R:=
k0 x0 x1 x2 x3 x4 (x1==([]:List UInt8))
theorem t71_5 (x0 x1 x2 x3 x4):exec cl N c71_5 [(0,.v U1 x0),(5,.v .str x1),(7,.v U1 x2),(8,.v U2 x3),(9,.v U2 x4)] K=(g71_5 (fun y0 y1 y2 y3 y4 y5=>K .normal (e94 y0 y1 y2 y3 y4 y5)) x0 x1 x2 x3 x4):=by
 kernel_rfl
def g71_6 (k0:V1→Int→Option R) (x0:V6) (x1:V1) (x2:V6) (x3 x4:Int) (x5:Bool):Option R:=
k0 ([]:List UInt8) (7:Int)
theorem t71_6 (x0 x1 x2 x3 x4 x5):exec cl N c71_6 (e94 x0 x1 x2 x3 x4 x5) K=(g71_6 (fun y0 y1=>K .normal (e21 y0 y1)) x0 x1 x2 x3 x4 x5):=by
 kernel_rfl
theorem kp71_2 (x0 x1):keep [0,2,3,5,7,8,9] (e21 x0 x1)=(e95 x0 x1):=by kernel_rfl
theorem kp71_3 (x0 x1 x2 x3 x4 x5):keep [0,2,3,5,7,8,9] (e94 x0 x1 x2 x3 x4 x5)=(e96 x0 x1 x2 x3 x4):=by kernel_rfl
theorem hb71_1 (x0 x1 x2 x3 x4 x5):boolOf? (ent (e94 x0 x1 x2 x3 x4 x5) (.t 14))=some x5:=by kernel_rfl
def g71_8 (S84:V0→V11→Option (Bool)) (S85:Int→Option (Bool)) (k0:V6→V6→Int→Int→Bool→Option R) (x0:V6) (x1:V1) (x2:V6) (x3 x4:Int):Option R:=
(S84 (x1.map fun b=>(b.toNat:Int)) (fun (x386:V2)=>((S85 x386.1).bind fun b387=>some [.v .bool b387]).bind (unE .bool))).bind fun r388=>
k0 x0 x2 x3 x4 r388
theorem t71_8 (S84) (S85) (h84:(ctr84 S84).holds cl) (h85:(ctr85 S85).holds cl) (x0 x1 x2 x3 x4):exec cl N c71_8 (e96 x0 x1 x2 x3 x4) K=(g71_8 S84 S85 (fun y0 y1 y2 y3 y4=>K .normal (e97 y0 y1 y2 y3 y4)) x0 x1 x2 x3 x4):=by
 rw [←put_eq h84]
 rw [←put_eq h85]
 kernel_rfl
def g71_9 (k0:V1→Int→Option R) (x0 x1:V6) (x2 x3:Int) (x4:Bool):Option R:=
k0 ([]:List UInt8) (2:Int)
theorem t71_9 (x0 x1 x2 x3 x4):exec cl N c71_9 (e97 x0 x1 x2 x3 x4) K=(g71_9 (fun y0 y1=>K .normal (e21 y0 y1)) x0 x1 x2 x3 x4):=by
 kernel_rfl
theorem kp71_4 (x0 x1):keep [0,2,3,7,8,9] (e21 x0 x1)=(e98 x0 x1):=by kernel_rfl
theorem kp71_5 (x0 x1 x2 x3 x4):keep [0,2,3,7,8,9] (e97 x0 x1 x2 x3 x4)=(e99 x0 x1 x2 x3):=by kernel_rfl
theorem hb71_2 (x0 x1 x2 x3 x4):boolOf? (ent (e97 x0 x1 x2 x3 x4) (.t 17))=some x4:=by kernel_rfl
theorem kp71_6 (x0 x1):keep [0,2,3,7,8,9] (e95 x0 x1)=(e98 x0 x1):=by kernel_rfl
theorem kp71_7 (x0 x1):keep [0,2,3,7,8,9] (e98 x0 x1)=(e98 x0 x1):=by kernel_rfl
theorem kp71_8 (x0 x1 x2 x3):keep [0,2,3,7,8,9] (e99 x0 x1 x2 x3)=(e99 x0 x1 x2 x3):=by kernel_rfl
def g71_12 (k0:V6→V6→Int→Int→Option R) (x0 x1:V6) (x2 x3:Int):Option R:=
k0 x0 x1 x2 (IntKind.i64.wrap (x3+(1:Int)))
theorem t71_12 (x0 x1 x2 x3):exec cl N c71_12 (e99 x0 x1 x2 x3) K=(g71_12 (fun y0 y1 y2 y3=>K .normal (e92 y0 y1 y2 y3)) x0 x1 x2 x3):=by
 kernel_rfl
def g71_13 (S84:V0→V11→Option (Bool)) (S85:Int→Option (Bool)) (k0:V1→Int→Option R) (k1:V6→V6→Int→Int→Option R) (k2:V6→V6→Int→Int→Option R) (x0 x1:V6) (x2 x3:Int):Option R:=
(g71_2 (fun y0 y1 y2 y3 y4=>brB y4 ((g71_4 (g71_5 (fun y0 y1 y2 y3 y4 y5=>brB y5 (g71_6 k0 y0 y1 y2 y3 y4 y5) ((g71_8 S84 S85 (fun y0 y1 y2 y3 y4=>brB y4 (g71_9 k0 y0 y1 y2 y3 y4) (((g71_12 k1)) y0 y1 y2 y3))) y0 y1 y2 y3 y4)))) y0 y1 y2 y3) (k2 y0 y1 y2 y3)) x0 x1 x2 x3)
theorem t71_13 (S84) (S85) (h84:(ctr84 S84).holds cl) (h85:(ctr85 S85).holds cl) (x0 x1 x2 x3):exec cl N c71_13 (e92 x0 x1 x2 x3) K=(g71_13 S84 S85 (fun y0 y1=>K .ret (e98 y0 y1)) (fun y0 y1 y2 y3=>K .normal (e92 y0 y1 y2 y3)) (fun y0 y1 y2 y3=>K (.exit 0) (e92 y0 y1 y2 y3)) x0 x1 x2 x3):=by
 simp only [c71_13,xS,sN,sE,sR,t71_2,c71_3,exec_out,exec_cond',hb71_0,Option.bind_some,bT,bF,exec_skip,exec_exit,kp71_1,c71_11,xB,t71_4,t71_5,c71_7,hb71_1,t71_6,exec_ret,kp71_2,kp71_3,t71_8 S84 S85 h84 h85,c71_10,hb71_2,t71_9,kp71_4,kp71_5,blockK_normal,blockK_ret,blockK_eq,kp71_6,kp71_7,kp71_8,t71_12]
 rfl
def l71_14 {R:Type} (S84:V0→V11→Option (Bool)) (S85:Int→Option (Bool)) (k0:V1→Int→Option R) (k1:V6→V6→Int→Int→Option R):Nat→V6→V6→Int→Int→Option R
 | 0,_,_,_,_=>none
 | m+1,x0,x1,x2,x3=>(g71_13 S84 S85 k0 (l71_14 S84 S85 k0 k1 m) k1 x0 x1 x2 x3)
theorem lt71_14 (S84) (S85) (h84:(ctr84 S84).holds cl) (h85:(ctr85 S85).holds cl):∀ (m) (x0 x1 x2 x3),iter [0,7,8,9] (fun env K=>exec cl N c71_13 env K) K m (e92 x0 x1 x2 x3)=l71_14 S84 S85 (fun y0 y1=>K .ret (e98 y0 y1)) (fun y0 y1 y2 y3=>K (.exit 0) (e92 y0 y1 y2 y3)) m x0 x1 x2 x3:=by
 intro m
 induction m with
 | zero=>intros; rfl
 | succ m ih=>
   intro x0 x1 x2 x3
   simp only [iter_succ,t71_13 S84 S85 h84 h85,loopK_normal,loopK_exit,loopK_ret,kp71_0,ih]
   rfl
theorem kp71_9 (x0 x1):keep [0,2,3] (e98 x0 x1)=(e100 x0 x1):=by kernel_rfl
theorem kp71_10 (x0 x1 x2 x3):keep [0,2,3] (e92 x0 x1 x2 x3)=(e101 x0):=by kernel_rfl
def g71_14 (N:Nat) (S84:V0→V11→Option (Bool)) (S85:Int→Option (Bool)) (k0:V1→Int→Option R) (k1:V6→Option R) (x0 x1:V6) (x2 x3:Int):Option R:=
l71_14 S84 S85 k0 (fun y0 y1 y2 y3=>k1 y0) N x0 x1 x2 x3
theorem t71_14 (S84) (S85) (h84:(ctr84 S84).holds cl) (h85:(ctr85 S85).holds cl) (x0 x1 x2 x3):exec cl N c71_14 (e92 x0 x1 x2 x3) K=(g71_14 N S84 S85 (fun y0 y1=>K .ret (e100 y0 y1)) (fun y0=>K (.exit 0) (e101 y0)) x0 x1 x2 x3):=by
 simp only [c71_14,exec_out,exec_loop,kp71_0,lt71_14 S84 S85 h84 h85,kp71_10,kp71_9]
 rfl
theorem kp71_11 (x0 x1):keep [0,2,3] (e100 x0 x1)=(e100 x0 x1):=by kernel_rfl
theorem kp71_12 (x0):keep [0,2,3] (e101 x0)=(e101 x0):=by kernel_rfl
def g71_16 (S87:V6→V1→Option V5) (k0:V1→Option R) (x0:V6):Option R:=
(S87 x0 ([32]:List UInt8)).bind fun r390=>
k0 r390
theorem t71_16 (S87) (h87:(ctr87 S87).holds cl) (x0):exec cl N c71_16 (e101 x0) K=(g71_16 S87 (fun y0=>K .normal [(6,.v .str y0)]) x0):=by
 rw [←put_eq h87]
 kernel_rfl
def g71_17 (k0:V1→Bool→Option R) (x0:V1):Option R:=
k0 x0 (decide ((x0.length:Int) > (120:Int)))
theorem t71_17 (x0):exec cl N c71_17 [(6,.v .str x0)] K=(g71_17 (fun y0 y1=>K .normal (e102 y0 y1)) x0):=by
 kernel_rfl
def g71_18 (k0:V1→Int→Option R) (x0:V1) (x1:Bool):Option R:=
k0 ([]:List UInt8) (3:Int)
theorem t71_18 (x0 x1):exec cl N c71_18 (e102 x0 x1) K=(g71_18 (fun y0 y1=>K .normal (e21 y0 y1)) x0 x1):=by
 kernel_rfl
theorem kp71_13 (x0 x1):keep [2,3,6] (e21 x0 x1)=(e103 x0 x1):=by kernel_rfl
theorem kp71_14 (x0 x1):keep [2,3,6] (e102 x0 x1)=[(2,.dead),(3,.dead),(6,.v .str x0)]:=by kernel_rfl
theorem hb71_3 (x0 x1):boolOf? (ent (e102 x0 x1) (.t 23))=some x1:=by kernel_rfl
def g71_20 (k0:V1→Int→Option R) (x0:V1):Option R:=
k0 x0 (0:Int)
theorem t71_20 (x0):exec cl N c71_20 [(2,.dead),(3,.dead),(6,.v .str x0)] K=(g71_20 (fun y0 y1=>K .normal (e21 y0 y1)) x0):=by
 kernel_rfl
def g71_21 (N:Nat) (S84:V0→V11→Option (Bool)) (S85:Int→Option (Bool)) (S87:V6→V1→Option V5) (k0:V1→Int→Option R) (k1:V1→Int→Option R) (k2:V1→Int→Option R) (x0:V6):Option R:=
(g71_0 (g71_1 (g71_14 N S84 S85 k0 ((g71_16 S87 (g71_17 (fun y0 y1=>brB y1 (g71_18 k1 y0 y1) ((g71_20 k2) y0))))))) x0)
theorem t71_21 (S84) (S85) (S87) (h84:(ctr84 S84).holds cl) (h85:(ctr85 S85).holds cl) (h87:(ctr87 S87).holds cl) (x0):exec cl N c71_21 [(0,.v U1 x0)] K=(g71_21 N S84 S85 S87 (fun y0 y1=>K .ret (e100 y0 y1)) (fun y0 y1=>K .ret (e103 y0 y1)) (fun y0 y1=>K .ret (e21 y0 y1)) x0):=by
 simp only [c71_21,xS,sN,sE,sR,t71_0,t71_1,c71_15,exec_out,xB,t71_14 S84 S85 h84 h85,blockK_normal,blockK_ret,blockK_eq,kp71_11,kp71_12,t71_16 S87 h87,t71_17,c71_19,exec_cond',hb71_3,Option.bind_some,bT,bF,t71_18,exec_ret,exec_skip,kp71_13,kp71_14,t71_20]
 rfl
theorem rk71_0 (y0 y1):retK d71 .ret (e100 y0 y1)=some [.v .str y0,.v U2 y1]:=by kernel_rfl
theorem rk71_1 (y0 y1):retK d71 .ret (e103 y0 y1)=some [.v .str y0,.v U2 y1]:=by kernel_rfl
theorem rk71_2 (y0 y1):retK d71 .ret (e21 y0 y1)=some [.v .str y0,.v U2 y1]:=by kernel_rfl
def g71 (N:Nat) (S84:V0→V11→Option (Bool)) (S85:Int→Option (Bool)) (S87:V6→V1→Option V5) (x0:V6) (k:V1→Int→Option R):Option R:=
(g71_21 N S84 S85 S87 k k k x0)
theorem gen71 (S84) (S85) (S87) (h84:(ctr84 S84).holds cl) (h85:(ctr85 S85).holds cl) (h87:(ctr87 S87).holds cl) (x0) (k:List E→Option R):exec cl N c71 [(0,.v U1 x0)] (fun e env=>(retK d71 e env).bind k)=g71 N S84 S85 S87 x0 (fun r0 r1=>k [.v .str r0,.v U2 r1]):=by
 simp only [c71,t71_21 S84 S85 S87 h84 h85 h87,rk71_0,rk71_1,rk71_2,Option.bind_some]
 rfl
def ctr71 (S:V6→Option V7):Ctr:=cv1 71 U1 S fun b=> [.v .str b.1,.v U2 b.2]
def S71 (N:Nat) (x0:V6):Option V7:=g71 N (S84 N) (S85 N) (S87 N) x0 (fun (r0:V1) (r1:Int)=>some (r0,r1))
def g42_16 (k0:V0→Option R) (x0:V1):Option R:=
k0 (x0.map fun b=>(b.toNat:Int))
theorem t42_16 (x0):exec cl N c42_16 [(0,.v .str x0)] K=(g42_16 (fun y0=>exec cl N (.seq (.seq c42_2 c42_14) (.seq c42_15 .ret)) (e104 y0) K) x0):=by
 kernel_rfl
def g42_2 (k0:V0→Int→Int→Option R) (x0:V0):Option R:=
k0 x0 (x0.length:Int) (0:Int)
theorem t42_2 (x0):exec cl N c42_2 (e104 x0) K=(g42_2 (fun y0 y1 y2=>K .normal (e105 y0 y1 y2)) x0):=by
 kernel_rfl
theorem kp42_0 (x0 x1 x2):keep [3,8,9,10] (e105 x0 x1 x2)=(e105 x0 x1 x2):=by kernel_rfl
def g42_3 (k0:V0→Int→Int→Bool→Option R) (x0:V0) (x1 x2:Int):Option R:=
k0 x0 x1 x2 (decide (x2 < x1))
theorem t42_3 (x0 x1 x2):exec cl N c42_3 (e105 x0 x1 x2) K=(g42_3 (fun y0 y1 y2 y3=>K .normal (e106 y0 y1 y2 y3)) x0 x1 x2):=by
 kernel_rfl
theorem kp42_1 (x0 x1 x2 x3):keep [3,8,9,10] (e106 x0 x1 x2 x3)=(e105 x0 x1 x2):=by kernel_rfl
theorem hb42_0 (x0 x1 x2 x3):boolOf? (ent (e106 x0 x1 x2 x3) (.t 11))=some x3:=by kernel_rfl
def g42_9 (k0:V0→Int→Int→Int→Int→Bool→Option R) (x0:V0) (x1 x2:Int):Option R:=
if 0≤x2∧x2 < (x0.length:Int) then
if x2.toNat < x0.length then
let v406:Int:=(x0.getD x2.toNat (0:Int))
brB (decide (v406≥(65:Int))) (k0 x0 x2 v406 x1 x2 (decide (v406≤(90:Int)))) (k0 x0 x2 v406 x1 x2 false)
else none
else none
theorem t42_9 (x0 x1 x2):exec cl N c42_9 (e105 x0 x1 x2) K=(g42_9 (fun y0 y1 y2 y3 y4 y5=>exec cl N c42_8 (e107 y0 y1 y2 y3 y4 y5) K) x0 x1 x2):=by
 kernel_rfl
def g42_7 (k0:V0→Int→Int→Option R) (x0:V0) (x1 x2 x3 x4:Int) (x5:Bool):Option R:=
if 0≤x1∧x1 < (x0.length:Int) then
if x1.toNat < x0.length then
k0 (x0.set x1.toNat (IntKind.u8.wrap ((IntKind.u8.wrap (x2 - (65:Int)))+(97:Int)))) x3 x4
else none
else none
theorem t42_7 (x0 x1 x2 x3 x4 x5):exec cl N c42_7 (e107 x0 x1 x2 x3 x4 x5) K=(g42_7 (fun y0 y1 y2=>K .normal (e105 y0 y1 y2)) x0 x1 x2 x3 x4 x5):=by
 kernel_rfl
theorem kp42_2 (x0 x1 x2 x3 x4 x5):keep [3,8,9,10] (e107 x0 x1 x2 x3 x4 x5)=(e105 x0 x3 x4):=by kernel_rfl
theorem hb42_1 (x0 x1 x2 x3 x4 x5):boolOf? (ent (e107 x0 x1 x2 x3 x4 x5) (.t 20))=some x5:=by kernel_rfl
def g42_10 (k0:V0→Int→Int→Option R) (x0:V0) (x1 x2:Int):Option R:=
(g42_9 (fun y0 y1 y2 y3 y4 y5=>brB y5 (g42_7 k0 y0 y1 y2 y3 y4 y5) (k0 y0 y3 y4)) x0 x1 x2)
theorem t42_10 (x0 x1 x2):exec cl N c42_10 (e105 x0 x1 x2) K=(g42_10 (fun y0 y1 y2=>K .normal (e105 y0 y1 y2)) x0 x1 x2):=by
 simp only [c42_10,exec_out,xB,xS,sN,sE,sR,t42_9,c42_8,exec_cond',hb42_1,Option.bind_some,bT,bF,t42_7,exec_skip,kp42_0,kp42_2,blockK_normal,blockK_ret,blockK_eq]
 rfl
def g42_11 (k0:V0→Int→Int→Option R) (x0:V0) (x1 x2:Int):Option R:=
k0 x0 x1 (IntKind.i64.wrap (x2+(1:Int)))
theorem t42_11 (x0 x1 x2):exec cl N c42_11 (e105 x0 x1 x2) K=(g42_11 (fun y0 y1 y2=>K .normal (e105 y0 y1 y2)) x0 x1 x2):=by
 kernel_rfl
def g42_12 (k0:V0→Int→Int→Option R) (k1:V0→Int→Int→Option R) (x0:V0) (x1 x2:Int):Option R:=
(g42_3 (fun y0 y1 y2 y3=>brB y3 ((g42_10 (g42_11 k0)) y0 y1 y2) (k1 y0 y1 y2)) x0 x1 x2)
theorem t42_12 (x0 x1 x2):exec cl N c42_12 (e105 x0 x1 x2) K=(g42_12 (fun y0 y1 y2=>K .normal (e105 y0 y1 y2)) (fun y0 y1 y2=>K (.exit 0) (e105 y0 y1 y2)) x0 x1 x2):=by
 simp only [c42_12,xS,sN,sE,sR,t42_3,c42_4,exec_out,exec_cond',hb42_0,Option.bind_some,bT,bF,exec_skip,exec_exit,kp42_1,t42_10,t42_11]
 rfl
def l42_13 {R:Type} (k0:V0→Int→Int→Option R):Nat→V0→Int→Int→Option R
 | 0,_,_,_=>none
 | m+1,x0,x1,x2=>(g42_12 (l42_13 k0 m) k0 x0 x1 x2)
theorem lt42_13:∀ (m) (x0 x1 x2),iter [3,8,9,10] (fun env K=>exec cl N c42_12 env K) K m (e105 x0 x1 x2)=l42_13 (fun y0 y1 y2=>K (.exit 0) (e105 y0 y1 y2)) m x0 x1 x2:=by
 intro m
 induction m with
 | zero=>intros; rfl
 | succ m ih=>
   intro x0 x1 x2
   simp only [iter_succ,t42_12,loopK_normal,loopK_exit,loopK_ret,kp42_0,ih]
   rfl
theorem kp42_3 (x0 x1 x2):keep [3] (e105 x0 x1 x2)=(e104 x0):=by kernel_rfl
def g42_13 (N:Nat) (k0:V0→Option R) (x0:V0) (x1 x2:Int):Option R:=
l42_13 (fun y0 y1 y2=>k0 y0) N x0 x1 x2
theorem t42_13 (x0 x1 x2):exec cl N c42_13 (e105 x0 x1 x2) K=(g42_13 N (fun y0=>K (.exit 0) (e104 y0)) x0 x1 x2):=by
 simp only [c42_13,exec_out,exec_loop,kp42_0,lt42_13,kp42_3]
 rfl
theorem kp42_4 (x0):keep [3] (e104 x0)=(e104 x0):=by kernel_rfl
def g42_15 (k0:V1→Option R) (x0:V0):Option R:=
k0 (x0.map fun n=>UInt8.ofNat n.toNat)
theorem t42_15 (x0):exec cl N c42_15 (e104 x0) K=(g42_15 (fun y0=>K .normal [(2,.v .str y0)]) x0):=by
 kernel_rfl
def g42_16b (N:Nat) (k0:V1→Option R) (x0:V1):Option R:=
(g42_16 (g42_2 (g42_13 N ((g42_15 k0)))) x0)
theorem t42_16b (x0):exec cl N c42_16 [(0,.v .str x0)] K=(g42_16b N (fun y0=>K .ret [(2,.v .str y0)]) x0):=by
 simp only [xS,sN,sE,sR,t42_16,t42_2,c42_14,exec_out,xB,t42_13,blockK_normal,blockK_ret,blockK_eq,kp42_4,t42_15,exec_ret]
 rfl
theorem rk42_0 (y0):retK d42 .ret [(2,.v .str y0)]=some [.v .str y0]:=by kernel_rfl
def g42 (N:Nat) (x0:V1) (k:V1→Option R):Option R:=
(g42_16b N k x0)
theorem gen42 (x0) (k:List E→Option R):exec cl N c42 [(0,.v .str x0)] (fun e env=>(retK d42 e env).bind k)=g42 N x0 (fun r0=>k [.v .str r0]):=by
 simp only [c42,t42_16b,rk42_0,Option.bind_some]
 rfl
def ctr42 (S:V1→Option V5):Ctr:=cv1 42 .str S fun b=> [.v .str b]
def S42 (N:Nat) (x0:V1):Option V5:=g42 N x0 (fun (r0:V1)=>some (r0))
def g56_0 (k0:V1→Option R) (x0:V1):Option R:=
k0 x0
theorem t56_0 (x0):exec cl N c56_0 [(0,.v .str x0)] K=(g56_0 (fun y0=>K .normal [(0,.v .str y0)]) x0):=by
 kernel_rfl
def g56_1 (k0:V1→Bool→Option R) (x0:V1):Option R:=
k0 x0 (decide ((x0.length:Int) > (16:Int)))
theorem t56_1 (x0):exec cl N c56_1 [(0,.v .str x0)] K=(g56_1 (fun y0 y1=>K .normal (e108 y0 y1)) x0):=by
 kernel_rfl
def g56_2 (k0:Int→Option R) (x0:V1) (x1:Bool):Option R:=
k0 (3:Int)
theorem t56_2 (x0 x1):exec cl N c56_2 (e108 x0 x1) K=(g56_2 (fun y0=>K .normal [(2,.v U2 y0)]) x0 x1):=by
 kernel_rfl
theorem kp56_0 (x0):keep [0,2] [(2,.v U2 x0)]=(e1 x0):=by kernel_rfl
theorem kp56_1 (x0 x1):keep [0,2] (e108 x0 x1)=(e2 x0):=by kernel_rfl
theorem hb56_0 (x0 x1):boolOf? (ent (e108 x0 x1) (.t 7))=some x1:=by kernel_rfl
def g56_8 (S42:V1→Option V5) (S71:V6→Option V7) (k0:Bool→Option R) (x0:V1):Option R:=
(S71 [x0]).bind fun r416=>
brB (r416.2 != (0:Int)) (k0 true) ((S42 x0).bind fun r418=>
k0 (r418 != x0))
theorem t56_8 (S42) (S71) (h42:(ctr42 S42).holds cl) (h71:(ctr71 S71).holds cl) (x0):exec cl N c56_8 (e2 x0) K=(g56_8 S42 S71 (fun y0=>exec cl N c56_7 [(21,.v .bool y0)] K) x0):=by
 rw [←put_eq h42]
 rw [←put_eq h71]
 kernel_rfl
def g56_6 (k0:Int→Option R) (x0:Bool):Option R:=
k0 (2:Int)
theorem t56_6 (x0):exec cl N c56_6 [(21,.v .bool x0)] K=(g56_6 (fun y0=>K .normal [(2,.v U2 y0)]) x0):=by
 kernel_rfl
theorem kp56_2 (x0):keep [2] [(2,.v U2 x0)]=[(2,.v U2 x0)]:=by kernel_rfl
theorem kp56_3 (x0):keep [2] [(21,.v .bool x0)]=[(2,.dead)]:=by kernel_rfl
theorem hb56_1 (x0):boolOf? (ent [(21,.v .bool x0)] (.t 21))=some x0:=by kernel_rfl
def g56_9 (k0:Int→Option R):Option R:=
k0 (0:Int)
theorem t56_9:exec cl N c56_9 [(2,.dead)] K=(g56_9 (fun y0=>K .normal [(2,.v U2 y0)])):=by
 kernel_rfl
def g56_10 (S42:V1→Option V5) (S71:V6→Option V7) (k0:Int→Option R) (k1:Int→Option R) (x0:V1):Option R:=
(g56_0 (g56_1 (fun y0 y1=>brB y1 (g56_2 k0 y0 y1) ((g56_8 S42 S71 (fun y0=>brB y0 (g56_6 k1 y0) (g56_9 k1))) y0))) x0)
theorem t56_10 (S42) (S71) (h42:(ctr42 S42).holds cl) (h71:(ctr71 S71).holds cl) (x0):exec cl N c56_10 [(0,.v .str x0)] K=(g56_10 S42 S71 (fun y0=>K .ret (e1 y0)) (fun y0=>K .ret [(2,.v U2 y0)]) x0):=by
 simp only [c56_10,xS,sN,sE,sR,t56_0,t56_1,c56_3,exec_out,exec_cond',hb56_0,Option.bind_some,bT,bF,t56_2,exec_ret,exec_skip,kp56_0,kp56_1,t56_8 S42 S71 h42 h71,c56_7,hb56_1,t56_6,kp56_2,kp56_3,t56_9]
 rfl
theorem rk56_0 (y0):retK d56 .ret (e1 y0)=some [.v U2 y0]:=by kernel_rfl
theorem rk56_1 (y0):retK d56 .ret [(2,.v U2 y0)]=some [.v U2 y0]:=by kernel_rfl
def g56 (S42:V1→Option V5) (S71:V6→Option V7) (x0:V1) (k:Int→Option R):Option R:=
(g56_10 S42 S71 k k x0)
theorem gen56 (S42) (S71) (h42:(ctr42 S42).holds cl) (h71:(ctr71 S71).holds cl) (x0) (k:List E→Option R):exec cl N c56 [(0,.v .str x0)] (fun e env=>(retK d56 e env).bind k)=g56 S42 S71 x0 (fun r0=>k [.v U2 r0]):=by
 simp only [c56,t56_10 S42 S71 h42 h71,rk56_0,rk56_1,Option.bind_some]
 rfl
def ctr56 (S:V1→Option (Int)):Ctr:=cv1 56 .str S fun b=> [.v U2 b]
def S56 (N:Nat) (x0:V1):Option (Int):=g56 (S42 N) (S71 N) x0 (fun (r0:Int)=>some (r0))
def g72_0 (k0:V6→V1→Option R) (x0:V6) (x1:V1):Option R:=
k0 x0 x1
theorem t72_0 (x0 x1):exec cl N c72_0 (e81 x0 x1) K=(g72_0 (fun y0 y1=>K .normal (e81 y0 y1)) x0 x1):=by
 kernel_rfl
def g72_1 (k0:V6→V1→Int→Int→Option R) (x0:V6) (x1:V1):Option R:=
k0 x0 x1 (x0.length:Int) (0:Int)
theorem t72_1 (x0 x1):exec cl N c72_1 (e81 x0 x1) K=(g72_1 (fun y0 y1 y2 y3=>K .normal (e109 y0 y1 y2 y3)) x0 x1):=by
 kernel_rfl
theorem kp72_0 (x0 x1 x2 x3):keep [0,1,7,8] (e109 x0 x1 x2 x3)=(e109 x0 x1 x2 x3):=by kernel_rfl
def g72_2 (k0:V6→V1→Int→Int→Bool→Option R) (x0:V6) (x1:V1) (x2 x3:Int):Option R:=
k0 x0 x1 x2 x3 (decide (x3 < x2))
theorem t72_2 (x0 x1 x2 x3):exec cl N c72_2 (e109 x0 x1 x2 x3) K=(g72_2 (fun y0 y1 y2 y3 y4=>K .normal (e110 y0 y1 y2 y3 y4)) x0 x1 x2 x3):=by
 kernel_rfl
theorem kp72_1 (x0 x1 x2 x3 x4):keep [0,1,7,8] (e110 x0 x1 x2 x3 x4)=(e109 x0 x1 x2 x3):=by kernel_rfl
theorem hb72_0 (x0 x1 x2 x3 x4):boolOf? (ent (e110 x0 x1 x2 x3 x4) (.t 9))=some x4:=by kernel_rfl
def g72_8 (k0:V6→V1→Int→Int→Int→Bool→Option R) (x0:V6) (x1:V1) (x2 x3:Int):Option R:=
if 0≤x3∧x3 < (x0.length:Int) then
k0 x0 x1 x3 x2 x3 (x1==(x0.getD x3.toNat []))
else none
theorem t72_8 (x0 x1 x2 x3):exec cl N c72_8 (e109 x0 x1 x2 x3) K=(g72_8 (fun y0 y1 y2 y3 y4 y5=>exec cl N c72_7 (e111 y0 y1 y2 y3 y4 y5) K) x0 x1 x2 x3):=by
 kernel_rfl
def g72_6 (k0:Int→Option R) (x0:V6) (x1:V1) (x2 x3 x4:Int) (x5:Bool):Option R:=
k0 x2
theorem t72_6 (x0 x1 x2 x3 x4 x5):exec cl N c72_6 (e111 x0 x1 x2 x3 x4 x5) K=(g72_6 (fun y0=>K .normal [(4,.v U2 y0)]) x0 x1 x2 x3 x4 x5):=by
 kernel_rfl
theorem kp72_2 (x0):keep [0,1,4,7,8] [(4,.v U2 x0)]=(e79 x0):=by kernel_rfl
theorem kp72_3 (x0 x1 x2 x3 x4 x5):keep [0,1,4,7,8] (e111 x0 x1 x2 x3 x4 x5)=(e112 x0 x1 x3 x4):=by kernel_rfl
theorem hb72_1 (x0 x1 x2 x3 x4 x5):boolOf? (ent (e111 x0 x1 x2 x3 x4 x5) (.t 16))=some x5:=by kernel_rfl
theorem kp72_4 (x0):keep [0,1,4,7,8] (e79 x0)=(e79 x0):=by kernel_rfl
theorem kp72_5 (x0 x1 x2 x3):keep [0,1,4,7,8] (e112 x0 x1 x2 x3)=(e112 x0 x1 x2 x3):=by kernel_rfl
def g72_10 (k0:V6→V1→Int→Int→Option R) (x0:V6) (x1:V1) (x2 x3:Int):Option R:=
k0 x0 x1 x2 (IntKind.i64.wrap (x3+(1:Int)))
theorem t72_10 (x0 x1 x2 x3):exec cl N c72_10 (e112 x0 x1 x2 x3) K=(g72_10 (fun y0 y1 y2 y3=>K .normal (e109 y0 y1 y2 y3)) x0 x1 x2 x3):=by
 kernel_rfl
def g72_11 (k0:Int→Option R) (k1:V6→V1→Int→Int→Option R) (k2:V6→V1→Int→Int→Option R) (x0:V6) (x1:V1) (x2 x3:Int):Option R:=
(g72_2 (fun y0 y1 y2 y3 y4=>brB y4 ((g72_8 (fun y0 y1 y2 y3 y4 y5=>brB y5 (g72_6 k0 y0 y1 y2 y3 y4 y5) (((g72_10 k1)) y0 y1 y3 y4))) y0 y1 y2 y3) (k2 y0 y1 y2 y3)) x0 x1 x2 x3)
theorem t72_11 (x0 x1 x2 x3):exec cl N c72_11 (e109 x0 x1 x2 x3) K=(g72_11 (fun y0=>K .ret (e79 y0)) (fun y0 y1 y2 y3=>K .normal (e109 y0 y1 y2 y3)) (fun y0 y1 y2 y3=>K (.exit 0) (e109 y0 y1 y2 y3)) x0 x1 x2 x3):=by
 simp only [c72_11,xS,sN,sE,sR,t72_2,c72_3,exec_out,exec_cond',hb72_0,Option.bind_some,bT,bF,exec_skip,exec_exit,kp72_1,c72_9,xB,t72_8,c72_7,hb72_1,t72_6,exec_ret,kp72_2,kp72_3,blockK_normal,blockK_ret,blockK_eq,kp72_4,kp72_5,t72_10]
 rfl
def l72_12 {R:Type} (k0:Int→Option R) (k1:V6→V1→Int→Int→Option R):Nat→V6→V1→Int→Int→Option R
 | 0,_,_,_,_=>none
 | m+1,x0,x1,x2,x3=>(g72_11 k0 (l72_12 k0 k1 m) k1 x0 x1 x2 x3)
theorem lt72_12:∀ (m) (x0 x1 x2 x3),iter [0,1,7,8] (fun env K=>exec cl N c72_11 env K) K m (e109 x0 x1 x2 x3)=l72_12 (fun y0=>K .ret (e79 y0)) (fun y0 y1 y2 y3=>K (.exit 0) (e109 y0 y1 y2 y3)) m x0 x1 x2 x3:=by
 intro m
 induction m with
 | zero=>intros; rfl
 | succ m ih=>
   intro x0 x1 x2 x3
   simp only [iter_succ,t72_11,loopK_normal,loopK_exit,loopK_ret,kp72_0,ih]
   rfl
theorem kp72_6 (x0):keep [4] (e79 x0)=[(4,.v U2 x0)]:=by kernel_rfl
theorem kp72_7 (x0 x1 x2 x3):keep [4] (e109 x0 x1 x2 x3)=[(4,.dead)]:=by kernel_rfl
def g72_12 (N:Nat) (k0:Int→Option R) (k1:Option R) (x0:V6) (x1:V1) (x2 x3:Int):Option R:=
l72_12 k0 (fun y0 y1 y2 y3=>k1) N x0 x1 x2 x3
theorem t72_12 (x0 x1 x2 x3):exec cl N c72_12 (e109 x0 x1 x2 x3) K=(g72_12 N (fun y0=>K .ret [(4,.v U2 y0)]) (K (.exit 0) [(4,.dead)]) x0 x1 x2 x3):=by
 simp only [c72_12,exec_out,exec_loop,kp72_0,lt72_12,kp72_6,kp72_7]
 rfl
theorem kp72_8 (x0):keep [4] [(4,.v U2 x0)]=[(4,.v U2 x0)]:=by kernel_rfl
theorem kp72_9:keep [4] [(4,.dead)]=[(4,.dead)]:=by kernel_rfl
def g72_14 (k0:Int→Option R):Option R:=
k0 (-1:Int)
theorem t72_14:exec cl N c72_14 [(4,.dead)] K=(g72_14 (fun y0=>K .normal [(4,.v U2 y0)])):=by
 kernel_rfl
def g72_15 (N:Nat) (k0:Int→Option R) (x0:V6) (x1:V1):Option R:=
(g72_0 (g72_1 (g72_12 N k0 (g72_14 k0))) x0 x1)
theorem t72_15 (x0 x1):exec cl N c72_15 (e81 x0 x1) K=(g72_15 N (fun y0=>K .ret [(4,.v U2 y0)]) x0 x1):=by
 simp only [c72_15,xS,sN,sE,sR,t72_0,t72_1,c72_13,exec_out,xB,t72_12,blockK_normal,blockK_ret,blockK_eq,kp72_8,kp72_9,t72_14,exec_ret]
 rfl
theorem rk72_0 (y0):retK d72 .ret [(4,.v U2 y0)]=some [.v U2 y0]:=by kernel_rfl
def g72 (N:Nat) (x0:V6) (x1:V1) (k:Int→Option R):Option R:=
(g72_15 N k x0 x1)
theorem gen72 (x0 x1) (k:List E→Option R):exec cl N c72 (e81 x0 x1) (fun e env=>(retK d72 e env).bind k)=g72 N x0 x1 (fun r0=>k [.v U2 r0]):=by
 simp only [c72,t72_15,rk72_0,Option.bind_some]
 rfl
def ctr72 (S:V6→V1→Option (Int)):Ctr:=cv2 72 U1 .str S fun b=> [.v U2 b]
def S72 (N:Nat) (x0:V6) (x1:V1):Option (Int):=g72 N x0 x1 (fun (r0:Int)=>some (r0))
def g57_2 (S72:V6→V1→Option (Int)) (k0:Bool→Option R) (x0:V6) (x1:V1):Option R:=
(S72 x0 x1).bind fun r431=>
k0 (decide (r431≥(0:Int)))
theorem t57_2 (S72) (h72:(ctr72 S72).holds cl) (x0 x1):exec cl N c57_2 (e81 x0 x1) K=(g57_2 S72 (fun y0=>exec cl N .ret [(4,.v .bool y0)] K) x0 x1):=by
 rw [←put_eq h72]
 kernel_rfl
def g57_2b (S72:V6→V1→Option (Int)) (k0:Bool→Option R) (x0:V6) (x1:V1):Option R:=
(g57_2 S72 k0 x0 x1)
theorem t57_2b (S72) (h72:(ctr72 S72).holds cl) (x0 x1):exec cl N c57_2 (e81 x0 x1) K=(g57_2b S72 (fun y0=>K .ret [(4,.v .bool y0)]) x0 x1):=by
 simp only [xS,sN,sE,sR,t57_2 S72 h72,exec_ret]
 rfl
theorem rk57_0 (y0):retK d57 .ret [(4,.v .bool y0)]=some [.v .bool y0]:=by kernel_rfl
def g57 (S72:V6→V1→Option (Int)) (x0:V6) (x1:V1) (k:Bool→Option R):Option R:=
(g57_2b S72 k x0 x1)
theorem gen57 (S72) (h72:(ctr72 S72).holds cl) (x0 x1) (k:List E→Option R):exec cl N c57 (e81 x0 x1) (fun e env=>(retK d57 e env).bind k)=g57 S72 x0 x1 (fun r0=>k [.v .bool r0]):=by
 simp only [c57,t57_2b S72 h72,rk57_0,Option.bind_some]
 rfl
def ctr57 (S:V6→V1→Option (Bool)):Ctr:=cv2 57 U1 .str S fun b=> [.v .bool b]
def S57 (N:Nat) (x0:V6) (x1:V1):Option (Bool):=g57 (S72 N) x0 x1 (fun (r0:Bool)=>some (r0))
def g39_0 (k0:V15→Option R) (x0:V15):Option R:=
k0 x0
theorem t39_0 (x0):exec cl N c39_0 [(0,.v U14 x0)] K=(g39_0 (fun y0=>K .normal [(1,.loc U14 .no y0)]) x0):=by
 kernel_rfl
def g39_1 (k0:V15→Bool→Option R) (x0:V15):Option R:=
brB (decide (x0.1 < (1:Int))) (k0 x0 true) (brB (decide (x0.1 > (12:Int))) (k0 x0 true) (brB (decide (x0.2.1 < (0:Int))) (k0 x0 true) (k0 x0 (decide (x0.2.1 > (999:Int))))))
theorem t39_1 (x0):exec cl N c39_1 [(1,.loc U14 .no x0)] K=(g39_1 (fun y0 y1=>K .normal (e113 y0 y1)) x0):=by
 kernel_rfl
def g39_2 (k0:Int→Option R) (x0:V15) (x1:Bool):Option R:=
k0 (6:Int)
theorem t39_2 (x0 x1):exec cl N c39_2 (e113 x0 x1) K=(g39_2 (fun y0=>K .normal [(2,.v U2 y0)]) x0 x1):=by
 kernel_rfl
theorem kp39_0 (x0):keep [1,2] [(2,.v U2 x0)]=(e114 x0):=by kernel_rfl
def g39_3 (k0:V15→Bool→Option R) (x0:V15) (x1:Bool):Option R:=
k0 x0 (decide ((x0.2.2.1.length:Int) > (20:Int)))
theorem t39_3 (x0 x1):exec cl N c39_3 (e113 x0 x1) K=(g39_3 (fun y0 y1=>K .normal (e115 y0 y1)) x0 x1):=by
 kernel_rfl
def g39_4 (k0:Int→Option R) (x0:V15) (x1:Bool):Option R:=
k0 (3:Int)
theorem t39_4 (x0 x1):exec cl N c39_4 (e115 x0 x1) K=(g39_4 (fun y0=>K .normal [(2,.v U2 y0)]) x0 x1):=by
 kernel_rfl
theorem kp39_1 (x0 x1):keep [1,2] (e115 x0 x1)=(e116 x0):=by kernel_rfl
theorem hb39_0 (x0 x1):boolOf? (ent (e115 x0 x1) (.t 25))=some x1:=by kernel_rfl
theorem kp39_2 (x0):keep [1,2] (e114 x0)=(e114 x0):=by kernel_rfl
theorem kp39_3 (x0):keep [1,2] (e116 x0)=(e116 x0):=by kernel_rfl
theorem hb39_1 (x0 x1):boolOf? (ent (e113 x0 x1) (.t 6))=some x1:=by kernel_rfl
def g39_8 (k0:V15→V6→Int→Int→Option R) (x0:V15):Option R:=
k0 x0 x0.2.2.1 (x0.2.2.1.length:Int) (0:Int)
theorem t39_8 (x0):exec cl N c39_8 (e116 x0) K=(g39_8 (fun y0 y1 y2 y3=>K .normal (e117 y0 y1 y2 y3)) x0):=by
 kernel_rfl
theorem kp39_4 (x0 x1 x2 x3):keep [1,31,32,33] (e117 x0 x1 x2 x3)=(e117 x0 x1 x2 x3):=by kernel_rfl
def g39_9 (k0:V15→V6→Int→Int→Bool→Option R) (x0:V15) (x1:V6) (x2 x3:Int):Option R:=
k0 x0 x1 x2 x3 (decide (x3 < x2))
theorem t39_9 (x0 x1 x2 x3):exec cl N c39_9 (e117 x0 x1 x2 x3) K=(g39_9 (fun y0 y1 y2 y3 y4=>K .normal (e118 y0 y1 y2 y3 y4)) x0 x1 x2 x3):=by
 kernel_rfl
theorem kp39_5 (x0 x1 x2 x3 x4):keep [1,31,32,33] (e118 x0 x1 x2 x3 x4)=(e117 x0 x1 x2 x3):=by kernel_rfl
theorem hb39_2 (x0 x1 x2 x3 x4):boolOf? (ent (e118 x0 x1 x2 x3 x4) (.t 34))=some x4:=by kernel_rfl
def g39_11 (k0:V15→Int→V1→V6→Int→Int→Option R) (x0:V15) (x1:V6) (x2 x3:Int):Option R:=
if 0≤x3∧x3 < (x1.length:Int) then
k0 x0 x3 (x1.getD x3.toNat []) x1 x2 x3
else none
theorem t39_11 (x0 x1 x2 x3):exec cl N c39_11 (e117 x0 x1 x2 x3) K=(g39_11 (fun y0 y1 y2 y3 y4 y5=>K .normal (e119 y0 y1 y2 y3 y4 y5)) x0 x1 x2 x3):=by
 kernel_rfl
def g39_16 (S56:V1→Option (Int)) (k0:V15→Int→V1→Int→V6→Int→Int→Bool→Option R) (x0:V15) (x1:Int) (x2:V1) (x3:V6) (x4 x5:Int):Option R:=
(S56 x2).bind fun r442=>
k0 x0 x1 x2 r442 x3 x4 x5 (r442 != (0:Int))
theorem t39_16 (S56) (h56:(ctr56 S56).holds cl) (x0 x1 x2 x3 x4 x5):exec cl N c39_16 (e119 x0 x1 x2 x3 x4 x5) K=(g39_16 S56 (fun y0 y1 y2 y3 y4 y5 y6 y7=>exec cl N c39_15 (e120 y0 y1 y2 y3 y4 y5 y6 y7) K) x0 x1 x2 x3 x4 x5):=by
 rw [←put_eq h56]
 kernel_rfl
def g39_14 (k0:Int→Option R) (x0:V15) (x1:Int) (x2:V1) (x3:Int) (x4:V6) (x5 x6:Int) (x7:Bool):Option R:=
k0 x3
theorem t39_14 (x0 x1 x2 x3 x4 x5 x6 x7):exec cl N c39_14 (e120 x0 x1 x2 x3 x4 x5 x6 x7) K=(g39_14 (fun y0=>K .normal [(2,.v U2 y0)]) x0 x1 x2 x3 x4 x5 x6 x7):=by
 kernel_rfl
theorem kp39_6 (x0):keep [1,2,3,4,31,32,33] [(2,.v U2 x0)]=(e121 x0):=by kernel_rfl
theorem kp39_7 (x0 x1 x2 x3 x4 x5 x6 x7):keep [1,2,3,4,31,32,33] (e120 x0 x1 x2 x3 x4 x5 x6 x7)=(e122 x0 x1 x2 x4 x5 x6):=by kernel_rfl
theorem hb39_3 (x0 x1 x2 x3 x4 x5 x6 x7):boolOf? (ent (e120 x0 x1 x2 x3 x4 x5 x6 x7) (.t 41))=some x7:=by kernel_rfl
def g39_17 (S57:V6→V1→Option (Bool)) (k0:V15→V6→Int→Int→Bool→Option R) (x0:V15) (x1:Int) (x2:V1) (x3:V6) (x4 x5:Int):Option R:=
if 0≤(0:Int)∧(0:Int)≤x1∧x1≤(x0.2.2.1.length:Int)∧(x0.2.2.1.length:Int)≤(x0.2.2.1.length:Int) then
(S57 ((x0.2.2.1.drop (0:Int).toNat).take (x1.toNat - (0:Int).toNat)) x2).bind fun r445=>
k0 x0 x3 x4 x5 r445
else none
theorem t39_17 (S57) (h57:(ctr57 S57).holds cl) (x0 x1 x2 x3 x4 x5):exec cl N c39_17 (e122 x0 x1 x2 x3 x4 x5) K=(g39_17 S57 (fun y0 y1 y2 y3 y4=>K .normal (e123 y0 y1 y2 y3 y4)) x0 x1 x2 x3 x4 x5):=by
 rw [←put_eq h57]
 kernel_rfl
def g39_18 (k0:Int→Option R) (x0:V15) (x1:V6) (x2 x3:Int) (x4:Bool):Option R:=
k0 (5:Int)
theorem t39_18 (x0 x1 x2 x3 x4):exec cl N c39_18 (e123 x0 x1 x2 x3 x4) K=(g39_18 (fun y0=>K .normal [(2,.v U2 y0)]) x0 x1 x2 x3 x4):=by
 kernel_rfl
theorem kp39_8 (x0):keep [1,2,31,32,33] [(2,.v U2 x0)]=(e124 x0):=by kernel_rfl
theorem kp39_9 (x0 x1 x2 x3 x4):keep [1,2,31,32,33] (e123 x0 x1 x2 x3 x4)=(e125 x0 x1 x2 x3):=by kernel_rfl
theorem hb39_4 (x0 x1 x2 x3 x4):boolOf? (ent (e123 x0 x1 x2 x3 x4) (.t 48))=some x4:=by kernel_rfl
theorem kp39_10 (x0):keep [1,2,31,32,33] (e121 x0)=(e124 x0):=by kernel_rfl
theorem kp39_11 (x0):keep [1,2,31,32,33] (e124 x0)=(e124 x0):=by kernel_rfl
theorem kp39_12 (x0 x1 x2 x3):keep [1,2,31,32,33] (e125 x0 x1 x2 x3)=(e125 x0 x1 x2 x3):=by kernel_rfl
def g39_21 (k0:V15→V6→Int→Int→Option R) (x0:V15) (x1:V6) (x2 x3:Int):Option R:=
k0 x0 x1 x2 (IntKind.i64.wrap (x3+(1:Int)))
theorem t39_21 (x0 x1 x2 x3):exec cl N c39_21 (e125 x0 x1 x2 x3) K=(g39_21 (fun y0 y1 y2 y3=>K .normal (e117 y0 y1 y2 y3)) x0 x1 x2 x3):=by
 kernel_rfl
def g39_22 (S56:V1→Option (Int)) (S57:V6→V1→Option (Bool)) (k0:Int→Option R) (k1:V15→V6→Int→Int→Option R) (k2:V15→V6→Int→Int→Option R) (x0:V15) (x1:V6) (x2 x3:Int):Option R:=
(g39_9 (fun y0 y1 y2 y3 y4=>brB y4 ((g39_11 (g39_16 S56 (fun y0 y1 y2 y3 y4 y5 y6 y7=>brB y7 (g39_14 k0 y0 y1 y2 y3 y4 y5 y6 y7) ((g39_17 S57 (fun y0 y1 y2 y3 y4=>brB y4 (g39_18 k0 y0 y1 y2 y3 y4) (((g39_21 k1)) y0 y1 y2 y3))) y0 y1 y2 y4 y5 y6)))) y0 y1 y2 y3) (k2 y0 y1 y2 y3)) x0 x1 x2 x3)
theorem t39_22 (S56) (S57) (h56:(ctr56 S56).holds cl) (h57:(ctr57 S57).holds cl) (x0 x1 x2 x3):exec cl N c39_22 (e117 x0 x1 x2 x3) K=(g39_22 S56 S57 (fun y0=>K .ret (e124 y0)) (fun y0 y1 y2 y3=>K .normal (e117 y0 y1 y2 y3)) (fun y0 y1 y2 y3=>K (.exit 1) (e117 y0 y1 y2 y3)) x0 x1 x2 x3):=by
 simp only [c39_22,xS,sN,sE,sR,t39_9,c39_10,exec_out,exec_cond',hb39_2,Option.bind_some,bT,bF,exec_skip,exec_exit,kp39_5,c39_20,xB,t39_11,t39_16 S56 h56,c39_15,hb39_3,t39_14,exec_ret,kp39_6,kp39_7,t39_17 S57 h57,c39_19,hb39_4,t39_18,kp39_8,kp39_9,blockK_normal,blockK_ret,blockK_eq,kp39_10,kp39_11,kp39_12,t39_21]
 rfl
def l39_23 {R:Type} (S56:V1→Option (Int)) (S57:V6→V1→Option (Bool)) (k0:Int→Option R) (k1:V15→V6→Int→Int→Option R):Nat→V15→V6→Int→Int→Option R
 | 0,_,_,_,_=>none
 | m+1,x0,x1,x2,x3=>(g39_22 S56 S57 k0 (l39_23 S56 S57 k0 k1 m) k1 x0 x1 x2 x3)
theorem lt39_23 (S56) (S57) (h56:(ctr56 S56).holds cl) (h57:(ctr57 S57).holds cl):∀ (m) (x0 x1 x2 x3),iter [1,31,32,33] (fun env K=>exec cl N c39_22 env K) K m (e117 x0 x1 x2 x3)=l39_23 S56 S57 (fun y0=>K .ret (e124 y0)) (fun y0 y1 y2 y3=>K (.exit 1) (e117 y0 y1 y2 y3)) m x0 x1 x2 x3:=by
 intro m
 induction m with
 | zero=>intros; rfl
 | succ m ih=>
   intro x0 x1 x2 x3
   simp only [iter_succ,t39_22 S56 S57 h56 h57,loopK_normal,loopK_exit,loopK_ret,kp39_4,ih]
   rfl
theorem kp39_13 (x0):keep [2] (e124 x0)=[(2,.v U2 x0)]:=by kernel_rfl
theorem kp39_14 (x0 x1 x2 x3):keep [2] (e117 x0 x1 x2 x3)=[(2,.dead)]:=by kernel_rfl
def g39_23 (N:Nat) (S56:V1→Option (Int)) (S57:V6→V1→Option (Bool)) (k0:Int→Option R) (k1:Option R) (x0:V15) (x1:V6) (x2 x3:Int):Option R:=
l39_23 S56 S57 k0 (fun y0 y1 y2 y3=>k1) N x0 x1 x2 x3
theorem t39_23 (S56) (S57) (h56:(ctr56 S56).holds cl) (h57:(ctr57 S57).holds cl) (x0 x1 x2 x3):exec cl N c39_23 (e117 x0 x1 x2 x3) K=(g39_23 N S56 S57 (fun y0=>K .ret [(2,.v U2 y0)]) (K (.exit 1) [(2,.dead)]) x0 x1 x2 x3):=by
 simp only [c39_23,exec_out,exec_loop,kp39_4,lt39_23 S56 S57 h56 h57,kp39_13,kp39_14]
 rfl
theorem kp39_15 (x0):keep [2] [(2,.v U2 x0)]=[(2,.v U2 x0)]:=by kernel_rfl
theorem kp39_16:keep [2] [(2,.dead)]=[(2,.dead)]:=by kernel_rfl
def g39_25 (k0:Int→Option R):Option R:=
k0 (0:Int)
theorem t39_25:exec cl N c39_25 [(2,.dead)] K=(g39_25 (fun y0=>K .normal [(2,.v U2 y0)])):=by
 kernel_rfl
def g39_26 (N:Nat) (S56:V1→Option (Int)) (S57:V6→V1→Option (Bool)) (k0:Int→Option R) (k1:Int→Option R) (x0:V15):Option R:=
(g39_0 (g39_1 (fun y0 y1=>brB y1 (g39_2 k0 y0 y1) (g39_3 (fun y0 y1=>brB y1 (g39_4 k0 y0 y1) ((((g39_8 (g39_23 N S56 S57 k1 (g39_25 k1))))) y0)) y0 y1))) x0)
theorem t39_26 (S56) (S57) (h56:(ctr56 S56).holds cl) (h57:(ctr57 S57).holds cl) (x0):exec cl N c39_26 [(0,.v U14 x0)] K=(g39_26 N S56 S57 (fun y0=>K .ret (e114 y0)) (fun y0=>K .ret [(2,.v U2 y0)]) x0):=by
 simp only [c39_26,xS,sN,sE,sR,t39_0,c39_7,exec_out,xB,t39_1,c39_6,exec_cond',hb39_1,Option.bind_some,bT,bF,t39_2,exec_ret,t39_3,c39_5,hb39_0,t39_4,exec_skip,kp39_0,kp39_1,kp39_2,kp39_3,blockK_normal,blockK_ret,blockK_eq,t39_8,c39_24,t39_23 S56 S57 h56 h57,kp39_15,kp39_16,t39_25]
 rfl
theorem rk39_0 (y0):retK d39 .ret (e114 y0)=some [.v U2 y0]:=by kernel_rfl
theorem rk39_1 (y0):retK d39 .ret [(2,.v U2 y0)]=some [.v U2 y0]:=by kernel_rfl
def g39 (N:Nat) (S56:V1→Option (Int)) (S57:V6→V1→Option (Bool)) (x0:V15) (k:Int→Option R):Option R:=
(g39_26 N S56 S57 k k x0)
theorem gen39 (S56) (S57) (h56:(ctr56 S56).holds cl) (h57:(ctr57 S57).holds cl) (x0) (k:List E→Option R):exec cl N c39 [(0,.v U14 x0)] (fun e env=>(retK d39 e env).bind k)=g39 N S56 S57 x0 (fun r0=>k [.v U2 r0]):=by
 simp only [c39,t39_26 S56 S57 h56 h57,rk39_0,rk39_1,Option.bind_some]
 rfl
def ctr39 (S:V15→Option (Int)):Ctr:=cv1 39 U14 S fun b=> [.v U2 b]
def S39 (N:Nat) (x0:V15):Option (Int):=g39 N (S56 N) (S57 N) x0 (fun (r0:Int)=>some (r0))
def g13_0 (k0:V23→Option R) (x0:V23):Option R:=
k0 x0
theorem t13_0 (x0):exec cl N c13_0 [(0,.v U17 x0)] K=(g13_0 (fun y0=>K .normal [(1,.loc U17 .no y0)]) x0):=by
 kernel_rfl
def g13_1 (S38:V1→Option (Bool)) (k0:V23→Bool→Option R) (x0:V23):Option R:=
(S38 x0.1).bind fun r451=>
k0 x0 (!r451)
theorem t13_1 (S38) (h38:(ctr38 S38).holds cl) (x0):exec cl N c13_1 [(1,.loc U17 .no x0)] K=(g13_1 S38 (fun y0 y1=>K .normal (e126 y0 y1)) x0):=by
 rw [←put_eq h38]
 kernel_rfl
def g13_2 (k0:Int→Option R) (x0:V23) (x1:Bool):Option R:=
k0 (2:Int)
theorem t13_2 (x0 x1):exec cl N c13_2 (e126 x0 x1) K=(g13_2 (fun y0=>K .normal [(2,.v U2 y0)]) x0 x1):=by
 kernel_rfl
theorem kp13_0 (x0):keep [1,2] [(2,.v U2 x0)]=(e114 x0):=by kernel_rfl
def g13_3 (k0:V23→Bool→Option R) (x0:V23) (x1:Bool):Option R:=
k0 x0 (decide ((x0.2.1.length:Int) > (30:Int)))
theorem t13_3 (x0 x1):exec cl N c13_3 (e126 x0 x1) K=(g13_3 (fun y0 y1=>K .normal (e127 y0 y1)) x0 x1):=by
 kernel_rfl
def g13_4 (k0:Int→Option R) (x0:V23) (x1:Bool):Option R:=
k0 (3:Int)
theorem t13_4 (x0 x1):exec cl N c13_4 (e127 x0 x1) K=(g13_4 (fun y0=>K .normal [(2,.v U2 y0)]) x0 x1):=by
 kernel_rfl
theorem kp13_1 (x0 x1):keep [1,2] (e127 x0 x1)=(e128 x0):=by kernel_rfl
theorem hb13_0 (x0 x1):boolOf? (ent (e127 x0 x1) (.t 11))=some x1:=by kernel_rfl
theorem kp13_2 (x0):keep [1,2] (e114 x0)=(e114 x0):=by kernel_rfl
theorem kp13_3 (x0):keep [1,2] (e128 x0)=(e128 x0):=by kernel_rfl
theorem hb13_1 (x0 x1):boolOf? (ent (e126 x0 x1) (.t 6))=some x1:=by kernel_rfl
def g13_8 (k0:V17→Int→Int→Option R) (x0:V23):Option R:=
k0 x0.2.1 (x0.2.1.length:Int) (0:Int)
theorem t13_8 (x0):exec cl N c13_8 (e128 x0) K=(g13_8 (fun y0 y1 y2=>K .normal (e129 y0 y1 y2)) x0):=by
 kernel_rfl
theorem kp13_4 (x0 x1 x2):keep [17,18,19] (e129 x0 x1 x2)=(e129 x0 x1 x2):=by kernel_rfl
def g13_9 (k0:V17→Int→Int→Bool→Option R) (x0:V17) (x1 x2:Int):Option R:=
k0 x0 x1 x2 (decide (x2 < x1))
theorem t13_9 (x0 x1 x2):exec cl N c13_9 (e129 x0 x1 x2) K=(g13_9 (fun y0 y1 y2 y3=>K .normal (e130 y0 y1 y2 y3)) x0 x1 x2):=by
 kernel_rfl
theorem kp13_5 (x0 x1 x2 x3):keep [17,18,19] (e130 x0 x1 x2 x3)=(e129 x0 x1 x2):=by kernel_rfl
theorem hb13_2 (x0 x1 x2 x3):boolOf? (ent (e130 x0 x1 x2 x3) (.t 20))=some x3:=by kernel_rfl
def g13_16 (S39:V15→Option (Int)) (k0:Int→V17→Int→Int→Bool→Option R) (x0:V17) (x1 x2:Int):Option R:=
if 0≤x2∧x2 < (x0.length:Int) then
(S39 (x0.getD x2.toNat ((0:Int),((0:Int),([],()))))).bind fun r455=>
k0 r455 x0 x1 x2 (r455 != (0:Int))
else none
theorem t13_16 (S39) (h39:(ctr39 S39).holds cl) (x0 x1 x2):exec cl N c13_16 (e129 x0 x1 x2) K=(g13_16 S39 (fun y0 y1 y2 y3 y4=>exec cl N c13_15 (e131 y0 y1 y2 y3 y4) K) x0 x1 x2):=by
 rw [←put_eq h39]
 kernel_rfl
def g13_14 (k0:Int→Option R) (x0:Int) (x1:V17) (x2 x3:Int) (x4:Bool):Option R:=
k0 x0
theorem t13_14 (x0 x1 x2 x3 x4):exec cl N c13_14 (e131 x0 x1 x2 x3 x4) K=(g13_14 (fun y0=>K .normal [(2,.v U2 y0)]) x0 x1 x2 x3 x4):=by
 kernel_rfl
theorem kp13_6 (x0):keep [2,17,18,19] [(2,.v U2 x0)]=(e132 x0):=by kernel_rfl
theorem kp13_7 (x0 x1 x2 x3 x4):keep [2,17,18,19] (e131 x0 x1 x2 x3 x4)=(e133 x1 x2 x3):=by kernel_rfl
theorem hb13_3 (x0 x1 x2 x3 x4):boolOf? (ent (e131 x0 x1 x2 x3 x4) (.t 26))=some x4:=by kernel_rfl
theorem kp13_8 (x0):keep [2,17,18,19] (e132 x0)=(e132 x0):=by kernel_rfl
theorem kp13_9 (x0 x1 x2):keep [2,17,18,19] (e133 x0 x1 x2)=(e133 x0 x1 x2):=by kernel_rfl
def g13_18 (k0:V17→Int→Int→Option R) (x0:V17) (x1 x2:Int):Option R:=
k0 x0 x1 (IntKind.i64.wrap (x2+(1:Int)))
theorem t13_18 (x0 x1 x2):exec cl N c13_18 (e133 x0 x1 x2) K=(g13_18 (fun y0 y1 y2=>K .normal (e129 y0 y1 y2)) x0 x1 x2):=by
 kernel_rfl
def g13_19 (S39:V15→Option (Int)) (k0:Int→Option R) (k1:V17→Int→Int→Option R) (k2:V17→Int→Int→Option R) (x0:V17) (x1 x2:Int):Option R:=
(g13_9 (fun y0 y1 y2 y3=>brB y3 ((g13_16 S39 (fun y0 y1 y2 y3 y4=>brB y4 (g13_14 k0 y0 y1 y2 y3 y4) (((g13_18 k1)) y1 y2 y3))) y0 y1 y2) (k2 y0 y1 y2)) x0 x1 x2)
theorem t13_19 (S39) (h39:(ctr39 S39).holds cl) (x0 x1 x2):exec cl N c13_19 (e129 x0 x1 x2) K=(g13_19 S39 (fun y0=>K .ret (e132 y0)) (fun y0 y1 y2=>K .normal (e129 y0 y1 y2)) (fun y0 y1 y2=>K (.exit 1) (e129 y0 y1 y2)) x0 x1 x2):=by
 simp only [c13_19,xS,sN,sE,sR,t13_9,c13_10,exec_out,exec_cond',hb13_2,Option.bind_some,bT,bF,exec_skip,exec_exit,kp13_5,c13_17,xB,t13_16 S39 h39,c13_15,hb13_3,t13_14,exec_ret,kp13_6,kp13_7,blockK_normal,blockK_ret,blockK_eq,kp13_8,kp13_9,t13_18]
 rfl
def l13_20 {R:Type} (S39:V15→Option (Int)) (k0:Int→Option R) (k1:V17→Int→Int→Option R):Nat→V17→Int→Int→Option R
 | 0,_,_,_=>none
 | m+1,x0,x1,x2=>(g13_19 S39 k0 (l13_20 S39 k0 k1 m) k1 x0 x1 x2)
theorem lt13_20 (S39) (h39:(ctr39 S39).holds cl):∀ (m) (x0 x1 x2),iter [17,18,19] (fun env K=>exec cl N c13_19 env K) K m (e129 x0 x1 x2)=l13_20 S39 (fun y0=>K .ret (e132 y0)) (fun y0 y1 y2=>K (.exit 1) (e129 y0 y1 y2)) m x0 x1 x2:=by
 intro m
 induction m with
 | zero=>intros; rfl
 | succ m ih=>
   intro x0 x1 x2
   simp only [iter_succ,t13_19 S39 h39,loopK_normal,loopK_exit,loopK_ret,kp13_4,ih]
   rfl
theorem kp13_10 (x0):keep [2] (e132 x0)=[(2,.v U2 x0)]:=by kernel_rfl
theorem kp13_11 (x0 x1 x2):keep [2] (e129 x0 x1 x2)=[(2,.dead)]:=by kernel_rfl
def g13_20 (N:Nat) (S39:V15→Option (Int)) (k0:Int→Option R) (k1:Option R) (x0:V17) (x1 x2:Int):Option R:=
l13_20 S39 k0 (fun y0 y1 y2=>k1) N x0 x1 x2
theorem t13_20 (S39) (h39:(ctr39 S39).holds cl) (x0 x1 x2):exec cl N c13_20 (e129 x0 x1 x2) K=(g13_20 N S39 (fun y0=>K .ret [(2,.v U2 y0)]) (K (.exit 1) [(2,.dead)]) x0 x1 x2):=by
 simp only [c13_20,exec_out,exec_loop,kp13_4,lt13_20 S39 h39,kp13_10,kp13_11]
 rfl
theorem kp13_12 (x0):keep [2] [(2,.v U2 x0)]=[(2,.v U2 x0)]:=by kernel_rfl
theorem kp13_13:keep [2] [(2,.dead)]=[(2,.dead)]:=by kernel_rfl
def g13_22 (k0:Int→Option R):Option R:=
k0 (0:Int)
theorem t13_22:exec cl N c13_22 [(2,.dead)] K=(g13_22 (fun y0=>K .normal [(2,.v U2 y0)])):=by
 kernel_rfl
def g13_23 (N:Nat) (S38:V1→Option (Bool)) (S39:V15→Option (Int)) (k0:Int→Option R) (k1:Int→Option R) (x0:V23):Option R:=
(g13_0 (g13_1 S38 (fun y0 y1=>brB y1 (g13_2 k0 y0 y1) (g13_3 (fun y0 y1=>brB y1 (g13_4 k0 y0 y1) ((((g13_8 (g13_20 N S39 k1 (g13_22 k1))))) y0)) y0 y1))) x0)
theorem t13_23 (S38) (S39) (h38:(ctr38 S38).holds cl) (h39:(ctr39 S39).holds cl) (x0):exec cl N c13_23 [(0,.v U17 x0)] K=(g13_23 N S38 S39 (fun y0=>K .ret (e114 y0)) (fun y0=>K .ret [(2,.v U2 y0)]) x0):=by
 simp only [c13_23,xS,sN,sE,sR,t13_0,c13_7,exec_out,xB,t13_1 S38 h38,c13_6,exec_cond',hb13_1,Option.bind_some,bT,bF,t13_2,exec_ret,t13_3,c13_5,hb13_0,t13_4,exec_skip,kp13_0,kp13_1,kp13_2,kp13_3,blockK_normal,blockK_ret,blockK_eq,t13_8,c13_21,t13_20 S39 h39,kp13_12,kp13_13,t13_22]
 rfl
theorem rk13_0 (y0):retK d13 .ret (e114 y0)=some [.v U2 y0]:=by kernel_rfl
theorem rk13_1 (y0):retK d13 .ret [(2,.v U2 y0)]=some [.v U2 y0]:=by kernel_rfl
def g13 (N:Nat) (S38:V1→Option (Bool)) (S39:V15→Option (Int)) (x0:V23) (k:Int→Option R):Option R:=
(g13_23 N S38 S39 k k x0)
theorem gen13 (S38) (S39) (h38:(ctr38 S38).holds cl) (h39:(ctr39 S39).holds cl) (x0) (k:List E→Option R):exec cl N c13 [(0,.v U17 x0)] (fun e env=>(retK d13 e env).bind k)=g13 N S38 S39 x0 (fun r0=>k [.v U2 r0]):=by
 simp only [c13,t13_23 S38 S39 h38 h39,rk13_0,rk13_1,Option.bind_some]
 rfl
def ctr13 (S:V23→Option (Int)):Ctr:=cv1 13 U17 S fun b=> [.v U2 b]
def S13 (N:Nat) (x0:V23):Option (Int):=g13 N (S38 N) (S39 N) x0 (fun (r0:Int)=>some (r0))
end Go.Fw.L19
