/- Printed by an own program for this claim: the machine's code of functions, or their typed forms with their equations; no conditions. -/
import Derived.Test.YtbdlccajpcomjaaFwYs17
import Derived.Test.YtbdlccajpcomjaaFwB4
set_option linter.unusedVariables false
set_option linter.unusedSimpArgs false
namespace Go.Fw.L19
open Go Go.Fw
set_option maxRecDepth 100000
set_option linter.unusedVariables false
set_option linter.unusedSimpArgs false
abbrev cv1 (f:FuncId) (T0:Ty) {B:Type} (S:den T0→Option B) (ent:B→List E):Ctr:={A:=den T0×Unit,B:=B,f:=f,enc:=fun a=> [.v T0 a.1],dec:=(decC (decV T0) dec0),S:=fun a=>S a.1,ent:=ent,ok:=(decV_cons (T:=T0) (fun es b h=>dec0_some h))}
abbrev cv2 (f:FuncId) (T0 T1:Ty) {B:Type} (S:den T0→den T1→Option B) (ent:B→List E):Ctr:={A:=den T0×den T1×Unit,B:=B,f:=f,enc:=fun a=> [.v T0 a.1,.v T1 a.2.1],dec:=(decC (decV T0) (decC (decV T1) dec0)),S:=fun a=>S a.1 a.2.1,ent:=ent,ok:=(decV_cons (T:=T0) (decV_cons (T:=T1) (fun es b h=>dec0_some h)))}
abbrev e0:=fun x0 x1=>([(0,.v U0 x0),(1,.v U2 x1)]:Env)
abbrev e1:=fun x0 x1 x2 x3=>([(0,.v U0 x0),(1,.v U2 x1),(5,.v U2 x2),(6,.v U2 x3)]:Env)
abbrev e2:=fun x0 x1 x2 x3 x4=>([(0,.v U0 x0),(1,.v U2 x1),(5,.v U2 x2),(6,.v U2 x3),(15,.v .bool x4)]:Env)
abbrev e3:=fun x0 x1=>([(1,.loc U17 .no x0),(3,.v U2 x1)]:Env)
abbrev e4:=fun x0 x1 x2=>([(1,.loc U17 .no x0),(3,.v U2 x1),(4,.v U2 x2)]:Env)
abbrev e5:=fun x0 x1 x2 x3=>([(1,.loc U17 .no x0),(3,.v U2 x1),(4,.v U2 x2),(16,.v .bool x3)]:Env)
abbrev e6:=fun x0 x1=>([(0,.v .str x0),(11,.v .bool x1)]:Env)
abbrev e7:=fun x0=>([(0,.dead),(2,.v U2 x0)]:Env)
abbrev e8:=fun x0=>([(0,.v .str x0),(2,.dead)]:Env)
abbrev e9:=fun x0 x1=>([(0,.v .str x0),(3,.v U2 x1)]:Env)
abbrev e10:=fun x0 x1 x2=>([(0,.v .str x0),(3,.v U2 x1),(15,.v .bool x2)]:Env)
abbrev e11:=fun x0 x1 x2=>([(0,.v .str x0),(3,.v U2 x1),(25,.v .bool x2)]:Env)
abbrev e12:=fun x0 x1 x2=>([(0,.v .str x0),(3,.v U2 x1),(54,.v .bool x2)]:Env)
abbrev e13:=fun x0 x1 x2=>([(0,.v .str x0),(3,.own true 5 U1 .no x1),(4,.v U2 x2)]:Env)
abbrev e14:=fun x0 x1 x2 x3=>([(0,.v .str x0),(3,.own true 5 U1 .no x1),(4,.v U2 x2),(11,.v .bool x3)]:Env)
abbrev e15:=fun x0 x1 x2 x3=>([(0,.v .str x0),(3,.own true 5 U1 .no x1),(4,.v U2 x2),(29,.v .bool x3)]:Env)
abbrev e16:=fun x0=>([(3,.own true 5 U1 .no x0)]:Env)
abbrev e17:=fun x0 x1=>([(0,.v U1 x0),(9,.v .bool x1)]:Env)
abbrev e18:=fun x0 x1=>([(0,.v U1 x0),(3,.v U2 x1)]:Env)
abbrev e19:=fun x0 x1 x2=>([(0,.v U1 x0),(3,.v U2 x1),(11,.v .bool x2)]:Env)
abbrev e20:=fun x0 x1 x2=>([(0,.v U1 x0),(3,.v U2 x1),(17,.v .bool x2)]:Env)
abbrev e21:=fun x0=>([(0,.dead),(2,.v .bool x0),(3,.dead)]:Env)
abbrev e22:=fun x0 x1=>([(0,.v U1 x0),(2,.dead),(3,.v U2 x1)]:Env)
abbrev e23:=fun x0 x1=>([(0,.v .str x0),(6,.v .bool x1)]:Env)
abbrev e24:=fun x0 x1=>([(0,.v .str x0),(14,.v .bool x1)]:Env)
abbrev e25:=fun x0 x1 x2=>([(0,.v .str x0),(3,.v U2 x1),(18,.v .bool x2)]:Env)
abbrev e26:=fun x0=>([(0,.dead),(2,.v U2 x0),(3,.dead)]:Env)
abbrev e27:=fun x0 x1=>([(0,.v .str x0),(2,.dead),(3,.v U2 x1)]:Env)
abbrev e28:=fun x0 x1=>([(0,.v U0 x0),(1,.v .str x1)]:Env)
abbrev e29:=fun x0 x1 x2=>([(0,.v U0 x0),(1,.v .str x1),(5,.v U2 x2)]:Env)
abbrev e30:=fun x0 x1 x2 x3=>([(0,.v U0 x0),(1,.v .str x1),(5,.v U2 x2),(9,.v .bool x3)]:Env)
abbrev e31:=fun x0 x1 x2 x3=>([(0,.v U0 x0),(1,.v .str x1),(5,.v U2 x2),(17,.v .bool x3)]:Env)
abbrev e32:=fun x0=>([(0,.dead),(1,.dead),(4,.v .bool x0),(5,.dead)]:Env)
abbrev e33:=fun x0 x1 x2=>([(0,.v U0 x0),(1,.v .str x1),(4,.dead),(5,.v U2 x2)]:Env)
abbrev e34:=fun x0 x1=>([(1,.loc U13 .no x0),(22,.v .bool x1)]:Env)
abbrev e35:=fun x0=>([(1,.dead),(2,.v U2 x0)]:Env)
abbrev e36:=fun x0=>([(1,.loc U13 .no x0),(2,.dead)]:Env)
abbrev e37:=fun x0 x1=>([(1,.loc U13 .no x0),(26,.v .bool x1)]:Env)
abbrev e38:=fun x0 x1=>([(1,.loc U13 .no x0),(3,.v U2 x1)]:Env)
abbrev e39:=fun x0 x1 x2=>([(1,.loc U13 .no x0),(3,.v U2 x1),(31,.v .bool x2)]:Env)
abbrev e40:=fun x0 x1 x2 x3=>([(1,.loc U13 .no x0),(3,.v U2 x1),(4,.v U2 x2),(41,.v .bool x3)]:Env)
abbrev e41:=fun x0=>([(1,.dead),(2,.v U2 x0),(3,.dead)]:Env)
abbrev e42:=fun x0 x1=>([(1,.loc U13 .no x0),(2,.dead),(3,.v U2 x1)]:Env)
abbrev e43:=fun x0 x1 x2=>([(1,.loc U13 .no x0),(3,.v U2 x1),(52,.v .bool x2)]:Env)
abbrev e44:=fun x0 x1=>([(1,.loc U17 .no x0),(8,.v .bool x1)]:Env)
abbrev e45:=fun x0=>([(1,.loc U17 .no x0),(2,.dead)]:Env)
abbrev e46:=fun x0 x1=>([(1,.loc U17 .no x0),(12,.v .bool x1)]:Env)
abbrev e47:=fun x0 x1 x2=>([(1,.loc U17 .no x0),(3,.v U2 x1),(17,.v .bool x2)]:Env)
abbrev e48:=fun x0 x1 x2 x3=>([(1,.loc U17 .no x0),(3,.v U2 x1),(4,.v U2 x2),(27,.v .bool x3)]:Env)
abbrev e49:=fun x0 x1=>([(1,.loc U17 .no x0),(2,.dead),(3,.v U2 x1)]:Env)
abbrev e50:=fun x0 x1=>([(0,.v U2 x0),(8,.v .bool x1)]:Env)
abbrev e51:=fun x0=>([(0,.dead),(2,.v .str x0)]:Env)
abbrev e52:=fun x0=>([(0,.v U2 x0),(2,.dead)]:Env)
abbrev e53:=fun x0 x1=>([(0,.v U2 x0),(4,.v .bool x1)]:Env)
abbrev e54:=fun x0 x1 x2=>([(1,.loc U17 .no x0),(4,.v U2 x1),(12,.v .bool x2)]:Env)
abbrev e55:=fun x0 x1=>([(2,.v .str x0),(3,.v U2 x1)]:Env)
abbrev e56:=fun x0 x1=>([(1,.dead),(2,.v .str x0),(3,.v U2 x1)]:Env)
abbrev e57:=fun x0 x1 x2=>([(1,.loc U17 .no x0),(5,.v .str x1),(6,.v U2 x2)]:Env)
abbrev e58:=fun x0 x1 x2 x3=>([(1,.loc U17 .no x0),(5,.v .str x1),(6,.v U2 x2),(22,.v .bool x3)]:Env)
abbrev e59:=fun x0 x1 x2 x3 x4=>([(1,.loc U17 .no x0),(5,.v .str x1),(6,.v U2 x2),(7,.loc U13 .no x3),(8,.v U2 x4)]:Env)
abbrev e60:=fun x0 x1 x2 x3 x4 x5=>([(1,.loc U17 .no x0),(5,.v .str x1),(6,.v U2 x2),(7,.loc U13 .no x3),(8,.v U2 x4),(45,.v .bool x5)]:Env)
abbrev e61:=fun x0 x1 x2 x3 x4 x5=>([(1,.loc U17 .no x0),(5,.v .str x1),(6,.v U2 x2),(7,.loc U13 .no x3),(8,.v U2 x4),(49,.v .bool x5)]:Env)
abbrev e62:=fun x0 x1 x2=>([(0,.v .str x0),(3,.v U2 x1),(7,.v .bool x2)]:Env)
abbrev e63:=fun x0 x1 x2=>([(0,.v .str x0),(3,.v U2 x1),(10,.v U1 x2)]:Env)
abbrev e64:=fun x0 x1 x2 x3=>([(0,.v .str x0),(3,.v U2 x1),(10,.v U1 x2),(12,.v .bool x3)]:Env)
abbrev e65:=fun x0 x1 x2=>([(0,.v .str x0),(3,.v U2 x1),(19,.v .bool x2)]:Env)
abbrev e66:=fun x0 x1 x2=>([(0,.v .str x0),(3,.v U2 x1),(30,.v .bool x2)]:Env)
abbrev e67:=fun x0=>([(2,.v U2 x0),(3,.dead)]:Env)
abbrev e68:=fun x0=>([(2,.dead),(3,.v U2 x0)]:Env)
abbrev e69:=fun x0 x1 x2=>([(0,.v .str x0),(3,.v U2 x1),(4,.v U2 x2)]:Env)
abbrev e70:=fun x0 x1 x2 x3=>([(0,.v .str x0),(3,.v U2 x1),(4,.v U2 x2),(8,.v .bool x3)]:Env)
abbrev e71:=fun x0 x1 x2 x3=>([(0,.v .str x0),(3,.v U2 x1),(4,.v U2 x2),(14,.v .bool x3)]:Env)
abbrev e72:=fun x0 x1 x2=>([(0,.v .str x0),(3,.v U2 x1),(13,.v .bool x2)]:Env)
abbrev e73:=fun x0 x1 x2=>([(0,.v .str x0),(2,.loc U12 .no x1),(5,.v U2 x2)]:Env)
abbrev e74:=fun x0 x1 x2 x3=>([(0,.v .str x0),(2,.loc U12 .no x1),(5,.v U2 x2),(15,.v .bool x3)]:Env)
abbrev e75:=fun x0 x1 x2 x3=>([(0,.v .str x0),(2,.loc U12 .no x1),(5,.v U2 x2),(27,.v .bool x3)]:Env)
abbrev e76:=fun x0 x1 x2=>([(2,.loc U12 .no x0),(3,.v U2 x1),(4,.v U2 x2)]:Env)
abbrev e77:=fun x0 x1 x2=>([(0,.dead),(2,.loc U12 .no x0),(3,.v U2 x1),(4,.v U2 x2),(5,.dead)]:Env)
abbrev e78:=fun x0 x1 x2=>([(0,.v .str x0),(2,.loc U12 .no x1),(3,.dead),(4,.dead),(5,.v U2 x2)]:Env)
abbrev e79:=fun x0 x1 x2 x3=>([(0,.v .str x0),(2,.loc U12 .no x1),(5,.v U2 x2),(31,.v .bool x3)]:Env)
abbrev e80:=fun x0 x1 x2=>([(0,.v U1 x0),(3,.v U2 x1),(5,.v .bool x2)]:Env)
abbrev e81:=fun x0 x1=>([(0,.v .str x0),(2,.loc U12 .no x1)]:Env)
abbrev e82:=fun x0 x1 x2 x3=>([(0,.v .str x0),(2,.loc U12 .no x1),(5,.v U2 x2),(10,.v .bool x3)]:Env)
abbrev e83:=fun x0 x1 x2 x3=>([(0,.v .str x0),(2,.loc U12 .no x1),(5,.v U2 x2),(12,.v .bool x3)]:Env)
abbrev e84:=fun x0 x1 x2=>([(0,.dead),(2,.loc U12 .no x0),(3,.v U2 x1),(4,.v U2 x2)]:Env)
abbrev e85:=fun x0 x1=>([(0,.v .str x0),(2,.loc U12 .no x1),(3,.dead),(4,.dead)]:Env)
abbrev e86:=fun x0 x1 x2 x3=>([(0,.v .str x0),(2,.loc U12 .no x1),(6,.v U2 x2),(22,.v .bool x3)]:Env)
abbrev e87:=fun x0 x1 x2 x3=>([(0,.v .str x0),(2,.loc U12 .no x1),(6,.v U2 x2),(24,.v .bool x3)]:Env)
abbrev e88:=fun x0 x1 x2=>([(0,.dead),(2,.loc U12 .no x0),(3,.v U2 x1),(4,.v U2 x2),(6,.dead)]:Env)
abbrev e89:=fun x0 x1 x2=>([(0,.v .str x0),(2,.loc U12 .no x1),(3,.dead),(4,.dead),(6,.v U2 x2)]:Env)
abbrev e90:=fun x0 x1 x2 x3=>([(0,.v .str x0),(2,.loc U12 .no x1),(6,.v U2 x2),(32,.v .bool x3)]:Env)
abbrev e91:=fun x0 x1 x2=>([(0,.v .str x0),(2,.loc U12 .no x1),(41,.v .bool x2)]:Env)
abbrev e92:=fun x0 x1 x2=>([(0,.v .str x0),(2,.loc U12 .no x1),(49,.v .bool x2)]:Env)
abbrev e93:=fun x0=>([(2,.loc U12 .no x0),(3,.dead),(4,.dead)]:Env)
abbrev e94:=fun x0 x1=>([(0,.v .str x0),(13,.v .bool x1)]:Env)
abbrev e95:=fun x0 x1 x2=>([(2,.own true 36 U12 .no x0),(3,.v U2 x1),(4,.v U2 x2)]:Env)
abbrev e96:=fun x0 x1 x2=>([(0,.dead),(2,.own true 36 U12 .no x0),(3,.v U2 x1),(4,.v U2 x2)]:Env)
abbrev e97:=fun x0=>([(0,.v .str x0),(2,.dead),(3,.dead),(4,.dead)]:Env)
abbrev e98:=fun x0 x1 x2 x3=>([(0,.v .str x0),(5,.own true 36 U12 .no x1),(6,.v U2 x2),(7,.v U2 x3)]:Env)
abbrev e99:=fun x0 x1 x2 x3 x4=>([(0,.v .str x0),(5,.own true 36 U12 .no x1),(6,.v U2 x2),(7,.v U2 x3),(33,.v .bool x4)]:Env)
abbrev e100:=fun x0 x1 x2=>([(2,.ref 5 []),(3,.v U2 x0),(4,.v U2 x1),(5,.own true 36 U12 .no x2)]:Env)
abbrev e101:=fun x0 x1 x2=>([(0,.dead),(2,.ref 5 []),(3,.v U2 x0),(4,.v U2 x1),(5,.own true 36 U12 .no x2),(6,.dead),(7,.dead)]:Env)
abbrev e102:=fun x0 x1 x2 x3=>([(0,.v .str x0),(2,.dead),(3,.dead),(4,.dead),(5,.own true 36 U12 .no x1),(6,.v U2 x2),(7,.v U2 x3)]:Env)
abbrev e103:=fun x0 x1 x2 x3 x4 x5 x6=>([(0,.v .str x0),(5,.own true 36 U12 .no x1),(6,.v U2 x2),(7,.v U2 x3),(8,.v U2 x4),(9,.loc U12 .no x5),(10,.v U2 x6)]:Env)
abbrev e104:=fun x0 x1 x2 x3 x4 x5 x6 x7=>([(0,.v .str x0),(5,.own true 36 U12 .no x1),(6,.v U2 x2),(7,.v U2 x3),(8,.v U2 x4),(9,.loc U12 .no x5),(10,.v U2 x6),(44,.v .bool x7)]:Env)
abbrev e105:=fun x0 x1 x2=>([(0,.dead),(2,.own true 36 U12 .no x0),(3,.v U2 x1),(4,.v U2 x2),(5,.dead),(6,.dead),(7,.dead),(8,.dead),(9,.dead)]:Env)
abbrev e106:=fun x0 x1 x2 x3 x4 x5=>([(0,.v .str x0),(2,.dead),(3,.dead),(4,.dead),(5,.own true 36 U12 .no x1),(6,.v U2 x2),(7,.v U2 x3),(8,.v U2 x4),(9,.loc U12 .no x5)]:Env)
abbrev e107:=fun x0 x1 x2=>([(0,.dead),(2,.own true 36 U12 .no x0),(3,.v U2 x1),(4,.v U2 x2),(5,.dead),(6,.dead),(7,.dead)]:Env)
abbrev e108:=fun x0 x1 x2=>([(2,.own true 36 U12 .no x0),(3,.v U2 x1),(4,.v U2 x2),(5,.dead)]:Env)
abbrev e109:=fun x0 x1=>([(0,.v .str x0),(29,.v .bool x1)]:Env)
abbrev e110:=fun x0 x1=>([(2,.v U2 x0),(3,.v .bool x1)]:Env)
abbrev e111:=fun x0 x1=>([(0,.dead),(2,.v U2 x0),(3,.v .bool x1)]:Env)
abbrev e112:=fun x0=>([(0,.v .str x0),(2,.dead),(3,.dead)]:Env)
abbrev e113:=fun x0 x1=>([(0,.v .str x0),(4,.v U2 x1)]:Env)
abbrev e114:=fun x0 x1 x2=>([(0,.v .str x0),(4,.v U2 x1),(5,.v U2 x2)]:Env)
abbrev e115:=fun x0 x1 x2 x3=>([(0,.v .str x0),(4,.v U2 x1),(5,.v U2 x2),(33,.v .bool x3)]:Env)
abbrev e116:=fun x0 x1=>([(0,.v .str x0),(7,.v .bool x1)]:Env)
abbrev e117:=fun x0 x1=>([(0,.dead),(2,.v .str x0),(3,.v U2 x1)]:Env)
abbrev e118:=fun x0 x1 x2=>([(0,.v .str x0),(4,.v U2 x1),(11,.v .bool x2)]:Env)
abbrev e119:=fun x0 x1 x2=>([(0,.v .str x0),(4,.v U2 x1),(18,.v .bool x2)]:Env)
abbrev e120:=fun x0 x1=>([(0,.dead),(2,.v .str x0),(3,.v U2 x1),(4,.dead)]:Env)
abbrev e121:=fun x0 x1=>([(0,.v .str x0),(2,.dead),(3,.dead),(4,.v U2 x1)]:Env)
abbrev e122:=fun x0 x1 x2=>([(1,.loc U12 .no x0),(8,.v U2 x1),(9,.v .bool x2)]:Env)
abbrev e123:=fun x0 x1 x2=>([(1,.loc U12 .no x0),(8,.v U2 x1),(14,.v .bool x2)]:Env)
abbrev e124:=fun x0 x1 x2=>([(1,.loc U12 .no x0),(8,.v U2 x1),(23,.v .bool x2)]:Env)
abbrev e125:=fun x0 x1=>([(1,.loc U12 .no x0),(33,.v .bool x1)]:Env)
abbrev e126:=fun x0 x1=>([(0,.v U14 x0),(4,.v U2 x1)]:Env)
abbrev e127:=fun x0 x1 x2=>([(0,.v U14 x0),(4,.v U2 x1),(10,.v .bool x2)]:Env)
abbrev e128:=fun x0 x1 x2=>([(0,.v U14 x0),(4,.v U2 x1),(18,.v .bool x2)]:Env)
abbrev e129:=fun x0 x1=>([(0,.v U14 x0),(2,.dead),(3,.dead),(4,.v U2 x1)]:Env)
abbrev e130:=fun x0=>([(0,.v U14 x0),(2,.dead),(3,.dead)]:Env)
abbrev e131:=fun x0 x1 x2=>([(0,.v U14 x0),(5,.v .str x1),(6,.v U2 x2)]:Env)
abbrev e132:=fun x0 x1 x2 x3=>([(0,.v U14 x0),(5,.v .str x1),(6,.v U2 x2),(27,.v .bool x3)]:Env)
abbrev e133:=fun x0 x1 x2 x3=>([(0,.v U14 x0),(5,.v .str x1),(6,.v U2 x2),(31,.v .bool x3)]:Env)
abbrev e134:=fun x0 x1 x2 x3=>([(0,.v U14 x0),(5,.v .str x1),(6,.v U2 x2),(39,.v .bool x3)]:Env)
abbrev e135:=fun x0 x1=>([(5,.v .str x0),(58,.v .bool x1)]:Env)
abbrev e136:=fun x0 x1=>([(2,.v .str x0),(3,.v U2 x1),(5,.dead)]:Env)
abbrev e137:=fun x0 x1=>([(0,.v .str x0),(12,.v .bool x1)]:Env)
abbrev e138:=fun x0 x1 x2=>([(0,.v .str x0),(3,.v U2 x1),(16,.v .bool x2)]:Env)
abbrev e139:=fun x0 x1 x2 x3=>([(0,.v .str x0),(3,.v U2 x1),(4,.v U1 x2),(21,.v .bool x3)]:Env)
abbrev e140:=fun x0 x1=>([(0,.v .str x0),(30,.v .bool x1)]:Env)
abbrev e141:=fun x0 x1 x2 x3=>([(4,.v U2 x0),(32,.own true 4294967295 U1 .no x1),(33,.v U2 x2),(34,.v U2 x3)]:Env)
abbrev e142:=fun x0 x1 x2 x3 x4=>([(4,.v U2 x0),(32,.own true 4294967295 U1 .no x1),(33,.v U2 x2),(34,.v U2 x3),(35,.v .bool x4)]:Env)
abbrev e143:=fun x0 x1 x2=>([(0,.v .str x0),(4,.v U2 x1),(14,.v .bool x2)]:Env)
abbrev e144:=fun x0 x1 x2=>([(0,.v .str x0),(4,.v U2 x1),(17,.v .bool x2)]:Env)
abbrev e145:=fun x0 x1 x2=>([(0,.v .str x0),(4,.v U2 x1),(28,.v .bool x2)]:Env)
abbrev e146:=fun x0 x1 x2 x3=>([(0,.v .str x0),(2,.loc U12 .no x1),(5,.v U1 x2),(14,.v .bool x3)]:Env)
abbrev e147:=fun x0 x1 x2 x3=>([(0,.v .str x0),(2,.loc U12 .no x1),(6,.v U2 x2),(20,.v .bool x3)]:Env)
abbrev e148:=fun x0 x1 x2 x3=>([(0,.v .str x0),(2,.loc U12 .no x1),(5,.v U1 x2),(27,.v .bool x3)]:Env)
abbrev e149:=fun x0 x1 x2 x3=>([(0,.v .str x0),(2,.loc U12 .no x1),(7,.v U2 x2),(33,.v .bool x3)]:Env)
abbrev e150:=fun x0 x1 x2=>([(0,.dead),(2,.loc U12 .no x0),(3,.v U2 x1),(4,.v U2 x2),(7,.dead)]:Env)
abbrev e151:=fun x0 x1 x2=>([(0,.v .str x0),(2,.loc U12 .no x1),(3,.dead),(4,.dead),(7,.v U2 x2)]:Env)
abbrev e152:=fun x0 x1 x2 x3=>([(0,.v .str x0),(2,.loc U12 .no x1),(7,.v U2 x2),(43,.v .bool x3)]:Env)
abbrev e153:=fun x0 x1 x2 x3=>([(0,.v .str x0),(2,.loc U12 .no x1),(5,.v U1 x2),(50,.v .bool x3)]:Env)
abbrev e154:=fun x0 x1 x2=>([(0,.v .str x0),(2,.loc U12 .no x1),(64,.v .bool x2)]:Env)
abbrev e155:=fun x0 x1 x2 x3 x4=>([(0,.v .str x0),(5,.own true 36 U12 .no x1),(6,.v U2 x2),(7,.v U2 x3),(17,.v .bool x4)]:Env)
abbrev e156:=fun x0 x1 x2 x3 x4=>([(0,.v .str x0),(5,.own true 36 U12 .no x1),(6,.v U2 x2),(7,.v U2 x3),(20,.v U1 x4)]:Env)
abbrev e157:=fun x0 x1 x2 x3 x4 x5=>([(0,.v .str x0),(5,.own true 36 U12 .no x1),(6,.v U2 x2),(7,.v U2 x3),(20,.v U1 x4),(42,.v .bool x5)]:Env)
abbrev e158:=fun x0 x1 x2 x3 x4 x5=>([(0,.v .str x0),(5,.own true 36 U12 .no x1),(6,.v U2 x2),(7,.v U2 x3),(20,.v U1 x4),(48,.v .bool x5)]:Env)
abbrev e159:=fun x0 x1 x2 x3 x4=>([(0,.v .str x0),(5,.own true 36 U12 .no x1),(6,.v U2 x2),(7,.v U2 x3),(54,.v .bool x4)]:Env)
abbrev e160:=fun x0 x1 x2 x3 x4=>([(0,.v .str x0),(5,.own true 36 U12 .no x1),(6,.v U2 x2),(7,.v U2 x3),(65,.v .bool x4)]:Env)
abbrev e161:=fun x0 x1 x2 x3 x4 x5 x6=>([(0,.v .str x0),(5,.own true 36 U12 .no x1),(6,.v U2 x2),(7,.v U2 x3),(8,.loc U12 .no x4),(9,.v U2 x5),(10,.v U2 x6)]:Env)
abbrev e162:=fun x0 x1 x2 x3 x4 x5 x6 x7=>([(0,.v .str x0),(5,.own true 36 U12 .no x1),(6,.v U2 x2),(7,.v U2 x3),(8,.loc U12 .no x4),(9,.v U2 x5),(10,.v U2 x6),(30,.v .bool x7)]:Env)
abbrev e163:=fun x0 x1 x2 x3 x4 x5=>([(0,.v .str x0),(2,.dead),(3,.dead),(4,.dead),(5,.own true 36 U12 .no x1),(6,.v U2 x2),(7,.v U2 x3),(8,.loc U12 .no x4),(9,.v U2 x5)]:Env)
abbrev e164:=fun x0=>([(2,.dead),(3,.dead),(4,.dead),(5,.own true 36 U12 .no x0)]:Env)
abbrev e165:=fun x0 x1 x2=>([(0,.at U18 x0),(1,.v U2 x1),(2,.v .str x2)]:Env)
abbrev e166:=fun x0 x1 x2=>([(0,.loc U18 .no x0),(1,.v U2 x1),(2,.v .str x2)]:Env)
abbrev e167:=fun x0 x1=>([(0,.loc U18 .no x0),(17,.v .bool x1)]:Env)
abbrev e168:=fun x0 x1=>([(0,.loc U18 .no x0),(6,.v .str x1)]:Env)
abbrev e169:=fun x0 x1=>([(0,.at U18 x0),(3,.v .bool x1)]:Env)
abbrev e170:=fun x0 x1=>([(0,.at U18 x0),(25,.v .bool x1)]:Env)
abbrev e171:=fun x0 x1=>([(0,.loc U18 .no x0),(2,.v .str x1)]:Env)
abbrev e172:=fun x0 x1 x2 x3=>([(0,.loc U18 .no x0),(2,.loc U13 (.pair .no (.pair .no (.pair (.own true 9 .no) .no))) x1),(4,.loc U13 (.pair .no (.pair .no (.pair (.own true 9 .no) .no))) x2),(5,.v .str x3)]:Env)
abbrev e173:=fun x0 x1 x2 x3 x4=>([(0,.loc U18 .no x0),(2,.loc U13 (.pair .no (.pair .no (.pair (.own true 9 .no) .no))) x1),(4,.loc U13 (.pair .no (.pair .no (.pair (.own true 9 .no) .no))) x2),(5,.v .str x3),(23,.v .bool x4)]:Env)
abbrev e174:=fun x0 x1 x2 x3 x4=>([(0,.loc U18 .no x0),(2,.loc U13 (.pair .no (.pair .no (.pair (.own true 9 .no) .no))) x1),(4,.loc U13 (.pair .no (.pair .no (.pair (.own true 9 .no) .no))) x2),(5,.v .str x3),(46,.v .bool x4)]:Env)
abbrev e175:=fun x0 x1 x2=>([(0,.loc U18 .no x0),(2,.loc U13 .no x1),(3,.v .str x2)]:Env)
abbrev e176:=fun x0 x1 x2=>([(0,.v U0 x0),(1,.v U2 x1),(12,.v .bool x2)]:Env)
abbrev e177:=fun x0=>([(0,.dead),(1,.dead),(4,.v .str x0)]:Env)
abbrev e178:=fun x0 x1 x2=>([(0,.v .str x0),(3,.v U2 x1),(5,.v .bool x2)]:Env)
abbrev e179:=fun x0 x1 x2=>([(0,.v .str x0),(3,.v U2 x1),(11,.v .bool x2)]:Env)
abbrev e180:=fun x0 x1=>([(0,.v U3 x0),(1,.v U8 x1)]:Env)
abbrev e181:=fun x0 x1 x2 x3=>([(0,.v U3 x0),(1,.v U8 x1),(7,.v U2 x2),(8,.v U2 x3)]:Env)
abbrev e182:=fun x0 x1 x2 x3 x4=>([(0,.v U3 x0),(1,.v U8 x1),(7,.v U2 x2),(8,.v U2 x3),(9,.v .bool x4)]:Env)
abbrev e183:=fun x0 x1 x2 x3 x4 x5=>([(0,.v U3 x0),(1,.v U8 x1),(5,.v U2 x2),(7,.v U2 x3),(8,.v U2 x4),(16,.v .bool x5)]:Env)
abbrev e184:=fun x0=>([(0,.dead),(1,.dead),(4,.v U2 x0),(7,.dead),(8,.dead)]:Env)
abbrev e185:=fun x0 x1 x2 x3=>([(0,.v U3 x0),(1,.v U8 x1),(4,.dead),(7,.v U2 x2),(8,.v U2 x3)]:Env)
abbrev e186:=fun x0 x1 x2 x3=>([(0,.v U0 x0),(1,.v .str x1),(12,.v U2 x2),(13,.v .bool x3)]:Env)
abbrev e187:=fun x0 x1 x2=>([(0,.v U0 x0),(1,.v .str x1),(15,.v .bool x2)]:Env)
abbrev e188:=fun x0 x1=>([(0,.v U0 x0),(1,.v .str x1),(4,.dead)]:Env)
abbrev e189:=fun x0 x1 x2 x3=>([(0,.v U0 x0),(1,.v .str x1),(5,.v U2 x2),(22,.v .bool x3)]:Env)
abbrev e190:=fun x0 x1 x2 x3=>([(0,.v U0 x0),(1,.v .str x1),(5,.v U2 x2),(29,.v .bool x3)]:Env)
abbrev e191:=fun x0 x1 x2 x3 x4 x5=>([(0,.v U0 x0),(1,.v .str x1),(5,.v U2 x2),(39,.v U0 x3),(40,.v U2 x4),(41,.v U2 x5)]:Env)
abbrev e192:=fun x0 x1 x2 x3 x4 x5 x6=>([(0,.v U0 x0),(1,.v .str x1),(5,.v U2 x2),(39,.v U0 x3),(40,.v U2 x4),(41,.v U2 x5),(42,.v .bool x6)]:Env)
abbrev e193:=fun x0 x1 x2 x3 x4 x5 x6=>([(0,.v U0 x0),(1,.v .str x1),(5,.v U2 x2),(7,.v .str x3),(39,.v U0 x4),(40,.v U2 x5),(41,.v U2 x6)]:Env)
abbrev e194:=fun x0 x1 x2 x3 x4 x5 x6 x7=>([(0,.v U0 x0),(1,.v .str x1),(5,.v U2 x2),(7,.v .str x3),(39,.v U0 x4),(40,.v U2 x5),(41,.v U2 x6),(49,.v .bool x7)]:Env)
abbrev e195:=fun x0 x1 x2 x3=>([(0,.v U0 x0),(7,.v U0 x1),(8,.v U2 x2),(9,.v U2 x3)]:Env)
abbrev e196:=fun x0 x1 x2 x3 x4=>([(0,.v U0 x0),(7,.v U0 x1),(8,.v U2 x2),(9,.v U2 x3),(10,.v .bool x4)]:Env)
abbrev e197:=fun x0 x1 x2 x3 x4 x5=>([(0,.v U0 x0),(5,.v .str x1),(7,.v U0 x2),(8,.v U2 x3),(9,.v U2 x4),(14,.v .bool x5)]:Env)
abbrev e198:=fun x0 x1=>([(0,.dead),(2,.v .str x0),(3,.v U2 x1),(5,.dead),(7,.dead),(8,.dead),(9,.dead)]:Env)
abbrev e199:=fun x0 x1 x2 x3 x4=>([(0,.v U0 x0),(2,.dead),(3,.dead),(5,.v .str x1),(7,.v U0 x2),(8,.v U2 x3),(9,.v U2 x4)]:Env)
abbrev e200:=fun x0 x1 x2 x3 x4=>([(0,.v U0 x0),(7,.v U0 x1),(8,.v U2 x2),(9,.v U2 x3),(17,.v .bool x4)]:Env)
abbrev e201:=fun x0 x1=>([(0,.dead),(2,.v .str x0),(3,.v U2 x1),(7,.dead),(8,.dead),(9,.dead)]:Env)
abbrev e202:=fun x0 x1 x2 x3=>([(0,.v U0 x0),(2,.dead),(3,.dead),(7,.v U0 x1),(8,.v U2 x2),(9,.v U2 x3)]:Env)
abbrev e203:=fun x0=>([(0,.v U0 x0),(2,.dead),(3,.dead)]:Env)
abbrev e204:=fun x0 x1=>([(6,.v .str x0),(23,.v .bool x1)]:Env)
abbrev e205:=fun x0 x1=>([(2,.v .str x0),(3,.v U2 x1),(6,.dead)]:Env)
abbrev e206:=fun x0=>([(3,.own true 4294967295 U1 .no x0)]:Env)
abbrev e207:=fun x0 x1 x2=>([(3,.own true 4294967295 U1 .no x0),(8,.ref 3 []),(9,.v U2 x1),(10,.v U2 x2)]:Env)
abbrev e208:=fun x0 x1 x2 x3=>([(3,.own true 4294967295 U1 .no x0),(8,.ref 3 []),(9,.v U2 x1),(10,.v U2 x2),(11,.v .bool x3)]:Env)
abbrev e209:=fun x0 x1 x2 x3 x4 x5=>([(3,.own true 4294967295 U1 .no x0),(4,.v U2 x1),(5,.v U1 x2),(8,.ref 3 []),(9,.v U2 x3),(10,.v U2 x4),(20,.v .bool x5)]:Env)
abbrev e210:=fun x0 x1 x2 x3=>([(0,.v U0 x0),(1,.v .str x1),(7,.v U2 x2),(8,.v U2 x3)]:Env)
abbrev e211:=fun x0 x1 x2 x3 x4=>([(0,.v U0 x0),(1,.v .str x1),(7,.v U2 x2),(8,.v U2 x3),(9,.v .bool x4)]:Env)
abbrev e212:=fun x0 x1 x2 x3 x4 x5=>([(0,.v U0 x0),(1,.v .str x1),(5,.v U2 x2),(7,.v U2 x3),(8,.v U2 x4),(16,.v .bool x5)]:Env)
abbrev e213:=fun x0 x1 x2 x3=>([(0,.v U0 x0),(1,.v .str x1),(4,.dead),(7,.v U2 x2),(8,.v U2 x3)]:Env)
abbrev e214:=fun x0 x1=>([(1,.loc U13 .no x0),(6,.v .bool x1)]:Env)
abbrev e215:=fun x0 x1=>([(1,.loc U13 .no x0),(25,.v .bool x1)]:Env)
abbrev e216:=fun x0 x1 x2 x3=>([(1,.loc U13 .no x0),(31,.v U0 x1),(32,.v U2 x2),(33,.v U2 x3)]:Env)
abbrev e217:=fun x0 x1 x2 x3 x4=>([(1,.loc U13 .no x0),(31,.v U0 x1),(32,.v U2 x2),(33,.v U2 x3),(34,.v .bool x4)]:Env)
abbrev e218:=fun x0 x1 x2 x3 x4 x5=>([(1,.loc U13 .no x0),(3,.v U2 x1),(4,.v .str x2),(31,.v U0 x3),(32,.v U2 x4),(33,.v U2 x5)]:Env)
abbrev e219:=fun x0 x1 x2 x3 x4 x5 x6 x7=>([(1,.loc U13 .no x0),(3,.v U2 x1),(4,.v .str x2),(5,.v U2 x3),(31,.v U0 x4),(32,.v U2 x5),(33,.v U2 x6),(41,.v .bool x7)]:Env)
abbrev e220:=fun x0=>([(1,.dead),(2,.v U2 x0),(3,.dead),(4,.dead),(31,.dead),(32,.dead),(33,.dead)]:Env)
abbrev e221:=fun x0 x1 x2 x3 x4 x5=>([(1,.loc U13 .no x0),(2,.dead),(3,.v U2 x1),(4,.v .str x2),(31,.v U0 x3),(32,.v U2 x4),(33,.v U2 x5)]:Env)
abbrev e222:=fun x0 x1 x2 x3 x4=>([(1,.loc U13 .no x0),(31,.v U0 x1),(32,.v U2 x2),(33,.v U2 x3),(48,.v .bool x4)]:Env)
abbrev e223:=fun x0=>([(1,.dead),(2,.v U2 x0),(31,.dead),(32,.dead),(33,.dead)]:Env)
abbrev e224:=fun x0 x1 x2 x3=>([(1,.loc U13 .no x0),(2,.dead),(31,.v U0 x1),(32,.v U2 x2),(33,.v U2 x3)]:Env)
abbrev e225:=fun x0 x1=>([(1,.loc U17 .no x0),(6,.v .bool x1)]:Env)
abbrev e226:=fun x0 x1=>([(1,.loc U17 .no x0),(11,.v .bool x1)]:Env)
abbrev e227:=fun x0 x1 x2=>([(17,.v U15 x0),(18,.v U2 x1),(19,.v U2 x2)]:Env)
abbrev e228:=fun x0 x1 x2 x3=>([(17,.v U15 x0),(18,.v U2 x1),(19,.v U2 x2),(20,.v .bool x3)]:Env)
abbrev e229:=fun x0 x1 x2 x3 x4=>([(5,.v U2 x0),(17,.v U15 x1),(18,.v U2 x2),(19,.v U2 x3),(26,.v .bool x4)]:Env)
abbrev e230:=fun x0=>([(2,.v U2 x0),(17,.dead),(18,.dead),(19,.dead)]:Env)
abbrev e231:=fun x0 x1 x2=>([(2,.dead),(17,.v U15 x0),(18,.v U2 x1),(19,.v U2 x2)]:Env)
abbrev e232:=fun x0 x1 x2 x3=>([(2,.loc U17 .no x0),(5,.own true 36 U12 .no x1),(6,.v U2 x2),(7,.v U2 x3)]:Env)
abbrev e233:=fun x0 x1 x2 x3 x4=>([(2,.loc U17 .no x0),(5,.own true 36 U12 .no x1),(6,.v U2 x2),(7,.v U2 x3),(24,.v .bool x4)]:Env)
abbrev e234:=fun x0 x1 x2=>([(2,.loc U17 (.pair .no (.pair (.own true 57 .no) .no)) x0),(3,.v U2 x1),(4,.v U2 x2)]:Env)
abbrev e235:=fun x0 x1 x2=>([(2,.loc U17 (.pair .no (.pair (.own true 57 .no) .no)) x0),(3,.v U2 x1),(4,.v U2 x2),(5,.dead)]:Env)
abbrev e236:=fun x0 x1=>([(2,.loc U17 .no x0),(3,.dead),(4,.dead),(5,.own true 36 U12 .no x1)]:Env)
abbrev e237:=fun x0 x1 x2 x3 x4 x5=>([(2,.loc U17 .no x0),(5,.own false 36 U12 .no x1),(8,.ptr 30 []),(9,.loc U17 (.pair .no (.pair (.own true 57 .no) .no)) x2),(10,.own true 9 .str .no x3),(11,.own true 3 U2 .no x4),(30,.loc U18 .no x5)]:Env)
abbrev e238:=fun x0 x1 x2 x3 x4 x5 x6=>([(2,.loc U17 .no x0),(5,.own false 36 U12 .no x1),(8,.ptr 30 []),(9,.loc U17 (.pair .no (.pair (.own true 57 .no) .no)) x2),(10,.own true 9 .str .no x3),(11,.own true 3 U2 .no x4),(30,.loc U18 .no x5),(47,.v .bool x6)]:Env)
abbrev e239:=fun x0 x1 x2 x3 x4 x5=>([(2,.loc U17 .no x0),(8,.ptr 30 []),(9,.loc U17 (.pair .no (.pair (.own true 57 .no) .no)) x1),(10,.own true 9 .str .no x2),(11,.own true 3 U2 .no x3),(30,.loc U18 .no x4),(82,.v .bool x5)]:Env)
abbrev e240:=fun x0 x1 x2=>([(2,.loc U17 (.pair .no (.pair (.own true 57 .no) .no)) x0),(3,.v U2 x1),(4,.v U2 x2),(9,.dead),(10,.dead),(11,.dead)]:Env)
abbrev e241:=fun x0 x1 x2 x3=>([(2,.loc U17 .no x0),(3,.dead),(4,.dead),(9,.loc U17 (.pair .no (.pair (.own true 57 .no) .no)) x1),(10,.own true 9 .str .no x2),(11,.own true 3 U2 .no x3)]:Env)
abbrev e242:=fun x0 x1 x2 x3 x4 x5=>([(2,.loc U17 .no x0),(9,.loc U17 (.pair .no (.pair (.own true 57 .no) .no)) x1),(10,.own true 9 .str .no x2),(11,.own true 3 U2 .no x3),(86,.ref 10 []),(87,.v U2 x4),(88,.v U2 x5)]:Env)
abbrev e243:=fun x0 x1 x2 x3 x4 x5 x6=>([(2,.loc U17 .no x0),(9,.loc U17 (.pair .no (.pair (.own true 57 .no) .no)) x1),(10,.own true 9 .str .no x2),(11,.own true 3 U2 .no x3),(86,.ref 10 []),(87,.v U2 x4),(88,.v U2 x5),(89,.v .bool x6)]:Env)
abbrev e244:=fun x0 x1 x2 x3 x4 x5 x6 x7=>([(2,.loc U17 .no x0),(9,.loc U17 (.pair .no (.pair (.own true 57 .no) .no)) x1),(10,.own true 9 .str .no x2),(11,.own true 3 U2 .no x3),(14,.v U2 x4),(86,.ref 10 []),(87,.v U2 x5),(88,.v U2 x6),(106,.v .bool x7)]:Env)
abbrev e245:=fun x0 x1 x2=>([(2,.loc U17 .no x0),(3,.v U2 x1),(4,.v U2 x2)]:Env)
abbrev e246:=fun x0 x1 x2=>([(2,.loc U17 .no x0),(3,.v U2 x1),(4,.v U2 x2),(9,.dead),(10,.dead),(11,.dead),(86,.dead),(87,.dead),(88,.dead)]:Env)
abbrev e247:=fun x0 x1 x2 x3 x4 x5=>([(2,.loc U17 .no x0),(3,.dead),(4,.dead),(9,.loc U17 (.pair .no (.pair (.own true 57 .no) .no)) x1),(10,.own true 9 .str .no x2),(11,.own true 3 U2 .no x3),(86,.ref 10 []),(87,.v U2 x4),(88,.v U2 x5)]:Env)
abbrev e248:=fun x0 x1 x2=>([(2,.loc U17 .no x0),(3,.v U2 x1),(4,.v U2 x2),(9,.dead)]:Env)
abbrev e249:=fun x0 x1=>([(2,.loc U17 .no x0),(3,.dead),(4,.dead),(9,.loc U17 (.pair .no (.pair (.own true 57 .no) .no)) x1)]:Env)
abbrev e250:=fun x0 x1 x2 x3=>([(2,.loc U17 .no x0),(9,.loc U17 (.pair .no (.pair (.own false 57 .no) .no)) x1),(16,.v U2 x2),(116,.v .bool x3)]:Env)
abbrev e251:=fun x0 x1 x2=>([(2,.loc U17 (.pair .no (.pair (.own true 57 .no) .no)) x0),(3,.v U2 x1),(4,.v U2 x2),(9,.dead)]:Env)
abbrev e252:=fun x0 x1=>([(2,.loc U17 .no x0),(3,.dead),(4,.dead),(9,.loc U17 (.pair .no (.pair (.own false 57 .no) .no)) x1)]:Env)
abbrev e253:=fun x0 x1=>([(0,.v U0 x0),(1,.v U0 x1)]:Env)
abbrev e254:=fun x0 x1 x2=>([(0,.v U0 x0),(1,.v U0 x1),(10,.v .bool x2)]:Env)
abbrev e255:=fun x0=>([(0,.dead),(1,.dead),(4,.v .bool x0)]:Env)
abbrev e256:=fun x0 x1 x2=>([(0,.v U0 x0),(1,.v U0 x1),(5,.v U2 x2)]:Env)
abbrev e257:=fun x0 x1 x2 x3=>([(0,.v U0 x0),(1,.v U0 x1),(5,.v U2 x2),(14,.v .bool x3)]:Env)
abbrev e258:=fun x0 x1 x2 x3=>([(0,.v U0 x0),(1,.v U0 x1),(5,.v U2 x2),(25,.v .bool x3)]:Env)
abbrev e259:=fun x0 x1 x2=>([(0,.v U0 x0),(1,.v U0 x1),(4,.dead),(5,.v U2 x2)]:Env)
abbrev e260:=fun x0 x1 x2=>([(2,.loc U17 .no x0),(3,.loc U17 .no x1),(21,.v .bool x2)]:Env)
abbrev e261:=fun x0=>([(2,.dead),(3,.dead),(4,.v .bool x0)]:Env)
abbrev e262:=fun x0 x1 x2=>([(2,.loc U17 .no x0),(3,.loc U17 .no x1),(5,.v U2 x2)]:Env)
abbrev e263:=fun x0 x1 x2 x3=>([(2,.loc U17 .no x0),(3,.loc U17 .no x1),(5,.v U2 x2),(26,.v .bool x3)]:Env)
abbrev e264:=fun x0 x1 x2 x3=>([(2,.loc U17 .no x0),(3,.loc U17 .no x1),(5,.v U2 x2),(58,.v .bool x3)]:Env)
abbrev e265:=fun x0=>([(2,.dead),(3,.dead),(4,.v .bool x0),(5,.dead)]:Env)
abbrev e266:=fun x0 x1 x2=>([(2,.loc U17 .no x0),(3,.loc U17 .no x1),(4,.dead),(5,.v U2 x2)]:Env)
abbrev e267:=fun x0 x1 x2=>([(1,.v U3 x0),(2,.loc U17 .no x1),(39,.v .bool x2)]:Env)
abbrev e268:=fun x0=>([(1,.dead),(2,.dead),(4,.v .bool x0)]:Env)
abbrev e269:=fun x0 x1 x2 x3=>([(1,.v U3 x0),(2,.loc U17 .no x1),(7,.own true 36 U12 .no x2),(10,.v .str x3)]:Env)
abbrev e270:=fun x0 x1 x2 x3 x4 x5=>([(1,.v U3 x0),(2,.loc U17 .no x1),(7,.own true 36 U12 .no x2),(10,.v .str x3),(52,.ref 7 []),(53,.v U2 x4),(54,.v U2 x5)]:Env)
abbrev e271:=fun x0 x1 x2 x3 x4 x5 x6=>([(1,.v U3 x0),(2,.loc U17 .no x1),(7,.own true 36 U12 .no x2),(10,.v .str x3),(52,.ref 7 []),(53,.v U2 x4),(54,.v U2 x5),(55,.v .bool x6)]:Env)
abbrev e272:=fun x0 x1=>([(2,.loc U17 .no x0),(10,.v .str x1)]:Env)
variable {N:Nat} {cl:Cal} {R:Type} {K:KE R}
def g26_12 (k0:V6→Int→Int→Option R) (x0:V6) (x1:Int):Option R:=
k0 x0 x1 (0:Int)
theorem t26_12 (x0 x1):exec cl N c26_12 (e0 x0 x1) K=(g26_12 (fun y0 y1 y2=>exec cl N (.seq (.seq c26_2 c26_10) (.seq c26_11 .ret)) [(0,.v U0 y0),(1,.v U2 y1),(5,.v U2 y2)] K) x0 x1):=by
 kernel_rfl
def g26_2 (k0:V6→Int→Int→Int→Option R) (x0:V6) (x1 x2:Int):Option R:=
k0 x0 x1 x2 (0:Int)
theorem t26_2 (x0 x1 x2):exec cl N c26_2 [(0,.v U0 x0),(1,.v U2 x1),(5,.v U2 x2)] K=(g26_2 (fun y0 y1 y2 y3=>K .normal (e1 y0 y1 y2 y3)) x0 x1 x2):=by
 kernel_rfl
theorem kp26_0 (x0 x1 x2 x3):keep [0,1,5,6] (e1 x0 x1 x2 x3)=(e1 x0 x1 x2 x3):=by kernel_rfl
def g26_3 (k0:V6→Int→Int→Int→Bool→Option R) (x0:V6) (x1 x2 x3:Int):Option R:=
brB (decide (x3 < (x0.length:Int))) (k0 x0 x1 x2 x3 (decide (x2≤x1))) (k0 x0 x1 x2 x3 false)
theorem t26_3 (x0 x1 x2 x3):exec cl N c26_3 (e1 x0 x1 x2 x3) K=(g26_3 (fun y0 y1 y2 y3 y4=>K .normal (e2 y0 y1 y2 y3 y4)) x0 x1 x2 x3):=by
 kernel_rfl
theorem kp26_1 (x0 x1 x2 x3 x4):keep [0,1,5,6] (e2 x0 x1 x2 x3 x4)=(e1 x0 x1 x2 x3):=by kernel_rfl
theorem hb26_0 (x0 x1 x2 x3 x4):boolOf? (ent (e2 x0 x1 x2 x3 x4) (.t 15))=some x4:=by kernel_rfl
def g26_5 (k0:V6→Int→Int→Int→Option R) (x0:V6) (x1 x2 x3:Int):Option R:=
if 0≤x3∧x3 < (x0.length:Int) then
k0 x0 x1 (IntKind.i64.wrap ((IntKind.i64.wrap (x2+(1:Int)))+((x0.getD x3.toNat []).length:Int))) x3
else none
theorem t26_5 (x0 x1 x2 x3):exec cl N c26_5 (e1 x0 x1 x2 x3) K=(g26_5 (fun y0 y1 y2 y3=>K .normal (e1 y0 y1 y2 y3)) x0 x1 x2 x3):=by
 kernel_rfl
def g26_7 (k0:V6→Int→Int→Int→Option R) (x0:V6) (x1 x2 x3:Int):Option R:=
k0 x0 x1 x2 (IntKind.i64.wrap (x3+(1:Int)))
theorem t26_7 (x0 x1 x2 x3):exec cl N c26_7 (e1 x0 x1 x2 x3) K=(g26_7 (fun y0 y1 y2 y3=>K .normal (e1 y0 y1 y2 y3)) x0 x1 x2 x3):=by
 kernel_rfl
def g26_8 (k0:V6→Int→Int→Int→Option R) (k1:V6→Int→Int→Int→Option R) (x0:V6) (x1 x2 x3:Int):Option R:=
(g26_3 (fun y0 y1 y2 y3 y4=>brB y4 ((g26_5 ((g26_7 k0))) y0 y1 y2 y3) (k1 y0 y1 y2 y3)) x0 x1 x2 x3)
theorem t26_8 (x0 x1 x2 x3):exec cl N c26_8 (e1 x0 x1 x2 x3) K=(g26_8 (fun y0 y1 y2 y3=>K .normal (e1 y0 y1 y2 y3)) (fun y0 y1 y2 y3=>K (.exit 0) (e1 y0 y1 y2 y3)) x0 x1 x2 x3):=by
 simp only [c26_8,exec_seq,seqK_normal,seqK_exit,seqK_ret,t26_3,c26_4,exec_out,exec_cond',hb26_0,Option.bind_some,brB_true,brB_false,exec_skip,exec_exit,kp26_1,c26_6,exec_block,t26_5,blockK_normal,blockK_ret,blockK_eq,kp26_0,t26_7]
 rfl
def l26_9 {R:Type} (k0:V6→Int→Int→Int→Option R):Nat→V6→Int→Int→Int→Option R
 | 0,_,_,_,_=>none
 | m+1,x0,x1,x2,x3=>(g26_8 (l26_9 k0 m) k0 x0 x1 x2 x3)
theorem lt26_9:∀ (m) (x0 x1 x2 x3),iter [0,1,5,6] (fun env K=>exec cl N c26_8 env K) K m (e1 x0 x1 x2 x3)=l26_9 (fun y0 y1 y2 y3=>K (.exit 0) (e1 y0 y1 y2 y3)) m x0 x1 x2 x3:=by
 intro m
 induction m with
 | zero=>intros; rfl
 | succ m ih=>
   intro x0 x1 x2 x3
   simp only [iter_succ,t26_8,loopK_normal,loopK_exit,loopK_ret,kp26_0,ih]
   rfl
theorem kp26_2 (x0 x1 x2 x3):keep [5] (e1 x0 x1 x2 x3)=[(5,.v U2 x2)]:=by kernel_rfl
def g26_9 (N:Nat) (k0:Int→Option R) (x0:V6) (x1 x2 x3:Int):Option R:=
l26_9 (fun y0 y1 y2 y3=>k0 y2) N x0 x1 x2 x3
theorem t26_9 (x0 x1 x2 x3):exec cl N c26_9 (e1 x0 x1 x2 x3) K=(g26_9 N (fun y0=>K (.exit 0) [(5,.v U2 y0)]) x0 x1 x2 x3):=by
 simp only [c26_9,exec_out,exec_loop,kp26_0,lt26_9,kp26_2]
 rfl
theorem kp26_3 (x0):keep [5] [(5,.v U2 x0)]=[(5,.v U2 x0)]:=by kernel_rfl
def g26_11 (k0:Int→Option R) (x0:Int):Option R:=
k0 x0
theorem t26_11 (x0):exec cl N c26_11 [(5,.v U2 x0)] K=(g26_11 (fun y0=>K .normal [(4,.v U2 y0)]) x0):=by
 kernel_rfl
def g26_12b (N:Nat) (k0:Int→Option R) (x0:V6) (x1:Int):Option R:=
(g26_12 (g26_2 (g26_9 N ((g26_11 k0)))) x0 x1)
theorem t26_12b (x0 x1):exec cl N c26_12 (e0 x0 x1) K=(g26_12b N (fun y0=>K .ret [(4,.v U2 y0)]) x0 x1):=by
 simp only [exec_seq,seqK_normal,seqK_exit,seqK_ret,t26_12,t26_2,c26_10,exec_out,exec_block,t26_9,blockK_normal,blockK_ret,blockK_eq,kp26_3,t26_11,exec_ret]
 rfl
theorem rk26_0 (y0):retK d26 .ret [(4,.v U2 y0)]=some [.v U2 y0]:=by kernel_rfl
def g26 (N:Nat) (x0:V6) (x1:Int) (k:Int→Option R):Option R:=
(g26_12b N k x0 x1)
theorem gen26 (x0 x1) (k:List E→Option R):exec cl N c26 (e0 x0 x1) (fun e env=>(retK d26 e env).bind k)=g26 N x0 x1 (fun r0=>k [.v U2 r0]):=by
 simp only [c26,t26_12b,rk26_0,Option.bind_some]
 rfl
def ctr26 (S:V6→Int→Option (Int)):Ctr:=cv2 26 U0 U2 S fun b=> [.v U2 b]
def S26 (N:Nat) (x0:V6) (x1:Int):Option (Int):=g26 N x0 x1 (fun (r0:Int)=>some (r0))
def g8_12 (k0:V22→Int→Option R) (x0:V22):Option R:=
k0 x0 (x0.1.length:Int)
theorem t8_12 (x0):exec cl N c8_12 [(0,.v U17 x0)] K=(g8_12 (fun y0 y1=>exec cl N (.seq (.seq c8_2 c8_10) (.seq c8_11 .ret)) (e3 y0 y1) K) x0):=by
 kernel_rfl
def g8_2 (k0:V22→Int→Int→Option R) (x0:V22) (x1:Int):Option R:=
k0 x0 x1 (0:Int)
theorem t8_2 (x0 x1):exec cl N c8_2 (e3 x0 x1) K=(g8_2 (fun y0 y1 y2=>K .normal (e4 y0 y1 y2)) x0 x1):=by
 kernel_rfl
theorem kp8_0 (x0 x1 x2):keep [1,3,4] (e4 x0 x1 x2)=(e4 x0 x1 x2):=by kernel_rfl
def g8_3 (k0:V22→Int→Int→Bool→Option R) (x0:V22) (x1 x2:Int):Option R:=
brB (decide (x2 < (x0.2.1.length:Int))) (k0 x0 x1 x2 (decide (x2 < (50:Int)))) (k0 x0 x1 x2 false)
theorem t8_3 (x0 x1 x2):exec cl N c8_3 (e4 x0 x1 x2) K=(g8_3 (fun y0 y1 y2 y3=>K .normal (e5 y0 y1 y2 y3)) x0 x1 x2):=by
 kernel_rfl
theorem kp8_1 (x0 x1 x2 x3):keep [1,3,4] (e5 x0 x1 x2 x3)=(e4 x0 x1 x2):=by kernel_rfl
theorem hb8_0 (x0 x1 x2 x3):boolOf? (ent (e5 x0 x1 x2 x3) (.t 16))=some x3:=by kernel_rfl
def g8_5 (S26:V6→Int→Option (Int)) (k0:V22→Int→Int→Option R) (x0:V22) (x1 x2:Int):Option R:=
if 0≤x2∧x2 < (x0.2.1.length:Int) then
(S26 ((x0.2.1.getD x2.toNat ((0:Int),((0:Int),([],())))).2.2.1) (1500:Int)).bind fun r21=>
k0 x0 (IntKind.i64.wrap (x1+r21)) x2
else none
theorem t8_5 (S26) (h26:(ctr26 S26).holds cl) (x0 x1 x2):exec cl N c8_5 (e4 x0 x1 x2) K=(g8_5 S26 (fun y0 y1 y2=>K .normal (e4 y0 y1 y2)) x0 x1 x2):=by
 rw [←put_eq h26]
 kernel_rfl
def g8_7 (k0:V22→Int→Int→Option R) (x0:V22) (x1 x2:Int):Option R:=
k0 x0 x1 (IntKind.i64.wrap (x2+(1:Int)))
theorem t8_7 (x0 x1 x2):exec cl N c8_7 (e4 x0 x1 x2) K=(g8_7 (fun y0 y1 y2=>K .normal (e4 y0 y1 y2)) x0 x1 x2):=by
 kernel_rfl
def g8_8 (S26:V6→Int→Option (Int)) (k0:V22→Int→Int→Option R) (k1:V22→Int→Int→Option R) (x0:V22) (x1 x2:Int):Option R:=
(g8_3 (fun y0 y1 y2 y3=>brB y3 ((g8_5 S26 ((g8_7 k0))) y0 y1 y2) (k1 y0 y1 y2)) x0 x1 x2)
theorem t8_8 (S26) (h26:(ctr26 S26).holds cl) (x0 x1 x2):exec cl N c8_8 (e4 x0 x1 x2) K=(g8_8 S26 (fun y0 y1 y2=>K .normal (e4 y0 y1 y2)) (fun y0 y1 y2=>K (.exit 0) (e4 y0 y1 y2)) x0 x1 x2):=by
 simp only [c8_8,exec_seq,seqK_normal,seqK_exit,seqK_ret,t8_3,c8_4,exec_out,exec_cond',hb8_0,Option.bind_some,brB_true,brB_false,exec_skip,exec_exit,kp8_1,c8_6,exec_block,t8_5 S26 h26,blockK_normal,blockK_ret,blockK_eq,kp8_0,t8_7]
 rfl
def l8_9 {R:Type} (S26:V6→Int→Option (Int)) (k0:V22→Int→Int→Option R):Nat→V22→Int→Int→Option R
 | 0,_,_,_=>none
 | m+1,x0,x1,x2=>(g8_8 S26 (l8_9 S26 k0 m) k0 x0 x1 x2)
theorem lt8_9 (S26) (h26:(ctr26 S26).holds cl):∀ (m) (x0 x1 x2),iter [1,3,4] (fun env K=>exec cl N c8_8 env K) K m (e4 x0 x1 x2)=l8_9 S26 (fun y0 y1 y2=>K (.exit 0) (e4 y0 y1 y2)) m x0 x1 x2:=by
 intro m
 induction m with
 | zero=>intros; rfl
 | succ m ih=>
   intro x0 x1 x2
   simp only [iter_succ,t8_8 S26 h26,loopK_normal,loopK_exit,loopK_ret,kp8_0,ih]
   rfl
theorem kp8_2 (x0 x1 x2):keep [1,3] (e4 x0 x1 x2)=(e3 x0 x1):=by kernel_rfl
def g8_9 (N:Nat) (S26:V6→Int→Option (Int)) (k0:V22→Int→Option R) (x0:V22) (x1 x2:Int):Option R:=
l8_9 S26 (fun y0 y1 y2=>k0 y0 y1) N x0 x1 x2
theorem t8_9 (S26) (h26:(ctr26 S26).holds cl) (x0 x1 x2):exec cl N c8_9 (e4 x0 x1 x2) K=(g8_9 N S26 (fun y0 y1=>K (.exit 0) (e3 y0 y1)) x0 x1 x2):=by
 simp only [c8_9,exec_out,exec_loop,kp8_0,lt8_9 S26 h26,kp8_2]
 rfl
theorem kp8_3 (x0 x1):keep [1,3] (e3 x0 x1)=(e3 x0 x1):=by kernel_rfl
def g8_11 (k0:Bool→Option R) (x0:V22) (x1:Int):Option R:=
brB (decide ((x0.2.1.length:Int)≤(40:Int))) (k0 (decide (x1≤(1500:Int)))) (k0 false)
theorem t8_11 (x0 x1):exec cl N c8_11 (e3 x0 x1) K=(g8_11 (fun y0=>K .normal [(2,.v .bool y0)]) x0 x1):=by
 kernel_rfl
def g8_12b (N:Nat) (S26:V6→Int→Option (Int)) (k0:Bool→Option R) (x0:V22):Option R:=
(g8_12 (g8_2 (g8_9 N S26 ((g8_11 k0)))) x0)
theorem t8_12b (S26) (h26:(ctr26 S26).holds cl) (x0):exec cl N c8_12 [(0,.v U17 x0)] K=(g8_12b N S26 (fun y0=>K .ret [(2,.v .bool y0)]) x0):=by
 simp only [exec_seq,seqK_normal,seqK_exit,seqK_ret,t8_12,t8_2,c8_10,exec_out,exec_block,t8_9 S26 h26,blockK_normal,blockK_ret,blockK_eq,kp8_3,t8_11,exec_ret]
 rfl
theorem rk8_0 (y0):retK d8 .ret [(2,.v .bool y0)]=some [.v .bool y0]:=by kernel_rfl
def g8 (N:Nat) (S26:V6→Int→Option (Int)) (x0:V22) (k:Bool→Option R):Option R:=
(g8_12b N S26 k x0)
theorem gen8 (S26) (h26:(ctr26 S26).holds cl) (x0) (k:List E→Option R):exec cl N c8 [(0,.v U17 x0)] (fun e env=>(retK d8 e env).bind k)=g8 N S26 x0 (fun r0=>k [.v .bool r0]):=by
 simp only [c8,t8_12b S26 h26,rk8_0,Option.bind_some]
 rfl
def ctr8 (S:V22→Option (Bool)):Ctr:=cv1 8 U17 S fun b=> [.v .bool b]
def S8 (N:Nat) (x0:V22):Option (Bool):=g8 N (S26 N) x0 (fun (r0:Bool)=>some (r0))
def g72_2 (k0:Bool→Option R) (x0:Int):Option R:=
brB (decide (x0≥(97:Int))) (k0 (decide (x0≤(122:Int)))) (k0 false)
theorem t72_2 (x0):exec cl N c72_2 [(0,.v U1 x0)] K=(g72_2 (fun y0=>exec cl N .ret [(2,.v .bool y0)] K) x0):=by
 kernel_rfl
def g72_2b (k0:Bool→Option R) (x0:Int):Option R:=
(g72_2 k0 x0)
theorem t72_2b (x0):exec cl N c72_2 [(0,.v U1 x0)] K=(g72_2b (fun y0=>K .ret [(2,.v .bool y0)]) x0):=by
 simp only [exec_seq,seqK_normal,seqK_exit,seqK_ret,t72_2,exec_ret]
 rfl
theorem rk72_0 (y0):retK d72 .ret [(2,.v .bool y0)]=some [.v .bool y0]:=by kernel_rfl
def g72 (x0:Int) (k:Bool→Option R):Option R:=
(g72_2b k x0)
theorem gen72 (x0) (k:List E→Option R):exec cl N c72 [(0,.v U1 x0)] (fun e env=>(retK d72 e env).bind k)=g72 x0 (fun r0=>k [.v .bool r0]):=by
 simp only [c72,t72_2b,rk72_0,Option.bind_some]
 rfl
def ctr72 (S:Int→Option (Bool)):Ctr:=cv1 72 U1 S fun b=> [.v .bool b]
def S72 (N:Nat) (x0:Int):Option (Bool):=g72 x0 (fun (r0:Bool)=>some (r0))
def g73_2 (k0:Bool→Option R) (x0:Int):Option R:=
brB (decide (x0≥(48:Int))) (k0 (decide (x0≤(57:Int)))) (k0 false)
theorem t73_2 (x0):exec cl N c73_2 [(0,.v U1 x0)] K=(g73_2 (fun y0=>exec cl N .ret [(2,.v .bool y0)] K) x0):=by
 kernel_rfl
def g73_2b (k0:Bool→Option R) (x0:Int):Option R:=
(g73_2 k0 x0)
theorem t73_2b (x0):exec cl N c73_2 [(0,.v U1 x0)] K=(g73_2b (fun y0=>K .ret [(2,.v .bool y0)]) x0):=by
 simp only [exec_seq,seqK_normal,seqK_exit,seqK_ret,t73_2,exec_ret]
 rfl
theorem rk73_0 (y0):retK d73 .ret [(2,.v .bool y0)]=some [.v .bool y0]:=by kernel_rfl
def g73 (x0:Int) (k:Bool→Option R):Option R:=
(g73_2b k x0)
theorem gen73 (x0) (k:List E→Option R):exec cl N c73 [(0,.v U1 x0)] (fun e env=>(retK d73 e env).bind k)=g73 x0 (fun r0=>k [.v .bool r0]):=by
 simp only [c73,t73_2b,rk73_0,Option.bind_some]
 rfl
def ctr73 (S:Int→Option (Bool)):Ctr:=cv1 73 U1 S fun b=> [.v .bool b]
def S73 (N:Nat) (x0:Int):Option (Bool):=g73 x0 (fun (r0:Bool)=>some (r0))
def g54_0 (k0:V1→Option R) (x0:V1):Option R:=
k0 x0
theorem t54_0 (x0):exec cl N c54_0 [(0,.v .str x0)] K=(g54_0 (fun y0=>K .normal [(0,.v .str y0)]) x0):=by
 kernel_rfl
def g54_1 (S72:Int→Option (Bool)) (k0:V1→Bool→Option R) (x0:V1):Option R:=
brB (x0==([]:List UInt8)) (k0 x0 true) (if 0≤(0:Int)∧(0:Int) < (x0.length:Int) then
(S72 ((x0.getD (0:Int).toNat 0).toNat:Int)).bind fun r61=>
k0 x0 (!r61)
else none)
theorem t54_1 (S72) (h72:(ctr72 S72).holds cl) (x0):exec cl N c54_1 [(0,.v .str x0)] K=(g54_1 S72 (fun y0 y1=>K .normal (e6 y0 y1)) x0):=by
 rw [←put_eq h72]
 kernel_rfl
def g54_2 (k0:Int→Option R) (x0:V1) (x1:Bool):Option R:=
k0 (0:Int)
theorem t54_2 (x0 x1):exec cl N c54_2 (e6 x0 x1) K=(g54_2 (fun y0=>K .normal [(2,.v U2 y0)]) x0 x1):=by
 kernel_rfl
theorem kp54_0 (x0):keep [0,2] [(2,.v U2 x0)]=(e7 x0):=by kernel_rfl
theorem kp54_1 (x0 x1):keep [0,2] (e6 x0 x1)=(e8 x0):=by kernel_rfl
theorem hb54_0 (x0 x1):boolOf? (ent (e6 x0 x1) (.t 11))=some x1:=by kernel_rfl
def g54_4 (k0:V1→Int→Option R) (x0:V1):Option R:=
k0 x0 (1:Int)
theorem t54_4 (x0):exec cl N c54_4 (e8 x0) K=(g54_4 (fun y0 y1=>K .normal (e9 y0 y1)) x0):=by
 kernel_rfl
theorem kp54_2 (x0 x1):keep [0,3] (e9 x0 x1)=(e9 x0 x1):=by kernel_rfl
def g54_5 (k0:V1→Int→Bool→Option R) (x0:V1) (x1:Int):Option R:=
k0 x0 x1 (decide (x1 < (x0.length:Int)))
theorem t54_5 (x0 x1):exec cl N c54_5 (e9 x0 x1) K=(g54_5 (fun y0 y1 y2=>K .normal (e10 y0 y1 y2)) x0 x1):=by
 kernel_rfl
theorem kp54_3 (x0 x1 x2):keep [0,3] (e10 x0 x1 x2)=(e9 x0 x1):=by kernel_rfl
theorem hb54_1 (x0 x1 x2):boolOf? (ent (e10 x0 x1 x2) (.t 15))=some x2:=by kernel_rfl
def g54_7 (S72:Int→Option (Bool)) (S73:Int→Option (Bool)) (k0:V1→Int→Bool→Option R) (x0:V1) (x1:Int):Option R:=
if 0≤x1∧x1 < (x0.length:Int) then
(S72 ((x0.getD x1.toNat 0).toNat:Int)).bind fun r64=>
brB r64 (k0 x0 x1 true) (if 0≤x1∧x1 < (x0.length:Int) then
(S73 ((x0.getD x1.toNat 0).toNat:Int)).bind fun r66=>
k0 x0 x1 r66
else none)
else none
theorem t54_7 (S72) (S73) (h72:(ctr72 S72).holds cl) (h73:(ctr73 S73).holds cl) (x0 x1):exec cl N c54_7 (e9 x0 x1) K=(g54_7 S72 S73 (fun y0 y1 y2=>K .normal (e11 y0 y1 y2)) x0 x1):=by
 rw [←put_eq h72]
 rw [←put_eq h73]
 kernel_rfl
def g54_8 (k0:V1→Int→Option R) (x0:V1) (x1:Int) (x2:Bool):Option R:=
k0 x0 (IntKind.i64.wrap (x1+(1:Int)))
theorem t54_8 (x0 x1 x2):exec cl N c54_8 (e11 x0 x1 x2) K=(g54_8 (fun y0 y1=>K .normal (e9 y0 y1)) x0 x1 x2):=by
 kernel_rfl
theorem kp54_4 (x0 x1 x2):keep [0,3] (e11 x0 x1 x2)=(e9 x0 x1):=by kernel_rfl
theorem hb54_2 (x0 x1 x2):boolOf? (ent (e11 x0 x1 x2) (.t 25))=some x2:=by kernel_rfl
def g54_10 (S72:Int→Option (Bool)) (S73:Int→Option (Bool)) (k0:V1→Int→Bool→Option R) (x0:V1) (x1:Int):Option R:=
if 0≤x1∧x1 < (x0.length:Int) then
brB (((x0.getD x1.toNat 0).toNat:Int) != (45:Int)) (k0 x0 x1 true) (brB ((IntKind.i64.wrap (x1+(1:Int)))==(x0.length:Int)) (k0 x0 x1 true) (let v72:Int:=(IntKind.i64.wrap (x1+(1:Int)))
if 0≤v72∧v72 < (x0.length:Int) then
(S72 ((x0.getD v72.toNat 0).toNat:Int)).bind fun r74=>
brB (!r74) (let v75:Int:=(IntKind.i64.wrap (x1+(1:Int)))
if 0≤v75∧v75 < (x0.length:Int) then
(S73 ((x0.getD v75.toNat 0).toNat:Int)).bind fun r77=>
k0 x0 x1 (!r77)
else none) (k0 x0 x1 false)
else none))
else none
theorem t54_10 (S72) (S73) (h72:(ctr72 S72).holds cl) (h73:(ctr73 S73).holds cl) (x0 x1):exec cl N c54_10 (e9 x0 x1) K=(g54_10 S72 S73 (fun y0 y1 y2=>K .normal (e12 y0 y1 y2)) x0 x1):=by
 rw [←put_eq h72]
 rw [←put_eq h73]
 kernel_rfl
theorem kp54_5 (x0 x1 x2):keep [0,3] (e12 x0 x1 x2)=(e9 x0 x1):=by kernel_rfl
theorem hb54_3 (x0 x1 x2):boolOf? (ent (e12 x0 x1 x2) (.t 54))=some x2:=by kernel_rfl
def g54_12 (k0:V1→Int→Option R) (x0:V1) (x1:Int):Option R:=
k0 x0 (IntKind.i64.wrap (x1+(2:Int)))
theorem t54_12 (x0 x1):exec cl N c54_12 (e9 x0 x1) K=(g54_12 (fun y0 y1=>K .normal (e9 y0 y1)) x0 x1):=by
 kernel_rfl
def g54_14 (S72:Int→Option (Bool)) (S73:Int→Option (Bool)) (k0:V1→Int→Option R) (k1:V1→Int→Option R) (x0:V1) (x1:Int):Option R:=
(g54_5 (fun y0 y1 y2=>brB y2 ((g54_7 S72 S73 (fun y0 y1 y2=>brB y2 (g54_8 k0 y0 y1 y2) ((g54_10 S72 S73 (fun y0 y1 y2=>brB y2 (k1 y0 y1) ((g54_12 k0) y0 y1))) y0 y1))) y0 y1) (k1 y0 y1)) x0 x1)
theorem t54_14 (S72) (S73) (h72:(ctr72 S72).holds cl) (h73:(ctr73 S73).holds cl) (x0 x1):exec cl N c54_14 (e9 x0 x1) K=(g54_14 S72 S73 (fun y0 y1=>K .normal (e9 y0 y1)) (fun y0 y1=>K (.exit 0) (e9 y0 y1)) x0 x1):=by
 simp only [c54_14,exec_seq,seqK_normal,seqK_exit,seqK_ret,t54_5,c54_6,exec_out,exec_cond',hb54_1,Option.bind_some,brB_true,brB_false,exec_skip,exec_exit,kp54_3,c54_13,exec_block,t54_7 S72 S73 h72 h73,c54_9,hb54_2,t54_8,kp54_2,kp54_4,t54_10 S72 S73 h72 h73,c54_11,hb54_3,kp54_5,t54_12,blockK_normal,blockK_ret,blockK_eq,blockK_ne 1 0 rfl]
 rfl
def l54_15 {R:Type} (S72:Int→Option (Bool)) (S73:Int→Option (Bool)) (k0:V1→Int→Option R):Nat→V1→Int→Option R
 | 0,_,_=>none
 | m+1,x0,x1=>(g54_14 S72 S73 (l54_15 S72 S73 k0 m) k0 x0 x1)
theorem lt54_15 (S72) (S73) (h72:(ctr72 S72).holds cl) (h73:(ctr73 S73).holds cl):∀ (m) (x0 x1),iter [0,3] (fun env K=>exec cl N c54_14 env K) K m (e9 x0 x1)=l54_15 S72 S73 (fun y0 y1=>K (.exit 0) (e9 y0 y1)) m x0 x1:=by
 intro m
 induction m with
 | zero=>intros; rfl
 | succ m ih=>
   intro x0 x1
   simp only [iter_succ,t54_14 S72 S73 h72 h73,loopK_normal,loopK_exit,loopK_ret,kp54_2,ih]
   rfl
theorem kp54_6 (x0 x1):keep [3] (e9 x0 x1)=[(3,.v U2 x1)]:=by kernel_rfl
def g54_15 (N:Nat) (S72:Int→Option (Bool)) (S73:Int→Option (Bool)) (k0:Int→Option R) (x0:V1) (x1:Int):Option R:=
l54_15 S72 S73 (fun y0 y1=>k0 y1) N x0 x1
theorem t54_15 (S72) (S73) (h72:(ctr72 S72).holds cl) (h73:(ctr73 S73).holds cl) (x0 x1):exec cl N c54_15 (e9 x0 x1) K=(g54_15 N S72 S73 (fun y0=>K (.exit 0) [(3,.v U2 y0)]) x0 x1):=by
 simp only [c54_15,exec_out,exec_loop,kp54_2,lt54_15 S72 S73 h72 h73,kp54_6]
 rfl
theorem kp54_7 (x0):keep [3] [(3,.v U2 x0)]=[(3,.v U2 x0)]:=by kernel_rfl
def g54_17 (k0:Int→Option R) (x0:Int):Option R:=
k0 x0
theorem t54_17 (x0):exec cl N c54_17 [(3,.v U2 x0)] K=(g54_17 (fun y0=>K .normal [(2,.v U2 y0)]) x0):=by
 kernel_rfl
def g54_18 (N:Nat) (S72:Int→Option (Bool)) (S73:Int→Option (Bool)) (k0:Int→Option R) (k1:Int→Option R) (x0:V1):Option R:=
(g54_0 (g54_1 S72 (fun y0 y1=>brB y1 (g54_2 k0 y0 y1) ((g54_4 (g54_15 N S72 S73 ((g54_17 k1)))) y0))) x0)
theorem t54_18 (S72) (S73) (h72:(ctr72 S72).holds cl) (h73:(ctr73 S73).holds cl) (x0):exec cl N c54_18 [(0,.v .str x0)] K=(g54_18 N S72 S73 (fun y0=>K .ret (e7 y0)) (fun y0=>K .ret [(2,.v U2 y0)]) x0):=by
 simp only [c54_18,exec_seq,seqK_normal,seqK_exit,seqK_ret,t54_0,t54_1 S72 h72,c54_3,exec_out,exec_cond',hb54_0,Option.bind_some,brB_true,brB_false,t54_2,exec_ret,exec_skip,kp54_0,kp54_1,t54_4,c54_16,exec_block,t54_15 S72 S73 h72 h73,blockK_normal,blockK_ret,blockK_eq,kp54_7,t54_17]
 rfl
theorem rk54_0 (y0):retK d54 .ret (e7 y0)=some [.v U2 y0]:=by kernel_rfl
theorem rk54_1 (y0):retK d54 .ret [(2,.v U2 y0)]=some [.v U2 y0]:=by kernel_rfl
def g54 (N:Nat) (S72:Int→Option (Bool)) (S73:Int→Option (Bool)) (x0:V1) (k:Int→Option R):Option R:=
(g54_18 N S72 S73 k k x0)
theorem gen54 (S72) (S73) (h72:(ctr72 S72).holds cl) (h73:(ctr73 S73).holds cl) (x0) (k:List E→Option R):exec cl N c54 [(0,.v .str x0)] (fun e env=>(retK d54 e env).bind k)=g54 N S72 S73 x0 (fun r0=>k [.v U2 r0]):=by
 simp only [c54,t54_18 S72 S73 h72 h73,rk54_0,rk54_1,Option.bind_some]
 rfl
def ctr54 (S:V1→Option (Int)):Ctr:=cv1 54 .str S fun b=> [.v U2 b]
def S54 (N:Nat) (x0:V1):Option (Int):=g54 N (S72 N) (S73 N) x0 (fun (r0:Int)=>some (r0))
def g27_2 (S54:V1→Option (Int)) (k0:Bool→Option R) (x0:V1):Option R:=
brB (x0 != ([]:List UInt8)) (brB (decide ((x0.length:Int)≤(20:Int))) ((S54 x0).bind fun r83=>
k0 (r83==(x0.length:Int))) (k0 false)) (k0 false)
theorem t27_2 (S54) (h54:(ctr54 S54).holds cl) (x0):exec cl N c27_2 [(0,.v .str x0)] K=(g27_2 S54 (fun y0=>exec cl N .ret [(2,.v .bool y0)] K) x0):=by
 rw [←put_eq h54]
 kernel_rfl
def g27_2b (S54:V1→Option (Int)) (k0:Bool→Option R) (x0:V1):Option R:=
(g27_2 S54 k0 x0)
theorem t27_2b (S54) (h54:(ctr54 S54).holds cl) (x0):exec cl N c27_2 [(0,.v .str x0)] K=(g27_2b S54 (fun y0=>K .ret [(2,.v .bool y0)]) x0):=by
 simp only [exec_seq,seqK_normal,seqK_exit,seqK_ret,t27_2 S54 h54,exec_ret]
 rfl
theorem rk27_0 (y0):retK d27 .ret [(2,.v .bool y0)]=some [.v .bool y0]:=by kernel_rfl
def g27 (S54:V1→Option (Int)) (x0:V1) (k:Bool→Option R):Option R:=
(g27_2b S54 k x0)
theorem gen27 (S54) (h54:(ctr54 S54).holds cl) (x0) (k:List E→Option R):exec cl N c27 [(0,.v .str x0)] (fun e env=>(retK d27 e env).bind k)=g27 S54 x0 (fun r0=>k [.v .bool r0]):=by
 simp only [c27,t27_2b S54 h54,rk27_0,Option.bind_some]
 rfl
def ctr27 (S:V1→Option (Bool)):Ctr:=cv1 27 .str S fun b=> [.v .bool b]
def S27 (N:Nat) (x0:V1):Option (Bool):=g27 (S54 N) x0 (fun (r0:Bool)=>some (r0))
def g49_16 (k0:V1→V0→Option R) (x0:V1):Option R:=
if 0≤(x0.length:Int)∧(x0.length:Int)≤(x0.length:Int)∧(x0.length:Int)≤((140737488355328:Nat):Int) then
k0 x0 (List.replicate (x0.length:Int).toNat (0:Int))
else none
theorem t49_16 (x0):exec cl N c49_16 [(0,.v .str x0)] K=(g49_16 (fun y0 y1=>exec cl N (.seq (.seq c49_2 c49_14) (.seq c49_15 .ret)) [(0,.v .str y0),(3,.own true 5 U1 .no y1)] K) x0):=by
 kernel_rfl
def g49_2 (k0:V1→V0→Int→Option R) (x0:V1) (x1:V0):Option R:=
k0 x0 x1 (0:Int)
theorem t49_2 (x0 x1):exec cl N c49_2 [(0,.v .str x0),(3,.own true 5 U1 .no x1)] K=(g49_2 (fun y0 y1 y2=>K .normal (e13 y0 y1 y2)) x0 x1):=by
 kernel_rfl
theorem kp49_0 (x0 x1 x2):keep [0,3,4] (e13 x0 x1 x2)=(e13 x0 x1 x2):=by kernel_rfl
def g49_3 (k0:V1→V0→Int→Bool→Option R) (x0:V1) (x1:V0) (x2:Int):Option R:=
k0 x0 x1 x2 (decide (x2 < (x0.length:Int)))
theorem t49_3 (x0 x1 x2):exec cl N c49_3 (e13 x0 x1 x2) K=(g49_3 (fun y0 y1 y2 y3=>K .normal (e14 y0 y1 y2 y3)) x0 x1 x2):=by
 kernel_rfl
theorem kp49_1 (x0 x1 x2 x3):keep [0,3,4] (e14 x0 x1 x2 x3)=(e13 x0 x1 x2):=by kernel_rfl
theorem hb49_0 (x0 x1 x2 x3):boolOf? (ent (e14 x0 x1 x2 x3) (.t 11))=some x3:=by kernel_rfl
def g49_9 (k0:V1→V0→Int→Bool→Option R) (x0:V1) (x1:V0) (x2:Int):Option R:=
if 0≤x2∧x2 < (x0.length:Int) then
let v110:Int:=((x0.getD x2.toNat 0).toNat:Int)
if 0≤x2∧x2 < (x1.length:Int) then
if x2.toNat < x1.length then
if 0≤x2∧x2 < (x0.length:Int) then
brB (decide (((x0.getD x2.toNat 0).toNat:Int)≥(65:Int))) (if 0≤x2∧x2 < (x0.length:Int) then
k0 x0 (x1.set x2.toNat v110) x2 (decide (((x0.getD x2.toNat 0).toNat:Int)≤(90:Int)))
else none) (k0 x0 (x1.set x2.toNat v110) x2 false)
else none
else none
else none
else none
theorem t49_9 (x0 x1 x2):exec cl N c49_9 (e13 x0 x1 x2) K=(g49_9 (fun y0 y1 y2 y3=>exec cl N c49_8 (e15 y0 y1 y2 y3) K) x0 x1 x2):=by
 kernel_rfl
def g49_7 (k0:V1→V0→Int→Option R) (x0:V1) (x1:V0) (x2:Int) (x3:Bool):Option R:=
if 0≤x2∧x2 < (x0.length:Int) then
if 0≤x2∧x2 < (x1.length:Int) then
if x2.toNat < x1.length then
k0 x0 (x1.set x2.toNat (IntKind.u8.wrap ((IntKind.u8.wrap (((x0.getD x2.toNat 0).toNat:Int) - (65:Int)))+(97:Int)))) x2
else none
else none
else none
theorem t49_7 (x0 x1 x2 x3):exec cl N c49_7 (e15 x0 x1 x2 x3) K=(g49_7 (fun y0 y1 y2=>K .normal (e13 y0 y1 y2)) x0 x1 x2 x3):=by
 kernel_rfl
theorem kp49_2 (x0 x1 x2 x3):keep [0,3,4] (e15 x0 x1 x2 x3)=(e13 x0 x1 x2):=by kernel_rfl
theorem hb49_1 (x0 x1 x2 x3):boolOf? (ent (e15 x0 x1 x2 x3) (.t 29))=some x3:=by kernel_rfl
def g49_10 (k0:V1→V0→Int→Option R) (x0:V1) (x1:V0) (x2:Int):Option R:=
(g49_9 (fun y0 y1 y2 y3=>brB y3 (g49_7 k0 y0 y1 y2 y3) (k0 y0 y1 y2)) x0 x1 x2)
theorem t49_10 (x0 x1 x2):exec cl N c49_10 (e13 x0 x1 x2) K=(g49_10 (fun y0 y1 y2=>K .normal (e13 y0 y1 y2)) x0 x1 x2):=by
 simp only [c49_10,exec_out,exec_block,exec_seq,seqK_normal,seqK_exit,seqK_ret,t49_9,c49_8,exec_cond',hb49_1,Option.bind_some,brB_true,brB_false,t49_7,exec_skip,kp49_0,kp49_2,blockK_normal,blockK_ret,blockK_eq]
 rfl
def g49_11 (k0:V1→V0→Int→Option R) (x0:V1) (x1:V0) (x2:Int):Option R:=
k0 x0 x1 (IntKind.i64.wrap (x2+(1:Int)))
theorem t49_11 (x0 x1 x2):exec cl N c49_11 (e13 x0 x1 x2) K=(g49_11 (fun y0 y1 y2=>K .normal (e13 y0 y1 y2)) x0 x1 x2):=by
 kernel_rfl
def g49_12 (k0:V1→V0→Int→Option R) (k1:V1→V0→Int→Option R) (x0:V1) (x1:V0) (x2:Int):Option R:=
(g49_3 (fun y0 y1 y2 y3=>brB y3 ((g49_10 (g49_11 k0)) y0 y1 y2) (k1 y0 y1 y2)) x0 x1 x2)
theorem t49_12 (x0 x1 x2):exec cl N c49_12 (e13 x0 x1 x2) K=(g49_12 (fun y0 y1 y2=>K .normal (e13 y0 y1 y2)) (fun y0 y1 y2=>K (.exit 0) (e13 y0 y1 y2)) x0 x1 x2):=by
 simp only [c49_12,exec_seq,seqK_normal,seqK_exit,seqK_ret,t49_3,c49_4,exec_out,exec_cond',hb49_0,Option.bind_some,brB_true,brB_false,exec_skip,exec_exit,kp49_1,t49_10,t49_11]
 rfl
def l49_13 {R:Type} (k0:V1→V0→Int→Option R):Nat→V1→V0→Int→Option R
 | 0,_,_,_=>none
 | m+1,x0,x1,x2=>(g49_12 (l49_13 k0 m) k0 x0 x1 x2)
theorem lt49_13:∀ (m) (x0 x1 x2),iter [0,3,4] (fun env K=>exec cl N c49_12 env K) K m (e13 x0 x1 x2)=l49_13 (fun y0 y1 y2=>K (.exit 0) (e13 y0 y1 y2)) m x0 x1 x2:=by
 intro m
 induction m with
 | zero=>intros; rfl
 | succ m ih=>
   intro x0 x1 x2
   simp only [iter_succ,t49_12,loopK_normal,loopK_exit,loopK_ret,kp49_0,ih]
   rfl
theorem kp49_3 (x0 x1 x2):keep [3] (e13 x0 x1 x2)=(e16 x1):=by kernel_rfl
def g49_13 (N:Nat) (k0:V0→Option R) (x0:V1) (x1:V0) (x2:Int):Option R:=
l49_13 (fun y0 y1 y2=>k0 y1) N x0 x1 x2
theorem t49_13 (x0 x1 x2):exec cl N c49_13 (e13 x0 x1 x2) K=(g49_13 N (fun y0=>K (.exit 0) (e16 y0)) x0 x1 x2):=by
 simp only [c49_13,exec_out,exec_loop,kp49_0,lt49_13,kp49_3]
 rfl
theorem kp49_4 (x0):keep [3] (e16 x0)=(e16 x0):=by kernel_rfl
def g49_15 (k0:V1→Option R) (x0:V0):Option R:=
k0 (x0.map fun n=>UInt8.ofNat n.toNat)
theorem t49_15 (x0):exec cl N c49_15 (e16 x0) K=(g49_15 (fun y0=>K .normal [(2,.v .str y0)]) x0):=by
 kernel_rfl
def g49_16b (N:Nat) (k0:V1→Option R) (x0:V1):Option R:=
(g49_16 (g49_2 (g49_13 N ((g49_15 k0)))) x0)
theorem t49_16b (x0):exec cl N c49_16 [(0,.v .str x0)] K=(g49_16b N (fun y0=>K .ret [(2,.v .str y0)]) x0):=by
 simp only [exec_seq,seqK_normal,seqK_exit,seqK_ret,t49_16,t49_2,c49_14,exec_out,exec_block,t49_13,blockK_normal,blockK_ret,blockK_eq,kp49_4,t49_15,exec_ret]
 rfl
theorem rk49_0 (y0):retK d49 .ret [(2,.v .str y0)]=some [.v .str y0]:=by kernel_rfl
def g49 (N:Nat) (x0:V1) (k:V1→Option R):Option R:=
(g49_16b N k x0)
theorem gen49 (x0) (k:List E→Option R):exec cl N c49 [(0,.v .str x0)] (fun e env=>(retK d49 e env).bind k)=g49 N x0 (fun r0=>k [.v .str r0]):=by
 simp only [c49,t49_16b,rk49_0,Option.bind_some]
 rfl
def ctr49 (S:V1→Option V5):Ctr:=cv1 49 .str S fun b=> [.v .str b]
def S49 (N:Nat) (x0:V1):Option V5:=g49 N x0 (fun (r0:V1)=>some (r0))
def g74_0 (k0:Int→Option R) (x0:Int):Option R:=
k0 x0
theorem t74_0 (x0):exec cl N c74_0 [(0,.v U1 x0)] K=(g74_0 (fun y0=>K .normal [(0,.v U1 y0)]) x0):=by
 kernel_rfl
def g74_1 (k0:Int→Bool→Option R) (x0:Int):Option R:=
brB (decide (x0 < (32:Int))) (k0 x0 true) (k0 x0 (decide (x0 > (126:Int))))
theorem t74_1 (x0):exec cl N c74_1 [(0,.v U1 x0)] K=(g74_1 (fun y0 y1=>K .normal (e17 y0 y1)) x0):=by
 kernel_rfl
def g74_2 (k0:Bool→Option R) (x0:Int) (x1:Bool):Option R:=
k0 false
theorem t74_2 (x0 x1):exec cl N c74_2 (e17 x0 x1) K=(g74_2 (fun y0=>K .normal [(2,.v .bool y0)]) x0 x1):=by
 kernel_rfl
theorem kp74_0 (x0):keep [0,2] [(2,.v .bool x0)]=[(0,.dead),(2,.v .bool x0)]:=by kernel_rfl
theorem kp74_1 (x0 x1):keep [0,2] (e17 x0 x1)=[(0,.v U1 x0),(2,.dead)]:=by kernel_rfl
theorem hb74_0 (x0 x1):boolOf? (ent (e17 x0 x1) (.t 9))=some x1:=by kernel_rfl
def g74_4 (k0:Int→Int→Option R) (x0:Int):Option R:=
k0 x0 (0:Int)
theorem t74_4 (x0):exec cl N c74_4 [(0,.v U1 x0),(2,.dead)] K=(g74_4 (fun y0 y1=>K .normal (e18 y0 y1)) x0):=by
 kernel_rfl
theorem kp74_2 (x0 x1):keep [0,3] (e18 x0 x1)=(e18 x0 x1):=by kernel_rfl
def g74_5 (k0:Int→Int→Bool→Option R) (x0 x1:Int):Option R:=
k0 x0 x1 (decide (x1 < (15:Int)))
theorem t74_5 (x0 x1):exec cl N c74_5 (e18 x0 x1) K=(g74_5 (fun y0 y1 y2=>K .normal (e19 y0 y1 y2)) x0 x1):=by
 kernel_rfl
theorem kp74_3 (x0 x1 x2):keep [0,3] (e19 x0 x1 x2)=(e18 x0 x1):=by kernel_rfl
theorem hb74_1 (x0 x1 x2):boolOf? (ent (e19 x0 x1 x2) (.t 11))=some x2:=by kernel_rfl
def g74_7 (k0:Int→Int→Bool→Option R) (x0 x1:Int):Option R:=
if 0≤x1∧x1 < (([32,46,44,59,58,33,63,34,45,91,93,60,62,123,125]:List UInt8).length:Int) then
k0 x0 x1 (((([32,46,44,59,58,33,63,34,45,91,93,60,62,123,125]:List UInt8).getD x1.toNat 0).toNat:Int)==x0)
else none
theorem t74_7 (x0 x1):exec cl N c74_7 (e18 x0 x1) K=(g74_7 (fun y0 y1 y2=>K .normal (e20 y0 y1 y2)) x0 x1):=by
 kernel_rfl
def g74_8 (k0:Bool→Option R) (x0 x1:Int) (x2:Bool):Option R:=
k0 false
theorem t74_8 (x0 x1 x2):exec cl N c74_8 (e20 x0 x1 x2) K=(g74_8 (fun y0=>K .normal [(2,.v .bool y0)]) x0 x1 x2):=by
 kernel_rfl
theorem kp74_4 (x0):keep [0,2,3] [(2,.v .bool x0)]=(e21 x0):=by kernel_rfl
theorem kp74_5 (x0 x1 x2):keep [0,2,3] (e20 x0 x1 x2)=(e22 x0 x1):=by kernel_rfl
theorem hb74_2 (x0 x1 x2):boolOf? (ent (e20 x0 x1 x2) (.t 17))=some x2:=by kernel_rfl
theorem kp74_6 (x0):keep [0,2,3] (e21 x0)=(e21 x0):=by kernel_rfl
theorem kp74_7 (x0 x1):keep [0,2,3] (e22 x0 x1)=(e22 x0 x1):=by kernel_rfl
def g74_11 (k0:Int→Int→Option R) (x0 x1:Int):Option R:=
k0 x0 (IntKind.i64.wrap (x1+(1:Int)))
theorem t74_11 (x0 x1):exec cl N c74_11 (e22 x0 x1) K=(g74_11 (fun y0 y1=>K .normal (e18 y0 y1)) x0 x1):=by
 kernel_rfl
def g74_12 (k0:Bool→Option R) (k1:Int→Int→Option R) (k2:Int→Int→Option R) (x0 x1:Int):Option R:=
(g74_5 (fun y0 y1 y2=>brB y2 ((g74_7 (fun y0 y1 y2=>brB y2 (g74_8 k0 y0 y1 y2) (((g74_11 k1)) y0 y1))) y0 y1) (k2 y0 y1)) x0 x1)
theorem t74_12 (x0 x1):exec cl N c74_12 (e18 x0 x1) K=(g74_12 (fun y0=>K .ret (e21 y0)) (fun y0 y1=>K .normal (e18 y0 y1)) (fun y0 y1=>K (.exit 0) (e18 y0 y1)) x0 x1):=by
 simp only [c74_12,exec_seq,seqK_normal,seqK_exit,seqK_ret,t74_5,c74_6,exec_out,exec_cond',hb74_1,Option.bind_some,brB_true,brB_false,exec_skip,exec_exit,kp74_3,c74_10,exec_block,t74_7,c74_9,hb74_2,t74_8,exec_ret,kp74_4,kp74_5,blockK_normal,blockK_ret,blockK_eq,kp74_6,kp74_7,t74_11]
 rfl
def l74_13 {R:Type} (k0:Bool→Option R) (k1:Int→Int→Option R):Nat→Int→Int→Option R
 | 0,_,_=>none
 | m+1,x0,x1=>(g74_12 k0 (l74_13 k0 k1 m) k1 x0 x1)
theorem lt74_13:∀ (m) (x0 x1),iter [0,3] (fun env K=>exec cl N c74_12 env K) K m (e18 x0 x1)=l74_13 (fun y0=>K .ret (e21 y0)) (fun y0 y1=>K (.exit 0) (e18 y0 y1)) m x0 x1:=by
 intro m
 induction m with
 | zero=>intros; rfl
 | succ m ih=>
   intro x0 x1
   simp only [iter_succ,t74_12,loopK_normal,loopK_exit,loopK_ret,kp74_2,ih]
   rfl
theorem kp74_8 (x0):keep [2] (e21 x0)=[(2,.v .bool x0)]:=by kernel_rfl
theorem kp74_9 (x0 x1):keep [2] (e18 x0 x1)=[(2,.dead)]:=by kernel_rfl
def g74_13 (N:Nat) (k0:Bool→Option R) (k1:Option R) (x0 x1:Int):Option R:=
l74_13 k0 (fun y0 y1=>k1) N x0 x1
theorem t74_13 (x0 x1):exec cl N c74_13 (e18 x0 x1) K=(g74_13 N (fun y0=>K .ret [(2,.v .bool y0)]) (K (.exit 0) [(2,.dead)]) x0 x1):=by
 simp only [c74_13,exec_out,exec_loop,kp74_2,lt74_13,kp74_8,kp74_9]
 rfl
theorem kp74_10 (x0):keep [2] [(2,.v .bool x0)]=[(2,.v .bool x0)]:=by kernel_rfl
theorem kp74_11:keep [2] [(2,.dead)]=[(2,.dead)]:=by kernel_rfl
def g74_15 (k0:Bool→Option R):Option R:=
k0 true
theorem t74_15:exec cl N c74_15 [(2,.dead)] K=(g74_15 (fun y0=>K .normal [(2,.v .bool y0)])):=by
 kernel_rfl
def g74_16 (N:Nat) (k0:Bool→Option R) (k1:Bool→Option R) (x0:Int):Option R:=
(g74_0 (g74_1 (fun y0 y1=>brB y1 (g74_2 k0 y0 y1) ((g74_4 (g74_13 N k1 (g74_15 k1))) y0))) x0)
theorem t74_16 (x0):exec cl N c74_16 [(0,.v U1 x0)] K=(g74_16 N (fun y0=>K .ret [(0,.dead),(2,.v .bool y0)]) (fun y0=>K .ret [(2,.v .bool y0)]) x0):=by
 simp only [c74_16,exec_seq,seqK_normal,seqK_exit,seqK_ret,t74_0,t74_1,c74_3,exec_out,exec_cond',hb74_0,Option.bind_some,brB_true,brB_false,t74_2,exec_ret,exec_skip,kp74_0,kp74_1,t74_4,c74_14,exec_block,t74_13,blockK_normal,blockK_ret,blockK_eq,kp74_10,kp74_11,t74_15]
 rfl
theorem rk74_0 (y0):retK d74 .ret [(0,.dead),(2,.v .bool y0)]=some [.v .bool y0]:=by kernel_rfl
theorem rk74_1 (y0):retK d74 .ret [(2,.v .bool y0)]=some [.v .bool y0]:=by kernel_rfl
def g74 (N:Nat) (x0:Int) (k:Bool→Option R):Option R:=
(g74_16 N k k x0)
theorem gen74 (x0) (k:List E→Option R):exec cl N c74 [(0,.v U1 x0)] (fun e env=>(retK d74 e env).bind k)=g74 N x0 (fun r0=>k [.v .bool r0]):=by
 simp only [c74,t74_16,rk74_0,rk74_1,Option.bind_some]
 rfl
def ctr74 (S:Int→Option (Bool)):Ctr:=cv1 74 U1 S fun b=> [.v .bool b]
def S74 (N:Nat) (x0:Int):Option (Bool):=g74 N x0 (fun (r0:Bool)=>some (r0))
def g55_0 (k0:V1→Option R) (x0:V1):Option R:=
k0 x0
theorem t55_0 (x0):exec cl N c55_0 [(0,.v .str x0)] K=(g55_0 (fun y0=>K .normal [(0,.v .str y0)]) x0):=by
 kernel_rfl
def g55_1 (k0:V1→Bool→Option R) (x0:V1):Option R:=
k0 x0 (decide ((x0.length:Int) > (16:Int)))
theorem t55_1 (x0):exec cl N c55_1 [(0,.v .str x0)] K=(g55_1 (fun y0 y1=>K .normal (e23 y0 y1)) x0):=by
 kernel_rfl
def g55_2 (k0:Int→Option R) (x0:V1) (x1:Bool):Option R:=
k0 (3:Int)
theorem t55_2 (x0 x1):exec cl N c55_2 (e23 x0 x1) K=(g55_2 (fun y0=>K .normal [(2,.v U2 y0)]) x0 x1):=by
 kernel_rfl
theorem kp55_0 (x0):keep [0,2] [(2,.v U2 x0)]=(e7 x0):=by kernel_rfl
theorem kp55_1 (x0 x1):keep [0,2] (e23 x0 x1)=(e8 x0):=by kernel_rfl
theorem hb55_0 (x0 x1):boolOf? (ent (e23 x0 x1) (.t 6))=some x1:=by kernel_rfl
def g55_4 (S49:V1→Option V5) (k0:V1→Bool→Option R) (x0:V1):Option R:=
brB (x0==([]:List UInt8)) (k0 x0 true) ((S49 x0).bind fun r137=>
k0 x0 (r137 != x0))
theorem t55_4 (S49) (h49:(ctr49 S49).holds cl) (x0):exec cl N c55_4 (e8 x0) K=(g55_4 S49 (fun y0 y1=>K .normal (e24 y0 y1)) x0):=by
 rw [←put_eq h49]
 kernel_rfl
def g55_5 (k0:Int→Option R) (x0:V1) (x1:Bool):Option R:=
k0 (2:Int)
theorem t55_5 (x0 x1):exec cl N c55_5 (e24 x0 x1) K=(g55_5 (fun y0=>K .normal [(2,.v U2 y0)]) x0 x1):=by
 kernel_rfl
theorem kp55_2 (x0 x1):keep [0,2] (e24 x0 x1)=(e8 x0):=by kernel_rfl
theorem hb55_1 (x0 x1):boolOf? (ent (e24 x0 x1) (.t 14))=some x1:=by kernel_rfl
def g55_7 (k0:V1→Int→Option R) (x0:V1):Option R:=
k0 x0 (0:Int)
theorem t55_7 (x0):exec cl N c55_7 (e8 x0) K=(g55_7 (fun y0 y1=>K .normal (e9 y0 y1)) x0):=by
 kernel_rfl
theorem kp55_3 (x0 x1):keep [0,3] (e9 x0 x1)=(e9 x0 x1):=by kernel_rfl
def g55_8 (k0:V1→Int→Bool→Option R) (x0:V1) (x1:Int):Option R:=
k0 x0 x1 (decide (x1 < (x0.length:Int)))
theorem t55_8 (x0 x1):exec cl N c55_8 (e9 x0 x1) K=(g55_8 (fun y0 y1 y2=>K .normal (e25 y0 y1 y2)) x0 x1):=by
 kernel_rfl
theorem kp55_4 (x0 x1 x2):keep [0,3] (e25 x0 x1 x2)=(e9 x0 x1):=by kernel_rfl
theorem hb55_2 (x0 x1 x2):boolOf? (ent (e25 x0 x1 x2) (.t 18))=some x2:=by kernel_rfl
def g55_10 (S74:Int→Option (Bool)) (k0:V1→Int→Bool→Option R) (x0:V1) (x1:Int):Option R:=
if 0≤x1∧x1 < (x0.length:Int) then
(S74 ((x0.getD x1.toNat 0).toNat:Int)).bind fun r140=>
k0 x0 x1 (!r140)
else none
theorem t55_10 (S74) (h74:(ctr74 S74).holds cl) (x0 x1):exec cl N c55_10 (e9 x0 x1) K=(g55_10 S74 (fun y0 y1 y2=>K .normal (e11 y0 y1 y2)) x0 x1):=by
 rw [←put_eq h74]
 kernel_rfl
def g55_11 (k0:Int→Option R) (x0:V1) (x1:Int) (x2:Bool):Option R:=
k0 (2:Int)
theorem t55_11 (x0 x1 x2):exec cl N c55_11 (e11 x0 x1 x2) K=(g55_11 (fun y0=>K .normal [(2,.v U2 y0)]) x0 x1 x2):=by
 kernel_rfl
theorem kp55_5 (x0):keep [0,2,3] [(2,.v U2 x0)]=(e26 x0):=by kernel_rfl
theorem kp55_6 (x0 x1 x2):keep [0,2,3] (e11 x0 x1 x2)=(e27 x0 x1):=by kernel_rfl
theorem hb55_3 (x0 x1 x2):boolOf? (ent (e11 x0 x1 x2) (.t 25))=some x2:=by kernel_rfl
theorem kp55_7 (x0):keep [0,2,3] (e26 x0)=(e26 x0):=by kernel_rfl
theorem kp55_8 (x0 x1):keep [0,2,3] (e27 x0 x1)=(e27 x0 x1):=by kernel_rfl
def g55_14 (k0:V1→Int→Option R) (x0:V1) (x1:Int):Option R:=
k0 x0 (IntKind.i64.wrap (x1+(1:Int)))
theorem t55_14 (x0 x1):exec cl N c55_14 (e27 x0 x1) K=(g55_14 (fun y0 y1=>K .normal (e9 y0 y1)) x0 x1):=by
 kernel_rfl
def g55_15 (S74:Int→Option (Bool)) (k0:Int→Option R) (k1:V1→Int→Option R) (k2:V1→Int→Option R) (x0:V1) (x1:Int):Option R:=
(g55_8 (fun y0 y1 y2=>brB y2 ((g55_10 S74 (fun y0 y1 y2=>brB y2 (g55_11 k0 y0 y1 y2) (((g55_14 k1)) y0 y1))) y0 y1) (k2 y0 y1)) x0 x1)
theorem t55_15 (S74) (h74:(ctr74 S74).holds cl) (x0 x1):exec cl N c55_15 (e9 x0 x1) K=(g55_15 S74 (fun y0=>K .ret (e26 y0)) (fun y0 y1=>K .normal (e9 y0 y1)) (fun y0 y1=>K (.exit 0) (e9 y0 y1)) x0 x1):=by
 simp only [c55_15,exec_seq,seqK_normal,seqK_exit,seqK_ret,t55_8,c55_9,exec_out,exec_cond',hb55_2,Option.bind_some,brB_true,brB_false,exec_skip,exec_exit,kp55_4,c55_13,exec_block,t55_10 S74 h74,c55_12,hb55_3,t55_11,exec_ret,kp55_5,kp55_6,blockK_normal,blockK_ret,blockK_eq,kp55_7,kp55_8,t55_14]
 rfl
def l55_16 {R:Type} (S74:Int→Option (Bool)) (k0:Int→Option R) (k1:V1→Int→Option R):Nat→V1→Int→Option R
 | 0,_,_=>none
 | m+1,x0,x1=>(g55_15 S74 k0 (l55_16 S74 k0 k1 m) k1 x0 x1)
theorem lt55_16 (S74) (h74:(ctr74 S74).holds cl):∀ (m) (x0 x1),iter [0,3] (fun env K=>exec cl N c55_15 env K) K m (e9 x0 x1)=l55_16 S74 (fun y0=>K .ret (e26 y0)) (fun y0 y1=>K (.exit 0) (e9 y0 y1)) m x0 x1:=by
 intro m
 induction m with
 | zero=>intros; rfl
 | succ m ih=>
   intro x0 x1
   simp only [iter_succ,t55_15 S74 h74,loopK_normal,loopK_exit,loopK_ret,kp55_3,ih]
   rfl
theorem kp55_9 (x0):keep [2] (e26 x0)=[(2,.v U2 x0)]:=by kernel_rfl
theorem kp55_10 (x0 x1):keep [2] (e9 x0 x1)=[(2,.dead)]:=by kernel_rfl
def g55_16 (N:Nat) (S74:Int→Option (Bool)) (k0:Int→Option R) (k1:Option R) (x0:V1) (x1:Int):Option R:=
l55_16 S74 k0 (fun y0 y1=>k1) N x0 x1
theorem t55_16 (S74) (h74:(ctr74 S74).holds cl) (x0 x1):exec cl N c55_16 (e9 x0 x1) K=(g55_16 N S74 (fun y0=>K .ret [(2,.v U2 y0)]) (K (.exit 0) [(2,.dead)]) x0 x1):=by
 simp only [c55_16,exec_out,exec_loop,kp55_3,lt55_16 S74 h74,kp55_10,kp55_9]
 rfl
theorem kp55_11 (x0):keep [2] [(2,.v U2 x0)]=[(2,.v U2 x0)]:=by kernel_rfl
theorem kp55_12:keep [2] [(2,.dead)]=[(2,.dead)]:=by kernel_rfl
def g55_18 (k0:Int→Option R):Option R:=
k0 (0:Int)
theorem t55_18:exec cl N c55_18 [(2,.dead)] K=(g55_18 (fun y0=>K .normal [(2,.v U2 y0)])):=by
 kernel_rfl
def g55_19 (N:Nat) (S49:V1→Option V5) (S74:Int→Option (Bool)) (k0:Int→Option R) (k1:Int→Option R) (x0:V1):Option R:=
(g55_0 (g55_1 (fun y0 y1=>brB y1 (g55_2 k0 y0 y1) ((g55_4 S49 (fun y0 y1=>brB y1 (g55_5 k0 y0 y1) ((g55_7 (g55_16 N S74 k1 (g55_18 k1))) y0))) y0))) x0)
theorem t55_19 (S49) (S74) (h49:(ctr49 S49).holds cl) (h74:(ctr74 S74).holds cl) (x0):exec cl N c55_19 [(0,.v .str x0)] K=(g55_19 N S49 S74 (fun y0=>K .ret (e7 y0)) (fun y0=>K .ret [(2,.v U2 y0)]) x0):=by
 simp only [c55_19,exec_seq,seqK_normal,seqK_exit,seqK_ret,t55_0,t55_1,c55_3,exec_out,exec_cond',hb55_0,Option.bind_some,brB_true,brB_false,t55_2,exec_ret,exec_skip,kp55_0,kp55_1,t55_4 S49 h49,c55_6,hb55_1,t55_5,kp55_2,t55_7,c55_17,exec_block,t55_16 S74 h74,blockK_normal,blockK_ret,blockK_eq,kp55_11,kp55_12,t55_18]
 rfl
theorem rk55_0 (y0):retK d55 .ret (e7 y0)=some [.v U2 y0]:=by kernel_rfl
theorem rk55_1 (y0):retK d55 .ret [(2,.v U2 y0)]=some [.v U2 y0]:=by kernel_rfl
def g55 (N:Nat) (S49:V1→Option V5) (S74:Int→Option (Bool)) (x0:V1) (k:Int→Option R):Option R:=
(g55_19 N S49 S74 k k x0)
theorem gen55 (S49) (S74) (h49:(ctr49 S49).holds cl) (h74:(ctr74 S74).holds cl) (x0) (k:List E→Option R):exec cl N c55 [(0,.v .str x0)] (fun e env=>(retK d55 e env).bind k)=g55 N S49 S74 x0 (fun r0=>k [.v U2 r0]):=by
 simp only [c55,t55_19 S49 S74 h49 h74,rk55_0,rk55_1,Option.bind_some]
 rfl
def ctr55 (S:V1→Option (Int)):Ctr:=cv1 55 .str S fun b=> [.v U2 b]
def S55 (N:Nat) (x0:V1):Option (Int):=g55 N (S49 N) (S74 N) x0 (fun (r0:Int)=>some (r0))
def g50_0 (k0:V6→V1→Option R) (x0:V6) (x1:V1):Option R:=
k0 x0 x1
theorem t50_0 (x0 x1):exec cl N c50_0 (e28 x0 x1) K=(g50_0 (fun y0 y1=>K .normal (e28 y0 y1)) x0 x1):=by
 kernel_rfl
def g50_1 (k0:V6→V1→Int→Option R) (x0:V6) (x1:V1):Option R:=
k0 x0 x1 (0:Int)
theorem t50_1 (x0 x1):exec cl N c50_1 (e28 x0 x1) K=(g50_1 (fun y0 y1 y2=>K .normal (e29 y0 y1 y2)) x0 x1):=by
 kernel_rfl
theorem kp50_0 (x0 x1 x2):keep [0,1,5] (e29 x0 x1 x2)=(e29 x0 x1 x2):=by kernel_rfl
def g50_2 (k0:V6→V1→Int→Bool→Option R) (x0:V6) (x1:V1) (x2:Int):Option R:=
k0 x0 x1 x2 (decide (x2 < (x0.length:Int)))
theorem t50_2 (x0 x1 x2):exec cl N c50_2 (e29 x0 x1 x2) K=(g50_2 (fun y0 y1 y2 y3=>K .normal (e30 y0 y1 y2 y3)) x0 x1 x2):=by
 kernel_rfl
theorem kp50_1 (x0 x1 x2 x3):keep [0,1,5] (e30 x0 x1 x2 x3)=(e29 x0 x1 x2):=by kernel_rfl
theorem hb50_0 (x0 x1 x2 x3):boolOf? (ent (e30 x0 x1 x2 x3) (.t 9))=some x3:=by kernel_rfl
def g50_4 (k0:V6→V1→Int→Bool→Option R) (x0:V6) (x1:V1) (x2:Int):Option R:=
if 0≤x2∧x2 < (x0.length:Int) then
k0 x0 x1 x2 ((x0.getD x2.toNat [])==x1)
else none
theorem t50_4 (x0 x1 x2):exec cl N c50_4 (e29 x0 x1 x2) K=(g50_4 (fun y0 y1 y2 y3=>K .normal (e31 y0 y1 y2 y3)) x0 x1 x2):=by
 kernel_rfl
def g50_5 (k0:Bool→Option R) (x0:V6) (x1:V1) (x2:Int) (x3:Bool):Option R:=
k0 true
theorem t50_5 (x0 x1 x2 x3):exec cl N c50_5 (e31 x0 x1 x2 x3) K=(g50_5 (fun y0=>K .normal [(4,.v .bool y0)]) x0 x1 x2 x3):=by
 kernel_rfl
theorem kp50_2 (x0):keep [0,1,4,5] [(4,.v .bool x0)]=(e32 x0):=by kernel_rfl
theorem kp50_3 (x0 x1 x2 x3):keep [0,1,4,5] (e31 x0 x1 x2 x3)=(e33 x0 x1 x2):=by kernel_rfl
theorem hb50_1 (x0 x1 x2 x3):boolOf? (ent (e31 x0 x1 x2 x3) (.t 17))=some x3:=by kernel_rfl
theorem kp50_4 (x0):keep [0,1,4,5] (e32 x0)=(e32 x0):=by kernel_rfl
theorem kp50_5 (x0 x1 x2):keep [0,1,4,5] (e33 x0 x1 x2)=(e33 x0 x1 x2):=by kernel_rfl
def g50_8 (k0:V6→V1→Int→Option R) (x0:V6) (x1:V1) (x2:Int):Option R:=
k0 x0 x1 (IntKind.i64.wrap (x2+(1:Int)))
theorem t50_8 (x0 x1 x2):exec cl N c50_8 (e33 x0 x1 x2) K=(g50_8 (fun y0 y1 y2=>K .normal (e29 y0 y1 y2)) x0 x1 x2):=by
 kernel_rfl
def g50_9 (k0:Bool→Option R) (k1:V6→V1→Int→Option R) (k2:V6→V1→Int→Option R) (x0:V6) (x1:V1) (x2:Int):Option R:=
(g50_2 (fun y0 y1 y2 y3=>brB y3 ((g50_4 (fun y0 y1 y2 y3=>brB y3 (g50_5 k0 y0 y1 y2 y3) (((g50_8 k1)) y0 y1 y2))) y0 y1 y2) (k2 y0 y1 y2)) x0 x1 x2)
theorem t50_9 (x0 x1 x2):exec cl N c50_9 (e29 x0 x1 x2) K=(g50_9 (fun y0=>K .ret (e32 y0)) (fun y0 y1 y2=>K .normal (e29 y0 y1 y2)) (fun y0 y1 y2=>K (.exit 0) (e29 y0 y1 y2)) x0 x1 x2):=by
 simp only [c50_9,exec_seq,seqK_normal,seqK_exit,seqK_ret,t50_2,c50_3,exec_out,exec_cond',hb50_0,Option.bind_some,brB_true,brB_false,exec_skip,exec_exit,kp50_1,c50_7,exec_block,t50_4,c50_6,hb50_1,t50_5,exec_ret,kp50_2,kp50_3,blockK_normal,blockK_ret,blockK_eq,kp50_4,kp50_5,t50_8]
 rfl
def l50_10 {R:Type} (k0:Bool→Option R) (k1:V6→V1→Int→Option R):Nat→V6→V1→Int→Option R
 | 0,_,_,_=>none
 | m+1,x0,x1,x2=>(g50_9 k0 (l50_10 k0 k1 m) k1 x0 x1 x2)
theorem lt50_10:∀ (m) (x0 x1 x2),iter [0,1,5] (fun env K=>exec cl N c50_9 env K) K m (e29 x0 x1 x2)=l50_10 (fun y0=>K .ret (e32 y0)) (fun y0 y1 y2=>K (.exit 0) (e29 y0 y1 y2)) m x0 x1 x2:=by
 intro m
 induction m with
 | zero=>intros; rfl
 | succ m ih=>
   intro x0 x1 x2
   simp only [iter_succ,t50_9,loopK_normal,loopK_exit,loopK_ret,kp50_0,ih]
   rfl
theorem kp50_6 (x0):keep [4] (e32 x0)=[(4,.v .bool x0)]:=by kernel_rfl
theorem kp50_7 (x0 x1 x2):keep [4] (e29 x0 x1 x2)=[(4,.dead)]:=by kernel_rfl
def g50_10 (N:Nat) (k0:Bool→Option R) (k1:Option R) (x0:V6) (x1:V1) (x2:Int):Option R:=
l50_10 k0 (fun y0 y1 y2=>k1) N x0 x1 x2
theorem t50_10 (x0 x1 x2):exec cl N c50_10 (e29 x0 x1 x2) K=(g50_10 N (fun y0=>K .ret [(4,.v .bool y0)]) (K (.exit 0) [(4,.dead)]) x0 x1 x2):=by
 simp only [c50_10,exec_out,exec_loop,kp50_0,lt50_10,kp50_6,kp50_7]
 rfl
theorem kp50_8 (x0):keep [4] [(4,.v .bool x0)]=[(4,.v .bool x0)]:=by kernel_rfl
theorem kp50_9:keep [4] [(4,.dead)]=[(4,.dead)]:=by kernel_rfl
def g50_12 (k0:Bool→Option R):Option R:=
k0 false
theorem t50_12:exec cl N c50_12 [(4,.dead)] K=(g50_12 (fun y0=>K .normal [(4,.v .bool y0)])):=by
 kernel_rfl
def g50_13 (N:Nat) (k0:Bool→Option R) (x0:V6) (x1:V1):Option R:=
(g50_0 (g50_1 (g50_10 N k0 (g50_12 k0))) x0 x1)
theorem t50_13 (x0 x1):exec cl N c50_13 (e28 x0 x1) K=(g50_13 N (fun y0=>K .ret [(4,.v .bool y0)]) x0 x1):=by
 simp only [c50_13,exec_seq,seqK_normal,seqK_exit,seqK_ret,t50_0,t50_1,c50_11,exec_out,exec_block,t50_10,blockK_normal,blockK_ret,blockK_eq,kp50_8,kp50_9,t50_12,exec_ret]
 rfl
theorem rk50_0 (y0):retK d50 .ret [(4,.v .bool y0)]=some [.v .bool y0]:=by kernel_rfl
def g50 (N:Nat) (x0:V6) (x1:V1) (k:Bool→Option R):Option R:=
(g50_13 N k x0 x1)
theorem gen50 (x0 x1) (k:List E→Option R):exec cl N c50 (e28 x0 x1) (fun e env=>(retK d50 e env).bind k)=g50 N x0 x1 (fun r0=>k [.v .bool r0]):=by
 simp only [c50,t50_13,rk50_0,Option.bind_some]
 rfl
def ctr50 (S:V6→V1→Option (Bool)):Ctr:=cv2 50 U0 .str S fun b=> [.v .bool b]
def S50 (N:Nat) (x0:V6) (x1:V1):Option (Bool):=g50 N x0 x1 (fun (r0:Bool)=>some (r0))
def g28_0 (k0:V15→Option R) (x0:V15):Option R:=
k0 x0
theorem t28_0 (x0):exec cl N c28_0 [(0,.v U13 x0)] K=(g28_0 (fun y0=>K .normal [(1,.loc U13 .no y0)]) x0):=by
 kernel_rfl
def g28_1 (k0:V15→Bool→Option R) (x0:V15):Option R:=
brB (decide (x0.1 < (1:Int))) (k0 x0 true) (brB (decide (x0.1 > (12:Int))) (k0 x0 true) (brB (decide (x0.2.1 < (0:Int))) (k0 x0 true) (k0 x0 (decide (x0.2.1 > (999:Int))))))
theorem t28_1 (x0):exec cl N c28_1 [(1,.loc U13 .no x0)] K=(g28_1 (fun y0 y1=>K .normal (e34 y0 y1)) x0):=by
 kernel_rfl
def g28_2 (k0:Int→Option R) (x0:V15) (x1:Bool):Option R:=
k0 (6:Int)
theorem t28_2 (x0 x1):exec cl N c28_2 (e34 x0 x1) K=(g28_2 (fun y0=>K .normal [(2,.v U2 y0)]) x0 x1):=by
 kernel_rfl
theorem kp28_0 (x0):keep [1,2] [(2,.v U2 x0)]=(e35 x0):=by kernel_rfl
theorem kp28_1 (x0 x1):keep [1,2] (e34 x0 x1)=(e36 x0):=by kernel_rfl
theorem hb28_0 (x0 x1):boolOf? (ent (e34 x0 x1) (.t 22))=some x1:=by kernel_rfl
def g28_4 (k0:V15→Bool→Option R) (x0:V15):Option R:=
k0 x0 (decide ((x0.2.2.1.length:Int) > (20:Int)))
theorem t28_4 (x0):exec cl N c28_4 (e36 x0) K=(g28_4 (fun y0 y1=>K .normal (e37 y0 y1)) x0):=by
 kernel_rfl
def g28_5 (k0:Int→Option R) (x0:V15) (x1:Bool):Option R:=
k0 (3:Int)
theorem t28_5 (x0 x1):exec cl N c28_5 (e37 x0 x1) K=(g28_5 (fun y0=>K .normal [(2,.v U2 y0)]) x0 x1):=by
 kernel_rfl
theorem kp28_2 (x0 x1):keep [1,2] (e37 x0 x1)=(e36 x0):=by kernel_rfl
theorem hb28_1 (x0 x1):boolOf? (ent (e37 x0 x1) (.t 26))=some x1:=by kernel_rfl
def g28_7 (k0:V15→Int→Option R) (x0:V15):Option R:=
k0 x0 (0:Int)
theorem t28_7 (x0):exec cl N c28_7 (e36 x0) K=(g28_7 (fun y0 y1=>K .normal (e38 y0 y1)) x0):=by
 kernel_rfl
theorem kp28_3 (x0 x1):keep [1,3] (e38 x0 x1)=(e38 x0 x1):=by kernel_rfl
def g28_8 (k0:V15→Int→Bool→Option R) (x0:V15) (x1:Int):Option R:=
k0 x0 x1 (decide (x1 < (x0.2.2.1.length:Int)))
theorem t28_8 (x0 x1):exec cl N c28_8 (e38 x0 x1) K=(g28_8 (fun y0 y1 y2=>K .normal (e39 y0 y1 y2)) x0 x1):=by
 kernel_rfl
theorem kp28_4 (x0 x1 x2):keep [1,3] (e39 x0 x1 x2)=(e38 x0 x1):=by kernel_rfl
theorem hb28_2 (x0 x1 x2):boolOf? (ent (e39 x0 x1 x2) (.t 31))=some x2:=by kernel_rfl
def g28_14 (S55:V1→Option (Int)) (k0:V15→Int→Int→Bool→Option R) (x0:V15) (x1:Int):Option R:=
if 0≤x1∧x1 < (x0.2.2.1.length:Int) then
(S55 (x0.2.2.1.getD x1.toNat [])).bind fun r161=>
k0 x0 x1 r161 (r161 != (0:Int))
else none
theorem t28_14 (S55) (h55:(ctr55 S55).holds cl) (x0 x1):exec cl N c28_14 (e38 x0 x1) K=(g28_14 S55 (fun y0 y1 y2 y3=>exec cl N c28_13 (e40 y0 y1 y2 y3) K) x0 x1):=by
 rw [←put_eq h55]
 kernel_rfl
def g28_12 (k0:Int→Option R) (x0:V15) (x1 x2:Int) (x3:Bool):Option R:=
k0 x2
theorem t28_12 (x0 x1 x2 x3):exec cl N c28_12 (e40 x0 x1 x2 x3) K=(g28_12 (fun y0=>K .normal [(2,.v U2 y0)]) x0 x1 x2 x3):=by
 kernel_rfl
theorem kp28_5 (x0):keep [1,2,3] [(2,.v U2 x0)]=(e41 x0):=by kernel_rfl
theorem kp28_6 (x0 x1 x2 x3):keep [1,2,3] (e40 x0 x1 x2 x3)=(e42 x0 x1):=by kernel_rfl
theorem hb28_3 (x0 x1 x2 x3):boolOf? (ent (e40 x0 x1 x2 x3) (.t 41))=some x3:=by kernel_rfl
def g28_15 (S50:V6→V1→Option (Bool)) (k0:V15→Int→Bool→Option R) (x0:V15) (x1:Int):Option R:=
if 0≤(0:Int)∧(0:Int)≤x1∧x1≤(x0.2.2.1.length:Int)∧(x0.2.2.1.length:Int)≤(x0.2.2.1.length:Int) then
if 0≤x1∧x1 < (x0.2.2.1.length:Int) then
(S50 ((x0.2.2.1.drop (0:Int).toNat).take (x1.toNat - (0:Int).toNat)) (x0.2.2.1.getD x1.toNat [])).bind fun r164=>
k0 x0 x1 r164
else none
else none
theorem t28_15 (S50) (h50:(ctr50 S50).holds cl) (x0 x1):exec cl N c28_15 (e42 x0 x1) K=(g28_15 S50 (fun y0 y1 y2=>K .normal (e43 y0 y1 y2)) x0 x1):=by
 rw [←put_eq h50]
 kernel_rfl
def g28_16 (k0:Int→Option R) (x0:V15) (x1:Int) (x2:Bool):Option R:=
k0 (5:Int)
theorem t28_16 (x0 x1 x2):exec cl N c28_16 (e43 x0 x1 x2) K=(g28_16 (fun y0=>K .normal [(2,.v U2 y0)]) x0 x1 x2):=by
 kernel_rfl
theorem kp28_7 (x0 x1 x2):keep [1,2,3] (e43 x0 x1 x2)=(e42 x0 x1):=by kernel_rfl
theorem hb28_4 (x0 x1 x2):boolOf? (ent (e43 x0 x1 x2) (.t 52))=some x2:=by kernel_rfl
theorem kp28_8 (x0):keep [1,2,3] (e41 x0)=(e41 x0):=by kernel_rfl
theorem kp28_9 (x0 x1):keep [1,2,3] (e42 x0 x1)=(e42 x0 x1):=by kernel_rfl
def g28_19 (k0:V15→Int→Option R) (x0:V15) (x1:Int):Option R:=
k0 x0 (IntKind.i64.wrap (x1+(1:Int)))
theorem t28_19 (x0 x1):exec cl N c28_19 (e42 x0 x1) K=(g28_19 (fun y0 y1=>K .normal (e38 y0 y1)) x0 x1):=by
 kernel_rfl
def g28_20 (S50:V6→V1→Option (Bool)) (S55:V1→Option (Int)) (k0:Int→Option R) (k1:V15→Int→Option R) (k2:V15→Int→Option R) (x0:V15) (x1:Int):Option R:=
(g28_8 (fun y0 y1 y2=>brB y2 ((g28_14 S55 (fun y0 y1 y2 y3=>brB y3 (g28_12 k0 y0 y1 y2 y3) ((g28_15 S50 (fun y0 y1 y2=>brB y2 (g28_16 k0 y0 y1 y2) (((g28_19 k1)) y0 y1))) y0 y1))) y0 y1) (k2 y0 y1)) x0 x1)
theorem t28_20 (S50) (S55) (h50:(ctr50 S50).holds cl) (h55:(ctr55 S55).holds cl) (x0 x1):exec cl N c28_20 (e38 x0 x1) K=(g28_20 S50 S55 (fun y0=>K .ret (e41 y0)) (fun y0 y1=>K .normal (e38 y0 y1)) (fun y0 y1=>K (.exit 0) (e38 y0 y1)) x0 x1):=by
 simp only [c28_20,exec_seq,seqK_normal,seqK_exit,seqK_ret,t28_8,c28_9,exec_out,exec_cond',hb28_2,Option.bind_some,brB_true,brB_false,exec_skip,exec_exit,kp28_4,c28_18,exec_block,t28_14 S55 h55,c28_13,hb28_3,t28_12,exec_ret,kp28_5,kp28_6,t28_15 S50 h50,c28_17,hb28_4,t28_16,kp28_7,blockK_normal,blockK_ret,blockK_eq,kp28_8,kp28_9,t28_19]
 rfl
def l28_21 {R:Type} (S50:V6→V1→Option (Bool)) (S55:V1→Option (Int)) (k0:Int→Option R) (k1:V15→Int→Option R):Nat→V15→Int→Option R
 | 0,_,_=>none
 | m+1,x0,x1=>(g28_20 S50 S55 k0 (l28_21 S50 S55 k0 k1 m) k1 x0 x1)
theorem lt28_21 (S50) (S55) (h50:(ctr50 S50).holds cl) (h55:(ctr55 S55).holds cl):∀ (m) (x0 x1),iter [1,3] (fun env K=>exec cl N c28_20 env K) K m (e38 x0 x1)=l28_21 S50 S55 (fun y0=>K .ret (e41 y0)) (fun y0 y1=>K (.exit 0) (e38 y0 y1)) m x0 x1:=by
 intro m
 induction m with
 | zero=>intros; rfl
 | succ m ih=>
   intro x0 x1
   simp only [iter_succ,t28_20 S50 S55 h50 h55,loopK_normal,loopK_exit,loopK_ret,kp28_3,ih]
   rfl
theorem kp28_10 (x0):keep [2] (e41 x0)=[(2,.v U2 x0)]:=by kernel_rfl
theorem kp28_11 (x0 x1):keep [2] (e38 x0 x1)=[(2,.dead)]:=by kernel_rfl
def g28_21 (N:Nat) (S50:V6→V1→Option (Bool)) (S55:V1→Option (Int)) (k0:Int→Option R) (k1:Option R) (x0:V15) (x1:Int):Option R:=
l28_21 S50 S55 k0 (fun y0 y1=>k1) N x0 x1
theorem t28_21 (S50) (S55) (h50:(ctr50 S50).holds cl) (h55:(ctr55 S55).holds cl) (x0 x1):exec cl N c28_21 (e38 x0 x1) K=(g28_21 N S50 S55 (fun y0=>K .ret [(2,.v U2 y0)]) (K (.exit 0) [(2,.dead)]) x0 x1):=by
 simp only [c28_21,exec_out,exec_loop,kp28_3,lt28_21 S50 S55 h50 h55,kp28_10,kp28_11]
 rfl
theorem kp28_12 (x0):keep [2] [(2,.v U2 x0)]=[(2,.v U2 x0)]:=by kernel_rfl
theorem kp28_13:keep [2] [(2,.dead)]=[(2,.dead)]:=by kernel_rfl
def g28_23 (k0:Int→Option R):Option R:=
k0 (0:Int)
theorem t28_23:exec cl N c28_23 [(2,.dead)] K=(g28_23 (fun y0=>K .normal [(2,.v U2 y0)])):=by
 kernel_rfl
def g28_24 (N:Nat) (S50:V6→V1→Option (Bool)) (S55:V1→Option (Int)) (k0:Int→Option R) (k1:Int→Option R) (x0:V15):Option R:=
(g28_0 (g28_1 (fun y0 y1=>brB y1 (g28_2 k0 y0 y1) ((g28_4 (fun y0 y1=>brB y1 (g28_5 k0 y0 y1) ((g28_7 (g28_21 N S50 S55 k1 (g28_23 k1))) y0))) y0))) x0)
theorem t28_24 (S50) (S55) (h50:(ctr50 S50).holds cl) (h55:(ctr55 S55).holds cl) (x0):exec cl N c28_24 [(0,.v U13 x0)] K=(g28_24 N S50 S55 (fun y0=>K .ret (e35 y0)) (fun y0=>K .ret [(2,.v U2 y0)]) x0):=by
 simp only [c28_24,exec_seq,seqK_normal,seqK_exit,seqK_ret,t28_0,t28_1,c28_3,exec_out,exec_cond',hb28_0,Option.bind_some,brB_true,brB_false,t28_2,exec_ret,exec_skip,kp28_0,kp28_1,t28_4,c28_6,hb28_1,t28_5,kp28_2,t28_7,c28_22,exec_block,t28_21 S50 S55 h50 h55,blockK_normal,blockK_ret,blockK_eq,kp28_12,kp28_13,t28_23]
 rfl
theorem rk28_0 (y0):retK d28 .ret (e35 y0)=some [.v U2 y0]:=by kernel_rfl
theorem rk28_1 (y0):retK d28 .ret [(2,.v U2 y0)]=some [.v U2 y0]:=by kernel_rfl
def g28 (N:Nat) (S50:V6→V1→Option (Bool)) (S55:V1→Option (Int)) (x0:V15) (k:Int→Option R):Option R:=
(g28_24 N S50 S55 k k x0)
theorem gen28 (S50) (S55) (h50:(ctr50 S50).holds cl) (h55:(ctr55 S55).holds cl) (x0) (k:List E→Option R):exec cl N c28 [(0,.v U13 x0)] (fun e env=>(retK d28 e env).bind k)=g28 N S50 S55 x0 (fun r0=>k [.v U2 r0]):=by
 simp only [c28,t28_24 S50 S55 h50 h55,rk28_0,rk28_1,Option.bind_some]
 rfl
def ctr28 (S:V15→Option (Int)):Ctr:=cv1 28 U13 S fun b=> [.v U2 b]
def S28 (N:Nat) (x0:V15):Option (Int):=g28 N (S50 N) (S55 N) x0 (fun (r0:Int)=>some (r0))
def g9_0 (k0:V22→Option R) (x0:V22):Option R:=
k0 x0
theorem t9_0 (x0):exec cl N c9_0 [(0,.v U17 x0)] K=(g9_0 (fun y0=>K .normal [(1,.loc U17 .no y0)]) x0):=by
 kernel_rfl
def g9_1 (S27:V1→Option (Bool)) (k0:V22→Bool→Option R) (x0:V22):Option R:=
(S27 x0.1).bind fun r170=>
k0 x0 (!r170)
theorem t9_1 (S27) (h27:(ctr27 S27).holds cl) (x0):exec cl N c9_1 [(1,.loc U17 .no x0)] K=(g9_1 S27 (fun y0 y1=>K .normal (e44 y0 y1)) x0):=by
 rw [←put_eq h27]
 kernel_rfl
def g9_2 (k0:Int→Option R) (x0:V22) (x1:Bool):Option R:=
k0 (2:Int)
theorem t9_2 (x0 x1):exec cl N c9_2 (e44 x0 x1) K=(g9_2 (fun y0=>K .normal [(2,.v U2 y0)]) x0 x1):=by
 kernel_rfl
theorem kp9_0 (x0):keep [1,2] [(2,.v U2 x0)]=(e35 x0):=by kernel_rfl
theorem kp9_1 (x0 x1):keep [1,2] (e44 x0 x1)=(e45 x0):=by kernel_rfl
theorem hb9_0 (x0 x1):boolOf? (ent (e44 x0 x1) (.t 8))=some x1:=by kernel_rfl
def g9_4 (k0:V22→Bool→Option R) (x0:V22):Option R:=
k0 x0 (decide ((x0.2.1.length:Int) > (30:Int)))
theorem t9_4 (x0):exec cl N c9_4 (e45 x0) K=(g9_4 (fun y0 y1=>K .normal (e46 y0 y1)) x0):=by
 kernel_rfl
def g9_5 (k0:Int→Option R) (x0:V22) (x1:Bool):Option R:=
k0 (3:Int)
theorem t9_5 (x0 x1):exec cl N c9_5 (e46 x0 x1) K=(g9_5 (fun y0=>K .normal [(2,.v U2 y0)]) x0 x1):=by
 kernel_rfl
theorem kp9_2 (x0 x1):keep [1,2] (e46 x0 x1)=(e45 x0):=by kernel_rfl
theorem hb9_1 (x0 x1):boolOf? (ent (e46 x0 x1) (.t 12))=some x1:=by kernel_rfl
def g9_7 (k0:V22→Int→Option R) (x0:V22):Option R:=
k0 x0 (0:Int)
theorem t9_7 (x0):exec cl N c9_7 (e45 x0) K=(g9_7 (fun y0 y1=>K .normal (e3 y0 y1)) x0):=by
 kernel_rfl
theorem kp9_3 (x0 x1):keep [1,3] (e3 x0 x1)=(e3 x0 x1):=by kernel_rfl
def g9_8 (k0:V22→Int→Bool→Option R) (x0:V22) (x1:Int):Option R:=
k0 x0 x1 (decide (x1 < (x0.2.1.length:Int)))
theorem t9_8 (x0 x1):exec cl N c9_8 (e3 x0 x1) K=(g9_8 (fun y0 y1 y2=>K .normal (e47 y0 y1 y2)) x0 x1):=by
 kernel_rfl
theorem kp9_4 (x0 x1 x2):keep [1,3] (e47 x0 x1 x2)=(e3 x0 x1):=by kernel_rfl
theorem hb9_2 (x0 x1 x2):boolOf? (ent (e47 x0 x1 x2) (.t 17))=some x2:=by kernel_rfl
def g9_14 (S28:V15→Option (Int)) (k0:V22→Int→Int→Bool→Option R) (x0:V22) (x1:Int):Option R:=
if 0≤x1∧x1 < (x0.2.1.length:Int) then
(S28 (x0.2.1.getD x1.toNat ((0:Int),((0:Int),([],()))))).bind fun r174=>
k0 x0 x1 r174 (r174 != (0:Int))
else none
theorem t9_14 (S28) (h28:(ctr28 S28).holds cl) (x0 x1):exec cl N c9_14 (e3 x0 x1) K=(g9_14 S28 (fun y0 y1 y2 y3=>exec cl N c9_13 (e48 y0 y1 y2 y3) K) x0 x1):=by
 rw [←put_eq h28]
 kernel_rfl
def g9_12 (k0:Int→Option R) (x0:V22) (x1 x2:Int) (x3:Bool):Option R:=
k0 x2
theorem t9_12 (x0 x1 x2 x3):exec cl N c9_12 (e48 x0 x1 x2 x3) K=(g9_12 (fun y0=>K .normal [(2,.v U2 y0)]) x0 x1 x2 x3):=by
 kernel_rfl
theorem kp9_5 (x0):keep [1,2,3] [(2,.v U2 x0)]=(e41 x0):=by kernel_rfl
theorem kp9_6 (x0 x1 x2 x3):keep [1,2,3] (e48 x0 x1 x2 x3)=(e49 x0 x1):=by kernel_rfl
theorem hb9_3 (x0 x1 x2 x3):boolOf? (ent (e48 x0 x1 x2 x3) (.t 27))=some x3:=by kernel_rfl
theorem kp9_7 (x0):keep [1,2,3] (e41 x0)=(e41 x0):=by kernel_rfl
theorem kp9_8 (x0 x1):keep [1,2,3] (e49 x0 x1)=(e49 x0 x1):=by kernel_rfl
def g9_16 (k0:V22→Int→Option R) (x0:V22) (x1:Int):Option R:=
k0 x0 (IntKind.i64.wrap (x1+(1:Int)))
theorem t9_16 (x0 x1):exec cl N c9_16 (e49 x0 x1) K=(g9_16 (fun y0 y1=>K .normal (e3 y0 y1)) x0 x1):=by
 kernel_rfl
def g9_17 (S28:V15→Option (Int)) (k0:Int→Option R) (k1:V22→Int→Option R) (k2:V22→Int→Option R) (x0:V22) (x1:Int):Option R:=
(g9_8 (fun y0 y1 y2=>brB y2 ((g9_14 S28 (fun y0 y1 y2 y3=>brB y3 (g9_12 k0 y0 y1 y2 y3) (((g9_16 k1)) y0 y1))) y0 y1) (k2 y0 y1)) x0 x1)
theorem t9_17 (S28) (h28:(ctr28 S28).holds cl) (x0 x1):exec cl N c9_17 (e3 x0 x1) K=(g9_17 S28 (fun y0=>K .ret (e41 y0)) (fun y0 y1=>K .normal (e3 y0 y1)) (fun y0 y1=>K (.exit 0) (e3 y0 y1)) x0 x1):=by
 simp only [c9_17,exec_seq,seqK_normal,seqK_exit,seqK_ret,t9_8,c9_9,exec_out,exec_cond',hb9_2,Option.bind_some,brB_true,brB_false,exec_skip,exec_exit,kp9_4,c9_15,exec_block,t9_14 S28 h28,c9_13,hb9_3,t9_12,exec_ret,kp9_5,kp9_6,blockK_normal,blockK_ret,blockK_eq,kp9_7,kp9_8,t9_16]
 rfl
def l9_18 {R:Type} (S28:V15→Option (Int)) (k0:Int→Option R) (k1:V22→Int→Option R):Nat→V22→Int→Option R
 | 0,_,_=>none
 | m+1,x0,x1=>(g9_17 S28 k0 (l9_18 S28 k0 k1 m) k1 x0 x1)
theorem lt9_18 (S28) (h28:(ctr28 S28).holds cl):∀ (m) (x0 x1),iter [1,3] (fun env K=>exec cl N c9_17 env K) K m (e3 x0 x1)=l9_18 S28 (fun y0=>K .ret (e41 y0)) (fun y0 y1=>K (.exit 0) (e3 y0 y1)) m x0 x1:=by
 intro m
 induction m with
 | zero=>intros; rfl
 | succ m ih=>
   intro x0 x1
   simp only [iter_succ,t9_17 S28 h28,loopK_normal,loopK_exit,loopK_ret,kp9_3,ih]
   rfl
theorem kp9_9 (x0):keep [2] (e41 x0)=[(2,.v U2 x0)]:=by kernel_rfl
theorem kp9_10 (x0 x1):keep [2] (e3 x0 x1)=[(2,.dead)]:=by kernel_rfl
def g9_18 (N:Nat) (S28:V15→Option (Int)) (k0:Int→Option R) (k1:Option R) (x0:V22) (x1:Int):Option R:=
l9_18 S28 k0 (fun y0 y1=>k1) N x0 x1
theorem t9_18 (S28) (h28:(ctr28 S28).holds cl) (x0 x1):exec cl N c9_18 (e3 x0 x1) K=(g9_18 N S28 (fun y0=>K .ret [(2,.v U2 y0)]) (K (.exit 0) [(2,.dead)]) x0 x1):=by
 simp only [c9_18,exec_out,exec_loop,kp9_3,lt9_18 S28 h28,kp9_10,kp9_9]
 rfl
theorem kp9_11 (x0):keep [2] [(2,.v U2 x0)]=[(2,.v U2 x0)]:=by kernel_rfl
theorem kp9_12:keep [2] [(2,.dead)]=[(2,.dead)]:=by kernel_rfl
def g9_20 (k0:Int→Option R):Option R:=
k0 (0:Int)
theorem t9_20:exec cl N c9_20 [(2,.dead)] K=(g9_20 (fun y0=>K .normal [(2,.v U2 y0)])):=by
 kernel_rfl
def g9_21 (N:Nat) (S27:V1→Option (Bool)) (S28:V15→Option (Int)) (k0:Int→Option R) (k1:Int→Option R) (x0:V22):Option R:=
(g9_0 (g9_1 S27 (fun y0 y1=>brB y1 (g9_2 k0 y0 y1) ((g9_4 (fun y0 y1=>brB y1 (g9_5 k0 y0 y1) ((g9_7 (g9_18 N S28 k1 (g9_20 k1))) y0))) y0))) x0)
theorem t9_21 (S27) (S28) (h27:(ctr27 S27).holds cl) (h28:(ctr28 S28).holds cl) (x0):exec cl N c9_21 [(0,.v U17 x0)] K=(g9_21 N S27 S28 (fun y0=>K .ret (e35 y0)) (fun y0=>K .ret [(2,.v U2 y0)]) x0):=by
 simp only [c9_21,exec_seq,seqK_normal,seqK_exit,seqK_ret,t9_0,t9_1 S27 h27,c9_3,exec_out,exec_cond',hb9_0,Option.bind_some,brB_true,brB_false,t9_2,exec_ret,exec_skip,kp9_0,kp9_1,t9_4,c9_6,hb9_1,t9_5,kp9_2,t9_7,c9_19,exec_block,t9_18 S28 h28,blockK_normal,blockK_ret,blockK_eq,kp9_11,kp9_12,t9_20]
 rfl
theorem rk9_0 (y0):retK d9 .ret (e35 y0)=some [.v U2 y0]:=by kernel_rfl
theorem rk9_1 (y0):retK d9 .ret [(2,.v U2 y0)]=some [.v U2 y0]:=by kernel_rfl
def g9 (N:Nat) (S27:V1→Option (Bool)) (S28:V15→Option (Int)) (x0:V22) (k:Int→Option R):Option R:=
(g9_21 N S27 S28 k k x0)
theorem gen9 (S27) (S28) (h27:(ctr27 S27).holds cl) (h28:(ctr28 S28).holds cl) (x0) (k:List E→Option R):exec cl N c9 [(0,.v U17 x0)] (fun e env=>(retK d9 e env).bind k)=g9 N S27 S28 x0 (fun r0=>k [.v U2 r0]):=by
 simp only [c9,t9_21 S27 S28 h27 h28,rk9_0,rk9_1,Option.bind_some]
 rfl
def ctr9 (S:V22→Option (Int)):Ctr:=cv1 9 U17 S fun b=> [.v U2 b]
def S9 (N:Nat) (x0:V22):Option (Int):=g9 N (S27 N) (S28 N) x0 (fun (r0:Int)=>some (r0))
def g29_0 (k0:Int→Option R) (x0:Int):Option R:=
k0 x0
theorem t29_0 (x0):exec cl N c29_0 [(0,.v U2 x0)] K=(g29_0 (fun y0=>K .normal [(0,.v U2 y0)]) x0):=by
 kernel_rfl
def g29_1 (k0:Int→Bool→Option R) (x0:Int):Option R:=
brB (decide (x0 < (1:Int))) (k0 x0 true) (k0 x0 (decide (x0 > (12:Int))))
theorem t29_1 (x0):exec cl N c29_1 [(0,.v U2 x0)] K=(g29_1 (fun y0 y1=>K .normal (e50 y0 y1)) x0):=by
 kernel_rfl
def g29_2 (k0:V1→Option R) (x0:Int) (x1:Bool):Option R:=
k0 ([]:List UInt8)
theorem t29_2 (x0 x1):exec cl N c29_2 (e50 x0 x1) K=(g29_2 (fun y0=>K .normal [(2,.v .str y0)]) x0 x1):=by
 kernel_rfl
theorem kp29_0 (x0):keep [0,2] [(2,.v .str x0)]=(e51 x0):=by kernel_rfl
theorem kp29_1 (x0 x1):keep [0,2] (e50 x0 x1)=(e52 x0):=by kernel_rfl
theorem hb29_0 (x0 x1):boolOf? (ent (e50 x0 x1) (.t 8))=some x1:=by kernel_rfl
def g29_4 (k0:V1→Option R) (x0:Int):Option R:=
let v193:Int:=(IntKind.i64.wrap (x0 - (1:Int)))
if 0≤v193∧v193 < ([([109,117,116,101]:List UInt8),([110,101,120,116]:List UInt8),([98,114,101,118,105,115]:List UInt8),([105,110,100,105,102,102,101,114,101,110,116]:List UInt8),([108,101,110,103,116,104,101,110]:List UInt8),([115,104,111,114,116,101,110]:List UInt8),([115,121,110,105,122,101,115,105,115]:List UInt8),([101,108,105,115,105,111,110]:List UInt8),([101,99,116,104,108,105,112,115,105,115]:List UInt8),([112,114,111,100,101,108,105,115,105,111,110]:List UInt8),([104,105,97,116,117,115]:List UInt8),([99,111,114,114,101,112,116,105,111,110]:List UInt8)].length:Int) then
if v193.toNat < [([109,117,116,101]:List UInt8),([110,101,120,116]:List UInt8),([98,114,101,118,105,115]:List UInt8),([105,110,100,105,102,102,101,114,101,110,116]:List UInt8),([108,101,110,103,116,104,101,110]:List UInt8),([115,104,111,114,116,101,110]:List UInt8),([115,121,110,105,122,101,115,105,115]:List UInt8),([101,108,105,115,105,111,110]:List UInt8),([101,99,116,104,108,105,112,115,105,115]:List UInt8),([112,114,111,100,101,108,105,115,105,111,110]:List UInt8),([104,105,97,116,117,115]:List UInt8),([99,111,114,114,101,112,116,105,111,110]:List UInt8)].length then
k0 ([([109,117,116,101]:List UInt8),([110,101,120,116]:List UInt8),([98,114,101,118,105,115]:List UInt8),([105,110,100,105,102,102,101,114,101,110,116]:List UInt8),([108,101,110,103,116,104,101,110]:List UInt8),([115,104,111,114,116,101,110]:List UInt8),([115,121,110,105,122,101,115,105,115]:List UInt8),([101,108,105,115,105,111,110]:List UInt8),([101,99,116,104,108,105,112,115,105,115]:List UInt8),([112,114,111,100,101,108,105,115,105,111,110]:List UInt8),([104,105,97,116,117,115]:List UInt8),([99,111,114,114,101,112,116,105,111,110]:List UInt8)].getD v193.toNat [])
else none
else none
theorem t29_4 (x0):exec cl N c29_4 (e52 x0) K=(g29_4 (fun y0=>K .normal [(2,.v .str y0)]) x0):=by
 kernel_rfl
def g29_5 (k0:V1→Option R) (k1:V1→Option R) (x0:Int):Option R:=
(g29_0 (g29_1 (fun y0 y1=>brB y1 (g29_2 k0 y0 y1) ((g29_4 k1) y0))) x0)
theorem t29_5 (x0):exec cl N c29_5 [(0,.v U2 x0)] K=(g29_5 (fun y0=>K .ret (e51 y0)) (fun y0=>K .ret [(2,.v .str y0)]) x0):=by
 simp only [c29_5,exec_seq,seqK_normal,seqK_exit,seqK_ret,t29_0,t29_1,c29_3,exec_out,exec_cond',hb29_0,Option.bind_some,brB_true,brB_false,t29_2,exec_ret,exec_skip,kp29_0,kp29_1,t29_4]
 rfl
theorem rk29_0 (y0):retK d29 .ret (e51 y0)=some [.v .str y0]:=by kernel_rfl
theorem rk29_1 (y0):retK d29 .ret [(2,.v .str y0)]=some [.v .str y0]:=by kernel_rfl
def g29 (x0:Int) (k:V1→Option R):Option R:=
(g29_5 k k x0)
theorem gen29 (x0) (k:List E→Option R):exec cl N c29 [(0,.v U2 x0)] (fun e env=>(retK d29 e env).bind k)=g29 x0 (fun r0=>k [.v .str r0]):=by
 simp only [c29,t29_5,rk29_0,rk29_1,Option.bind_some]
 rfl
def ctr29 (S:Int→Option V5):Ctr:=cv1 29 U2 S fun b=> [.v .str b]
def S29 (N:Nat) (x0:Int):Option V5:=g29 x0 (fun (r0:V1)=>some (r0))
def g30_0 (k0:Int→Option R) (x0:Int):Option R:=
k0 x0
theorem t30_0 (x0):exec cl N c30_0 [(0,.v U2 x0)] K=(g30_0 (fun y0=>K .normal [(0,.v U2 y0)]) x0):=by
 kernel_rfl
def g30_1 (k0:Int→Bool→Option R) (x0:Int):Option R:=
k0 x0 (decide (x0 < (10:Int)))
theorem t30_1 (x0):exec cl N c30_1 [(0,.v U2 x0)] K=(g30_1 (fun y0 y1=>K .normal (e53 y0 y1)) x0):=by
 kernel_rfl
def g30_2 (k0:V1→Option R) (x0:Int) (x1:Bool):Option R:=
let v207:Int:=(IntKind.i64.wrap (x0+(1:Int)))
if 0≤x0∧x0≤v207∧v207≤(([48,49,50,51,52,53,54,55,56,57]:List UInt8).length:Int) then
k0 ((([48,49,50,51,52,53,54,55,56,57]:List UInt8).drop x0.toNat).take (v207.toNat - x0.toNat))
else none
theorem t30_2 (x0 x1):exec cl N c30_2 (e53 x0 x1) K=(g30_2 (fun y0=>K .normal [(2,.v .str y0)]) x0 x1):=by
 kernel_rfl
theorem kp30_0 (x0):keep [0,2] [(2,.v .str x0)]=(e51 x0):=by kernel_rfl
theorem kp30_1 (x0 x1):keep [0,2] (e53 x0 x1)=(e52 x0):=by kernel_rfl
theorem hb30_0 (x0 x1):boolOf? (ent (e53 x0 x1) (.t 4))=some x1:=by kernel_rfl
def g30_4 (S30:Int→Option V5) (k0:V1→Option R) (x0:Int):Option R:=
(S30 (IntKind.i64.wrap (Int.tdiv x0 (10:Int)))).bind fun r210=>
(S30 (Int.tmod x0 (10:Int))).bind fun r212=>
if r210.length+r212.length≤140737488355328 then
k0 (r210++r212)
else none
theorem t30_4 (S30) (h30:(ctr30 S30).holds cl) (x0):exec cl N c30_4 (e52 x0) K=(g30_4 S30 (fun y0=>K .normal [(2,.v .str y0)]) x0):=by
 rw [←put_eq h30]
 kernel_rfl
def g30_5 (S30:Int→Option V5) (k0:V1→Option R) (k1:V1→Option R) (x0:Int):Option R:=
(g30_0 (g30_1 (fun y0 y1=>brB y1 (g30_2 k0 y0 y1) ((g30_4 S30 k1) y0))) x0)
theorem t30_5 (S30) (h30:(ctr30 S30).holds cl) (x0):exec cl N c30_5 [(0,.v U2 x0)] K=(g30_5 S30 (fun y0=>K .ret (e51 y0)) (fun y0=>K .ret [(2,.v .str y0)]) x0):=by
 simp only [c30_5,exec_seq,seqK_normal,seqK_exit,seqK_ret,t30_0,t30_1,c30_3,exec_out,exec_cond',hb30_0,Option.bind_some,brB_true,brB_false,t30_2,exec_ret,exec_skip,kp30_0,kp30_1,t30_4 S30 h30]
 rfl
theorem rk30_0 (y0):retK d30 .ret (e51 y0)=some [.v .str y0]:=by kernel_rfl
theorem rk30_1 (y0):retK d30 .ret [(2,.v .str y0)]=some [.v .str y0]:=by kernel_rfl
def g30 (S30:Int→Option V5) (x0:Int) (k:V1→Option R):Option R:=
(g30_5 S30 k k x0)
theorem gen30 (S30) (h30:(ctr30 S30).holds cl) (x0) (k:List E→Option R):exec cl N c30 [(0,.v U2 x0)] (fun e env=>(retK d30 e env).bind k)=g30 S30 x0 (fun r0=>k [.v .str r0]):=by
 simp only [c30,t30_5 S30 h30,rk30_0,rk30_1,Option.bind_some]
 rfl
def R30 (N:Nat):Nat→Int→Option V5
 | 0,_=>none
 | m+1,x0=>g30 (R30 N m) x0 (fun (r0:V1)=>some (r0))
def S30 (N:Nat) (x0:Int):Option V5:=R30 N 250 x0
def g10_0 (k0:V22→Option R) (x0:V22):Option R:=
k0 x0
theorem t10_0 (x0):exec cl N c10_0 [(0,.v U17 x0)] K=(g10_0 (fun y0=>K .normal [(1,.loc U17 .no y0)]) x0):=by
 kernel_rfl
def g10_5 (S9:V22→Option (Int)) (k0:V22→Int→Bool→Option R) (x0:V22):Option R:=
(S9 x0).bind fun r228=>
k0 x0 r228 (r228 != (0:Int))
theorem t10_5 (S9) (h9:(ctr9 S9).holds cl) (x0):exec cl N c10_5 [(1,.loc U17 .no x0)] K=(g10_5 S9 (fun y0 y1 y2=>exec cl N c10_4 (e54 y0 y1 y2) K) x0):=by
 rw [←put_eq h9]
 kernel_rfl
def g10_3 (k0:V1→Int→Option R) (x0:V22) (x1:Int) (x2:Bool):Option R:=
k0 ([]:List UInt8) x1
theorem t10_3 (x0 x1 x2):exec cl N c10_3 (e54 x0 x1 x2) K=(g10_3 (fun y0 y1=>K .normal (e55 y0 y1)) x0 x1 x2):=by
 kernel_rfl
theorem kp10_0 (x0 x1):keep [1,2,3] (e55 x0 x1)=(e56 x0 x1):=by kernel_rfl
theorem kp10_1 (x0 x1 x2):keep [1,2,3] (e54 x0 x1 x2)=[(1,.loc U17 .no x0),(2,.dead),(3,.dead)]:=by kernel_rfl
theorem hb10_0 (x0 x1 x2):boolOf? (ent (e54 x0 x1 x2) (.t 12))=some x2:=by kernel_rfl
def g10_6 (k0:V22→V1→Option R) (x0:V22):Option R:=
if ([108,105,99,101,110,99,101,32]:List UInt8).length+x0.1.length≤140737488355328 then
let v230:V1:=(([108,105,99,101,110,99,101,32]:List UInt8)++x0.1)
if v230.length+([32,123,10]:List UInt8).length≤140737488355328 then
k0 x0 (v230++([32,123,10]:List UInt8))
else none
else none
theorem t10_6 (x0):exec cl N c10_6 [(1,.loc U17 .no x0),(2,.dead),(3,.dead)] K=(g10_6 (fun y0 y1=>K .normal [(1,.loc U17 .no y0),(5,.v .str y1)]) x0):=by
 kernel_rfl
def g10_7 (k0:V22→V1→Int→Option R) (x0:V22) (x1:V1):Option R:=
k0 x0 x1 (0:Int)
theorem t10_7 (x0 x1):exec cl N c10_7 [(1,.loc U17 .no x0),(5,.v .str x1)] K=(g10_7 (fun y0 y1 y2=>K .normal (e57 y0 y1 y2)) x0 x1):=by
 kernel_rfl
theorem kp10_2 (x0 x1 x2):keep [1,5,6] (e57 x0 x1 x2)=(e57 x0 x1 x2):=by kernel_rfl
def g10_8 (k0:V22→V1→Int→Bool→Option R) (x0:V22) (x1:V1) (x2:Int):Option R:=
k0 x0 x1 x2 (decide (x2 < (x0.2.1.length:Int)))
theorem t10_8 (x0 x1 x2):exec cl N c10_8 (e57 x0 x1 x2) K=(g10_8 (fun y0 y1 y2 y3=>K .normal (e58 y0 y1 y2 y3)) x0 x1 x2):=by
 kernel_rfl
theorem kp10_3 (x0 x1 x2 x3):keep [1,5,6] (e58 x0 x1 x2 x3)=(e57 x0 x1 x2):=by kernel_rfl
theorem hb10_1 (x0 x1 x2 x3):boolOf? (ent (e58 x0 x1 x2 x3) (.t 22))=some x3:=by kernel_rfl
def g10_27 (S29:Int→Option V5) (S30:Int→Option V5) (k0:V22→V1→Int→V15→Option R) (x0:V22) (x1:V1) (x2:Int):Option R:=
if 0≤x2∧x2 < (x0.2.1.length:Int) then
if x1.length+([32,32]:List UInt8).length≤140737488355328 then
let v233:V1:=(x1++([32,32]:List UInt8))
(S29 ((x0.2.1.getD x2.toNat ((0:Int),((0:Int),([],())))).1)).bind fun r234=>
if v233.length+r234.length≤140737488355328 then
if (v233++r234).length+([32]:List UInt8).length≤140737488355328 then
let v236:V1:=((v233++r234)++([32]:List UInt8))
(S30 ((x0.2.1.getD x2.toNat ((0:Int),((0:Int),([],())))).2.1)).bind fun r237=>
if v236.length+r237.length≤140737488355328 then
k0 x0 (v236++r237) x2 (x0.2.1.getD x2.toNat ((0:Int),((0:Int),([],()))))
else none
else none
else none
else none
else none
theorem t10_27 (S29) (S30) (h29:(ctr29 S29).holds cl) (h30:(ctr30 S30).holds cl) (x0 x1 x2):exec cl N c10_27 (e57 x0 x1 x2) K=(g10_27 S29 S30 (fun y0 y1 y2 y3=>exec cl N (.seq (.seq c10_12 c10_25) c10_26) [(1,.loc U17 .no y0),(5,.v .str y1),(6,.v U2 y2),(7,.loc U13 .no y3)] K) x0 x1 x2):=by
 rw [←put_eq h29]
 rw [←put_eq h30]
 kernel_rfl
def g10_12 (k0:V22→V1→Int→V15→Int→Option R) (x0:V22) (x1:V1) (x2:Int) (x3:V15):Option R:=
k0 x0 x1 x2 x3 (0:Int)
theorem t10_12 (x0 x1 x2 x3):exec cl N c10_12 [(1,.loc U17 .no x0),(5,.v .str x1),(6,.v U2 x2),(7,.loc U13 .no x3)] K=(g10_12 (fun y0 y1 y2 y3 y4=>K .normal (e59 y0 y1 y2 y3 y4)) x0 x1 x2 x3):=by
 kernel_rfl
theorem kp10_4 (x0 x1 x2 x3 x4):keep [1,5,6,7,8] (e59 x0 x1 x2 x3 x4)=(e59 x0 x1 x2 x3 x4):=by kernel_rfl
def g10_13 (k0:V22→V1→Int→V15→Int→Bool→Option R) (x0:V22) (x1:V1) (x2:Int) (x3:V15) (x4:Int):Option R:=
k0 x0 x1 x2 x3 x4 (decide (x4 < (x3.2.2.1.length:Int)))
theorem t10_13 (x0 x1 x2 x3 x4):exec cl N c10_13 (e59 x0 x1 x2 x3 x4) K=(g10_13 (fun y0 y1 y2 y3 y4 y5=>K .normal (e60 y0 y1 y2 y3 y4 y5)) x0 x1 x2 x3 x4):=by
 kernel_rfl
theorem kp10_5 (x0 x1 x2 x3 x4 x5):keep [1,5,6,7,8] (e60 x0 x1 x2 x3 x4 x5)=(e59 x0 x1 x2 x3 x4):=by kernel_rfl
theorem hb10_2 (x0 x1 x2 x3 x4 x5):boolOf? (ent (e60 x0 x1 x2 x3 x4 x5) (.t 45))=some x5:=by kernel_rfl
def g10_15 (k0:V22→V1→Int→V15→Int→Bool→Option R) (x0:V22) (x1:V1) (x2:Int) (x3:V15) (x4:Int):Option R:=
k0 x0 x1 x2 x3 x4 (x4==(0:Int))
theorem t10_15 (x0 x1 x2 x3 x4):exec cl N c10_15 (e59 x0 x1 x2 x3 x4) K=(g10_15 (fun y0 y1 y2 y3 y4 y5=>K .normal (e61 y0 y1 y2 y3 y4 y5)) x0 x1 x2 x3 x4):=by
 kernel_rfl
def g10_16 (k0:V22→V1→Int→V15→Int→Option R) (x0:V22) (x1:V1) (x2:Int) (x3:V15) (x4:Int) (x5:Bool):Option R:=
if x1.length+([32,105,110,32]:List UInt8).length≤140737488355328 then
k0 x0 (x1++([32,105,110,32]:List UInt8)) x2 x3 x4
else none
theorem t10_16 (x0 x1 x2 x3 x4 x5):exec cl N c10_16 (e61 x0 x1 x2 x3 x4 x5) K=(g10_16 (fun y0 y1 y2 y3 y4=>K .normal (e59 y0 y1 y2 y3 y4)) x0 x1 x2 x3 x4 x5):=by
 kernel_rfl
def g10_17 (k0:V22→V1→Int→V15→Int→Option R) (x0:V22) (x1:V1) (x2:Int) (x3:V15) (x4:Int) (x5:Bool):Option R:=
if x1.length+([44,32]:List UInt8).length≤140737488355328 then
k0 x0 (x1++([44,32]:List UInt8)) x2 x3 x4
else none
theorem t10_17 (x0 x1 x2 x3 x4 x5):exec cl N c10_17 (e61 x0 x1 x2 x3 x4 x5) K=(g10_17 (fun y0 y1 y2 y3 y4=>K .normal (e59 y0 y1 y2 y3 y4)) x0 x1 x2 x3 x4 x5):=by
 kernel_rfl
theorem hb10_3 (x0 x1 x2 x3 x4 x5):boolOf? (ent (e61 x0 x1 x2 x3 x4 x5) (.t 49))=some x5:=by kernel_rfl
def g10_19 (k0:V22→V1→Int→V15→Int→Option R) (x0:V22) (x1:V1) (x2:Int) (x3:V15) (x4:Int):Option R:=
(g10_15 (fun y0 y1 y2 y3 y4 y5=>brB y5 (g10_16 k0 y0 y1 y2 y3 y4 y5) (g10_17 k0 y0 y1 y2 y3 y4 y5)) x0 x1 x2 x3 x4)
theorem t10_19 (x0 x1 x2 x3 x4):exec cl N c10_19 (e59 x0 x1 x2 x3 x4) K=(g10_19 (fun y0 y1 y2 y3 y4=>K .normal (e59 y0 y1 y2 y3 y4)) x0 x1 x2 x3 x4):=by
 simp only [c10_19,exec_seq,seqK_normal,seqK_exit,seqK_ret,t10_15,c10_18,exec_out,exec_cond',hb10_3,Option.bind_some,brB_true,brB_false,t10_16,t10_17,kp10_4]
 rfl
def g10_20 (k0:V22→V1→Int→V15→Int→Option R) (x0:V22) (x1:V1) (x2:Int) (x3:V15) (x4:Int):Option R:=
if x1.length+([34]:List UInt8).length≤140737488355328 then
let v243:V1:=(x1++([34]:List UInt8))
if 0≤x4∧x4 < (x3.2.2.1.length:Int) then
if v243.length+(x3.2.2.1.getD x4.toNat []).length≤140737488355328 then
let v244:V1:=(v243++(x3.2.2.1.getD x4.toNat []))
if v244.length+([34]:List UInt8).length≤140737488355328 then
k0 x0 (v244++([34]:List UInt8)) x2 x3 x4
else none
else none
else none
else none
theorem t10_20 (x0 x1 x2 x3 x4):exec cl N c10_20 (e59 x0 x1 x2 x3 x4) K=(g10_20 (fun y0 y1 y2 y3 y4=>K .normal (e59 y0 y1 y2 y3 y4)) x0 x1 x2 x3 x4):=by
 kernel_rfl
def g10_22 (k0:V22→V1→Int→V15→Int→Option R) (x0:V22) (x1:V1) (x2:Int) (x3:V15) (x4:Int):Option R:=
k0 x0 x1 x2 x3 (IntKind.i64.wrap (x4+(1:Int)))
theorem t10_22 (x0 x1 x2 x3 x4):exec cl N c10_22 (e59 x0 x1 x2 x3 x4) K=(g10_22 (fun y0 y1 y2 y3 y4=>K .normal (e59 y0 y1 y2 y3 y4)) x0 x1 x2 x3 x4):=by
 kernel_rfl
def g10_23 (k0:V22→V1→Int→V15→Int→Option R) (k1:V22→V1→Int→V15→Int→Option R) (x0:V22) (x1:V1) (x2:Int) (x3:V15) (x4:Int):Option R:=
(g10_13 (fun y0 y1 y2 y3 y4 y5=>brB y5 ((g10_19 (g10_20 ((g10_22 k0)))) y0 y1 y2 y3 y4) (k1 y0 y1 y2 y3 y4)) x0 x1 x2 x3 x4)
theorem t10_23 (x0 x1 x2 x3 x4):exec cl N c10_23 (e59 x0 x1 x2 x3 x4) K=(g10_23 (fun y0 y1 y2 y3 y4=>K .normal (e59 y0 y1 y2 y3 y4)) (fun y0 y1 y2 y3 y4=>K (.exit 2) (e59 y0 y1 y2 y3 y4)) x0 x1 x2 x3 x4):=by
 simp only [c10_23,exec_seq,seqK_normal,seqK_exit,seqK_ret,t10_13,c10_14,exec_out,exec_cond',hb10_2,Option.bind_some,brB_true,brB_false,exec_skip,exec_exit,kp10_5,c10_21,exec_block,t10_19,t10_20,blockK_normal,blockK_ret,blockK_eq,kp10_4,t10_22]
 rfl
def l10_24 {R:Type} (k0:V22→V1→Int→V15→Int→Option R):Nat→V22→V1→Int→V15→Int→Option R
 | 0,_,_,_,_,_=>none
 | m+1,x0,x1,x2,x3,x4=>(g10_23 (l10_24 k0 m) k0 x0 x1 x2 x3 x4)
theorem lt10_24:∀ (m) (x0 x1 x2 x3 x4),iter [1,5,6,7,8] (fun env K=>exec cl N c10_23 env K) K m (e59 x0 x1 x2 x3 x4)=l10_24 (fun y0 y1 y2 y3 y4=>K (.exit 2) (e59 y0 y1 y2 y3 y4)) m x0 x1 x2 x3 x4:=by
 intro m
 induction m with
 | zero=>intros; rfl
 | succ m ih=>
   intro x0 x1 x2 x3 x4
   simp only [iter_succ,t10_23,loopK_normal,loopK_exit,loopK_ret,kp10_4,ih]
   rfl
theorem kp10_6 (x0 x1 x2 x3 x4):keep [1,5,6] (e59 x0 x1 x2 x3 x4)=(e57 x0 x1 x2):=by kernel_rfl
def g10_24 (N:Nat) (k0:V22→V1→Int→Option R) (x0:V22) (x1:V1) (x2:Int) (x3:V15) (x4:Int):Option R:=
l10_24 (fun y0 y1 y2 y3 y4=>k0 y0 y1 y2) N x0 x1 x2 x3 x4
theorem t10_24 (x0 x1 x2 x3 x4):exec cl N c10_24 (e59 x0 x1 x2 x3 x4) K=(g10_24 N (fun y0 y1 y2=>K (.exit 2) (e57 y0 y1 y2)) x0 x1 x2 x3 x4):=by
 simp only [c10_24,exec_out,exec_loop,kp10_4,lt10_24,kp10_6]
 rfl
def g10_26 (k0:V22→V1→Int→Option R) (x0:V22) (x1:V1) (x2:Int):Option R:=
if x1.length+([59,10]:List UInt8).length≤140737488355328 then
k0 x0 (x1++([59,10]:List UInt8)) x2
else none
theorem t10_26 (x0 x1 x2):exec cl N c10_26 (e57 x0 x1 x2) K=(g10_26 (fun y0 y1 y2=>K .normal (e57 y0 y1 y2)) x0 x1 x2):=by
 kernel_rfl
def g10_29 (k0:V22→V1→Int→Option R) (x0:V22) (x1:V1) (x2:Int):Option R:=
k0 x0 x1 (IntKind.i64.wrap (x2+(1:Int)))
theorem t10_29 (x0 x1 x2):exec cl N c10_29 (e57 x0 x1 x2) K=(g10_29 (fun y0 y1 y2=>K .normal (e57 y0 y1 y2)) x0 x1 x2):=by
 kernel_rfl
def g10_30 (N:Nat) (S29:Int→Option V5) (S30:Int→Option V5) (k0:V22→V1→Int→Option R) (k1:V22→V1→Int→Option R) (x0:V22) (x1:V1) (x2:Int):Option R:=
(g10_8 (fun y0 y1 y2 y3=>brB y3 ((g10_27 S29 S30 (g10_12 (g10_24 N ((g10_26 ((g10_29 k0))))))) y0 y1 y2) (k1 y0 y1 y2)) x0 x1 x2)
theorem t10_30 (S29) (S30) (h29:(ctr29 S29).holds cl) (h30:(ctr30 S30).holds cl) (x0 x1 x2):exec cl N c10_30 (e57 x0 x1 x2) K=(g10_30 N S29 S30 (fun y0 y1 y2=>K .normal (e57 y0 y1 y2)) (fun y0 y1 y2=>K (.exit 0) (e57 y0 y1 y2)) x0 x1 x2):=by
 simp only [c10_30,exec_seq,seqK_normal,seqK_exit,seqK_ret,t10_8,c10_9,exec_out,exec_cond',hb10_1,Option.bind_some,brB_true,brB_false,exec_skip,exec_exit,kp10_3,c10_28,exec_block,t10_27 S29 S30 h29 h30,t10_12,c10_25,t10_24,blockK_normal,blockK_ret,blockK_eq,kp10_2,t10_26,t10_29]
 rfl
def l10_31 {R:Type} (N:Nat) (S29:Int→Option V5) (S30:Int→Option V5) (k0:V22→V1→Int→Option R):Nat→V22→V1→Int→Option R
 | 0,_,_,_=>none
 | m+1,x0,x1,x2=>(g10_30 N S29 S30 (l10_31 N S29 S30 k0 m) k0 x0 x1 x2)
theorem lt10_31 (S29) (S30) (h29:(ctr29 S29).holds cl) (h30:(ctr30 S30).holds cl):∀ (m) (x0 x1 x2),iter [1,5,6] (fun env K=>exec cl N c10_30 env K) K m (e57 x0 x1 x2)=l10_31 N S29 S30 (fun y0 y1 y2=>K (.exit 0) (e57 y0 y1 y2)) m x0 x1 x2:=by
 intro m
 induction m with
 | zero=>intros; rfl
 | succ m ih=>
   intro x0 x1 x2
   simp only [iter_succ,t10_30 S29 S30 h29 h30,loopK_normal,loopK_exit,loopK_ret,kp10_2,ih]
   rfl
theorem kp10_7 (x0 x1 x2):keep [5] (e57 x0 x1 x2)=[(5,.v .str x1)]:=by kernel_rfl
def g10_31 (N:Nat) (S29:Int→Option V5) (S30:Int→Option V5) (k0:V1→Option R) (x0:V22) (x1:V1) (x2:Int):Option R:=
l10_31 N S29 S30 (fun y0 y1 y2=>k0 y1) N x0 x1 x2
theorem t10_31 (S29) (S30) (h29:(ctr29 S29).holds cl) (h30:(ctr30 S30).holds cl) (x0 x1 x2):exec cl N c10_31 (e57 x0 x1 x2) K=(g10_31 N S29 S30 (fun y0=>K (.exit 0) [(5,.v .str y0)]) x0 x1 x2):=by
 simp only [c10_31,exec_out,exec_loop,kp10_2,lt10_31 S29 S30 h29 h30,kp10_7]
 rfl
theorem kp10_8 (x0):keep [5] [(5,.v .str x0)]=[(5,.v .str x0)]:=by kernel_rfl
def g10_33 (k0:V1→Int→Option R) (x0:V1):Option R:=
if x0.length+([125,10]:List UInt8).length≤140737488355328 then
k0 (x0++([125,10]:List UInt8)) (0:Int)
else none
theorem t10_33 (x0):exec cl N c10_33 [(5,.v .str x0)] K=(g10_33 (fun y0 y1=>K .normal (e55 y0 y1)) x0):=by
 kernel_rfl
def g10_34 (N:Nat) (S9:V22→Option (Int)) (S29:Int→Option V5) (S30:Int→Option V5) (k0:V1→Int→Option R) (k1:V1→Int→Option R) (x0:V22):Option R:=
(g10_0 (g10_5 S9 (fun y0 y1 y2=>brB y2 (g10_3 k0 y0 y1 y2) ((g10_6 (g10_7 (g10_31 N S29 S30 ((g10_33 k1))))) y0))) x0)
theorem t10_34 (S9) (S29) (S30) (h9:(ctr9 S9).holds cl) (h29:(ctr29 S29).holds cl) (h30:(ctr30 S30).holds cl) (x0):exec cl N c10_34 [(0,.v U17 x0)] K=(g10_34 N S9 S29 S30 (fun y0 y1=>K .ret (e56 y0 y1)) (fun y0 y1=>K .ret (e55 y0 y1)) x0):=by
 simp only [c10_34,exec_seq,seqK_normal,seqK_exit,seqK_ret,t10_0,t10_5 S9 h9,c10_4,exec_out,exec_cond',hb10_0,Option.bind_some,brB_true,brB_false,t10_3,exec_ret,exec_skip,kp10_0,kp10_1,t10_6,t10_7,c10_32,exec_block,t10_31 S29 S30 h29 h30,blockK_normal,blockK_ret,blockK_eq,kp10_8,t10_33]
 rfl
theorem rk10_0 (y0 y1):retK d10 .ret (e56 y0 y1)=some [.v .str y0,.v U2 y1]:=by kernel_rfl
theorem rk10_1 (y0 y1):retK d10 .ret (e55 y0 y1)=some [.v .str y0,.v U2 y1]:=by kernel_rfl
def g10 (N:Nat) (S9:V22→Option (Int)) (S29:Int→Option V5) (S30:Int→Option V5) (x0:V22) (k:V1→Int→Option R):Option R:=
(g10_34 N S9 S29 S30 k k x0)
theorem gen10 (S9) (S29) (S30) (h9:(ctr9 S9).holds cl) (h29:(ctr29 S29).holds cl) (h30:(ctr30 S30).holds cl) (x0) (k:List E→Option R):exec cl N c10 [(0,.v U17 x0)] (fun e env=>(retK d10 e env).bind k)=g10 N S9 S29 S30 x0 (fun r0 r1=>k [.v .str r0,.v U2 r1]):=by
 simp only [c10,t10_34 S9 S29 S30 h9 h29 h30,rk10_0,rk10_1,Option.bind_some]
 rfl
def ctr10 (S:V22→Option V7):Ctr:=cv1 10 U17 S fun b=> [.v .str b.1,.v U2 b.2]
def S10 (N:Nat) (x0:V22):Option V7:=g10 N (S9 N) (S29 N) (S30 N) x0 (fun (r0:V1) (r1:Int)=>some (r0,r1))
def g31_31 (k0:V1→Int→Option R) (x0:V1):Option R:=
k0 x0 (0:Int)
theorem t31_31 (x0):exec cl N c31_31 [(0,.v .str x0)] K=(g31_31 (fun y0 y1=>exec cl N (.seq c31_29 (.seq c31_30 .ret)) (e9 y0 y1) K) x0):=by
 kernel_rfl
theorem kp31_0 (x0 x1):keep [0,3] (e9 x0 x1)=(e9 x0 x1):=by kernel_rfl
def g31_2 (k0:V1→Int→Bool→Option R) (x0:V1) (x1:Int):Option R:=
k0 x0 x1 (decide (x1 < (x0.length:Int)))
theorem t31_2 (x0 x1):exec cl N c31_2 (e9 x0 x1) K=(g31_2 (fun y0 y1 y2=>K .normal (e62 y0 y1 y2)) x0 x1):=by
 kernel_rfl
theorem kp31_1 (x0 x1 x2):keep [0,3] (e62 x0 x1 x2)=(e9 x0 x1):=by kernel_rfl
theorem hb31_0 (x0 x1 x2):boolOf? (ent (e62 x0 x1 x2) (.t 7))=some x2:=by kernel_rfl
def g31_4 (k0:V1→Int→Int→Option R) (x0:V1) (x1:Int):Option R:=
if 0≤x1∧x1 < (x0.length:Int) then
k0 x0 x1 ((x0.getD x1.toNat 0).toNat:Int)
else none
theorem t31_4 (x0 x1):exec cl N c31_4 (e9 x0 x1) K=(g31_4 (fun y0 y1 y2=>K .normal (e63 y0 y1 y2)) x0 x1):=by
 kernel_rfl
def g31_5 (k0:V1→Int→Int→Bool→Option R) (x0:V1) (x1 x2:Int):Option R:=
k0 x0 x1 x2 (x2==(32:Int))
theorem t31_5 (x0 x1 x2):exec cl N c31_5 (e63 x0 x1 x2) K=(g31_5 (fun y0 y1 y2 y3=>K .normal (e64 y0 y1 y2 y3)) x0 x1 x2):=by
 kernel_rfl
theorem kp31_2 (x0 x1 x2 x3):keep [0,3,10,12] (e64 x0 x1 x2 x3)=(e64 x0 x1 x2 x3):=by kernel_rfl
def g31_6 (k0:V1→Int→Int→Bool→Option R) (x0:V1) (x1 x2:Int) (x3:Bool):Option R:=
k0 x0 x1 x2 (x2==(9:Int))
theorem t31_6 (x0 x1 x2 x3):exec cl N c31_6 (e64 x0 x1 x2 x3) K=(g31_6 (fun y0 y1 y2 y3=>K .normal (e64 y0 y1 y2 y3)) x0 x1 x2 x3):=by
 kernel_rfl
def g31_7 (k0:V1→Int→Int→Bool→Option R) (x0:V1) (x1 x2:Int) (x3:Bool):Option R:=
k0 x0 x1 x2 (x2==(10:Int))
theorem t31_7 (x0 x1 x2 x3):exec cl N c31_7 (e64 x0 x1 x2 x3) K=(g31_7 (fun y0 y1 y2 y3=>K .normal (e64 y0 y1 y2 y3)) x0 x1 x2 x3):=by
 kernel_rfl
def g31_8 (k0:V1→Int→Int→Bool→Option R) (x0:V1) (x1 x2:Int) (x3:Bool):Option R:=
k0 x0 x1 x2 (x2==(13:Int))
theorem t31_8 (x0 x1 x2 x3):exec cl N c31_8 (e64 x0 x1 x2 x3) K=(g31_8 (fun y0 y1 y2 y3=>K .normal (e64 y0 y1 y2 y3)) x0 x1 x2 x3):=by
 kernel_rfl
theorem hb31_1 (x0 x1 x2 x3):boolOf? (ent (e64 x0 x1 x2 x3) (.t 12))=some x3:=by kernel_rfl
theorem hb31_2 (x0 x1 x2 x3):boolOf? (ent (e64 x0 x1 x2 x3) (.t 12))=some x3:=by kernel_rfl
theorem hb31_3 (x0 x1 x2 x3):boolOf? (ent (e64 x0 x1 x2 x3) (.t 12))=some x3:=by kernel_rfl
def g31_12 (k0:V1→Int→Int→Bool→Option R) (x0:V1) (x1 x2:Int):Option R:=
(g31_5 (fun y0 y1 y2 y3=>brB y3 (k0 y0 y1 y2 y3) (g31_6 (fun y0 y1 y2 y3=>brB y3 (k0 y0 y1 y2 y3) (g31_7 (fun y0 y1 y2 y3=>brB y3 (k0 y0 y1 y2 y3) (g31_8 k0 y0 y1 y2 y3)) y0 y1 y2 y3)) y0 y1 y2 y3)) x0 x1 x2)
theorem t31_12 (x0 x1 x2):exec cl N c31_12 (e63 x0 x1 x2) K=(g31_12 (fun y0 y1 y2 y3=>K .normal (e64 y0 y1 y2 y3)) x0 x1 x2):=by
 simp only [c31_12,exec_seq,seqK_normal,seqK_exit,seqK_ret,t31_5,c31_11,exec_out,exec_cond',hb31_3,Option.bind_some,brB_true,brB_false,exec_skip,t31_6,c31_10,hb31_2,t31_7,c31_9,hb31_1,t31_8,kp31_2]
 rfl
def g31_13 (k0:V1→Int→Option R) (x0:V1) (x1 x2:Int) (x3:Bool):Option R:=
k0 x0 (IntKind.i64.wrap (x1+(1:Int)))
theorem t31_13 (x0 x1 x2 x3):exec cl N c31_13 (e64 x0 x1 x2 x3) K=(g31_13 (fun y0 y1=>K .normal (e9 y0 y1)) x0 x1 x2 x3):=by
 kernel_rfl
theorem kp31_3 (x0 x1):keep [0,2,3] (e9 x0 x1)=(e27 x0 x1):=by kernel_rfl
def g31_14 (k0:V1→Int→Bool→Option R) (x0:V1) (x1 x2:Int) (x3:Bool):Option R:=
k0 x0 x1 (x2==(35:Int))
theorem t31_14 (x0 x1 x2 x3):exec cl N c31_14 (e64 x0 x1 x2 x3) K=(g31_14 (fun y0 y1 y2=>K .normal (e65 y0 y1 y2)) x0 x1 x2 x3):=by
 kernel_rfl
theorem kp31_4 (x0 x1 x2):keep [0,3] (e65 x0 x1 x2)=(e9 x0 x1):=by kernel_rfl
def g31_15 (k0:V1→Int→Bool→Option R) (x0:V1) (x1:Int):Option R:=
brB (decide (x1 < (x0.length:Int))) (if 0≤x1∧x1 < (x0.length:Int) then
k0 x0 x1 (((x0.getD x1.toNat 0).toNat:Int) != (10:Int))
else none) (k0 x0 x1 false)
theorem t31_15 (x0 x1):exec cl N c31_15 (e9 x0 x1) K=(g31_15 (fun y0 y1 y2=>K .normal (e66 y0 y1 y2)) x0 x1):=by
 kernel_rfl
theorem kp31_5 (x0 x1 x2):keep [0,3] (e66 x0 x1 x2)=(e9 x0 x1):=by kernel_rfl
theorem hb31_4 (x0 x1 x2):boolOf? (ent (e66 x0 x1 x2) (.t 30))=some x2:=by kernel_rfl
def g31_17 (k0:V1→Int→Option R) (x0:V1) (x1:Int):Option R:=
k0 x0 (IntKind.i64.wrap (x1+(1:Int)))
theorem t31_17 (x0 x1):exec cl N c31_17 (e9 x0 x1) K=(g31_17 (fun y0 y1=>K .normal (e9 y0 y1)) x0 x1):=by
 kernel_rfl
def g31_19 (k0:V1→Int→Option R) (k1:V1→Int→Option R) (x0:V1) (x1:Int):Option R:=
(g31_15 (fun y0 y1 y2=>brB y2 ((g31_17 k0) y0 y1) (k1 y0 y1)) x0 x1)
theorem t31_19 (x0 x1):exec cl N c31_19 (e9 x0 x1) K=(g31_19 (fun y0 y1=>K .normal (e9 y0 y1)) (fun y0 y1=>K (.exit 3) (e9 y0 y1)) x0 x1):=by
 simp only [c31_19,exec_seq,seqK_normal,seqK_exit,seqK_ret,t31_15,c31_16,exec_out,exec_cond',hb31_4,Option.bind_some,brB_true,brB_false,exec_skip,exec_exit,kp31_5,c31_18,exec_block,t31_17,blockK_normal,blockK_ret,blockK_eq,kp31_0]
 rfl
def l31_20 {R:Type} (k0:V1→Int→Option R):Nat→V1→Int→Option R
 | 0,_,_=>none
 | m+1,x0,x1=>(g31_19 (l31_20 k0 m) k0 x0 x1)
theorem lt31_20:∀ (m) (x0 x1),iter [0,3] (fun env K=>exec cl N c31_19 env K) K m (e9 x0 x1)=l31_20 (fun y0 y1=>K (.exit 3) (e9 y0 y1)) m x0 x1:=by
 intro m
 induction m with
 | zero=>intros; rfl
 | succ m ih=>
   intro x0 x1
   simp only [iter_succ,t31_19,loopK_normal,loopK_exit,loopK_ret,kp31_0,ih]
   rfl
def g31_20 (N:Nat) (k0:V1→Int→Option R) (x0:V1) (x1:Int) (x2:Bool):Option R:=
l31_20 k0 N x0 x1
theorem t31_20 (x0 x1 x2):exec cl N c31_20 (e65 x0 x1 x2) K=(g31_20 N (fun y0 y1=>K (.exit 3) (e9 y0 y1)) x0 x1 x2):=by
 simp only [c31_20,exec_out,exec_loop,kp31_4,lt31_20,kp31_0]
 rfl
def g31_22 (k0:Int→Option R) (x0:V1) (x1:Int) (x2:Bool):Option R:=
k0 x1
theorem t31_22 (x0 x1 x2):exec cl N c31_22 (e65 x0 x1 x2) K=(g31_22 (fun y0=>K .normal [(2,.v U2 y0)]) x0 x1 x2):=by
 kernel_rfl
theorem kp31_6 (x0):keep [0,2,3] [(2,.v U2 x0)]=(e26 x0):=by kernel_rfl
theorem hb31_5 (x0 x1 x2):boolOf? (ent (e65 x0 x1 x2) (.t 19))=some x2:=by kernel_rfl
theorem kp31_7 (x0 x1):keep [0,2,3] (e27 x0 x1)=(e27 x0 x1):=by kernel_rfl
theorem kp31_8 (x0):keep [0,2,3] (e26 x0)=(e26 x0):=by kernel_rfl
theorem hb31_6 (x0 x1 x2 x3):boolOf? (ent (e64 x0 x1 x2 x3) (.t 12))=some x3:=by kernel_rfl
def g31_27 (N:Nat) (k0:V1→Int→Option R) (k1:Int→Option R) (k2:V1→Int→Option R) (x0:V1) (x1:Int):Option R:=
(g31_2 (fun y0 y1 y2=>brB y2 ((g31_4 (g31_12 (fun y0 y1 y2 y3=>brB y3 (g31_13 k0 y0 y1 y2 y3) (g31_14 (fun y0 y1 y2=>brB y2 (g31_20 N k0 y0 y1 y2) (g31_22 k1 y0 y1 y2)) y0 y1 y2 y3)))) y0 y1) (k2 y0 y1)) x0 x1)
theorem t31_27 (x0 x1):exec cl N c31_27 (e9 x0 x1) K=(g31_27 N (fun y0 y1=>K .normal (e27 y0 y1)) (fun y0=>K .ret (e26 y0)) (fun y0 y1=>K (.exit 0) (e9 y0 y1)) x0 x1):=by
 simp only [c31_27,exec_seq,seqK_normal,seqK_exit,seqK_ret,t31_2,c31_3,exec_out,exec_cond',hb31_0,Option.bind_some,brB_true,brB_false,exec_skip,exec_exit,kp31_1,c31_26,exec_block,t31_4,c31_25,t31_12,c31_24,hb31_6,t31_13,t31_14,c31_23,hb31_5,c31_21,t31_20,blockK_normal,blockK_ret,blockK_eq,kp31_0,t31_22,exec_ret,kp31_3,kp31_6,kp31_7,kp31_8]
 rfl
theorem kp31_9 (x0 x1):keep [0,3] (e27 x0 x1)=(e9 x0 x1):=by kernel_rfl
def l31_28 {R:Type} (N:Nat) (k0:Int→Option R) (k1:V1→Int→Option R):Nat→V1→Int→Option R
 | 0,_,_=>none
 | m+1,x0,x1=>(g31_27 N (l31_28 N k0 k1 m) k0 k1 x0 x1)
theorem lt31_28:∀ (m) (x0 x1),iter [0,3] (fun env K=>exec cl N c31_27 env K) K m (e9 x0 x1)=l31_28 N (fun y0=>K .ret (e26 y0)) (fun y0 y1=>K (.exit 0) (e9 y0 y1)) m x0 x1:=by
 intro m
 induction m with
 | zero=>intros; rfl
 | succ m ih=>
   intro x0 x1
   simp only [iter_succ,t31_27,loopK_normal,loopK_exit,loopK_ret,kp31_9,ih]
   rfl
theorem kp31_10 (x0):keep [2,3] (e26 x0)=(e67 x0):=by kernel_rfl
theorem kp31_11 (x0 x1):keep [2,3] (e9 x0 x1)=(e68 x1):=by kernel_rfl
def g31_28 (N:Nat) (k0:Int→Option R) (k1:Int→Option R) (x0:V1) (x1:Int):Option R:=
l31_28 N k0 (fun y0 y1=>k1 y1) N x0 x1
theorem t31_28 (x0 x1):exec cl N c31_28 (e9 x0 x1) K=(g31_28 N (fun y0=>K .ret (e67 y0)) (fun y0=>K (.exit 0) (e68 y0)) x0 x1):=by
 simp only [c31_28,exec_out,exec_loop,kp31_0,lt31_28,kp31_10,kp31_11]
 rfl
theorem kp31_12 (x0):keep [2,3] (e67 x0)=(e67 x0):=by kernel_rfl
theorem kp31_13 (x0):keep [2,3] (e68 x0)=(e68 x0):=by kernel_rfl
def g31_30 (k0:Int→Option R) (x0:Int):Option R:=
k0 x0
theorem t31_30 (x0):exec cl N c31_30 (e68 x0) K=(g31_30 (fun y0=>K .normal [(2,.v U2 y0)]) x0):=by
 kernel_rfl
def g31_31b (N:Nat) (k0:Int→Option R) (k1:Int→Option R) (x0:V1):Option R:=
(g31_31 (g31_28 N k0 ((g31_30 k1))) x0)
theorem t31_31b (x0):exec cl N c31_31 [(0,.v .str x0)] K=(g31_31b N (fun y0=>K .ret (e67 y0)) (fun y0=>K .ret [(2,.v U2 y0)]) x0):=by
 simp only [exec_seq,seqK_normal,seqK_exit,seqK_ret,t31_31,c31_29,exec_out,exec_block,t31_28,blockK_normal,blockK_ret,blockK_eq,kp31_12,kp31_13,t31_30,exec_ret]
 rfl
theorem rk31_0 (y0):retK d31 .ret (e67 y0)=some [.v U2 y0]:=by kernel_rfl
theorem rk31_1 (y0):retK d31 .ret [(2,.v U2 y0)]=some [.v U2 y0]:=by kernel_rfl
def g31 (N:Nat) (x0:V1) (k:Int→Option R):Option R:=
(g31_31b N k k x0)
theorem gen31 (x0) (k:List E→Option R):exec cl N c31 [(0,.v .str x0)] (fun e env=>(retK d31 e env).bind k)=g31 N x0 (fun r0=>k [.v U2 r0]):=by
 simp only [c31,t31_31b,rk31_0,rk31_1,Option.bind_some]
 rfl
def ctr31 (S:V1→Option (Int)):Ctr:=cv1 31 .str S fun b=> [.v U2 b]
def S31 (N:Nat) (x0:V1):Option (Int):=g31 N x0 (fun (r0:Int)=>some (r0))
def g32_14 (k0:V1→Int→Option R) (x0:V1):Option R:=
k0 x0 (0:Int)
theorem t32_14 (x0):exec cl N c32_14 [(0,.v .str x0)] K=(g32_14 (fun y0 y1=>exec cl N (.seq (.seq c32_2 c32_12) (.seq c32_13 .ret)) (e9 y0 y1) K) x0):=by
 kernel_rfl
def g32_2 (k0:V1→Int→Int→Option R) (x0:V1) (x1:Int):Option R:=
k0 x0 x1 (0:Int)
theorem t32_2 (x0 x1):exec cl N c32_2 (e9 x0 x1) K=(g32_2 (fun y0 y1 y2=>K .normal (e69 y0 y1 y2)) x0 x1):=by
 kernel_rfl
theorem kp32_0 (x0 x1 x2):keep [0,3,4] (e69 x0 x1 x2)=(e69 x0 x1 x2):=by kernel_rfl
def g32_3 (k0:V1→Int→Int→Bool→Option R) (x0:V1) (x1 x2:Int):Option R:=
k0 x0 x1 x2 (decide (x2 < (x0.length:Int)))
theorem t32_3 (x0 x1 x2):exec cl N c32_3 (e69 x0 x1 x2) K=(g32_3 (fun y0 y1 y2 y3=>K .normal (e70 y0 y1 y2 y3)) x0 x1 x2):=by
 kernel_rfl
theorem kp32_1 (x0 x1 x2 x3):keep [0,3,4] (e70 x0 x1 x2 x3)=(e69 x0 x1 x2):=by kernel_rfl
theorem hb32_0 (x0 x1 x2 x3):boolOf? (ent (e70 x0 x1 x2 x3) (.t 8))=some x3:=by kernel_rfl
def g32_5 (k0:V1→Int→Int→Bool→Option R) (x0:V1) (x1 x2:Int):Option R:=
if 0≤x2∧x2 < (x0.length:Int) then
k0 x0 x1 x2 (((x0.getD x2.toNat 0).toNat:Int)==(10:Int))
else none
theorem t32_5 (x0 x1 x2):exec cl N c32_5 (e69 x0 x1 x2) K=(g32_5 (fun y0 y1 y2 y3=>K .normal (e71 y0 y1 y2 y3)) x0 x1 x2):=by
 kernel_rfl
def g32_6 (k0:V1→Int→Int→Option R) (x0:V1) (x1 x2:Int) (x3:Bool):Option R:=
k0 x0 (IntKind.i64.wrap (x1+(1:Int))) x2
theorem t32_6 (x0 x1 x2 x3):exec cl N c32_6 (e71 x0 x1 x2 x3) K=(g32_6 (fun y0 y1 y2=>K .normal (e69 y0 y1 y2)) x0 x1 x2 x3):=by
 kernel_rfl
theorem kp32_2 (x0 x1 x2 x3):keep [0,3,4] (e71 x0 x1 x2 x3)=(e69 x0 x1 x2):=by kernel_rfl
theorem hb32_1 (x0 x1 x2 x3):boolOf? (ent (e71 x0 x1 x2 x3) (.t 14))=some x3:=by kernel_rfl
def g32_8 (k0:V1→Int→Int→Option R) (x0:V1) (x1 x2:Int):Option R:=
(g32_5 (fun y0 y1 y2 y3=>brB y3 (g32_6 k0 y0 y1 y2 y3) (k0 y0 y1 y2)) x0 x1 x2)
theorem t32_8 (x0 x1 x2):exec cl N c32_8 (e69 x0 x1 x2) K=(g32_8 (fun y0 y1 y2=>K .normal (e69 y0 y1 y2)) x0 x1 x2):=by
 simp only [c32_8,exec_out,exec_block,exec_seq,seqK_normal,seqK_exit,seqK_ret,t32_5,c32_7,exec_cond',hb32_1,Option.bind_some,brB_true,brB_false,t32_6,exec_skip,kp32_0,kp32_2,blockK_normal,blockK_ret,blockK_eq]
 rfl
def g32_9 (k0:V1→Int→Int→Option R) (x0:V1) (x1 x2:Int):Option R:=
k0 x0 x1 (IntKind.i64.wrap (x2+(1:Int)))
theorem t32_9 (x0 x1 x2):exec cl N c32_9 (e69 x0 x1 x2) K=(g32_9 (fun y0 y1 y2=>K .normal (e69 y0 y1 y2)) x0 x1 x2):=by
 kernel_rfl
def g32_10 (k0:V1→Int→Int→Option R) (k1:V1→Int→Int→Option R) (x0:V1) (x1 x2:Int):Option R:=
(g32_3 (fun y0 y1 y2 y3=>brB y3 ((g32_8 (g32_9 k0)) y0 y1 y2) (k1 y0 y1 y2)) x0 x1 x2)
theorem t32_10 (x0 x1 x2):exec cl N c32_10 (e69 x0 x1 x2) K=(g32_10 (fun y0 y1 y2=>K .normal (e69 y0 y1 y2)) (fun y0 y1 y2=>K (.exit 0) (e69 y0 y1 y2)) x0 x1 x2):=by
 simp only [c32_10,exec_seq,seqK_normal,seqK_exit,seqK_ret,t32_3,c32_4,exec_out,exec_cond',hb32_0,Option.bind_some,brB_true,brB_false,exec_skip,exec_exit,kp32_1,t32_8,t32_9]
 rfl
def l32_11 {R:Type} (k0:V1→Int→Int→Option R):Nat→V1→Int→Int→Option R
 | 0,_,_,_=>none
 | m+1,x0,x1,x2=>(g32_10 (l32_11 k0 m) k0 x0 x1 x2)
theorem lt32_11:∀ (m) (x0 x1 x2),iter [0,3,4] (fun env K=>exec cl N c32_10 env K) K m (e69 x0 x1 x2)=l32_11 (fun y0 y1 y2=>K (.exit 0) (e69 y0 y1 y2)) m x0 x1 x2:=by
 intro m
 induction m with
 | zero=>intros; rfl
 | succ m ih=>
   intro x0 x1 x2
   simp only [iter_succ,t32_10,loopK_normal,loopK_exit,loopK_ret,kp32_0,ih]
   rfl
theorem kp32_3 (x0 x1 x2):keep [3] (e69 x0 x1 x2)=[(3,.v U2 x1)]:=by kernel_rfl
def g32_11 (N:Nat) (k0:Int→Option R) (x0:V1) (x1 x2:Int):Option R:=
l32_11 (fun y0 y1 y2=>k0 y1) N x0 x1 x2
theorem t32_11 (x0 x1 x2):exec cl N c32_11 (e69 x0 x1 x2) K=(g32_11 N (fun y0=>K (.exit 0) [(3,.v U2 y0)]) x0 x1 x2):=by
 simp only [c32_11,exec_out,exec_loop,kp32_0,lt32_11,kp32_3]
 rfl
theorem kp32_4 (x0):keep [3] [(3,.v U2 x0)]=[(3,.v U2 x0)]:=by kernel_rfl
def g32_13 (k0:Int→Option R) (x0:Int):Option R:=
k0 x0
theorem t32_13 (x0):exec cl N c32_13 [(3,.v U2 x0)] K=(g32_13 (fun y0=>K .normal [(2,.v U2 y0)]) x0):=by
 kernel_rfl
def g32_14b (N:Nat) (k0:Int→Option R) (x0:V1):Option R:=
(g32_14 (g32_2 (g32_11 N ((g32_13 k0)))) x0)
theorem t32_14b (x0):exec cl N c32_14 [(0,.v .str x0)] K=(g32_14b N (fun y0=>K .ret [(2,.v U2 y0)]) x0):=by
 simp only [exec_seq,seqK_normal,seqK_exit,seqK_ret,t32_14,t32_2,c32_12,exec_out,exec_block,t32_11,blockK_normal,blockK_ret,blockK_eq,kp32_4,t32_13,exec_ret]
 rfl
theorem rk32_0 (y0):retK d32 .ret [(2,.v U2 y0)]=some [.v U2 y0]:=by kernel_rfl
def g32 (N:Nat) (x0:V1) (k:Int→Option R):Option R:=
(g32_14b N k x0)
theorem gen32 (x0) (k:List E→Option R):exec cl N c32 [(0,.v .str x0)] (fun e env=>(retK d32 e env).bind k)=g32 N x0 (fun r0=>k [.v U2 r0]):=by
 simp only [c32,t32_14b,rk32_0,Option.bind_some]
 rfl
def ctr32 (S:V1→Option (Int)):Ctr:=cv1 32 .str S fun b=> [.v U2 b]
def S32 (N:Nat) (x0:V1):Option (Int):=g32 N x0 (fun (r0:Int)=>some (r0))
def g56_10 (k0:V1→Int→Option R) (x0:V1):Option R:=
k0 x0 (0:Int)
theorem t56_10 (x0):exec cl N c56_10 [(0,.v .str x0)] K=(g56_10 (fun y0 y1=>exec cl N (.seq c56_8 (.seq c56_9 .ret)) (e9 y0 y1) K) x0):=by
 kernel_rfl
theorem kp56_0 (x0 x1):keep [0,3] (e9 x0 x1)=(e9 x0 x1):=by kernel_rfl
def g56_2 (S73:Int→Option (Bool)) (k0:V1→Int→Bool→Option R) (x0:V1) (x1:Int):Option R:=
brB (decide (x1 < (x0.length:Int))) (if 0≤x1∧x1 < (x0.length:Int) then
(S73 ((x0.getD x1.toNat 0).toNat:Int)).bind fun r317=>
k0 x0 x1 r317
else none) (k0 x0 x1 false)
theorem t56_2 (S73) (h73:(ctr73 S73).holds cl) (x0 x1):exec cl N c56_2 (e9 x0 x1) K=(g56_2 S73 (fun y0 y1 y2=>K .normal (e72 y0 y1 y2)) x0 x1):=by
 rw [←put_eq h73]
 kernel_rfl
theorem kp56_1 (x0 x1 x2):keep [0,3] (e72 x0 x1 x2)=(e9 x0 x1):=by kernel_rfl
theorem hb56_0 (x0 x1 x2):boolOf? (ent (e72 x0 x1 x2) (.t 13))=some x2:=by kernel_rfl
def g56_4 (k0:V1→Int→Option R) (x0:V1) (x1:Int):Option R:=
k0 x0 (IntKind.i64.wrap (x1+(1:Int)))
theorem t56_4 (x0 x1):exec cl N c56_4 (e9 x0 x1) K=(g56_4 (fun y0 y1=>K .normal (e9 y0 y1)) x0 x1):=by
 kernel_rfl
def g56_6 (S73:Int→Option (Bool)) (k0:V1→Int→Option R) (k1:V1→Int→Option R) (x0:V1) (x1:Int):Option R:=
(g56_2 S73 (fun y0 y1 y2=>brB y2 ((g56_4 k0) y0 y1) (k1 y0 y1)) x0 x1)
theorem t56_6 (S73) (h73:(ctr73 S73).holds cl) (x0 x1):exec cl N c56_6 (e9 x0 x1) K=(g56_6 S73 (fun y0 y1=>K .normal (e9 y0 y1)) (fun y0 y1=>K (.exit 0) (e9 y0 y1)) x0 x1):=by
 simp only [c56_6,exec_seq,seqK_normal,seqK_exit,seqK_ret,t56_2 S73 h73,c56_3,exec_out,exec_cond',hb56_0,Option.bind_some,brB_true,brB_false,exec_skip,exec_exit,kp56_1,c56_5,exec_block,t56_4,blockK_normal,blockK_ret,blockK_eq,kp56_0]
 rfl
def l56_7 {R:Type} (S73:Int→Option (Bool)) (k0:V1→Int→Option R):Nat→V1→Int→Option R
 | 0,_,_=>none
 | m+1,x0,x1=>(g56_6 S73 (l56_7 S73 k0 m) k0 x0 x1)
theorem lt56_7 (S73) (h73:(ctr73 S73).holds cl):∀ (m) (x0 x1),iter [0,3] (fun env K=>exec cl N c56_6 env K) K m (e9 x0 x1)=l56_7 S73 (fun y0 y1=>K (.exit 0) (e9 y0 y1)) m x0 x1:=by
 intro m
 induction m with
 | zero=>intros; rfl
 | succ m ih=>
   intro x0 x1
   simp only [iter_succ,t56_6 S73 h73,loopK_normal,loopK_exit,loopK_ret,kp56_0,ih]
   rfl
theorem kp56_2 (x0 x1):keep [3] (e9 x0 x1)=[(3,.v U2 x1)]:=by kernel_rfl
def g56_7 (N:Nat) (S73:Int→Option (Bool)) (k0:Int→Option R) (x0:V1) (x1:Int):Option R:=
l56_7 S73 (fun y0 y1=>k0 y1) N x0 x1
theorem t56_7 (S73) (h73:(ctr73 S73).holds cl) (x0 x1):exec cl N c56_7 (e9 x0 x1) K=(g56_7 N S73 (fun y0=>K (.exit 0) [(3,.v U2 y0)]) x0 x1):=by
 simp only [c56_7,exec_out,exec_loop,kp56_0,lt56_7 S73 h73,kp56_2]
 rfl
theorem kp56_3 (x0):keep [3] [(3,.v U2 x0)]=[(3,.v U2 x0)]:=by kernel_rfl
def g56_9 (k0:Int→Option R) (x0:Int):Option R:=
k0 x0
theorem t56_9 (x0):exec cl N c56_9 [(3,.v U2 x0)] K=(g56_9 (fun y0=>K .normal [(2,.v U2 y0)]) x0):=by
 kernel_rfl
def g56_10b (N:Nat) (S73:Int→Option (Bool)) (k0:Int→Option R) (x0:V1):Option R:=
(g56_10 (g56_7 N S73 ((g56_9 k0))) x0)
theorem t56_10b (S73) (h73:(ctr73 S73).holds cl) (x0):exec cl N c56_10 [(0,.v .str x0)] K=(g56_10b N S73 (fun y0=>K .ret [(2,.v U2 y0)]) x0):=by
 simp only [exec_seq,seqK_normal,seqK_exit,seqK_ret,t56_10,c56_8,exec_out,exec_block,t56_7 S73 h73,blockK_normal,blockK_ret,blockK_eq,kp56_3,t56_9,exec_ret]
 rfl
theorem rk56_0 (y0):retK d56 .ret [(2,.v U2 y0)]=some [.v U2 y0]:=by kernel_rfl
def g56 (N:Nat) (S73:Int→Option (Bool)) (x0:V1) (k:Int→Option R):Option R:=
(g56_10b N S73 k x0)
theorem gen56 (S73) (h73:(ctr73 S73).holds cl) (x0) (k:List E→Option R):exec cl N c56 [(0,.v .str x0)] (fun e env=>(retK d56 e env).bind k)=g56 N S73 x0 (fun r0=>k [.v U2 r0]):=by
 simp only [c56,t56_10b S73 h73,rk56_0,Option.bind_some]
 rfl
def ctr56 (S:V1→Option (Int)):Ctr:=cv1 56 .str S fun b=> [.v U2 b]
def S56 (N:Nat) (x0:V1):Option (Int):=g56 N (S73 N) x0 (fun (r0:Int)=>some (r0))
def g75_2 (k0:Bool→Option R) (x0:Int):Option R:=
brB (decide (x0≥(32:Int))) (brB (decide (x0≤(126:Int))) (k0 (x0 != (34:Int))) (k0 false)) (k0 false)
theorem t75_2 (x0):exec cl N c75_2 [(0,.v U1 x0)] K=(g75_2 (fun y0=>exec cl N .ret [(2,.v .bool y0)] K) x0):=by
 kernel_rfl
def g75_2b (k0:Bool→Option R) (x0:Int):Option R:=
(g75_2 k0 x0)
theorem t75_2b (x0):exec cl N c75_2 [(0,.v U1 x0)] K=(g75_2b (fun y0=>K .ret [(2,.v .bool y0)]) x0):=by
 simp only [exec_seq,seqK_normal,seqK_exit,seqK_ret,t75_2,exec_ret]
 rfl
theorem rk75_0 (y0):retK d75 .ret [(2,.v .bool y0)]=some [.v .bool y0]:=by kernel_rfl
def g75 (x0:Int) (k:Bool→Option R):Option R:=
(g75_2b k x0)
theorem gen75 (x0) (k:List E→Option R):exec cl N c75 [(0,.v U1 x0)] (fun e env=>(retK d75 e env).bind k)=g75 x0 (fun r0=>k [.v .bool r0]):=by
 simp only [c75,t75_2b,rk75_0,Option.bind_some]
 rfl
def ctr75 (S:Int→Option (Bool)):Ctr:=cv1 75 U1 S fun b=> [.v .bool b]
def S75 (N:Nat) (x0:Int):Option (Bool):=g75 x0 (fun (r0:Bool)=>some (r0))
def g57_16 (k0:V1→V14→Int→Option R) (x0:V1):Option R:=
k0 x0 ((0:Int),([],((0:Int),()))) (1:Int)
theorem t57_16 (x0):exec cl N c57_16 [(0,.v .str x0)] K=(g57_16 (fun y0 y1 y2=>exec cl N (.seq c57_8 (.seq (.seq c57_9 c57_11) (.seq (.seq c57_12 c57_14) (.seq c57_15 .ret)))) (e73 y0 y1 y2) K) x0):=by
 kernel_rfl
theorem kp57_0 (x0 x1 x2):keep [0,2,5] (e73 x0 x1 x2)=(e73 x0 x1 x2):=by kernel_rfl
def g57_2 (S75:Int→Option (Bool)) (k0:V1→V14→Int→Bool→Option R) (x0:V1) (x1:V14) (x2:Int):Option R:=
brB (decide (x2 < (x0.length:Int))) (if 0≤x2∧x2 < (x0.length:Int) then
(S75 ((x0.getD x2.toNat 0).toNat:Int)).bind fun r354=>
k0 x0 x1 x2 r354
else none) (k0 x0 x1 x2 false)
theorem t57_2 (S75) (h75:(ctr75 S75).holds cl) (x0 x1 x2):exec cl N c57_2 (e73 x0 x1 x2) K=(g57_2 S75 (fun y0 y1 y2 y3=>K .normal (e74 y0 y1 y2 y3)) x0 x1 x2):=by
 rw [←put_eq h75]
 kernel_rfl
theorem kp57_1 (x0 x1 x2 x3):keep [0,2,5] (e74 x0 x1 x2 x3)=(e73 x0 x1 x2):=by kernel_rfl
theorem hb57_0 (x0 x1 x2 x3):boolOf? (ent (e74 x0 x1 x2 x3) (.t 15))=some x3:=by kernel_rfl
def g57_4 (k0:V1→V14→Int→Option R) (x0:V1) (x1:V14) (x2:Int):Option R:=
k0 x0 x1 (IntKind.i64.wrap (x2+(1:Int)))
theorem t57_4 (x0 x1 x2):exec cl N c57_4 (e73 x0 x1 x2) K=(g57_4 (fun y0 y1 y2=>K .normal (e73 y0 y1 y2)) x0 x1 x2):=by
 kernel_rfl
def g57_6 (S75:Int→Option (Bool)) (k0:V1→V14→Int→Option R) (k1:V1→V14→Int→Option R) (x0:V1) (x1:V14) (x2:Int):Option R:=
(g57_2 S75 (fun y0 y1 y2 y3=>brB y3 ((g57_4 k0) y0 y1 y2) (k1 y0 y1 y2)) x0 x1 x2)
theorem t57_6 (S75) (h75:(ctr75 S75).holds cl) (x0 x1 x2):exec cl N c57_6 (e73 x0 x1 x2) K=(g57_6 S75 (fun y0 y1 y2=>K .normal (e73 y0 y1 y2)) (fun y0 y1 y2=>K (.exit 0) (e73 y0 y1 y2)) x0 x1 x2):=by
 simp only [c57_6,exec_seq,seqK_normal,seqK_exit,seqK_ret,t57_2 S75 h75,c57_3,exec_out,exec_cond',hb57_0,Option.bind_some,brB_true,brB_false,exec_skip,exec_exit,kp57_1,c57_5,exec_block,t57_4,blockK_normal,blockK_ret,blockK_eq,kp57_0]
 rfl
def l57_7 {R:Type} (S75:Int→Option (Bool)) (k0:V1→V14→Int→Option R):Nat→V1→V14→Int→Option R
 | 0,_,_,_=>none
 | m+1,x0,x1,x2=>(g57_6 S75 (l57_7 S75 k0 m) k0 x0 x1 x2)
theorem lt57_7 (S75) (h75:(ctr75 S75).holds cl):∀ (m) (x0 x1 x2),iter [0,2,5] (fun env K=>exec cl N c57_6 env K) K m (e73 x0 x1 x2)=l57_7 S75 (fun y0 y1 y2=>K (.exit 0) (e73 y0 y1 y2)) m x0 x1 x2:=by
 intro m
 induction m with
 | zero=>intros; rfl
 | succ m ih=>
   intro x0 x1 x2
   simp only [iter_succ,t57_6 S75 h75,loopK_normal,loopK_exit,loopK_ret,kp57_0,ih]
   rfl
def g57_7 (N:Nat) (S75:Int→Option (Bool)) (k0:V1→V14→Int→Option R) (x0:V1) (x1:V14) (x2:Int):Option R:=
l57_7 S75 k0 N x0 x1 x2
theorem t57_7 (S75) (h75:(ctr75 S75).holds cl) (x0 x1 x2):exec cl N c57_7 (e73 x0 x1 x2) K=(g57_7 N S75 (fun y0 y1 y2=>K (.exit 0) (e73 y0 y1 y2)) x0 x1 x2):=by
 simp only [c57_7,exec_out,exec_loop,kp57_0,lt57_7 S75 h75,kp57_0]
 rfl
def g57_9 (k0:V1→V14→Int→Bool→Option R) (x0:V1) (x1:V14) (x2:Int):Option R:=
brB (x2==(x0.length:Int)) (k0 x0 x1 x2 true) (if 0≤x2∧x2 < (x0.length:Int) then
k0 x0 x1 x2 (((x0.getD x2.toNat 0).toNat:Int) != (34:Int))
else none)
theorem t57_9 (x0 x1 x2):exec cl N c57_9 (e73 x0 x1 x2) K=(g57_9 (fun y0 y1 y2 y3=>K .normal (e75 y0 y1 y2 y3)) x0 x1 x2):=by
 kernel_rfl
def g57_10 (k0:V14→Int→Int→Option R) (x0:V1) (x1:V14) (x2:Int) (x3:Bool):Option R:=
k0 ((0:Int),[],(0:Int),()) (0:Int) (2:Int)
theorem t57_10 (x0 x1 x2 x3):exec cl N c57_10 (e75 x0 x1 x2 x3) K=(g57_10 (fun y0 y1 y2=>K .normal (e76 y0 y1 y2)) x0 x1 x2 x3):=by
 kernel_rfl
theorem kp57_2 (x0 x1 x2):keep [0,2,3,4,5] (e76 x0 x1 x2)=(e77 x0 x1 x2):=by kernel_rfl
theorem kp57_3 (x0 x1 x2 x3):keep [0,2,3,4,5] (e75 x0 x1 x2 x3)=(e78 x0 x1 x2):=by kernel_rfl
theorem hb57_1 (x0 x1 x2 x3):boolOf? (ent (e75 x0 x1 x2 x3) (.t 27))=some x3:=by kernel_rfl
def g57_12 (k0:V1→V14→Int→Bool→Option R) (x0:V1) (x1:V14) (x2:Int):Option R:=
k0 x0 x1 x2 (decide ((IntKind.i64.wrap (x2 - (1:Int))) > (60:Int)))
theorem t57_12 (x0 x1 x2):exec cl N c57_12 (e78 x0 x1 x2) K=(g57_12 (fun y0 y1 y2 y3=>K .normal (e79 y0 y1 y2 y3)) x0 x1 x2):=by
 kernel_rfl
def g57_13 (k0:V14→Int→Int→Option R) (x0:V1) (x1:V14) (x2:Int) (x3:Bool):Option R:=
k0 ((0:Int),[],(0:Int),()) (0:Int) (3:Int)
theorem t57_13 (x0 x1 x2 x3):exec cl N c57_13 (e79 x0 x1 x2 x3) K=(g57_13 (fun y0 y1 y2=>K .normal (e76 y0 y1 y2)) x0 x1 x2 x3):=by
 kernel_rfl
theorem kp57_4 (x0 x1 x2 x3):keep [0,2,3,4,5] (e79 x0 x1 x2 x3)=(e78 x0 x1 x2):=by kernel_rfl
theorem hb57_2 (x0 x1 x2 x3):boolOf? (ent (e79 x0 x1 x2 x3) (.t 31))=some x3:=by kernel_rfl
def g57_15 (k0:V14→Int→Int→Option R) (x0:V1) (x1:V14) (x2:Int):Option R:=
if 0≤(1:Int)∧(1:Int)≤x2∧x2≤(x0.length:Int) then
k0 ((3:Int),((x0.drop (1:Int).toNat).take (x2.toNat - (1:Int).toNat)),(0:Int),()) (IntKind.i64.wrap (x2+(1:Int))) (0:Int)
else none
theorem t57_15 (x0 x1 x2):exec cl N c57_15 (e78 x0 x1 x2) K=(g57_15 (fun y0 y1 y2=>K .normal (e76 y0 y1 y2)) x0 x1 x2):=by
 kernel_rfl
def g57_16b (N:Nat) (S75:Int→Option (Bool)) (k0:V14→Int→Int→Option R) (k1:V14→Int→Int→Option R) (x0:V1):Option R:=
(g57_16 (g57_7 N S75 ((g57_9 (fun y0 y1 y2 y3=>brB y3 (g57_10 k0 y0 y1 y2 y3) ((g57_12 (fun y0 y1 y2 y3=>brB y3 (g57_13 k0 y0 y1 y2 y3) ((g57_15 k1) y0 y1 y2))) y0 y1 y2))))) x0)
theorem t57_16b (S75) (h75:(ctr75 S75).holds cl) (x0):exec cl N c57_16 [(0,.v .str x0)] K=(g57_16b N S75 (fun y0 y1 y2=>K .ret (e77 y0 y1 y2)) (fun y0 y1 y2=>K .ret (e76 y0 y1 y2)) x0):=by
 simp only [exec_seq,seqK_normal,seqK_exit,seqK_ret,t57_16,c57_8,exec_out,exec_block,t57_7 S75 h75,blockK_normal,blockK_ret,blockK_eq,kp57_0,t57_9,c57_11,exec_cond',hb57_1,Option.bind_some,brB_true,brB_false,t57_10,exec_ret,exec_skip,kp57_2,kp57_3,t57_12,c57_14,hb57_2,t57_13,kp57_4,t57_15]
 rfl
theorem rk57_0 (y0 y1 y2):retK d57 .ret (e77 y0 y1 y2)=some [.v U12 y0,.v U2 y1,.v U2 y2]:=by kernel_rfl
theorem rk57_1 (y0 y1 y2):retK d57 .ret (e76 y0 y1 y2)=some [.v U12 y0,.v U2 y1,.v U2 y2]:=by kernel_rfl
def g57 (N:Nat) (S75:Int→Option (Bool)) (x0:V1) (k:V14→Int→Int→Option R):Option R:=
(g57_16b N S75 k k x0)
theorem gen57 (S75) (h75:(ctr75 S75).holds cl) (x0) (k:List E→Option R):exec cl N c57 [(0,.v .str x0)] (fun e env=>(retK d57 e env).bind k)=g57 N S75 x0 (fun r0 r1 r2=>k [.v U12 r0,.v U2 r1,.v U2 r2]):=by
 simp only [c57,t57_16b S75 h75,rk57_0,rk57_1,Option.bind_some]
 rfl
def ctr57 (S:V1→Option V18):Ctr:=cv1 57 .str S fun b=> [.v U12 b.1,.v U2 b.2.1,.v U2 b.2.2]
def S57 (N:Nat) (x0:V1):Option V18:=g57 N (S75 N) x0 (fun (r0:V14) (r1:Int) (r2:Int)=>some (r0,r1,r2))
def g58_0 (k0:Int→Option R) (x0:Int):Option R:=
k0 x0
theorem t58_0 (x0):exec cl N c58_0 [(0,.v U1 x0)] K=(g58_0 (fun y0=>K .normal [(0,.v U1 y0)]) x0):=by
 kernel_rfl
def g58_1 (k0:Int→Int→Option R) (x0:Int):Option R:=
k0 x0 (0:Int)
theorem t58_1 (x0):exec cl N c58_1 [(0,.v U1 x0)] K=(g58_1 (fun y0 y1=>K .normal (e18 y0 y1)) x0):=by
 kernel_rfl
theorem kp58_0 (x0 x1):keep [0,3] (e18 x0 x1)=(e18 x0 x1):=by kernel_rfl
def g58_2 (k0:Int→Int→Bool→Option R) (x0 x1:Int):Option R:=
k0 x0 x1 (decide (x1 < (21:Int)))
theorem t58_2 (x0 x1):exec cl N c58_2 (e18 x0 x1) K=(g58_2 (fun y0 y1 y2=>K .normal (e80 y0 y1 y2)) x0 x1):=by
 kernel_rfl
theorem kp58_1 (x0 x1 x2):keep [0,3] (e80 x0 x1 x2)=(e18 x0 x1):=by kernel_rfl
theorem hb58_0 (x0 x1 x2):boolOf? (ent (e80 x0 x1 x2) (.t 5))=some x2:=by kernel_rfl
def g58_4 (k0:Int→Int→Bool→Option R) (x0 x1:Int):Option R:=
if 0≤x1∧x1 < (([123,125,40,41,91,93,47,59,58,126,64,61,94,44,46,124,43,42,60,62,45]:List UInt8).length:Int) then
k0 x0 x1 (((([123,125,40,41,91,93,47,59,58,126,64,61,94,44,46,124,43,42,60,62,45]:List UInt8).getD x1.toNat 0).toNat:Int)==x0)
else none
theorem t58_4 (x0 x1):exec cl N c58_4 (e18 x0 x1) K=(g58_4 (fun y0 y1 y2=>K .normal (e19 y0 y1 y2)) x0 x1):=by
 kernel_rfl
def g58_5 (k0:Bool→Option R) (x0 x1:Int) (x2:Bool):Option R:=
k0 true
theorem t58_5 (x0 x1 x2):exec cl N c58_5 (e19 x0 x1 x2) K=(g58_5 (fun y0=>K .normal [(2,.v .bool y0)]) x0 x1 x2):=by
 kernel_rfl
theorem kp58_2 (x0):keep [0,2,3] [(2,.v .bool x0)]=(e21 x0):=by kernel_rfl
theorem kp58_3 (x0 x1 x2):keep [0,2,3] (e19 x0 x1 x2)=(e22 x0 x1):=by kernel_rfl
theorem hb58_1 (x0 x1 x2):boolOf? (ent (e19 x0 x1 x2) (.t 11))=some x2:=by kernel_rfl
theorem kp58_4 (x0):keep [0,2,3] (e21 x0)=(e21 x0):=by kernel_rfl
theorem kp58_5 (x0 x1):keep [0,2,3] (e22 x0 x1)=(e22 x0 x1):=by kernel_rfl
def g58_8 (k0:Int→Int→Option R) (x0 x1:Int):Option R:=
k0 x0 (IntKind.i64.wrap (x1+(1:Int)))
theorem t58_8 (x0 x1):exec cl N c58_8 (e22 x0 x1) K=(g58_8 (fun y0 y1=>K .normal (e18 y0 y1)) x0 x1):=by
 kernel_rfl
def g58_9 (k0:Bool→Option R) (k1:Int→Int→Option R) (k2:Int→Int→Option R) (x0 x1:Int):Option R:=
(g58_2 (fun y0 y1 y2=>brB y2 ((g58_4 (fun y0 y1 y2=>brB y2 (g58_5 k0 y0 y1 y2) (((g58_8 k1)) y0 y1))) y0 y1) (k2 y0 y1)) x0 x1)
theorem t58_9 (x0 x1):exec cl N c58_9 (e18 x0 x1) K=(g58_9 (fun y0=>K .ret (e21 y0)) (fun y0 y1=>K .normal (e18 y0 y1)) (fun y0 y1=>K (.exit 0) (e18 y0 y1)) x0 x1):=by
 simp only [c58_9,exec_seq,seqK_normal,seqK_exit,seqK_ret,t58_2,c58_3,exec_out,exec_cond',hb58_0,Option.bind_some,brB_true,brB_false,exec_skip,exec_exit,kp58_1,c58_7,exec_block,t58_4,c58_6,hb58_1,t58_5,exec_ret,kp58_2,kp58_3,blockK_normal,blockK_ret,blockK_eq,kp58_4,kp58_5,t58_8]
 rfl
def l58_10 {R:Type} (k0:Bool→Option R) (k1:Int→Int→Option R):Nat→Int→Int→Option R
 | 0,_,_=>none
 | m+1,x0,x1=>(g58_9 k0 (l58_10 k0 k1 m) k1 x0 x1)
theorem lt58_10:∀ (m) (x0 x1),iter [0,3] (fun env K=>exec cl N c58_9 env K) K m (e18 x0 x1)=l58_10 (fun y0=>K .ret (e21 y0)) (fun y0 y1=>K (.exit 0) (e18 y0 y1)) m x0 x1:=by
 intro m
 induction m with
 | zero=>intros; rfl
 | succ m ih=>
   intro x0 x1
   simp only [iter_succ,t58_9,loopK_normal,loopK_exit,loopK_ret,kp58_0,ih]
   rfl
theorem kp58_6 (x0):keep [2] (e21 x0)=[(2,.v .bool x0)]:=by kernel_rfl
theorem kp58_7 (x0 x1):keep [2] (e18 x0 x1)=[(2,.dead)]:=by kernel_rfl
def g58_10 (N:Nat) (k0:Bool→Option R) (k1:Option R) (x0 x1:Int):Option R:=
l58_10 k0 (fun y0 y1=>k1) N x0 x1
theorem t58_10 (x0 x1):exec cl N c58_10 (e18 x0 x1) K=(g58_10 N (fun y0=>K .ret [(2,.v .bool y0)]) (K (.exit 0) [(2,.dead)]) x0 x1):=by
 simp only [c58_10,exec_out,exec_loop,kp58_0,lt58_10,kp58_6,kp58_7]
 rfl
theorem kp58_8 (x0):keep [2] [(2,.v .bool x0)]=[(2,.v .bool x0)]:=by kernel_rfl
theorem kp58_9:keep [2] [(2,.dead)]=[(2,.dead)]:=by kernel_rfl
def g58_12 (k0:Bool→Option R):Option R:=
k0 false
theorem t58_12:exec cl N c58_12 [(2,.dead)] K=(g58_12 (fun y0=>K .normal [(2,.v .bool y0)])):=by
 kernel_rfl
def g58_13 (N:Nat) (k0:Bool→Option R) (x0:Int):Option R:=
(g58_0 (g58_1 (g58_10 N k0 (g58_12 k0))) x0)
theorem t58_13 (x0):exec cl N c58_13 [(0,.v U1 x0)] K=(g58_13 N (fun y0=>K .ret [(2,.v .bool y0)]) x0):=by
 simp only [c58_13,exec_seq,seqK_normal,seqK_exit,seqK_ret,t58_0,t58_1,c58_11,exec_out,exec_block,t58_10,blockK_normal,blockK_ret,blockK_eq,kp58_8,kp58_9,t58_12,exec_ret]
 rfl
theorem rk58_0 (y0):retK d58 .ret [(2,.v .bool y0)]=some [.v .bool y0]:=by kernel_rfl
def g58 (N:Nat) (x0:Int) (k:Bool→Option R):Option R:=
(g58_13 N k x0)
theorem gen58 (x0) (k:List E→Option R):exec cl N c58 [(0,.v U1 x0)] (fun e env=>(retK d58 e env).bind k)=g58 N x0 (fun r0=>k [.v .bool r0]):=by
 simp only [c58,t58_13,rk58_0,Option.bind_some]
 rfl
def ctr58 (S:Int→Option (Bool)):Ctr:=cv1 58 U1 S fun b=> [.v .bool b]
def S58 (N:Nat) (x0:Int):Option (Bool):=g58 N x0 (fun (r0:Bool)=>some (r0))
def g33_0 (k0:V1→V14→Option R) (x0:V1):Option R:=
k0 x0 ((0:Int),([],((0:Int),())))
theorem t33_0 (x0):exec cl N c33_0 [(0,.v .str x0)] K=(g33_0 (fun y0 y1=>K .normal (e81 y0 y1)) x0):=by
 kernel_rfl
def g33_8 (S54:V1→Option (Int)) (k0:V1→V14→Int→Bool→Option R) (x0:V1) (x1:V14):Option R:=
(S54 x0).bind fun r379=>
k0 x0 x1 r379 (decide (r379 > (0:Int)))
theorem t33_8 (S54) (h54:(ctr54 S54).holds cl) (x0 x1):exec cl N c33_8 (e81 x0 x1) K=(g33_8 S54 (fun y0 y1 y2 y3=>exec cl N c33_7 (e82 y0 y1 y2 y3) K) x0 x1):=by
 rw [←put_eq h54]
 kernel_rfl
def g33_3 (k0:V1→V14→Int→Bool→Option R) (x0:V1) (x1:V14) (x2:Int) (x3:Bool):Option R:=
k0 x0 x1 x2 (decide (x2 > (20:Int)))
theorem t33_3 (x0 x1 x2 x3):exec cl N c33_3 (e82 x0 x1 x2 x3) K=(g33_3 (fun y0 y1 y2 y3=>K .normal (e83 y0 y1 y2 y3)) x0 x1 x2 x3):=by
 kernel_rfl
def g33_4 (k0:V14→Int→Int→Option R) (x0:V1) (x1:V14) (x2:Int) (x3:Bool):Option R:=
k0 ((0:Int),[],(0:Int),()) (0:Int) (3:Int)
theorem t33_4 (x0 x1 x2 x3):exec cl N c33_4 (e83 x0 x1 x2 x3) K=(g33_4 (fun y0 y1 y2=>K .normal (e76 y0 y1 y2)) x0 x1 x2 x3):=by
 kernel_rfl
theorem kp33_0 (x0 x1 x2):keep [0,2,3,4,5] (e76 x0 x1 x2)=(e77 x0 x1 x2):=by kernel_rfl
theorem kp33_1 (x0 x1 x2 x3):keep [0,2,3,4,5] (e83 x0 x1 x2 x3)=(e78 x0 x1 x2):=by kernel_rfl
theorem hb33_0 (x0 x1 x2 x3):boolOf? (ent (e83 x0 x1 x2 x3) (.t 12))=some x3:=by kernel_rfl
def g33_6 (k0:V14→Int→Int→Option R) (x0:V1) (x1:V14) (x2:Int):Option R:=
if 0≤(0:Int)∧(0:Int)≤x2∧x2≤(x0.length:Int) then
k0 ((1:Int),((x0.drop (0:Int).toNat).take (x2.toNat - (0:Int).toNat)),(0:Int),()) x2 (0:Int)
else none
theorem t33_6 (x0 x1 x2):exec cl N c33_6 (e78 x0 x1 x2) K=(g33_6 (fun y0 y1 y2=>K .normal (e76 y0 y1 y2)) x0 x1 x2):=by
 kernel_rfl
theorem kp33_2 (x0 x1 x2):keep [0,2,3,4] (e77 x0 x1 x2)=(e84 x0 x1 x2):=by kernel_rfl
theorem kp33_3 (x0 x1 x2):keep [0,2,3,4] (e76 x0 x1 x2)=(e84 x0 x1 x2):=by kernel_rfl
theorem kp33_4 (x0 x1 x2 x3):keep [0,2,3,4] (e82 x0 x1 x2 x3)=(e85 x0 x1):=by kernel_rfl
theorem hb33_1 (x0 x1 x2 x3):boolOf? (ent (e82 x0 x1 x2 x3) (.t 10))=some x3:=by kernel_rfl
def g33_19 (S56:V1→Option (Int)) (k0:V1→V14→Int→Bool→Option R) (x0:V1) (x1:V14):Option R:=
(S56 x0).bind fun r386=>
k0 x0 x1 r386 (decide (r386 > (0:Int)))
theorem t33_19 (S56) (h56:(ctr56 S56).holds cl) (x0 x1):exec cl N c33_19 (e85 x0 x1) K=(g33_19 S56 (fun y0 y1 y2 y3=>exec cl N c33_18 (e86 y0 y1 y2 y3) K) x0 x1):=by
 rw [←put_eq h56]
 kernel_rfl
def g33_11 (k0:V1→V14→Int→Bool→Option R) (x0:V1) (x1:V14) (x2:Int) (x3:Bool):Option R:=
k0 x0 x1 x2 (decide (x2 > (6:Int)))
theorem t33_11 (x0 x1 x2 x3):exec cl N c33_11 (e86 x0 x1 x2 x3) K=(g33_11 (fun y0 y1 y2 y3=>K .normal (e87 y0 y1 y2 y3)) x0 x1 x2 x3):=by
 kernel_rfl
def g33_12 (k0:V14→Int→Int→Option R) (x0:V1) (x1:V14) (x2:Int) (x3:Bool):Option R:=
k0 ((0:Int),[],(0:Int),()) (0:Int) (3:Int)
theorem t33_12 (x0 x1 x2 x3):exec cl N c33_12 (e87 x0 x1 x2 x3) K=(g33_12 (fun y0 y1 y2=>K .normal (e76 y0 y1 y2)) x0 x1 x2 x3):=by
 kernel_rfl
theorem kp33_5 (x0 x1 x2):keep [0,2,3,4,6] (e76 x0 x1 x2)=(e88 x0 x1 x2):=by kernel_rfl
theorem kp33_6 (x0 x1 x2 x3):keep [0,2,3,4,6] (e87 x0 x1 x2 x3)=(e89 x0 x1 x2):=by kernel_rfl
theorem hb33_2 (x0 x1 x2 x3):boolOf? (ent (e87 x0 x1 x2 x3) (.t 24))=some x3:=by kernel_rfl
def g33_14 (k0:V1→V14→Int→Bool→Option R) (x0:V1) (x1:V14) (x2:Int):Option R:=
if 0≤(0:Int)∧(0:Int) < (x0.length:Int) then
brB (((x0.getD (0:Int).toNat 0).toNat:Int)==(48:Int)) (k0 x0 x1 x2 (decide (x2 > (1:Int)))) (k0 x0 x1 x2 false)
else none
theorem t33_14 (x0 x1 x2):exec cl N c33_14 (e89 x0 x1 x2) K=(g33_14 (fun y0 y1 y2 y3=>K .normal (e90 y0 y1 y2 y3)) x0 x1 x2):=by
 kernel_rfl
def g33_15 (k0:V14→Int→Int→Option R) (x0:V1) (x1:V14) (x2:Int) (x3:Bool):Option R:=
k0 ((0:Int),[],(0:Int),()) (0:Int) (2:Int)
theorem t33_15 (x0 x1 x2 x3):exec cl N c33_15 (e90 x0 x1 x2 x3) K=(g33_15 (fun y0 y1 y2=>K .normal (e76 y0 y1 y2)) x0 x1 x2 x3):=by
 kernel_rfl
theorem kp33_7 (x0 x1 x2 x3):keep [0,2,3,4,6] (e90 x0 x1 x2 x3)=(e89 x0 x1 x2):=by kernel_rfl
theorem hb33_3 (x0 x1 x2 x3):boolOf? (ent (e90 x0 x1 x2 x3) (.t 32))=some x3:=by kernel_rfl
def g33_17 (k0:V14→Int→Int→Option R) (x0:V1) (x1:V14) (x2:Int):Option R:=
if 0≤(0:Int)∧(0:Int)≤x2∧x2≤(x0.length:Int) then
k0 ((2:Int),((x0.drop (0:Int).toNat).take (x2.toNat - (0:Int).toNat)),(0:Int),()) x2 (0:Int)
else none
theorem t33_17 (x0 x1 x2):exec cl N c33_17 (e89 x0 x1 x2) K=(g33_17 (fun y0 y1 y2=>K .normal (e76 y0 y1 y2)) x0 x1 x2):=by
 kernel_rfl
theorem kp33_8 (x0 x1 x2):keep [0,2,3,4] (e88 x0 x1 x2)=(e84 x0 x1 x2):=by kernel_rfl
theorem kp33_9 (x0 x1 x2 x3):keep [0,2,3,4] (e86 x0 x1 x2 x3)=(e85 x0 x1):=by kernel_rfl
theorem hb33_4 (x0 x1 x2 x3):boolOf? (ent (e86 x0 x1 x2 x3) (.t 22))=some x3:=by kernel_rfl
def g33_20 (k0:V1→V14→Bool→Option R) (x0:V1) (x1:V14):Option R:=
if 0≤(0:Int)∧(0:Int) < (x0.length:Int) then
k0 x0 x1 (((x0.getD (0:Int).toNat 0).toNat:Int)==(34:Int))
else none
theorem t33_20 (x0 x1):exec cl N c33_20 (e85 x0 x1) K=(g33_20 (fun y0 y1 y2=>K .normal (e91 y0 y1 y2)) x0 x1):=by
 kernel_rfl
def g33_21 (S57:V1→Option V18) (k0:V14→Int→Int→Option R) (x0:V1) (x1:V14) (x2:Bool):Option R:=
(S57 x0).bind fun r398=>
k0 r398.1 r398.2.1 r398.2.2
theorem t33_21 (S57) (h57:(ctr57 S57).holds cl) (x0 x1 x2):exec cl N c33_21 (e91 x0 x1 x2) K=(g33_21 S57 (fun y0 y1 y2=>K .normal (e76 y0 y1 y2)) x0 x1 x2):=by
 rw [←put_eq h57]
 kernel_rfl
theorem kp33_10 (x0 x1 x2):keep [0,2,3,4] (e91 x0 x1 x2)=(e85 x0 x1):=by kernel_rfl
theorem hb33_5 (x0 x1 x2):boolOf? (ent (e91 x0 x1 x2) (.t 41))=some x2:=by kernel_rfl
def g33_23 (S58:Int→Option (Bool)) (k0:V1→V14→Bool→Option R) (x0:V1) (x1:V14):Option R:=
if 0≤(0:Int)∧(0:Int) < (x0.length:Int) then
(S58 ((x0.getD (0:Int).toNat 0).toNat:Int)).bind fun r400=>
k0 x0 x1 r400
else none
theorem t33_23 (S58) (h58:(ctr58 S58).holds cl) (x0 x1):exec cl N c33_23 (e85 x0 x1) K=(g33_23 S58 (fun y0 y1 y2=>K .normal (e92 y0 y1 y2)) x0 x1):=by
 rw [←put_eq h58]
 kernel_rfl
def g33_24 (k0:V14→Int→Int→Option R) (x0:V1) (x1:V14) (x2:Bool):Option R:=
if 0≤(0:Int)∧(0:Int)≤(1:Int)∧(1:Int)≤(x0.length:Int) then
k0 ((4:Int),((x0.drop (0:Int).toNat).take ((1:Int).toNat - (0:Int).toNat)),(0:Int),()) (1:Int) (0:Int)
else none
theorem t33_24 (x0 x1 x2):exec cl N c33_24 (e92 x0 x1 x2) K=(g33_24 (fun y0 y1 y2=>K .normal (e76 y0 y1 y2)) x0 x1 x2):=by
 kernel_rfl
theorem kp33_11 (x0 x1 x2):keep [2,3,4] (e76 x0 x1 x2)=(e76 x0 x1 x2):=by kernel_rfl
theorem kp33_12 (x0 x1 x2):keep [2,3,4] (e92 x0 x1 x2)=(e93 x1):=by kernel_rfl
theorem hb33_6 (x0 x1 x2):boolOf? (ent (e92 x0 x1 x2) (.t 49))=some x2:=by kernel_rfl
def g33_26 (k0:V14→Int→Int→Option R) (x0:V14):Option R:=
k0 ((0:Int),[],(0:Int),()) (0:Int) (2:Int)
theorem t33_26 (x0):exec cl N c33_26 (e93 x0) K=(g33_26 (fun y0 y1 y2=>K .normal (e76 y0 y1 y2)) x0):=by
 kernel_rfl
def g33_27 (S54:V1→Option (Int)) (S56:V1→Option (Int)) (S57:V1→Option V18) (S58:Int→Option (Bool)) (k0:V14→Int→Int→Option R) (k1:V14→Int→Int→Option R) (x0:V1):Option R:=
(g33_0 (g33_8 S54 (fun y0 y1 y2 y3=>brB y3 (g33_3 (fun y0 y1 y2 y3=>brB y3 (g33_4 k0 y0 y1 y2 y3) ((g33_6 k0) y0 y1 y2)) y0 y1 y2 y3) ((g33_19 S56 (fun y0 y1 y2 y3=>brB y3 (g33_11 (fun y0 y1 y2 y3=>brB y3 (g33_12 k0 y0 y1 y2 y3) ((g33_14 (fun y0 y1 y2 y3=>brB y3 (g33_15 k0 y0 y1 y2 y3) ((g33_17 k0) y0 y1 y2))) y0 y1 y2)) y0 y1 y2 y3) ((g33_20 (fun y0 y1 y2=>brB y2 (g33_21 S57 k0 y0 y1 y2) ((g33_23 S58 (fun y0 y1 y2=>brB y2 (g33_24 k1 y0 y1 y2) ((g33_26 k1) y1))) y0 y1))) y0 y1))) y0 y1))) x0)
theorem t33_27 (S54) (S56) (S57) (S58) (h54:(ctr54 S54).holds cl) (h56:(ctr56 S56).holds cl) (h57:(ctr57 S57).holds cl) (h58:(ctr58 S58).holds cl) (x0):exec cl N c33_27 [(0,.v .str x0)] K=(g33_27 S54 S56 S57 S58 (fun y0 y1 y2=>K .ret (e84 y0 y1 y2)) (fun y0 y1 y2=>K .ret (e76 y0 y1 y2)) x0):=by
 simp only [c33_27,exec_seq,seqK_normal,seqK_exit,seqK_ret,t33_0,t33_8 S54 h54,c33_7,exec_out,exec_cond',hb33_1,Option.bind_some,brB_true,brB_false,t33_3,c33_5,hb33_0,t33_4,exec_ret,exec_skip,kp33_0,kp33_1,t33_6,kp33_2,kp33_3,kp33_4,t33_19 S56 h56,c33_18,hb33_4,t33_11,c33_13,hb33_2,t33_12,kp33_5,kp33_6,t33_14,c33_16,hb33_3,t33_15,kp33_7,t33_17,kp33_8,kp33_9,t33_20,c33_22,hb33_5,t33_21 S57 h57,kp33_10,t33_23 S58 h58,c33_25,hb33_6,t33_24,kp33_11,kp33_12,t33_26]
 rfl
theorem rk33_0 (y0 y1 y2):retK d33 .ret (e84 y0 y1 y2)=some [.v U12 y0,.v U2 y1,.v U2 y2]:=by kernel_rfl
theorem rk33_1 (y0 y1 y2):retK d33 .ret (e76 y0 y1 y2)=some [.v U12 y0,.v U2 y1,.v U2 y2]:=by kernel_rfl
def g33 (S54:V1→Option (Int)) (S56:V1→Option (Int)) (S57:V1→Option V18) (S58:Int→Option (Bool)) (x0:V1) (k:V14→Int→Int→Option R):Option R:=
(g33_27 S54 S56 S57 S58 k k x0)
theorem gen33 (S54) (S56) (S57) (S58) (h54:(ctr54 S54).holds cl) (h56:(ctr56 S56).holds cl) (h57:(ctr57 S57).holds cl) (h58:(ctr58 S58).holds cl) (x0) (k:List E→Option R):exec cl N c33 [(0,.v .str x0)] (fun e env=>(retK d33 e env).bind k)=g33 S54 S56 S57 S58 x0 (fun r0 r1 r2=>k [.v U12 r0,.v U2 r1,.v U2 r2]):=by
 simp only [c33,t33_27 S54 S56 S57 S58 h54 h56 h57 h58,rk33_0,rk33_1,Option.bind_some]
 rfl
def ctr33 (S:V1→Option V18):Ctr:=cv1 33 .str S fun b=> [.v U12 b.1,.v U2 b.2.1,.v U2 b.2.2]
def S33 (N:Nat) (x0:V1):Option V18:=g33 (S54 N) (S56 N) (S57 N) (S58 N) x0 (fun (r0:V14) (r1:Int) (r2:Int)=>some (r0,r1,r2))
def g11_0 (k0:V1→Option R) (x0:V1):Option R:=
k0 x0
theorem t11_0 (x0):exec cl N c11_0 [(0,.v .str x0)] K=(g11_0 (fun y0=>K .normal [(0,.v .str y0)]) x0):=by
 kernel_rfl
def g11_1 (k0:V1→Bool→Option R) (x0:V1):Option R:=
k0 x0 (decide ((x0.length:Int) > (20000:Int)))
theorem t11_1 (x0):exec cl N c11_1 [(0,.v .str x0)] K=(g11_1 (fun y0 y1=>K .normal (e94 y0 y1)) x0):=by
 kernel_rfl
def g11_2 (k0:V16→Int→Int→Option R) (x0:V1) (x1:Bool):Option R:=
k0 [] (0:Int) (3:Int)
theorem t11_2 (x0 x1):exec cl N c11_2 (e94 x0 x1) K=(g11_2 (fun y0 y1 y2=>K .normal (e95 y0 y1 y2)) x0 x1):=by
 kernel_rfl
theorem kp11_0 (x0 x1 x2):keep [0,2,3,4] (e95 x0 x1 x2)=(e96 x0 x1 x2):=by kernel_rfl
theorem kp11_1 (x0 x1):keep [0,2,3,4] (e94 x0 x1)=(e97 x0):=by kernel_rfl
theorem hb11_0 (x0 x1):boolOf? (ent (e94 x0 x1) (.t 13))=some x1:=by kernel_rfl
def g11_25 (k0:V1→V16→Int→Int→Option R) (x0:V1):Option R:=
k0 x0 [] (1:Int) (0:Int)
theorem t11_25 (x0):exec cl N c11_25 (e97 x0) K=(g11_25 (fun y0 y1 y2 y3=>exec cl N c11_24 (e98 y0 y1 y2 y3) K) x0):=by
 kernel_rfl
theorem kp11_2 (x0 x1 x2 x3):keep [0,5,6,7] (e98 x0 x1 x2 x3)=(e98 x0 x1 x2 x3):=by kernel_rfl
def g11_21 (S31:V1→Option (Int)) (S32:V1→Option (Int)) (k0:V1→V16→Int→Int→Option R) (x0:V1) (x1:V16) (x2 x3:Int):Option R:=
if 0≤x3∧x3≤(x0.length:Int)∧(x0.length:Int)≤(x0.length:Int) then
(S31 ((x0.drop x3.toNat).take ((x0.length:Int).toNat - x3.toNat))).bind fun r417=>
let v418:Int:=(IntKind.i64.wrap (x3+r417))
if 0≤x3∧x3≤v418∧v418≤(x0.length:Int) then
(S32 ((x0.drop x3.toNat).take (v418.toNat - x3.toNat))).bind fun r420=>
k0 x0 x1 (IntKind.i64.wrap (x2+r420)) (IntKind.i64.wrap (x3+r417))
else none
else none
theorem t11_21 (S31) (S32) (h31:(ctr31 S31).holds cl) (h32:(ctr32 S32).holds cl) (x0 x1 x2 x3):exec cl N c11_21 (e98 x0 x1 x2 x3) K=(g11_21 S31 S32 (fun y0 y1 y2 y3=>exec cl N (.seq (.seq c11_10 c11_12) (.seq c11_13 (.seq (.seq c11_14 c11_16) c11_20))) (e98 y0 y1 y2 y3) K) x0 x1 x2 x3):=by
 rw [←put_eq h31]
 rw [←put_eq h32]
 kernel_rfl
def g11_10 (k0:V1→V16→Int→Int→Bool→Option R) (x0:V1) (x1:V16) (x2 x3:Int):Option R:=
k0 x0 x1 x2 x3 (x3==(x0.length:Int))
theorem t11_10 (x0 x1 x2 x3):exec cl N c11_10 (e98 x0 x1 x2 x3) K=(g11_10 (fun y0 y1 y2 y3 y4=>K .normal (e99 y0 y1 y2 y3 y4)) x0 x1 x2 x3):=by
 kernel_rfl
def g11_11 (k0:Int→Int→V16→Option R) (x0:V1) (x1:V16) (x2 x3:Int) (x4:Bool):Option R:=
k0 (0:Int) (0:Int) x1
theorem t11_11 (x0 x1 x2 x3 x4):exec cl N c11_11 (e99 x0 x1 x2 x3 x4) K=(g11_11 (fun y0 y1 y2=>K .normal (e100 y0 y1 y2)) x0 x1 x2 x3 x4):=by
 kernel_rfl
theorem kp11_3 (x0 x1 x2):keep [0,2,3,4,5,6,7] (e100 x0 x1 x2)=(e101 x0 x1 x2):=by kernel_rfl
theorem kp11_4 (x0 x1 x2 x3 x4):keep [0,2,3,4,5,6,7] (e99 x0 x1 x2 x3 x4)=(e102 x0 x1 x2 x3):=by kernel_rfl
theorem hb11_1 (x0 x1 x2 x3 x4):boolOf? (ent (e99 x0 x1 x2 x3 x4) (.t 33))=some x4:=by kernel_rfl
def g11_13 (S33:V1→Option V18) (k0:V1→V16→Int→Int→Int→V14→Int→Option R) (x0:V1) (x1:V16) (x2 x3:Int):Option R:=
if 0≤x3∧x3≤(x0.length:Int)∧(x0.length:Int)≤(x0.length:Int) then
(S33 ((x0.drop x3.toNat).take ((x0.length:Int).toNat - x3.toNat))).bind fun r425=>
k0 x0 x1 x2 x3 r425.2.1 r425.1 r425.2.2
else none
theorem t11_13 (S33) (h33:(ctr33 S33).holds cl) (x0 x1 x2 x3):exec cl N c11_13 (e102 x0 x1 x2 x3) K=(g11_13 S33 (fun y0 y1 y2 y3 y4 y5 y6=>K .normal (e103 y0 y1 y2 y3 y4 y5 y6)) x0 x1 x2 x3):=by
 rw [←put_eq h33]
 kernel_rfl
def g11_14 (k0:V1→V16→Int→Int→Int→V14→Int→Bool→Option R) (x0:V1) (x1:V16) (x2 x3 x4:Int) (x5:V14) (x6:Int):Option R:=
k0 x0 x1 x2 x3 x4 x5 x6 (x6 != (0:Int))
theorem t11_14 (x0 x1 x2 x3 x4 x5 x6):exec cl N c11_14 (e103 x0 x1 x2 x3 x4 x5 x6) K=(g11_14 (fun y0 y1 y2 y3 y4 y5 y6 y7=>K .normal (e104 y0 y1 y2 y3 y4 y5 y6 y7)) x0 x1 x2 x3 x4 x5 x6):=by
 kernel_rfl
def g11_15 (k0:V16→Int→Int→Option R) (x0:V1) (x1:V16) (x2 x3 x4:Int) (x5:V14) (x6:Int) (x7:Bool):Option R:=
k0 [] x2 x6
theorem t11_15 (x0 x1 x2 x3 x4 x5 x6 x7):exec cl N c11_15 (e104 x0 x1 x2 x3 x4 x5 x6 x7) K=(g11_15 (fun y0 y1 y2=>K .normal (e95 y0 y1 y2)) x0 x1 x2 x3 x4 x5 x6 x7):=by
 kernel_rfl
theorem kp11_5 (x0 x1 x2):keep [0,2,3,4,5,6,7,8,9] (e95 x0 x1 x2)=(e105 x0 x1 x2):=by kernel_rfl
theorem kp11_6 (x0 x1 x2 x3 x4 x5 x6 x7):keep [0,2,3,4,5,6,7,8,9] (e104 x0 x1 x2 x3 x4 x5 x6 x7)=(e106 x0 x1 x2 x3 x4 x5):=by kernel_rfl
theorem hb11_2 (x0 x1 x2 x3 x4 x5 x6 x7):boolOf? (ent (e104 x0 x1 x2 x3 x4 x5 x6 x7) (.t 44))=some x7:=by kernel_rfl
def g11_20 (k0:V1→V16→Int→Int→Option R) (x0:V1) (x1:V16) (x2 x3 x4:Int) (x5:V14):Option R:=
if x1.length+[(x5.1,(x5.2.1,(x2,x5.2.2.2)))].length≤4398046511104 then
k0 x0 (x1++[(x5.1,(x5.2.1,(x2,x5.2.2.2)))]) x2 (IntKind.i64.wrap (x3+x4))
else none
theorem t11_20 (x0 x1 x2 x3 x4 x5):exec cl N c11_20 (e106 x0 x1 x2 x3 x4 x5) K=(g11_20 (fun y0 y1 y2 y3=>K .normal (e98 y0 y1 y2 y3)) x0 x1 x2 x3 x4 x5):=by
 kernel_rfl
theorem kp11_7 (x0 x1 x2):keep [0,2,3,4,5,6,7] (e101 x0 x1 x2)=(e101 x0 x1 x2):=by kernel_rfl
theorem kp11_8 (x0 x1 x2):keep [0,2,3,4,5,6,7] (e105 x0 x1 x2)=(e107 x0 x1 x2):=by kernel_rfl
theorem kp11_9 (x0 x1 x2 x3):keep [0,2,3,4,5,6,7] (e98 x0 x1 x2 x3)=(e102 x0 x1 x2 x3):=by kernel_rfl
def g11_22 (S31:V1→Option (Int)) (S32:V1→Option (Int)) (S33:V1→Option V18) (k0:Int→Int→V16→Option R) (k1:V16→Int→Int→Option R) (k2:V1→V16→Int→Int→Option R) (x0:V1) (x1:V16) (x2 x3:Int):Option R:=
(g11_21 S31 S32 (g11_10 (fun y0 y1 y2 y3 y4=>brB y4 (g11_11 k0 y0 y1 y2 y3 y4) ((g11_13 S33 (g11_14 (fun y0 y1 y2 y3 y4 y5 y6 y7=>brB y7 (g11_15 k1 y0 y1 y2 y3 y4 y5 y6 y7) ((g11_20 k2) y0 y1 y2 y3 y4 y5)))) y0 y1 y2 y3))) x0 x1 x2 x3)
theorem t11_22 (S31) (S32) (S33) (h31:(ctr31 S31).holds cl) (h32:(ctr32 S32).holds cl) (h33:(ctr33 S33).holds cl) (x0 x1 x2 x3):exec cl N c11_22 (e98 x0 x1 x2 x3) K=(g11_22 S31 S32 S33 (fun y0 y1 y2=>K .ret (e101 y0 y1 y2)) (fun y0 y1 y2=>K .ret (e107 y0 y1 y2)) (fun y0 y1 y2 y3=>K .normal (e102 y0 y1 y2 y3)) x0 x1 x2 x3):=by
 simp only [c11_22,exec_out,exec_block,exec_seq,seqK_normal,seqK_exit,seqK_ret,t11_21 S31 S32 h31 h32,t11_10,c11_12,exec_cond',hb11_1,Option.bind_some,brB_true,brB_false,t11_11,exec_ret,exec_skip,kp11_3,kp11_4,t11_13 S33 h33,t11_14,c11_16,hb11_2,t11_15,kp11_5,kp11_6,t11_20,blockK_normal,blockK_ret,blockK_eq,kp11_7,kp11_8,kp11_9]
 rfl
theorem kp11_10 (x0 x1 x2 x3):keep [0,5,6,7] (e102 x0 x1 x2 x3)=(e98 x0 x1 x2 x3):=by kernel_rfl
def l11_23 {R:Type} (S31:V1→Option (Int)) (S32:V1→Option (Int)) (S33:V1→Option V18) (k0:Int→Int→V16→Option R) (k1:V16→Int→Int→Option R):Nat→V1→V16→Int→Int→Option R
 | 0,_,_,_,_=>none
 | m+1,x0,x1,x2,x3=>(g11_22 S31 S32 S33 k0 k1 (l11_23 S31 S32 S33 k0 k1 m) x0 x1 x2 x3)
theorem lt11_23 (S31) (S32) (S33) (h31:(ctr31 S31).holds cl) (h32:(ctr32 S32).holds cl) (h33:(ctr33 S33).holds cl):∀ (m) (x0 x1 x2 x3),iter [0,5,6,7] (fun env K=>exec cl N c11_22 env K) K m (e98 x0 x1 x2 x3)=l11_23 S31 S32 S33 (fun y0 y1 y2=>K .ret (e101 y0 y1 y2)) (fun y0 y1 y2=>K .ret (e107 y0 y1 y2)) m x0 x1 x2 x3:=by
 intro m
 induction m with
 | zero=>intros; rfl
 | succ m ih=>
   intro x0 x1 x2 x3
   simp only [iter_succ,t11_22 S31 S32 S33 h31 h32 h33,loopK_normal,loopK_exit,loopK_ret,kp11_10,ih]
   rfl
theorem kp11_11 (x0 x1 x2):keep [2,3,4,5] (e101 x0 x1 x2)=(e100 x0 x1 x2):=by kernel_rfl
theorem kp11_12 (x0 x1 x2):keep [2,3,4,5] (e107 x0 x1 x2)=(e108 x0 x1 x2):=by kernel_rfl
def g11_23 (N:Nat) (S31:V1→Option (Int)) (S32:V1→Option (Int)) (S33:V1→Option V18) (k0:Int→Int→V16→Option R) (k1:V16→Int→Int→Option R) (x0:V1) (x1:V16) (x2 x3:Int):Option R:=
l11_23 S31 S32 S33 k0 k1 N x0 x1 x2 x3
theorem t11_23 (S31) (S32) (S33) (h31:(ctr31 S31).holds cl) (h32:(ctr32 S32).holds cl) (h33:(ctr33 S33).holds cl) (x0 x1 x2 x3):exec cl N c11_23 (e98 x0 x1 x2 x3) K=(g11_23 N S31 S32 S33 (fun y0 y1 y2=>K .ret (e100 y0 y1 y2)) (fun y0 y1 y2=>K .ret (e108 y0 y1 y2)) x0 x1 x2 x3):=by
 simp only [c11_23,exec_out,exec_loop,kp11_2,lt11_23 S31 S32 S33 h31 h32 h33,kp11_11,kp11_12]
 rfl
theorem kp11_13 (x0 x1 x2):keep [2,3,4,5] (e100 x0 x1 x2)=(e100 x0 x1 x2):=by kernel_rfl
theorem kp11_14 (x0 x1 x2):keep [2,3,4,5] (e108 x0 x1 x2)=(e108 x0 x1 x2):=by kernel_rfl
def g11_26 (N:Nat) (S31:V1→Option (Int)) (S32:V1→Option (Int)) (S33:V1→Option V18) (k0:V16→Int→Int→Option R) (k1:Int→Int→V16→Option R) (k2:V16→Int→Int→Option R) (x0:V1):Option R:=
(g11_0 (g11_1 (fun y0 y1=>brB y1 (g11_2 k0 y0 y1) ((g11_25 (g11_23 N S31 S32 S33 k1 k2)) y0))) x0)
theorem t11_26 (S31) (S32) (S33) (h31:(ctr31 S31).holds cl) (h32:(ctr32 S32).holds cl) (h33:(ctr33 S33).holds cl) (x0):exec cl N c11_26 [(0,.v .str x0)] K=(g11_26 N S31 S32 S33 (fun y0 y1 y2=>K .ret (e96 y0 y1 y2)) (fun y0 y1 y2=>K .ret (e100 y0 y1 y2)) (fun y0 y1 y2=>K .ret (e108 y0 y1 y2)) x0):=by
 simp only [c11_26,exec_seq,seqK_normal,seqK_exit,seqK_ret,t11_0,t11_1,c11_3,exec_out,exec_cond',hb11_0,Option.bind_some,brB_true,brB_false,t11_2,exec_ret,exec_skip,kp11_0,kp11_1,t11_25,c11_24,exec_block,t11_23 S31 S32 S33 h31 h32 h33,blockK_normal,blockK_ret,blockK_eq,kp11_13,kp11_14]
 rfl
theorem rk11_0 (y0 y1 y2):retK d11 .ret (e96 y0 y1 y2)=some [.own true 36 U12 .no y0,.v U2 y1,.v U2 y2]:=by kernel_rfl
theorem rk11_1 (y0 y1 y2):retK d11 .ret (e100 y0 y1 y2)=some [.own true 36 U12 .no y2,.v U2 y0,.v U2 y1]:=by kernel_rfl
theorem rk11_2 (y0 y1 y2):retK d11 .ret (e108 y0 y1 y2)=some [.own true 36 U12 .no y0,.v U2 y1,.v U2 y2]:=by kernel_rfl
def g11 (N:Nat) (S31:V1→Option (Int)) (S32:V1→Option (Int)) (S33:V1→Option V18) (x0:V1) (k:V16→Int→Int→Option R):Option R:=
(g11_26 N S31 S32 S33 k (fun y0 y1 y2=>k y2 y0 y1) k x0)
theorem gen11 (S31) (S32) (S33) (h31:(ctr31 S31).holds cl) (h32:(ctr32 S32).holds cl) (h33:(ctr33 S33).holds cl) (x0) (k:List E→Option R):exec cl N c11 [(0,.v .str x0)] (fun e env=>(retK d11 e env).bind k)=g11 N S31 S32 S33 x0 (fun r0 r1 r2=>k [.own true 36 U12 .no r0,.v U2 r1,.v U2 r2]):=by
 simp only [c11,t11_26 S31 S32 S33 h31 h32 h33,rk11_0,rk11_1,rk11_2,Option.bind_some]
 rfl
def ctr11 (S:V1→Option V19):Ctr:=cv1 11 .str S fun b=> [.own true 36 U12 .no b.1,.v U2 b.2.1,.v U2 b.2.2]
def S11 (N:Nat) (x0:V1):Option V19:=g11 N (S31 N) (S32 N) (S33 N) x0 (fun (r0:V16) (r1:Int) (r2:Int)=>some (r0,r1,r2))
def g59_0 (k0:V1→Option R) (x0:V1):Option R:=
k0 x0
theorem t59_0 (x0):exec cl N c59_0 [(0,.v .str x0)] K=(g59_0 (fun y0=>K .normal [(0,.v .str y0)]) x0):=by
 kernel_rfl
def g59_1 (S56:V1→Option (Int)) (k0:V1→Bool→Option R) (x0:V1):Option R:=
brB (x0==([]:List UInt8)) (k0 x0 true) (brB (decide ((x0.length:Int) > (6:Int))) (k0 x0 true) ((S56 x0).bind fun r454=>
brB (r454 != (x0.length:Int)) (k0 x0 true) (if 0≤(0:Int)∧(0:Int) < (x0.length:Int) then
brB (((x0.getD (0:Int).toNat 0).toNat:Int)==(48:Int)) (k0 x0 (decide ((x0.length:Int) > (1:Int)))) (k0 x0 false)
else none)))
theorem t59_1 (S56) (h56:(ctr56 S56).holds cl) (x0):exec cl N c59_1 [(0,.v .str x0)] K=(g59_1 S56 (fun y0 y1=>K .normal (e109 y0 y1)) x0):=by
 rw [←put_eq h56]
 kernel_rfl
def g59_2 (k0:Int→Bool→Option R) (x0:V1) (x1:Bool):Option R:=
k0 (0:Int) false
theorem t59_2 (x0 x1):exec cl N c59_2 (e109 x0 x1) K=(g59_2 (fun y0 y1=>K .normal (e110 y0 y1)) x0 x1):=by
 kernel_rfl
theorem kp59_0 (x0 x1):keep [0,2,3] (e110 x0 x1)=(e111 x0 x1):=by kernel_rfl
theorem kp59_1 (x0 x1):keep [0,2,3] (e109 x0 x1)=(e112 x0):=by kernel_rfl
theorem hb59_0 (x0 x1):boolOf? (ent (e109 x0 x1) (.t 29))=some x1:=by kernel_rfl
def g59_4 (k0:V1→Int→Option R) (x0:V1):Option R:=
k0 x0 (0:Int)
theorem t59_4 (x0):exec cl N c59_4 (e112 x0) K=(g59_4 (fun y0 y1=>K .normal (e113 y0 y1)) x0):=by
 kernel_rfl
def g59_5 (k0:V1→Int→Int→Option R) (x0:V1) (x1:Int):Option R:=
k0 x0 x1 (0:Int)
theorem t59_5 (x0 x1):exec cl N c59_5 (e113 x0 x1) K=(g59_5 (fun y0 y1 y2=>K .normal (e114 y0 y1 y2)) x0 x1):=by
 kernel_rfl
theorem kp59_2 (x0 x1 x2):keep [0,4,5] (e114 x0 x1 x2)=(e114 x0 x1 x2):=by kernel_rfl
def g59_6 (k0:V1→Int→Int→Bool→Option R) (x0:V1) (x1 x2:Int):Option R:=
k0 x0 x1 x2 (decide (x2 < (x0.length:Int)))
theorem t59_6 (x0 x1 x2):exec cl N c59_6 (e114 x0 x1 x2) K=(g59_6 (fun y0 y1 y2 y3=>K .normal (e115 y0 y1 y2 y3)) x0 x1 x2):=by
 kernel_rfl
theorem kp59_3 (x0 x1 x2 x3):keep [0,4,5] (e115 x0 x1 x2 x3)=(e114 x0 x1 x2):=by kernel_rfl
theorem hb59_1 (x0 x1 x2 x3):boolOf? (ent (e115 x0 x1 x2 x3) (.t 33))=some x3:=by kernel_rfl
def g59_8 (k0:V1→Int→Int→Option R) (x0:V1) (x1 x2:Int):Option R:=
if 0≤x2∧x2 < (x0.length:Int) then
k0 x0 (IntKind.i64.wrap ((IntKind.i64.wrap ((10:Int) * x1))+(IntKind.i64.wrap (IntKind.u8.wrap (((x0.getD x2.toNat 0).toNat:Int) - (48:Int)))))) x2
else none
theorem t59_8 (x0 x1 x2):exec cl N c59_8 (e114 x0 x1 x2) K=(g59_8 (fun y0 y1 y2=>K .normal (e114 y0 y1 y2)) x0 x1 x2):=by
 kernel_rfl
def g59_10 (k0:V1→Int→Int→Option R) (x0:V1) (x1 x2:Int):Option R:=
k0 x0 x1 (IntKind.i64.wrap (x2+(1:Int)))
theorem t59_10 (x0 x1 x2):exec cl N c59_10 (e114 x0 x1 x2) K=(g59_10 (fun y0 y1 y2=>K .normal (e114 y0 y1 y2)) x0 x1 x2):=by
 kernel_rfl
def g59_11 (k0:V1→Int→Int→Option R) (k1:V1→Int→Int→Option R) (x0:V1) (x1 x2:Int):Option R:=
(g59_6 (fun y0 y1 y2 y3=>brB y3 ((g59_8 ((g59_10 k0))) y0 y1 y2) (k1 y0 y1 y2)) x0 x1 x2)
theorem t59_11 (x0 x1 x2):exec cl N c59_11 (e114 x0 x1 x2) K=(g59_11 (fun y0 y1 y2=>K .normal (e114 y0 y1 y2)) (fun y0 y1 y2=>K (.exit 0) (e114 y0 y1 y2)) x0 x1 x2):=by
 simp only [c59_11,exec_seq,seqK_normal,seqK_exit,seqK_ret,t59_6,c59_7,exec_out,exec_cond',hb59_1,Option.bind_some,brB_true,brB_false,exec_skip,exec_exit,kp59_3,c59_9,exec_block,t59_8,blockK_normal,blockK_ret,blockK_eq,kp59_2,t59_10]
 rfl
def l59_12 {R:Type} (k0:V1→Int→Int→Option R):Nat→V1→Int→Int→Option R
 | 0,_,_,_=>none
 | m+1,x0,x1,x2=>(g59_11 (l59_12 k0 m) k0 x0 x1 x2)
theorem lt59_12:∀ (m) (x0 x1 x2),iter [0,4,5] (fun env K=>exec cl N c59_11 env K) K m (e114 x0 x1 x2)=l59_12 (fun y0 y1 y2=>K (.exit 0) (e114 y0 y1 y2)) m x0 x1 x2:=by
 intro m
 induction m with
 | zero=>intros; rfl
 | succ m ih=>
   intro x0 x1 x2
   simp only [iter_succ,t59_11,loopK_normal,loopK_exit,loopK_ret,kp59_2,ih]
   rfl
theorem kp59_4 (x0 x1 x2):keep [4] (e114 x0 x1 x2)=[(4,.v U2 x1)]:=by kernel_rfl
def g59_12 (N:Nat) (k0:Int→Option R) (x0:V1) (x1 x2:Int):Option R:=
l59_12 (fun y0 y1 y2=>k0 y1) N x0 x1 x2
theorem t59_12 (x0 x1 x2):exec cl N c59_12 (e114 x0 x1 x2) K=(g59_12 N (fun y0=>K (.exit 0) [(4,.v U2 y0)]) x0 x1 x2):=by
 simp only [c59_12,exec_out,exec_loop,kp59_2,lt59_12,kp59_4]
 rfl
theorem kp59_5 (x0):keep [4] [(4,.v U2 x0)]=[(4,.v U2 x0)]:=by kernel_rfl
def g59_14 (k0:Int→Bool→Option R) (x0:Int):Option R:=
k0 x0 true
theorem t59_14 (x0):exec cl N c59_14 [(4,.v U2 x0)] K=(g59_14 (fun y0 y1=>K .normal (e110 y0 y1)) x0):=by
 kernel_rfl
def g59_15 (N:Nat) (S56:V1→Option (Int)) (k0:Int→Bool→Option R) (k1:Int→Bool→Option R) (x0:V1):Option R:=
(g59_0 (g59_1 S56 (fun y0 y1=>brB y1 (g59_2 k0 y0 y1) ((g59_4 (g59_5 (g59_12 N ((g59_14 k1))))) y0))) x0)
theorem t59_15 (S56) (h56:(ctr56 S56).holds cl) (x0):exec cl N c59_15 [(0,.v .str x0)] K=(g59_15 N S56 (fun y0 y1=>K .ret (e111 y0 y1)) (fun y0 y1=>K .ret (e110 y0 y1)) x0):=by
 simp only [c59_15,exec_seq,seqK_normal,seqK_exit,seqK_ret,t59_0,t59_1 S56 h56,c59_3,exec_out,exec_cond',hb59_0,Option.bind_some,brB_true,brB_false,t59_2,exec_ret,exec_skip,kp59_0,kp59_1,t59_4,t59_5,c59_13,exec_block,t59_12,blockK_normal,blockK_ret,blockK_eq,kp59_5,t59_14]
 rfl
theorem rk59_0 (y0 y1):retK d59 .ret (e111 y0 y1)=some [.v U2 y0,.v .bool y1]:=by kernel_rfl
theorem rk59_1 (y0 y1):retK d59 .ret (e110 y0 y1)=some [.v U2 y0,.v .bool y1]:=by kernel_rfl
def g59 (N:Nat) (S56:V1→Option (Int)) (x0:V1) (k:Int→Bool→Option R):Option R:=
(g59_15 N S56 k k x0)
theorem gen59 (S56) (h56:(ctr56 S56).holds cl) (x0) (k:List E→Option R):exec cl N c59 [(0,.v .str x0)] (fun e env=>(retK d59 e env).bind k)=g59 N S56 x0 (fun r0 r1=>k [.v U2 r0,.v .bool r1]):=by
 simp only [c59,t59_15 S56 h56,rk59_0,rk59_1,Option.bind_some]
 rfl
def ctr59 (S:V1→Option V3):Ctr:=cv1 59 .str S fun b=> [.v U2 b.1,.v .bool b.2]
def S59 (N:Nat) (x0:V1):Option V3:=g59 N (S56 N) x0 (fun (r0:Int) (r1:Bool)=>some (r0,r1))
def g60_0 (k0:V1→Option R) (x0:V1):Option R:=
k0 x0
theorem t60_0 (x0):exec cl N c60_0 [(0,.v .str x0)] K=(g60_0 (fun y0=>K .normal [(0,.v .str y0)]) x0):=by
 kernel_rfl
def g60_1 (k0:V1→Bool→Option R) (x0:V1):Option R:=
k0 x0 (decide ((x0.length:Int) > (60:Int)))
theorem t60_1 (x0):exec cl N c60_1 [(0,.v .str x0)] K=(g60_1 (fun y0 y1=>K .normal (e116 y0 y1)) x0):=by
 kernel_rfl
def g60_2 (k0:V1→Int→Option R) (x0:V1) (x1:Bool):Option R:=
k0 ([]:List UInt8) (3:Int)
theorem t60_2 (x0 x1):exec cl N c60_2 (e116 x0 x1) K=(g60_2 (fun y0 y1=>K .normal (e55 y0 y1)) x0 x1):=by
 kernel_rfl
theorem kp60_0 (x0 x1):keep [0,2,3] (e55 x0 x1)=(e117 x0 x1):=by kernel_rfl
theorem kp60_1 (x0 x1):keep [0,2,3] (e116 x0 x1)=(e112 x0):=by kernel_rfl
theorem hb60_0 (x0 x1):boolOf? (ent (e116 x0 x1) (.t 7))=some x1:=by kernel_rfl
def g60_4 (k0:V1→Int→Option R) (x0:V1):Option R:=
k0 x0 (0:Int)
theorem t60_4 (x0):exec cl N c60_4 (e112 x0) K=(g60_4 (fun y0 y1=>K .normal (e113 y0 y1)) x0):=by
 kernel_rfl
theorem kp60_2 (x0 x1):keep [0,4] (e113 x0 x1)=(e113 x0 x1):=by kernel_rfl
def g60_5 (k0:V1→Int→Bool→Option R) (x0:V1) (x1:Int):Option R:=
k0 x0 x1 (decide (x1 < (x0.length:Int)))
theorem t60_5 (x0 x1):exec cl N c60_5 (e113 x0 x1) K=(g60_5 (fun y0 y1 y2=>K .normal (e118 y0 y1 y2)) x0 x1):=by
 kernel_rfl
theorem kp60_3 (x0 x1 x2):keep [0,4] (e118 x0 x1 x2)=(e113 x0 x1):=by kernel_rfl
theorem hb60_1 (x0 x1 x2):boolOf? (ent (e118 x0 x1 x2) (.t 11))=some x2:=by kernel_rfl
def g60_7 (S75:Int→Option (Bool)) (k0:V1→Int→Bool→Option R) (x0:V1) (x1:Int):Option R:=
if 0≤x1∧x1 < (x0.length:Int) then
(S75 ((x0.getD x1.toNat 0).toNat:Int)).bind fun r479=>
k0 x0 x1 (!r479)
else none
theorem t60_7 (S75) (h75:(ctr75 S75).holds cl) (x0 x1):exec cl N c60_7 (e113 x0 x1) K=(g60_7 S75 (fun y0 y1 y2=>K .normal (e119 y0 y1 y2)) x0 x1):=by
 rw [←put_eq h75]
 kernel_rfl
def g60_8 (k0:V1→Int→Option R) (x0:V1) (x1:Int) (x2:Bool):Option R:=
k0 ([]:List UInt8) (2:Int)
theorem t60_8 (x0 x1 x2):exec cl N c60_8 (e119 x0 x1 x2) K=(g60_8 (fun y0 y1=>K .normal (e55 y0 y1)) x0 x1 x2):=by
 kernel_rfl
theorem kp60_4 (x0 x1):keep [0,2,3,4] (e55 x0 x1)=(e120 x0 x1):=by kernel_rfl
theorem kp60_5 (x0 x1 x2):keep [0,2,3,4] (e119 x0 x1 x2)=(e121 x0 x1):=by kernel_rfl
theorem hb60_2 (x0 x1 x2):boolOf? (ent (e119 x0 x1 x2) (.t 18))=some x2:=by kernel_rfl
theorem kp60_6 (x0 x1):keep [0,2,3,4] (e120 x0 x1)=(e120 x0 x1):=by kernel_rfl
theorem kp60_7 (x0 x1):keep [0,2,3,4] (e121 x0 x1)=(e121 x0 x1):=by kernel_rfl
def g60_11 (k0:V1→Int→Option R) (x0:V1) (x1:Int):Option R:=
k0 x0 (IntKind.i64.wrap (x1+(1:Int)))
theorem t60_11 (x0 x1):exec cl N c60_11 (e121 x0 x1) K=(g60_11 (fun y0 y1=>K .normal (e113 y0 y1)) x0 x1):=by
 kernel_rfl
def g60_12 (S75:Int→Option (Bool)) (k0:V1→Int→Option R) (k1:V1→Int→Option R) (k2:V1→Int→Option R) (x0:V1) (x1:Int):Option R:=
(g60_5 (fun y0 y1 y2=>brB y2 ((g60_7 S75 (fun y0 y1 y2=>brB y2 (g60_8 k0 y0 y1 y2) (((g60_11 k1)) y0 y1))) y0 y1) (k2 y0 y1)) x0 x1)
theorem t60_12 (S75) (h75:(ctr75 S75).holds cl) (x0 x1):exec cl N c60_12 (e113 x0 x1) K=(g60_12 S75 (fun y0 y1=>K .ret (e120 y0 y1)) (fun y0 y1=>K .normal (e113 y0 y1)) (fun y0 y1=>K (.exit 0) (e113 y0 y1)) x0 x1):=by
 simp only [c60_12,exec_seq,seqK_normal,seqK_exit,seqK_ret,t60_5,c60_6,exec_out,exec_cond',hb60_1,Option.bind_some,brB_true,brB_false,exec_skip,exec_exit,kp60_3,c60_10,exec_block,t60_7 S75 h75,c60_9,hb60_2,t60_8,exec_ret,kp60_4,kp60_5,blockK_normal,blockK_ret,blockK_eq,kp60_6,kp60_7,t60_11]
 rfl
def l60_13 {R:Type} (S75:Int→Option (Bool)) (k0:V1→Int→Option R) (k1:V1→Int→Option R):Nat→V1→Int→Option R
 | 0,_,_=>none
 | m+1,x0,x1=>(g60_12 S75 k0 (l60_13 S75 k0 k1 m) k1 x0 x1)
theorem lt60_13 (S75) (h75:(ctr75 S75).holds cl):∀ (m) (x0 x1),iter [0,4] (fun env K=>exec cl N c60_12 env K) K m (e113 x0 x1)=l60_13 S75 (fun y0 y1=>K .ret (e120 y0 y1)) (fun y0 y1=>K (.exit 0) (e113 y0 y1)) m x0 x1:=by
 intro m
 induction m with
 | zero=>intros; rfl
 | succ m ih=>
   intro x0 x1
   simp only [iter_succ,t60_12 S75 h75,loopK_normal,loopK_exit,loopK_ret,kp60_2,ih]
   rfl
theorem kp60_8 (x0 x1):keep [0,2,3] (e120 x0 x1)=(e117 x0 x1):=by kernel_rfl
theorem kp60_9 (x0 x1):keep [0,2,3] (e113 x0 x1)=(e112 x0):=by kernel_rfl
def g60_13 (N:Nat) (S75:Int→Option (Bool)) (k0:V1→Int→Option R) (k1:V1→Option R) (x0:V1) (x1:Int):Option R:=
l60_13 S75 k0 (fun y0 y1=>k1 y0) N x0 x1
theorem t60_13 (S75) (h75:(ctr75 S75).holds cl) (x0 x1):exec cl N c60_13 (e113 x0 x1) K=(g60_13 N S75 (fun y0 y1=>K .ret (e117 y0 y1)) (fun y0=>K (.exit 0) (e112 y0)) x0 x1):=by
 simp only [c60_13,exec_out,exec_loop,kp60_2,lt60_13 S75 h75,kp60_8,kp60_9]
 rfl
theorem kp60_10 (x0 x1):keep [0,2,3] (e117 x0 x1)=(e117 x0 x1):=by kernel_rfl
theorem kp60_11 (x0):keep [0,2,3] (e112 x0)=(e112 x0):=by kernel_rfl
def g60_15 (k0:V1→Int→Option R) (x0:V1):Option R:=
if ([34]:List UInt8).length+x0.length≤140737488355328 then
let v481:V1:=(([34]:List UInt8)++x0)
if v481.length+([34]:List UInt8).length≤140737488355328 then
k0 (v481++([34]:List UInt8)) (0:Int)
else none
else none
theorem t60_15 (x0):exec cl N c60_15 (e112 x0) K=(g60_15 (fun y0 y1=>K .normal (e55 y0 y1)) x0):=by
 kernel_rfl
def g60_16 (N:Nat) (S75:Int→Option (Bool)) (k0:V1→Int→Option R) (k1:V1→Int→Option R) (x0:V1):Option R:=
(g60_0 (g60_1 (fun y0 y1=>brB y1 (g60_2 k0 y0 y1) ((g60_4 (g60_13 N S75 k0 ((g60_15 k1)))) y0))) x0)
theorem t60_16 (S75) (h75:(ctr75 S75).holds cl) (x0):exec cl N c60_16 [(0,.v .str x0)] K=(g60_16 N S75 (fun y0 y1=>K .ret (e117 y0 y1)) (fun y0 y1=>K .ret (e55 y0 y1)) x0):=by
 simp only [c60_16,exec_seq,seqK_normal,seqK_exit,seqK_ret,t60_0,t60_1,c60_3,exec_out,exec_cond',hb60_0,Option.bind_some,brB_true,brB_false,t60_2,exec_ret,exec_skip,kp60_0,kp60_1,t60_4,c60_14,exec_block,t60_13 S75 h75,blockK_normal,blockK_ret,blockK_eq,kp60_10,kp60_11,t60_15]
 rfl
theorem rk60_0 (y0 y1):retK d60 .ret (e117 y0 y1)=some [.v .str y0,.v U2 y1]:=by kernel_rfl
theorem rk60_1 (y0 y1):retK d60 .ret (e55 y0 y1)=some [.v .str y0,.v U2 y1]:=by kernel_rfl
def g60 (N:Nat) (S75:Int→Option (Bool)) (x0:V1) (k:V1→Int→Option R):Option R:=
(g60_16 N S75 k k x0)
theorem gen60 (S75) (h75:(ctr75 S75).holds cl) (x0) (k:List E→Option R):exec cl N c60 [(0,.v .str x0)] (fun e env=>(retK d60 e env).bind k)=g60 N S75 x0 (fun r0 r1=>k [.v .str r0,.v U2 r1]):=by
 simp only [c60,t60_16 S75 h75,rk60_0,rk60_1,Option.bind_some]
 rfl
def ctr60 (S:V1→Option V7):Ctr:=cv1 60 .str S fun b=> [.v .str b.1,.v U2 b.2]
def S60 (N:Nat) (x0:V1):Option V7:=g60 N (S75 N) x0 (fun (r0:V1) (r1:Int)=>some (r0,r1))
def g34_0 (k0:V14→Option R) (x0:V14):Option R:=
k0 x0
theorem t34_0 (x0):exec cl N c34_0 [(0,.v U12 x0)] K=(g34_0 (fun y0=>K .normal [(1,.loc U12 .no y0)]) x0):=by
 kernel_rfl
def g34_1 (k0:V14→Int→Option R) (x0:V14):Option R:=
k0 x0 x0.1
theorem t34_1 (x0):exec cl N c34_1 [(1,.loc U12 .no x0)] K=(g34_1 (fun y0 y1=>K .normal [(1,.loc U12 .no y0),(8,.v U2 y1)]) x0):=by
 kernel_rfl
def g34_2 (k0:V14→Int→Bool→Option R) (x0:V14) (x1:Int):Option R:=
k0 x0 x1 (x1==(1:Int))
theorem t34_2 (x0 x1):exec cl N c34_2 [(1,.loc U12 .no x0),(8,.v U2 x1)] K=(g34_2 (fun y0 y1 y2=>K .normal (e122 y0 y1 y2)) x0 x1):=by
 kernel_rfl
def g34_3 (S27:V1→Option (Bool)) (k0:Bool→Option R) (x0:V14) (x1:Int) (x2:Bool):Option R:=
(S27 x0.2.1).bind fun r491=>
k0 r491
theorem t34_3 (S27) (h27:(ctr27 S27).holds cl) (x0 x1 x2):exec cl N c34_3 (e122 x0 x1 x2) K=(g34_3 S27 (fun y0=>K .normal [(2,.v .bool y0)]) x0 x1 x2):=by
 rw [←put_eq h27]
 kernel_rfl
theorem kp34_0 (x0):keep [2] [(2,.v .bool x0)]=[(2,.v .bool x0)]:=by kernel_rfl
def g34_4 (k0:V14→Int→Bool→Option R) (x0:V14) (x1:Int) (x2:Bool):Option R:=
k0 x0 x1 (x1==(2:Int))
theorem t34_4 (x0 x1 x2):exec cl N c34_4 (e122 x0 x1 x2) K=(g34_4 (fun y0 y1 y2=>K .normal (e123 y0 y1 y2)) x0 x1 x2):=by
 kernel_rfl
def g34_7 (S59:V1→Option V3) (k0:Bool→Option R) (x0:V14) (x1:Int) (x2:Bool):Option R:=
(S59 x0.2.1).bind fun r494=>
k0 r494.2
theorem t34_7 (S59) (h59:(ctr59 S59).holds cl) (x0 x1 x2):exec cl N c34_7 (e123 x0 x1 x2) K=(g34_7 S59 (fun y0=>exec cl N .ret [(2,.v .bool y0)] K) x0 x1 x2):=by
 rw [←put_eq h59]
 kernel_rfl
def g34_8 (k0:V14→Int→Bool→Option R) (x0:V14) (x1:Int) (x2:Bool):Option R:=
k0 x0 x1 (x1==(3:Int))
theorem t34_8 (x0 x1 x2):exec cl N c34_8 (e123 x0 x1 x2) K=(g34_8 (fun y0 y1 y2=>K .normal (e124 y0 y1 y2)) x0 x1 x2):=by
 kernel_rfl
def g34_11 (S60:V1→Option V7) (k0:Bool→Option R) (x0:V14) (x1:Int) (x2:Bool):Option R:=
(S60 x0.2.1).bind fun r497=>
k0 (r497.2==(0:Int))
theorem t34_11 (S60) (h60:(ctr60 S60).holds cl) (x0 x1 x2):exec cl N c34_11 (e124 x0 x1 x2) K=(g34_11 S60 (fun y0=>exec cl N .ret [(2,.v .bool y0)] K) x0 x1 x2):=by
 rw [←put_eq h60]
 kernel_rfl
def g34_12 (k0:V14→Bool→Option R) (x0:V14) (x1:Int) (x2:Bool):Option R:=
k0 x0 (x1==(4:Int))
theorem t34_12 (x0 x1 x2):exec cl N c34_12 (e124 x0 x1 x2) K=(g34_12 (fun y0 y1=>K .normal (e125 y0 y1)) x0 x1 x2):=by
 kernel_rfl
def g34_13 (S58:Int→Option (Bool)) (k0:Bool→Option R) (x0:V14) (x1:Bool):Option R:=
brB ((x0.2.1.length:Int)==(1:Int)) (if 0≤(0:Int)∧(0:Int) < (x0.2.1.length:Int) then
(S58 ((x0.2.1.getD (0:Int).toNat 0).toNat:Int)).bind fun r502=>
k0 r502
else none) (k0 false)
theorem t34_13 (S58) (h58:(ctr58 S58).holds cl) (x0 x1):exec cl N c34_13 (e125 x0 x1) K=(g34_13 S58 (fun y0=>K .normal [(2,.v .bool y0)]) x0 x1):=by
 rw [←put_eq h58]
 kernel_rfl
theorem kp34_1 (x0 x1):keep [2] (e125 x0 x1)=[(2,.dead)]:=by kernel_rfl
theorem hb34_0 (x0 x1):boolOf? (ent (e125 x0 x1) (.t 33))=some x1:=by kernel_rfl
theorem kp34_2:keep [2] [(2,.dead)]=[(2,.dead)]:=by kernel_rfl
theorem hb34_1 (x0 x1 x2):boolOf? (ent (e124 x0 x1 x2) (.t 23))=some x2:=by kernel_rfl
theorem hb34_2 (x0 x1 x2):boolOf? (ent (e123 x0 x1 x2) (.t 14))=some x2:=by kernel_rfl
theorem hb34_3 (x0 x1 x2):boolOf? (ent (e122 x0 x1 x2) (.t 9))=some x2:=by kernel_rfl
def g34_19 (k0:Bool→Option R):Option R:=
k0 false
theorem t34_19:exec cl N c34_19 [(2,.dead)] K=(g34_19 (fun y0=>K .normal [(2,.v .bool y0)])):=by
 kernel_rfl
def g34_20 (S27:V1→Option (Bool)) (S58:Int→Option (Bool)) (S59:V1→Option V3) (S60:V1→Option V7) (k0:Bool→Option R) (x0:V14):Option R:=
(g34_0 (g34_1 (g34_2 (fun y0 y1 y2=>brB y2 (g34_3 S27 k0 y0 y1 y2) (g34_4 (fun y0 y1 y2=>brB y2 (g34_7 S59 k0 y0 y1 y2) (g34_8 (fun y0 y1 y2=>brB y2 (g34_11 S60 k0 y0 y1 y2) (g34_12 (fun y0 y1=>brB y1 (g34_13 S58 k0 y0 y1) (g34_19 k0)) y0 y1 y2)) y0 y1 y2)) y0 y1 y2)))) x0)
theorem t34_20 (S27) (S58) (S59) (S60) (h27:(ctr27 S27).holds cl) (h58:(ctr58 S58).holds cl) (h59:(ctr59 S59).holds cl) (h60:(ctr60 S60).holds cl) (x0):exec cl N c34_20 [(0,.v U12 x0)] K=(g34_20 S27 S58 S59 S60 (fun y0=>K .ret [(2,.v .bool y0)]) x0):=by
 simp only [c34_20,exec_seq,seqK_normal,seqK_exit,seqK_ret,t34_0,t34_1,c34_18,exec_out,exec_block,t34_2,c34_17,exec_cond',hb34_3,Option.bind_some,brB_true,brB_false,t34_3 S27 h27,exec_ret,t34_4,c34_16,hb34_2,t34_7 S59 h59,t34_8,c34_15,hb34_1,t34_11 S60 h60,t34_12,c34_14,hb34_0,t34_13 S58 h58,exec_skip,kp34_0,kp34_1,kp34_2,blockK_normal,blockK_ret,blockK_eq,t34_19]
 rfl
theorem rk34_0 (y0):retK d34 .ret [(2,.v .bool y0)]=some [.v .bool y0]:=by kernel_rfl
def g34 (S27:V1→Option (Bool)) (S58:Int→Option (Bool)) (S59:V1→Option V3) (S60:V1→Option V7) (x0:V14) (k:Bool→Option R):Option R:=
(g34_20 S27 S58 S59 S60 k x0)
theorem gen34 (S27) (S58) (S59) (S60) (h27:(ctr27 S27).holds cl) (h58:(ctr58 S58).holds cl) (h59:(ctr59 S59).holds cl) (h60:(ctr60 S60).holds cl) (x0) (k:List E→Option R):exec cl N c34 [(0,.v U12 x0)] (fun e env=>(retK d34 e env).bind k)=g34 S27 S58 S59 S60 x0 (fun r0=>k [.v .bool r0]):=by
 simp only [c34,t34_20 S27 S58 S59 S60 h27 h58 h59 h60,rk34_0,Option.bind_some]
 rfl
def ctr34 (S:V14→Option (Bool)):Ctr:=cv1 34 U12 S fun b=> [.v .bool b]
def S34 (N:Nat) (x0:V14):Option (Bool):=g34 (S27 N) (S58 N) (S59 N) (S60 N) x0 (fun (r0:Bool)=>some (r0))
def g12_0 (k0:V16→Option R) (x0:V16):Option R:=
k0 x0
theorem t12_0 (x0):exec cl N c12_0 [(0,.v U14 x0)] K=(g12_0 (fun y0=>K .normal [(0,.v U14 y0)]) x0):=by
 kernel_rfl
def g12_1 (k0:V16→Int→Option R) (x0:V16):Option R:=
k0 x0 (0:Int)
theorem t12_1 (x0):exec cl N c12_1 [(0,.v U14 x0)] K=(g12_1 (fun y0 y1=>K .normal (e126 y0 y1)) x0):=by
 kernel_rfl
theorem kp12_0 (x0 x1):keep [0,4] (e126 x0 x1)=(e126 x0 x1):=by kernel_rfl
def g12_2 (k0:V16→Int→Bool→Option R) (x0:V16) (x1:Int):Option R:=
k0 x0 x1 (decide (x1 < (x0.length:Int)))
theorem t12_2 (x0 x1):exec cl N c12_2 (e126 x0 x1) K=(g12_2 (fun y0 y1 y2=>K .normal (e127 y0 y1 y2)) x0 x1):=by
 kernel_rfl
theorem kp12_1 (x0 x1 x2):keep [0,4] (e127 x0 x1 x2)=(e126 x0 x1):=by kernel_rfl
theorem hb12_0 (x0 x1 x2):boolOf? (ent (e127 x0 x1 x2) (.t 10))=some x2:=by kernel_rfl
def g12_4 (S34:V14→Option (Bool)) (k0:V16→Int→Bool→Option R) (x0:V16) (x1:Int):Option R:=
if 0≤x1∧x1 < (x0.length:Int) then
(S34 (x0.getD x1.toNat ((0:Int),([],((0:Int),()))))).bind fun r517=>
k0 x0 x1 (!r517)
else none
theorem t12_4 (S34) (h34:(ctr34 S34).holds cl) (x0 x1):exec cl N c12_4 (e126 x0 x1) K=(g12_4 S34 (fun y0 y1 y2=>K .normal (e128 y0 y1 y2)) x0 x1):=by
 rw [←put_eq h34]
 kernel_rfl
def g12_5 (k0:V1→Int→Option R) (x0:V16) (x1:Int) (x2:Bool):Option R:=
k0 ([]:List UInt8) (1:Int)
theorem t12_5 (x0 x1 x2):exec cl N c12_5 (e128 x0 x1 x2) K=(g12_5 (fun y0 y1=>K .normal (e55 y0 y1)) x0 x1 x2):=by
 kernel_rfl
theorem kp12_2 (x0 x1):keep [0,2,3,4] (e55 x0 x1)=(e120 x0 x1):=by kernel_rfl
theorem kp12_3 (x0 x1 x2):keep [0,2,3,4] (e128 x0 x1 x2)=(e129 x0 x1):=by kernel_rfl
theorem hb12_1 (x0 x1 x2):boolOf? (ent (e128 x0 x1 x2) (.t 18))=some x2:=by kernel_rfl
theorem kp12_4 (x0 x1):keep [0,2,3,4] (e120 x0 x1)=(e120 x0 x1):=by kernel_rfl
theorem kp12_5 (x0 x1):keep [0,2,3,4] (e129 x0 x1)=(e129 x0 x1):=by kernel_rfl
def g12_8 (k0:V16→Int→Option R) (x0:V16) (x1:Int):Option R:=
k0 x0 (IntKind.i64.wrap (x1+(1:Int)))
theorem t12_8 (x0 x1):exec cl N c12_8 (e129 x0 x1) K=(g12_8 (fun y0 y1=>K .normal (e126 y0 y1)) x0 x1):=by
 kernel_rfl
def g12_9 (S34:V14→Option (Bool)) (k0:V1→Int→Option R) (k1:V16→Int→Option R) (k2:V16→Int→Option R) (x0:V16) (x1:Int):Option R:=
(g12_2 (fun y0 y1 y2=>brB y2 ((g12_4 S34 (fun y0 y1 y2=>brB y2 (g12_5 k0 y0 y1 y2) (((g12_8 k1)) y0 y1))) y0 y1) (k2 y0 y1)) x0 x1)
theorem t12_9 (S34) (h34:(ctr34 S34).holds cl) (x0 x1):exec cl N c12_9 (e126 x0 x1) K=(g12_9 S34 (fun y0 y1=>K .ret (e120 y0 y1)) (fun y0 y1=>K .normal (e126 y0 y1)) (fun y0 y1=>K (.exit 0) (e126 y0 y1)) x0 x1):=by
 simp only [c12_9,exec_seq,seqK_normal,seqK_exit,seqK_ret,t12_2,c12_3,exec_out,exec_cond',hb12_0,Option.bind_some,brB_true,brB_false,exec_skip,exec_exit,kp12_1,c12_7,exec_block,t12_4 S34 h34,c12_6,hb12_1,t12_5,exec_ret,kp12_2,kp12_3,blockK_normal,blockK_ret,blockK_eq,kp12_4,kp12_5,t12_8]
 rfl
def l12_10 {R:Type} (S34:V14→Option (Bool)) (k0:V1→Int→Option R) (k1:V16→Int→Option R):Nat→V16→Int→Option R
 | 0,_,_=>none
 | m+1,x0,x1=>(g12_9 S34 k0 (l12_10 S34 k0 k1 m) k1 x0 x1)
theorem lt12_10 (S34) (h34:(ctr34 S34).holds cl):∀ (m) (x0 x1),iter [0,4] (fun env K=>exec cl N c12_9 env K) K m (e126 x0 x1)=l12_10 S34 (fun y0 y1=>K .ret (e120 y0 y1)) (fun y0 y1=>K (.exit 0) (e126 y0 y1)) m x0 x1:=by
 intro m
 induction m with
 | zero=>intros; rfl
 | succ m ih=>
   intro x0 x1
   simp only [iter_succ,t12_9 S34 h34,loopK_normal,loopK_exit,loopK_ret,kp12_0,ih]
   rfl
theorem kp12_6 (x0 x1):keep [0,2,3] (e120 x0 x1)=(e117 x0 x1):=by kernel_rfl
theorem kp12_7 (x0 x1):keep [0,2,3] (e126 x0 x1)=(e130 x0):=by kernel_rfl
def g12_10 (N:Nat) (S34:V14→Option (Bool)) (k0:V1→Int→Option R) (k1:V16→Option R) (x0:V16) (x1:Int):Option R:=
l12_10 S34 k0 (fun y0 y1=>k1 y0) N x0 x1
theorem t12_10 (S34) (h34:(ctr34 S34).holds cl) (x0 x1):exec cl N c12_10 (e126 x0 x1) K=(g12_10 N S34 (fun y0 y1=>K .ret (e117 y0 y1)) (fun y0=>K (.exit 0) (e130 y0)) x0 x1):=by
 simp only [c12_10,exec_out,exec_loop,kp12_0,lt12_10 S34 h34,kp12_6,kp12_7]
 rfl
theorem kp12_8 (x0 x1):keep [0,2,3] (e117 x0 x1)=(e117 x0 x1):=by kernel_rfl
theorem kp12_9 (x0):keep [0,2,3] (e130 x0)=(e130 x0):=by kernel_rfl
def g12_12 (k0:V16→V1→Option R) (x0:V16):Option R:=
k0 x0 ([]:List UInt8)
theorem t12_12 (x0):exec cl N c12_12 (e130 x0) K=(g12_12 (fun y0 y1=>K .normal [(0,.v U14 y0),(5,.v .str y1)]) x0):=by
 kernel_rfl
def g12_13 (k0:V16→V1→Int→Option R) (x0:V16) (x1:V1):Option R:=
k0 x0 x1 (0:Int)
theorem t12_13 (x0 x1):exec cl N c12_13 [(0,.v U14 x0),(5,.v .str x1)] K=(g12_13 (fun y0 y1 y2=>K .normal (e131 y0 y1 y2)) x0 x1):=by
 kernel_rfl
theorem kp12_10 (x0 x1 x2):keep [0,5,6] (e131 x0 x1 x2)=(e131 x0 x1 x2):=by kernel_rfl
def g12_14 (k0:V16→V1→Int→Bool→Option R) (x0:V16) (x1:V1) (x2:Int):Option R:=
brB (decide (x2 < (x0.length:Int))) (k0 x0 x1 x2 (decide ((x1.length:Int)≤(20000:Int)))) (k0 x0 x1 x2 false)
theorem t12_14 (x0 x1 x2):exec cl N c12_14 (e131 x0 x1 x2) K=(g12_14 (fun y0 y1 y2 y3=>K .normal (e132 y0 y1 y2 y3)) x0 x1 x2):=by
 kernel_rfl
theorem kp12_11 (x0 x1 x2 x3):keep [0,5,6] (e132 x0 x1 x2 x3)=(e131 x0 x1 x2):=by kernel_rfl
theorem hb12_2 (x0 x1 x2 x3):boolOf? (ent (e132 x0 x1 x2 x3) (.t 27))=some x3:=by kernel_rfl
def g12_16 (k0:V16→V1→Int→Bool→Option R) (x0:V16) (x1:V1) (x2:Int):Option R:=
k0 x0 x1 x2 (decide (x2 > (0:Int)))
theorem t12_16 (x0 x1 x2):exec cl N c12_16 (e131 x0 x1 x2) K=(g12_16 (fun y0 y1 y2 y3=>K .normal (e133 y0 y1 y2 y3)) x0 x1 x2):=by
 kernel_rfl
def g12_17 (k0:V16→V1→Int→Option R) (x0:V16) (x1:V1) (x2:Int) (x3:Bool):Option R:=
if x1.length+([32]:List UInt8).length≤140737488355328 then
k0 x0 (x1++([32]:List UInt8)) x2
else none
theorem t12_17 (x0 x1 x2 x3):exec cl N c12_17 (e133 x0 x1 x2 x3) K=(g12_17 (fun y0 y1 y2=>K .normal (e131 y0 y1 y2)) x0 x1 x2 x3):=by
 kernel_rfl
theorem kp12_12 (x0 x1 x2 x3):keep [0,5,6] (e133 x0 x1 x2 x3)=(e131 x0 x1 x2):=by kernel_rfl
theorem hb12_3 (x0 x1 x2 x3):boolOf? (ent (e133 x0 x1 x2 x3) (.t 31))=some x3:=by kernel_rfl
def g12_19 (k0:V16→V1→Int→Option R) (x0:V16) (x1:V1) (x2:Int):Option R:=
(g12_16 (fun y0 y1 y2 y3=>brB y3 (g12_17 k0 y0 y1 y2 y3) (k0 y0 y1 y2)) x0 x1 x2)
theorem t12_19 (x0 x1 x2):exec cl N c12_19 (e131 x0 x1 x2) K=(g12_19 (fun y0 y1 y2=>K .normal (e131 y0 y1 y2)) x0 x1 x2):=by
 simp only [c12_19,exec_seq,seqK_normal,seqK_exit,seqK_ret,t12_16,c12_18,exec_out,exec_cond',hb12_3,Option.bind_some,brB_true,brB_false,t12_17,exec_skip,kp12_10,kp12_12]
 rfl
def g12_20 (k0:V16→V1→Int→Bool→Option R) (x0:V16) (x1:V1) (x2:Int):Option R:=
if 0≤x2∧x2 < (x0.length:Int) then
k0 x0 x1 x2 ((x0.getD x2.toNat ((0:Int),([],((0:Int),())))).1==(3:Int))
else none
theorem t12_20 (x0 x1 x2):exec cl N c12_20 (e131 x0 x1 x2) K=(g12_20 (fun y0 y1 y2 y3=>K .normal (e134 y0 y1 y2 y3)) x0 x1 x2):=by
 kernel_rfl
def g12_21 (k0:V16→V1→Int→Option R) (x0:V16) (x1:V1) (x2:Int) (x3:Bool):Option R:=
if x1.length+([34]:List UInt8).length≤140737488355328 then
let v524:V1:=(x1++([34]:List UInt8))
if 0≤x2∧x2 < (x0.length:Int) then
if v524.length+((x0.getD x2.toNat ((0:Int),([],((0:Int),())))).2.1).length≤140737488355328 then
let v525:V1:=(v524++(x0.getD x2.toNat ((0:Int),([],((0:Int),())))).2.1)
if v525.length+([34]:List UInt8).length≤140737488355328 then
k0 x0 (v525++([34]:List UInt8)) x2
else none
else none
else none
else none
theorem t12_21 (x0 x1 x2 x3):exec cl N c12_21 (e134 x0 x1 x2 x3) K=(g12_21 (fun y0 y1 y2=>K .normal (e131 y0 y1 y2)) x0 x1 x2 x3):=by
 kernel_rfl
def g12_22 (k0:V16→V1→Int→Option R) (x0:V16) (x1:V1) (x2:Int) (x3:Bool):Option R:=
if 0≤x2∧x2 < (x0.length:Int) then
if x1.length+((x0.getD x2.toNat ((0:Int),([],((0:Int),())))).2.1).length≤140737488355328 then
k0 x0 (x1++(x0.getD x2.toNat ((0:Int),([],((0:Int),())))).2.1) x2
else none
else none
theorem t12_22 (x0 x1 x2 x3):exec cl N c12_22 (e134 x0 x1 x2 x3) K=(g12_22 (fun y0 y1 y2=>K .normal (e131 y0 y1 y2)) x0 x1 x2 x3):=by
 kernel_rfl
theorem hb12_4 (x0 x1 x2 x3):boolOf? (ent (e134 x0 x1 x2 x3) (.t 39))=some x3:=by kernel_rfl
def g12_24 (k0:V16→V1→Int→Option R) (x0:V16) (x1:V1) (x2:Int):Option R:=
(g12_19 (g12_20 (fun y0 y1 y2 y3=>brB y3 (g12_21 k0 y0 y1 y2 y3) (g12_22 k0 y0 y1 y2 y3))) x0 x1 x2)
theorem t12_24 (x0 x1 x2):exec cl N c12_24 (e131 x0 x1 x2) K=(g12_24 (fun y0 y1 y2=>K .normal (e131 y0 y1 y2)) x0 x1 x2):=by
 simp only [c12_24,exec_out,exec_block,exec_seq,seqK_normal,seqK_exit,seqK_ret,t12_19,t12_20,c12_23,exec_cond',hb12_4,Option.bind_some,brB_true,brB_false,t12_21,t12_22,kp12_10,blockK_normal,blockK_ret,blockK_eq]
 rfl
def g12_25 (k0:V16→V1→Int→Option R) (x0:V16) (x1:V1) (x2:Int):Option R:=
k0 x0 x1 (IntKind.i64.wrap (x2+(1:Int)))
theorem t12_25 (x0 x1 x2):exec cl N c12_25 (e131 x0 x1 x2) K=(g12_25 (fun y0 y1 y2=>K .normal (e131 y0 y1 y2)) x0 x1 x2):=by
 kernel_rfl
def g12_26 (k0:V16→V1→Int→Option R) (k1:V16→V1→Int→Option R) (x0:V16) (x1:V1) (x2:Int):Option R:=
(g12_14 (fun y0 y1 y2 y3=>brB y3 ((g12_24 (g12_25 k0)) y0 y1 y2) (k1 y0 y1 y2)) x0 x1 x2)
theorem t12_26 (x0 x1 x2):exec cl N c12_26 (e131 x0 x1 x2) K=(g12_26 (fun y0 y1 y2=>K .normal (e131 y0 y1 y2)) (fun y0 y1 y2=>K (.exit 2) (e131 y0 y1 y2)) x0 x1 x2):=by
 simp only [c12_26,exec_seq,seqK_normal,seqK_exit,seqK_ret,t12_14,c12_15,exec_out,exec_cond',hb12_2,Option.bind_some,brB_true,brB_false,exec_skip,exec_exit,kp12_11,t12_24,t12_25]
 rfl
def l12_27 {R:Type} (k0:V16→V1→Int→Option R):Nat→V16→V1→Int→Option R
 | 0,_,_,_=>none
 | m+1,x0,x1,x2=>(g12_26 (l12_27 k0 m) k0 x0 x1 x2)
theorem lt12_27:∀ (m) (x0 x1 x2),iter [0,5,6] (fun env K=>exec cl N c12_26 env K) K m (e131 x0 x1 x2)=l12_27 (fun y0 y1 y2=>K (.exit 2) (e131 y0 y1 y2)) m x0 x1 x2:=by
 intro m
 induction m with
 | zero=>intros; rfl
 | succ m ih=>
   intro x0 x1 x2
   simp only [iter_succ,t12_26,loopK_normal,loopK_exit,loopK_ret,kp12_10,ih]
   rfl
theorem kp12_13 (x0 x1 x2):keep [5] (e131 x0 x1 x2)=[(5,.v .str x1)]:=by kernel_rfl
def g12_27 (N:Nat) (k0:V1→Option R) (x0:V16) (x1:V1) (x2:Int):Option R:=
l12_27 (fun y0 y1 y2=>k0 y1) N x0 x1 x2
theorem t12_27 (x0 x1 x2):exec cl N c12_27 (e131 x0 x1 x2) K=(g12_27 N (fun y0=>K (.exit 2) [(5,.v .str y0)]) x0 x1 x2):=by
 simp only [c12_27,exec_out,exec_loop,kp12_10,lt12_27,kp12_13]
 rfl
theorem kp12_14 (x0):keep [5] [(5,.v .str x0)]=[(5,.v .str x0)]:=by kernel_rfl
def g12_29 (k0:V1→Bool→Option R) (x0:V1):Option R:=
k0 x0 (decide ((x0.length:Int) > (20000:Int)))
theorem t12_29 (x0):exec cl N c12_29 [(5,.v .str x0)] K=(g12_29 (fun y0 y1=>K .normal (e135 y0 y1)) x0):=by
 kernel_rfl
def g12_30 (k0:V1→Int→Option R) (x0:V1) (x1:Bool):Option R:=
k0 ([]:List UInt8) (3:Int)
theorem t12_30 (x0 x1):exec cl N c12_30 (e135 x0 x1) K=(g12_30 (fun y0 y1=>K .normal (e55 y0 y1)) x0 x1):=by
 kernel_rfl
theorem kp12_15 (x0 x1):keep [2,3,5] (e55 x0 x1)=(e136 x0 x1):=by kernel_rfl
theorem kp12_16 (x0 x1):keep [2,3,5] (e135 x0 x1)=[(2,.dead),(3,.dead),(5,.v .str x0)]:=by kernel_rfl
theorem hb12_5 (x0 x1):boolOf? (ent (e135 x0 x1) (.t 58))=some x1:=by kernel_rfl
def g12_32 (k0:V1→Int→Option R) (x0:V1):Option R:=
k0 x0 (0:Int)
theorem t12_32 (x0):exec cl N c12_32 [(2,.dead),(3,.dead),(5,.v .str x0)] K=(g12_32 (fun y0 y1=>K .normal (e55 y0 y1)) x0):=by
 kernel_rfl
def g12_33 (N:Nat) (S34:V14→Option (Bool)) (k0:V1→Int→Option R) (k1:V1→Int→Option R) (k2:V1→Int→Option R) (x0:V16):Option R:=
(g12_0 (g12_1 (g12_10 N S34 k0 ((g12_12 (g12_13 (g12_27 N ((g12_29 (fun y0 y1=>brB y1 (g12_30 k1 y0 y1) ((g12_32 k2) y0)))))))))) x0)
theorem t12_33 (S34) (h34:(ctr34 S34).holds cl) (x0):exec cl N c12_33 [(0,.v U14 x0)] K=(g12_33 N S34 (fun y0 y1=>K .ret (e117 y0 y1)) (fun y0 y1=>K .ret (e136 y0 y1)) (fun y0 y1=>K .ret (e55 y0 y1)) x0):=by
 simp only [c12_33,exec_seq,seqK_normal,seqK_exit,seqK_ret,t12_0,t12_1,c12_11,exec_out,exec_block,t12_10 S34 h34,blockK_normal,blockK_ret,blockK_eq,kp12_8,kp12_9,t12_12,t12_13,c12_28,t12_27,kp12_14,t12_29,c12_31,exec_cond',hb12_5,Option.bind_some,brB_true,brB_false,t12_30,exec_ret,exec_skip,kp12_15,kp12_16,t12_32]
 rfl
theorem rk12_0 (y0 y1):retK d12 .ret (e117 y0 y1)=some [.v .str y0,.v U2 y1]:=by kernel_rfl
theorem rk12_1 (y0 y1):retK d12 .ret (e136 y0 y1)=some [.v .str y0,.v U2 y1]:=by kernel_rfl
theorem rk12_2 (y0 y1):retK d12 .ret (e55 y0 y1)=some [.v .str y0,.v U2 y1]:=by kernel_rfl
def g12 (N:Nat) (S34:V14→Option (Bool)) (x0:V16) (k:V1→Int→Option R):Option R:=
(g12_33 N S34 k k k x0)
theorem gen12 (S34) (h34:(ctr34 S34).holds cl) (x0) (k:List E→Option R):exec cl N c12 [(0,.v U14 x0)] (fun e env=>(retK d12 e env).bind k)=g12 N S34 x0 (fun r0 r1=>k [.v .str r0,.v U2 r1]):=by
 simp only [c12,t12_33 S34 h34,rk12_0,rk12_1,rk12_2,Option.bind_some]
 rfl
def ctr12 (S:V16→Option V7):Ctr:=cv1 12 U14 S fun b=> [.v .str b.1,.v U2 b.2]
def S12 (N:Nat) (x0:V16):Option V7:=g12 N (S34 N) x0 (fun (r0:V1) (r1:Int)=>some (r0,r1))
def g76_2 (k0:Bool→Option R) (x0:Int):Option R:=
brB (decide (x0≥(97:Int))) (k0 (decide (x0≤(122:Int)))) (k0 false)
theorem t76_2 (x0):exec cl N c76_2 [(0,.v U1 x0)] K=(g76_2 (fun y0=>exec cl N .ret [(2,.v .bool y0)] K) x0):=by
 kernel_rfl
def g76_2b (k0:Bool→Option R) (x0:Int):Option R:=
(g76_2 k0 x0)
theorem t76_2b (x0):exec cl N c76_2 [(0,.v U1 x0)] K=(g76_2b (fun y0=>K .ret [(2,.v .bool y0)]) x0):=by
 simp only [exec_seq,seqK_normal,seqK_exit,seqK_ret,t76_2,exec_ret]
 rfl
theorem rk76_0 (y0):retK d76 .ret [(2,.v .bool y0)]=some [.v .bool y0]:=by kernel_rfl
def g76 (x0:Int) (k:Bool→Option R):Option R:=
(g76_2b k x0)
theorem gen76 (x0) (k:List E→Option R):exec cl N c76 [(0,.v U1 x0)] (fun e env=>(retK d76 e env).bind k)=g76 x0 (fun r0=>k [.v .bool r0]):=by
 simp only [c76,t76_2b,rk76_0,Option.bind_some]
 rfl
def ctr76 (S:Int→Option (Bool)):Ctr:=cv1 76 U1 S fun b=> [.v .bool b]
def S76 (N:Nat) (x0:Int):Option (Bool):=g76 x0 (fun (r0:Bool)=>some (r0))
def g77_2 (k0:Bool→Option R) (x0:Int):Option R:=
brB (decide (x0≥(48:Int))) (k0 (decide (x0≤(57:Int)))) (k0 false)
theorem t77_2 (x0):exec cl N c77_2 [(0,.v U1 x0)] K=(g77_2 (fun y0=>exec cl N .ret [(2,.v .bool y0)] K) x0):=by
 kernel_rfl
def g77_2b (k0:Bool→Option R) (x0:Int):Option R:=
(g77_2 k0 x0)
theorem t77_2b (x0):exec cl N c77_2 [(0,.v U1 x0)] K=(g77_2b (fun y0=>K .ret [(2,.v .bool y0)]) x0):=by
 simp only [exec_seq,seqK_normal,seqK_exit,seqK_ret,t77_2,exec_ret]
 rfl
theorem rk77_0 (y0):retK d77 .ret [(2,.v .bool y0)]=some [.v .bool y0]:=by kernel_rfl
def g77 (x0:Int) (k:Bool→Option R):Option R:=
(g77_2b k x0)
theorem gen77 (x0) (k:List E→Option R):exec cl N c77 [(0,.v U1 x0)] (fun e env=>(retK d77 e env).bind k)=g77 x0 (fun r0=>k [.v .bool r0]):=by
 simp only [c77,t77_2b,rk77_0,Option.bind_some]
 rfl
def ctr77 (S:Int→Option (Bool)):Ctr:=cv1 77 U1 S fun b=> [.v .bool b]
def S77 (N:Nat) (x0:Int):Option (Bool):=g77 x0 (fun (r0:Bool)=>some (r0))
end Go.Fw.L19
