/- Own work. -/
import Derived.Test.YtooiookccchmeaaGreatFwYm13
import Derived.Test.YtooiookccchmeaaGreatFwB4
set_option linter.unusedVariables false
set_option linter.unusedSimpArgs false
open Option renaming bind_some → ar
namespace Go.Fw.L19
open Go Go.Fw
set_option maxRecDepth 100000
abbrev cL (f:FuncId) (T0:Ty) {B:Type} (S:den T0→Option B) (au:B→List E):aO:={A:=den T0×Unit,B:=B,f:=f,enc:=fun a=> [.v T0 a.1],dec:=(bc (bG T0) bY),S:=fun a=>S a.1,au:=au,ok:=(fX (T:=T0) (fun es b h=>iW h))}
abbrev dZ (f:FuncId) (T0 T1:Ty) {B:Type} (S:den T0→den T1→Option B) (au:B→List E):aO:={A:=den T0×den T1×Unit,B:=B,f:=f,enc:=fun a=> [.v T0 a.1,.v T1 a.2.1],dec:=(bc (bG T0) (bc (bG T1) bY)),S:=fun a=>S a.1 a.2.1,au:=au,ok:=(fX (T:=T0) (fX (T:=T1) (fun es b h=>iW h)))}
abbrev Uc (f:FuncId) (T0 T1 T2:Ty) {B:Type} (S:den T0→den T1→den T2→Option B) (au:B→List E):aO:={A:=den T0×den T1×den T2×Unit,B:=B,f:=f,enc:=fun a=> [.v T0 a.1,.v T1 a.2.1,.v T2 a.2.2.1],dec:=(bc (bG T0) (bc (bG T1) (bc (bG T2) bY))),S:=fun a=>S a.1 a.2.1 a.2.2.1,au:=au,ok:=(fX (T:=T0) (fX (T:=T1) (fX (T:=T2) (fun es b h=>iW h))))}
abbrev Ud (f:FuncId) (T0 T1 T2 T3:Ty) {B:Type} (S:den T0→den T1→den T2→den T3→Option B) (au:B→List E):aO:={A:=den T0×den T1×den T2×den T3×Unit,B:=B,f:=f,enc:=fun a=> [.v T0 a.1,.v T1 a.2.1,.v T2 a.2.2.1,.v T3 a.2.2.2.1],dec:=(bc (bG T0) (bc (bG T1) (bc (bG T2) (bc (bG T3) bY)))),S:=fun a=>S a.1 a.2.1 a.2.2.1 a.2.2.2.1,au:=au,ok:=(fX (T:=T0) (fX (T:=T1) (fX (T:=T2) (fX (T:=T3) (fun es b h=>iW h)))))}
abbrev e0:=fun x0 x1 x2=>([(0,.v .str x0),(3,.own true 9 .str .no x1),(4,.v U2 x2)]:Env)
abbrev e1:=fun x0 x1 x2 x3=>([(0,.v .str x0),(3,.own true 9 .str .no x1),(4,.v U2 x2),(5,.v U2 x3)]:Env)
abbrev e2:=fun x0=>([(3,.own true 9 .str .no x0)]:Env)
abbrev e3:=fun x0=>([(2,.ref 3 []),(3,.own true 9 .str .no x0)]:Env)
abbrev e4:=fun x0=>([(0,.dead),(2,.own true 9 .str .no x0),(3,.dead),(4,.dead),(5,.dead)]:Env)
abbrev e5:=fun x0=>([(2,.own true 9 .str .no x0),(3,.dead)]:Env)
abbrev e6:=fun x0=>([(2,.dead),(3,.own true 9 .str .no x0)]:Env)
abbrev e7:=fun x0=>([(1,.dead),(2,.v U2 x0)]:Env)
abbrev e8:=fun x0 x1=>([(1,.loc aA .no x0),(4,.v U2 x1)]:Env)
abbrev e9:=fun x0=>([(1,.dead),(2,.v U2 x0),(4,.dead)]:Env)
abbrev j8:=fun x0 x1 x2=>([(0,.v .str x0),(2,.loc aA .no x1),(4,.v U2 x2)]:Env)
abbrev F0:=fun x0 x1=>([(0,.dead),(2,.loc aA .no x0),(3,.v .bool x1),(4,.dead),(5,.dead)]:Env)
abbrev od:=fun x0 x1 x2=>([(2,.loc aA .no x0),(5,.v .str x1),(6,.loc aA .no x2)]:Env)
abbrev kN:=fun x0 x1 x2 x3=>([(2,.loc aA .no x0),(5,.v .str x1),(6,.loc aA .no x2),(7,.v U2 x3)]:Env)
abbrev F9:=fun x0 x1=>([(2,.loc aA .no x0),(3,.v .bool x1)]:Env)
abbrev Gc:=fun x0 x1=>([(0,.dead),(2,.own true 40 aA .no x0),(3,.v U2 x1)]:Env)
abbrev kU:=fun x0 x1 x2=>([(4,.own true 40 aA .no x0),(5,.own true 9 .str .no x1),(6,.v U2 x2)]:Env)
abbrev Ge:=fun x0 x1=>([(2,.own true 40 aA .no x0),(3,.v U2 x1),(4,.dead),(5,.dead),(6,.dead)]:Env)
abbrev oi:=fun x0 x1=>([(2,.own true 40 aA .no x0),(3,.v U2 x1),(4,.dead)]:Env)
abbrev tr:=fun x0=>([(2,.dead),(3,.dead),(4,.own true 40 aA .no x0)]:Env)
abbrev Gf:=fun x0 x1=>([(2,.ref 4 []),(3,.v U2 x0),(4,.own true 40 aA .no x1)]:Env)
abbrev cP:=fun x0 x1=>([(0,.v .str x0),(3,.v U2 x1)]:Env)
abbrev Gg:=fun x0 x1=>([(0,.dead),(2,.v U2 x0),(3,.v .bool x1)]:Env)
abbrev kV:=fun x0 x1 x2=>([(0,.v .str x0),(4,.v U2 x1),(5,.v U2 x2)]:Env)
abbrev Gh:=fun x0 x1=>([(2,.loc aG (.pair .no (.pair (.own true 40 .no) (.pair .no (.pair .no .no)))) x0),(3,.v .bool x1),(4,.dead)]:Env)
abbrev oj:=fun x0 x1 x2=>([(2,.loc aG (.pair .no (.pair (.own true 40 .no) (.pair .no (.pair .no .no)))) x0),(4,.own true 9 .str .no x1),(5,.v .str x2)]:Env)
abbrev kW:=fun x0 x1 x2 x3=>([(2,.loc aG (.pair .no (.pair (.own true 40 .no) (.pair .no (.pair .no .no)))) x0),(4,.own true 9 .str .no x1),(5,.v .str x2),(6,.v U2 x3)]:Env)
abbrev Gi:=fun x0 x1=>([(2,.loc aG (.pair .no (.pair (.own true 40 .no) (.pair .no (.pair .no .no)))) x0),(3,.v .bool x1),(4,.dead),(7,.dead),(9,.dead)]:Env)
abbrev On:=fun x0 x1 x2 x3=>([(2,.loc aG (.pair .no (.pair (.own true 40 .no) (.pair .no (.pair .no .no)))) x0),(3,.dead),(4,.own true 9 .str .no x1),(7,.own true 40 aA .no x2),(9,.v U2 x3)]:Env)
abbrev kX:=fun x0 x1 x2 x3 x4=>([(2,.loc aG (.pair .no (.pair (.own true 40 .no) (.pair .no (.pair .no .no)))) x0),(4,.own true 9 .str .no x1),(7,.own true 40 aA .no x2),(9,.v U2 x3),(11,.v U2 x4)]:Env)
abbrev Gj:=fun x0 x1=>([(2,.loc aG .no x0),(3,.v .bool x1),(4,.dead),(7,.dead),(9,.dead),(11,.dead)]:Env)
abbrev qm:=fun x0 x1=>([(2,.loc aG .no x0),(3,.v .bool x1)]:Env)
abbrev tt:=fun x0=>([(2,.loc aG (.pair .no (.pair (.own true 40 .no) (.pair .no (.pair .no .no)))) x0),(3,.dead)]:Env)
abbrev Gk:=fun x0 x1=>([(2,.loc aG (.pair .no (.pair (.own true 40 .no) (.pair .no (.pair .no .no)))) x0),(3,.v .bool x1)]:Env)
abbrev iX:=fun x0=>([(0,.dead),(2,.v U2 x0)]:Env)
abbrev kY:=fun x0 x1=>([(0,.v U0 x0),(3,.v U2 x1)]:Env)
abbrev Gm:=fun x0=>([(0,.dead),(2,.v .bool x0),(3,.dead)]:Env)
abbrev zZ:=fun x0=>([(0,.v .str x0),(2,.dead)]:Env)
abbrev qn:=fun x0=>([(0,.dead),(2,.v U2 x0),(3,.dead)]:Env)
abbrev iY:=fun x0=>([(1,.loc aG .no x0),(2,.dead)]:Env)
abbrev kZ:=fun x0 x1=>([(1,.loc aG .no x0),(4,.v U2 x1)]:Env)
abbrev z6:=fun x0 x1=>([(0,.v U2 x0),(1,.v U2 x1)]:Env)
abbrev k9:=fun x0=>([(0,.dead),(1,.dead),(4,.v U2 x0)]:Env)
abbrev qo:=fun x0 x1=>([(0,.v bD x0),(1,.v bD x1)]:Env)
abbrev iA:=fun x0=>([(0,.dead),(1,.dead),(4,.v .bool x0)]:Env)
abbrev z7:=fun x0 x1=>([(0,.v bD x0),(1,.v bD x1),(4,.dead)]:Env)
abbrev la:=fun x0 x1 x2=>([(0,.v bD x0),(1,.v bD x1),(5,.v U2 x2)]:Env)
abbrev mj:=fun x0=>([(0,.dead),(1,.dead),(4,.v .bool x0),(5,.dead)]:Env)
abbrev qp:=fun x0 x1=>([(1,.dead),(2,.v U2 x0),(3,.v U2 x1)]:Env)
abbrev z8:=fun x0=>([(1,.loc az .no x0),(2,.dead),(3,.dead)]:Env)
abbrev iB:=fun x0 x1=>([(1,.loc az .no x0),(4,.v U2 x1)]:Env)
abbrev mY:=fun x0 x1=>([(1,.dead),(2,.v U2 x0),(3,.v U2 x1),(4,.dead)]:Env)
abbrev lb:=fun x0 x1 x2=>([(1,.loc az .no x0),(4,.v U2 x1),(6,.v U2 x2)]:Env)
abbrev Gn:=fun x0 x1=>([(1,.dead),(2,.v U2 x0),(3,.v U2 x1),(4,.dead),(6,.dead)]:Env)
abbrev tu:=fun x0 x1=>([(1,.loc az .no x0),(2,.dead),(3,.dead),(4,.v U2 x1)]:Env)
abbrev iZ:=fun x0 x1=>([(2,.v U2 x0),(3,.v U2 x1)]:Env)
abbrev Gp:=fun x0 x1 x2=>([(0,.dead),(2,.loc az (.pair .no (.pair (.own true 43 .no) .no)) x0),(3,.v U2 x1),(4,.v U2 x2)]:Env)
abbrev Gq:=fun x0 x1 x2=>([(0,.dead),(2,.loc az (.pair .no (.pair (.own true 43 .no) .no)) x0),(3,.v U2 x1),(4,.v U2 x2),(5,.dead)]:Env)
abbrev Oo:=fun x0 x1 x2 x3=>([(0,.v .str x0),(2,.loc az (.pair .no (.pair (.own true 43 .no) .no)) x1),(5,.own true 9 .str .no x2),(6,.loc az (.pair .no (.pair (.own true 43 .no) .no)) x3)]:Env)
abbrev gB:=fun x0 x1 x2 x3 x4=>([(0,.v .str x0),(2,.loc az (.pair .no (.pair (.own true 43 .no) .no)) x1),(5,.own true 9 .str .no x2),(6,.loc az (.pair .no (.pair (.own true 43 .no) .no)) x3),(7,.v U2 x4)]:Env)
abbrev Oq:=fun x0 x1 x2 x3 x4 x5=>([(0,.v .str x0),(2,.loc az (.pair .no (.pair (.own true 43 .no) .no)) x1),(5,.own true 9 .str .no x2),(6,.loc az (.pair .no (.pair (.own true 43 .no) .no)) x3),(7,.v U2 x4),(8,.v .bool x5)]:Env)
abbrev Ot:=fun x0 x1 x2=>([(0,.dead),(2,.loc az (.pair .no (.pair (.own true 43 .no) .no)) x0),(3,.v U2 x1),(4,.v U2 x2),(5,.dead),(6,.dead),(7,.dead),(9,.dead),(10,.dead)]:Env)
abbrev Aa:=fun x0 x1 x2=>([(0,.dead),(2,.loc az (.pair .no (.pair (.own true 43 .no) .no)) x0),(3,.v U2 x1),(4,.v U2 x2),(5,.dead),(6,.dead),(7,.dead)]:Env)
abbrev Ou:=fun x0 x1 x2 x3 x4=>([(0,.v .str x0),(2,.loc az (.pair .no (.pair (.own true 43 .no) .no)) x1),(3,.dead),(4,.dead),(5,.own true 9 .str .no x2),(6,.loc az (.pair .no (.pair (.own true 43 .no) .no)) x3),(7,.v U2 x4)]:Env)
abbrev om:=fun x0 x1 x2=>([(2,.loc az (.pair .no (.pair (.own true 43 .no) .no)) x0),(3,.v U2 x1),(4,.v U2 x2),(6,.dead)]:Env)
abbrev tv:=fun x0 x1=>([(2,.loc az (.pair .no (.pair (.own true 43 .no) .no)) x0),(3,.dead),(4,.dead),(6,.loc az (.pair .no (.pair (.own true 43 .no) .no)) x1)]:Env)
abbrev Gs:=fun x0 x1 x2=>([(2,.loc az .no x0),(3,.v U2 x1),(4,.v U2 x2)]:Env)
abbrev jM:=fun x0=>([(2,.v U2 x0),(3,.dead)]:Env)
abbrev ld:=fun x0=>([(2,.dead),(3,.v U2 x0)]:Env)
abbrev ot:=fun x0=>([(3,.own true 4294967295 U0 .no x0)]:Env)
abbrev lf:=fun x0 x1 x2=>([(3,.own true 4294967295 U0 .no x0),(8,.ref 3 []),(9,.v U2 x1),(10,.v U2 x2)]:Env)
abbrev lg:=fun x0 x1 x2=>([(9,.own true 4294967295 U0 .no x0),(10,.v U2 x1),(11,.v U2 x2)]:Env)
abbrev Gt:=fun x0=>([(2,.v U2 x0),(9,.dead),(10,.dead),(11,.dead)]:Env)
abbrev Gu:=fun x0 x1=>([(0,.dead),(2,.own true 179 dK .no x0),(3,.v U2 x1)]:Env)
abbrev lh:=fun x0 x1 x2 x3=>([(5,.own true 179 dK .no x0),(15,.own true 4294967295 U0 .no x1),(16,.v U2 x2),(17,.v U2 x3)]:Env)
abbrev tw:=fun x0=>([(5,.own true 179 dK .no x0)]:Env)
abbrev Gv:=fun x0 x1=>([(2,.ref 5 []),(3,.v U2 x0),(5,.own true 179 dK .no x1)]:Env)
abbrev tx:=fun x0 x1 x2=>([(0,.v .str x0),(1,.v lZ x1),(2,.v .bool x2)]:Env)
abbrev ou:=fun x0 x1 x2 x3=>([(1,.v lZ x0),(2,.v .bool x1),(10,.it x2 x3)]:Env)
abbrev Gw:=fun x0=>([(1,.dead),(2,.dead),(6,.v U2 x0),(10,.dead)]:Env)
abbrev Gx:=fun x0 x1 x2 x3 x4=>([(1,.v lZ x0),(2,.v .bool x1),(10,.it x2 x3),(11,.cC [.v .bool x4])]:Env)
abbrev Ab:=fun x0 x1=>([(0,.v .str x0),(1,.v lZ x1)]:Env)
abbrev lj:=fun x0 x1 x2 x3=>([(1,.loc aG .no x0),(22,.v bD x1),(23,.v U2 x2),(24,.v U2 x3)]:Env)
abbrev Gy:=fun x0=>([(1,.dead),(2,.v U2 x0),(22,.dead),(23,.dead),(24,.dead)]:Env)
abbrev ll:=fun x0 x1 x2 x3=>([(0,.v bD x0),(1,.v bD x1),(12,.v U2 x2),(13,.v U2 x3)]:Env)
abbrev qq:=fun x0=>([(0,.dead),(1,.dead),(4,.v .bool x0),(12,.dead),(13,.dead)]:Env)
abbrev ov:=fun x0 x1=>([(0,.v dT x0),(1,.v xu x1)]:Env)
abbrev ln:=fun x0 x1 x2 x3=>([(0,.v dT x0),(1,.v xu x1),(7,.v U2 x2),(8,.v U2 x3)]:Env)
abbrev qt:=fun x0=>([(0,.dead),(1,.dead),(4,.v U2 x0),(7,.dead),(8,.dead)]:Env)
abbrev lp:=fun x0 x1 x2 x3=>([(1,.loc az .no x0),(24,.v dT x1),(25,.v U2 x2),(26,.v U2 x3)]:Env)
abbrev Gz:=fun x0 x1=>([(1,.dead),(2,.v U2 x0),(3,.v U2 x1),(24,.dead),(25,.dead),(26,.dead)]:Env)
abbrev ow:=fun x0 x1=>([(0,.v U4 x0),(1,.v xp x1)]:Env)
abbrev lq:=fun x0 x1 x2 x3=>([(0,.v U4 x0),(1,.v xp x1),(7,.v U2 x2),(8,.v U2 x3)]:Env)
abbrev GA:=fun x0=>([(0,.dead),(1,.dead),(4,.v .str x0)]:Env)
abbrev ox:=fun x0 x1 x2=>([(0,.v U1 x0),(1,.v .str x1),(5,.v U2 x2)]:Env)
abbrev lr:=fun x0 x1 x2 x3 x4 x5=>([(0,.v U1 x0),(1,.v .str x1),(5,.v U2 x2),(39,.v U1 x3),(40,.v U2 x4),(41,.v U2 x5)]:Env)
abbrev lu:=fun x0 x1 x2 x3=>([(0,.v U1 x0),(7,.v U1 x1),(8,.v U2 x2),(9,.v U2 x3)]:Env)
abbrev GB:=fun x0 x1=>([(0,.dead),(2,.v .str x0),(3,.v U2 x1),(7,.dead),(8,.dead),(9,.dead)]:Env)
abbrev qu:=fun x0 x1=>([(0,.dead),(2,.v .str x0),(3,.v U2 x1)]:Env)
abbrev tz:=fun x0=>([(0,.v U1 x0),(2,.dead),(3,.dead)]:Env)
abbrev FW:=fun x0 x1=>([(2,.v .str x0),(3,.v U2 x1),(6,.dead)]:Env)
abbrev j9:=fun x0 x1=>([(0,.v az x0),(1,.v .str x1)]:Env)
abbrev N8:=fun x0=>([(0,.dead),(1,.dead),(4,.own true 40 aA .no x0)]:Env)
abbrev FX:=fun x0 x1 x2 x3=>([(0,.v az x0),(1,.v U2 x1),(2,.v bD x2),(3,.v bD x3)]:Env)
abbrev FY:=fun x0=>([(1,.dead),(2,.dead),(3,.dead),(4,.dead),(8,.v .bool x0)]:Env)
abbrev N9:=fun x0 x1 x2 x3=>([(1,.v U2 x0),(2,.v bD x1),(3,.v bD x2),(4,.loc az .no x3),(8,.dead)]:Env)
abbrev zY:=fun x0 x1=>([(0,.v .str x0),(1,.v .str x1)]:Env)
abbrev kH:=fun x0 x1 x2 x3 x4 x5=>([(0,.at bB x0),(3,.loc aX .no x1),(5,.own true 73 aX .no x2),(12,.v dT x3),(13,.v U2 x4),(14,.v U2 x5)]:Env)
abbrev tk:=fun x0=>([(5,.own true 73 aX .no x0)]:Env)
abbrev FZ:=fun x0=>([(4,.ref 5 []),(5,.own true 73 aX .no x0)]:Env)
abbrev qk:=fun x0 x1=>([(0,.loc bB (.pair .no (.pair .no (.pair .mp .no))) x0),(1,.v aX x1)]:Env)
abbrev F1:=fun x0 x1=>([(0,.loc bB (.pair .no (.pair .no (.pair .mp .no))) x0),(3,.dead),(4,.v U2 x1)]:Env)
abbrev oc:=fun x0 x1 x2=>([(0,.loc bB (.pair .no (.pair .no (.pair .mp .no))) x0),(3,.loc aX .no x1),(7,.v U2 x2)]:Env)
abbrev kI:=fun x0 x1 x2 x3 x4 x5=>([(0,.loc bB (.pair .no (.pair .no (.pair .mp .no))) x0),(3,.loc aX .no x1),(7,.v U2 x2),(47,.own true 73 aX .no x3),(48,.v U2 x4),(49,.v U2 x5)]:Env)
abbrev F2:=fun x0 x1=>([(0,.loc bB (.pair .no (.pair .no (.pair .mp .no))) x0),(4,.v U2 x1)]:Env)
abbrev F3:=fun x0 x1=>([(0,.loc bB (.pair .no (.pair .no (.pair .mp .no))) x0),(3,.dead),(4,.own true 27 U5 .no x1)]:Env)
abbrev Oa:=fun x0 x1 x2=>([(0,.loc bB (.pair .no (.pair .no (.pair .mp .no))) x0),(3,.loc aX .no x1),(5,.own true 27 U5 .no x2)]:Env)
abbrev fv:=fun x0 x1 x2 x3 x4=>([(0,.loc bB (.pair .no (.pair .no (.pair .mp .no))) x0),(5,.own true 27 U5 .no x1),(21,.own true 73 aX .no x2),(22,.v U2 x3),(23,.v U2 x4)]:Env)
abbrev Ob:=fun x0 x1 x2 x3 x4 x5=>([(0,.loc bB (.pair .no (.pair .no (.pair .mp .no))) x0),(5,.own true 27 U5 .no x1),(7,.loc aX .no x2),(21,.own true 73 aX .no x3),(22,.v U2 x4),(23,.v U2 x5)]:Env)
abbrev kJ:=fun x0 x1 x2 x3 x4 x5 x6 x7 x8=>([(0,.loc bB (.pair .no (.pair .no (.pair .mp .no))) x0),(5,.own true 27 U5 .no x1),(7,.loc aX .no x2),(21,.own true 73 aX .no x3),(22,.v U2 x4),(23,.v U2 x5),(33,.own true 27 U5 .no x6),(34,.v U2 x7),(35,.v U2 x8)]:Env)
abbrev tl:=fun x0 x1=>([(0,.loc bB (.pair .no (.pair .no (.pair .mp .no))) x0),(5,.own true 27 U5 .no x1)]:Env)
abbrev F4:=fun x0 x1=>([(0,.loc bB (.pair .no (.pair .no (.pair .mp .no))) x0),(4,.ref 5 []),(5,.own true 27 U5 .no x1)]:Env)
abbrev ka:=fun x0 x1=>([(0,.v az x0),(1,.v U5 x1)]:Env)
abbrev kK:=fun x0 x1 x2 x3 x4=>([(2,.loc az .no x0),(5,.v U2 x1),(8,.v U5 x2),(9,.v U2 x3),(10,.v U2 x4)]:Env)
abbrev kc:=fun x0 x1=>([(0,.v U5 x0),(1,.v U5 x1)]:Env)
abbrev kL:=fun x0 x1 x2 x3 x4=>([(0,.v U5 x0),(1,.v U5 x1),(9,.v U5 x2),(10,.v U2 x3),(11,.v U2 x4)]:Env)
abbrev F5:=fun x0=>([(0,.dead),(1,.dead),(4,.v U2 x0),(9,.dead),(10,.dead),(11,.dead)]:Env)
abbrev mi:=fun x0 x1=>([(0,.v U5 x0),(1,.v U5 x1),(4,.dead)]:Env)
abbrev kM:=fun x0 x1 x2 x3=>([(3,.v U2 x0),(6,.v U5 x1),(7,.v U2 x2),(8,.v U2 x3)]:Env)
abbrev F6:=fun x0=>([(2,.v U2 x0),(3,.dead),(6,.dead),(7,.dead),(8,.dead)]:Env)
abbrev Oc:=fun x0 x1=>([(1,.dead),(2,.dead),(4,.own true 27 U5 .no x0),(5,.v U2 x1)]:Env)
abbrev Oe:=fun x0 x1=>([(2,.dead),(4,.own true 27 U5 .no x0),(5,.v U2 x1),(7,.dead),(8,.dead),(21,.dead)]:Env)
abbrev Of:=fun x0 x1=>([(4,.ref 10 []),(5,.v U2 x0),(10,.own true 27 U5 .no x1)]:Env)
abbrev Og:=fun x0 x1 x2=>([(2,.dead),(4,.own true 3 U2 .no x0),(5,.v U2 x1),(6,.v U2 x2),(7,.dead)]:Env)
abbrev kO:=fun x0 x1 x2 x3 x4=>([(2,.loc az .no x0),(6,.sb 123 5 x1),(9,.v U5 x2),(10,.v U2 x3),(11,.v U2 x4)]:Env)
abbrev F7:=fun x0 x1=>([(2,.dead),(4,.v .str x0),(5,.v .bool x1),(6,.dead),(9,.dead),(10,.dead),(11,.dead)]:Env)
abbrev ql:=fun x0 x1=>([(4,.v .str x0),(5,.v .bool x1),(6,.dead)]:Env)
abbrev tn:=fun x0=>([(4,.dead),(5,.dead),(6,.sb 123 5 x0)]:Env)
abbrev F8:=fun x0 x1=>([(1,.dead),(2,.dead),(4,.own true 3 U2 .no x0),(5,.v U2 x1)]:Env)
abbrev Oh:=fun x0 x1 x2 x3=>([(1,.v U5 x0),(2,.loc az .no x1),(7,.own true 3 U2 .no x2),(8,.v U2 x3)]:Env)
abbrev gA:=fun x0 x1 x2 x3 x4 x5=>([(2,.loc az .no x0),(7,.own true 3 U2 .no x1),(8,.v U2 x2),(17,.v U5 x3),(18,.v U2 x4),(19,.v U2 x5)]:Env)
abbrev oe:=fun x0 x1 x2 x3 x4 x5 x6=>([(2,.loc az .no x0),(7,.own true 3 U2 .no x1),(8,.v U2 x2),(10,.v U2 x3),(17,.v U5 x4),(18,.v U2 x5),(19,.v U2 x6)]:Env)
abbrev kP:=fun x0 x1 x2 x3 x4 x5 x6 x7 x8=>([(2,.loc az .no x0),(7,.own true 3 U2 .no x1),(8,.v U2 x2),(10,.v U2 x3),(17,.v U5 x4),(18,.v U2 x5),(19,.v U2 x6),(29,.v U2 x7),(30,.v U2 x8)]:Env)
abbrev tp:=fun x0=>([(7,.own true 3 U2 .no x0)]:Env)
abbrev Ga:=fun x0 x1=>([(4,.ref 7 []),(5,.v U2 x0),(7,.own true 3 U2 .no x1)]:Env)
abbrev Gb:=fun x0 x1=>([(1,.dead),(2,.dead),(4,.v U2 x0),(5,.v U2 x1)]:Env)
abbrev Oi:=fun x0 x1 x2 x3=>([(1,.v .str x0),(2,.loc az .no x1),(7,.own true 4 .bool .no x2),(8,.v U2 x3)]:Env)
abbrev fw:=fun x0 x1 x2 x3 x4 x5=>([(1,.v .str x0),(2,.loc az .no x1),(7,.own true 4 .bool .no x2),(8,.v U2 x3),(25,.ref 7 []),(26,.v U2 x4),(27,.v U2 x5)]:Env)
abbrev Oj:=fun x0 x1 x2 x3 x4 x5 x6=>([(1,.v .str x0),(2,.loc az .no x1),(7,.own true 4 .bool .no x2),(8,.v U2 x3),(9,.v U2 x4),(25,.ref 7 []),(26,.v U2 x5),(27,.v U2 x6)]:Env)
abbrev kQ:=fun x0 x1 x2 x3 x4 x5 x6 x7 x8 x9=>([(1,.v .str x0),(2,.loc az .no x1),(7,.own true 4 .bool .no x2),(8,.v U2 x3),(9,.v U2 x4),(25,.ref 7 []),(26,.v U2 x5),(27,.v U2 x6),(36,.v dT x7),(37,.v U2 x8),(38,.v U2 x9)]:Env)
abbrev tq:=fun x0 x1=>([(4,.v U2 x0),(5,.v U2 x1)]:Env)
abbrev kR:=fun x0 x1 x2=>([(0,.v U5 x0),(1,.v U5 x1),(5,.v U2 x2)]:Env)
abbrev kS:=fun x0 x1 x2=>([(0,.v U7 x0),(1,.v U7 x1),(5,.v U2 x2)]:Env)
abbrev kT:=fun x0 x1 x2 x3=>([(0,.v U5 x0),(1,.v U5 x1),(12,.v U2 x2),(13,.v U2 x3)]:Env)
abbrev Ol:=fun x0=>([(0,.v .bool x0),(2,.dead),(4,.dead),(6,.dead),(9,.dead)]:Env)
abbrev Om:=fun x0=>([(4,.v .bool x0),(5,.dead),(8,.dead),(9,.dead),(10,.dead),(11,.dead)]:Env)
variable {N:Nat} {cl:ay} {R:Type} {K:KE R}
def P9 (k0:V3→aD→Int→Option R) (x0:V3):Option R:=
k0 x0 [] (0:Int)
theorem amg (x0):exec cl N zj [(0,.v .str x0)] K=(P9 (fun y0 y1 y2=>exec cl N zi (e0 y0 y1 y2) K) x0):=by
 delta zj
 generalize zi=q
 revert q
 refine id ?_
 intro q
 kernel_rfl
def P5 (k0:V3→aD→Int→Int→Option R) (x0:V3) (x1:aD) (x2:Int):Option R:=
k0 x0 x1 x2 (0:Int)
theorem amc (x0 x1 x2):exec cl N Nn (e0 x0 x1 x2) K=(P5 (fun y0 y1 y2 y3=>K .normal (e1 y0 y1 y2 y3)) x0 x1 x2):=by
 kernel_rfl
theorem Ry (x0 x1 x2 x3):ak [0,3,4,5] (e1 x0 x1 x2 x3)=(e1 x0 x1 x2 x3):=by kernel_rfl
def P6 (k0:V3→aD→Int→Int→Option R) (k1:V3→aD→Int→Int→Option R) (x0:V3) (x1:aD) (x2 x3:Int):Option R:=
ad (decide (x3≤(x0.length:Int))) (ad (x3==(x0.length:Int)) (ad (x2==x3) (k0 x0 x1 x2 x3) (ad (x3==(x0.length:Int)) (if 0≤x2∧x2≤x3∧x3≤(x0.length:Int) then
let v30:V3:=((x0.drop x2.toNat).take (x3.toNat - x2.toNat))
if x1.length+[v30].length≤8796093022208 then
k1 x0 (x1++[v30]) (IntKind.i64.wrap (x3+(1:Int))) (IntKind.i64.wrap (x3+(1:Int)))
else none
else none) (if 0≤x3∧x3 < (x0.length:Int) then
ad (((x0.getD x3.toNat 0).toNat:Int)==(10:Int)) (if 0≤x2∧x2≤x3∧x3≤(x0.length:Int) then
let v35:V3:=((x0.drop x2.toNat).take (x3.toNat - x2.toNat))
if x1.length+[v35].length≤8796093022208 then
k1 x0 (x1++[v35]) (IntKind.i64.wrap (x3+(1:Int))) (IntKind.i64.wrap (x3+(1:Int)))
else none
else none) (k1 x0 x1 x2 (IntKind.i64.wrap (x3+(1:Int))))
else none))) (ad (x3==(x0.length:Int)) (if 0≤x2∧x2≤x3∧x3≤(x0.length:Int) then
let v40:V3:=((x0.drop x2.toNat).take (x3.toNat - x2.toNat))
if x1.length+[v40].length≤8796093022208 then
k1 x0 (x1++[v40]) (IntKind.i64.wrap (x3+(1:Int))) (IntKind.i64.wrap (x3+(1:Int)))
else none
else none) (if 0≤x3∧x3 < (x0.length:Int) then
ad (((x0.getD x3.toNat 0).toNat:Int)==(10:Int)) (if 0≤x2∧x2≤x3∧x3≤(x0.length:Int) then
let v45:V3:=((x0.drop x2.toNat).take (x3.toNat - x2.toNat))
if x1.length+[v45].length≤8796093022208 then
k1 x0 (x1++[v45]) (IntKind.i64.wrap (x3+(1:Int))) (IntKind.i64.wrap (x3+(1:Int)))
else none
else none) (k1 x0 x1 x2 (IntKind.i64.wrap (x3+(1:Int))))
else none))) (k0 x0 x1 x2 x3)
theorem amd (x0 x1 x2 x3):exec cl N ES (e1 x0 x1 x2 x3) K=(P6 (fun y0 y1 y2 y3=>K (.exit 0) (e1 y0 y1 y2 y3)) (fun y0 y1 y2 y3=>K .normal (e1 y0 y1 y2 y3)) x0 x1 x2 x3):=by
 kernel_rfl
def It {R:Type} (k0:V3→aD→Int→Int→Option R):Nat→V3→aD→Int→Int→Option R
 | 0,_,_,_,_=>none
 | m+1,x0,x1,x2,x3=>(P6 k0 (It k0 m) x0 x1 x2 x3)
theorem abB:∀ (m) (x0 x1 x2 x3),iter [0,3,4,5] (fun env K=>exec cl N ES env K) K m (e1 x0 x1 x2 x3)=It (fun y0 y1 y2 y3=>K (.exit 0) (e1 y0 y1 y2 y3)) m x0 x1 x2 x3:=by
 intro m
 induction m with
 | zero=>intros; rfl
 | succ m ih=>
   intro x0 x1 x2 x3
   simp only [ck,amd,cq,cm,ct,Ry,ih]
   rfl
theorem ZT (x0 x1 x2 x3):ak [3] (e1 x0 x1 x2 x3)=(e2 x1):=by kernel_rfl
def P7 (N:Nat) (k0:aD→Option R) (x0:V3) (x1:aD) (x2 x3:Int):Option R:=
It (fun y0 y1 y2 y3=>k0 y1) N x0 x1 x2 x3
theorem ame (x0 x1 x2 x3):exec cl N ET (e1 x0 x1 x2 x3) K=(P7 N (fun y0=>K (.exit 0) (e2 y0)) x0 x1 x2 x3):=by
 simp only [ET,aY,cj,Ry,abB,ZT]
 rfl
theorem ZU (x0):ak [3] (e2 x0)=(e2 x0):=by kernel_rfl
def P8 (k0:aD→Option R) (x0:aD):Option R:=
k0 x0
theorem amf (x0):exec cl N Nq (e2 x0) K=(P8 (fun y0=>K .ret (e3 y0)) x0):=by
 kernel_rfl
def Qa (N:Nat) (k0:aD→Option R) (x0:V3):Option R:=
(P9 (P5 (P7 N ((P8 k0)))) x0)
theorem amh (x0):exec cl N zj [(0,.v .str x0)] K=(Qa N (fun y0=>K .ret (e3 y0)) x0):=by
 simp only [b6,b9,b8,ca,amg,zi,Np,amc,No,aY,cB,ame,cz,cA,cy,ZU,amf]
 rfl
theorem afL (y0):ah d92 .ret (e3 y0)=some [.own true 9 .str .no y0]:=by kernel_rfl
def HI (N:Nat) (x0:V3) (k:aD→Option R):Option R:=
(Qa N k x0)
theorem VT (x0) (k:List E→Option R):exec cl N ER [(0,.v .str x0)] (fun e env=>(ah d92 e env).bind k)=HI N x0 (fun r0=>k [.own true 9 .str .no r0]):=by
 simp only [ER,amh,afL,ar]
 rfl
def zS (S:V3→Option ft):aO:=cL 92 .str S fun b=> [.own true 9 .str .no b]
def fK (N:Nat) (x0:V3):Option ft:=HI N x0 (fun (r0:aD)=>some (r0))
def Qf (k0:V3→aD→Int→Option R) (x0:V3):Option R:=
k0 x0 [] (0:Int)
theorem amm (x0):exec cl N zl [(0,.v .str x0)] K=(Qf (fun y0 y1 y2=>exec cl N zk (e0 y0 y1 y2) K) x0):=by
 delta zl
 generalize zk=q
 revert q
 refine id ?_
 intro q
 kernel_rfl
def Qb (k0:V3→aD→Int→Int→Option R) (x0:V3) (x1:aD) (x2:Int):Option R:=
k0 x0 x1 x2 (0:Int)
theorem ami (x0 x1 x2):exec cl N Nr (e0 x0 x1 x2) K=(Qb (fun y0 y1 y2 y3=>K .normal (e1 y0 y1 y2 y3)) x0 x1 x2):=by
 kernel_rfl
theorem Rz (x0 x1 x2 x3):ak [0,3,4,5] (e1 x0 x1 x2 x3)=(e1 x0 x1 x2 x3):=by kernel_rfl
def Qc (k0:aD→Option R) (k1:V3→aD→Int→Int→Option R) (k2:V3→aD→Int→Int→Option R) (x0:V3) (x1:aD) (x2 x3:Int):Option R:=
ad (decide (x3≤(x0.length:Int))) (ad (x3==(x0.length:Int)) (ad (x3==x2) (k0 []) (if 0≤x2∧x2≤x3∧x3≤(x0.length:Int) then
let v70:V3:=((x0.drop x2.toNat).take (x3.toNat - x2.toNat))
if x1.length+[v70].length≤8796093022208 then
k1 x0 (x1++[v70]) (IntKind.i64.wrap (x3+(1:Int))) (IntKind.i64.wrap (x3+(1:Int)))
else none
else none)) (if 0≤x3∧x3 < (x0.length:Int) then
ad (((x0.getD x3.toNat 0).toNat:Int)==(32:Int)) (ad (x3==x2) (k0 []) (if 0≤x2∧x2≤x3∧x3≤(x0.length:Int) then
let v75:V3:=((x0.drop x2.toNat).take (x3.toNat - x2.toNat))
if x1.length+[v75].length≤8796093022208 then
k1 x0 (x1++[v75]) (IntKind.i64.wrap (x3+(1:Int))) (IntKind.i64.wrap (x3+(1:Int)))
else none
else none)) (k1 x0 x1 x2 (IntKind.i64.wrap (x3+(1:Int))))
else none)) (k2 x0 x1 x2 x3)
theorem amj (x0 x1 x2 x3):exec cl N EV (e1 x0 x1 x2 x3) K=(Qc (fun y0=>K .ret (e4 y0)) (fun y0 y1 y2 y3=>K .normal (e1 y0 y1 y2 y3)) (fun y0 y1 y2 y3=>K (.exit 0) (e1 y0 y1 y2 y3)) x0 x1 x2 x3):=by
 kernel_rfl
def Iu {R:Type} (k0:aD→Option R) (k1:V3→aD→Int→Int→Option R):Nat→V3→aD→Int→Int→Option R
 | 0,_,_,_,_=>none
 | m+1,x0,x1,x2,x3=>(Qc k0 (Iu k0 k1 m) k1 x0 x1 x2 x3)
theorem abC:∀ (m) (x0 x1 x2 x3),iter [0,3,4,5] (fun env K=>exec cl N EV env K) K m (e1 x0 x1 x2 x3)=Iu (fun y0=>K .ret (e4 y0)) (fun y0 y1 y2 y3=>K (.exit 0) (e1 y0 y1 y2 y3)) m x0 x1 x2 x3:=by
 intro m
 induction m with
 | zero=>intros; rfl
 | succ m ih=>
   intro x0 x1 x2 x3
   simp only [ck,amj,cq,cm,ct,Rz,ih]
   rfl
theorem ZV (x0):ak [2,3] (e4 x0)=(e5 x0):=by kernel_rfl
theorem ZW (x0 x1 x2 x3):ak [2,3] (e1 x0 x1 x2 x3)=(e6 x1):=by kernel_rfl
def Qd (N:Nat) (k0:aD→Option R) (k1:aD→Option R) (x0:V3) (x1:aD) (x2 x3:Int):Option R:=
Iu k0 (fun y0 y1 y2 y3=>k1 y1) N x0 x1 x2 x3
theorem amk (x0 x1 x2 x3):exec cl N EW (e1 x0 x1 x2 x3) K=(Qd N (fun y0=>K .ret (e5 y0)) (fun y0=>K (.exit 0) (e6 y0)) x0 x1 x2 x3):=by
 simp only [EW,aY,cj,Rz,abC,ZV,ZW]
 rfl
theorem ZX (x0):ak [2,3] (e5 x0)=(e5 x0):=by kernel_rfl
theorem ZY (x0):ak [2,3] (e6 x0)=(e6 x0):=by kernel_rfl
def Qe (k0:aD→Option R) (x0:aD):Option R:=
k0 x0
theorem aml (x0):exec cl N Nu (e6 x0) K=(Qe (fun y0=>K .ret (e3 y0)) x0):=by
 kernel_rfl
def Qg (N:Nat) (k0:aD→Option R) (k1:aD→Option R) (x0:V3):Option R:=
(Qf (Qb (Qd N k0 ((Qe k1)))) x0)
theorem amn (x0):exec cl N zl [(0,.v .str x0)] K=(Qg N (fun y0=>K .ret (e5 y0)) (fun y0=>K .ret (e3 y0)) x0):=by
 simp only [b6,b9,b8,ca,amm,zk,Nt,ami,Ns,aY,cB,amk,cz,cA,cy,ZX,ZY,aml]
 rfl
theorem afM (y0):ah d93 .ret (e5 y0)=some [.own true 9 .str .no y0]:=by kernel_rfl
theorem afN (y0):ah d93 .ret (e3 y0)=some [.own true 9 .str .no y0]:=by kernel_rfl
def HJ (N:Nat) (x0:V3) (k:aD→Option R):Option R:=
(Qg N k k x0)
theorem VU (x0) (k:List E→Option R):exec cl N EU [(0,.v .str x0)] (fun e env=>(ah d93 e env).bind k)=HJ N x0 (fun r0=>k [.own true 9 .str .no r0]):=by
 simp only [EU,amn,afM,afN,ar]
 rfl
def kF (S:V3→Option ft):aO:=cL 93 .str S fun b=> [.own true 9 .str .no b]
def bJ (N:Nat) (x0:V3):Option ft:=HJ N x0 (fun (r0:aD)=>some (r0))
def Pd (k0:V3→aD→Option R) (x0:V3):Option R:=
k0 x0 [([]:List UInt8)]
theorem aiD (x0):exec cl N ye [(0,.v .str x0)] K=(Pd (fun y0 y1=>exec cl N yd [(0,.v .str y0),(3,.own true 9 .str .no y1)] K) x0):=by
 delta ye
 generalize yd=q
 revert q
 refine id ?_
 intro q
 kernel_rfl
def O9 (k0:V3→aD→Int→Option R) (x0:V3) (x1:aD):Option R:=
k0 x0 x1 (0:Int)
theorem aiz (x0 x1):exec cl N KC [(0,.v .str x0),(3,.own true 9 .str .no x1)] K=(O9 (fun y0 y1 y2=>K .normal (e0 y0 y1 y2)) x0 x1):=by
 kernel_rfl
theorem Q7 (x0 x1 x2):ak [0,3,4] (e0 x0 x1 x2)=(e0 x0 x1 x2):=by kernel_rfl
def Pa (k0:V3→aD→Int→Option R) (k1:V3→aD→Int→Option R) (x0:V3) (x1:aD) (x2:Int):Option R:=
ad (decide (x2 < (x0.length:Int))) (if 0≤x2∧x2 < (x0.length:Int) then
ad (((x0.getD x2.toNat 0).toNat:Int)==(32:Int)) (if x1.length+[([]:List UInt8)].length≤8796093022208 then
k0 x0 (x1++[([]:List UInt8)]) (IntKind.i64.wrap (x2+(1:Int)))
else none) (let v105:Int:=(IntKind.i64.wrap ((x1.length:Int) - (1:Int)))
let v106:Int:=(IntKind.i64.wrap ((x1.length:Int) - (1:Int)))
if 0≤v106∧v106 < (x1.length:Int) then
if v106.toNat < x1.length then
let v108:Int:=(IntKind.i64.wrap (x2+(1:Int)))
if 0≤x2∧x2≤v108∧v108≤(x0.length:Int) then
let v109:V3:=((x0.drop x2.toNat).take (v108.toNat - x2.toNat))
if (x1.getD v106.toNat []).length+v109.length≤140737488355328 then
if 0≤v105∧v105 < (x1.length:Int) then
if v105.toNat < x1.length then
k0 x0 (x1.set v105.toNat ((x1.getD v106.toNat [])++v109)) (IntKind.i64.wrap (x2+(1:Int)))
else none
else none
else none
else none
else none
else none)
else none) (k1 x0 x1 x2)
theorem aiA (x0 x1 x2):exec cl N CQ (e0 x0 x1 x2) K=(Pa (fun y0 y1 y2=>K .normal (e0 y0 y1 y2)) (fun y0 y1 y2=>K (.exit 0) (e0 y0 y1 y2)) x0 x1 x2):=by
 kernel_rfl
def Ij {R:Type} (k0:V3→aD→Int→Option R):Nat→V3→aD→Int→Option R
 | 0,_,_,_=>none
 | m+1,x0,x1,x2=>(Pa (Ij k0 m) k0 x0 x1 x2)
theorem aa4:∀ (m) (x0 x1 x2),iter [0,3,4] (fun env K=>exec cl N CQ env K) K m (e0 x0 x1 x2)=Ij (fun y0 y1 y2=>K (.exit 0) (e0 y0 y1 y2)) m x0 x1 x2:=by
 intro m
 induction m with
 | zero=>intros; rfl
 | succ m ih=>
   intro x0 x1 x2
   simp only [ck,aiA,cq,cm,ct,Q7,ih]
   rfl
theorem Yj (x0 x1 x2):ak [3] (e0 x0 x1 x2)=(e2 x1):=by kernel_rfl
def Pb (N:Nat) (k0:aD→Option R) (x0:V3) (x1:aD) (x2:Int):Option R:=
Ij (fun y0 y1 y2=>k0 y1) N x0 x1 x2
theorem aiB (x0 x1 x2):exec cl N CR (e0 x0 x1 x2) K=(Pb N (fun y0=>K (.exit 0) (e2 y0)) x0 x1 x2):=by
 simp only [CR,aY,cj,Q7,aa4,Yj]
 rfl
theorem Yk (x0):ak [3] (e2 x0)=(e2 x0):=by kernel_rfl
def Pc (k0:aD→Option R) (x0:aD):Option R:=
k0 x0
theorem aiC (x0):exec cl N KG (e2 x0) K=(Pc (fun y0=>K .ret (e3 y0)) x0):=by
 kernel_rfl
def Pe (N:Nat) (k0:aD→Option R) (x0:V3):Option R:=
(Pd (O9 (Pb N ((Pc k0)))) x0)
theorem aiE (x0):exec cl N ye [(0,.v .str x0)] K=(Pe N (fun y0=>K .ret (e3 y0)) x0):=by
 simp only [b6,b9,b8,ca,aiD,yd,KF,aiz,KD,aY,cB,aiB,cz,cA,cy,Yk,aiC]
 rfl
theorem aeg (y0):ah d138 .ret (e3 y0)=some [.own true 9 .str .no y0]:=by kernel_rfl
def G6 (N:Nat) (x0:V3) (k:aD→Option R):Option R:=
(Pe N k x0)
theorem UX (x0) (k:List E→Option R):exec cl N CP [(0,.v .str x0)] (fun e env=>(ah d138 e env).bind k)=G6 N x0 (fun r0=>k [.own true 9 .str .no r0]):=by
 simp only [CP,aiE,aeg,ar]
 rfl
def zJ (S:V3→Option ft):aO:=cL 138 .str S fun b=> [.own true 9 .str .no b]
def fH (N:Nat) (x0:V3):Option ft:=G6 N x0 (fun (r0:aD)=>some (r0))
def Pu (k0:V3→Option R):Option R:=
k0 ([32,118,100,109,108,110,115,120,103,98]:List UInt8)
theorem ai7:exec cl N KZ [] K=(Pu (fun y0=>K .ret [(0,.v .str y0)])):=by
 kernel_rfl
theorem aet (y0):ah d148 .ret [(0,.v .str y0)]=some [.v .str y0]:=by kernel_rfl
def Hc (k:V3→Option R):Option R:=
(Pu k)
theorem Ve (k:List E→Option R):exec cl N Da [] (fun e env=>(ah d148 e env).bind k)=Hc (fun r0=>k [.v .str r0]):=by
 simp only [Da,ai7,aet,ar]
 rfl
def nX (S:Option V6):aO:={A:=Unit,B:=V3,f:=148,enc:=fun a=> [],dec:=bY,S:=fun a=>S,au:=fun b=> [.v .str b],ok:=(fun es b h=>iW h)}
def dq (N:Nat):Option V6:=Hc (fun (r0:V3)=>some (r0))
def GQ (k0:Bool→Option R) (x0:aN):Option R:=
ad (x0.1==(1:Int)) (k0 true) (k0 (x0.1==(2:Int)))
theorem ahC (x0):exec cl N JW [(0,.v aA x0)] K=(GQ (fun y0=>K .ret [(2,.v .bool y0)]) x0):=by
 kernel_rfl
theorem adP (y0):ah d114 .ret [(2,.v .bool y0)]=some [.v .bool y0]:=by kernel_rfl
def Ai (x0:aN) (k:Bool→Option R):Option R:=
(GQ k x0)
theorem UE (x0) (k:List E→Option R):exec cl N Cf [(0,.v aA x0)] (fun e env=>(ah d114 e env).bind k)=Ai x0 (fun r0=>k [.v .bool r0]):=by
 simp only [Cf,ahC,adP,ar]
 rfl
def zE (S:aN→Option (Bool)):aO:=cL 114 aA S fun b=> [.v .bool b]
def fe (N:Nat) (x0:aN):Option (Bool):=Ai x0 (fun (r0:Bool)=>some (r0))
def G5 (k0:Bool→Option R) (x0:Int):Option R:=
ad (decide (x0≥(97:Int))) (ad (decide (x0≤(122:Int))) (k0 true) (ad (decide (x0≥(48:Int))) (ad (decide (x0≤(57:Int))) (k0 true) (ad (x0==(95:Int)) (k0 true) (ad (x0==(94:Int)) (k0 true) (k0 (x0==(39:Int)))))) (ad (x0==(95:Int)) (k0 true) (ad (x0==(94:Int)) (k0 true) (k0 (x0==(39:Int))))))) (ad (decide (x0≥(48:Int))) (ad (decide (x0≤(57:Int))) (k0 true) (ad (x0==(95:Int)) (k0 true) (ad (x0==(94:Int)) (k0 true) (k0 (x0==(39:Int)))))) (ad (x0==(95:Int)) (k0 true) (ad (x0==(94:Int)) (k0 true) (k0 (x0==(39:Int))))))
theorem aiy (x0):exec cl N KB [(0,.v U0 x0)] K=(G5 (fun y0=>K .ret [(2,.v .bool y0)]) x0):=by
 kernel_rfl
theorem aef (y0):ah d137 .ret [(2,.v .bool y0)]=some [.v .bool y0]:=by kernel_rfl
def Ap (x0:Int) (k:Bool→Option R):Option R:=
(G5 k x0)
theorem UW (x0) (k:List E→Option R):exec cl N CO [(0,.v U0 x0)] (fun e env=>(ah d137 e env).bind k)=Ap x0 (fun r0=>k [.v .bool r0]):=by
 simp only [CO,aiy,aef,ar]
 rfl
def qa (S:Int→Option (Bool)):aO:=cL 137 U0 S fun b=> [.v .bool b]
def dd (N:Nat) (x0:Int):Option (Bool):=Ap x0 (fun (r0:Bool)=>some (r0))
def tZ (k0:Int→Option R) (k1:aN→Bool→Option R) (x0:aN):Option R:=
ad (decide (x0.1 < (1:Int))) (k0 (1:Int)) (ad (decide (x0.1 > (9:Int))) (k0 (1:Int)) (ad (x0.1==(1:Int)) (ad (decide (x0.2.1≥(1:Int))) (ad (x0.1==(2:Int)) (k1 x0 (x0.2.1==(2:Int))) (k1 x0 (decide (x0.2.1≤(3:Int))))) (ad (x0.1==(2:Int)) (k1 x0 (x0.2.1==(2:Int))) (k1 x0 false))) (ad (x0.1==(2:Int)) (k1 x0 (x0.2.1==(2:Int))) (k1 x0 (x0.2.1==(0:Int))))))
theorem ahT (x0):exec cl N xU [(0,.v aA x0)] K=(tZ (fun y0=>K .ret (e7 y0)) (fun y0 y1=>exec cl N sZ [(1,.loc aA .no y0),(3,.v .bool y1)] K) x0):=by
 delta xU
 generalize sZ=q
 revert q
 refine id ?_
 intro q
 kernel_rfl
def tY (k0:Int→Option R) (k1:aN→Option R) (x0:aN) (x1:Bool):Option R:=
ad (!x1) (k0 (6:Int)) (ad (x0.2.2.1==([]:List UInt8)) (k0 (7:Int)) (ad (decide ((x0.2.2.1.length:Int) > (8:Int))) (k0 (3:Int)) (k1 x0)))
theorem ahS (x0 x1):exec cl N sZ [(1,.loc aA .no x0),(3,.v .bool x1)] K=(tY (fun y0=>K .ret (e7 y0)) (fun y0=>exec cl N xT [(1,.loc aA .no y0),(2,.dead)] K) x0 x1):=by
 delta sZ
 generalize xT=q
 revert q
 refine id ?_
 intro q
 kernel_rfl
def tU (k0:aN→Int→Option R) (x0:aN):Option R:=
k0 x0 (0:Int)
theorem ahO (x0):exec cl N J3 [(1,.loc aA .no x0),(2,.dead)] K=(tU (fun y0 y1=>K .normal (e8 y0 y1)) x0):=by
 kernel_rfl
theorem Q1 (x0 x1):ak [1,4] (e8 x0 x1)=(e8 x0 x1):=by kernel_rfl
def tV (dd:Int→Option (Bool)) (k0:Int→Option R) (k1:aN→Int→Option R) (k2:aN→Int→Option R) (x0:aN) (x1:Int):Option R:=
ad (decide (x1 < (x0.2.2.1.length:Int))) (if 0≤x1∧x1 < (x0.2.2.1.length:Int) then
(dd ((x0.2.2.1.getD x1.toNat 0).toNat:Int)).bind fun r262=>
ad (!r262) (k0 (2:Int)) (k1 x0 (IntKind.i64.wrap (x1+(1:Int))))
else none) (k2 x0 x1)
theorem ahP (dd) (h137:(qa dd).holds cl) (x0 x1):exec cl N Co (e8 x0 x1) K=(tV dd (fun y0=>K .ret (e9 y0)) (fun y0 y1=>K .normal (e8 y0 y1)) (fun y0 y1=>K (.exit 0) (e8 y0 y1)) x0 x1):=by
 rw [←aP h137]
 kernel_rfl
def rH {R:Type} (dd:Int→Option (Bool)) (k0:Int→Option R) (k1:aN→Int→Option R):Nat→aN→Int→Option R
 | 0,_,_=>none
 | m+1,x0,x1=>(tV dd k0 (rH dd k0 k1 m) k1 x0 x1)
theorem aaY (dd) (h137:(qa dd).holds cl):∀ (m) (x0 x1),iter [1,4] (fun env K=>exec cl N Co env K) K m (e8 x0 x1)=rH dd (fun y0=>K .ret (e9 y0)) (fun y0 y1=>K (.exit 0) (e8 y0 y1)) m x0 x1:=by
 intro m
 induction m with
 | zero=>intros; rfl
 | succ m ih=>
   intro x0 x1
   simp only [ck,ahP dd h137,cq,cm,ct,Q1,ih]
   rfl
theorem XX (x0):ak [2] (e9 x0)=[(2,.v U2 x0)]:=by kernel_rfl
theorem XY (x0 x1):ak [2] (e8 x0 x1)=[(2,.dead)]:=by kernel_rfl
def tW (N:Nat) (dd:Int→Option (Bool)) (k0:Int→Option R) (k1:Option R) (x0:aN) (x1:Int):Option R:=
rH dd k0 (fun y0 y1=>k1) N x0 x1
theorem ahQ (dd) (h137:(qa dd).holds cl) (x0 x1):exec cl N Cp (e8 x0 x1) K=(tW N dd (fun y0=>K .ret [(2,.v U2 y0)]) (K (.exit 0) [(2,.dead)]) x0 x1):=by
 simp only [Cp,aY,cj,Q1,aaY dd h137,XX,XY]
 rfl
theorem XZ (x0):ak [2] [(2,.v U2 x0)]=[(2,.v U2 x0)]:=by kernel_rfl
theorem X0:ak [2] [(2,.dead)]=[(2,.dead)]:=by kernel_rfl
def tX (k0:Int→Option R):Option R:=
k0 (0:Int)
theorem ahR:exec cl N J6 [(2,.dead)] K=(tX (fun y0=>K .ret [(2,.v U2 y0)])):=by
 kernel_rfl
def ua (N:Nat) (dd:Int→Option (Bool)) (k0:Int→Option R) (k1:Int→Option R) (x0:aN):Option R:=
(tZ k0 (tY k0 (tU (tW N dd k1 (tX k1)))) x0)
theorem ahU (dd) (h137:(qa dd).holds cl) (x0):exec cl N xU [(0,.v aA x0)] K=(ua N dd (fun y0=>K .ret (e7 y0)) (fun y0=>K .ret [(2,.v U2 y0)]) x0):=by
 simp only [b6,b9,b8,ca,ahT,ahS,xT,J5,ahO,J4,aY,cB,ahQ dd h137,cz,cA,cy,XZ,X0,ahR]
 rfl
theorem adU (y0):ah d117 .ret (e7 y0)=some [.v U2 y0]:=by kernel_rfl
theorem adV (y0):ah d117 .ret [(2,.v U2 y0)]=some [.v U2 y0]:=by kernel_rfl
def qC (N:Nat) (dd:Int→Option (Bool)) (x0:aN) (k:Int→Option R):Option R:=
(ua N dd k k x0)
theorem UH (dd) (h137:(qa dd).holds cl) (x0) (k:List E→Option R):exec cl N Cn [(0,.v aA x0)] (fun e env=>(ah d117 e env).bind k)=qC N dd x0 (fun r0=>k [.v U2 r0]):=by
 simp only [Cn,ahU dd h137,adU,adV,ar]
 rfl
def me (S:aN→Option (Int)):aO:=cL 117 aA S fun b=> [.v U2 b]
def bH (N:Nat) (x0:aN):Option (Int):=qC N (dd N) x0 (fun (r0:Int)=>some (r0))
def Pj (k0:V3→aN→Int→Option R) (x0:V3):Option R:=
k0 x0 ((0:Int),((0:Int),([],()))) (0:Int)
theorem aiI (x0):exec cl N yg [(0,.v .str x0)] K=(Pj (fun y0 y1 y2=>exec cl N yf (j8 y0 y1 y2) K) x0):=by
 delta yg
 generalize yf=q
 revert q
 refine id ?_
 intro q
 kernel_rfl
theorem A0 (x0 x1 x2):ak [0,2,4] (j8 x0 x1 x2)=(j8 x0 x1 x2):=by kernel_rfl
def Pf (k0:V3→aN→Int→Option R) (k1:V3→aN→Int→Option R) (x0:V3) (x1:aN) (x2:Int):Option R:=
ad (decide (x2 < (x0.length:Int))) (if 0≤x2∧x2 < (x0.length:Int) then
ad (((x0.getD x2.toNat 0).toNat:Int) != (47:Int)) (k0 x0 x1 (IntKind.i64.wrap (x2+(1:Int)))) (k1 x0 x1 x2)
else none) (k1 x0 x1 x2)
theorem aiF (x0 x1 x2):exec cl N CT (j8 x0 x1 x2) K=(Pf (fun y0 y1 y2=>K .normal (j8 y0 y1 y2)) (fun y0 y1 y2=>K (.exit 0) (j8 y0 y1 y2)) x0 x1 x2):=by
 kernel_rfl
def Ik {R:Type} (k0:V3→aN→Int→Option R):Nat→V3→aN→Int→Option R
 | 0,_,_,_=>none
 | m+1,x0,x1,x2=>(Pf (Ik k0 m) k0 x0 x1 x2)
theorem aa5:∀ (m) (x0 x1 x2),iter [0,2,4] (fun env K=>exec cl N CT env K) K m (j8 x0 x1 x2)=Ik (fun y0 y1 y2=>K (.exit 0) (j8 y0 y1 y2)) m x0 x1 x2:=by
 intro m
 induction m with
 | zero=>intros; rfl
 | succ m ih=>
   intro x0 x1 x2
   simp only [ck,aiF,cq,cm,ct,A0,ih]
   rfl
def Pg (N:Nat) (k0:V3→aN→Int→Option R) (x0:V3) (x1:aN) (x2:Int):Option R:=
Ik k0 N x0 x1 x2
theorem aiG (x0 x1 x2):exec cl N CU (j8 x0 x1 x2) K=(Pg N (fun y0 y1 y2=>K (.exit 0) (j8 y0 y1 y2)) x0 x1 x2):=by
 simp only [CU,aY,cj,A0,aa5,A0]
 rfl
def Ph (k0:aN→Bool→Option R) (k1:aN→V3→aN→Option R) (x0:V3) (x1:aN) (x2:Int):Option R:=
ad (decide (x2 < (x0.length:Int))) (let v283:Int:=(IntKind.i64.wrap (x2+(1:Int)))
if 0≤v283∧v283≤(x0.length:Int)∧(x0.length:Int)≤(x0.length:Int) then
let v284:V3:=((x0.drop v283.toNat).take ((x0.length:Int).toNat - v283.toNat))
ad (v284==([]:List UInt8)) (k0 ((0:Int),(0:Int),[],()) false) (if 0≤(0:Int)∧(0:Int)≤x2∧x2≤(x0.length:Int) then
k1 x1 v284 ((0:Int),(0:Int),((x0.drop (0:Int).toNat).take (x2.toNat - (0:Int).toNat)),())
else none)
else none) (ad (([]:List UInt8)==([]:List UInt8)) (k0 ((0:Int),(0:Int),[],()) false) (if 0≤(0:Int)∧(0:Int)≤x2∧x2≤(x0.length:Int) then
k1 x1 ([]:List UInt8) ((0:Int),(0:Int),((x0.drop (0:Int).toNat).take (x2.toNat - (0:Int).toNat)),())
else none))
theorem aiH (x0 x1 x2):exec cl N CV (j8 x0 x1 x2) K=(Ph (fun y0 y1=>K .ret (F0 y0 y1)) (fun y0 y1 y2=>exec cl N yh (od y0 y1 y2) K) x0 x1 x2):=by
 delta CV
 generalize yh=q
 revert q
 refine id ?_
 intro q
 kernel_rfl
def Pl (k0:aN→V3→aN→Int→Option R) (x0:aN) (x1:V3) (x2:aN):Option R:=
k0 x0 x1 x2 (1:Int)
theorem aiK (x0 x1 x2):exec cl N KI (od x0 x1 x2) K=(Pl (fun y0 y1 y2 y3=>K .normal (kN y0 y1 y2 y3)) x0 x1 x2):=by
 kernel_rfl
theorem Q8 (x0 x1 x2 x3):ak [2,5,6,7] (kN x0 x1 x2 x3)=(kN x0 x1 x2 x3):=by kernel_rfl
def Pm (dq:Option V6) (k0:aN→V3→aN→Int→Option R) (k1:aN→V3→aN→Int→Option R) (x0:aN) (x1:V3) (x2:aN) (x3:Int):Option R:=
(dq).bind fun r293=>
ad (decide (x3 < (r293.length:Int))) ((dq).bind fun r295=>
if 0≤x3∧x3 < (r295.length:Int) then
if 0≤(0:Int)∧(0:Int) < (x1.length:Int) then
ad (((r295.getD x3.toNat 0).toNat:Int)==((x1.getD (0:Int).toNat 0).toNat:Int)) (k0 x0 x1 (x3,x2.2) (IntKind.i64.wrap (x3+(1:Int)))) (k0 x0 x1 x2 (IntKind.i64.wrap (x3+(1:Int))))
else none
else none) (k1 x0 x1 x2 x3)
theorem aiL (dq) (h148:(nX dq).holds cl) (x0 x1 x2 x3):exec cl N CW (kN x0 x1 x2 x3) K=(Pm dq (fun y0 y1 y2 y3=>K .normal (kN y0 y1 y2 y3)) (fun y0 y1 y2 y3=>K (.exit 2) (kN y0 y1 y2 y3)) x0 x1 x2 x3):=by
 rw [←aP h148]
 kernel_rfl
def Il {R:Type} (dq:Option V6) (k0:aN→V3→aN→Int→Option R):Nat→aN→V3→aN→Int→Option R
 | 0,_,_,_,_=>none
 | m+1,x0,x1,x2,x3=>(Pm dq (Il dq k0 m) k0 x0 x1 x2 x3)
theorem aa6 (dq) (h148:(nX dq).holds cl):∀ (m) (x0 x1 x2 x3),iter [2,5,6,7] (fun env K=>exec cl N CW env K) K m (kN x0 x1 x2 x3)=Il dq (fun y0 y1 y2 y3=>K (.exit 2) (kN y0 y1 y2 y3)) m x0 x1 x2 x3:=by
 intro m
 induction m with
 | zero=>intros; rfl
 | succ m ih=>
   intro x0 x1 x2 x3
   simp only [ck,aiL dq h148,cq,cm,ct,Q8,ih]
   rfl
theorem Yl (x0 x1 x2 x3):ak [2,5,6] (kN x0 x1 x2 x3)=(od x0 x1 x2):=by kernel_rfl
def Pn (N:Nat) (dq:Option V6) (k0:aN→V3→aN→Option R) (x0:aN) (x1:V3) (x2:aN) (x3:Int):Option R:=
Il dq (fun y0 y1 y2 y3=>k0 y0 y1 y2) N x0 x1 x2 x3
theorem aiM (dq) (h148:(nX dq).holds cl) (x0 x1 x2 x3):exec cl N CX (kN x0 x1 x2 x3) K=(Pn N dq (fun y0 y1 y2=>K (.exit 2) (od y0 y1 y2)) x0 x1 x2 x3):=by
 simp only [CX,aY,cj,Q8,aa6 dq h148,Yl]
 rfl
theorem Ym (x0 x1 x2):ak [2,5,6] (od x0 x1 x2)=(od x0 x1 x2):=by kernel_rfl
def Po (fe:aN→Option (Bool)) (bH:aN→Option (Int)) (k0:aN→Bool→Option R) (x0:aN) (x1:V3) (x2:aN):Option R:=
if 0≤(1:Int)∧(1:Int)≤(x1.length:Int)∧(x1.length:Int)≤(x1.length:Int) then
let v301:V3:=((x1.drop (1:Int).toNat).take ((x1.length:Int).toNat - (1:Int).toNat))
(fe x2).bind fun r302=>
ad r302 (ad ((v301.length:Int)==(1:Int)) (if 0≤(0:Int)∧(0:Int) < (v301.length:Int) then
ad (decide (((v301.getD (0:Int).toNat 0).toNat:Int)≥(49:Int))) (if 0≤(0:Int)∧(0:Int) < (v301.length:Int) then
ad (decide (((v301.getD (0:Int).toNat 0).toNat:Int)≤(51:Int))) (if 0≤(0:Int)∧(0:Int) < (v301.length:Int) then
let v310:Int:=(IntKind.i64.wrap ((IntKind.i64.wrap ((v301.getD (0:Int).toNat 0).toNat:Int)) - (48:Int)))
ad (([]:List UInt8)==([]:List UInt8)) ((bH (x2.1,(v310,x2.2.2))).bind fun r312=>
k0 (x2.1,(v310,x2.2.2)) (r312==(0:Int))) (k0 (x2.1,(v310,x2.2.2)) false)
else none) (ad (v301==([]:List UInt8)) ((bH x2).bind fun r315=>
k0 x2 (r315==(0:Int))) (k0 x2 false))
else none) (ad (v301==([]:List UInt8)) ((bH x2).bind fun r318=>
k0 x2 (r318==(0:Int))) (k0 x2 false))
else none) (ad (v301==([]:List UInt8)) ((bH x2).bind fun r321=>
k0 x2 (r321==(0:Int))) (k0 x2 false))) (ad (v301==([]:List UInt8)) ((bH x2).bind fun r324=>
k0 x2 (r324==(0:Int))) (k0 x2 false))
else none
theorem aiN (fe) (bH) (h114:(zE fe).holds cl) (h117:(me bH).holds cl) (x0 x1 x2):exec cl N KL (od x0 x1 x2) K=(Po fe bH (fun y0 y1=>K .ret (F9 y0 y1)) x0 x1 x2):=by
 rw [←aP h114]
 rw [←aP h117]
 kernel_rfl
def Pk (N:Nat) (fe:aN→Option (Bool)) (bH:aN→Option (Int)) (dq:Option V6) (k0:aN→Bool→Option R) (k1:aN→Bool→Option R) (x0:V3):Option R:=
(Pj (Pg N ((Ph k0 (Pl (Pn N dq ((Po fe bH k1))))))) x0)
theorem aiJ (fe) (bH) (dq) (h114:(zE fe).holds cl) (h117:(me bH).holds cl) (h148:(nX dq).holds cl) (x0):exec cl N yg [(0,.v .str x0)] K=(Pk N fe bH dq (fun y0 y1=>K .ret (F0 y0 y1)) (fun y0 y1=>K .ret (F9 y0 y1)) x0):=by
 simp only [b6,b9,b8,ca,aiI,yf,KH,aY,cB,aiG,cz,cA,cy,A0,aiH,yh,KK,aiK,KJ,aiM dq h148,Ym,aiN fe bH h114 h117]
 rfl
theorem aeh (y0 y1):ah d139 .ret (F0 y0 y1)=some [.v aA y0,.v .bool y1]:=by kernel_rfl
theorem aei (y0 y1):ah d139 .ret (F9 y0 y1)=some [.v aA y0,.v .bool y1]:=by kernel_rfl
def G7 (N:Nat) (fe:aN→Option (Bool)) (bH:aN→Option (Int)) (dq:Option V6) (x0:V3) (k:aN→Bool→Option R):Option R:=
(Pk N fe bH dq k k x0)
theorem UY (fe) (bH) (dq) (h114:(zE fe).holds cl) (h117:(me bH).holds cl) (h148:(nX dq).holds cl) (x0) (k:List E→Option R):exec cl N CS [(0,.v .str x0)] (fun e env=>(ah d139 e env).bind k)=G7 N fe bH dq x0 (fun r0 r1=>k [.v aA r0,.v .bool r1]):=by
 simp only [CS,aiJ fe bH dq h114 h117 h148,aeh,aei,ar]
 rfl
def qb (S:V3→Option nQ):aO:=cL 139 .str S fun b=> [.v aA b.1,.v .bool b.2]
def dA (N:Nat) (x0:V3):Option nQ:=G7 N (fe N) (bH N) (dq N) x0 (fun (r0:aN) (r1:Bool)=>some (r0,r1))
def OZ (fH:V3→Option ft) (k0:aB→Int→Option R) (k1:aB→aD→Option R) (x0:V3):Option R:=
ad (decide ((x0.length:Int) > (4000:Int))) (k0 [] (3:Int)) (ad (x0==([]:List UInt8)) (k0 [] (0:Int)) ((fH x0).bind fun r331=>
k1 [] r331))
theorem ahZ (fH) (h138:(zJ fH).holds cl) (x0):exec cl N xW [(0,.v .str x0)] K=(OZ fH (fun y0 y1=>K .ret (Gc y0 y1)) (fun y0 y1=>exec cl N xV [(4,.own true 40 aA .no y0),(5,.own true 9 .str .no y1)] K) x0):=by
 rw [←aP h138]
 delta xW
 generalize xV=q
 revert q
 refine id ?_
 intro q
 kernel_rfl
def OV (k0:aB→aD→Int→Option R) (x0:aB) (x1:aD):Option R:=
k0 x0 x1 (0:Int)
theorem ahV (x0 x1):exec cl N J7 [(4,.own true 40 aA .no x0),(5,.own true 9 .str .no x1)] K=(OV (fun y0 y1 y2=>K .normal (kU y0 y1 y2)) x0 x1):=by
 kernel_rfl
theorem Q2 (x0 x1 x2):ak [4,5,6] (kU x0 x1 x2)=(kU x0 x1 x2):=by kernel_rfl
def OW (dA:V3→Option nQ) (k0:aB→Int→Option R) (k1:aB→aD→Int→Option R) (k2:aB→aD→Int→Option R) (x0:aB) (x1:aD) (x2:Int):Option R:=
ad (decide (x2 < (x1.length:Int))) (if 0≤x2∧x2 < (x1.length:Int) then
if x2.toNat < x1.length then
(dA (x1.getD x2.toNat [])).bind fun r334=>
ad (!r334.2) (k0 [] (2:Int)) (if x0.length+[r334.1].length≤4398046511104 then
k1 (x0++[r334.1]) x1 (IntKind.i64.wrap (x2+(1:Int)))
else none)
else none
else none) (k2 x0 x1 x2)
theorem ahW (dA) (h139:(qb dA).holds cl) (x0 x1 x2):exec cl N Cr (kU x0 x1 x2) K=(OW dA (fun y0 y1=>K .ret (Ge y0 y1)) (fun y0 y1 y2=>K .normal (kU y0 y1 y2)) (fun y0 y1 y2=>K (.exit 0) (kU y0 y1 y2)) x0 x1 x2):=by
 rw [←aP h139]
 kernel_rfl
def Ih {R:Type} (dA:V3→Option nQ) (k0:aB→Int→Option R) (k1:aB→aD→Int→Option R):Nat→aB→aD→Int→Option R
 | 0,_,_,_=>none
 | m+1,x0,x1,x2=>(OW dA k0 (Ih dA k0 k1 m) k1 x0 x1 x2)
theorem aaZ (dA) (h139:(qb dA).holds cl):∀ (m) (x0 x1 x2),iter [4,5,6] (fun env K=>exec cl N Cr env K) K m (kU x0 x1 x2)=Ih dA (fun y0 y1=>K .ret (Ge y0 y1)) (fun y0 y1 y2=>K (.exit 0) (kU y0 y1 y2)) m x0 x1 x2:=by
 intro m
 induction m with
 | zero=>intros; rfl
 | succ m ih=>
   intro x0 x1 x2
   simp only [ck,ahW dA h139,cq,cm,ct,Q2,ih]
   rfl
theorem X1 (x0 x1):ak [2,3,4] (Ge x0 x1)=(oi x0 x1):=by kernel_rfl
theorem X2 (x0 x1 x2):ak [2,3,4] (kU x0 x1 x2)=(tr x0):=by kernel_rfl
def OX (N:Nat) (dA:V3→Option nQ) (k0:aB→Int→Option R) (k1:aB→Option R) (x0:aB) (x1:aD) (x2:Int):Option R:=
Ih dA k0 (fun y0 y1 y2=>k1 y0) N x0 x1 x2
theorem ahX (dA) (h139:(qb dA).holds cl) (x0 x1 x2):exec cl N Cs (kU x0 x1 x2) K=(OX N dA (fun y0 y1=>K .ret (oi y0 y1)) (fun y0=>K (.exit 0) (tr y0)) x0 x1 x2):=by
 simp only [Cs,aY,cj,Q2,aaZ dA h139,X1,X2]
 rfl
theorem X3 (x0 x1):ak [2,3,4] (oi x0 x1)=(oi x0 x1):=by kernel_rfl
theorem X4 (x0):ak [2,3,4] (tr x0)=(tr x0):=by kernel_rfl
def OY (k0:aB→Int→Option R) (k1:Int→aB→Option R) (x0:aB):Option R:=
ad (decide ((x0.length:Int) > (200:Int))) (k0 [] (2:Int)) (k1 (0:Int) x0)
theorem ahY (x0):exec cl N Ka (tr x0) K=(OY (fun y0 y1=>K .ret (oi y0 y1)) (fun y0 y1=>K .ret (Gf y0 y1)) x0):=by
 kernel_rfl
def O0 (N:Nat) (fH:V3→Option ft) (dA:V3→Option nQ) (k0:aB→Int→Option R) (k1:aB→Int→Option R) (k2:Int→aB→Option R) (x0:V3):Option R:=
(OZ fH k0 (OV (OX N dA k1 ((OY k1 k2)))) x0)
theorem ah0 (fH) (dA) (h138:(zJ fH).holds cl) (h139:(qb dA).holds cl) (x0):exec cl N xW [(0,.v .str x0)] K=(O0 N fH dA (fun y0 y1=>K .ret (Gc y0 y1)) (fun y0 y1=>K .ret (oi y0 y1)) (fun y0 y1=>K .ret (Gf y0 y1)) x0):=by
 simp only [b6,b9,b8,ca,ahZ fH h138,xV,J9,ahV,J8,aY,cB,ahX dA h139,cz,cA,cy,X3,X4,ahY]
 rfl
theorem adW (y0 y1):ah d118 .ret (Gc y0 y1)=some [.own true 40 aA .no y0,.v U2 y1]:=by kernel_rfl
theorem adX (y0 y1):ah d118 .ret (oi y0 y1)=some [.own true 40 aA .no y0,.v U2 y1]:=by kernel_rfl
theorem adY (y0 y1):ah d118 .ret (Gf y0 y1)=some [.own true 40 aA .no y1,.v U2 y0]:=by kernel_rfl
def GR (N:Nat) (fH:V3→Option ft) (dA:V3→Option nQ) (x0:V3) (k:aB→Int→Option R):Option R:=
(O0 N fH dA k k (fun y0 y1=>k y1 y0) x0)
theorem UI (fH) (dA) (h138:(zJ fH).holds cl) (h139:(qb dA).holds cl) (x0) (k:List E→Option R):exec cl N Cq [(0,.v .str x0)] (fun e env=>(ah d118 e env).bind k)=GR N fH dA x0 (fun r0 r1=>k [.own true 40 aA .no r0,.v U2 r1]):=by
 simp only [Cq,ah0 fH dA h138 h139,adW,adX,adY,ar]
 rfl
def zG (S:V3→Option sM):aO:=cL 118 .str S fun b=> [.own true 40 aA .no b.1,.v U2 b.2]
def fF (N:Nat) (x0:V3):Option sM:=GR N (fH N) (dA N) x0 (fun (r0:aB) (r1:Int)=>some (r0,r1))
def G4 (k0:Bool→Option R) (x0:Int):Option R:=
ad (decide (x0≥(48:Int))) (k0 (decide (x0≤(57:Int)))) (k0 false)
theorem aix (x0):exec cl N KA [(0,.v U0 x0)] K=(G4 (fun y0=>K .ret [(2,.v .bool y0)]) x0):=by
 kernel_rfl
theorem aee (y0):ah d136 .ret [(2,.v .bool y0)]=some [.v .bool y0]:=by kernel_rfl
def Ao (x0:Int) (k:Bool→Option R):Option R:=
(G4 k x0)
theorem UU (x0) (k:List E→Option R):exec cl N CN [(0,.v U0 x0)] (fun e env=>(ah d136 e env).bind k)=Ao x0 (fun r0=>k [.v .bool r0]):=by
 simp only [CN,aix,aee,ar]
 rfl
def j0 (S:Int→Option (Bool)):aO:=cL 136 U0 S fun b=> [.v .bool b]
def bt (N:Nat) (x0:Int):Option (Bool):=Ao x0 (fun (r0:Bool)=>some (r0))
def Ps (k0:V3→Int→Option R) (x0:V3):Option R:=
k0 x0 (0:Int)
theorem aiS (x0):exec cl N yj [(0,.v .str x0)] K=(Ps (fun y0 y1=>exec cl N yi (cP y0 y1) K) x0):=by
 delta yj
 generalize yi=q
 revert q
 refine id ?_
 intro q
 kernel_rfl
theorem Q9 (x0 x1):ak [0,3] (cP x0 x1)=(cP x0 x1):=by kernel_rfl
def Pp (bt:Int→Option (Bool)) (k0:V3→Int→Option R) (k1:V3→Int→Option R) (x0:V3) (x1:Int):Option R:=
ad (decide (x1 < (x0.length:Int))) (if 0≤x1∧x1 < (x0.length:Int) then
(bt ((x0.getD x1.toNat 0).toNat:Int)).bind fun r352=>
ad r352 (k0 x0 (IntKind.i64.wrap (x1+(1:Int)))) (k1 x0 x1)
else none) (k1 x0 x1)
theorem aiP (bt) (h136:(j0 bt).holds cl) (x0 x1):exec cl N CZ (cP x0 x1) K=(Pp bt (fun y0 y1=>K .normal (cP y0 y1)) (fun y0 y1=>K (.exit 0) (cP y0 y1)) x0 x1):=by
 rw [←aP h136]
 kernel_rfl
def Im {R:Type} (bt:Int→Option (Bool)) (k0:V3→Int→Option R):Nat→V3→Int→Option R
 | 0,_,_=>none
 | m+1,x0,x1=>(Pp bt (Im bt k0 m) k0 x0 x1)
theorem aa7 (bt) (h136:(j0 bt).holds cl):∀ (m) (x0 x1),iter [0,3] (fun env K=>exec cl N CZ env K) K m (cP x0 x1)=Im bt (fun y0 y1=>K (.exit 0) (cP y0 y1)) m x0 x1:=by
 intro m
 induction m with
 | zero=>intros; rfl
 | succ m ih=>
   intro x0 x1
   simp only [ck,aiP bt h136,cq,cm,ct,Q9,ih]
   rfl
theorem Yn (x0 x1):ak [3] (cP x0 x1)=[(3,.v U2 x1)]:=by kernel_rfl
def Pq (N:Nat) (bt:Int→Option (Bool)) (k0:Int→Option R) (x0:V3) (x1:Int):Option R:=
Im bt (fun y0 y1=>k0 y1) N x0 x1
theorem aiQ (bt) (h136:(j0 bt).holds cl) (x0 x1):exec cl N C0 (cP x0 x1) K=(Pq N bt (fun y0=>K (.exit 0) [(3,.v U2 y0)]) x0 x1):=by
 simp only [C0,aY,cj,Q9,aa7 bt h136,Yn]
 rfl
theorem Yo (x0):ak [3] [(3,.v U2 x0)]=[(3,.v U2 x0)]:=by kernel_rfl
def Pr (k0:Int→Option R) (x0:Int):Option R:=
k0 x0
theorem aiR (x0):exec cl N KO [(3,.v U2 x0)] K=(Pr (fun y0=>K .ret [(2,.v U2 y0)]) x0):=by
 kernel_rfl
def Pt (N:Nat) (bt:Int→Option (Bool)) (k0:Int→Option R) (x0:V3):Option R:=
(Ps (Pq N bt ((Pr k0))) x0)
theorem aiT (bt) (h136:(j0 bt).holds cl) (x0):exec cl N yj [(0,.v .str x0)] K=(Pt N bt (fun y0=>K .ret [(2,.v U2 y0)]) x0):=by
 simp only [b6,b9,b8,ca,aiS,yi,KN,aY,cB,aiQ bt h136,cz,cA,cy,Yo,aiR]
 rfl
theorem ael (y0):ah d140 .ret [(2,.v U2 y0)]=some [.v U2 y0]:=by kernel_rfl
def G9 (N:Nat) (bt:Int→Option (Bool)) (x0:V3) (k:Int→Option R):Option R:=
(Pt N bt k x0)
theorem UZ (bt) (h136:(j0 bt).holds cl) (x0) (k:List E→Option R):exec cl N CY [(0,.v .str x0)] (fun e env=>(ah d140 e env).bind k)=G9 N bt x0 (fun r0=>k [.v U2 r0]):=by
 simp only [CY,aiT bt h136,ael,ar]
 rfl
def zK (S:V3→Option (Int)):aO:=cL 140 .str S fun b=> [.v U2 b]
def fI (N:Nat) (x0:V3):Option (Int):=G9 N (bt N) x0 (fun (r0:Int)=>some (r0))
def O5 (fI:V3→Option (Int)) (k0:Int→Bool→Option R) (k1:V3→Int→Option R) (x0:V3):Option R:=
ad (x0==([]:List UInt8)) (k0 (0:Int) false) (ad (decide ((x0.length:Int) > (6:Int))) (k0 (0:Int) false) ((fI x0).bind fun r368=>
ad (r368 != (x0.length:Int)) (k0 (0:Int) false) (if 0≤(0:Int)∧(0:Int) < (x0.length:Int) then
ad (((x0.getD (0:Int).toNat 0).toNat:Int)==(48:Int)) (ad (decide ((x0.length:Int) > (1:Int))) (k0 (0:Int) false) (k1 x0 (0:Int))) (k1 x0 (0:Int))
else none)))
theorem ah5 (fI) (h140:(zK fI).holds cl) (x0):exec cl N xY [(0,.v .str x0)] K=(O5 fI (fun y0 y1=>K .ret (Gg y0 y1)) (fun y0 y1=>exec cl N xX [(0,.v .str y0),(4,.v U2 y1)] K) x0):=by
 rw [←aP h140]
 delta xY
 generalize xX=q
 revert q
 refine id ?_
 intro q
 kernel_rfl
def O1 (k0:V3→Int→Int→Option R) (x0:V3) (x1:Int):Option R:=
k0 x0 x1 (0:Int)
theorem ah1 (x0 x1):exec cl N Kb [(0,.v .str x0),(4,.v U2 x1)] K=(O1 (fun y0 y1 y2=>K .normal (kV y0 y1 y2)) x0 x1):=by
 kernel_rfl
theorem Q3 (x0 x1 x2):ak [0,4,5] (kV x0 x1 x2)=(kV x0 x1 x2):=by kernel_rfl
def O2 (k0:V3→Int→Int→Option R) (k1:V3→Int→Int→Option R) (x0:V3) (x1 x2:Int):Option R:=
ad (decide (x2 < (x0.length:Int))) (if 0≤x2∧x2 < (x0.length:Int) then
k0 x0 (IntKind.i64.wrap ((IntKind.i64.wrap ((10:Int) * x1))+(IntKind.i64.wrap (IntKind.u8.wrap (((x0.getD x2.toNat 0).toNat:Int) - (48:Int)))))) (IntKind.i64.wrap (x2+(1:Int)))
else none) (k1 x0 x1 x2)
theorem ah2 (x0 x1 x2):exec cl N Cu (kV x0 x1 x2) K=(O2 (fun y0 y1 y2=>K .normal (kV y0 y1 y2)) (fun y0 y1 y2=>K (.exit 0) (kV y0 y1 y2)) x0 x1 x2):=by
 kernel_rfl
def Ii {R:Type} (k0:V3→Int→Int→Option R):Nat→V3→Int→Int→Option R
 | 0,_,_,_=>none
 | m+1,x0,x1,x2=>(O2 (Ii k0 m) k0 x0 x1 x2)
theorem aa0:∀ (m) (x0 x1 x2),iter [0,4,5] (fun env K=>exec cl N Cu env K) K m (kV x0 x1 x2)=Ii (fun y0 y1 y2=>K (.exit 0) (kV y0 y1 y2)) m x0 x1 x2:=by
 intro m
 induction m with
 | zero=>intros; rfl
 | succ m ih=>
   intro x0 x1 x2
   simp only [ck,ah2,cq,cm,ct,Q3,ih]
   rfl
theorem X5 (x0 x1 x2):ak [4] (kV x0 x1 x2)=[(4,.v U2 x1)]:=by kernel_rfl
def O3 (N:Nat) (k0:Int→Option R) (x0:V3) (x1 x2:Int):Option R:=
Ii (fun y0 y1 y2=>k0 y1) N x0 x1 x2
theorem ah3 (x0 x1 x2):exec cl N Cv (kV x0 x1 x2) K=(O3 N (fun y0=>K (.exit 0) [(4,.v U2 y0)]) x0 x1 x2):=by
 simp only [Cv,aY,cj,Q3,aa0,X5]
 rfl
theorem X6 (x0):ak [4] [(4,.v U2 x0)]=[(4,.v U2 x0)]:=by kernel_rfl
def O4 (k0:Int→Bool→Option R) (x0:Int):Option R:=
k0 x0 true
theorem ah4 (x0):exec cl N Ke [(4,.v U2 x0)] K=(O4 (fun y0 y1=>K .ret [(2,.v U2 y0),(3,.v .bool y1)]) x0):=by
 kernel_rfl
def O6 (N:Nat) (fI:V3→Option (Int)) (k0:Int→Bool→Option R) (k1:Int→Bool→Option R) (x0:V3):Option R:=
(O5 fI k0 (O1 (O3 N ((O4 k1)))) x0)
theorem ah6 (fI) (h140:(zK fI).holds cl) (x0):exec cl N xY [(0,.v .str x0)] K=(O6 N fI (fun y0 y1=>K .ret (Gg y0 y1)) (fun y0 y1=>K .ret [(2,.v U2 y0),(3,.v .bool y1)]) x0):=by
 simp only [b6,b9,b8,ca,ah5 fI h140,xX,Kd,ah1,Kc,aY,cB,ah3,cz,cA,cy,X6,ah4]
 rfl
theorem adZ (y0 y1):ah d119 .ret (Gg y0 y1)=some [.v U2 y0,.v .bool y1]:=by kernel_rfl
theorem ad0 (y0 y1):ah d119 .ret [(2,.v U2 y0),(3,.v .bool y1)]=some [.v U2 y0,.v .bool y1]:=by kernel_rfl
def GS (N:Nat) (fI:V3→Option (Int)) (x0:V3) (k:Int→Bool→Option R):Option R:=
(O6 N fI k k x0)
theorem UJ (fI) (h140:(zK fI).holds cl) (x0) (k:List E→Option R):exec cl N Ct [(0,.v .str x0)] (fun e env=>(ah d119 e env).bind k)=GS N fI x0 (fun r0 r1=>k [.v U2 r0,.v .bool r1]):=by
 simp only [Ct,ah6 fI h140,adZ,ad0,ar]
 rfl
def zH (S:V3→Option V5):aO:=cL 119 .str S fun b=> [.v U2 b.1,.v .bool b.2]
def fG (N:Nat) (x0:V3):Option V5:=GS N (fI N) x0 (fun (r0:Int) (r1:Bool)=>some (r0,r1))
def O7 (k0:V3→Option R) (x0:Int):Option R:=
if 0≤x0∧x0 < ([([97,110,121,119,104,101,114,101]:List UInt8),([98,101,102,111,114,101]:List UInt8),([115,116,97,114,116]:List UInt8),([98,101,116,119,101,101,110]:List UInt8),([110,111,116]:List UInt8)].length:Int) then
if x0.toNat < [([97,110,121,119,104,101,114,101]:List UInt8),([98,101,102,111,114,101]:List UInt8),([115,116,97,114,116]:List UInt8),([98,101,116,119,101,101,110]:List UInt8),([110,111,116]:List UInt8)].length then
k0 ([([97,110,121,119,104,101,114,101]:List UInt8),([98,101,102,111,114,101]:List UInt8),([115,116,97,114,116]:List UInt8),([98,101,116,119,101,101,110]:List UInt8),([110,111,116]:List UInt8)].getD x0.toNat [])
else none
else none
theorem ah8 (x0):exec cl N Kg [(0,.v U2 x0)] K=(O7 (fun y0=>K .ret [(2,.v .str y0)]) x0):=by
 kernel_rfl
theorem ad3 (y0):ah d120 .ret [(2,.v .str y0)]=some [.v .str y0]:=by kernel_rfl
def GV (x0:Int) (k:V3→Option R):Option R:=
(O7 k x0)
theorem UK (x0) (k:List E→Option R):exec cl N Cw [(0,.v U2 x0)] (fun e env=>(ah d120 e env).bind k)=GV x0 (fun r0=>k [.v .str r0]):=by
 simp only [Cw,ah8,ad3,ar]
 rfl
def p6 (S:Int→Option V6):aO:=cL 120 U2 S fun b=> [.v .str b]
def dz (N:Nat) (x0:Int):Option V6:=GV x0 (fun (r0:V3)=>some (r0))
def Ql (bJ:V3→Option ft) (k0:aT→Bool→Option R) (k1:aT→aD→V3→Option R) (x0:V3):Option R:=
(bJ x0).bind fun r392=>
ad (decide ((r392.length:Int) < (4:Int))) (k0 ([],[],(0:Int),(0:Int),()) false) (if 0≤(1:Int)∧(1:Int) < (r392.length:Int) then
if ((1:Int).toNat) < r392.length then
k1 ([],([],((0:Int),((0:Int),())))) r392 (r392.getD ((1:Int).toNat) [])
else none
else none)
theorem ams (bJ) (h93:(kF bJ).holds cl) (x0):exec cl N zp [(0,.v .str x0)] K=(Ql bJ (fun y0 y1=>K .ret (Gh y0 y1)) (fun y0 y1 y2=>exec cl N zo (oj y0 y1 y2) K) x0):=by
 rw [←aP h93]
 delta zp
 generalize zo=q
 revert q
 refine id ?_
 intro q
 kernel_rfl
def Qh (k0:aT→aD→V3→Int→Option R) (x0:aT) (x1:aD) (x2:V3):Option R:=
k0 x0 x1 x2 (2:Int)
theorem amo (x0 x1 x2):exec cl N Nv (oj x0 x1 x2) K=(Qh (fun y0 y1 y2 y3=>K .normal (kW y0 y1 y2 y3)) x0 x1 x2):=by
 kernel_rfl
theorem RA (x0 x1 x2 x3):ak [2,4,5,6] (kW x0 x1 x2 x3)=(kW x0 x1 x2 x3):=by kernel_rfl
def Qi (k0:aT→aD→V3→Int→Option R) (k1:aT→aD→V3→Int→Option R) (x0:aT) (x1:aD) (x2:V3) (x3:Int):Option R:=
ad (decide (x3 < (IntKind.i64.wrap ((x1.length:Int) - (2:Int))))) (if x2.length+([32]:List UInt8).length≤140737488355328 then
let v397:V3:=(x2++([32]:List UInt8))
if 0≤x3∧x3 < (x1.length:Int) then
if x3.toNat < x1.length then
if v397.length+(x1.getD x3.toNat []).length≤140737488355328 then
k0 x0 x1 (v397++(x1.getD x3.toNat [])) (IntKind.i64.wrap (x3+(1:Int)))
else none
else none
else none
else none) (k1 x0 x1 x2 x3)
theorem amp (x0 x1 x2 x3):exec cl N EY (kW x0 x1 x2 x3) K=(Qi (fun y0 y1 y2 y3=>K .normal (kW y0 y1 y2 y3)) (fun y0 y1 y2 y3=>K (.exit 0) (kW y0 y1 y2 y3)) x0 x1 x2 x3):=by
 kernel_rfl
def Iv {R:Type} (k0:aT→aD→V3→Int→Option R):Nat→aT→aD→V3→Int→Option R
 | 0,_,_,_,_=>none
 | m+1,x0,x1,x2,x3=>(Qi (Iv k0 m) k0 x0 x1 x2 x3)
theorem abD:∀ (m) (x0 x1 x2 x3),iter [2,4,5,6] (fun env K=>exec cl N EY env K) K m (kW x0 x1 x2 x3)=Iv (fun y0 y1 y2 y3=>K (.exit 0) (kW y0 y1 y2 y3)) m x0 x1 x2 x3:=by
 intro m
 induction m with
 | zero=>intros; rfl
 | succ m ih=>
   intro x0 x1 x2 x3
   simp only [ck,amp,cq,cm,ct,RA,ih]
   rfl
theorem ZZ (x0 x1 x2 x3):ak [2,4,5] (kW x0 x1 x2 x3)=(oj x0 x1 x2):=by kernel_rfl
def Qn (N:Nat) (k0:aT→aD→V3→Option R) (x0:aT) (x1:aD) (x2:V3) (x3:Int):Option R:=
Iv (fun y0 y1 y2 y3=>k0 y0 y1 y2) N x0 x1 x2 x3
theorem amu (x0 x1 x2 x3):exec cl N E0 (kW x0 x1 x2 x3) K=(Qn N (fun y0 y1 y2=>K (.exit 0) (oj y0 y1 y2)) x0 x1 x2 x3):=by
 simp only [E0,aY,cj,RA,abD,ZZ]
 rfl
theorem Z0 (x0 x1 x2):ak [2,4,5] (oj x0 x1 x2)=(oj x0 x1 x2):=by kernel_rfl
def Qk (fF:V3→Option sM) (fG:V3→Option V5) (k0:aT→Bool→Option R) (k1:aT→aD→aB→Int→Option R) (x0:aT) (x1:aD) (x2:V3):Option R:=
(fF x2).bind fun r401=>
let v402:Int:=(IntKind.i64.wrap ((x1.length:Int) - (2:Int)))
if 0≤v402∧v402 < (x1.length:Int) then
if v402.toNat < x1.length then
(fG (x1.getD v402.toNat [])).bind fun r404=>
ad (r401.2 != (0:Int)) (k0 ([],[],(0:Int),(0:Int),()) false) (ad (!r404.2) (k0 ([],[],(0:Int),(0:Int),()) false) (k1 x0 x1 r401.1 r404.1))
else none
else none
theorem amr (fF) (fG) (h118:(zG fF).holds cl) (h119:(zH fG).holds cl) (x0 x1 x2):exec cl N EZ (oj x0 x1 x2) K=(Qk fF fG (fun y0 y1=>K .ret (Gi y0 y1)) (fun y0 y1 y2 y3=>exec cl N zn (On y0 y1 y2 y3) K) x0 x1 x2):=by
 rw [←aP h118]
 rw [←aP h119]
 delta EZ
 generalize zn=q
 revert q
 refine id ?_
 intro q
 kernel_rfl
def Qo (k0:aT→aD→aB→Int→Int→Option R) (x0:aT) (x1:aD) (x2:aB) (x3:Int):Option R:=
k0 x0 x1 x2 x3 (0:Int)
theorem amv (x0 x1 x2 x3):exec cl N Nz (On x0 x1 x2 x3) K=(Qo (fun y0 y1 y2 y3 y4=>K .normal (kX y0 y1 y2 y3 y4)) x0 x1 x2 x3):=by
 kernel_rfl
theorem RB (x0 x1 x2 x3 x4):ak [2,4,7,9,11] (kX x0 x1 x2 x3 x4)=(kX x0 x1 x2 x3 x4):=by kernel_rfl
def Qp (dz:Int→Option V6) (k0:aT→Bool→Option R) (k1:aT→aD→aB→Int→Int→Option R) (k2:aT→aD→aB→Int→Int→Option R) (x0:aT) (x1:aD) (x2:aB) (x3 x4:Int):Option R:=
ad (decide (x4≤(4:Int))) (let v407:Int:=(IntKind.i64.wrap ((x1.length:Int) - (1:Int)))
if 0≤v407∧v407 < (x1.length:Int) then
if v407.toNat < x1.length then
(dz x4).bind fun r409=>
ad ((x1.getD v407.toNat [])==r409) (if 0≤(0:Int)∧(0:Int) < (x1.length:Int) then
if ((0:Int).toNat) < x1.length then
k0 ((x1.getD ((0:Int).toNat) []),x2,x3,x4,()) true
else none
else none) (k1 x0 x1 x2 x3 (IntKind.i64.wrap (x4+(1:Int))))
else none
else none) (k2 x0 x1 x2 x3 x4)
theorem amw (dz) (h120:(p6 dz).holds cl) (x0 x1 x2 x3 x4):exec cl N E1 (kX x0 x1 x2 x3 x4) K=(Qp dz (fun y0 y1=>K .ret (Gj y0 y1)) (fun y0 y1 y2 y3 y4=>K .normal (kX y0 y1 y2 y3 y4)) (fun y0 y1 y2 y3 y4=>K (.exit 2) (kX y0 y1 y2 y3 y4)) x0 x1 x2 x3 x4):=by
 rw [←aP h120]
 kernel_rfl
def Iw {R:Type} (dz:Int→Option V6) (k0:aT→Bool→Option R) (k1:aT→aD→aB→Int→Int→Option R):Nat→aT→aD→aB→Int→Int→Option R
 | 0,_,_,_,_,_=>none
 | m+1,x0,x1,x2,x3,x4=>(Qp dz k0 (Iw dz k0 k1 m) k1 x0 x1 x2 x3 x4)
theorem abE (dz) (h120:(p6 dz).holds cl):∀ (m) (x0 x1 x2 x3 x4),iter [2,4,7,9,11] (fun env K=>exec cl N E1 env K) K m (kX x0 x1 x2 x3 x4)=Iw dz (fun y0 y1=>K .ret (Gj y0 y1)) (fun y0 y1 y2 y3 y4=>K (.exit 2) (kX y0 y1 y2 y3 y4)) m x0 x1 x2 x3 x4:=by
 intro m
 induction m with
 | zero=>intros; rfl
 | succ m ih=>
   intro x0 x1 x2 x3 x4
   simp only [ck,amw dz h120,cq,cm,ct,RB,ih]
   rfl
theorem Z1 (x0 x1):ak [2,3] (Gj x0 x1)=(qm x0 x1):=by kernel_rfl
theorem Z2 (x0 x1 x2 x3 x4):ak [2,3] (kX x0 x1 x2 x3 x4)=(tt x0):=by kernel_rfl
def Qq (N:Nat) (dz:Int→Option V6) (k0:aT→Bool→Option R) (k1:aT→Option R) (x0:aT) (x1:aD) (x2:aB) (x3 x4:Int):Option R:=
Iw dz k0 (fun y0 y1 y2 y3 y4=>k1 y0) N x0 x1 x2 x3 x4
theorem amx (dz) (h120:(p6 dz).holds cl) (x0 x1 x2 x3 x4):exec cl N E2 (kX x0 x1 x2 x3 x4) K=(Qq N dz (fun y0 y1=>K .ret (qm y0 y1)) (fun y0=>K (.exit 2) (tt y0)) x0 x1 x2 x3 x4):=by
 simp only [E2,aY,cj,RB,abE dz h120,Z1,Z2]
 rfl
theorem Z3 (x0 x1):ak [2,3] (qm x0 x1)=(qm x0 x1):=by kernel_rfl
theorem Z4 (x0):ak [2,3] (tt x0)=(tt x0):=by kernel_rfl
def Qj (k0:aT→Bool→Option R) (x0:aT):Option R:=
k0 ([],[],(0:Int),(0:Int),()) false
theorem amq (x0):exec cl N Nw (tt x0) K=(Qj (fun y0 y1=>K .ret (Gk y0 y1)) x0):=by
 kernel_rfl
def Qm (N:Nat) (bJ:V3→Option ft) (fF:V3→Option sM) (fG:V3→Option V5) (dz:Int→Option V6) (k0:aT→Bool→Option R) (k1:aT→Bool→Option R) (k2:aT→Bool→Option R) (k3:aT→Bool→Option R) (x0:V3):Option R:=
(Ql bJ k0 (Qh (Qn N ((Qk fF fG k1 (Qo (Qq N dz k2 ((Qj k3)))))))) x0)
theorem amt (bJ) (fF) (fG) (dz) (h93:(kF bJ).holds cl) (h118:(zG fF).holds cl) (h119:(zH fG).holds cl) (h120:(p6 dz).holds cl) (x0):exec cl N zp [(0,.v .str x0)] K=(Qm N bJ fF fG dz (fun y0 y1=>K .ret (Gh y0 y1)) (fun y0 y1=>K .ret (Gi y0 y1)) (fun y0 y1=>K .ret (qm y0 y1)) (fun y0 y1=>K .ret (Gk y0 y1)) x0):=by
 simp only [b6,b9,b8,ca,ams bJ h93,zo,Ny,amo,Nx,aY,cB,amu,cz,cA,cy,Z0,amr fF fG h118 h119,zn,NB,amv,NA,amx dz h120,Z3,Z4,amq]
 rfl
theorem afO (y0 y1):ah d94 .ret (Gh y0 y1)=some [.v aG y0,.v .bool y1]:=by kernel_rfl
theorem afP (y0 y1):ah d94 .ret (Gi y0 y1)=some [.v aG y0,.v .bool y1]:=by kernel_rfl
theorem afQ (y0 y1):ah d94 .ret (qm y0 y1)=some [.v aG y0,.v .bool y1]:=by kernel_rfl
theorem afR (y0 y1):ah d94 .ret (Gk y0 y1)=some [.v aG y0,.v .bool y1]:=by kernel_rfl
def HK (N:Nat) (bJ:V3→Option ft) (fF:V3→Option sM) (fG:V3→Option V5) (dz:Int→Option V6) (x0:V3) (k:aT→Bool→Option R):Option R:=
(Qm N bJ fF fG dz k k k k x0)
theorem VV (bJ) (fF) (fG) (dz) (h93:(kF bJ).holds cl) (h118:(zG fF).holds cl) (h119:(zH fG).holds cl) (h120:(p6 dz).holds cl) (x0) (k:List E→Option R):exec cl N EX [(0,.v .str x0)] (fun e env=>(ah d94 e env).bind k)=HK N bJ fF fG dz x0 (fun r0 r1=>k [.v aG r0,.v .bool r1]):=by
 simp only [EX,amt bJ fF fG dz h93 h118 h119 h120,afO,afP,afQ,afR,ar]
 rfl
def n8 (S:V3→Option mN):aO:=cL 94 .str S fun b=> [.v aG b.1,.v .bool b.2]
def cR (N:Nat) (x0:V3):Option mN:=HK N (bJ N) (fF N) (fG N) (dz N) x0 (fun (r0:aT) (r1:Bool)=>some (r0,r1))
def G3 (k0:Bool→Option R) (x0:Int):Option R:=
ad (decide (x0≥(97:Int))) (k0 (decide (x0≤(122:Int)))) (k0 false)
theorem aiw (x0):exec cl N Kz [(0,.v U0 x0)] K=(G3 (fun y0=>K .ret [(2,.v .bool y0)]) x0):=by
 kernel_rfl
theorem aed (y0):ah d135 .ret [(2,.v .bool y0)]=some [.v .bool y0]:=by kernel_rfl
def Am (x0:Int) (k:Bool→Option R):Option R:=
(G3 k x0)
theorem UT (x0) (k:List E→Option R):exec cl N CM [(0,.v U0 x0)] (fun e env=>(ah d135 e env).bind k)=Am x0 (fun r0=>k [.v .bool r0]):=by
 simp only [CM,aiw,aed,ar]
 rfl
def nW (S:Int→Option (Bool)):aO:=cL 135 U0 S fun b=> [.v .bool b]
def cw (N:Nat) (x0:Int):Option (Bool):=Am x0 (fun (r0:Bool)=>some (r0))
def tM (cw:Int→Option (Bool)) (k0:Int→Option R) (k1:V3→Int→Option R) (x0:V3):Option R:=
ad (x0==([]:List UInt8)) (k0 (0:Int)) (if 0≤(0:Int)∧(0:Int) < (x0.length:Int) then
(cw ((x0.getD (0:Int).toNat 0).toNat:Int)).bind fun r596=>
ad (!r596) (k0 (0:Int)) (k1 x0 (1:Int))
else none)
theorem ahG (cw) (h135:(nW cw).holds cl) (x0):exec cl N xQ [(0,.v .str x0)] K=(tM cw (fun y0=>K .ret (iX y0)) (fun y0 y1=>exec cl N xP (cP y0 y1) K) x0):=by
 rw [←aP h135]
 delta xQ
 generalize xP=q
 revert q
 refine id ?_
 intro q
 kernel_rfl
theorem QZ (x0 x1):ak [0,3] (cP x0 x1)=(cP x0 x1):=by kernel_rfl
def tJ (cw:Int→Option (Bool)) (bt:Int→Option (Bool)) (k0:V3→Int→Option R) (k1:V3→Int→Option R) (x0:V3) (x1:Int):Option R:=
ad (decide (x1 < (x0.length:Int))) (if 0≤x1∧x1 < (x0.length:Int) then
(cw ((x0.getD x1.toNat 0).toNat:Int)).bind fun r599=>
ad r599 (k0 x0 (IntKind.i64.wrap (x1+(1:Int)))) (if 0≤x1∧x1 < (x0.length:Int) then
(bt ((x0.getD x1.toNat 0).toNat:Int)).bind fun r602=>
ad r602 (k0 x0 (IntKind.i64.wrap (x1+(1:Int)))) (if 0≤x1∧x1 < (x0.length:Int) then
ad (((x0.getD x1.toNat 0).toNat:Int) != (45:Int)) (k1 x0 x1) (ad ((IntKind.i64.wrap (x1+(1:Int)))==(x0.length:Int)) (k1 x0 x1) (let v608:Int:=(IntKind.i64.wrap (x1+(1:Int)))
if 0≤v608∧v608 < (x0.length:Int) then
(cw ((x0.getD v608.toNat 0).toNat:Int)).bind fun r610=>
ad (!r610) (let v611:Int:=(IntKind.i64.wrap (x1+(1:Int)))
if 0≤v611∧v611 < (x0.length:Int) then
(bt ((x0.getD v611.toNat 0).toNat:Int)).bind fun r613=>
ad (!r613) (k1 x0 x1) (k0 x0 (IntKind.i64.wrap (x1+(2:Int))))
else none) (k0 x0 (IntKind.i64.wrap (x1+(2:Int))))
else none))
else none)
else none)
else none) (k1 x0 x1)
theorem ahD (cw) (bt) (h135:(nW cw).holds cl) (h136:(j0 bt).holds cl) (x0 x1):exec cl N Ci (cP x0 x1) K=(tJ cw bt (fun y0 y1=>K .normal (cP y0 y1)) (fun y0 y1=>K (.exit 0) (cP y0 y1)) x0 x1):=by
 rw [←aP h135]
 rw [←aP h136]
 kernel_rfl
def oZ {R:Type} (cw:Int→Option (Bool)) (bt:Int→Option (Bool)) (k0:V3→Int→Option R):Nat→V3→Int→Option R
 | 0,_,_=>none
 | m+1,x0,x1=>(tJ cw bt (oZ cw bt k0 m) k0 x0 x1)
theorem aaW (cw) (bt) (h135:(nW cw).holds cl) (h136:(j0 bt).holds cl):∀ (m) (x0 x1),iter [0,3] (fun env K=>exec cl N Ci env K) K m (cP x0 x1)=oZ cw bt (fun y0 y1=>K (.exit 0) (cP y0 y1)) m x0 x1:=by
 intro m
 induction m with
 | zero=>intros; rfl
 | succ m ih=>
   intro x0 x1
   simp only [ck,ahD cw bt h135 h136,cq,cm,ct,QZ,ih]
   rfl
theorem XR (x0 x1):ak [3] (cP x0 x1)=[(3,.v U2 x1)]:=by kernel_rfl
def tK (N:Nat) (cw:Int→Option (Bool)) (bt:Int→Option (Bool)) (k0:Int→Option R) (x0:V3) (x1:Int):Option R:=
oZ cw bt (fun y0 y1=>k0 y1) N x0 x1
theorem ahE (cw) (bt) (h135:(nW cw).holds cl) (h136:(j0 bt).holds cl) (x0 x1):exec cl N Cj (cP x0 x1) K=(tK N cw bt (fun y0=>K (.exit 0) [(3,.v U2 y0)]) x0 x1):=by
 simp only [Cj,aY,cj,QZ,aaW cw bt h135 h136,XR]
 rfl
theorem XS (x0):ak [3] [(3,.v U2 x0)]=[(3,.v U2 x0)]:=by kernel_rfl
def tL (k0:Int→Option R) (x0:Int):Option R:=
k0 x0
theorem ahF (x0):exec cl N JY [(3,.v U2 x0)] K=(tL (fun y0=>K .ret [(2,.v U2 y0)]) x0):=by
 kernel_rfl
def tN (N:Nat) (cw:Int→Option (Bool)) (bt:Int→Option (Bool)) (k0:Int→Option R) (k1:Int→Option R) (x0:V3):Option R:=
(tM cw k0 (tK N cw bt ((tL k1))) x0)
theorem ahH (cw) (bt) (h135:(nW cw).holds cl) (h136:(j0 bt).holds cl) (x0):exec cl N xQ [(0,.v .str x0)] K=(tN N cw bt (fun y0=>K .ret (iX y0)) (fun y0=>K .ret [(2,.v U2 y0)]) x0):=by
 simp only [b6,b9,b8,ca,ahG cw h135,xP,JX,aY,cB,ahE cw bt h135 h136,cz,cA,cy,XS,ahF]
 rfl
theorem adQ (y0):ah d115 .ret (iX y0)=some [.v U2 y0]:=by kernel_rfl
theorem adR (y0):ah d115 .ret [(2,.v U2 y0)]=some [.v U2 y0]:=by kernel_rfl
def qA (N:Nat) (cw:Int→Option (Bool)) (bt:Int→Option (Bool)) (x0:V3) (k:Int→Option R):Option R:=
(tN N cw bt k k x0)
theorem UF (cw) (bt) (h135:(nW cw).holds cl) (h136:(j0 bt).holds cl) (x0) (k:List E→Option R):exec cl N Cg [(0,.v .str x0)] (fun e env=>(ah d115 e env).bind k)=qA N cw bt x0 (fun r0=>k [.v U2 r0]):=by
 simp only [Cg,ahH cw bt h135 h136,adQ,adR,ar]
 rfl
def Fk (S:V3→Option (Int)):aO:=cL 115 .str S fun b=> [.v U2 b]
def gH (N:Nat) (x0:V3):Option (Int):=qA N (cw N) (bt N) x0 (fun (r0:Int)=>some (r0))
def HH (gH:V3→Option (Int)) (k0:Bool→Option R) (x0:V3):Option R:=
ad (x0 != ([]:List UInt8)) (ad (decide ((x0.length:Int)≤(20:Int))) ((gH x0).bind fun r620=>
k0 (r620==(x0.length:Int))) (k0 false)) (k0 false)
theorem al0 (gH) (h115:(Fk gH).holds cl) (x0):exec cl N Nh [(0,.v .str x0)] K=(HH gH (fun y0=>K .ret [(2,.v .bool y0)]) x0):=by
 rw [←aP h115]
 kernel_rfl
theorem afI (y0):ah d90 .ret [(2,.v .bool y0)]=some [.v .bool y0]:=by kernel_rfl
def AP (gH:V3→Option (Int)) (x0:V3) (k:Bool→Option R):Option R:=
(HH gH k x0)
theorem VR (gH) (h115:(Fk gH).holds cl) (x0) (k:List E→Option R):exec cl N EM [(0,.v .str x0)] (fun e env=>(ah d90 e env).bind k)=AP gH x0 (fun r0=>k [.v .bool r0]):=by
 simp only [EM,al0 gH h115,afI,ar]
 rfl
def zR (S:V3→Option (Bool)):aO:=cL 90 .str S fun b=> [.v .bool b]
def eR (N:Nat) (x0:V3):Option (Bool):=AP (gH N) x0 (fun (r0:Bool)=>some (r0))
def OT (k0:Bool→Option R) (k1:Int→Option R) (x0:Int):Option R:=
ad (decide (x0 < (32:Int))) (k0 false) (ad (decide (x0 > (126:Int))) (k0 false) (k1 x0))
theorem ahA (x0):exec cl N xO [(0,.v U0 x0)] K=(OT (fun y0=>K .ret [(0,.dead),(2,.v .bool y0)]) (fun y0=>exec cl N xN [(0,.v U0 y0),(2,.dead)] K) x0):=by
 delta xO
 generalize xN=q
 revert q
 refine id ?_
 intro q
 kernel_rfl
def OP (k0:Int→Int→Option R) (x0:Int):Option R:=
k0 x0 (0:Int)
theorem ahw (x0):exec cl N JS [(0,.v U0 x0),(2,.dead)] K=(OP (fun y0 y1=>K .normal (kY y0 y1)) x0):=by
 kernel_rfl
theorem QY (x0 x1):ak [0,3] (kY x0 x1)=(kY x0 x1):=by kernel_rfl
def OQ (k0:Bool→Option R) (k1:Int→Int→Option R) (k2:Int→Int→Option R) (x0 x1:Int):Option R:=
ad (decide (x1 < (15:Int))) (if 0≤x1∧x1 < (([32,46,44,59,58,33,63,34,45,91,93,60,62,123,125]:List UInt8).length:Int) then
ad (((([32,46,44,59,58,33,63,34,45,91,93,60,62,123,125]:List UInt8).getD x1.toNat 0).toNat:Int)==x0) (k0 false) (k1 x0 (IntKind.i64.wrap (x1+(1:Int))))
else none) (k2 x0 x1)
theorem ahx (x0 x1):exec cl N Cd (kY x0 x1) K=(OQ (fun y0=>K .ret (Gm y0)) (fun y0 y1=>K .normal (kY y0 y1)) (fun y0 y1=>K (.exit 0) (kY y0 y1)) x0 x1):=by
 kernel_rfl
def Ig {R:Type} (k0:Bool→Option R) (k1:Int→Int→Option R):Nat→Int→Int→Option R
 | 0,_,_=>none
 | m+1,x0,x1=>(OQ k0 (Ig k0 k1 m) k1 x0 x1)
theorem aaV:∀ (m) (x0 x1),iter [0,3] (fun env K=>exec cl N Cd env K) K m (kY x0 x1)=Ig (fun y0=>K .ret (Gm y0)) (fun y0 y1=>K (.exit 0) (kY y0 y1)) m x0 x1:=by
 intro m
 induction m with
 | zero=>intros; rfl
 | succ m ih=>
   intro x0 x1
   simp only [ck,ahx,cq,cm,ct,QY,ih]
   rfl
theorem XN (x0):ak [2] (Gm x0)=[(2,.v .bool x0)]:=by kernel_rfl
theorem XO (x0 x1):ak [2] (kY x0 x1)=[(2,.dead)]:=by kernel_rfl
def OR (N:Nat) (k0:Bool→Option R) (k1:Option R) (x0 x1:Int):Option R:=
Ig k0 (fun y0 y1=>k1) N x0 x1
theorem ahy (x0 x1):exec cl N Ce (kY x0 x1) K=(OR N (fun y0=>K .ret [(2,.v .bool y0)]) (K (.exit 0) [(2,.dead)]) x0 x1):=by
 simp only [Ce,aY,cj,QY,aaV,XN,XO]
 rfl
theorem XP (x0):ak [2] [(2,.v .bool x0)]=[(2,.v .bool x0)]:=by kernel_rfl
theorem XQ:ak [2] [(2,.dead)]=[(2,.dead)]:=by kernel_rfl
def OS (k0:Bool→Option R):Option R:=
k0 true
theorem ahz:exec cl N JV [(2,.dead)] K=(OS (fun y0=>K .ret [(2,.v .bool y0)])):=by
 kernel_rfl
def OU (N:Nat) (k0:Bool→Option R) (k1:Bool→Option R) (x0:Int):Option R:=
(OT k0 (OP (OR N k1 (OS k1))) x0)
theorem ahB (x0):exec cl N xO [(0,.v U0 x0)] K=(OU N (fun y0=>K .ret [(0,.dead),(2,.v .bool y0)]) (fun y0=>K .ret [(2,.v .bool y0)]) x0):=by
 simp only [b6,b9,b8,ca,ahA,xN,JU,ahw,JT,aY,cB,ahy,cz,cA,cy,XP,XQ,ahz]
 rfl
theorem adN (y0):ah d111 .ret [(0,.dead),(2,.v .bool y0)]=some [.v .bool y0]:=by kernel_rfl
theorem adO (y0):ah d111 .ret [(2,.v .bool y0)]=some [.v .bool y0]:=by kernel_rfl
def GP (N:Nat) (x0:Int) (k:Bool→Option R):Option R:=
(OU N k k x0)
theorem UD (x0) (k:List E→Option R):exec cl N Cc [(0,.v U0 x0)] (fun e env=>(ah d111 e env).bind k)=GP N x0 (fun r0=>k [.v .bool r0]):=by
 simp only [Cc,ahB,adN,adO,ar]
 rfl
def p5 (S:Int→Option (Bool)):aO:=cL 111 U0 S fun b=> [.v .bool b]
def c5 (N:Nat) (x0:Int):Option (Bool):=GP N x0 (fun (r0:Bool)=>some (r0))
def tS (k0:Int→Option R) (k1:V3→Option R) (x0:V3):Option R:=
ad (x0==([]:List UInt8)) (k0 (7:Int)) (ad (decide ((x0.length:Int) > (4:Int))) (k0 (3:Int)) (k1 x0))
theorem ahM (x0):exec cl N xS [(0,.v .str x0)] K=(tS (fun y0=>K .ret (iX y0)) (fun y0=>exec cl N xR (zZ y0) K) x0):=by
 delta xS
 generalize xR=q
 revert q
 refine id ?_
 intro q
 kernel_rfl
def tO (k0:V3→Int→Option R) (x0:V3):Option R:=
k0 x0 (0:Int)
theorem ahI (x0):exec cl N JZ (zZ x0) K=(tO (fun y0 y1=>K .normal (cP y0 y1)) x0):=by
 kernel_rfl
theorem Q0 (x0 x1):ak [0,3] (cP x0 x1)=(cP x0 x1):=by kernel_rfl
def tP (c5:Int→Option (Bool)) (k0:Int→Option R) (k1:V3→Int→Option R) (k2:V3→Int→Option R) (x0:V3) (x1:Int):Option R:=
ad (decide (x1 < (x0.length:Int))) (if 0≤x1∧x1 < (x0.length:Int) then
(c5 ((x0.getD x1.toNat 0).toNat:Int)).bind fun r651=>
ad (!r651) (k0 (2:Int)) (if 0≤x1∧x1 < (x0.length:Int) then
ad (decide (((x0.getD x1.toNat 0).toNat:Int)≥(65:Int))) (if 0≤x1∧x1 < (x0.length:Int) then
ad (decide (((x0.getD x1.toNat 0).toNat:Int)≤(90:Int))) (k0 (2:Int)) (k1 x0 (IntKind.i64.wrap (x1+(1:Int))))
else none) (k1 x0 (IntKind.i64.wrap (x1+(1:Int))))
else none)
else none) (k2 x0 x1)
theorem ahJ (c5) (h111:(p5 c5).holds cl) (x0 x1):exec cl N Cl (cP x0 x1) K=(tP c5 (fun y0=>K .ret (qn y0)) (fun y0 y1=>K .normal (cP y0 y1)) (fun y0 y1=>K (.exit 0) (cP y0 y1)) x0 x1):=by
 rw [←aP h111]
 kernel_rfl
def rG {R:Type} (c5:Int→Option (Bool)) (k0:Int→Option R) (k1:V3→Int→Option R):Nat→V3→Int→Option R
 | 0,_,_=>none
 | m+1,x0,x1=>(tP c5 k0 (rG c5 k0 k1 m) k1 x0 x1)
theorem aaX (c5) (h111:(p5 c5).holds cl):∀ (m) (x0 x1),iter [0,3] (fun env K=>exec cl N Cl env K) K m (cP x0 x1)=rG c5 (fun y0=>K .ret (qn y0)) (fun y0 y1=>K (.exit 0) (cP y0 y1)) m x0 x1:=by
 intro m
 induction m with
 | zero=>intros; rfl
 | succ m ih=>
   intro x0 x1
   simp only [ck,ahJ c5 h111,cq,cm,ct,Q0,ih]
   rfl
theorem XT (x0):ak [2] (qn x0)=[(2,.v U2 x0)]:=by kernel_rfl
theorem XU (x0 x1):ak [2] (cP x0 x1)=[(2,.dead)]:=by kernel_rfl
def tQ (N:Nat) (c5:Int→Option (Bool)) (k0:Int→Option R) (k1:Option R) (x0:V3) (x1:Int):Option R:=
rG c5 k0 (fun y0 y1=>k1) N x0 x1
theorem ahK (c5) (h111:(p5 c5).holds cl) (x0 x1):exec cl N Cm (cP x0 x1) K=(tQ N c5 (fun y0=>K .ret [(2,.v U2 y0)]) (K (.exit 0) [(2,.dead)]) x0 x1):=by
 simp only [Cm,aY,cj,Q0,aaX c5 h111,XT,XU]
 rfl
theorem XV (x0):ak [2] [(2,.v U2 x0)]=[(2,.v U2 x0)]:=by kernel_rfl
theorem XW:ak [2] [(2,.dead)]=[(2,.dead)]:=by kernel_rfl
def tR (k0:Int→Option R):Option R:=
k0 (0:Int)
theorem ahL:exec cl N J2 [(2,.dead)] K=(tR (fun y0=>K .ret [(2,.v U2 y0)])):=by
 kernel_rfl
def tT (N:Nat) (c5:Int→Option (Bool)) (k0:Int→Option R) (k1:Int→Option R) (x0:V3):Option R:=
(tS k0 (tO (tQ N c5 k1 (tR k1))) x0)
theorem ahN (c5) (h111:(p5 c5).holds cl) (x0):exec cl N xS [(0,.v .str x0)] K=(tT N c5 (fun y0=>K .ret (iX y0)) (fun y0=>K .ret [(2,.v U2 y0)]) x0):=by
 simp only [b6,b9,b8,ca,ahM,xR,J1,ahI,J0,aY,cB,ahK c5 h111,cz,cA,cy,XV,XW,ahL]
 rfl
theorem adS (y0):ah d116 .ret (iX y0)=some [.v U2 y0]:=by kernel_rfl
theorem adT (y0):ah d116 .ret [(2,.v U2 y0)]=some [.v U2 y0]:=by kernel_rfl
def qB (N:Nat) (c5:Int→Option (Bool)) (x0:V3) (k:Int→Option R):Option R:=
(tT N c5 k k x0)
theorem UG (c5) (h111:(p5 c5).holds cl) (x0) (k:List E→Option R):exec cl N Ck [(0,.v .str x0)] (fun e env=>(ah d116 e env).bind k)=qB N c5 x0 (fun r0=>k [.v U2 r0]):=by
 simp only [Ck,ahN c5 h111,adS,adT,ar]
 rfl
def zF (S:V3→Option (Int)):aO:=cL 116 .str S fun b=> [.v U2 b]
def ff (N:Nat) (x0:V3):Option (Int):=qB N (c5 N) x0 (fun (r0:Int)=>some (r0))
def we (ff:V3→Option (Int)) (k0:Int→Option R) (k1:aT→Option R) (x0:aT):Option R:=
(ff x0.1).bind fun r670=>
ad (r670 != (0:Int)) (k0 r670) (ad ((x0.2.1.length:Int)==(0:Int)) (k0 (7:Int)) (ad (decide ((x0.2.1.length:Int) > (2:Int))) (k0 (3:Int)) (k1 x0)))
theorem ama (ff) (h116:(zF ff).holds cl) (x0):exec cl N zh [(0,.v aG x0)] K=(we ff (fun y0=>K .ret (e7 y0)) (fun y0=>exec cl N zg (iY y0) K) x0):=by
 rw [←aP h116]
 delta zh
 generalize zg=q
 revert q
 refine id ?_
 intro q
 kernel_rfl
def v8 (k0:aT→Int→Option R) (x0:aT):Option R:=
k0 x0 (0:Int)
theorem al6 (x0):exec cl N Ni (iY x0) K=(v8 (fun y0 y1=>K .normal (kZ y0 y1)) x0):=by
 kernel_rfl
theorem Rx (x0 x1):ak [1,4] (kZ x0 x1)=(kZ x0 x1):=by kernel_rfl
def wa (bH:aN→Option (Int)) (k0:Int→Option R) (k1:aT→Int→Option R) (k2:aT→Int→Option R) (x0:aT) (x1:Int):Option R:=
ad (decide (x1 < (x0.2.1.length:Int))) (if 0≤x1∧x1 < (x0.2.1.length:Int) then
(bH (x0.2.1.getD x1.toNat ((0:Int),((0:Int),([],()))))).bind fun r675=>
ad (r675 != (0:Int)) (k0 r675) (k1 x0 (IntKind.i64.wrap (x1+(1:Int))))
else none) (k2 x0 x1)
theorem al7 (bH) (h117:(me bH).holds cl) (x0 x1):exec cl N EO (kZ x0 x1) K=(wa bH (fun y0=>K .ret (e9 y0)) (fun y0 y1=>K .normal (kZ y0 y1)) (fun y0 y1=>K (.exit 0) (kZ y0 y1)) x0 x1):=by
 rw [←aP h117]
 kernel_rfl
def rV {R:Type} (bH:aN→Option (Int)) (k0:Int→Option R) (k1:aT→Int→Option R):Nat→aT→Int→Option R
 | 0,_,_=>none
 | m+1,x0,x1=>(wa bH k0 (rV bH k0 k1 m) k1 x0 x1)
theorem abA (bH) (h117:(me bH).holds cl):∀ (m) (x0 x1),iter [1,4] (fun env K=>exec cl N EO env K) K m (kZ x0 x1)=rV bH (fun y0=>K .ret (e9 y0)) (fun y0 y1=>K (.exit 0) (kZ y0 y1)) m x0 x1:=by
 intro m
 induction m with
 | zero=>intros; rfl
 | succ m ih=>
   intro x0 x1
   simp only [ck,al7 bH h117,cq,cm,ct,Rx,ih]
   rfl
theorem ZP (x0):ak [1,2] (e9 x0)=(e7 x0):=by kernel_rfl
theorem ZQ (x0 x1):ak [1,2] (kZ x0 x1)=(iY x0):=by kernel_rfl
def wb (N:Nat) (bH:aN→Option (Int)) (k0:Int→Option R) (k1:aT→Option R) (x0:aT) (x1:Int):Option R:=
rV bH k0 (fun y0 y1=>k1 y0) N x0 x1
theorem al8 (bH) (h117:(me bH).holds cl) (x0 x1):exec cl N EP (kZ x0 x1) K=(wb N bH (fun y0=>K .ret (e7 y0)) (fun y0=>K (.exit 0) (iY y0)) x0 x1):=by
 simp only [EP,aY,cj,Rx,abA bH h117,ZP,ZQ]
 rfl
theorem ZR (x0):ak [1,2] (e7 x0)=(e7 x0):=by kernel_rfl
theorem ZS (x0):ak [1,2] (iY x0)=(iY x0):=by kernel_rfl
def wc (k0:Int→Option R) (x0:aT):Option R:=
ad (decide (x0.2.2.1 < (0:Int))) (k0 (6:Int)) (ad (decide (x0.2.2.1 > (99:Int))) (k0 (6:Int)) (ad (decide (x0.2.2.2.1 < (0:Int))) (k0 (6:Int)) (ad (decide (x0.2.2.2.1 > (4:Int))) (k0 (6:Int)) (k0 (0:Int)))))
theorem al9 (x0):exec cl N Nl (iY x0) K=(wc (fun y0=>K .ret [(2,.v U2 y0)]) x0):=by
 kernel_rfl
def wg (N:Nat) (ff:V3→Option (Int)) (bH:aN→Option (Int)) (k0:Int→Option R) (k1:Int→Option R) (x0:aT):Option R:=
(we ff k0 (v8 (wb N bH k0 ((wc k1)))) x0)
theorem amb (ff) (bH) (h116:(zF ff).holds cl) (h117:(me bH).holds cl) (x0):exec cl N zh [(0,.v aG x0)] K=(wg N ff bH (fun y0=>K .ret (e7 y0)) (fun y0=>K .ret [(2,.v U2 y0)]) x0):=by
 simp only [b6,b9,b8,ca,ama ff h116,zg,Nk,al6,Nj,aY,cB,al8 bH h117,cz,cA,cy,ZR,ZS,al9]
 rfl
theorem afJ (y0):ah d91 .ret (e7 y0)=some [.v U2 y0]:=by kernel_rfl
theorem afK (y0):ah d91 .ret [(2,.v U2 y0)]=some [.v U2 y0]:=by kernel_rfl
def rA (N:Nat) (ff:V3→Option (Int)) (bH:aN→Option (Int)) (x0:aT) (k:Int→Option R):Option R:=
(wg N ff bH k k x0)
theorem VS (ff) (bH) (h116:(zF ff).holds cl) (h117:(me bH).holds cl) (x0) (k:List E→Option R):exec cl N EN [(0,.v aG x0)] (fun e env=>(ah d91 e env).bind k)=rA N ff bH x0 (fun r0=>k [.v U2 r0]):=by
 simp only [EN,amb ff bH h116 h117,afJ,afK,ar]
 rfl
def n7 (S:aT→Option (Int)):aO:=cL 91 aG S fun b=> [.v U2 b]
def cG (N:Nat) (x0:aT):Option (Int):=rA N (ff N) (bH N) x0 (fun (r0:Int)=>some (r0))
def HF (k0:Int→Option R) (k1:Int→Option R) (x0 x1:Int):Option R:=
ad (decide (x0 < x1)) (k0 (-1:Int)) (ad (decide (x0 > x1)) (k1 (1:Int)) (k1 (0:Int)))
theorem alY (x0 x1):exec cl N Nf (z6 x0 x1) K=(HF (fun y0=>K .ret (k9 y0)) (fun y0=>K .ret [(4,.v U2 y0)]) x0 x1):=by
 kernel_rfl
theorem afF (y0):ah d86 .ret (k9 y0)=some [.v U2 y0]:=by kernel_rfl
theorem afG (y0):ah d86 .ret [(4,.v U2 y0)]=some [.v U2 y0]:=by kernel_rfl
def AO (x0 x1:Int) (k:Int→Option R):Option R:=
(HF k k x0 x1)
theorem VQ (x0 x1) (k:List E→Option R):exec cl N EK (z6 x0 x1) (fun e env=>(ah d86 e env).bind k)=AO x0 x1 (fun r0=>k [.v U2 r0]):=by
 simp only [EK,alY,afF,afG,ar]
 rfl
def FO (S:Int→Int→Option (Int)):aO:=dZ 86 U2 U2 S fun b=> [.v U2 b]
def gy (N:Nat) (x0:Int) (x1:Int):Option (Int):=AO x0 x1 (fun (r0:Int)=>some (r0))
def Ht (gy:Int→Int→Option (Int)) (k0:Int→Option R) (k1:Int→Option R) (x0 x1:aN):Option R:=
(gy x0.1 x1.1).bind fun r699=>
ad (r699 != (0:Int)) (k0 r699) ((gy x0.2.1 x1.2.1).bind fun r701=>
ad (r701 != (0:Int)) (k0 r701) (ad (Op.bytesLess x0.2.2.1 x1.2.2.1) (k0 (-1:Int)) (ad (!((Op.bytesLess x0.2.2.1 x1.2.2.1) || x0.2.2.1==x1.2.2.1)) (k1 (1:Int)) (k1 (0:Int)))))
theorem ak8 (gy) (h86:(FO gy).holds cl) (x0 x1):exec cl N Mv [(0,.v aA x0),(1,.v aA x1)] K=(Ht gy (fun y0=>K .ret [(2,.dead),(3,.dead),(4,.v U2 y0)]) (fun y0=>K .ret [(4,.v U2 y0)]) x0 x1):=by
 rw [←aP h86]
 kernel_rfl
theorem afi (y0):ah d59 .ret [(2,.dead),(3,.dead),(4,.v U2 y0)]=some [.v U2 y0]:=by kernel_rfl
theorem afj (y0):ah d59 .ret [(4,.v U2 y0)]=some [.v U2 y0]:=by kernel_rfl
def AL (gy:Int→Int→Option (Int)) (x0 x1:aN) (k:Int→Option R):Option R:=
(Ht gy k k x0 x1)
theorem VI (gy) (h86:(FO gy).holds cl) (x0 x1) (k:List E→Option R):exec cl N Ek [(0,.v aA x0),(1,.v aA x1)] (fun e env=>(ah d59 e env).bind k)=AL gy x0 x1 (fun r0=>k [.v U2 r0]):=by
 simp only [Ek,ak8 gy h86,afi,afj,ar]
 rfl
def qg (S:aN→aN→Option (Int)):aO:=dZ 59 aA aA S fun b=> [.v U2 b]
def df (N:Nat) (x0:aN) (x1:aN):Option (Int):=AL (gy N) x0 x1 (fun (r0:Int)=>some (r0))
def vh (k0:Bool→Option R) (k1:aB→aB→Option R) (x0 x1:aB):Option R:=
ad ((x0.length:Int) != (x1.length:Int)) (k0 false) (k1 x0 x1)
theorem ake (x0 x1):exec cl N yG (qo x0 x1) K=(vh (fun y0=>K .ret (iA y0)) (fun y0 y1=>exec cl N yF (z7 y0 y1) K) x0 x1):=by
 delta yG
 generalize yF=q
 revert q
 refine id ?_
 intro q
 kernel_rfl
def vd (k0:aB→aB→Int→Option R) (x0 x1:aB):Option R:=
k0 x0 x1 (0:Int)
theorem aka (x0 x1):exec cl N LP (z7 x0 x1) K=(vd (fun y0 y1 y2=>K .normal (la y0 y1 y2)) x0 x1):=by
 kernel_rfl
theorem Ri (x0 x1 x2):ak [0,1,5] (la x0 x1 x2)=(la x0 x1 x2):=by kernel_rfl
def ve (df:aN→aN→Option (Int)) (k0:Bool→Option R) (k1:aB→aB→Int→Option R) (k2:aB→aB→Int→Option R) (x0 x1:aB) (x2:Int):Option R:=
ad (decide (x2 < (x0.length:Int))) (if 0≤x2∧x2 < (x0.length:Int) then
if 0≤x2∧x2 < (x1.length:Int) then
(df (x0.getD x2.toNat ((0:Int),((0:Int),([],())))) (x1.getD x2.toNat ((0:Int),((0:Int),([],()))))).bind fun r710=>
ad (r710 != (0:Int)) (k0 false) (k1 x0 x1 (IntKind.i64.wrap (x2+(1:Int))))
else none
else none) (k2 x0 x1 x2)
theorem akb (df) (h59:(qg df).holds cl) (x0 x1 x2):exec cl N DN (la x0 x1 x2) K=(ve df (fun y0=>K .ret (mj y0)) (fun y0 y1 y2=>K .normal (la y0 y1 y2)) (fun y0 y1 y2=>K (.exit 0) (la y0 y1 y2)) x0 x1 x2):=by
 rw [←aP h59]
 kernel_rfl
def rO {R:Type} (df:aN→aN→Option (Int)) (k0:Bool→Option R) (k1:aB→aB→Int→Option R):Nat→aB→aB→Int→Option R
 | 0,_,_,_=>none
 | m+1,x0,x1,x2=>(ve df k0 (rO df k0 k1 m) k1 x0 x1 x2)
theorem abj (df) (h59:(qg df).holds cl):∀ (m) (x0 x1 x2),iter [0,1,5] (fun env K=>exec cl N DN env K) K m (la x0 x1 x2)=rO df (fun y0=>K .ret (mj y0)) (fun y0 y1 y2=>K (.exit 0) (la y0 y1 y2)) m x0 x1 x2:=by
 intro m
 induction m with
 | zero=>intros; rfl
 | succ m ih=>
   intro x0 x1 x2
   simp only [ck,akb df h59,cq,cm,ct,Ri,ih]
   rfl
theorem Y1 (x0):ak [4] (mj x0)=[(4,.v .bool x0)]:=by kernel_rfl
theorem Y2 (x0 x1 x2):ak [4] (la x0 x1 x2)=[(4,.dead)]:=by kernel_rfl
def vf (N:Nat) (df:aN→aN→Option (Int)) (k0:Bool→Option R) (k1:Option R) (x0 x1:aB) (x2:Int):Option R:=
rO df k0 (fun y0 y1 y2=>k1) N x0 x1 x2
theorem akc (df) (h59:(qg df).holds cl) (x0 x1 x2):exec cl N DO (la x0 x1 x2) K=(vf N df (fun y0=>K .ret [(4,.v .bool y0)]) (K (.exit 0) [(4,.dead)]) x0 x1 x2):=by
 simp only [DO,aY,cj,Ri,abj df h59,Y1,Y2]
 rfl
theorem Y3 (x0):ak [4] [(4,.v .bool x0)]=[(4,.v .bool x0)]:=by kernel_rfl
theorem Y4:ak [4] [(4,.dead)]=[(4,.dead)]:=by kernel_rfl
def vg (k0:Bool→Option R):Option R:=
k0 true
theorem akd:exec cl N LS [(4,.dead)] K=(vg (fun y0=>K .ret [(4,.v .bool y0)])):=by
 kernel_rfl
def vi (N:Nat) (df:aN→aN→Option (Int)) (k0:Bool→Option R) (k1:Bool→Option R) (x0 x1:aB):Option R:=
(vh k0 (vd (vf N df k1 (vg k1))) x0 x1)
theorem akf (df) (h59:(qg df).holds cl) (x0 x1):exec cl N yG (qo x0 x1) K=(vi N df (fun y0=>K .ret (iA y0)) (fun y0=>K .ret [(4,.v .bool y0)]) x0 x1):=by
 simp only [b6,b9,b8,ca,ake,yF,LR,aka,LQ,aY,cB,akc df h59,cz,cA,cy,Y3,Y4,akd]
 rfl
theorem aeT (y0):ah d28 .ret (iA y0)=some [.v .bool y0]:=by kernel_rfl
theorem aeU (y0):ah d28 .ret [(4,.v .bool y0)]=some [.v .bool y0]:=by kernel_rfl
def qK (N:Nat) (df:aN→aN→Option (Int)) (x0 x1:aB) (k:Bool→Option R):Option R:=
(vi N df k k x0 x1)
theorem Vv (df) (h59:(qg df).holds cl) (x0 x1) (k:List E→Option R):exec cl N DM (qo x0 x1) (fun e env=>(ah d28 e env).bind k)=qK N df x0 x1 (fun r0=>k [.v .bool r0]):=by
 simp only [DM,akf df h59,aeT,aeU,ar]
 rfl
def mf (S:aB→aB→Option (Bool)):aO:=dZ 28 bD bD S fun b=> [.v .bool b]
def bF (N:Nat) (x0:aB) (x1:aB):Option (Bool):=qK N (df N) x0 x1 (fun (r0:Bool)=>some (r0))
def ra (eR:V3→Option (Bool)) (k0:Int→Int→Option R) (k1:ag→Option R) (x0:ag):Option R:=
(eR x0.1).bind fun r718=>
ad (!r718) (k0 (-1:Int) (2:Int)) (ad ((x0.2.1.length:Int)==(0:Int)) (k0 (-1:Int) (7:Int)) (ad (decide ((x0.2.1.length:Int) > (120:Int))) (k0 (-1:Int) (3:Int)) (k1 x0)))
theorem alh (eR) (h90:(zR eR).holds cl) (x0):exec cl N yW [(0,.v az x0)] K=(ra eR (fun y0 y1=>K .ret (qp y0 y1)) (fun y0=>exec cl N yV (z8 y0) K) x0):=by
 rw [←aP h90]
 delta yW
 generalize yV=q
 revert q
 refine id ?_
 intro q
 kernel_rfl
def qX (k0:ag→Int→Option R) (x0:ag):Option R:=
k0 x0 (0:Int)
theorem ale (x0):exec cl N MC (z8 x0) K=(qX (fun y0 y1=>K .normal (iB y0 y1)) x0):=by
 kernel_rfl
theorem Rq (x0 x1):ak [1,4] (iB x0 x1)=(iB x0 x1):=by kernel_rfl
def rk (k0:ag→Int→Option R) (k1:ag→Int→Option R) (x0:ag) (x1:Int):Option R:=
ad (decide (x1 < (x0.2.1.length:Int))) (k0 x0 x1) (k1 x0 x1)
theorem aln (x0 x1):exec cl N s6 (iB x0 x1) K=(rk (fun y0 y1=>exec cl N yY (iB y0 y1) K) (fun y0 y1=>K (.exit 0) (iB y0 y1)) x0 x1):=by
 delta s6
 generalize yY=q
 revert q
 refine id ?_
 intro q
 kernel_rfl
def ri (cG:aT→Option (Int)) (k0:Int→Int→Option R) (k1:ag→Int→Int→Option R) (x0:ag) (x1:Int):Option R:=
if 0≤x1∧x1 < (x0.2.1.length:Int) then
(cG (x0.2.1.getD x1.toNat ([],([],((0:Int),((0:Int),())))))).bind fun r722=>
ad (r722 != (0:Int)) (k0 x1 r722) (k1 x0 x1 (0:Int))
else none
theorem alk (cG) (h91:(n7 cG).holds cl) (x0 x1):exec cl N Er (iB x0 x1) K=(ri cG (fun y0 y1=>K .ret (mY y0 y1)) (fun y0 y1 y2=>exec cl N yX (lb y0 y1 y2) K) x0 x1):=by
 rw [←aP h91]
 delta Er
 generalize yX=q
 revert q
 refine id ?_
 intro q
 kernel_rfl
theorem Rs (x0 x1 x2):ak [1,4,6] (lb x0 x1 x2)=(lb x0 x1 x2):=by kernel_rfl
def qY (bF:aB→aB→Option (Bool)) (k0:Int→Int→Option R) (k1:ag→Int→Int→Option R) (k2:ag→Int→Int→Option R) (x0:ag) (x1 x2:Int):Option R:=
ad (decide (x2 < x1)) (if 0≤x1∧x1 < (x0.2.1.length:Int) then
if 0≤x2∧x2 < (x0.2.1.length:Int) then
ad ((x0.2.1.getD x1.toNat ([],([],((0:Int),((0:Int),()))))).1==(x0.2.1.getD x2.toNat ([],([],((0:Int),((0:Int),()))))).1) (ad ((x0.2.1.getD x1.toNat ([],([],((0:Int),((0:Int),()))))).2.2.2.1==(x0.2.1.getD x2.toNat ([],([],((0:Int),((0:Int),()))))).2.2.2.1) ((bF ((x0.2.1.getD x1.toNat ([],([],((0:Int),((0:Int),()))))).2.1) ((x0.2.1.getD x2.toNat ([],([],((0:Int),((0:Int),()))))).2.1)).bind fun r727=>
ad r727 (k0 x1 (5:Int)) (k1 x0 x1 (IntKind.i64.wrap (x2+(1:Int))))) (k1 x0 x1 (IntKind.i64.wrap (x2+(1:Int))))) (k1 x0 x1 (IntKind.i64.wrap (x2+(1:Int))))
else none
else none) (k2 x0 x1 x2)
theorem alf (bF) (h28:(mf bF).holds cl) (x0 x1 x2):exec cl N Eo (lb x0 x1 x2) K=(qY bF (fun y0 y1=>K .ret (Gn y0 y1)) (fun y0 y1 y2=>K .normal (lb y0 y1 y2)) (fun y0 y1 y2=>K (.exit 2) (lb y0 y1 y2)) x0 x1 x2):=by
 rw [←aP h28]
 kernel_rfl
def o8 {R:Type} (bF:aB→aB→Option (Bool)) (k0:Int→Int→Option R) (k1:ag→Int→Int→Option R):Nat→ag→Int→Int→Option R
 | 0,_,_,_=>none
 | m+1,x0,x1,x2=>(qY bF k0 (o8 bF k0 k1 m) k1 x0 x1 x2)
theorem abu (bF) (h28:(mf bF).holds cl):∀ (m) (x0 x1 x2),iter [1,4,6] (fun env K=>exec cl N Eo env K) K m (lb x0 x1 x2)=o8 bF (fun y0 y1=>K .ret (Gn y0 y1)) (fun y0 y1 y2=>K (.exit 2) (lb y0 y1 y2)) m x0 x1 x2:=by
 intro m
 induction m with
 | zero=>intros; rfl
 | succ m ih=>
   intro x0 x1 x2
   simp only [ck,alf bF h28,cq,cm,ct,Rs,ih]
   rfl
theorem Zt (x0 x1):ak [1,2,3,4] (Gn x0 x1)=(mY x0 x1):=by kernel_rfl
theorem Zu (x0 x1 x2):ak [1,2,3,4] (lb x0 x1 x2)=(tu x0 x1):=by kernel_rfl
def rh (N:Nat) (bF:aB→aB→Option (Bool)) (k0:Int→Int→Option R) (k1:ag→Int→Option R) (x0:ag) (x1 x2:Int):Option R:=
o8 bF k0 (fun y0 y1 y2=>k1 y0 y1) N x0 x1 x2
theorem alj (bF) (h28:(mf bF).holds cl) (x0 x1 x2):exec cl N Ep (lb x0 x1 x2) K=(rh N bF (fun y0 y1=>K .ret (mY y0 y1)) (fun y0 y1=>K (.exit 2) (tu y0 y1)) x0 x1 x2):=by
 simp only [Ep,aY,cj,Rs,abu bF h28,Zt,Zu]
 rfl
theorem Zv (x0 x1):ak [1,2,3,4] (mY x0 x1)=(mY x0 x1):=by kernel_rfl
theorem Zw (x0 x1):ak [1,2,3,4] (tu x0 x1)=(tu x0 x1):=by kernel_rfl
def rj (k0:ag→Int→Option R) (x0:ag) (x1:Int):Option R:=
k0 x0 (IntKind.i64.wrap (x1+(1:Int)))
theorem alm (x0 x1):exec cl N MH (tu x0 x1) K=(rj (fun y0 y1=>K .normal (iB y0 y1)) x0 x1):=by
 kernel_rfl
def rl (N:Nat) (bF:aB→aB→Option (Bool)) (cG:aT→Option (Int)) (k0:Int→Int→Option R) (k1:ag→Int→Option R) (k2:ag→Int→Option R) (x0:ag) (x1:Int):Option R:=
(rk (ri cG k0 (rh N bF k0 (((rj k1))))) k2 x0 x1)
theorem alo (bF) (cG) (h28:(mf bF).holds cl) (h91:(n7 cG).holds cl) (x0 x1):exec cl N s6 (iB x0 x1) K=(rl N bF cG (fun y0 y1=>K .ret (mY y0 y1)) (fun y0 y1=>K .normal (iB y0 y1)) (fun y0 y1=>K (.exit 0) (iB y0 y1)) x0 x1):=by
 simp only [b6,b9,b8,ca,aln,yY,MG,aY,cB,alk cG h91,yX,alj bF h28,cz,cA,cy,Zv,Zw,alm]
 rfl
def nt {R:Type} (N:Nat) (bF:aB→aB→Option (Bool)) (cG:aT→Option (Int)) (k0:Int→Int→Option R) (k1:ag→Int→Option R):Nat→ag→Int→Option R
 | 0,_,_=>none
 | m+1,x0,x1=>(rl N bF cG k0 (nt N bF cG k0 k1 m) k1 x0 x1)
theorem abv (bF) (cG) (h28:(mf bF).holds cl) (h91:(n7 cG).holds cl):∀ (m) (x0 x1),iter [1,4] (fun env K=>exec cl N s6 env K) K m (iB x0 x1)=nt N bF cG (fun y0 y1=>K .ret (mY y0 y1)) (fun y0 y1=>K (.exit 0) (iB y0 y1)) m x0 x1:=by
 intro m
 induction m with
 | zero=>intros; rfl
 | succ m ih=>
   intro x0 x1
   simp only [ck,alo bF cG h28 h91,cq,cm,ct,Rq,ih]
   rfl
theorem Zx (x0 x1):ak [2,3] (mY x0 x1)=(iZ x0 x1):=by kernel_rfl
theorem Zy (x0 x1):ak [2,3] (iB x0 x1)=[(2,.dead),(3,.dead)]:=by kernel_rfl
def rn (N:Nat) (bF:aB→aB→Option (Bool)) (cG:aT→Option (Int)) (k0:Int→Int→Option R) (k1:Option R) (x0:ag) (x1:Int):Option R:=
nt N bF cG k0 (fun y0 y1=>k1) N x0 x1
theorem alp (bF) (cG) (h28:(mf bF).holds cl) (h91:(n7 cG).holds cl) (x0 x1):exec cl N Es (iB x0 x1) K=(rn N bF cG (fun y0 y1=>K .ret (iZ y0 y1)) (K (.exit 0) [(2,.dead),(3,.dead)]) x0 x1):=by
 simp only [Es,aY,cj,Rq,abv bF cG h28 h91,Zx,Zy]
 rfl
theorem Zz (x0 x1):ak [2,3] (iZ x0 x1)=(iZ x0 x1):=by kernel_rfl
theorem ZA:ak [2,3] [(2,.dead),(3,.dead)]=[(2,.dead),(3,.dead)]:=by kernel_rfl
def qZ (k0:Int→Int→Option R):Option R:=
k0 (-1:Int) (0:Int)
theorem alg:exec cl N MF [(2,.dead),(3,.dead)] K=(qZ (fun y0 y1=>K .ret (iZ y0 y1))):=by
 kernel_rfl
def rb (N:Nat) (bF:aB→aB→Option (Bool)) (eR:V3→Option (Bool)) (cG:aT→Option (Int)) (k0:Int→Int→Option R) (k1:Int→Int→Option R) (x0:ag):Option R:=
(ra eR k0 (qX (rn N bF cG k1 (qZ k1))) x0)
theorem ali (bF) (eR) (cG) (h28:(mf bF).holds cl) (h90:(zR eR).holds cl) (h91:(n7 cG).holds cl) (x0):exec cl N yW [(0,.v az x0)] K=(rb N bF eR cG (fun y0 y1=>K .ret (qp y0 y1)) (fun y0 y1=>K .ret (iZ y0 y1)) x0):=by
 simp only [b6,b9,b8,ca,alh eR h90,yV,ME,ale,MD,aY,cB,alp bF cG h28 h91,cz,cA,cy,Zz,ZA,alg]
 rfl
theorem afm (y0 y1):ah d67 .ret (qp y0 y1)=some [.v U2 y0,.v U2 y1]:=by kernel_rfl
theorem afn (y0 y1):ah d67 .ret (iZ y0 y1)=some [.v U2 y0,.v U2 y1]:=by kernel_rfl
def oU (N:Nat) (bF:aB→aB→Option (Bool)) (eR:V3→Option (Bool)) (cG:aT→Option (Int)) (x0:ag) (k:Int→Int→Option R):Option R:=
(rb N bF eR cG k k x0)
theorem VK (bF) (eR) (cG) (h28:(mf bF).holds cl) (h90:(zR eR).holds cl) (h91:(n7 cG).holds cl) (x0) (k:List E→Option R):exec cl N En [(0,.v az x0)] (fun e env=>(ah d67 e env).bind k)=oU N bF eR cG x0 (fun r0 r1=>k [.v U2 r0,.v U2 r1]):=by
 simp only [En,ali bF eR cG h28 h90 h91,afm,afn,ar]
 rfl
def zQ (S:ag→Option V1):aO:=cL 67 az S fun b=> [.v U2 b.1,.v U2 b.2]
def fJ (N:Nat) (x0:ag):Option V1:=oU N (bF N) (eR N) (cG N) x0 (fun (r0:Int) (r1:Int)=>some (r0,r1))
def PY (fK:V3→Option ft) (k0:ag→Int→Int→Option R) (k1:ag→Int→Int→Option R) (k2:V3→ag→aD→ag→Option R) (x0:V3):Option R:=
ad (decide ((x0.length:Int) > (20000:Int))) (k0 ([],[],()) (0:Int) (3:Int)) ((fK x0).bind fun r737=>
ad ((r737.length:Int)==(0:Int)) (k1 ([],[],()) (1:Int) (2:Int)) (k2 x0 ([],([],())) r737 ([],([],()))))
theorem alu (fK) (h92:(zS fK).holds cl) (x0):exec cl N za [(0,.v .str x0)] K=(PY fK (fun y0 y1 y2=>K .ret (Gp y0 y1 y2)) (fun y0 y1 y2=>K .ret (Gq y0 y1 y2)) (fun y0 y1 y2 y3=>exec cl N yZ (Oo y0 y1 y2 y3) K) x0):=by
 rw [←aP h92]
 delta za
 generalize yZ=q
 revert q
 refine id ?_
 intro q
 kernel_rfl
def PV (k0:V3→ag→aD→ag→Int→Option R) (x0:V3) (x1:ag) (x2:aD) (x3:ag):Option R:=
k0 x0 x1 x2 x3 (0:Int)
theorem alq (x0 x1 x2 x3):exec cl N MI (Oo x0 x1 x2 x3) K=(PV (fun y0 y1 y2 y3 y4=>K .normal (gB y0 y1 y2 y3 y4)) x0 x1 x2 x3):=by
 kernel_rfl
theorem Rt (x0 x1 x2 x3 x4):ak [0,2,5,6,7] (gB x0 x1 x2 x3 x4)=(gB x0 x1 x2 x3 x4):=by kernel_rfl
def PW (k0:V3→ag→aD→ag→Int→Option R) (k1:V3→ag→aD→ag→Int→Option R) (x0:V3) (x1:ag) (x2:aD) (x3:ag) (x4:Int):Option R:=
ad (decide (x4 < (x2.length:Int))) (k0 x0 x1 x2 x3 x4) (k1 x0 x1 x2 x3 x4)
theorem alr (x0 x1 x2 x3 x4):exec cl N MJ (gB x0 x1 x2 x3 x4) K=(PW (fun y0 y1 y2 y3 y4=>K .normal (gB y0 y1 y2 y3 y4)) (fun y0 y1 y2 y3 y4=>K (.exit 0) (gB y0 y1 y2 y3 y4)) x0 x1 x2 x3 x4):=by
 kernel_rfl
def P0 (k0:V3→ag→aD→ag→Int→Bool→Option R) (x0:V3) (x1:ag) (x2:aD) (x3:ag) (x4:Int):Option R:=
ad (x4==(IntKind.i64.wrap ((x2.length:Int) - (1:Int)))) (let v741:Int:=(IntKind.i64.wrap ((x0.length:Int) - (1:Int)))
if 0≤v741∧v741 < (x0.length:Int) then
k0 x0 x1 x2 x3 x4 (((x0.getD v741.toNat 0).toNat:Int) != (10:Int))
else none) (k0 x0 x1 x2 x3 x4 false)
theorem alw (x0 x1 x2 x3 x4):exec cl N MN (gB x0 x1 x2 x3 x4) K=(P0 (fun y0 y1 y2 y3 y4 y5=>K .normal (Oq y0 y1 y2 y3 y4 y5)) x0 x1 x2 x3 x4):=by
 kernel_rfl
def P1 (bJ:V3→Option ft) (cR:V3→Option mN) (k0:ag→Int→Int→Option R) (k1:V3→ag→aD→ag→Int→Option R) (x0:V3) (x1:ag) (x2:aD) (x3:ag) (x4:Int) (x5:Bool):Option R:=
if 0≤x4∧x4 < (x2.length:Int) then
if x4.toNat < x2.length then
(bJ (x2.getD x4.toNat [])).bind fun r745=>
if 0≤x4∧x4 < (x2.length:Int) then
if x4.toNat < x2.length then
(cR (x2.getD x4.toNat [])).bind fun r747=>
ad (x4==(0:Int)) (ad ((r745.length:Int)==(2:Int)) (if 0≤(0:Int)∧(0:Int) < (r745.length:Int) then
if ((0:Int).toNat) < r745.length then
ad x5 (k0 ([],[],()) (IntKind.i64.wrap (x4+(1:Int))) (2:Int)) (ad (!((r745.getD ((0:Int).toNat) [])==([111,114,116,104,111,103,114,97,112,104,121]:List UInt8))) (k0 ([],[],()) (IntKind.i64.wrap (x4+(1:Int))) (2:Int)) (ad (x4==(0:Int)) (if 0≤(1:Int)∧(1:Int) < (r745.length:Int) then
if ((1:Int).toNat) < r745.length then
k1 x0 x1 x2 ((r745.getD ((1:Int).toNat) []),x3.2) x4
else none
else none) (if x3.2.1.length+[r747.1].length≤2513169434916 then
k1 x0 x1 x2 (x3.1,((x3.2.1++[r747.1]),x3.2.2)) x4
else none)))
else none
else none) (ad x5 (k0 ([],[],()) (IntKind.i64.wrap (x4+(1:Int))) (2:Int)) (k0 ([],[],()) (IntKind.i64.wrap (x4+(1:Int))) (2:Int)))) (ad x5 (k0 ([],[],()) (IntKind.i64.wrap (x4+(1:Int))) (2:Int)) (ad (!r747.2) (k0 ([],[],()) (IntKind.i64.wrap (x4+(1:Int))) (2:Int)) (ad (x4==(0:Int)) (if 0≤(1:Int)∧(1:Int) < (r745.length:Int) then
if ((1:Int).toNat) < r745.length then
k1 x0 x1 x2 ((r745.getD ((1:Int).toNat) []),x3.2) x4
else none
else none) (if x3.2.1.length+[r747.1].length≤2513169434916 then
k1 x0 x1 x2 (x3.1,((x3.2.1++[r747.1]),x3.2.2)) x4
else none))))
else none
else none
else none
else none
theorem alx (bJ) (cR) (h93:(kF bJ).holds cl) (h94:(n8 cR).holds cl) (x0 x1 x2 x3 x4 x5):exec cl N MO (Oq x0 x1 x2 x3 x4 x5) K=(P1 bJ cR (fun y0 y1 y2=>K .ret (Ot y0 y1 y2)) (fun y0 y1 y2 y3 y4=>K .normal (gB y0 y1 y2 y3 y4)) x0 x1 x2 x3 x4 x5):=by
 rw [←aP h93]
 rw [←aP h94]
 kernel_rfl
theorem ZB (x0 x1 x2):ak [0,2,3,4,5,6,7] (Ot x0 x1 x2)=(Aa x0 x1 x2):=by kernel_rfl
theorem ZC (x0 x1 x2 x3 x4):ak [0,2,3,4,5,6,7] (gB x0 x1 x2 x3 x4)=(Ou x0 x1 x2 x3 x4):=by kernel_rfl
def P2 (k0:V3→ag→aD→ag→Int→Option R) (x0:V3) (x1:ag) (x2:aD) (x3:ag) (x4:Int):Option R:=
k0 x0 x1 x2 x3 (IntKind.i64.wrap (x4+(1:Int)))
theorem aly (x0 x1 x2 x3 x4):exec cl N MR (Ou x0 x1 x2 x3 x4) K=(P2 (fun y0 y1 y2 y3 y4=>K .normal (gB y0 y1 y2 y3 y4)) x0 x1 x2 x3 x4):=by
 kernel_rfl
def P3 (bJ:V3→Option ft) (cR:V3→Option mN) (k0:ag→Int→Int→Option R) (k1:V3→ag→aD→ag→Int→Option R) (k2:V3→ag→aD→ag→Int→Option R) (x0:V3) (x1:ag) (x2:aD) (x3:ag) (x4:Int):Option R:=
(PW (P0 (P1 bJ cR k0 ((P2 k1)))) k2 x0 x1 x2 x3 x4)
theorem alz (bJ) (cR) (h93:(kF bJ).holds cl) (h94:(n8 cR).holds cl) (x0 x1 x2 x3 x4):exec cl N zb (gB x0 x1 x2 x3 x4) K=(P3 bJ cR (fun y0 y1 y2=>K .ret (Aa y0 y1 y2)) (fun y0 y1 y2 y3 y4=>K .normal (gB y0 y1 y2 y3 y4)) (fun y0 y1 y2 y3 y4=>K (.exit 0) (gB y0 y1 y2 y3 y4)) x0 x1 x2 x3 x4):=by
 simp only [zb,b6,b9,b8,ca,alr,MS,MQ,aY,cB,MP,alw,alx bJ cR h93 h94,cz,cA,cy,ZB,ZC,aly]
 rfl
def Is {R:Type} (bJ:V3→Option ft) (cR:V3→Option mN) (k0:ag→Int→Int→Option R) (k1:V3→ag→aD→ag→Int→Option R):Nat→V3→ag→aD→ag→Int→Option R
 | 0,_,_,_,_,_=>none
 | m+1,x0,x1,x2,x3,x4=>(P3 bJ cR k0 (Is bJ cR k0 k1 m) k1 x0 x1 x2 x3 x4)
theorem abw (bJ) (cR) (h93:(kF bJ).holds cl) (h94:(n8 cR).holds cl):∀ (m) (x0 x1 x2 x3 x4),iter [0,2,5,6,7] (fun env K=>exec cl N zb env K) K m (gB x0 x1 x2 x3 x4)=Is bJ cR (fun y0 y1 y2=>K .ret (Aa y0 y1 y2)) (fun y0 y1 y2 y3 y4=>K (.exit 0) (gB y0 y1 y2 y3 y4)) m x0 x1 x2 x3 x4:=by
 intro m
 induction m with
 | zero=>intros; rfl
 | succ m ih=>
   intro x0 x1 x2 x3 x4
   simp only [ck,alz bJ cR h93 h94,cq,cm,ct,Rt,ih]
   rfl
theorem ZD (x0 x1 x2):ak [2,3,4,6] (Aa x0 x1 x2)=(om x0 x1 x2):=by kernel_rfl
theorem ZE (x0 x1 x2 x3 x4):ak [2,3,4,6] (gB x0 x1 x2 x3 x4)=(tv x1 x3):=by kernel_rfl
def P4 (N:Nat) (bJ:V3→Option ft) (cR:V3→Option mN) (k0:ag→Int→Int→Option R) (k1:ag→ag→Option R) (x0:V3) (x1:ag) (x2:aD) (x3:ag) (x4:Int):Option R:=
Is bJ cR k0 (fun y0 y1 y2 y3 y4=>k1 y1 y3) N x0 x1 x2 x3 x4
theorem alA (bJ) (cR) (h93:(kF bJ).holds cl) (h94:(n8 cR).holds cl) (x0 x1 x2 x3 x4):exec cl N Eu (gB x0 x1 x2 x3 x4) K=(P4 N bJ cR (fun y0 y1 y2=>K .ret (om y0 y1 y2)) (fun y0 y1=>K (.exit 0) (tv y0 y1)) x0 x1 x2 x3 x4):=by
 simp only [Eu,aY,cj,Rt,abw bJ cR h93 h94,ZD,ZE]
 rfl
theorem ZF (x0 x1 x2):ak [2,3,4,6] (om x0 x1 x2)=(om x0 x1 x2):=by kernel_rfl
theorem ZG (x0 x1):ak [2,3,4,6] (tv x0 x1)=(tv x0 x1):=by kernel_rfl
def PX (fJ:ag→Option V1) (k0:ag→Int→Int→Option R) (k1:ag→Int→Int→Option R) (x0 x1:ag):Option R:=
(fJ x1).bind fun r763=>
ad (r763.2 != (0:Int)) (ad (decide (r763.1≥(0:Int))) (k0 ([],[],()) (IntKind.i64.wrap (r763.1+(2:Int))) r763.2) (k0 ([],[],()) (1:Int) r763.2)) (k1 x1 (0:Int) (0:Int))
theorem als (fJ) (h67:(zQ fJ).holds cl) (x0 x1):exec cl N MM (tv x0 x1) K=(PX fJ (fun y0 y1 y2=>K .ret (om y0 y1 y2)) (fun y0 y1 y2=>K .ret (Gs y0 y1 y2)) x0 x1):=by
 rw [←aP h67]
 kernel_rfl
def PZ (N:Nat) (fJ:ag→Option V1) (fK:V3→Option ft) (bJ:V3→Option ft) (cR:V3→Option mN) (k0:ag→Int→Int→Option R) (k1:ag→Int→Int→Option R) (k2:ag→Int→Int→Option R) (k3:ag→Int→Int→Option R) (x0:V3):Option R:=
(PY fK k0 k1 (PV (P4 N bJ cR k2 ((PX fJ k2 k3)))) x0)
theorem alv (fJ) (fK) (bJ) (cR) (h67:(zQ fJ).holds cl) (h92:(zS fK).holds cl) (h93:(kF bJ).holds cl) (h94:(n8 cR).holds cl) (x0):exec cl N za [(0,.v .str x0)] K=(PZ N fJ fK bJ cR (fun y0 y1 y2=>K .ret (Gp y0 y1 y2)) (fun y0 y1 y2=>K .ret (Gq y0 y1 y2)) (fun y0 y1 y2=>K .ret (om y0 y1 y2)) (fun y0 y1 y2=>K .ret (Gs y0 y1 y2)) x0):=by
 simp only [b6,b9,b8,ca,alu fK h92,yZ,ML,alq,MK,aY,cB,alA bJ cR h93 h94,cz,cA,cy,ZF,ZG,als fJ h67]
 rfl
theorem afo (y0 y1 y2):ah d69 .ret (Gp y0 y1 y2)=some [.v az y0,.v U2 y1,.v U2 y2]:=by kernel_rfl
theorem afp (y0 y1 y2):ah d69 .ret (Gq y0 y1 y2)=some [.v az y0,.v U2 y1,.v U2 y2]:=by kernel_rfl
theorem afq (y0 y1 y2):ah d69 .ret (om y0 y1 y2)=some [.v az y0,.v U2 y1,.v U2 y2]:=by kernel_rfl
theorem afr (y0 y1 y2):ah d69 .ret (Gs y0 y1 y2)=some [.v az y0,.v U2 y1,.v U2 y2]:=by kernel_rfl
def Hz (N:Nat) (fJ:ag→Option V1) (fK:V3→Option ft) (bJ:V3→Option ft) (cR:V3→Option mN) (x0:V3) (k:ag→Int→Int→Option R):Option R:=
(PZ N fJ fK bJ cR k k k k x0)
theorem VL (fJ) (fK) (bJ) (cR) (h67:(zQ fJ).holds cl) (h92:(zS fK).holds cl) (h93:(kF bJ).holds cl) (h94:(n8 cR).holds cl) (x0) (k:List E→Option R):exec cl N Et [(0,.v .str x0)] (fun e env=>(ah d69 e env).bind k)=Hz N fJ fK bJ cR x0 (fun r0 r1 r2=>k [.v az r0,.v U2 r1,.v U2 r2]):=by
 simp only [Et,alv fJ fK bJ cR h67 h92 h93 h94,afo,afp,afq,afr,ar]
 rfl
def FL (S:V3→Option xA):aO:=cL 69 .str S fun b=> [.v az b.1,.v U2 b.2.1,.v U2 b.2.2]
def iS (N:Nat) (x0:V3):Option xA:=Hz N (fJ N) (fK N) (bJ N) (cR N) x0 (fun (r0:ag) (r1:Int) (r2:Int)=>some (r0,r1,r2))
def PN (iS:V3→Option xA) (k0:ag→Option R):Option R:=
(iS ([111,114,116,104,111,103,114,97,112,104,121,32,108,97,116,105,110,10,97,32,97,47,118,51,32,49,32,97,110,121,119,104,101,114,101,10,101,32,101,47,118,51,32,49,32,97,110,121,119,104,101,114,101,10,105,32,105,47,118,51,32,49,32,97,110,121,119,104,101,114,101,10,111,32,111,47,118,51,32,49,32,97,110,121,119,104,101,114,101,10,117,32,117,47,118,51,32,49,32,97,110,121,119,104,101,114,101,10,121,32,121,47,118,51,32,49,32,97,110,121,119,104,101,114,101,10,97,95,32,97,95,47,118,50,32,49,32,97,110,121,119,104,101,114,101,10,101,95,32,101,95,47,118,50,32,49,32,97,110,121,119,104,101,114,101,10,105,95,32,105,95,47,118,50,32,49,32,97,110,121,119,104,101,114,101,10,111,95,32,111,95,47,118,50,32,49,32,97,110,121,119,104,101,114,101,10,117,95,32,117,95,47,118,50,32,49,32,97,110,121,119,104,101,114,101,10,121,95,32,121,95,47,118,50,32,49,32,97,110,121,119,104,101,114,101,10,97,94,32,97,94,47,118,49,32,49,32,97,110,121,119,104,101,114,101,10,101,94,32,101,94,47,118,49,32,49,32,97,110,121,119,104,101,114,101,10,105,94,32,105,94,47,118,49,32,49,32,97,110,121,119,104,101,114,101,10,111,94,32,111,94,47,118,49,32,49,32,97,110,121,119,104,101,114,101,10,117,94,32,117,94,47,118,49,32,49,32,97,110,121,119,104,101,114,101,10,121,94,32,121,94,47,118,49,32,49,32,97,110,121,119,104,101,114,101,10,97,101,32,97,101,47,100,50,32,49,32,97,110,121,119,104,101,114,101,10,97,117,32,97,117,47,100,50,32,49,32,97,110,121,119,104,101,114,101,10,111,101,32,111,101,47,100,50,32,49,32,97,110,121,119,104,101,114,101,10,101,117,32,101,117,47,100,50,32,51,32,97,110,121,119,104,101,114,101,10,105,32,105,47,103,32,48,32,115,116,97,114,116,10,105,32,105,47,103,32,105,47,103,32,48,32,98,101,116,119,101,101,110,10,117,32,117,47,103,32,48,32,115,116,97,114,116,10,117,32,117,47,103,32,48,32,98,101,116,119,101,101,110,10,106,32,106,47,103,32,48,32,97,110,121,119,104,101,114,101,10,118,32,118,47,103,32,48,32,97,110,121,119,104,101,114,101,10,113,117,32,113,117,47,109,32,48,32,98,101,102,111,114,101,10,103,117,32,103,117,47,109,32,50,32,98,101,102,111,114,101,10,115,117,32,115,47,115,32,117,47,103,32,51,32,98,101,102,111,114,101,10,98,32,98,47,109,32,48,32,97,110,121,119,104,101,114,101,10,99,32,99,47,109,32,48,32,97,110,121,119,104,101,114,101,10,100,32,100,47,109,32,48,32,97,110,121,119,104,101,114,101,10,102,32,102,47,109,32,48,32,97,110,121,119,104,101,114,101,10,103,32,103,47,109,32,48,32,97,110,121,119,104,101,114,101,10,107,32,107,47,109,32,48,32,97,110,121,119,104,101,114,101,10,112,32,112,47,109,32,48,32,97,110,121,119,104,101,114,101,10,116,32,116,47,109,32,48,32,97,110,121,119,104,101,114,101,10,108,32,108,47,108,32,48,32,97,110,121,119,104,101,114,101,10,114,32,114,47,108,32,48,32,97,110,121,119,104,101,114,101,10,109,32,109,47,110,32,48,32,97,110,121,119,104,101,114,101,10,110,32,110,47,110,32,48,32,97,110,121,119,104,101,114,101,10,115,32,115,47,115,32,48,32,97,110,121,119,104,101,114,101,10,120,32,120,47,120,32,48,32,97,110,121,119,104,101,114,101,10,122,32,122,47,120,32,48,32,97,110,121,119,104,101,114,101,10,104,32,104,47,98,32,48,32,97,110,121,119,104,101,114,101,10]:List UInt8)).bind fun r768=>
k0 r768.1
theorem akg (iS) (h69:(FL iS).holds cl):exec cl N LU [] K=(PN iS (fun y0=>K .ret [(0,.loc az .no y0)])):=by
 rw [←aP h69]
 kernel_rfl
theorem aeV (y0):ah d37 .ret [(0,.loc az .no y0)]=some [.v az y0]:=by kernel_rfl
def Hm (iS:V3→Option xA) (k:ag→Option R):Option R:=
(PN iS k)
theorem Vw (iS) (h69:(FL iS).holds cl) (k:List E→Option R):exec cl N DP [] (fun e env=>(ah d37 e env).bind k)=Hm iS (fun r0=>k [.v az r0]):=by
 simp only [DP,akg iS h69,aeV,ar]
 rfl
def zO (S:Option sN):aO:={A:=Unit,B:=ag,f:=37,enc:=fun a=> [],dec:=bY,S:=fun a=>S,au:=fun b=> [.v az b],ok:=(fun es b h=>iW h)}
def gR (N:Nat):Option sN:=Hm (iS N) (fun (r0:ag)=>some (r0))
def Hd (k0:Bool→Option R) (x0:Int):Option R:=
ad (decide (x0≥(97:Int))) (k0 (decide (x0≤(122:Int)))) (k0 false)
theorem ai8 (x0):exec cl N K1 [(0,.v U0 x0)] K=(Hd (fun y0=>K .ret [(2,.v .bool y0)]) x0):=by
 kernel_rfl
theorem aeu (y0):ah d149 .ret [(2,.v .bool y0)]=some [.v .bool y0]:=by kernel_rfl
def Ay (x0:Int) (k:Bool→Option R):Option R:=
(Hd k x0)
theorem Vf (x0) (k:List E→Option R):exec cl N Db [(0,.v U0 x0)] (fun e env=>(ah d149 e env).bind k)=Ay x0 (fun r0=>k [.v .bool r0]):=by
 simp only [Db,ai8,aeu,ar]
 rfl
def nY (S:Int→Option (Bool)):aO:=cL 149 U0 S fun b=> [.v .bool b]
def cF (N:Nat) (x0:Int):Option (Bool):=Ay x0 (fun (r0:Bool)=>some (r0))
def He (k0:Bool→Option R) (x0:Int):Option R:=
ad (decide (x0≥(48:Int))) (k0 (decide (x0≤(57:Int)))) (k0 false)
theorem ai9 (x0):exec cl N K2 [(0,.v U0 x0)] K=(He (fun y0=>K .ret [(2,.v .bool y0)]) x0):=by
 kernel_rfl
theorem aev (y0):ah d150 .ret [(2,.v .bool y0)]=some [.v .bool y0]:=by kernel_rfl
def Az (x0:Int) (k:Bool→Option R):Option R:=
(He k x0)
theorem Vh (x0) (k:List E→Option R):exec cl N Dd [(0,.v U0 x0)] (fun e env=>(ah d150 e env).bind k)=Az x0 (fun r0=>k [.v .bool r0]):=by
 simp only [Dd,ai9,aev,ar]
 rfl
def qd (S:Int→Option (Bool)):aO:=cL 150 U0 S fun b=> [.v .bool b]
def c9 (N:Nat) (x0:Int):Option (Bool):=Az x0 (fun (r0:Bool)=>some (r0))
def Au (cF:Int→Option (Bool)) (k0:Int→Option R) (k1:V3→Int→Option R) (x0:V3):Option R:=
ad (x0==([]:List UInt8)) (k0 (0:Int)) (if 0≤(0:Int)∧(0:Int) < (x0.length:Int) then
(cF ((x0.getD (0:Int).toNat 0).toNat:Int)).bind fun r802=>
ad (!r802) (k0 (0:Int)) (k1 x0 (1:Int))
else none)
theorem aiX (cF) (h149:(nY cF).holds cl) (x0):exec cl N yl [(0,.v .str x0)] K=(Au cF (fun y0=>K .ret (iX y0)) (fun y0 y1=>exec cl N yk (cP y0 y1) K) x0):=by
 rw [←aP h149]
 delta yl
 generalize yk=q
 revert q
 refine id ?_
 intro q
 kernel_rfl
theorem Yp (x0 x1):ak [0,3] (cP x0 x1)=(cP x0 x1):=by kernel_rfl
def Aq (cF:Int→Option (Bool)) (c9:Int→Option (Bool)) (k0:V3→Int→Option R) (k1:Int→Option R) (k2:V3→Int→Option R) (x0:V3) (x1:Int):Option R:=
ad (decide (x1 < (x0.length:Int))) (if 0≤x1∧x1 < (x0.length:Int) then
let v804:Int:=((x0.getD x1.toNat 0).toNat:Int)
(cF v804).bind fun r805=>
ad r805 (k0 x0 (IntKind.i64.wrap (x1+(1:Int)))) ((c9 v804).bind fun r807=>
ad r807 (k0 x0 (IntKind.i64.wrap (x1+(1:Int)))) (ad (v804==(45:Int)) (ad (decide ((IntKind.i64.wrap (x1+(1:Int))) < (x0.length:Int))) (let v812:Int:=(IntKind.i64.wrap (x1+(1:Int)))
if 0≤v812∧v812 < (x0.length:Int) then
(cF ((x0.getD v812.toNat 0).toNat:Int)).bind fun r814=>
ad r814 (k0 x0 (IntKind.i64.wrap (x1+(2:Int)))) (let v816:Int:=(IntKind.i64.wrap (x1+(1:Int)))
if 0≤v816∧v816 < (x0.length:Int) then
(c9 ((x0.getD v816.toNat 0).toNat:Int)).bind fun r818=>
ad r818 (k0 x0 (IntKind.i64.wrap (x1+(2:Int)))) (k1 x1)
else none)
else none) (k1 x1)) (k1 x1)))
else none) (k2 x0 x1)
theorem aiU (cF) (c9) (h149:(nY cF).holds cl) (h150:(qd c9).holds cl) (x0 x1):exec cl N C2 (cP x0 x1) K=(Aq cF c9 (fun y0 y1=>K .normal [(0,.v .str y0),(2,.dead),(3,.v U2 y1)]) (fun y0=>K .ret (qn y0)) (fun y0 y1=>K (.exit 0) (cP y0 y1)) x0 x1):=by
 rw [←aP h149]
 rw [←aP h150]
 kernel_rfl
theorem Yq (x0 x1):ak [0,3] [(0,.v .str x0),(2,.dead),(3,.v U2 x1)]=(cP x0 x1):=by kernel_rfl
def wD {R:Type} (cF:Int→Option (Bool)) (c9:Int→Option (Bool)) (k0:Int→Option R) (k1:V3→Int→Option R):Nat→V3→Int→Option R
 | 0,_,_=>none
 | m+1,x0,x1=>(Aq cF c9 (wD cF c9 k0 k1 m) k0 k1 x0 x1)
theorem aa8 (cF) (c9) (h149:(nY cF).holds cl) (h150:(qd c9).holds cl):∀ (m) (x0 x1),iter [0,3] (fun env K=>exec cl N C2 env K) K m (cP x0 x1)=wD cF c9 (fun y0=>K .ret (qn y0)) (fun y0 y1=>K (.exit 0) (cP y0 y1)) m x0 x1:=by
 intro m
 induction m with
 | zero=>intros; rfl
 | succ m ih=>
   intro x0 x1
   simp only [ck,aiU cF c9 h149 h150,cq,cm,ct,Yq,ih]
   rfl
theorem Yr (x0):ak [2,3] (qn x0)=(jM x0):=by kernel_rfl
theorem Ys (x0 x1):ak [2,3] (cP x0 x1)=(ld x1):=by kernel_rfl
def Ar (N:Nat) (cF:Int→Option (Bool)) (c9:Int→Option (Bool)) (k0:Int→Option R) (k1:Int→Option R) (x0:V3) (x1:Int):Option R:=
wD cF c9 k0 (fun y0 y1=>k1 y1) N x0 x1
theorem aiV (cF) (c9) (h149:(nY cF).holds cl) (h150:(qd c9).holds cl) (x0 x1):exec cl N C3 (cP x0 x1) K=(Ar N cF c9 (fun y0=>K .ret (jM y0)) (fun y0=>K (.exit 0) (ld y0)) x0 x1):=by
 simp only [C3,aY,cj,Yp,aa8 cF c9 h149 h150,Yr,Ys]
 rfl
theorem Yt (x0):ak [2,3] (jM x0)=(jM x0):=by kernel_rfl
theorem Yu (x0):ak [2,3] (ld x0)=(ld x0):=by kernel_rfl
def As (k0:Int→Option R) (x0:Int):Option R:=
k0 x0
theorem aiW (x0):exec cl N KQ (ld x0) K=(As (fun y0=>K .ret [(2,.v U2 y0)]) x0):=by
 kernel_rfl
def Av (N:Nat) (cF:Int→Option (Bool)) (c9:Int→Option (Bool)) (k0:Int→Option R) (k1:Int→Option R) (k2:Int→Option R) (x0:V3):Option R:=
(Au cF k0 (Ar N cF c9 k1 ((As k2))) x0)
theorem aiY (cF) (c9) (h149:(nY cF).holds cl) (h150:(qd c9).holds cl) (x0):exec cl N yl [(0,.v .str x0)] K=(Av N cF c9 (fun y0=>K .ret (iX y0)) (fun y0=>K .ret (jM y0)) (fun y0=>K .ret [(2,.v U2 y0)]) x0):=by
 simp only [b6,b9,b8,ca,aiX cF h149,yk,KP,aY,cB,aiV cF c9 h149 h150,cz,cA,cy,Yt,Yu,aiW]
 rfl
theorem aem (y0):ah d141 .ret (iX y0)=some [.v U2 y0]:=by kernel_rfl
theorem aen (y0):ah d141 .ret (jM y0)=some [.v U2 y0]:=by kernel_rfl
theorem aeo (y0):ah d141 .ret [(2,.v U2 y0)]=some [.v U2 y0]:=by kernel_rfl
def uB (N:Nat) (cF:Int→Option (Bool)) (c9:Int→Option (Bool)) (x0:V3) (k:Int→Option R):Option R:=
(Av N cF c9 k k k x0)
theorem Va (cF) (c9) (h149:(nY cF).holds cl) (h150:(qd c9).holds cl) (x0) (k:List E→Option R):exec cl N C1 [(0,.v .str x0)] (fun e env=>(ah d141 e env).bind k)=uB N cF c9 x0 (fun r0=>k [.v U2 r0]):=by
 simp only [C1,aiY cF c9 h149 h150,aem,aen,aeo,ar]
 rfl
def Fp (S:V3→Option (Int)):aO:=cL 141 .str S fun b=> [.v U2 b]
def gJ (N:Nat) (x0:V3):Option (Int):=uB N (cF N) (c9 N) x0 (fun (r0:Int)=>some (r0))
def GW (gJ:V3→Option (Int)) (k0:Bool→Option R) (x0:V3):Option R:=
ad (x0 != ([]:List UInt8)) (ad (decide ((x0.length:Int)≤(20:Int))) ((gJ x0).bind fun r824=>
k0 (r824==(x0.length:Int))) (k0 false)) (k0 false)
theorem ah9 (gJ) (h141:(Fp gJ).holds cl) (x0):exec cl N Kh [(0,.v .str x0)] K=(GW gJ (fun y0=>K .ret [(2,.v .bool y0)]) x0):=by
 rw [←aP h141]
 kernel_rfl
theorem ad4 (y0):ah d121 .ret [(2,.v .bool y0)]=some [.v .bool y0]:=by kernel_rfl
def Aj (gJ:V3→Option (Int)) (x0:V3) (k:Bool→Option R):Option R:=
(GW gJ k x0)
theorem UL (gJ) (h141:(Fp gJ).holds cl) (x0) (k:List E→Option R):exec cl N Cx [(0,.v .str x0)] (fun e env=>(ah d121 e env).bind k)=Aj gJ x0 (fun r0=>k [.v .bool r0]):=by
 simp only [Cx,ah9 gJ h141,ad4,ar]
 rfl
def zI (S:V3→Option (Bool)):aO:=cL 121 .str S fun b=> [.v .bool b]
def eW (N:Nat) (x0:V3):Option (Bool):=Aj (gJ N) x0 (fun (r0:Bool)=>some (r0))
def vT (k0:V0→Option R) (x0:V3):Option R:=
k0 (x0.map fun b=>(b.toNat:Int))
theorem alN (x0):exec cl N zd [(0,.v .str x0)] K=(vT (fun y0=>exec cl N zc (ot y0) K) x0):=by
 delta zd
 generalize zc=q
 revert q
 refine id ?_
 intro q
 kernel_rfl
def vP (k0:V0→Int→Int→Option R) (x0:V0):Option R:=
k0 x0 (x0.length:Int) (0:Int)
theorem alJ (x0):exec cl N M1 (ot x0) K=(vP (fun y0 y1 y2=>K .normal (lf y0 y1 y2)) x0):=by
 kernel_rfl
theorem Rv (x0 x1 x2):ak [3,8,9,10] (lf x0 x1 x2)=(lf x0 x1 x2):=by kernel_rfl
def vQ (k0:V0→Int→Int→Option R) (k1:V0→Int→Int→Option R) (x0:V0) (x1 x2:Int):Option R:=
ad (decide (x2 < x1)) (if 0≤x2∧x2 < (x0.length:Int) then
if x2.toNat < x0.length then
let v843:Int:=(x0.getD x2.toNat (0:Int))
ad (decide (v843≥(65:Int))) (ad (decide (v843≤(90:Int))) (if 0≤x2∧x2 < (x0.length:Int) then
if x2.toNat < x0.length then
k0 (x0.set x2.toNat (IntKind.u8.wrap ((IntKind.u8.wrap (v843 - (65:Int)))+(97:Int)))) x1 (IntKind.i64.wrap (x2+(1:Int)))
else none
else none) (k0 x0 x1 (IntKind.i64.wrap (x2+(1:Int))))) (k0 x0 x1 (IntKind.i64.wrap (x2+(1:Int))))
else none
else none) (k1 x0 x1 x2)
theorem alK (x0 x1 x2):exec cl N EC (lf x0 x1 x2) K=(vQ (fun y0 y1 y2=>K .normal (lf y0 y1 y2)) (fun y0 y1 y2=>K (.exit 0) (lf y0 y1 y2)) x0 x1 x2):=by
 kernel_rfl
def rU {R:Type} (k0:V0→Int→Int→Option R):Nat→V0→Int→Int→Option R
 | 0,_,_,_=>none
 | m+1,x0,x1,x2=>(vQ (rU k0 m) k0 x0 x1 x2)
theorem aby:∀ (m) (x0 x1 x2),iter [3,8,9,10] (fun env K=>exec cl N EC env K) K m (lf x0 x1 x2)=rU (fun y0 y1 y2=>K (.exit 0) (lf y0 y1 y2)) m x0 x1 x2:=by
 intro m
 induction m with
 | zero=>intros; rfl
 | succ m ih=>
   intro x0 x1 x2
   simp only [ck,alK,cq,cm,ct,Rv,ih]
   rfl
theorem ZL (x0 x1 x2):ak [3] (lf x0 x1 x2)=(ot x0):=by kernel_rfl
def vR (N:Nat) (k0:V0→Option R) (x0:V0) (x1 x2:Int):Option R:=
rU (fun y0 y1 y2=>k0 y0) N x0 x1 x2
theorem alL (x0 x1 x2):exec cl N ED (lf x0 x1 x2) K=(vR N (fun y0=>K (.exit 0) (ot y0)) x0 x1 x2):=by
 simp only [ED,aY,cj,Rv,aby,ZL]
 rfl
theorem ZM (x0):ak [3] (ot x0)=(ot x0):=by kernel_rfl
def vS (k0:V3→Option R) (x0:V0):Option R:=
k0 (x0.map fun n=>UInt8.ofNat n.toNat)
theorem alM (x0):exec cl N M5 (ot x0) K=(vS (fun y0=>K .ret [(2,.v .str y0)]) x0):=by
 kernel_rfl
def vU (N:Nat) (k0:V3→Option R) (x0:V3):Option R:=
(vT (vP (vR N ((vS k0)))) x0)
theorem alO (x0):exec cl N zd [(0,.v .str x0)] K=(vU N (fun y0=>K .ret [(2,.v .str y0)]) x0):=by
 simp only [b6,b9,b8,ca,alN,zc,M4,alJ,M3,aY,cB,alL,cz,cA,cy,ZM,alM]
 rfl
theorem afz (y0):ah d72 .ret [(2,.v .str y0)]=some [.v .str y0]:=by kernel_rfl
def rq (N:Nat) (x0:V3) (k:V3→Option R):Option R:=
(vU N k x0)
theorem VO (x0) (k:List E→Option R):exec cl N EB [(0,.v .str x0)] (fun e env=>(ah d72 e env).bind k)=rq N x0 (fun r0=>k [.v .str r0]):=by
 simp only [EB,alO,afz,ar]
 rfl
def ti (S:V3→Option V6):aO:=cL 72 .str S fun b=> [.v .str b]
def dX (N:Nat) (x0:V3):Option V6:=rq N x0 (fun (r0:V3)=>some (r0))
def uS (k0:Int→Option R) (k1:V3→Option R) (x0:V3):Option R:=
ad (decide ((x0.length:Int) > (120:Int))) (k0 (3:Int)) (k1 x0)
theorem ajo (x0):exec cl N yq [(0,.v .str x0)] K=(uS (fun y0=>K .ret (iX y0)) (fun y0=>exec cl N yp (zZ y0) K) x0):=by
 delta yq
 generalize yp=q
 revert q
 refine id ?_
 intro q
 kernel_rfl
def uO (k0:V0→Int→Int→Option R) (x0:V3):Option R:=
k0 (x0.map fun b=>(b.toNat:Int)) ((x0.map fun b=>(b.toNat:Int)).length:Int) (0:Int)
theorem ajk (x0):exec cl N Lb (zZ x0) K=(uO (fun y0 y1 y2=>K .normal (lg y0 y1 y2)) x0):=by
 kernel_rfl
theorem Rc (x0 x1 x2):ak [9,10,11] (lg x0 x1 x2)=(lg x0 x1 x2):=by kernel_rfl
def uP (k0:Int→Option R) (k1:V0→Int→Int→Option R) (k2:V0→Int→Int→Option R) (x0:V0) (x1 x2:Int):Option R:=
ad (decide (x2 < x1)) (if 0≤x2∧x2 < (x0.length:Int) then
if x2.toNat < x0.length then
let v861:Int:=(x0.getD x2.toNat (0:Int))
ad (decide (v861 < (32:Int))) (k0 (2:Int)) (ad (decide (v861 > (126:Int))) (k0 (2:Int)) (k1 x0 x1 (IntKind.i64.wrap (x2+(1:Int)))))
else none
else none) (k2 x0 x1 x2)
theorem ajl (x0 x1 x2):exec cl N Dm (lg x0 x1 x2) K=(uP (fun y0=>K .ret (Gt y0)) (fun y0 y1 y2=>K .normal (lg y0 y1 y2)) (fun y0 y1 y2=>K (.exit 0) (lg y0 y1 y2)) x0 x1 x2):=by
 kernel_rfl
def rK {R:Type} (k0:Int→Option R) (k1:V0→Int→Int→Option R):Nat→V0→Int→Int→Option R
 | 0,_,_,_=>none
 | m+1,x0,x1,x2=>(uP k0 (rK k0 k1 m) k1 x0 x1 x2)
theorem abb:∀ (m) (x0 x1 x2),iter [9,10,11] (fun env K=>exec cl N Dm env K) K m (lg x0 x1 x2)=rK (fun y0=>K .ret (Gt y0)) (fun y0 y1 y2=>K (.exit 0) (lg y0 y1 y2)) m x0 x1 x2:=by
 intro m
 induction m with
 | zero=>intros; rfl
 | succ m ih=>
   intro x0 x1 x2
   simp only [ck,ajl,cq,cm,ct,Rc,ih]
   rfl
theorem YB (x0):ak [2] (Gt x0)=[(2,.v U2 x0)]:=by kernel_rfl
theorem YC (x0 x1 x2):ak [2] (lg x0 x1 x2)=[(2,.dead)]:=by kernel_rfl
def uQ (N:Nat) (k0:Int→Option R) (k1:Option R) (x0:V0) (x1 x2:Int):Option R:=
rK k0 (fun y0 y1 y2=>k1) N x0 x1 x2
theorem ajm (x0 x1 x2):exec cl N Dn (lg x0 x1 x2) K=(uQ N (fun y0=>K .ret [(2,.v U2 y0)]) (K (.exit 0) [(2,.dead)]) x0 x1 x2):=by
 simp only [Dn,aY,cj,Rc,abb,YB,YC]
 rfl
theorem YD (x0):ak [2] [(2,.v U2 x0)]=[(2,.v U2 x0)]:=by kernel_rfl
theorem YE:ak [2] [(2,.dead)]=[(2,.dead)]:=by kernel_rfl
def uR (k0:Int→Option R):Option R:=
k0 (0:Int)
theorem ajn:exec cl N Le [(2,.dead)] K=(uR (fun y0=>K .ret [(2,.v U2 y0)])):=by
 kernel_rfl
def uT (N:Nat) (k0:Int→Option R) (k1:Int→Option R) (x0:V3):Option R:=
(uS k0 (uO (uQ N k1 (uR k1))) x0)
theorem ajp (x0):exec cl N yq [(0,.v .str x0)] K=(uT N (fun y0=>K .ret (iX y0)) (fun y0=>K .ret [(2,.v U2 y0)]) x0):=by
 simp only [b6,b9,b8,ca,ajo,yp,Ld,ajk,Lc,aY,cB,ajm,cz,cA,cy,YD,YE,ajn]
 rfl
theorem aeD (y0):ah d158 .ret (iX y0)=some [.v U2 y0]:=by kernel_rfl
theorem aeE (y0):ah d158 .ret [(2,.v U2 y0)]=some [.v U2 y0]:=by kernel_rfl
def qI (N:Nat) (x0:V3) (k:Int→Option R):Option R:=
(uT N k k x0)
theorem Vn (x0) (k:List E→Option R):exec cl N Dl [(0,.v .str x0)] (fun e env=>(ah d158 e env).bind k)=qI N x0 (fun r0=>k [.v U2 r0]):=by
 simp only [Dl,ajp,aeD,aeE,ar]
 rfl
def zN (S:V3→Option (Int)):aO:=cL 158 .str S fun b=> [.v U2 b]
def fi (N:Nat) (x0:V3):Option (Int):=qI N x0 (fun (r0:Int)=>some (r0))
def O8 (eX:V3→Int→Option (Int)) (k0:Int→Option R) (x0:V3) (x1:Int):Option R:=
(eX x0 x1).bind fun r872=>
k0 r872
theorem aiv (eX) (h145:(jL eX).holds cl) (x0 x1):exec cl N Ky [(0,.v .str x0),(1,.v U0 x1)] K=(O8 eX (fun y0=>K .ret [(4,.v U2 y0)]) x0 x1):=by
 rw [←aP h145]
 kernel_rfl
theorem aec (y0):ah d127 .ret [(4,.v U2 y0)]=some [.v U2 y0]:=by kernel_rfl
def GZ (eX:V3→Int→Option (Int)) (x0:V3) (x1:Int) (k:Int→Option R):Option R:=
(O8 eX k x0 x1)
theorem UR (eX) (h145:(jL eX).holds cl) (x0 x1) (k:List E→Option R):exec cl N CK [(0,.v .str x0),(1,.v U0 x1)] (fun e env=>(ah d127 e env).bind k)=GZ eX x0 x1 (fun r0=>k [.v U2 r0]):=by
 simp only [CK,aiv eX h145,aec,ar]
 rfl
def Fo (S:V3→Int→Option (Int)):aO:=dZ 127 .str U0 S fun b=> [.v U2 b]
def iR (N:Nat) (x0:V3) (x1:Int):Option (Int):=GZ (eX N) x0 x1 (fun (r0:Int)=>some (r0))
def Qr (iR:V3→Int→Option (Int)) (k0:Bool→Option R) (x0:Int):Option R:=
ad (decide (x0≥(32:Int))) (ad (decide (x0≤(126:Int))) ((iR ([32,46,44,59,58,33,63,34,45,91,93,60,62,123,125]:List UInt8) x0).bind fun r877=>
k0 (decide (r877 < (0:Int)))) (k0 false)) (k0 false)
theorem amG (iR) (h127:(Fo iR).holds cl) (x0):exec cl N NJ [(0,.v U0 x0)] K=(Qr iR (fun y0=>K .ret [(2,.v .bool y0)]) x0):=by
 rw [←aP h127]
 kernel_rfl
theorem afW (y0):ah d98 .ret [(2,.v .bool y0)]=some [.v .bool y0]:=by kernel_rfl
def HN (iR:V3→Int→Option (Int)) (x0:Int) (k:Bool→Option R):Option R:=
(Qr iR k x0)
theorem VZ (iR) (h127:(Fo iR).holds cl) (x0) (k:List E→Option R):exec cl N E8 [(0,.v U0 x0)] (fun e env=>(ah d98 e env).bind k)=HN iR x0 (fun r0=>k [.v .bool r0]):=by
 simp only [E8,amG iR h127,afW,ar]
 rfl
def mX (S:Int→Option (Bool)):aO:=cL 98 U0 S fun b=> [.v .bool b]
def bT (N:Nat) (x0:Int):Option (Bool):=HN (iR N) x0 (fun (r0:Bool)=>some (r0))
def uM (fi:V3→Option (Int)) (k0:fU→Int→Option R) (k1:V3→fU→Option R) (x0:V3):Option R:=
(fi x0).bind fun r894=>
ad (r894 != (0:Int)) (k0 [] r894) (k1 x0 [])
theorem aje (fi) (h158:(zN fi).holds cl) (x0):exec cl N yn [(0,.v .str x0)] K=(uM fi (fun y0 y1=>K .ret (Gu y0 y1)) (fun y0 y1=>exec cl N ym [(0,.v .str y0),(5,.own true 179 dK .no y1)] K) x0):=by
 rw [←aP h158]
 delta yn
 generalize ym=q
 revert q
 refine id ?_
 intro q
 kernel_rfl
def uI (k0:fU→V0→Int→Int→Option R) (x0:V3) (x1:fU):Option R:=
k0 x1 (x0.map fun b=>(b.toNat:Int)) ((x0.map fun b=>(b.toNat:Int)).length:Int) (0:Int)
theorem aja (x0 x1):exec cl N K3 [(0,.v .str x0),(5,.own true 179 dK .no x1)] K=(uI (fun y0 y1 y2 y3=>K .normal (lh y0 y1 y2 y3)) x0 x1):=by
 kernel_rfl
theorem Rb (x0 x1 x2 x3):ak [5,15,16,17] (lh x0 x1 x2 x3)=(lh x0 x1 x2 x3):=by kernel_rfl
def uJ (bT:Int→Option (Bool)) (k0:fU→V0→Int→Int→Option R) (k1:fU→V0→Int→Int→Option R) (x0:fU) (x1:V0) (x2 x3:Int):Option R:=
ad (decide (x3 < x2)) (if 0≤x3∧x3 < (x1.length:Int) then
if x3.toNat < x1.length then
(bT (x1.getD x3.toNat (0:Int))).bind fun r898=>
ad (!r898) (k0 x0 x1 x2 (IntKind.i64.wrap (x3+(1:Int)))) (ad (decide ((x0.length:Int) > (0:Int))) (let v901:Int:=(IntKind.i64.wrap ((x0.length:Int) - (1:Int)))
if 0≤v901∧v901 < (x0.length:Int) then
if v901.toNat < x0.length then
ad (((x0.getD v901.toNat ((0:Int),((0:Int),()))).2.1)==x3) (let v903:Int:=(IntKind.i64.wrap ((x0.length:Int) - (1:Int)))
if 0≤v903∧v903 < (x0.length:Int) then
if v903.toNat < x0.length then
if 0≤v903∧v903 < (x0.length:Int) then
if v903.toNat < x0.length then
k0 (x0.set v903.toNat ((x0.getD v903.toNat ((0:Int),((0:Int),()))).1,((IntKind.i64.wrap (((x0.getD v903.toNat ((0:Int),((0:Int),()))).2.1)+(1:Int))),(x0.getD v903.toNat ((0:Int),((0:Int),()))).2.2))) x1 x2 (IntKind.i64.wrap (x3+(1:Int)))
else none
else none
else none
else none) (let v908:sL:=(x3,(IntKind.i64.wrap (x3+(1:Int))),())
if x0.length+[v908].length≤8796093022208 then
k0 (x0++[v908]) x1 x2 (IntKind.i64.wrap (x3+(1:Int)))
else none)
else none
else none) (let v911:sL:=(x3,(IntKind.i64.wrap (x3+(1:Int))),())
if x0.length+[v911].length≤8796093022208 then
k0 (x0++[v911]) x1 x2 (IntKind.i64.wrap (x3+(1:Int)))
else none))
else none
else none) (k1 x0 x1 x2 x3)
theorem ajb (bT) (h98:(mX bT).holds cl) (x0 x1 x2 x3):exec cl N Df (lh x0 x1 x2 x3) K=(uJ bT (fun y0 y1 y2 y3=>K .normal (lh y0 y1 y2 y3)) (fun y0 y1 y2 y3=>K (.exit 0) (lh y0 y1 y2 y3)) x0 x1 x2 x3):=by
 rw [←aP h98]
 kernel_rfl
def o6 {R:Type} (bT:Int→Option (Bool)) (k0:fU→V0→Int→Int→Option R):Nat→fU→V0→Int→Int→Option R
 | 0,_,_,_,_=>none
 | m+1,x0,x1,x2,x3=>(uJ bT (o6 bT k0 m) k0 x0 x1 x2 x3)
theorem aba (bT) (h98:(mX bT).holds cl):∀ (m) (x0 x1 x2 x3),iter [5,15,16,17] (fun env K=>exec cl N Df env K) K m (lh x0 x1 x2 x3)=o6 bT (fun y0 y1 y2 y3=>K (.exit 0) (lh y0 y1 y2 y3)) m x0 x1 x2 x3:=by
 intro m
 induction m with
 | zero=>intros; rfl
 | succ m ih=>
   intro x0 x1 x2 x3
   simp only [ck,ajb bT h98,cq,cm,ct,Rb,ih]
   rfl
theorem Yz (x0 x1 x2 x3):ak [5] (lh x0 x1 x2 x3)=(tw x0):=by kernel_rfl
def uK (N:Nat) (bT:Int→Option (Bool)) (k0:fU→Option R) (x0:fU) (x1:V0) (x2 x3:Int):Option R:=
o6 bT (fun y0 y1 y2 y3=>k0 y0) N x0 x1 x2 x3
theorem ajc (bT) (h98:(mX bT).holds cl) (x0 x1 x2 x3):exec cl N Dg (lh x0 x1 x2 x3) K=(uK N bT (fun y0=>K (.exit 0) (tw y0)) x0 x1 x2 x3):=by
 simp only [Dg,aY,cj,Rb,aba bT h98,Yz]
 rfl
theorem YA (x0):ak [5] (tw x0)=(tw x0):=by kernel_rfl
def uL (k0:Int→fU→Option R) (x0:fU):Option R:=
k0 (0:Int) x0
theorem ajd (x0):exec cl N K6 (tw x0) K=(uL (fun y0 y1=>K .ret (Gv y0 y1)) x0):=by
 kernel_rfl
def uN (N:Nat) (bT:Int→Option (Bool)) (fi:V3→Option (Int)) (k0:fU→Int→Option R) (k1:Int→fU→Option R) (x0:V3):Option R:=
(uM fi k0 (uI (uK N bT ((uL k1)))) x0)
theorem ajf (bT) (fi) (h98:(mX bT).holds cl) (h158:(zN fi).holds cl) (x0):exec cl N yn [(0,.v .str x0)] K=(uN N bT fi (fun y0 y1=>K .ret (Gu y0 y1)) (fun y0 y1=>K .ret (Gv y0 y1)) x0):=by
 simp only [b6,b9,b8,ca,aje fi h158,ym,K5,aja,K4,aY,cB,ajc bT h98,cz,cA,cy,YA,ajd]
 rfl
theorem aew (y0 y1):ah d151 .ret (Gu y0 y1)=some [.own true 179 dK .no y0,.v U2 y1]:=by kernel_rfl
theorem aex (y0 y1):ah d151 .ret (Gv y0 y1)=some [.own true 179 dK .no y1,.v U2 y0]:=by kernel_rfl
def qH (N:Nat) (bT:Int→Option (Bool)) (fi:V3→Option (Int)) (x0:V3) (k:fU→Int→Option R):Option R:=
(uN N bT fi k (fun y0 y1=>k y1 y0) x0)
theorem Vi (bT) (fi) (h98:(mX bT).holds cl) (h158:(zN fi).holds cl) (x0) (k:List E→Option R):exec cl N De [(0,.v .str x0)] (fun e env=>(ah d151 e env).bind k)=qH N bT fi x0 (fun r0 r1=>k [.own true 179 dK .no r0,.v U2 r1]):=by
 simp only [De,ajf bT fi h98 h158,aew,aex,ar]
 rfl
def Ft (S:V3→Option xy):aO:=cL 151 .str S fun b=> [.own true 179 dK .no b.1,.v U2 b.2]
def iq (N:Nat) (x0:V3):Option xy:=qH N (bT N) (fi N) x0 (fun (r0:fU) (r1:Int)=>some (r0,r1))
def Ha (dX:V3→Option V6) (iq:V3→Option xy) (k0:Int→Option R) (k1:Int→Option R) (x0:V3):Option R:=
ad (x0==([]:List UInt8)) (k0 (7:Int)) (ad (decide ((x0.length:Int) > (4:Int))) (k0 (3:Int)) ((dX x0).bind fun r922=>
ad (r922 != x0) (k0 (2:Int)) ((iq x0).bind fun r923=>
ad (r923.2 != (0:Int)) (k1 (2:Int)) (ad ((r923.1.length:Int) != (1:Int)) (k1 (2:Int)) (if 0≤(0:Int)∧(0:Int) < (r923.1.length:Int) then
if ((0:Int).toNat) < r923.1.length then
if 0≤(0:Int)∧(0:Int) < (r923.1.length:Int) then
if ((0:Int).toNat) < r923.1.length then
ad ((IntKind.i64.wrap (((r923.1.getD ((0:Int).toNat) ((0:Int),((0:Int),()))).2.1) - ((r923.1.getD ((0:Int).toNat) ((0:Int),((0:Int),()))).1))) != (x0.length:Int)) (k1 (2:Int)) (k1 (0:Int))
else none
else none
else none
else none)))))
theorem aiZ (dX) (iq) (h72:(ti dX).holds cl) (h151:(Ft iq).holds cl) (x0):exec cl N KR [(0,.v .str x0)] K=(Ha dX iq (fun y0=>K .ret (iX y0)) (fun y0=>K .ret [(2,.v U2 y0)]) x0):=by
 rw [←aP h72]
 rw [←aP h151]
 kernel_rfl
theorem aep (y0):ah d142 .ret (iX y0)=some [.v U2 y0]:=by kernel_rfl
theorem aeq (y0):ah d142 .ret [(2,.v U2 y0)]=some [.v U2 y0]:=by kernel_rfl
def Aw (dX:V3→Option V6) (iq:V3→Option xy) (x0:V3) (k:Int→Option R):Option R:=
(Ha dX iq k k x0)
theorem Vb (dX) (iq) (h72:(ti dX).holds cl) (h151:(Ft iq).holds cl) (x0) (k:List E→Option R):exec cl N C4 [(0,.v .str x0)] (fun e env=>(ah d142 e env).bind k)=Aw dX iq x0 (fun r0=>k [.v U2 r0]):=by
 simp only [C4,aiZ dX iq h72 h151,aep,aeq,ar]
 rfl
def zL (S:V3→Option (Int)):aO:=cL 142 .str S fun b=> [.v U2 b]
def fh (N:Nat) (x0:V3):Option (Int):=Aw (dX N) (iq N) x0 (fun (r0:Int)=>some (r0))
def Hf (k0:Bool→Option R) (k1:Bool→Option R) (x0:aN):Option R:=
ad (x0.1==(1:Int)) (ad (decide (x0.2.1≥(1:Int))) (k0 (decide (x0.2.1≤(3:Int)))) (k0 false)) (ad (x0.1==(2:Int)) (k0 (x0.2.1==(2:Int))) (k1 (x0.2.1==(0:Int))))
theorem ajg (x0):exec cl N K7 [(0,.v aA x0)] K=(Hf (fun y0=>K .ret [(1,.dead),(2,.v .bool y0)]) (fun y0=>K .ret [(2,.v .bool y0)]) x0):=by
 kernel_rfl
theorem aey (y0):ah d152 .ret [(1,.dead),(2,.v .bool y0)]=some [.v .bool y0]:=by kernel_rfl
theorem aez (y0):ah d152 .ret [(2,.v .bool y0)]=some [.v .bool y0]:=by kernel_rfl
def AA (x0:aN) (k:Bool→Option R):Option R:=
(Hf k k x0)
theorem Vj (x0) (k:List E→Option R):exec cl N Dh [(0,.v aA x0)] (fun e env=>(ah d152 e env).bind k)=AA x0 (fun r0=>k [.v .bool r0]):=by
 simp only [Dh,ajg,aey,aez,ar]
 rfl
def Fu (S:aN→Option (Bool)):aO:=cL 152 aA S fun b=> [.v .bool b]
def gK (N:Nat) (x0:aN):Option (Bool):=AA x0 (fun (r0:Bool)=>some (r0))
def Hi (k0:Bool→Option R) (x0:Int):Option R:=
ad (decide (x0≥(97:Int))) (ad (decide (x0≤(122:Int))) (k0 true) (ad (decide (x0≥(48:Int))) (ad (decide (x0≤(57:Int))) (k0 true) (ad (x0==(95:Int)) (k0 true) (ad (x0==(94:Int)) (k0 true) (k0 (x0==(39:Int)))))) (ad (x0==(95:Int)) (k0 true) (ad (x0==(94:Int)) (k0 true) (k0 (x0==(39:Int))))))) (ad (decide (x0≥(48:Int))) (ad (decide (x0≤(57:Int))) (k0 true) (ad (x0==(95:Int)) (k0 true) (ad (x0==(94:Int)) (k0 true) (k0 (x0==(39:Int)))))) (ad (x0==(95:Int)) (k0 true) (ad (x0==(94:Int)) (k0 true) (k0 (x0==(39:Int))))))
theorem ajj (x0):exec cl N La [(0,.v U3 x0)] K=(Hi (fun y0=>K .ret [(2,.v .bool y0)]) x0):=by
 kernel_rfl
theorem aeC (y0):ah d155 .ret [(2,.v .bool y0)]=some [.v .bool y0]:=by kernel_rfl
def AE (x0:Int) (k:Bool→Option R):Option R:=
(Hi k x0)
theorem Vm (x0) (k:List E→Option R):exec cl N Dk [(0,.v U3 x0)] (fun e env=>(ah d155 e env).bind k)=AE x0 (fun r0=>k [.v .bool r0]):=by
 simp only [Dk,ajj,aeC,ar]
 rfl
def Fy (S:Int→Option (Bool)):aO:=cL 155 U3 S fun b=> [.v .bool b]
def gN (N:Nat) (x0:Int):Option (Bool):=AE x0 (fun (r0:Bool)=>some (r0))
def Hh (gN:Int→Option (Bool)) (k0:Bool→Option R) (x0:Int):Option R:=
(gN x0).bind fun r989=>
k0 (!r989)
theorem aji (gN) (h155:(Fy gN).holds cl) (x0):exec cl N K9 [(0,.v U3 x0)] K=(Hh gN (fun y0=>K .ret [(2,.v .bool y0)]) x0):=by
 rw [←aP h155]
 kernel_rfl
theorem aeB (y0):ah d154 .ret [(2,.v .bool y0)]=some [.v .bool y0]:=by kernel_rfl
def AD (gN:Int→Option (Bool)) (x0:Int) (k:Bool→Option R):Option R:=
(Hh gN k x0)
theorem Vl (gN) (h155:(Fy gN).holds cl) (x0) (k:List E→Option R):exec cl N Dj [(0,.v U3 x0)] (fun e env=>(ah d154 e env).bind k)=AD gN x0 (fun r0=>k [.v .bool r0]):=by
 simp only [Dj,aji gN h155,aeB,ar]
 rfl
def Fx (S:Int→Option (Bool)):aO:=cL 154 U3 S fun b=> [.v .bool b]
def gM (N:Nat) (x0:Int):Option (Bool):=AD (gN N) x0 (fun (r0:Bool)=>some (r0))
def u0 (k0:V3→bR→Bool→Option R) (x0:V3) (x1:bR) (x2:Bool):Option R:=
k0 x0 x1 x2
theorem ajx (x0 x1 x2):exec cl N Lk (tx x0 x1 x2) K=(u0 (fun y0 y1 y2=>K .normal (tx y0 y1 y2)) x0 x1 x2):=by
 kernel_rfl
def u6 (k0:bR→Bool→V3→Nat→Option R) (x0:V3) (x1:bR) (x2:Bool):Option R:=
k0 x1 x2 x0 (0:Nat)
theorem ajy (x0 x1 x2):exec cl N Ll (tx x0 x1 x2) K=(u6 (fun y0 y1 y2 y3=>K .normal (ou y0 y1 y2 y3)) x0 x1 x2):=by
 kernel_rfl
theorem YJ (x0 x1 x2 x3):ak [1,2,10] (ou x0 x1 x2 x3)=(ou x0 x1 x2 x3):=by kernel_rfl
def u7 (k0:Int→Option R) (k1:bR→Bool→V3→Nat→Option R) (k2:bR→Bool→V3→Nat→Bool→Option R) (x0:bR) (x1:Bool) (x2:V3) (x3:Nat):Option R:=
ad (decide (x3 < x2.length)) ((x0 ((((Utf8.decode ⟨⟨x2⟩⟩ x3).1:Nat):Int),())).bind fun r995=>
ad (r995==x1) (k0 ((x3:Nat):Int)) (k1 x0 x1 x2 (x3+(Utf8.decode ⟨⟨x2⟩⟩ x3).2))) (k2 x0 x1 x2 x3 false)
theorem ajz (x0 x1 x2 x3):exec cl N Du (ou x0 x1 x2 x3) K=(u7 (fun y0=>K .ret (Gw y0)) (fun y0 y1 y2 y3=>K .normal [(1,.v lZ y0),(2,.v .bool y1),(6,.dead),(10,.it y2 y3)]) (fun y0 y1 y2 y3 y4=>K (.exit 0) (Gx y0 y1 y2 y3 y4)) x0 x1 x2 x3):=by
 kernel_rfl
theorem YK (x0 x1 x2 x3):ak [1,2,10] [(1,.v lZ x0),(2,.v .bool x1),(6,.dead),(10,.it x2 x3)]=(ou x0 x1 x2 x3):=by kernel_rfl
def rM {R:Type} (k0:Int→Option R) (k1:bR→Bool→V3→Nat→Bool→Option R):Nat→bR→Bool→V3→Nat→Option R
 | 0,_,_,_,_=>none
 | m+1,x0,x1,x2,x3=>(u7 k0 (rM k0 k1 m) k1 x0 x1 x2 x3)
theorem abd:∀ (m) (x0 x1 x2 x3),iter [1,2,10] (fun env K=>exec cl N Du env K) K m (ou x0 x1 x2 x3)=rM (fun y0=>K .ret (Gw y0)) (fun y0 y1 y2 y3 y4=>K (.exit 0) (Gx y0 y1 y2 y3 y4)) m x0 x1 x2 x3:=by
 intro m
 induction m with
 | zero=>intros; rfl
 | succ m ih=>
   intro x0 x1 x2 x3
   simp only [ck,ajz,cq,cm,ct,YK,ih]
   rfl
theorem YL (x0):ak [6] (Gw x0)=[(6,.v U2 x0)]:=by kernel_rfl
theorem YM (x0 x1 x2 x3 x4):ak [6] (Gx x0 x1 x2 x3 x4)=[(6,.dead)]:=by kernel_rfl
def va (N:Nat) (k0:Int→Option R) (k1:Option R) (x0:bR) (x1:Bool) (x2:V3) (x3:Nat):Option R:=
rM k0 (fun y0 y1 y2 y3 y4=>k1) N x0 x1 x2 x3
theorem ajA (x0 x1 x2 x3):exec cl N Dv (ou x0 x1 x2 x3) K=(va N (fun y0=>K .ret [(6,.v U2 y0)]) (K (.exit 0) [(6,.dead)]) x0 x1 x2 x3):=by
 simp only [Dv,aY,cj,YJ,abd,YL,YM]
 rfl
theorem YN (x0):ak [6] [(6,.v U2 x0)]=[(6,.v U2 x0)]:=by kernel_rfl
theorem YO:ak [6] [(6,.dead)]=[(6,.dead)]:=by kernel_rfl
def vb (k0:Int→Option R):Option R:=
k0 (-1:Int)
theorem ajB:exec cl N Lo [(6,.dead)] K=(vb (fun y0=>K .ret [(6,.v U2 y0)])):=by
 kernel_rfl
def vc (N:Nat) (k0:Int→Option R) (x0:V3) (x1:bR) (x2:Bool):Option R:=
(u0 (u6 (va N k0 (vb k0))) x0 x1 x2)
theorem ajC (x0 x1 x2):exec cl N Dw (tx x0 x1 x2) K=(vc N (fun y0=>K .ret [(6,.v U2 y0)]) x0 x1 x2):=by
 simp only [Dw,b6,b9,b8,ca,ajx,Lp,Ln,ajy,Lm,aY,cB,ajA,cz,cA,cy,YN,YO,ajB]
 rfl
theorem aeI (y0):ah d160 .ret [(6,.v U2 y0)]=some [.v U2 y0]:=by kernel_rfl
def qJ (N:Nat) (x0:V3) (x1:bR) (x2:Bool) (k:Int→Option R):Option R:=
(vc N k x0 x1 x2)
theorem Vq (x0 x1 x2) (k:List E→Option R):exec cl N Dt (tx x0 x1 x2) (fun e env=>(ah d160 e env).bind k)=qJ N x0 x1 x2 (fun r0=>k [.v U2 r0]):=by
 simp only [Dt,ajC,aeI,ar]
 rfl
def FB (S:V3→bR→Bool→Option (Int)):aO:=Uc 160 .str lZ .bool S fun b=> [.v U2 b]
def gP (N:Nat) (x0:V3) (x1:bR) (x2:Bool):Option (Int):=qJ N x0 x1 x2 (fun (r0:Int)=>some (r0))
def Hj (gP:V3→bR→Bool→Option (Int)) (k0:Int→Option R) (x0:V3) (x1:bR):Option R:=
(gP x0 x1 true).bind fun r997=>
k0 r997
theorem ajq (gP) (h160:(FB gP).holds cl) (x0 x1):exec cl N Lf (Ab x0 x1) K=(Hj gP (fun y0=>K .ret [(4,.v U2 y0)]) x0 x1):=by
 rw [←aP h160]
 kernel_rfl
theorem aeF (y0):ah d159 .ret [(4,.v U2 y0)]=some [.v U2 y0]:=by kernel_rfl
def AF (gP:V3→bR→Bool→Option (Int)) (x0:V3) (x1:bR) (k:Int→Option R):Option R:=
(Hj gP k x0 x1)
theorem Vo (gP) (h160:(FB gP).holds cl) (x0 x1) (k:List E→Option R):exec cl N Dp (Ab x0 x1) (fun e env=>(ah d159 e env).bind k)=AF gP x0 x1 (fun r0=>k [.v U2 r0]):=by
 simp only [Dp,ajq gP h160,aeF,ar]
 rfl
def FA (S:V3→bR→Option (Int)):aO:=dZ 159 .str lZ S fun b=> [.v U2 b]
def gO (N:Nat) (x0:V3) (x1:bR):Option (Int):=AF (gP N) x0 x1 (fun (r0:Int)=>some (r0))
def Hg (gO:V3→bR→Option (Int)) (k0:Bool→Option R) (x0:V3) (x1:bR):Option R:=
(gO x0 x1).bind fun r1000=>
k0 (decide (r1000≥(0:Int)))
theorem ajh (gO) (h159:(FA gO).holds cl) (x0 x1):exec cl N K8 (Ab x0 x1) K=(Hg gO (fun y0=>K .ret [(4,.v .bool y0)]) x0 x1):=by
 rw [←aP h159]
 kernel_rfl
theorem aeA (y0):ah d153 .ret [(4,.v .bool y0)]=some [.v .bool y0]:=by kernel_rfl
def AB (gO:V3→bR→Option (Int)) (x0:V3) (x1:bR) (k:Bool→Option R):Option R:=
(Hg gO k x0 x1)
theorem Vk (gO) (h159:(FA gO).holds cl) (x0 x1) (k:List E→Option R):exec cl N Di (Ab x0 x1) (fun e env=>(ah d153 e env).bind k)=AB gO x0 x1 (fun r0=>k [.v .bool r0]):=by
 simp only [Di,ajh gO h159,aeA,ar]
 rfl
def Fv (S:V3→bR→Option (Bool)):aO:=dZ 153 .str lZ S fun b=> [.v .bool b]
def gL (N:Nat) (x0:V3) (x1:bR):Option (Bool):=AB (gO N) x0 x1 (fun (r0:Bool)=>some (r0))
def Hb (gK:aN→Option (Bool)) (gL:V3→bR→Option (Bool)) (gM:Int→Option (Bool)) (k0:Int→Option R) (x0:aN):Option R:=
ad (decide (x0.1 < (1:Int))) (k0 (1:Int)) (ad (decide (x0.1 > (9:Int))) (k0 (1:Int)) ((gK x0).bind fun r1005=>
ad (!r1005) (k0 (6:Int)) (ad (x0.2.2.1==([]:List UInt8)) (k0 (7:Int)) (ad (decide ((x0.2.2.1.length:Int) > (8:Int))) (k0 (3:Int)) ((gL x0.2.2.1 (fun (x1008:V4)=>((gM x1008.1).bind fun b1009=>some [.v .bool b1009]).bind (jA .bool))).bind fun r1010=>
ad r1010 (k0 (2:Int)) (k0 (0:Int)))))))
theorem ai0 (gK) (gL) (gM) (h152:(Fu gK).holds cl) (h153:(Fv gL).holds cl) (h154:(Fx gM).holds cl) (x0):exec cl N KS [(0,.v aA x0)] K=(Hb gK gL gM (fun y0=>K .ret [(2,.v U2 y0)]) x0):=by
 rw [←aP h152]
 rw [←aP h153]
 rw [←aP h154]
 kernel_rfl
theorem aer (y0):ah d143 .ret [(2,.v U2 y0)]=some [.v U2 y0]:=by kernel_rfl
def Ax (gK:aN→Option (Bool)) (gL:V3→bR→Option (Bool)) (gM:Int→Option (Bool)) (x0:aN) (k:Int→Option R):Option R:=
(Hb gK gL gM k x0)
theorem Vc (gK) (gL) (gM) (h152:(Fu gK).holds cl) (h153:(Fv gL).holds cl) (h154:(Fx gM).holds cl) (x0) (k:List E→Option R):exec cl N C5 [(0,.v aA x0)] (fun e env=>(ah d143 e env).bind k)=Ax gK gL gM x0 (fun r0=>k [.v U2 r0]):=by
 simp only [C5,ai0 gK gL gM h152 h153 h154,aer,ar]
 rfl
def qc (S:aN→Option (Int)):aO:=cL 143 aA S fun b=> [.v U2 b]
def de (N:Nat) (x0:aN):Option (Int):=Ax (gK N) (gL N) (gM N) x0 (fun (r0:Int)=>some (r0))
def ug (fh:V3→Option (Int)) (k0:Int→Option R) (k1:aT→Option R) (x0:aT):Option R:=
(fh x0.1).bind fun r1018=>
ad (r1018 != (0:Int)) (k0 r1018) (ad ((x0.2.1.length:Int)==(0:Int)) (k0 (7:Int)) (ad (decide ((x0.2.1.length:Int) > (2:Int))) (k0 (3:Int)) (k1 x0)))
theorem aie (fh) (h142:(zL fh).holds cl) (x0):exec cl N ya [(0,.v aG x0)] K=(ug fh (fun y0=>K .ret (e7 y0)) (fun y0=>exec cl N xZ (iY y0) K) x0):=by
 rw [←aP h142]
 delta ya
 generalize xZ=q
 revert q
 refine id ?_
 intro q
 kernel_rfl
def uc (k0:aT→aB→Int→Int→Option R) (x0:aT):Option R:=
k0 x0 x0.2.1 (x0.2.1.length:Int) (0:Int)
theorem aia (x0):exec cl N Ki (iY x0) K=(uc (fun y0 y1 y2 y3=>K .normal (lj y0 y1 y2 y3)) x0):=by
 kernel_rfl
theorem Q4 (x0 x1 x2 x3):ak [1,22,23,24] (lj x0 x1 x2 x3)=(lj x0 x1 x2 x3):=by kernel_rfl
def ud (de:aN→Option (Int)) (k0:Int→Option R) (k1:aT→aB→Int→Int→Option R) (k2:aT→aB→Int→Int→Option R) (x0:aT) (x1:aB) (x2 x3:Int):Option R:=
ad (decide (x3 < x2)) (if 0≤x3∧x3 < (x1.length:Int) then
(de (x1.getD x3.toNat ((0:Int),((0:Int),([],()))))).bind fun r1023=>
ad (r1023 != (0:Int)) (k0 r1023) (k1 x0 x1 x2 (IntKind.i64.wrap (x3+(1:Int))))
else none) (k2 x0 x1 x2 x3)
theorem aib (de) (h143:(qc de).holds cl) (x0 x1 x2 x3):exec cl N Cz (lj x0 x1 x2 x3) K=(ud de (fun y0=>K .ret (Gy y0)) (fun y0 y1 y2 y3=>K .normal (lj y0 y1 y2 y3)) (fun y0 y1 y2 y3=>K (.exit 0) (lj y0 y1 y2 y3)) x0 x1 x2 x3):=by
 rw [←aP h143]
 kernel_rfl
def rI {R:Type} (de:aN→Option (Int)) (k0:Int→Option R) (k1:aT→aB→Int→Int→Option R):Nat→aT→aB→Int→Int→Option R
 | 0,_,_,_,_=>none
 | m+1,x0,x1,x2,x3=>(ud de k0 (rI de k0 k1 m) k1 x0 x1 x2 x3)
theorem aa1 (de) (h143:(qc de).holds cl):∀ (m) (x0 x1 x2 x3),iter [1,22,23,24] (fun env K=>exec cl N Cz env K) K m (lj x0 x1 x2 x3)=rI de (fun y0=>K .ret (Gy y0)) (fun y0 y1 y2 y3=>K (.exit 0) (lj y0 y1 y2 y3)) m x0 x1 x2 x3:=by
 intro m
 induction m with
 | zero=>intros; rfl
 | succ m ih=>
   intro x0 x1 x2 x3
   simp only [ck,aib de h143,cq,cm,ct,Q4,ih]
   rfl
theorem X7 (x0):ak [1,2] (Gy x0)=(e7 x0):=by kernel_rfl
theorem X8 (x0 x1 x2 x3):ak [1,2] (lj x0 x1 x2 x3)=(iY x0):=by kernel_rfl
def ue (N:Nat) (de:aN→Option (Int)) (k0:Int→Option R) (k1:aT→Option R) (x0:aT) (x1:aB) (x2 x3:Int):Option R:=
rI de k0 (fun y0 y1 y2 y3=>k1 y0) N x0 x1 x2 x3
theorem aic (de) (h143:(qc de).holds cl) (x0 x1 x2 x3):exec cl N CA (lj x0 x1 x2 x3) K=(ue N de (fun y0=>K .ret (e7 y0)) (fun y0=>K (.exit 0) (iY y0)) x0 x1 x2 x3):=by
 simp only [CA,aY,cj,Q4,aa1 de h143,X7,X8]
 rfl
theorem X9 (x0):ak [1,2] (e7 x0)=(e7 x0):=by kernel_rfl
theorem Ya (x0):ak [1,2] (iY x0)=(iY x0):=by kernel_rfl
def uf (k0:Int→Option R) (x0:aT):Option R:=
ad (decide (x0.2.2.1 < (0:Int))) (k0 (6:Int)) (ad (decide (x0.2.2.1 > (99:Int))) (k0 (6:Int)) (ad (decide (x0.2.2.2.1 < (0:Int))) (k0 (6:Int)) (ad (decide (x0.2.2.2.1 > (4:Int))) (k0 (6:Int)) (k0 (0:Int)))))
theorem aid (x0):exec cl N Kl (iY x0) K=(uf (fun y0=>K .ret [(2,.v U2 y0)]) x0):=by
 kernel_rfl
def uh (N:Nat) (fh:V3→Option (Int)) (de:aN→Option (Int)) (k0:Int→Option R) (k1:Int→Option R) (x0:aT):Option R:=
(ug fh k0 (uc (ue N de k0 ((uf k1)))) x0)
theorem aif (fh) (de) (h142:(zL fh).holds cl) (h143:(qc de).holds cl) (x0):exec cl N ya [(0,.v aG x0)] K=(uh N fh de (fun y0=>K .ret (e7 y0)) (fun y0=>K .ret [(2,.v U2 y0)]) x0):=by
 simp only [b6,b9,b8,ca,aie fh h142,xZ,Kk,aia,Kj,aY,cB,aic de h143,cz,cA,cy,X9,Ya,aid]
 rfl
theorem ad5 (y0):ah d122 .ret (e7 y0)=some [.v U2 y0]:=by kernel_rfl
theorem ad6 (y0):ah d122 .ret [(2,.v U2 y0)]=some [.v U2 y0]:=by kernel_rfl
def qD (N:Nat) (fh:V3→Option (Int)) (de:aN→Option (Int)) (x0:aT) (k:Int→Option R):Option R:=
(uh N fh de k k x0)
theorem UM (fh) (de) (h142:(zL fh).holds cl) (h143:(qc de).holds cl) (x0) (k:List E→Option R):exec cl N Cy [(0,.v aG x0)] (fun e env=>(ah d122 e env).bind k)=qD N fh de x0 (fun r0=>k [.v U2 r0]):=by
 simp only [Cy,aif fh de h142 h143,ad5,ad6,ar]
 rfl
def p7 (S:aT→Option (Int)):aO:=cL 122 aG S fun b=> [.v U2 b]
def c7 (N:Nat) (x0:aT):Option (Int):=qD N (fh N) (de N) x0 (fun (r0:Int)=>some (r0))
def ur (k0:Bool→Option R) (k1:aB→aB→Option R) (x0 x1:aB):Option R:=
ad ((x0.length:Int) != (x1.length:Int)) (k0 false) (k1 x0 x1)
theorem ain (x0 x1):exec cl N yc (qo x0 x1) K=(ur (fun y0=>K .ret (iA y0)) (fun y0 y1=>exec cl N yb (z7 y0 y1) K) x0 x1):=by
 delta yc
 generalize yb=q
 revert q
 refine id ?_
 intro q
 kernel_rfl
def ui (k0:aB→aB→Int→Int→Option R) (x0 x1:aB):Option R:=
k0 x0 x1 (x0.length:Int) (0:Int)
theorem aij (x0 x1):exec cl N Ko (z7 x0 x1) K=(ui (fun y0 y1 y2 y3=>K .normal (ll y0 y1 y2 y3)) x0 x1):=by
 kernel_rfl
theorem Q5 (x0 x1 x2 x3):ak [0,1,12,13] (ll x0 x1 x2 x3)=(ll x0 x1 x2 x3):=by kernel_rfl
def uj (k0:Bool→Option R) (k1:aB→aB→Int→Int→Option R) (k2:aB→aB→Int→Int→Option R) (x0 x1:aB) (x2 x3:Int):Option R:=
ad (decide (x3 < x2)) (if 0≤x3∧x3 < (x0.length:Int) then
if 0≤x3∧x3 < (x1.length:Int) then
ad (!(((x0.getD x3.toNat ((0:Int),((0:Int),([],())))).1==(x1.getD x3.toNat ((0:Int),((0:Int),([],())))).1)&&(((x0.getD x3.toNat ((0:Int),((0:Int),([],())))).2.1==(x1.getD x3.toNat ((0:Int),((0:Int),([],())))).2.1)&&(((x0.getD x3.toNat ((0:Int),((0:Int),([],())))).2.2.1==(x1.getD x3.toNat ((0:Int),((0:Int),([],())))).2.2.1)&&true)))) (k0 false) (k1 x0 x1 x2 (IntKind.i64.wrap (x3+(1:Int))))
else none
else none) (k2 x0 x1 x2 x3)
theorem aik (x0 x1 x2 x3):exec cl N CE (ll x0 x1 x2 x3) K=(uj (fun y0=>K .ret (qq y0)) (fun y0 y1 y2 y3=>K .normal (ll y0 y1 y2 y3)) (fun y0 y1 y2 y3=>K (.exit 0) (ll y0 y1 y2 y3)) x0 x1 x2 x3):=by
 kernel_rfl
def rJ {R:Type} (k0:Bool→Option R) (k1:aB→aB→Int→Int→Option R):Nat→aB→aB→Int→Int→Option R
 | 0,_,_,_,_=>none
 | m+1,x0,x1,x2,x3=>(uj k0 (rJ k0 k1 m) k1 x0 x1 x2 x3)
theorem aa2:∀ (m) (x0 x1 x2 x3),iter [0,1,12,13] (fun env K=>exec cl N CE env K) K m (ll x0 x1 x2 x3)=rJ (fun y0=>K .ret (qq y0)) (fun y0 y1 y2 y3=>K (.exit 0) (ll y0 y1 y2 y3)) m x0 x1 x2 x3:=by
 intro m
 induction m with
 | zero=>intros; rfl
 | succ m ih=>
   intro x0 x1 x2 x3
   simp only [ck,aik,cq,cm,ct,Q5,ih]
   rfl
theorem Yb (x0):ak [4] (qq x0)=[(4,.v .bool x0)]:=by kernel_rfl
theorem Yc (x0 x1 x2 x3):ak [4] (ll x0 x1 x2 x3)=[(4,.dead)]:=by kernel_rfl
def uk (N:Nat) (k0:Bool→Option R) (k1:Option R) (x0 x1:aB) (x2 x3:Int):Option R:=
rJ k0 (fun y0 y1 y2 y3=>k1) N x0 x1 x2 x3
theorem ail (x0 x1 x2 x3):exec cl N CF (ll x0 x1 x2 x3) K=(uk N (fun y0=>K .ret [(4,.v .bool y0)]) (K (.exit 0) [(4,.dead)]) x0 x1 x2 x3):=by
 simp only [CF,aY,cj,Q5,aa2,Yb,Yc]
 rfl
theorem Yd (x0):ak [4] [(4,.v .bool x0)]=[(4,.v .bool x0)]:=by kernel_rfl
theorem Ye:ak [4] [(4,.dead)]=[(4,.dead)]:=by kernel_rfl
def uq (k0:Bool→Option R):Option R:=
k0 true
theorem aim:exec cl N Kr [(4,.dead)] K=(uq (fun y0=>K .ret [(4,.v .bool y0)])):=by
 kernel_rfl
def uu (N:Nat) (k0:Bool→Option R) (k1:Bool→Option R) (x0 x1:aB):Option R:=
(ur k0 (ui (uk N k1 (uq k1))) x0 x1)
theorem aio (x0 x1):exec cl N yc (qo x0 x1) K=(uu N (fun y0=>K .ret (iA y0)) (fun y0=>K .ret [(4,.v .bool y0)]) x0 x1):=by
 simp only [b6,b9,b8,ca,ain,yb,Kq,aij,Kp,aY,cB,ail,cz,cA,cy,Yd,Ye,aim]
 rfl
theorem ad9 (y0):ah d125 .ret (iA y0)=some [.v .bool y0]:=by kernel_rfl
theorem aea (y0):ah d125 .ret [(4,.v .bool y0)]=some [.v .bool y0]:=by kernel_rfl
def qE (N:Nat) (x0 x1:aB) (k:Bool→Option R):Option R:=
(uu N k k x0 x1)
theorem UP (x0 x1) (k:List E→Option R):exec cl N CD (qo x0 x1) (fun e env=>(ah d125 e env).bind k)=qE N x0 x1 (fun r0=>k [.v .bool r0]):=by
 simp only [CD,aio,ad9,aea,ar]
 rfl
def Fl (S:aB→aB→Option (Bool)):aO:=dZ 125 bD bD S fun b=> [.v .bool b]
def gI (N:Nat) (x0:aB) (x1:aB):Option (Bool):=qE N x0 x1 (fun (r0:Bool)=>some (r0))
def GY (gI:aB→aB→Option (Bool)) (k0:Bool→Option R) (x0 x1:aT):Option R:=
ad (x0.1==x1.1) (ad (x0.2.2.2.1==x1.2.2.2.1) ((gI x0.2.1 x1.2.1).bind fun r1046=>
k0 r1046) (k0 false)) (k0 false)
theorem aii (gI) (h125:(Fl gI).holds cl) (x0 x1):exec cl N Kn [(0,.v aG x0),(1,.at aG x1)] K=(GY gI (fun y0=>K .ret [(3,.v .bool y0)]) x0 x1):=by
 rw [←aP h125]
 kernel_rfl
theorem ad8 (y0):ah d124 .ret [(3,.v .bool y0)]=some [.v .bool y0]:=by kernel_rfl
def Al (gI:aB→aB→Option (Bool)) (x0 x1:aT) (k:Bool→Option R):Option R:=
(GY gI k x0 x1)
theorem UO (gI) (h125:(Fl gI).holds cl) (x0 x1) (k:List E→Option R):exec cl N CC [(0,.v aG x0),(1,.at aG x1)] (fun e env=>(ah d124 e env).bind k)=Al gI x0 x1 (fun r0=>k [.v .bool r0]):=by
 simp only [CC,aii gI h125,ad8,ar]
 rfl
def p9 (S:aT→aT→Option (Bool)):aO:={A:=aT×aT×Unit,B:=Bool,f:=124,enc:=fun a=> [.v aG a.1,.at aG a.2.1],dec:=(bc (bG aG) (bc (n9 aG) bY)),S:=fun a=>S a.1 a.2.1,au:=fun b=> [.v .bool b],ok:=(fX (T:=aG) (zU (T:=aG) (fun es b h=>iW h)))}
def c8 (N:Nat) (x0:aT) (x1:aT):Option (Bool):=Al (gI N) x0 x1 (fun (r0:Bool)=>some (r0))
def uC (k0:cb→eN→Option R) (x0:cb) (x1:eN):Option R:=
k0 x0 x1
theorem ai1 (x0 x1):exec cl N KT (ov x0 x1) K=(uC (fun y0 y1=>K .normal (ov y0 y1)) x0 x1):=by
 kernel_rfl
def uD (k0:cb→eN→Int→Int→Option R) (x0:cb) (x1:eN):Option R:=
k0 x0 x1 (x0.length:Int) (0:Int)
theorem ai2 (x0 x1):exec cl N KU (ov x0 x1) K=(uD (fun y0 y1 y2 y3=>K .normal (ln y0 y1 y2 y3)) x0 x1):=by
 kernel_rfl
theorem Ra (x0 x1 x2 x3):ak [0,1,7,8] (ln x0 x1 x2 x3)=(ln x0 x1 x2 x3):=by kernel_rfl
def uE (k0:Int→Option R) (k1:cb→eN→Int→Int→Option R) (k2:cb→eN→Int→Int→Option R) (x0:cb) (x1:eN) (x2 x3:Int):Option R:=
ad (decide (x3 < x2)) (if 0≤x3∧x3 < (x0.length:Int) then
(x1 ((x0.getD x3.toNat ([],([],((0:Int),((0:Int),()))))),())).bind fun r1053=>
ad r1053 (k0 x3) (k1 x0 x1 x2 (IntKind.i64.wrap (x3+(1:Int))))
else none) (k2 x0 x1 x2 x3)
theorem ai3 (x0 x1 x2 x3):exec cl N C7 (ln x0 x1 x2 x3) K=(uE (fun y0=>K .ret (qt y0)) (fun y0 y1 y2 y3=>K .normal (ln y0 y1 y2 y3)) (fun y0 y1 y2 y3=>K (.exit 0) (ln y0 y1 y2 y3)) x0 x1 x2 x3):=by
 kernel_rfl
def o5 {R:Type} (k0:Int→Option R) (k1:cb→eN→Int→Int→Option R):Nat→cb→eN→Int→Int→Option R
 | 0,_,_,_,_=>none
 | m+1,x0,x1,x2,x3=>(uE k0 (o5 k0 k1 m) k1 x0 x1 x2 x3)
theorem aa9:∀ (m) (x0 x1 x2 x3),iter [0,1,7,8] (fun env K=>exec cl N C7 env K) K m (ln x0 x1 x2 x3)=o5 (fun y0=>K .ret (qt y0)) (fun y0 y1 y2 y3=>K (.exit 0) (ln y0 y1 y2 y3)) m x0 x1 x2 x3:=by
 intro m
 induction m with
 | zero=>intros; rfl
 | succ m ih=>
   intro x0 x1 x2 x3
   simp only [ck,ai3,cq,cm,ct,Ra,ih]
   rfl
theorem Yv (x0):ak [4] (qt x0)=[(4,.v U2 x0)]:=by kernel_rfl
theorem Yw (x0 x1 x2 x3):ak [4] (ln x0 x1 x2 x3)=[(4,.dead)]:=by kernel_rfl
def uF (N:Nat) (k0:Int→Option R) (k1:Option R) (x0:cb) (x1:eN) (x2 x3:Int):Option R:=
o5 k0 (fun y0 y1 y2 y3=>k1) N x0 x1 x2 x3
theorem ai4 (x0 x1 x2 x3):exec cl N C8 (ln x0 x1 x2 x3) K=(uF N (fun y0=>K .ret [(4,.v U2 y0)]) (K (.exit 0) [(4,.dead)]) x0 x1 x2 x3):=by
 simp only [C8,aY,cj,Ra,aa9,Yv,Yw]
 rfl
theorem Yx (x0):ak [4] [(4,.v U2 x0)]=[(4,.v U2 x0)]:=by kernel_rfl
theorem Yy:ak [4] [(4,.dead)]=[(4,.dead)]:=by kernel_rfl
def uG (k0:Int→Option R):Option R:=
k0 (-1:Int)
theorem ai5:exec cl N KX [(4,.dead)] K=(uG (fun y0=>K .ret [(4,.v U2 y0)])):=by
 kernel_rfl
def uH (N:Nat) (k0:Int→Option R) (x0:cb) (x1:eN):Option R:=
(uC (uD (uF N k0 (uG k0))) x0 x1)
theorem ai6 (x0 x1):exec cl N C9 (ov x0 x1) K=(uH N (fun y0=>K .ret [(4,.v U2 y0)]) x0 x1):=by
 simp only [C9,b6,b9,b8,ca,ai1,KY,KW,ai2,KV,aY,cB,ai4,cz,cA,cy,Yx,Yy,ai5]
 rfl
theorem aes (y0):ah d144 .ret [(4,.v U2 y0)]=some [.v U2 y0]:=by kernel_rfl
def qG (N:Nat) (x0:cb) (x1:eN) (k:Int→Option R):Option R:=
(uH N k x0 x1)
theorem Vd (x0 x1) (k:List E→Option R):exec cl N C6 (ov x0 x1) (fun e env=>(ah d144 e env).bind k)=qG N x0 x1 (fun r0=>k [.v U2 r0]):=by
 simp only [C6,ai6,aes,ar]
 rfl
def Fq (S:cb→eN→Option (Int)):aO:=dZ 144 dT xu S fun b=> [.v U2 b]
def im (N:Nat) (x0:cb) (x1:eN):Option (Int):=qG N x0 x1 (fun (r0:Int)=>some (r0))
def GX (im:cb→eN→Option (Int)) (k0:Bool→Option R) (x0:cb) (x1:eN):Option R:=
(im x0 x1).bind fun r1057=>
k0 (decide (r1057≥(0:Int)))
theorem aih (im) (h144:(Fq im).holds cl) (x0 x1):exec cl N Km (ov x0 x1) K=(GX im (fun y0=>K .ret [(4,.v .bool y0)]) x0 x1):=by
 rw [←aP h144]
 kernel_rfl
theorem ad7 (y0):ah d123 .ret [(4,.v .bool y0)]=some [.v .bool y0]:=by kernel_rfl
def Ak (im:cb→eN→Option (Int)) (x0:cb) (x1:eN) (k:Bool→Option R):Option R:=
(GX im k x0 x1)
theorem UN (im) (h144:(Fq im).holds cl) (x0 x1) (k:List E→Option R):exec cl N CB (ov x0 x1) (fun e env=>(ah d123 e env).bind k)=Ak im x0 x1 (fun r0=>k [.v .bool r0]):=by
 simp only [CB,aih im h144,ad7,ar]
 rfl
def p8 (S:cb→eN→Option (Bool)):aO:=dZ 123 dT xu S fun b=> [.v .bool b]
def cX (N:Nat) (x0:cb) (x1:eN):Option (Bool):=Ak (im N) x0 x1 (fun (r0:Bool)=>some (r0))
def wm (eW:V3→Option (Bool)) (k0:Int→Int→Option R) (k1:ag→Option R) (x0:ag):Option R:=
(eW x0.1).bind fun r1061=>
ad (!r1061) (k0 (-1:Int) (2:Int)) (ad ((x0.2.1.length:Int)==(0:Int)) (k0 (-1:Int) (7:Int)) (ad (decide ((x0.2.1.length:Int) > (120:Int))) (k0 (-1:Int) (3:Int)) (k1 x0)))
theorem amC (eW) (h121:(zI eW).holds cl) (x0):exec cl N zr [(0,.v az x0)] K=(wm eW (fun y0 y1=>K .ret (qp y0 y1)) (fun y0=>exec cl N zq (z8 y0) K) x0):=by
 rw [←aP h121]
 delta zr
 generalize zq=q
 revert q
 refine id ?_
 intro q
 kernel_rfl
def wh (k0:ag→cb→Int→Int→Option R) (x0:ag):Option R:=
k0 x0 x0.2.1 (x0.2.1.length:Int) (0:Int)
theorem amy (x0):exec cl N NC (z8 x0) K=(wh (fun y0 y1 y2 y3=>K .normal (lp y0 y1 y2 y3)) x0):=by
 kernel_rfl
theorem RC (x0 x1 x2 x3):ak [1,24,25,26] (lp x0 x1 x2 x3)=(lp x0 x1 x2 x3):=by kernel_rfl
def wi (c7:aT→Option (Int)) (cX:cb→eN→Option (Bool)) (c8:aT→aT→Option (Bool)) (k0:Int→Int→Option R) (k1:ag→cb→Int→Int→Option R) (k2:ag→cb→Int→Int→Option R) (x0:ag) (x1:cb) (x2 x3:Int):Option R:=
ad (decide (x3 < x2)) (if 0≤x3∧x3 < (x1.length:Int) then
(c7 (x1.getD x3.toNat ([],([],((0:Int),((0:Int),())))))).bind fun r1065=>
ad (r1065 != (0:Int)) (k0 x3 r1065) (if 0≤(0:Int)∧(0:Int)≤x3∧x3≤(x0.2.1.length:Int)∧(x0.2.1.length:Int)≤(x0.2.1.length:Int) then
(cX ((x0.2.1.drop (0:Int).toNat).take (x3.toNat - (0:Int).toNat)) (fun (x1068:(aT×Unit))=>((c8 x1068.1 (x1.getD x3.toNat ([],([],((0:Int),((0:Int),())))))).bind fun b1069=>some [.v .bool b1069]).bind (jA .bool))).bind fun r1070=>
ad r1070 (k0 x3 (5:Int)) (k1 x0 x1 x2 (IntKind.i64.wrap (x3+(1:Int))))
else none)
else none) (k2 x0 x1 x2 x3)
theorem amz (c7) (cX) (c8) (h122:(p7 c7).holds cl) (h123:(p8 cX).holds cl) (h124:(p9 c8).holds cl) (x0 x1 x2 x3):exec cl N E4 (lp x0 x1 x2 x3) K=(wi c7 cX c8 (fun y0 y1=>K .ret (Gz y0 y1)) (fun y0 y1 y2 y3=>K .normal (lp y0 y1 y2 y3)) (fun y0 y1 y2 y3=>K (.exit 1) (lp y0 y1 y2 y3)) x0 x1 x2 x3):=by
 rw [←aP h122]
 rw [←aP h123]
 rw [←aP h124]
 kernel_rfl
def pb {R:Type} (c7:aT→Option (Int)) (cX:cb→eN→Option (Bool)) (c8:aT→aT→Option (Bool)) (k0:Int→Int→Option R) (k1:ag→cb→Int→Int→Option R):Nat→ag→cb→Int→Int→Option R
 | 0,_,_,_,_=>none
 | m+1,x0,x1,x2,x3=>(wi c7 cX c8 k0 (pb c7 cX c8 k0 k1 m) k1 x0 x1 x2 x3)
theorem abF (c7) (cX) (c8) (h122:(p7 c7).holds cl) (h123:(p8 cX).holds cl) (h124:(p9 c8).holds cl):∀ (m) (x0 x1 x2 x3),iter [1,24,25,26] (fun env K=>exec cl N E4 env K) K m (lp x0 x1 x2 x3)=pb c7 cX c8 (fun y0 y1=>K .ret (Gz y0 y1)) (fun y0 y1 y2 y3=>K (.exit 1) (lp y0 y1 y2 y3)) m x0 x1 x2 x3:=by
 intro m
 induction m with
 | zero=>intros; rfl
 | succ m ih=>
   intro x0 x1 x2 x3
   simp only [ck,amz c7 cX c8 h122 h123 h124,cq,cm,ct,RC,ih]
   rfl
theorem Z5 (x0 x1):ak [2,3] (Gz x0 x1)=(iZ x0 x1):=by kernel_rfl
theorem Z6 (x0 x1 x2 x3):ak [2,3] (lp x0 x1 x2 x3)=[(2,.dead),(3,.dead)]:=by kernel_rfl
def wj (N:Nat) (c7:aT→Option (Int)) (cX:cb→eN→Option (Bool)) (c8:aT→aT→Option (Bool)) (k0:Int→Int→Option R) (k1:Option R) (x0:ag) (x1:cb) (x2 x3:Int):Option R:=
pb c7 cX c8 k0 (fun y0 y1 y2 y3=>k1) N x0 x1 x2 x3
theorem amA (c7) (cX) (c8) (h122:(p7 c7).holds cl) (h123:(p8 cX).holds cl) (h124:(p9 c8).holds cl) (x0 x1 x2 x3):exec cl N E5 (lp x0 x1 x2 x3) K=(wj N c7 cX c8 (fun y0 y1=>K .ret (iZ y0 y1)) (K (.exit 1) [(2,.dead),(3,.dead)]) x0 x1 x2 x3):=by
 simp only [E5,aY,cj,RC,abF c7 cX c8 h122 h123 h124,Z5,Z6]
 rfl
theorem Z7 (x0 x1):ak [2,3] (iZ x0 x1)=(iZ x0 x1):=by kernel_rfl
theorem Z8:ak [2,3] [(2,.dead),(3,.dead)]=[(2,.dead),(3,.dead)]:=by kernel_rfl
def wk (k0:Int→Int→Option R):Option R:=
k0 (-1:Int) (0:Int)
theorem amB:exec cl N NG [(2,.dead),(3,.dead)] K=(wk (fun y0 y1=>K .ret (iZ y0 y1))):=by
 kernel_rfl
def wo (N:Nat) (eW:V3→Option (Bool)) (c7:aT→Option (Int)) (cX:cb→eN→Option (Bool)) (c8:aT→aT→Option (Bool)) (k0:Int→Int→Option R) (k1:Int→Int→Option R) (x0:ag):Option R:=
(wm eW k0 (wh (wj N c7 cX c8 k1 (wk k1))) x0)
theorem amD (eW) (c7) (cX) (c8) (h121:(zI eW).holds cl) (h122:(p7 c7).holds cl) (h123:(p8 cX).holds cl) (h124:(p9 c8).holds cl) (x0):exec cl N zr [(0,.v az x0)] K=(wo N eW c7 cX c8 (fun y0 y1=>K .ret (qp y0 y1)) (fun y0 y1=>K .ret (iZ y0 y1)) x0):=by
 simp only [b6,b9,b8,ca,amC eW h121,zq,NF,amy,ND,aY,cB,amA c7 cX c8 h122 h123 h124,cz,cA,cy,Z7,Z8,amB]
 rfl
theorem afS (y0 y1):ah d95 .ret (qp y0 y1)=some [.v U2 y0,.v U2 y1]:=by kernel_rfl
theorem afT (y0 y1):ah d95 .ret (iZ y0 y1)=some [.v U2 y0,.v U2 y1]:=by kernel_rfl
def rB (N:Nat) (eW:V3→Option (Bool)) (c7:aT→Option (Int)) (cX:cb→eN→Option (Bool)) (c8:aT→aT→Option (Bool)) (x0:ag) (k:Int→Int→Option R):Option R:=
(wo N eW c7 cX c8 k k x0)
theorem VW (eW) (c7) (cX) (c8) (h121:(zI eW).holds cl) (h122:(p7 c7).holds cl) (h123:(p8 cX).holds cl) (h124:(p9 c8).holds cl) (x0) (k:List E→Option R):exec cl N E3 [(0,.v az x0)] (fun e env=>(ah d95 e env).bind k)=rB N eW c7 cX c8 x0 (fun r0 r1=>k [.v U2 r0,.v U2 r1]):=by
 simp only [E3,amD eW c7 cX c8 h121 h122 h123 h124,afS,afT,ar]
 rfl
def FP (S:ag→Option V1):aO:=cL 95 az S fun b=> [.v U2 b.1,.v U2 b.2]
def iv (N:Nat) (x0:ag):Option V1:=rB N (eW N) (c7 N) (cX N) (c8 N) x0 (fun (r0:Int) (r1:Int)=>some (r0,r1))
def HB (iv:ag→Option V1) (k0:Int→Option R) (x0:ag):Option R:=
(iv x0).bind fun r1073=>
k0 r1073.2
theorem alC (iv) (h95:(FP iv).holds cl) (x0):exec cl N MU [(0,.v az x0)] K=(HB iv (fun y0=>K .ret [(2,.v U2 y0)]) x0):=by
 rw [←aP h95]
 kernel_rfl
theorem afv (y0):ah d70 .ret [(2,.v U2 y0)]=some [.v U2 y0]:=by kernel_rfl
def AM (iv:ag→Option V1) (x0:ag) (k:Int→Option R):Option R:=
(HB iv k x0)
theorem VM (iv) (h95:(FP iv).holds cl) (x0) (k:List E→Option R):exec cl N Ev [(0,.v az x0)] (fun e env=>(ah d70 e env).bind k)=AM iv x0 (fun r0=>k [.v U2 r0]):=by
 simp only [Ev,alC iv h95,afv,ar]
 rfl
def th (S:ag→Option (Int)):aO:=cL 70 az S fun b=> [.v U2 b]
def dW (N:Nat) (x0:ag):Option (Int):=AM (iv N) x0 (fun (r0:Int)=>some (r0))
def HM (bT:Int→Option (Bool)) (k0:Bool→Option R) (x0:Int):Option R:=
(bT x0).bind fun r1081=>
k0 (!r1081)
theorem amF (bT) (h98:(mX bT).holds cl) (x0):exec cl N NI [(0,.v U0 x0)] K=(HM bT (fun y0=>K .ret [(2,.v .bool y0)]) x0):=by
 rw [←aP h98]
 kernel_rfl
theorem afV (y0):ah d97 .ret [(2,.v .bool y0)]=some [.v .bool y0]:=by kernel_rfl
def AR (bT:Int→Option (Bool)) (x0:Int) (k:Bool→Option R):Option R:=
(HM bT k x0)
theorem VY (bT) (h98:(mX bT).holds cl) (x0) (k:List E→Option R):exec cl N E7 [(0,.v U0 x0)] (fun e env=>(ah d97 e env).bind k)=AR bT x0 (fun r0=>k [.v .bool r0]):=by
 simp only [E7,amF bT h98,afV,ar]
 rfl
def qi (S:Int→Option (Bool)):aO:=cL 97 U0 S fun b=> [.v .bool b]
def da (N:Nat) (x0:Int):Option (Bool):=AR (bT N) x0 (fun (r0:Bool)=>some (r0))
def uv (k0:V0→bR→Option R) (x0:V0) (x1:bR):Option R:=
k0 x0 x1
theorem aip (x0 x1):exec cl N Ks (ow x0 x1) K=(uv (fun y0 y1=>K .normal (ow y0 y1)) x0 x1):=by
 kernel_rfl
def uw (k0:V0→bR→Int→Int→Option R) (x0:V0) (x1:bR):Option R:=
k0 x0 x1 (x0.length:Int) (0:Int)
theorem aiq (x0 x1):exec cl N Kt (ow x0 x1) K=(uw (fun y0 y1 y2 y3=>K .normal (lq y0 y1 y2 y3)) x0 x1):=by
 kernel_rfl
theorem Q6 (x0 x1 x2 x3):ak [0,1,7,8] (lq x0 x1 x2 x3)=(lq x0 x1 x2 x3):=by kernel_rfl
def ux (k0:Int→Option R) (k1:V0→bR→Int→Int→Option R) (k2:V0→bR→Int→Int→Option R) (x0:V0) (x1:bR) (x2 x3:Int):Option R:=
ad (decide (x3 < x2)) (if 0≤x3∧x3 < (x0.length:Int) then
(x1 ((x0.getD x3.toNat (0:Int)),())).bind fun r1088=>
ad r1088 (k0 x3) (k1 x0 x1 x2 (IntKind.i64.wrap (x3+(1:Int))))
else none) (k2 x0 x1 x2 x3)
theorem air (x0 x1 x2 x3):exec cl N CH (lq x0 x1 x2 x3) K=(ux (fun y0=>K .ret (qt y0)) (fun y0 y1 y2 y3=>K .normal (lq y0 y1 y2 y3)) (fun y0 y1 y2 y3=>K (.exit 0) (lq y0 y1 y2 y3)) x0 x1 x2 x3):=by
 kernel_rfl
def o4 {R:Type} (k0:Int→Option R) (k1:V0→bR→Int→Int→Option R):Nat→V0→bR→Int→Int→Option R
 | 0,_,_,_,_=>none
 | m+1,x0,x1,x2,x3=>(ux k0 (o4 k0 k1 m) k1 x0 x1 x2 x3)
theorem aa3:∀ (m) (x0 x1 x2 x3),iter [0,1,7,8] (fun env K=>exec cl N CH env K) K m (lq x0 x1 x2 x3)=o4 (fun y0=>K .ret (qt y0)) (fun y0 y1 y2 y3=>K (.exit 0) (lq y0 y1 y2 y3)) m x0 x1 x2 x3:=by
 intro m
 induction m with
 | zero=>intros; rfl
 | succ m ih=>
   intro x0 x1 x2 x3
   simp only [ck,air,cq,cm,ct,Q6,ih]
   rfl
theorem Yf (x0):ak [4] (qt x0)=[(4,.v U2 x0)]:=by kernel_rfl
theorem Yg (x0 x1 x2 x3):ak [4] (lq x0 x1 x2 x3)=[(4,.dead)]:=by kernel_rfl
def uy (N:Nat) (k0:Int→Option R) (k1:Option R) (x0:V0) (x1:bR) (x2 x3:Int):Option R:=
o4 k0 (fun y0 y1 y2 y3=>k1) N x0 x1 x2 x3
theorem ais (x0 x1 x2 x3):exec cl N CI (lq x0 x1 x2 x3) K=(uy N (fun y0=>K .ret [(4,.v U2 y0)]) (K (.exit 0) [(4,.dead)]) x0 x1 x2 x3):=by
 simp only [CI,aY,cj,Q6,aa3,Yf,Yg]
 rfl
theorem Yh (x0):ak [4] [(4,.v U2 x0)]=[(4,.v U2 x0)]:=by kernel_rfl
theorem Yi:ak [4] [(4,.dead)]=[(4,.dead)]:=by kernel_rfl
def uz (k0:Int→Option R):Option R:=
k0 (-1:Int)
theorem ait:exec cl N Kw [(4,.dead)] K=(uz (fun y0=>K .ret [(4,.v U2 y0)])):=by
 kernel_rfl
def uA (N:Nat) (k0:Int→Option R) (x0:V0) (x1:bR):Option R:=
(uv (uw (uy N k0 (uz k0))) x0 x1)
theorem aiu (x0 x1):exec cl N CJ (ow x0 x1) K=(uA N (fun y0=>K .ret [(4,.v U2 y0)]) x0 x1):=by
 simp only [CJ,b6,b9,b8,ca,aip,Kx,Kv,aiq,Ku,aY,cB,ais,cz,cA,cy,Yh,Yi,ait]
 rfl
theorem aeb (y0):ah d126 .ret [(4,.v U2 y0)]=some [.v U2 y0]:=by kernel_rfl
def qF (N:Nat) (x0:V0) (x1:bR) (k:Int→Option R):Option R:=
(uA N k x0 x1)
theorem UQ (x0 x1) (k:List E→Option R):exec cl N CG (ow x0 x1) (fun e env=>(ah d126 e env).bind k)=qF N x0 x1 (fun r0=>k [.v U2 r0]):=by
 simp only [CG,aiu,aeb,ar]
 rfl
def Fm (S:V0→bR→Option (Int)):aO:=dZ 126 U4 xp S fun b=> [.v U2 b]
def il (N:Nat) (x0:V0) (x1:bR):Option (Int):=qF N x0 x1 (fun (r0:Int)=>some (r0))
def HL (il:V0→bR→Option (Int)) (k0:Bool→Option R) (x0:V0) (x1:bR):Option R:=
(il x0 x1).bind fun r1092=>
k0 (decide (r1092≥(0:Int)))
theorem amE (il) (h126:(Fm il).holds cl) (x0 x1):exec cl N NH (ow x0 x1) K=(HL il (fun y0=>K .ret [(4,.v .bool y0)]) x0 x1):=by
 rw [←aP h126]
 kernel_rfl
theorem afU (y0):ah d96 .ret [(4,.v .bool y0)]=some [.v .bool y0]:=by kernel_rfl
def AQ (il:V0→bR→Option (Int)) (x0:V0) (x1:bR) (k:Bool→Option R):Option R:=
(HL il k x0 x1)
theorem VX (il) (h126:(Fm il).holds cl) (x0 x1) (k:List E→Option R):exec cl N E6 (ow x0 x1) (fun e env=>(ah d96 e env).bind k)=AQ il x0 x1 (fun r0=>k [.v .bool r0]):=by
 simp only [E6,amE il h126,afU,ar]
 rfl
def qh (S:V0→bR→Option (Bool)):aO:=dZ 96 U4 xp S fun b=> [.v .bool b]
def cY (N:Nat) (x0:V0) (x1:bR):Option (Bool):=AQ (il N) x0 x1 (fun (r0:Bool)=>some (r0))
end Go.Fw.L19
