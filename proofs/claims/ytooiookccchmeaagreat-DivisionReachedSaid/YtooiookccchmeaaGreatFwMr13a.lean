/- Own work. -/
import Derived.Test.YtooiookccchmeaaGreatFwYr13
import Derived.Test.YtooiookccchmeaaGreatFwB4
set_option linter.unusedVariables false
set_option linter.unusedSimpArgs false
open Option renaming bind_some → aq
namespace Go.Fw.L19
open Go Go.Fw
set_option maxRecDepth 100000
abbrev cE (f:FuncId) (T0:Ty) {B:Type} (S:den T0→Option B) (av:B→List E):aO:={A:=den T0×Unit,B:=B,f:=f,enc:=fun a=> [.v T0 a.1],dec:=(bc (bL T0) ck),S:=fun a=>S a.1,av:=av,ok:=(gn (T:=T0) (fun es b h=>jn h))}
abbrev dP (f:FuncId) (T0 T1:Ty) {B:Type} (S:den T0→den T1→Option B) (av:B→List E):aO:={A:=den T0×den T1×Unit,B:=B,f:=f,enc:=fun a=> [.v T0 a.1,.v T1 a.2.1],dec:=(bc (bL T0) (bc (bL T1) ck)),S:=fun a=>S a.1 a.2.1,av:=av,ok:=(gn (T:=T0) (gn (T:=T1) (fun es b h=>jn h)))}
abbrev Io (f:FuncId) (T0 T1 T2:Ty) {B:Type} (S:den T0→den T1→den T2→Option B) (av:B→List E):aO:={A:=den T0×den T1×den T2×Unit,B:=B,f:=f,enc:=fun a=> [.v T0 a.1,.v T1 a.2.1,.v T2 a.2.2.1],dec:=(bc (bL T0) (bc (bL T1) (bc (bL T2) ck))),S:=fun a=>S a.1 a.2.1 a.2.2.1,av:=av,ok:=(gn (T:=T0) (gn (T:=T1) (gn (T:=T2) (fun es b h=>jn h))))}
abbrev Xs (f:FuncId) (T0 T1 T2 T3:Ty) {B:Type} (S:den T0→den T1→den T2→den T3→Option B) (av:B→List E):aO:={A:=den T0×den T1×den T2×den T3×Unit,B:=B,f:=f,enc:=fun a=> [.v T0 a.1,.v T1 a.2.1,.v T2 a.2.2.1,.v T3 a.2.2.2.1],dec:=(bc (bL T0) (bc (bL T1) (bc (bL T2) (bc (bL T3) ck)))),S:=fun a=>S a.1 a.2.1 a.2.2.1 a.2.2.2.1,av:=av,ok:=(gn (T:=T0) (gn (T:=T1) (gn (T:=T2) (gn (T:=T3) (fun es b h=>jn h)))))}
abbrev e0:=fun x0 x1 x2=>([(0,.v .str x0),(3,.own true 9 .str .no x1),(4,.v U2 x2)]:Env)
abbrev e1:=fun x0 x1 x2 x3=>([(0,.v .str x0),(3,.own true 9 .str .no x1),(4,.v U2 x2),(5,.v U2 x3)]:Env)
abbrev e2:=fun x0=>([(3,.own true 9 .str .no x0)]:Env)
abbrev e3:=fun x0=>([(2,.ref 3 []),(3,.own true 9 .str .no x0)]:Env)
abbrev e4:=fun x0=>([(0,.dead),(2,.own true 9 .str .no x0),(3,.dead),(4,.dead),(5,.dead)]:Env)
abbrev e5:=fun x0=>([(2,.own true 9 .str .no x0),(3,.dead)]:Env)
abbrev e6:=fun x0=>([(2,.dead),(3,.own true 9 .str .no x0)]:Env)
abbrev e7:=fun x0=>([(1,.dead),(2,.v U2 x0)]:Env)
abbrev e8:=fun x0 x1=>([(1,.loc aC .no x0),(4,.v U2 x1)]:Env)
abbrev e9:=fun x0=>([(1,.dead),(2,.v U2 x0),(4,.dead)]:Env)
abbrev kC:=fun x0 x1 x2=>([(0,.v .str x0),(2,.loc aC .no x1),(4,.v U2 x2)]:Env)
abbrev Ix:=fun x0 x1=>([(0,.dead),(2,.loc aC .no x0),(3,.v .bool x1),(4,.dead),(5,.dead)]:Env)
abbrev oP:=fun x0 x1 x2=>([(2,.loc aC .no x0),(5,.v .str x1),(6,.loc aC .no x2)]:Env)
abbrev lh:=fun x0 x1 x2 x3=>([(2,.loc aC .no x0),(5,.v .str x1),(6,.loc aC .no x2),(7,.v U2 x3)]:Env)
abbrev IG:=fun x0 x1=>([(2,.loc aC .no x0),(3,.v .bool x1)]:Env)
abbrev IJ:=fun x0 x1=>([(0,.dead),(2,.own true 40 aC .no x0),(3,.v U2 x1)]:Env)
abbrev lz:=fun x0 x1 x2=>([(4,.own true 40 aC .no x0),(5,.own true 9 .str .no x1),(6,.v U2 x2)]:Env)
abbrev IP:=fun x0 x1=>([(2,.own true 40 aC .no x0),(3,.v U2 x1),(4,.dead),(5,.dead),(6,.dead)]:Env)
abbrev oR:=fun x0 x1=>([(2,.own true 40 aC .no x0),(3,.v U2 x1),(4,.dead)]:Env)
abbrev uW:=fun x0=>([(2,.dead),(3,.dead),(4,.own true 40 aC .no x0)]:Env)
abbrev IQ:=fun x0 x1=>([(2,.ref 4 []),(3,.v U2 x0),(4,.own true 40 aC .no x1)]:Env)
abbrev cm:=fun x0 x1=>([(0,.v .str x0),(3,.v U2 x1)]:Env)
abbrev IS:=fun x0 x1=>([(0,.dead),(2,.v U2 x0),(3,.v .bool x1)]:Env)
abbrev lD:=fun x0 x1 x2=>([(0,.v .str x0),(4,.v U2 x1),(5,.v U2 x2)]:Env)
abbrev IT:=fun x0 x1=>([(2,.loc aH (.pair .no (.pair (.own true 40 .no) (.pair .no (.pair .no .no)))) x0),(3,.v .bool x1),(4,.dead)]:Env)
abbrev oS:=fun x0 x1 x2=>([(2,.loc aH (.pair .no (.pair (.own true 40 .no) (.pair .no (.pair .no .no)))) x0),(4,.own true 9 .str .no x1),(5,.v .str x2)]:Env)
abbrev lF:=fun x0 x1 x2 x3=>([(2,.loc aH (.pair .no (.pair (.own true 40 .no) (.pair .no (.pair .no .no)))) x0),(4,.own true 9 .str .no x1),(5,.v .str x2),(6,.v U2 x3)]:Env)
abbrev IU:=fun x0 x1=>([(2,.loc aH (.pair .no (.pair (.own true 40 .no) (.pair .no (.pair .no .no)))) x0),(3,.v .bool x1),(4,.dead),(7,.dead),(9,.dead)]:Env)
abbrev Rp:=fun x0 x1 x2 x3=>([(2,.loc aH (.pair .no (.pair (.own true 40 .no) (.pair .no (.pair .no .no)))) x0),(3,.dead),(4,.own true 9 .str .no x1),(7,.own true 40 aC .no x2),(9,.v U2 x3)]:Env)
abbrev lG:=fun x0 x1 x2 x3 x4=>([(2,.loc aH (.pair .no (.pair (.own true 40 .no) (.pair .no (.pair .no .no)))) x0),(4,.own true 9 .str .no x1),(7,.own true 40 aC .no x2),(9,.v U2 x3),(11,.v U2 x4)]:Env)
abbrev IV:=fun x0 x1=>([(2,.loc aH .no x0),(3,.v .bool x1),(4,.dead),(7,.dead),(9,.dead),(11,.dead)]:Env)
abbrev rQ:=fun x0 x1=>([(2,.loc aH .no x0),(3,.v .bool x1)]:Env)
abbrev uX:=fun x0=>([(2,.loc aH (.pair .no (.pair (.own true 40 .no) (.pair .no (.pair .no .no)))) x0),(3,.dead)]:Env)
abbrev IW:=fun x0 x1=>([(2,.loc aH (.pair .no (.pair (.own true 40 .no) (.pair .no (.pair .no .no)))) x0),(3,.v .bool x1)]:Env)
abbrev gM:=fun x0=>([(0,.dead),(2,.v U2 x0)]:Env)
abbrev lH:=fun x0 x1=>([(0,.v U0 x0),(3,.v U2 x1)]:Env)
abbrev IX:=fun x0=>([(0,.dead),(2,.v .bool x0),(3,.dead)]:Env)
abbrev rR:=fun x0=>([(0,.v .str x0),(2,.dead)]:Env)
abbrev mM:=fun x0=>([(0,.dead),(2,.v U2 x0),(3,.dead)]:Env)
abbrev jo:=fun x0=>([(1,.loc aH .no x0),(2,.dead)]:Env)
abbrev lI:=fun x0 x1=>([(1,.loc aH .no x0),(4,.v U2 x1)]:Env)
abbrev B0:=fun x0 x1=>([(0,.v U2 x0),(1,.v U2 x1)]:Env)
abbrev lJ:=fun x0=>([(0,.dead),(1,.dead),(4,.v U2 x0)]:Env)
abbrev rS:=fun x0 x1=>([(0,.v bp x0),(1,.v bp x1)]:Env)
abbrev iQ:=fun x0=>([(0,.dead),(1,.dead),(4,.v .bool x0)]:Env)
abbrev B3:=fun x0 x1=>([(0,.v bp x0),(1,.v bp x1),(4,.dead)]:Env)
abbrev lK:=fun x0 x1 x2=>([(0,.v bp x0),(1,.v bp x1),(5,.v U2 x2)]:Env)
abbrev mN:=fun x0=>([(0,.dead),(1,.dead),(4,.v .bool x0),(5,.dead)]:Env)
abbrev rT:=fun x0 x1=>([(1,.dead),(2,.v U2 x0),(3,.v U2 x1)]:Env)
abbrev B4:=fun x0=>([(1,.loc ar .no x0),(2,.dead),(3,.dead)]:Env)
abbrev iR:=fun x0 x1=>([(1,.loc ar .no x0),(4,.v U2 x1)]:Env)
abbrev nB:=fun x0 x1=>([(1,.dead),(2,.v U2 x0),(3,.v U2 x1),(4,.dead)]:Env)
abbrev lL:=fun x0 x1 x2=>([(1,.loc ar .no x0),(4,.v U2 x1),(6,.v U2 x2)]:Env)
abbrev IY:=fun x0 x1=>([(1,.dead),(2,.v U2 x0),(3,.v U2 x1),(4,.dead),(6,.dead)]:Env)
abbrev uY:=fun x0 x1=>([(1,.loc ar .no x0),(2,.dead),(3,.dead),(4,.v U2 x1)]:Env)
abbrev jq:=fun x0 x1=>([(2,.v U2 x0),(3,.v U2 x1)]:Env)
abbrev IZ:=fun x0 x1 x2=>([(0,.dead),(2,.loc ar (.pair .no (.pair (.own true 43 .no) .no)) x0),(3,.v U2 x1),(4,.v U2 x2)]:Env)
abbrev I0:=fun x0 x1 x2=>([(0,.dead),(2,.loc ar (.pair .no (.pair (.own true 43 .no) .no)) x0),(3,.v U2 x1),(4,.v U2 x2),(5,.dead)]:Env)
abbrev Rq:=fun x0 x1 x2 x3=>([(0,.v .str x0),(2,.loc ar (.pair .no (.pair (.own true 43 .no) .no)) x1),(5,.own true 9 .str .no x2),(6,.loc ar (.pair .no (.pair (.own true 43 .no) .no)) x3)]:Env)
abbrev gN:=fun x0 x1 x2 x3 x4=>([(0,.v .str x0),(2,.loc ar (.pair .no (.pair (.own true 43 .no) .no)) x1),(5,.own true 9 .str .no x2),(6,.loc ar (.pair .no (.pair (.own true 43 .no) .no)) x3),(7,.v U2 x4)]:Env)
abbrev Rs:=fun x0 x1 x2 x3 x4 x5=>([(0,.v .str x0),(2,.loc ar (.pair .no (.pair (.own true 43 .no) .no)) x1),(5,.own true 9 .str .no x2),(6,.loc ar (.pair .no (.pair (.own true 43 .no) .no)) x3),(7,.v U2 x4),(8,.v .bool x5)]:Env)
abbrev Rt:=fun x0 x1 x2=>([(0,.dead),(2,.loc ar (.pair .no (.pair (.own true 43 .no) .no)) x0),(3,.v U2 x1),(4,.v U2 x2),(5,.dead),(6,.dead),(7,.dead),(9,.dead),(10,.dead)]:Env)
abbrev B5:=fun x0 x1 x2=>([(0,.dead),(2,.loc ar (.pair .no (.pair (.own true 43 .no) .no)) x0),(3,.v U2 x1),(4,.v U2 x2),(5,.dead),(6,.dead),(7,.dead)]:Env)
abbrev Ru:=fun x0 x1 x2 x3 x4=>([(0,.v .str x0),(2,.loc ar (.pair .no (.pair (.own true 43 .no) .no)) x1),(3,.dead),(4,.dead),(5,.own true 9 .str .no x2),(6,.loc ar (.pair .no (.pair (.own true 43 .no) .no)) x3),(7,.v U2 x4)]:Env)
abbrev oT:=fun x0 x1 x2=>([(2,.loc ar (.pair .no (.pair (.own true 43 .no) .no)) x0),(3,.v U2 x1),(4,.v U2 x2),(6,.dead)]:Env)
abbrev uZ:=fun x0 x1=>([(2,.loc ar (.pair .no (.pair (.own true 43 .no) .no)) x0),(3,.dead),(4,.dead),(6,.loc ar (.pair .no (.pair (.own true 43 .no) .no)) x1)]:Env)
abbrev I1:=fun x0 x1 x2=>([(2,.loc ar .no x0),(3,.v U2 x1),(4,.v U2 x2)]:Env)
abbrev j7:=fun x0=>([(2,.v U2 x0),(3,.dead)]:Env)
abbrev iS:=fun x0=>([(2,.dead),(3,.v U2 x0)]:Env)
abbrev oU:=fun x0=>([(3,.own true 4294967295 U0 .no x0)]:Env)
abbrev lM:=fun x0 x1 x2=>([(3,.own true 4294967295 U0 .no x0),(8,.ref 3 []),(9,.v U2 x1),(10,.v U2 x2)]:Env)
abbrev lN:=fun x0 x1 x2=>([(9,.own true 4294967295 U0 .no x0),(10,.v U2 x1),(11,.v U2 x2)]:Env)
abbrev I2:=fun x0=>([(2,.v U2 x0),(9,.dead),(10,.dead),(11,.dead)]:Env)
abbrev I3:=fun x0 x1=>([(0,.dead),(2,.own true 179 dX .no x0),(3,.v U2 x1)]:Env)
abbrev lO:=fun x0 x1 x2 x3=>([(5,.own true 179 dX .no x0),(15,.own true 4294967295 U0 .no x1),(16,.v U2 x2),(17,.v U2 x3)]:Env)
abbrev u0:=fun x0=>([(5,.own true 179 dX .no x0)]:Env)
abbrev I4:=fun x0 x1=>([(2,.ref 5 []),(3,.v U2 x0),(5,.own true 179 dX .no x1)]:Env)
abbrev u6:=fun x0=>([(1,.dead),(2,.v .bool x0)]:Env)
abbrev u7:=fun x0 x1 x2=>([(0,.v .str x0),(1,.v mD x1),(2,.v .bool x2)]:Env)
abbrev oV:=fun x0 x1 x2 x3=>([(1,.v mD x0),(2,.v .bool x1),(10,.it x2 x3)]:Env)
abbrev I5:=fun x0=>([(1,.dead),(2,.dead),(6,.v U2 x0),(10,.dead)]:Env)
abbrev I6:=fun x0 x1 x2 x3 x4=>([(1,.v mD x0),(2,.v .bool x1),(10,.it x2 x3),(11,.cH [.v .bool x4])]:Env)
abbrev B6:=fun x0 x1=>([(0,.v .str x0),(1,.v mD x1)]:Env)
abbrev lP:=fun x0 x1 x2 x3=>([(1,.loc aH .no x0),(22,.v bp x1),(23,.v U2 x2),(24,.v U2 x3)]:Env)
abbrev I7:=fun x0=>([(1,.dead),(2,.v U2 x0),(22,.dead),(23,.dead),(24,.dead)]:Env)
abbrev lQ:=fun x0 x1 x2 x3=>([(0,.v bp x0),(1,.v bp x1),(12,.v U2 x2),(13,.v U2 x3)]:Env)
abbrev rU:=fun x0=>([(0,.dead),(1,.dead),(4,.v .bool x0),(12,.dead),(13,.dead)]:Env)
abbrev oW:=fun x0 x1=>([(0,.v c8 x0),(1,.v zx x1)]:Env)
abbrev lR:=fun x0 x1 x2 x3=>([(0,.v c8 x0),(1,.v zx x1),(7,.v U2 x2),(8,.v U2 x3)]:Env)
abbrev rV:=fun x0=>([(0,.dead),(1,.dead),(4,.v U2 x0),(7,.dead),(8,.dead)]:Env)
abbrev lS:=fun x0 x1 x2 x3=>([(1,.loc ar .no x0),(24,.v c8 x1),(25,.v U2 x2),(26,.v U2 x3)]:Env)
abbrev I8:=fun x0 x1=>([(1,.dead),(2,.v U2 x0),(3,.v U2 x1),(24,.dead),(25,.dead),(26,.dead)]:Env)
abbrev oX:=fun x0 x1=>([(0,.v U4 x0),(1,.v zt x1)]:Env)
abbrev lT:=fun x0 x1 x2 x3=>([(0,.v U4 x0),(1,.v zt x1),(7,.v U2 x2),(8,.v U2 x3)]:Env)
abbrev I9:=fun x0=>([(0,.dead),(1,.dead),(4,.v .str x0)]:Env)
abbrev oY:=fun x0 x1 x2=>([(0,.v U1 x0),(1,.v .str x1),(5,.v U2 x2)]:Env)
abbrev lU:=fun x0 x1 x2 x3 x4 x5=>([(0,.v U1 x0),(1,.v .str x1),(5,.v U2 x2),(39,.v U1 x3),(40,.v U2 x4),(41,.v U2 x5)]:Env)
abbrev lV:=fun x0 x1 x2 x3=>([(0,.v U1 x0),(7,.v U1 x1),(8,.v U2 x2),(9,.v U2 x3)]:Env)
abbrev Ja:=fun x0 x1=>([(0,.dead),(2,.v .str x0),(3,.v U2 x1),(7,.dead),(8,.dead),(9,.dead)]:Env)
abbrev rW:=fun x0 x1=>([(0,.dead),(2,.v .str x0),(3,.v U2 x1)]:Env)
abbrev uR:=fun x0=>([(0,.v U1 x0),(2,.dead),(3,.dead)]:Env)
abbrev Iu:=fun x0 x1=>([(2,.v .str x0),(3,.v U2 x1),(6,.dead)]:Env)
abbrev gy:=fun x0 x1=>([(0,.v ar x0),(1,.v .str x1)]:Env)
abbrev BX:=fun x0=>([(1,.dead),(4,.v U2 x0)]:Env)
abbrev Rb:=fun x0=>([(0,.dead),(1,.dead),(4,.own true 40 aC .no x0)]:Env)
abbrev Iv:=fun x0 x1 x2 x3=>([(0,.v ar x0),(1,.v U2 x1),(2,.v bp x2),(3,.v bp x3)]:Env)
abbrev Iw:=fun x0=>([(1,.dead),(2,.dead),(3,.dead),(4,.dead),(8,.v .bool x0)]:Env)
abbrev Rc:=fun x0 x1 x2 x3=>([(1,.v U2 x0),(2,.v bp x1),(3,.v bp x2),(4,.loc ar .no x3),(8,.dead)]:Env)
abbrev BY:=fun x0 x1=>([(0,.v .str x0),(1,.v .str x1)]:Env)
abbrev la:=fun x0 x1 x2 x3 x4 x5=>([(0,.at bF x0),(3,.loc aY .no x1),(5,.own true 73 aY .no x2),(12,.v c8 x3),(13,.v U2 x4),(14,.v U2 x5)]:Env)
abbrev uS:=fun x0=>([(5,.own true 73 aY .no x0)]:Env)
abbrev Iy:=fun x0=>([(4,.ref 5 []),(5,.own true 73 aY .no x0)]:Env)
abbrev rM:=fun x0 x1=>([(0,.loc bF (.pair .no (.pair .no (.pair .mp .no))) x0),(1,.v aY x1)]:Env)
abbrev Iz:=fun x0 x1=>([(0,.loc bF (.pair .no (.pair .no (.pair .mp .no))) x0),(3,.dead),(4,.v U2 x1)]:Env)
abbrev oO:=fun x0 x1 x2=>([(0,.loc bF (.pair .no (.pair .no (.pair .mp .no))) x0),(3,.loc aY .no x1),(7,.v U2 x2)]:Env)
abbrev lb:=fun x0 x1 x2 x3 x4 x5=>([(0,.loc bF (.pair .no (.pair .no (.pair .mp .no))) x0),(3,.loc aY .no x1),(7,.v U2 x2),(47,.own true 73 aY .no x3),(48,.v U2 x4),(49,.v U2 x5)]:Env)
abbrev IA:=fun x0 x1=>([(0,.loc bF (.pair .no (.pair .no (.pair .mp .no))) x0),(4,.v U2 x1)]:Env)
abbrev IB:=fun x0 x1=>([(0,.loc bF (.pair .no (.pair .no (.pair .mp .no))) x0),(3,.dead),(4,.own true 27 U5 .no x1)]:Env)
abbrev Re:=fun x0 x1 x2=>([(0,.loc bF (.pair .no (.pair .no (.pair .mp .no))) x0),(3,.loc aY .no x1),(5,.own true 27 U5 .no x2)]:Env)
abbrev fJ:=fun x0 x1 x2 x3 x4=>([(0,.loc bF (.pair .no (.pair .no (.pair .mp .no))) x0),(5,.own true 27 U5 .no x1),(21,.own true 73 aY .no x2),(22,.v U2 x3),(23,.v U2 x4)]:Env)
abbrev Rf:=fun x0 x1 x2 x3 x4 x5=>([(0,.loc bF (.pair .no (.pair .no (.pair .mp .no))) x0),(5,.own true 27 U5 .no x1),(7,.loc aY .no x2),(21,.own true 73 aY .no x3),(22,.v U2 x4),(23,.v U2 x5)]:Env)
abbrev ld:=fun x0 x1 x2 x3 x4 x5 x6 x7 x8=>([(0,.loc bF (.pair .no (.pair .no (.pair .mp .no))) x0),(5,.own true 27 U5 .no x1),(7,.loc aY .no x2),(21,.own true 73 aY .no x3),(22,.v U2 x4),(23,.v U2 x5),(33,.own true 27 U5 .no x6),(34,.v U2 x7),(35,.v U2 x8)]:Env)
abbrev uT:=fun x0 x1=>([(0,.loc bF (.pair .no (.pair .no (.pair .mp .no))) x0),(5,.own true 27 U5 .no x1)]:Env)
abbrev IC:=fun x0 x1=>([(0,.loc bF (.pair .no (.pair .no (.pair .mp .no))) x0),(4,.ref 5 []),(5,.own true 27 U5 .no x1)]:Env)
abbrev kD:=fun x0 x1=>([(0,.v ar x0),(1,.v U5 x1)]:Env)
abbrev lf:=fun x0 x1 x2 x3 x4=>([(2,.loc ar .no x0),(5,.v U2 x1),(8,.v U5 x2),(9,.v U2 x3),(10,.v U2 x4)]:Env)
abbrev kE:=fun x0 x1=>([(0,.v U5 x0),(1,.v U5 x1)]:Env)
abbrev lg:=fun x0 x1 x2 x3 x4=>([(0,.v U5 x0),(1,.v U5 x1),(9,.v U5 x2),(10,.v U2 x3),(11,.v U2 x4)]:Env)
abbrev ID:=fun x0=>([(0,.dead),(1,.dead),(4,.v U2 x0),(9,.dead),(10,.dead),(11,.dead)]:Env)
abbrev mL:=fun x0 x1=>([(0,.v U5 x0),(1,.v U5 x1),(4,.dead)]:Env)
abbrev lj:=fun x0 x1 x2 x3=>([(3,.v U2 x0),(6,.v U5 x1),(7,.v U2 x2),(8,.v U2 x3)]:Env)
abbrev IE:=fun x0=>([(2,.v U2 x0),(3,.dead),(6,.dead),(7,.dead),(8,.dead)]:Env)
abbrev Rg:=fun x0 x1=>([(1,.dead),(2,.dead),(4,.own true 27 U5 .no x0),(5,.v U2 x1)]:Env)
abbrev Rh:=fun x0 x1=>([(2,.dead),(4,.own true 27 U5 .no x0),(5,.v U2 x1),(7,.dead),(8,.dead),(21,.dead)]:Env)
abbrev Ri:=fun x0 x1=>([(4,.ref 10 []),(5,.v U2 x0),(10,.own true 27 U5 .no x1)]:Env)
abbrev Rj:=fun x0 x1 x2=>([(2,.dead),(4,.own true 3 U2 .no x0),(5,.v U2 x1),(6,.v U2 x2),(7,.dead)]:Env)
abbrev ll:=fun x0 x1 x2 x3 x4=>([(2,.loc ar .no x0),(6,.sb 123 5 x1),(9,.v U5 x2),(10,.v U2 x3),(11,.v U2 x4)]:Env)
abbrev IF:=fun x0 x1=>([(2,.dead),(4,.v .str x0),(5,.v .bool x1),(6,.dead),(9,.dead),(10,.dead),(11,.dead)]:Env)
abbrev rN:=fun x0 x1=>([(4,.v .str x0),(5,.v .bool x1),(6,.dead)]:Env)
abbrev uU:=fun x0=>([(4,.dead),(5,.dead),(6,.sb 123 5 x0)]:Env)
abbrev IH:=fun x0 x1=>([(1,.dead),(2,.dead),(4,.own true 3 U2 .no x0),(5,.v U2 x1)]:Env)
abbrev Rk:=fun x0 x1 x2 x3=>([(1,.v U5 x0),(2,.loc ar .no x1),(7,.own true 3 U2 .no x2),(8,.v U2 x3)]:Env)
abbrev gL:=fun x0 x1 x2 x3 x4 x5=>([(2,.loc ar .no x0),(7,.own true 3 U2 .no x1),(8,.v U2 x2),(17,.v U5 x3),(18,.v U2 x4),(19,.v U2 x5)]:Env)
abbrev oQ:=fun x0 x1 x2 x3 x4 x5 x6=>([(2,.loc ar .no x0),(7,.own true 3 U2 .no x1),(8,.v U2 x2),(10,.v U2 x3),(17,.v U5 x4),(18,.v U2 x5),(19,.v U2 x6)]:Env)
abbrev ln:=fun x0 x1 x2 x3 x4 x5 x6 x7 x8=>([(2,.loc ar .no x0),(7,.own true 3 U2 .no x1),(8,.v U2 x2),(10,.v U2 x3),(17,.v U5 x4),(18,.v U2 x5),(19,.v U2 x6),(29,.v U2 x7),(30,.v U2 x8)]:Env)
abbrev lp:=fun x0=>([(7,.own true 3 U2 .no x0)]:Env)
abbrev II:=fun x0 x1=>([(4,.ref 7 []),(5,.v U2 x0),(7,.own true 3 U2 .no x1)]:Env)
abbrev rO:=fun x0 x1=>([(1,.dead),(2,.dead),(4,.v U2 x0),(5,.v U2 x1)]:Env)
abbrev BZ:=fun x0 x1 x2 x3=>([(1,.v .str x0),(2,.loc ar .no x1),(7,.own true 4 .bool .no x2),(8,.v U2 x3)]:Env)
abbrev fK:=fun x0 x1 x2 x3 x4 x5=>([(1,.v .str x0),(2,.loc ar .no x1),(7,.own true 4 .bool .no x2),(8,.v U2 x3),(25,.ref 7 []),(26,.v U2 x4),(27,.v U2 x5)]:Env)
abbrev Rl:=fun x0 x1 x2 x3 x4 x5 x6=>([(1,.v .str x0),(2,.loc ar .no x1),(7,.own true 4 .bool .no x2),(8,.v U2 x3),(9,.v U2 x4),(25,.ref 7 []),(26,.v U2 x5),(27,.v U2 x6)]:Env)
abbrev lq:=fun x0 x1 x2 x3 x4 x5 x6 x7 x8 x9=>([(1,.v .str x0),(2,.loc ar .no x1),(7,.own true 4 .bool .no x2),(8,.v U2 x3),(9,.v U2 x4),(25,.ref 7 []),(26,.v U2 x5),(27,.v U2 x6),(36,.v c8 x7),(37,.v U2 x8),(38,.v U2 x9)]:Env)
abbrev nA:=fun x0 x1=>([(4,.v U2 x0),(5,.v U2 x1)]:Env)
abbrev lr:=fun x0 x1 x2=>([(0,.v U5 x0),(1,.v U5 x1),(5,.v U2 x2)]:Env)
abbrev lu:=fun x0 x1 x2=>([(0,.v U7 x0),(1,.v U7 x1),(5,.v U2 x2)]:Env)
abbrev lv:=fun x0 x1 x2 x3=>([(0,.v U5 x0),(1,.v U5 x1),(12,.v U2 x2),(13,.v U2 x3)]:Env)
abbrev Rm:=fun x0=>([(0,.v .bool x0),(2,.dead),(4,.dead),(6,.dead),(9,.dead)]:Env)
abbrev lx:=fun x0 x1=>([(0,.v bp x0),(5,.v U2 x1)]:Env)
abbrev IK:=fun x0=>([(0,.dead),(4,.v .bool x0),(5,.dead)]:Env)
abbrev ly:=fun x0 x1 x2=>([(1,.loc ar .no x0),(3,.v U2 x1),(4,.v U2 x2)]:Env)
abbrev IL:=fun x0=>([(1,.dead),(2,.v .bool x0),(3,.dead),(4,.dead)]:Env)
abbrev rP:=fun x0=>([(2,.v .bool x0),(3,.dead)]:Env)
abbrev lA:=fun x0 x1 x2=>([(0,.v .str x0),(3,.own true 5 U0 .no x1),(4,.v U2 x2)]:Env)
abbrev uV:=fun x0=>([(3,.own true 5 U0 .no x0)]:Env)
abbrev IM:=fun x0 x1 x2=>([(0,.v ar x0),(1,.v .str x1),(2,.v U2 x2)]:Env)
abbrev Rn:=fun x0 x1 x2 x3=>([(1,.v .str x0),(2,.v U2 x1),(3,.loc ar .no x2),(7,.own true 3 U2 .no x3)]:Env)
abbrev lB:=fun x0 x1 x2 x3 x4=>([(1,.v .str x0),(2,.v U2 x1),(3,.loc ar .no x2),(7,.own true 3 U2 .no x3),(8,.v U2 x4)]:Env)
abbrev IN:=fun x0=>([(6,.ref 7 []),(7,.own true 3 U2 .no x0)]:Env)
abbrev fL:=fun x0 x1 x2 x3 x4=>([(1,.v .str x0),(2,.loc ar .no x1),(7,.own true 4 .bool .no x2),(8,.v U2 x3),(9,.v U2 x4)]:Env)
abbrev lC:=fun x0 x1 x2 x3 x4 x5 x6=>([(1,.v .str x0),(2,.loc ar .no x1),(7,.own true 4 .bool .no x2),(8,.v U2 x3),(9,.v U2 x4),(10,.own true 3 U2 .no x5),(11,.v U2 x6)]:Env)
abbrev Ro:=fun x0=>([(1,.dead),(2,.dead),(4,.v .bool x0),(5,.dead),(6,.dead)]:Env)
variable {N:Nat} {cl:az} {R:Type} {K:KE R}
def S0 (k0:V3→aE→Int→Option R) (x0:V3):Option R:=
k0 x0 [] (0:Int)
theorem aq8 (x0):exec cl N Bn [(0,.v .str x0)] K=(S0 (fun y0 y1 y2=>exec cl N Bm (e0 y0 y1 y2) K) x0):=by
 delta Bn
 generalize Bm=q
 revert q
 refine id ?_
 intro q
 kernel_rfl
def SV (k0:V3→aE→Int→Int→Option R) (x0:V3) (x1:aE) (x2:Int):Option R:=
k0 x0 x1 x2 (0:Int)
theorem aq4 (x0 x1 x2):exec cl N Qq (e0 x0 x1 x2) K=(SV (fun y0 y1 y2 y3=>K .normal (e1 y0 y1 y2 y3)) x0 x1 x2):=by
 kernel_rfl
theorem UC (x0 x1 x2 x3):aj [0,3,4,5] (e1 x0 x1 x2 x3)=(e1 x0 x1 x2 x3):=by kernel_rfl
def SX (k0:V3→aE→Int→Int→Option R) (k1:V3→aE→Int→Int→Option R) (x0:V3) (x1:aE) (x2 x3:Int):Option R:=
ad (decide (x3≤(x0.length:Int))) (ad (x3==(x0.length:Int)) (ad (x2==x3) (k0 x0 x1 x2 x3) (ad (x3==(x0.length:Int)) (if 0≤x2∧x2≤x3∧x3≤(x0.length:Int) then
let v27:V3:=((x0.drop x2.toNat).take (x3.toNat - x2.toNat))
if x1.length+[v27].length≤8796093022208 then
k1 x0 (x1++[v27]) (IntKind.i64.wrap (x3+(1:Int))) (IntKind.i64.wrap (x3+(1:Int)))
else none
else none) (if 0≤x3∧x3 < (x0.length:Int) then
ad (((x0.getD x3.toNat 0).toNat:Int)==(10:Int)) (if 0≤x2∧x2≤x3∧x3≤(x0.length:Int) then
let v32:V3:=((x0.drop x2.toNat).take (x3.toNat - x2.toNat))
if x1.length+[v32].length≤8796093022208 then
k1 x0 (x1++[v32]) (IntKind.i64.wrap (x3+(1:Int))) (IntKind.i64.wrap (x3+(1:Int)))
else none
else none) (k1 x0 x1 x2 (IntKind.i64.wrap (x3+(1:Int))))
else none))) (ad (x3==(x0.length:Int)) (if 0≤x2∧x2≤x3∧x3≤(x0.length:Int) then
let v37:V3:=((x0.drop x2.toNat).take (x3.toNat - x2.toNat))
if x1.length+[v37].length≤8796093022208 then
k1 x0 (x1++[v37]) (IntKind.i64.wrap (x3+(1:Int))) (IntKind.i64.wrap (x3+(1:Int)))
else none
else none) (if 0≤x3∧x3 < (x0.length:Int) then
ad (((x0.getD x3.toNat 0).toNat:Int)==(10:Int)) (if 0≤x2∧x2≤x3∧x3≤(x0.length:Int) then
let v42:V3:=((x0.drop x2.toNat).take (x3.toNat - x2.toNat))
if x1.length+[v42].length≤8796093022208 then
k1 x0 (x1++[v42]) (IntKind.i64.wrap (x3+(1:Int))) (IntKind.i64.wrap (x3+(1:Int)))
else none
else none) (k1 x0 x1 x2 (IntKind.i64.wrap (x3+(1:Int))))
else none))) (k0 x0 x1 x2 x3)
theorem aq5 (x0 x1 x2 x3):exec cl N Hp (e1 x0 x1 x2 x3) K=(SX (fun y0 y1 y2 y3=>K (.exit 0) (e1 y0 y1 y2 y3)) (fun y0 y1 y2 y3=>K .normal (e1 y0 y1 y2 y3)) x0 x1 x2 x3):=by
 kernel_rfl
def KV {R:Type} (k0:V3→aE→Int→Int→Option R):Nat→V3→aE→Int→Int→Option R
 | 0,_,_,_,_=>none
 | m+1,x0,x1,x2,x3=>(SX k0 (KV k0 m) x0 x1 x2 x3)
theorem afj:∀ (m) (x0 x1 x2 x3),iter [0,3,4,5] (fun env K=>exec cl N Hp env K) K m (e1 x0 x1 x2 x3)=KV (fun y0 y1 y2 y3=>K (.exit 0) (e1 y0 y1 y2 y3)) m x0 x1 x2 x3:=by
 intro m
 induction m with
 | zero=>intros; rfl
 | succ m ih=>
   intro x0 x1 x2 x3
   simp only [b6,aq5,b8,b7,b9,UC,ih]
   rfl
theorem adn (x0 x1 x2 x3):aj [3] (e1 x0 x1 x2 x3)=(e2 x1):=by kernel_rfl
def SY (N:Nat) (k0:aE→Option R) (x0:V3) (x1:aE) (x2 x3:Int):Option R:=
KV (fun y0 y1 y2 y3=>k0 y1) N x0 x1 x2 x3
theorem aq6 (x0 x1 x2 x3):exec cl N Hq (e1 x0 x1 x2 x3) K=(SY N (fun y0=>K (.exit 0) (e2 y0)) x0 x1 x2 x3):=by
 simp only [Hq,aT,b5,UC,afj,adn]
 rfl
theorem ado (x0):aj [3] (e2 x0)=(e2 x0):=by kernel_rfl
def SZ (k0:aE→Option R) (x0:aE):Option R:=
k0 x0
theorem aq7 (x0):exec cl N Qt (e2 x0) K=(SZ (fun y0=>K .ret (e3 y0)) x0):=by
 kernel_rfl
def S1 (N:Nat) (k0:aE→Option R) (x0:V3):Option R:=
(S0 (SV (SY N ((SZ k0)))) x0)
theorem aq9 (x0):exec cl N Bn [(0,.v .str x0)] K=(S1 N (fun y0=>K .ret (e3 y0)) x0):=by
 simp only [bQ,bS,bR,bT,aq8,Bm,Qs,aq4,Qr,aT,cj,aq6,cd,cg,cc,ado,aq7]
 rfl
theorem ajR (y0):ag d92 .ret (e3 y0)=some [.own true 9 .str .no y0]:=by kernel_rfl
def Ke (N:Nat) (x0:V3) (k:aE→Option R):Option R:=
(S1 N k x0)
theorem Y4 (x0) (k:List E→Option R):exec cl N Ho [(0,.v .str x0)] (fun e env=>(ag d92 e env).bind k)=Ke N x0 (fun r0=>k [.own true 9 .str .no r0]):=by
 simp only [Ho,aq9,ajR,aq]
 rfl
def BR (S:V3→Option fH):aO:=cE 92 .str S fun b=> [.own true 9 .str .no b]
def fV (N:Nat) (x0:V3):Option fH:=Ke N x0 (fun (r0:aE)=>some (r0))
def S7 (k0:V3→aE→Int→Option R) (x0:V3):Option R:=
k0 x0 [] (0:Int)
theorem arf (x0):exec cl N Bp [(0,.v .str x0)] K=(S7 (fun y0 y1 y2=>exec cl N Bo (e0 y0 y1 y2) K) x0):=by
 delta Bp
 generalize Bo=q
 revert q
 refine id ?_
 intro q
 kernel_rfl
def S2 (k0:V3→aE→Int→Int→Option R) (x0:V3) (x1:aE) (x2:Int):Option R:=
k0 x0 x1 x2 (0:Int)
theorem ara (x0 x1 x2):exec cl N Qu (e0 x0 x1 x2) K=(S2 (fun y0 y1 y2 y3=>K .normal (e1 y0 y1 y2 y3)) x0 x1 x2):=by
 kernel_rfl
theorem UD (x0 x1 x2 x3):aj [0,3,4,5] (e1 x0 x1 x2 x3)=(e1 x0 x1 x2 x3):=by kernel_rfl
def S3 (k0:aE→Option R) (k1:V3→aE→Int→Int→Option R) (k2:V3→aE→Int→Int→Option R) (x0:V3) (x1:aE) (x2 x3:Int):Option R:=
ad (decide (x3≤(x0.length:Int))) (ad (x3==(x0.length:Int)) (ad (x3==x2) (k0 []) (if 0≤x2∧x2≤x3∧x3≤(x0.length:Int) then
let v67:V3:=((x0.drop x2.toNat).take (x3.toNat - x2.toNat))
if x1.length+[v67].length≤8796093022208 then
k1 x0 (x1++[v67]) (IntKind.i64.wrap (x3+(1:Int))) (IntKind.i64.wrap (x3+(1:Int)))
else none
else none)) (if 0≤x3∧x3 < (x0.length:Int) then
ad (((x0.getD x3.toNat 0).toNat:Int)==(32:Int)) (ad (x3==x2) (k0 []) (if 0≤x2∧x2≤x3∧x3≤(x0.length:Int) then
let v72:V3:=((x0.drop x2.toNat).take (x3.toNat - x2.toNat))
if x1.length+[v72].length≤8796093022208 then
k1 x0 (x1++[v72]) (IntKind.i64.wrap (x3+(1:Int))) (IntKind.i64.wrap (x3+(1:Int)))
else none
else none)) (k1 x0 x1 x2 (IntKind.i64.wrap (x3+(1:Int))))
else none)) (k2 x0 x1 x2 x3)
theorem arb (x0 x1 x2 x3):exec cl N Hs (e1 x0 x1 x2 x3) K=(S3 (fun y0=>K .ret (e4 y0)) (fun y0 y1 y2 y3=>K .normal (e1 y0 y1 y2 y3)) (fun y0 y1 y2 y3=>K (.exit 0) (e1 y0 y1 y2 y3)) x0 x1 x2 x3):=by
 kernel_rfl
def KW {R:Type} (k0:aE→Option R) (k1:V3→aE→Int→Int→Option R):Nat→V3→aE→Int→Int→Option R
 | 0,_,_,_,_=>none
 | m+1,x0,x1,x2,x3=>(S3 k0 (KW k0 k1 m) k1 x0 x1 x2 x3)
theorem afk:∀ (m) (x0 x1 x2 x3),iter [0,3,4,5] (fun env K=>exec cl N Hs env K) K m (e1 x0 x1 x2 x3)=KW (fun y0=>K .ret (e4 y0)) (fun y0 y1 y2 y3=>K (.exit 0) (e1 y0 y1 y2 y3)) m x0 x1 x2 x3:=by
 intro m
 induction m with
 | zero=>intros; rfl
 | succ m ih=>
   intro x0 x1 x2 x3
   simp only [b6,arb,b8,b7,b9,UD,ih]
   rfl
theorem adp (x0):aj [2,3] (e4 x0)=(e5 x0):=by kernel_rfl
theorem adq (x0 x1 x2 x3):aj [2,3] (e1 x0 x1 x2 x3)=(e6 x1):=by kernel_rfl
def S4 (N:Nat) (k0:aE→Option R) (k1:aE→Option R) (x0:V3) (x1:aE) (x2 x3:Int):Option R:=
KW k0 (fun y0 y1 y2 y3=>k1 y1) N x0 x1 x2 x3
theorem arc (x0 x1 x2 x3):exec cl N Ht (e1 x0 x1 x2 x3) K=(S4 N (fun y0=>K .ret (e5 y0)) (fun y0=>K (.exit 0) (e6 y0)) x0 x1 x2 x3):=by
 simp only [Ht,aT,b5,UD,afk,adp,adq]
 rfl
theorem adr (x0):aj [2,3] (e5 x0)=(e5 x0):=by kernel_rfl
theorem ads (x0):aj [2,3] (e6 x0)=(e6 x0):=by kernel_rfl
def S6 (k0:aE→Option R) (x0:aE):Option R:=
k0 x0
theorem ard (x0):exec cl N Qx (e6 x0) K=(S6 (fun y0=>K .ret (e3 y0)) x0):=by
 kernel_rfl
def S8 (N:Nat) (k0:aE→Option R) (k1:aE→Option R) (x0:V3):Option R:=
(S7 (S2 (S4 N k0 ((S6 k1)))) x0)
theorem arh (x0):exec cl N Bp [(0,.v .str x0)] K=(S8 N (fun y0=>K .ret (e5 y0)) (fun y0=>K .ret (e3 y0)) x0):=by
 simp only [bQ,bS,bR,bT,arf,Bo,Qw,ara,Qv,aT,cj,arc,cd,cg,cc,adr,ads,ard]
 rfl
theorem ajS (y0):ag d93 .ret (e5 y0)=some [.own true 9 .str .no y0]:=by kernel_rfl
theorem ajT (y0):ag d93 .ret (e3 y0)=some [.own true 9 .str .no y0]:=by kernel_rfl
def Kf (N:Nat) (x0:V3) (k:aE→Option R):Option R:=
(S8 N k k x0)
theorem Y5 (x0) (k:List E→Option R):exec cl N Hr [(0,.v .str x0)] (fun e env=>(ag d93 e env).bind k)=Kf N x0 (fun r0=>k [.own true 9 .str .no r0]):=by
 simp only [Hr,arh,ajS,ajT,aq]
 rfl
def kY (S:V3→Option fH):aO:=cE 93 .str S fun b=> [.own true 9 .str .no b]
def bN (N:Nat) (x0:V3):Option fH:=Kf N x0 (fun (r0:aE)=>some (r0))
def Se (k0:V3→aE→Option R) (x0:V3):Option R:=
k0 x0 [([]:List UInt8)]
theorem amX (x0):exec cl N Ag [(0,.v .str x0)] K=(Se (fun y0 y1=>exec cl N Af [(0,.v .str y0),(3,.own true 9 .str .no y1)] K) x0):=by
 delta Ag
 generalize Af=q
 revert q
 refine id ?_
 intro q
 kernel_rfl
def Sa (k0:V3→aE→Int→Option R) (x0:V3) (x1:aE):Option R:=
k0 x0 x1 (0:Int)
theorem amT (x0 x1):exec cl N Ng [(0,.v .str x0),(3,.own true 9 .str .no x1)] K=(Sa (fun y0 y1 y2=>K .normal (e0 y0 y1 y2)) x0 x1):=by
 kernel_rfl
theorem T8 (x0 x1 x2):aj [0,3,4] (e0 x0 x1 x2)=(e0 x0 x1 x2):=by kernel_rfl
def Sb (k0:V3→aE→Int→Option R) (k1:V3→aE→Int→Option R) (x0:V3) (x1:aE) (x2:Int):Option R:=
ad (decide (x2 < (x0.length:Int))) (if 0≤x2∧x2 < (x0.length:Int) then
ad (((x0.getD x2.toNat 0).toNat:Int)==(32:Int)) (if x1.length+[([]:List UInt8)].length≤8796093022208 then
k0 x0 (x1++[([]:List UInt8)]) (IntKind.i64.wrap (x2+(1:Int)))
else none) (let v102:Int:=(IntKind.i64.wrap ((x1.length:Int) - (1:Int)))
let v103:Int:=(IntKind.i64.wrap ((x1.length:Int) - (1:Int)))
if 0≤v103∧v103 < (x1.length:Int) then
if v103.toNat < x1.length then
let v105:Int:=(IntKind.i64.wrap (x2+(1:Int)))
if 0≤x2∧x2≤v105∧v105≤(x0.length:Int) then
let v106:V3:=((x0.drop x2.toNat).take (v105.toNat - x2.toNat))
if (x1.getD v103.toNat []).length+v106.length≤140737488355328 then
if 0≤v102∧v102 < (x1.length:Int) then
if v102.toNat < x1.length then
k0 x0 (x1.set v102.toNat ((x1.getD v103.toNat [])++v106)) (IntKind.i64.wrap (x2+(1:Int)))
else none
else none
else none
else none
else none
else none)
else none) (k1 x0 x1 x2)
theorem amU (x0 x1 x2):exec cl N ES (e0 x0 x1 x2) K=(Sb (fun y0 y1 y2=>K .normal (e0 y0 y1 y2)) (fun y0 y1 y2=>K (.exit 0) (e0 y0 y1 y2)) x0 x1 x2):=by
 kernel_rfl
def KO {R:Type} (k0:V3→aE→Int→Option R):Nat→V3→aE→Int→Option R
 | 0,_,_,_=>none
 | m+1,x0,x1,x2=>(Sb (KO k0 m) k0 x0 x1 x2)
theorem aeH:∀ (m) (x0 x1 x2),iter [0,3,4] (fun env K=>exec cl N ES env K) K m (e0 x0 x1 x2)=KO (fun y0 y1 y2=>K (.exit 0) (e0 y0 y1 y2)) m x0 x1 x2:=by
 intro m
 induction m with
 | zero=>intros; rfl
 | succ m ih=>
   intro x0 x1 x2
   simp only [b6,amU,b8,b7,b9,T8,ih]
   rfl
theorem abq (x0 x1 x2):aj [3] (e0 x0 x1 x2)=(e2 x1):=by kernel_rfl
def Sc (N:Nat) (k0:aE→Option R) (x0:V3) (x1:aE) (x2:Int):Option R:=
KO (fun y0 y1 y2=>k0 y1) N x0 x1 x2
theorem amV (x0 x1 x2):exec cl N ET (e0 x0 x1 x2) K=(Sc N (fun y0=>K (.exit 0) (e2 y0)) x0 x1 x2):=by
 simp only [ET,aT,b5,T8,aeH,abq]
 rfl
theorem abr (x0):aj [3] (e2 x0)=(e2 x0):=by kernel_rfl
def Sd (k0:aE→Option R) (x0:aE):Option R:=
k0 x0
theorem amW (x0):exec cl N Nj (e2 x0) K=(Sd (fun y0=>K .ret (e3 y0)) x0):=by
 kernel_rfl
def Sf (N:Nat) (k0:aE→Option R) (x0:V3):Option R:=
(Se (Sa (Sc N ((Sd k0)))) x0)
theorem amY (x0):exec cl N Ag [(0,.v .str x0)] K=(Sf N (fun y0=>K .ret (e3 y0)) x0):=by
 simp only [bQ,bS,bR,bT,amX,Af,Ni,amT,Nh,aT,cj,amV,cd,cg,cc,abr,amW]
 rfl
theorem ah8 (y0):ag d138 .ret (e3 y0)=some [.own true 9 .str .no y0]:=by kernel_rfl
def JA (N:Nat) (x0:V3) (k:aE→Option R):Option R:=
(Sf N k x0)
theorem Yb (x0) (k:List E→Option R):exec cl N ER [(0,.v .str x0)] (fun e env=>(ag d138 e env).bind k)=JA N x0 (fun r0=>k [.own true 9 .str .no r0]):=by
 simp only [ER,amY,ah8,aq]
 rfl
def BJ (S:V3→Option fH):aO:=cE 138 .str S fun b=> [.own true 9 .str .no b]
def fT (N:Nat) (x0:V3):Option fH:=JA N x0 (fun (r0:aE)=>some (r0))
def Sw (k0:V3→Option R):Option R:=
k0 ([32,118,100,109,108,110,115,120,103,98]:List UInt8)
theorem ans:exec cl N ND [] K=(Sw (fun y0=>K .ret [(0,.v .str y0)])):=by
 kernel_rfl
theorem aim (y0):ag d148 .ret [(0,.v .str y0)]=some [.v .str y0]:=by kernel_rfl
def JG (k:V3→Option R):Option R:=
(Sw k)
theorem Yi (k:List E→Option R):exec cl N Fc [] (fun e env=>(ag d148 e env).bind k)=JG (fun r0=>k [.v .str r0]):=by
 simp only [Fc,ans,aim,aq]
 rfl
def oH (S:Option V7):aO:={A:=Unit,B:=V3,f:=148,enc:=fun a=> [],dec:=ck,S:=fun a=>S,av:=fun b=> [.v .str b],ok:=(fun es b h=>jn h)}
def dy (N:Nat):Option V7:=JG (fun (r0:V3)=>some (r0))
def Jm (k0:Bool→Option R) (x0:aR):Option R:=
ad (x0.1==(1:Int)) (k0 true) (k0 (x0.1==(2:Int)))
theorem alR (x0):exec cl N Mw [(0,.v aC x0)] K=(Jm (fun y0=>K .ret [(2,.v .bool y0)]) x0):=by
 kernel_rfl
theorem ahG (y0):ag d114 .ret [(2,.v .bool y0)]=some [.v .bool y0]:=by kernel_rfl
def Ce (x0:aR) (k:Bool→Option R):Option R:=
(Jm k x0)
theorem XS (x0) (k:List E→Option R):exec cl N Ee [(0,.v aC x0)] (fun e env=>(ag d114 e env).bind k)=Ce x0 (fun r0=>k [.v .bool r0]):=by
 simp only [Ee,alR,ahG,aq]
 rfl
def BE (S:aR→Option (Bool)):aO:=cE 114 aC S fun b=> [.v .bool b]
def ft (N:Nat) (x0:aR):Option (Bool):=Ce x0 (fun (r0:Bool)=>some (r0))
def Jz (k0:Bool→Option R) (x0:Int):Option R:=
ad (decide (x0≥(97:Int))) (ad (decide (x0≤(122:Int))) (k0 true) (ad (decide (x0≥(48:Int))) (ad (decide (x0≤(57:Int))) (k0 true) (ad (x0==(95:Int)) (k0 true) (ad (x0==(94:Int)) (k0 true) (k0 (x0==(39:Int)))))) (ad (x0==(95:Int)) (k0 true) (ad (x0==(94:Int)) (k0 true) (k0 (x0==(39:Int))))))) (ad (decide (x0≥(48:Int))) (ad (decide (x0≤(57:Int))) (k0 true) (ad (x0==(95:Int)) (k0 true) (ad (x0==(94:Int)) (k0 true) (k0 (x0==(39:Int)))))) (ad (x0==(95:Int)) (k0 true) (ad (x0==(94:Int)) (k0 true) (k0 (x0==(39:Int))))))
theorem amS (x0):exec cl N Nf [(0,.v U0 x0)] K=(Jz (fun y0=>K .ret [(2,.v .bool y0)]) x0):=by
 kernel_rfl
theorem ah7 (y0):ag d137 .ret [(2,.v .bool y0)]=some [.v .bool y0]:=by kernel_rfl
def Cl (x0:Int) (k:Bool→Option R):Option R:=
(Jz k x0)
theorem Ya (x0) (k:List E→Option R):exec cl N EP [(0,.v U0 x0)] (fun e env=>(ag d137 e env).bind k)=Cl x0 (fun r0=>k [.v .bool r0]):=by
 simp only [EP,amS,ah7,aq]
 rfl
def rB (S:Int→Option (Bool)):aO:=cE 137 U0 S fun b=> [.v .bool b]
def dt (N:Nat) (x0:Int):Option (Bool):=Cl x0 (fun (r0:Bool)=>some (r0))
def vG (k0:Int→Option R) (k1:aR→Bool→Option R) (x0:aR):Option R:=
ad (decide (x0.1 < (1:Int))) (k0 (1:Int)) (ad (decide (x0.1 > (9:Int))) (k0 (1:Int)) (ad (x0.1==(1:Int)) (ad (decide (x0.2.1≥(1:Int))) (ad (x0.1==(2:Int)) (k1 x0 (x0.2.1==(2:Int))) (k1 x0 (decide (x0.2.1≤(3:Int))))) (ad (x0.1==(2:Int)) (k1 x0 (x0.2.1==(2:Int))) (k1 x0 false))) (ad (x0.1==(2:Int)) (k1 x0 (x0.2.1==(2:Int))) (k1 x0 (x0.2.1==(0:Int))))))
theorem amd (x0):exec cl N zZ [(0,.v aC x0)] K=(vG (fun y0=>K .ret (e7 y0)) (fun y0 y1=>exec cl N uz [(1,.loc aC .no y0),(3,.v .bool y1)] K) x0):=by
 delta zZ
 generalize uz=q
 revert q
 refine id ?_
 intro q
 kernel_rfl
def vF (k0:Int→Option R) (k1:aR→Option R) (x0:aR) (x1:Bool):Option R:=
ad (!x1) (k0 (6:Int)) (ad (x0.2.2.1==([]:List UInt8)) (k0 (7:Int)) (ad (decide ((x0.2.2.1.length:Int) > (8:Int))) (k0 (3:Int)) (k1 x0)))
theorem amc (x0 x1):exec cl N uz [(1,.loc aC .no x0),(3,.v .bool x1)] K=(vF (fun y0=>K .ret (e7 y0)) (fun y0=>exec cl N zY [(1,.loc aC .no y0),(2,.dead)] K) x0 x1):=by
 delta uz
 generalize zY=q
 revert q
 refine id ?_
 intro q
 kernel_rfl
def vB (k0:aR→Int→Option R) (x0:aR):Option R:=
k0 x0 (0:Int)
theorem al8 (x0):exec cl N MD [(1,.loc aC .no x0),(2,.dead)] K=(vB (fun y0 y1=>K .normal (e8 y0 y1)) x0):=by
 kernel_rfl
theorem TY (x0 x1):aj [1,4] (e8 x0 x1)=(e8 x0 x1):=by kernel_rfl
def vC (dt:Int→Option (Bool)) (k0:Int→Option R) (k1:aR→Int→Option R) (k2:aR→Int→Option R) (x0:aR) (x1:Int):Option R:=
ad (decide (x1 < (x0.2.2.1.length:Int))) (if 0≤x1∧x1 < (x0.2.2.1.length:Int) then
(dt ((x0.2.2.1.getD x1.toNat 0).toNat:Int)).bind fun r259=>
ad (!r259) (k0 (2:Int)) (k1 x0 (IntKind.i64.wrap (x1+(1:Int))))
else none) (k2 x0 x1)
theorem al9 (dt) (h137:(rB dt).holds cl) (x0 x1):exec cl N Em (e8 x0 x1) K=(vC dt (fun y0=>K .ret (e9 y0)) (fun y0 y1=>K .normal (e8 y0 y1)) (fun y0 y1=>K (.exit 0) (e8 y0 y1)) x0 x1):=by
 rw [←aN h137]
 kernel_rfl
def s4 {R:Type} (dt:Int→Option (Bool)) (k0:Int→Option R) (k1:aR→Int→Option R):Nat→aR→Int→Option R
 | 0,_,_=>none
 | m+1,x0,x1=>(vC dt k0 (s4 dt k0 k1 m) k1 x0 x1)
theorem aeB (dt) (h137:(rB dt).holds cl):∀ (m) (x0 x1),iter [1,4] (fun env K=>exec cl N Em env K) K m (e8 x0 x1)=s4 dt (fun y0=>K .ret (e9 y0)) (fun y0 y1=>K (.exit 0) (e8 y0 y1)) m x0 x1:=by
 intro m
 induction m with
 | zero=>intros; rfl
 | succ m ih=>
   intro x0 x1
   simp only [b6,al9 dt h137,b8,b7,b9,TY,ih]
   rfl
theorem aa4 (x0):aj [2] (e9 x0)=[(2,.v U2 x0)]:=by kernel_rfl
theorem aa5 (x0 x1):aj [2] (e8 x0 x1)=[(2,.dead)]:=by kernel_rfl
def vD (N:Nat) (dt:Int→Option (Bool)) (k0:Int→Option R) (k1:Option R) (x0:aR) (x1:Int):Option R:=
s4 dt k0 (fun y0 y1=>k1) N x0 x1
theorem ama (dt) (h137:(rB dt).holds cl) (x0 x1):exec cl N En (e8 x0 x1) K=(vD N dt (fun y0=>K .ret [(2,.v U2 y0)]) (K (.exit 0) [(2,.dead)]) x0 x1):=by
 simp only [En,aT,b5,TY,aeB dt h137,aa4,aa5]
 rfl
theorem aa6 (x0):aj [2] [(2,.v U2 x0)]=[(2,.v U2 x0)]:=by kernel_rfl
theorem aa7:aj [2] [(2,.dead)]=[(2,.dead)]:=by kernel_rfl
def vE (k0:Int→Option R):Option R:=
k0 (0:Int)
theorem amb:exec cl N MG [(2,.dead)] K=(vE (fun y0=>K .ret [(2,.v U2 y0)])):=by
 kernel_rfl
def vH (N:Nat) (dt:Int→Option (Bool)) (k0:Int→Option R) (k1:Int→Option R) (x0:aR):Option R:=
(vG k0 (vF k0 (vB (vD N dt k1 (vE k1)))) x0)
theorem ame (dt) (h137:(rB dt).holds cl) (x0):exec cl N zZ [(0,.v aC x0)] K=(vH N dt (fun y0=>K .ret (e7 y0)) (fun y0=>K .ret [(2,.v U2 y0)]) x0):=by
 simp only [bQ,bS,bR,bT,amd,amc,zY,MF,al8,ME,aT,cj,ama dt h137,cd,cg,cc,aa6,aa7,amb]
 rfl
theorem ahL (y0):ag d117 .ret (e7 y0)=some [.v U2 y0]:=by kernel_rfl
theorem ahM (y0):ag d117 .ret [(2,.v U2 y0)]=some [.v U2 y0]:=by kernel_rfl
def sc (N:Nat) (dt:Int→Option (Bool)) (x0:aR) (k:Int→Option R):Option R:=
(vH N dt k k x0)
theorem XV (dt) (h137:(rB dt).holds cl) (x0) (k:List E→Option R):exec cl N El [(0,.v aC x0)] (fun e env=>(ag d117 e env).bind k)=sc N dt x0 (fun r0=>k [.v U2 r0]):=by
 simp only [El,ame dt h137,ahL,ahM,aq]
 rfl
def mI (S:aR→Option (Int)):aO:=cE 117 aC S fun b=> [.v U2 b]
def bM (N:Nat) (x0:aR):Option (Int):=sc N (dt N) x0 (fun (r0:Int)=>some (r0))
def Sj (k0:V3→aR→Int→Option R) (x0:V3):Option R:=
k0 x0 ((0:Int),((0:Int),([],()))) (0:Int)
theorem am2 (x0):exec cl N Ai [(0,.v .str x0)] K=(Sj (fun y0 y1 y2=>exec cl N Ah (kC y0 y1 y2) K) x0):=by
 delta Ai
 generalize Ah=q
 revert q
 refine id ?_
 intro q
 kernel_rfl
theorem CU (x0 x1 x2):aj [0,2,4] (kC x0 x1 x2)=(kC x0 x1 x2):=by kernel_rfl
def Sg (k0:V3→aR→Int→Option R) (k1:V3→aR→Int→Option R) (x0:V3) (x1:aR) (x2:Int):Option R:=
ad (decide (x2 < (x0.length:Int))) (if 0≤x2∧x2 < (x0.length:Int) then
ad (((x0.getD x2.toNat 0).toNat:Int) != (47:Int)) (k0 x0 x1 (IntKind.i64.wrap (x2+(1:Int)))) (k1 x0 x1 x2)
else none) (k1 x0 x1 x2)
theorem amZ (x0 x1 x2):exec cl N EV (kC x0 x1 x2) K=(Sg (fun y0 y1 y2=>K .normal (kC y0 y1 y2)) (fun y0 y1 y2=>K (.exit 0) (kC y0 y1 y2)) x0 x1 x2):=by
 kernel_rfl
def KP {R:Type} (k0:V3→aR→Int→Option R):Nat→V3→aR→Int→Option R
 | 0,_,_,_=>none
 | m+1,x0,x1,x2=>(Sg (KP k0 m) k0 x0 x1 x2)
theorem aeI:∀ (m) (x0 x1 x2),iter [0,2,4] (fun env K=>exec cl N EV env K) K m (kC x0 x1 x2)=KP (fun y0 y1 y2=>K (.exit 0) (kC y0 y1 y2)) m x0 x1 x2:=by
 intro m
 induction m with
 | zero=>intros; rfl
 | succ m ih=>
   intro x0 x1 x2
   simp only [b6,amZ,b8,b7,b9,CU,ih]
   rfl
def Sh (N:Nat) (k0:V3→aR→Int→Option R) (x0:V3) (x1:aR) (x2:Int):Option R:=
KP k0 N x0 x1 x2
theorem am0 (x0 x1 x2):exec cl N EW (kC x0 x1 x2) K=(Sh N (fun y0 y1 y2=>K (.exit 0) (kC y0 y1 y2)) x0 x1 x2):=by
 simp only [EW,aT,b5,CU,aeI,CU]
 rfl
def Si (k0:aR→Bool→Option R) (k1:aR→V3→aR→Option R) (x0:V3) (x1:aR) (x2:Int):Option R:=
ad (decide (x2 < (x0.length:Int))) (let v280:Int:=(IntKind.i64.wrap (x2+(1:Int)))
if 0≤v280∧v280≤(x0.length:Int)∧(x0.length:Int)≤(x0.length:Int) then
let v281:V3:=((x0.drop v280.toNat).take ((x0.length:Int).toNat - v280.toNat))
ad (v281==([]:List UInt8)) (k0 ((0:Int),(0:Int),[],()) false) (if 0≤(0:Int)∧(0:Int)≤x2∧x2≤(x0.length:Int) then
k1 x1 v281 ((0:Int),(0:Int),((x0.drop (0:Int).toNat).take (x2.toNat - (0:Int).toNat)),())
else none)
else none) (ad (([]:List UInt8)==([]:List UInt8)) (k0 ((0:Int),(0:Int),[],()) false) (if 0≤(0:Int)∧(0:Int)≤x2∧x2≤(x0.length:Int) then
k1 x1 ([]:List UInt8) ((0:Int),(0:Int),((x0.drop (0:Int).toNat).take (x2.toNat - (0:Int).toNat)),())
else none))
theorem am1 (x0 x1 x2):exec cl N EX (kC x0 x1 x2) K=(Si (fun y0 y1=>K .ret (Ix y0 y1)) (fun y0 y1 y2=>exec cl N Aj (oP y0 y1 y2) K) x0 x1 x2):=by
 delta EX
 generalize Aj=q
 revert q
 refine id ?_
 intro q
 kernel_rfl
def Sl (k0:aR→V3→aR→Int→Option R) (x0:aR) (x1:V3) (x2:aR):Option R:=
k0 x0 x1 x2 (1:Int)
theorem am4 (x0 x1 x2):exec cl N Nl (oP x0 x1 x2) K=(Sl (fun y0 y1 y2 y3=>K .normal (lh y0 y1 y2 y3)) x0 x1 x2):=by
 kernel_rfl
theorem T9 (x0 x1 x2 x3):aj [2,5,6,7] (lh x0 x1 x2 x3)=(lh x0 x1 x2 x3):=by kernel_rfl
def Sm (dy:Option V7) (k0:aR→V3→aR→Int→Option R) (k1:aR→V3→aR→Int→Option R) (x0:aR) (x1:V3) (x2:aR) (x3:Int):Option R:=
(dy).bind fun r290=>
ad (decide (x3 < (r290.length:Int))) ((dy).bind fun r292=>
if 0≤x3∧x3 < (r292.length:Int) then
if 0≤(0:Int)∧(0:Int) < (x1.length:Int) then
ad (((r292.getD x3.toNat 0).toNat:Int)==((x1.getD (0:Int).toNat 0).toNat:Int)) (k0 x0 x1 (x3,x2.2) (IntKind.i64.wrap (x3+(1:Int)))) (k0 x0 x1 x2 (IntKind.i64.wrap (x3+(1:Int))))
else none
else none) (k1 x0 x1 x2 x3)
theorem am5 (dy) (h148:(oH dy).holds cl) (x0 x1 x2 x3):exec cl N EY (lh x0 x1 x2 x3) K=(Sm dy (fun y0 y1 y2 y3=>K .normal (lh y0 y1 y2 y3)) (fun y0 y1 y2 y3=>K (.exit 2) (lh y0 y1 y2 y3)) x0 x1 x2 x3):=by
 rw [←aN h148]
 kernel_rfl
def KQ {R:Type} (dy:Option V7) (k0:aR→V3→aR→Int→Option R):Nat→aR→V3→aR→Int→Option R
 | 0,_,_,_,_=>none
 | m+1,x0,x1,x2,x3=>(Sm dy (KQ dy k0 m) k0 x0 x1 x2 x3)
theorem aeJ (dy) (h148:(oH dy).holds cl):∀ (m) (x0 x1 x2 x3),iter [2,5,6,7] (fun env K=>exec cl N EY env K) K m (lh x0 x1 x2 x3)=KQ dy (fun y0 y1 y2 y3=>K (.exit 2) (lh y0 y1 y2 y3)) m x0 x1 x2 x3:=by
 intro m
 induction m with
 | zero=>intros; rfl
 | succ m ih=>
   intro x0 x1 x2 x3
   simp only [b6,am5 dy h148,b8,b7,b9,T9,ih]
   rfl
theorem abt (x0 x1 x2 x3):aj [2,5,6] (lh x0 x1 x2 x3)=(oP x0 x1 x2):=by kernel_rfl
def Sn (N:Nat) (dy:Option V7) (k0:aR→V3→aR→Option R) (x0:aR) (x1:V3) (x2:aR) (x3:Int):Option R:=
KQ dy (fun y0 y1 y2 y3=>k0 y0 y1 y2) N x0 x1 x2 x3
theorem am6 (dy) (h148:(oH dy).holds cl) (x0 x1 x2 x3):exec cl N EZ (lh x0 x1 x2 x3) K=(Sn N dy (fun y0 y1 y2=>K (.exit 2) (oP y0 y1 y2)) x0 x1 x2 x3):=by
 simp only [EZ,aT,b5,T9,aeJ dy h148,abt]
 rfl
theorem abu (x0 x1 x2):aj [2,5,6] (oP x0 x1 x2)=(oP x0 x1 x2):=by kernel_rfl
def Sp (ft:aR→Option (Bool)) (bM:aR→Option (Int)) (k0:aR→Bool→Option R) (x0:aR) (x1:V3) (x2:aR):Option R:=
if 0≤(1:Int)∧(1:Int)≤(x1.length:Int)∧(x1.length:Int)≤(x1.length:Int) then
let v298:V3:=((x1.drop (1:Int).toNat).take ((x1.length:Int).toNat - (1:Int).toNat))
(ft x2).bind fun r299=>
ad r299 (ad ((v298.length:Int)==(1:Int)) (if 0≤(0:Int)∧(0:Int) < (v298.length:Int) then
ad (decide (((v298.getD (0:Int).toNat 0).toNat:Int)≥(49:Int))) (if 0≤(0:Int)∧(0:Int) < (v298.length:Int) then
ad (decide (((v298.getD (0:Int).toNat 0).toNat:Int)≤(51:Int))) (if 0≤(0:Int)∧(0:Int) < (v298.length:Int) then
let v307:Int:=(IntKind.i64.wrap ((IntKind.i64.wrap ((v298.getD (0:Int).toNat 0).toNat:Int)) - (48:Int)))
ad (([]:List UInt8)==([]:List UInt8)) ((bM (x2.1,(v307,x2.2.2))).bind fun r309=>
k0 (x2.1,(v307,x2.2.2)) (r309==(0:Int))) (k0 (x2.1,(v307,x2.2.2)) false)
else none) (ad (v298==([]:List UInt8)) ((bM x2).bind fun r312=>
k0 x2 (r312==(0:Int))) (k0 x2 false))
else none) (ad (v298==([]:List UInt8)) ((bM x2).bind fun r315=>
k0 x2 (r315==(0:Int))) (k0 x2 false))
else none) (ad (v298==([]:List UInt8)) ((bM x2).bind fun r318=>
k0 x2 (r318==(0:Int))) (k0 x2 false))) (ad (v298==([]:List UInt8)) ((bM x2).bind fun r321=>
k0 x2 (r321==(0:Int))) (k0 x2 false))
else none
theorem am7 (ft) (bM) (h114:(BE ft).holds cl) (h117:(mI bM).holds cl) (x0 x1 x2):exec cl N Np (oP x0 x1 x2) K=(Sp ft bM (fun y0 y1=>K .ret (IG y0 y1)) x0 x1 x2):=by
 rw [←aN h114]
 rw [←aN h117]
 kernel_rfl
def Sk (N:Nat) (ft:aR→Option (Bool)) (bM:aR→Option (Int)) (dy:Option V7) (k0:aR→Bool→Option R) (k1:aR→Bool→Option R) (x0:V3):Option R:=
(Sj (Sh N ((Si k0 (Sl (Sn N dy ((Sp ft bM k1))))))) x0)
theorem am3 (ft) (bM) (dy) (h114:(BE ft).holds cl) (h117:(mI bM).holds cl) (h148:(oH dy).holds cl) (x0):exec cl N Ai [(0,.v .str x0)] K=(Sk N ft bM dy (fun y0 y1=>K .ret (Ix y0 y1)) (fun y0 y1=>K .ret (IG y0 y1)) x0):=by
 simp only [bQ,bS,bR,bT,am2,Ah,Nk,aT,cj,am0,cd,cg,cc,CU,am1,Aj,No,am4,Nn,am6 dy h148,abu,am7 ft bM h114 h117]
 rfl
theorem ah9 (y0 y1):ag d139 .ret (Ix y0 y1)=some [.v aC y0,.v .bool y1]:=by kernel_rfl
theorem aia (y0 y1):ag d139 .ret (IG y0 y1)=some [.v aC y0,.v .bool y1]:=by kernel_rfl
def JB (N:Nat) (ft:aR→Option (Bool)) (bM:aR→Option (Int)) (dy:Option V7) (x0:V3) (k:aR→Bool→Option R):Option R:=
(Sk N ft bM dy k k x0)
theorem Yc (ft) (bM) (dy) (h114:(BE ft).holds cl) (h117:(mI bM).holds cl) (h148:(oH dy).holds cl) (x0) (k:List E→Option R):exec cl N EU [(0,.v .str x0)] (fun e env=>(ag d139 e env).bind k)=JB N ft bM dy x0 (fun r0 r1=>k [.v aC r0,.v .bool r1]):=by
 simp only [EU,am3 ft bM dy h114 h117 h148,ah9,aia,aq]
 rfl
def rC (S:V3→Option oy):aO:=cE 139 .str S fun b=> [.v aC b.1,.v .bool b.2]
def dK (N:Nat) (x0:V3):Option oy:=JB N (ft N) (bM N) (dy N) x0 (fun (r0:aR) (r1:Bool)=>some (r0,r1))
def R0 (fT:V3→Option fH) (k0:aA→Int→Option R) (k1:aA→aE→Option R) (x0:V3):Option R:=
ad (decide ((x0.length:Int) > (4000:Int))) (k0 [] (3:Int)) (ad (x0==([]:List UInt8)) (k0 [] (0:Int)) ((fT x0).bind fun r328=>
k1 [] r328))
theorem amj (fT) (h138:(BJ fT).holds cl) (x0):exec cl N z7 [(0,.v .str x0)] K=(R0 fT (fun y0 y1=>K .ret (IJ y0 y1)) (fun y0 y1=>exec cl N z6 [(4,.own true 40 aC .no y0),(5,.own true 9 .str .no y1)] K) x0):=by
 rw [←aN h138]
 delta z7
 generalize z6=q
 revert q
 refine id ?_
 intro q
 kernel_rfl
def RW (k0:aA→aE→Int→Option R) (x0:aA) (x1:aE):Option R:=
k0 x0 x1 (0:Int)
theorem amf (x0 x1):exec cl N MH [(4,.own true 40 aC .no x0),(5,.own true 9 .str .no x1)] K=(RW (fun y0 y1 y2=>K .normal (lz y0 y1 y2)) x0 x1):=by
 kernel_rfl
theorem TZ (x0 x1 x2):aj [4,5,6] (lz x0 x1 x2)=(lz x0 x1 x2):=by kernel_rfl
def RX (dK:V3→Option oy) (k0:aA→Int→Option R) (k1:aA→aE→Int→Option R) (k2:aA→aE→Int→Option R) (x0:aA) (x1:aE) (x2:Int):Option R:=
ad (decide (x2 < (x1.length:Int))) (if 0≤x2∧x2 < (x1.length:Int) then
if x2.toNat < x1.length then
(dK (x1.getD x2.toNat [])).bind fun r331=>
ad (!r331.2) (k0 [] (2:Int)) (if x0.length+[r331.1].length≤4398046511104 then
k1 (x0++[r331.1]) x1 (IntKind.i64.wrap (x2+(1:Int)))
else none)
else none
else none) (k2 x0 x1 x2)
theorem amg (dK) (h139:(rC dK).holds cl) (x0 x1 x2):exec cl N Ep (lz x0 x1 x2) K=(RX dK (fun y0 y1=>K .ret (IP y0 y1)) (fun y0 y1 y2=>K .normal (lz y0 y1 y2)) (fun y0 y1 y2=>K (.exit 0) (lz y0 y1 y2)) x0 x1 x2):=by
 rw [←aN h139]
 kernel_rfl
def KM {R:Type} (dK:V3→Option oy) (k0:aA→Int→Option R) (k1:aA→aE→Int→Option R):Nat→aA→aE→Int→Option R
 | 0,_,_,_=>none
 | m+1,x0,x1,x2=>(RX dK k0 (KM dK k0 k1 m) k1 x0 x1 x2)
theorem aeC (dK) (h139:(rC dK).holds cl):∀ (m) (x0 x1 x2),iter [4,5,6] (fun env K=>exec cl N Ep env K) K m (lz x0 x1 x2)=KM dK (fun y0 y1=>K .ret (IP y0 y1)) (fun y0 y1 y2=>K (.exit 0) (lz y0 y1 y2)) m x0 x1 x2:=by
 intro m
 induction m with
 | zero=>intros; rfl
 | succ m ih=>
   intro x0 x1 x2
   simp only [b6,amg dK h139,b8,b7,b9,TZ,ih]
   rfl
theorem aa8 (x0 x1):aj [2,3,4] (IP x0 x1)=(oR x0 x1):=by kernel_rfl
theorem aa9 (x0 x1 x2):aj [2,3,4] (lz x0 x1 x2)=(uW x0):=by kernel_rfl
def RY (N:Nat) (dK:V3→Option oy) (k0:aA→Int→Option R) (k1:aA→Option R) (x0:aA) (x1:aE) (x2:Int):Option R:=
KM dK k0 (fun y0 y1 y2=>k1 y0) N x0 x1 x2
theorem amh (dK) (h139:(rC dK).holds cl) (x0 x1 x2):exec cl N Er (lz x0 x1 x2) K=(RY N dK (fun y0 y1=>K .ret (oR y0 y1)) (fun y0=>K (.exit 0) (uW y0)) x0 x1 x2):=by
 simp only [Er,aT,b5,TZ,aeC dK h139,aa8,aa9]
 rfl
theorem aba (x0 x1):aj [2,3,4] (oR x0 x1)=(oR x0 x1):=by kernel_rfl
theorem abb (x0):aj [2,3,4] (uW x0)=(uW x0):=by kernel_rfl
def RZ (k0:aA→Int→Option R) (k1:Int→aA→Option R) (x0:aA):Option R:=
ad (decide ((x0.length:Int) > (200:Int))) (k0 [] (2:Int)) (k1 (0:Int) x0)
theorem ami (x0):exec cl N MK (uW x0) K=(RZ (fun y0 y1=>K .ret (oR y0 y1)) (fun y0 y1=>K .ret (IQ y0 y1)) x0):=by
 kernel_rfl
def R1 (N:Nat) (fT:V3→Option fH) (dK:V3→Option oy) (k0:aA→Int→Option R) (k1:aA→Int→Option R) (k2:Int→aA→Option R) (x0:V3):Option R:=
(R0 fT k0 (RW (RY N dK k1 ((RZ k1 k2)))) x0)
theorem amk (fT) (dK) (h138:(BJ fT).holds cl) (h139:(rC dK).holds cl) (x0):exec cl N z7 [(0,.v .str x0)] K=(R1 N fT dK (fun y0 y1=>K .ret (IJ y0 y1)) (fun y0 y1=>K .ret (oR y0 y1)) (fun y0 y1=>K .ret (IQ y0 y1)) x0):=by
 simp only [bQ,bS,bR,bT,amj fT h138,z6,MJ,amf,MI,aT,cj,amh dK h139,cd,cg,cc,aba,abb,ami]
 rfl
theorem ahN (y0 y1):ag d118 .ret (IJ y0 y1)=some [.own true 40 aC .no y0,.v U2 y1]:=by kernel_rfl
theorem ahO (y0 y1):ag d118 .ret (oR y0 y1)=some [.own true 40 aC .no y0,.v U2 y1]:=by kernel_rfl
theorem ahP (y0 y1):ag d118 .ret (IQ y0 y1)=some [.own true 40 aC .no y1,.v U2 y0]:=by kernel_rfl
def Jn (N:Nat) (fT:V3→Option fH) (dK:V3→Option oy) (x0:V3) (k:aA→Int→Option R):Option R:=
(R1 N fT dK k k (fun y0 y1=>k y1 y0) x0)
theorem XW (fT) (dK) (h138:(BJ fT).holds cl) (h139:(rC dK).holds cl) (x0) (k:List E→Option R):exec cl N Eo [(0,.v .str x0)] (fun e env=>(ag d118 e env).bind k)=Jn N fT dK x0 (fun r0 r1=>k [.own true 40 aC .no r0,.v U2 r1]):=by
 simp only [Eo,amk fT dK h138 h139,ahN,ahO,ahP,aq]
 rfl
def BG (S:V3→Option uf):aO:=cE 118 .str S fun b=> [.own true 40 aC .no b.1,.v U2 b.2]
def fR (N:Nat) (x0:V3):Option uf:=Jn N (fT N) (dK N) x0 (fun (r0:aA) (r1:Int)=>some (r0,r1))
def Jy (k0:Bool→Option R) (x0:Int):Option R:=
ad (decide (x0≥(48:Int))) (k0 (decide (x0≤(57:Int)))) (k0 false)
theorem amR (x0):exec cl N Nc [(0,.v U0 x0)] K=(Jy (fun y0=>K .ret [(2,.v .bool y0)]) x0):=by
 kernel_rfl
theorem ah6 (y0):ag d136 .ret [(2,.v .bool y0)]=some [.v .bool y0]:=by kernel_rfl
def Ck (x0:Int) (k:Bool→Option R):Option R:=
(Jy k x0)
theorem X9 (x0) (k:List E→Option R):exec cl N EO [(0,.v U0 x0)] (fun e env=>(ag d136 e env).bind k)=Ck x0 (fun r0=>k [.v .bool r0]):=by
 simp only [EO,amR,ah6,aq]
 rfl
def kz (S:Int→Option (Bool)):aO:=cE 136 U0 S fun b=> [.v .bool b]
def bw (N:Nat) (x0:Int):Option (Bool):=Ck x0 (fun (r0:Bool)=>some (r0))
def Su (k0:V3→Int→Option R) (x0:V3):Option R:=
k0 x0 (0:Int)
theorem anc (x0):exec cl N Al [(0,.v .str x0)] K=(Su (fun y0 y1=>exec cl N Ak (cm y0 y1) K) x0):=by
 delta Al
 generalize Ak=q
 revert q
 refine id ?_
 intro q
 kernel_rfl
theorem Ua (x0 x1):aj [0,3] (cm x0 x1)=(cm x0 x1):=by kernel_rfl
def Sq (bw:Int→Option (Bool)) (k0:V3→Int→Option R) (k1:V3→Int→Option R) (x0:V3) (x1:Int):Option R:=
ad (decide (x1 < (x0.length:Int))) (if 0≤x1∧x1 < (x0.length:Int) then
(bw ((x0.getD x1.toNat 0).toNat:Int)).bind fun r349=>
ad r349 (k0 x0 (IntKind.i64.wrap (x1+(1:Int)))) (k1 x0 x1)
else none) (k1 x0 x1)
theorem am9 (bw) (h136:(kz bw).holds cl) (x0 x1):exec cl N E1 (cm x0 x1) K=(Sq bw (fun y0 y1=>K .normal (cm y0 y1)) (fun y0 y1=>K (.exit 0) (cm y0 y1)) x0 x1):=by
 rw [←aN h136]
 kernel_rfl
def KR {R:Type} (bw:Int→Option (Bool)) (k0:V3→Int→Option R):Nat→V3→Int→Option R
 | 0,_,_=>none
 | m+1,x0,x1=>(Sq bw (KR bw k0 m) k0 x0 x1)
theorem aeK (bw) (h136:(kz bw).holds cl):∀ (m) (x0 x1),iter [0,3] (fun env K=>exec cl N E1 env K) K m (cm x0 x1)=KR bw (fun y0 y1=>K (.exit 0) (cm y0 y1)) m x0 x1:=by
 intro m
 induction m with
 | zero=>intros; rfl
 | succ m ih=>
   intro x0 x1
   simp only [b6,am9 bw h136,b8,b7,b9,Ua,ih]
   rfl
theorem abv (x0 x1):aj [3] (cm x0 x1)=[(3,.v U2 x1)]:=by kernel_rfl
def Sr (N:Nat) (bw:Int→Option (Bool)) (k0:Int→Option R) (x0:V3) (x1:Int):Option R:=
KR bw (fun y0 y1=>k0 y1) N x0 x1
theorem ana (bw) (h136:(kz bw).holds cl) (x0 x1):exec cl N E2 (cm x0 x1) K=(Sr N bw (fun y0=>K (.exit 0) [(3,.v U2 y0)]) x0 x1):=by
 simp only [E2,aT,b5,Ua,aeK bw h136,abv]
 rfl
theorem abw (x0):aj [3] [(3,.v U2 x0)]=[(3,.v U2 x0)]:=by kernel_rfl
def Ss (k0:Int→Option R) (x0:Int):Option R:=
k0 x0
theorem anb (x0):exec cl N Ns [(3,.v U2 x0)] K=(Ss (fun y0=>K .ret [(2,.v U2 y0)]) x0):=by
 kernel_rfl
def Sv (N:Nat) (bw:Int→Option (Bool)) (k0:Int→Option R) (x0:V3):Option R:=
(Su (Sr N bw ((Ss k0))) x0)
theorem ane (bw) (h136:(kz bw).holds cl) (x0):exec cl N Al [(0,.v .str x0)] K=(Sv N bw (fun y0=>K .ret [(2,.v U2 y0)]) x0):=by
 simp only [bQ,bS,bR,bT,anc,Ak,Nr,aT,cj,ana bw h136,cd,cg,cc,abw,anb]
 rfl
theorem aid (y0):ag d140 .ret [(2,.v U2 y0)]=some [.v U2 y0]:=by kernel_rfl
def JD (N:Nat) (bw:Int→Option (Bool)) (x0:V3) (k:Int→Option R):Option R:=
(Sv N bw k x0)
theorem Yd (bw) (h136:(kz bw).holds cl) (x0) (k:List E→Option R):exec cl N E0 [(0,.v .str x0)] (fun e env=>(ag d140 e env).bind k)=JD N bw x0 (fun r0=>k [.v U2 r0]):=by
 simp only [E0,ane bw h136,aid,aq]
 rfl
def BK (S:V3→Option (Int)):aO:=cE 140 .str S fun b=> [.v U2 b]
def fU (N:Nat) (x0:V3):Option (Int):=JD N (bw N) x0 (fun (r0:Int)=>some (r0))
def R6 (fU:V3→Option (Int)) (k0:Int→Bool→Option R) (k1:V3→Int→Option R) (x0:V3):Option R:=
ad (x0==([]:List UInt8)) (k0 (0:Int) false) (ad (decide ((x0.length:Int) > (6:Int))) (k0 (0:Int) false) ((fU x0).bind fun r365=>
ad (r365 != (x0.length:Int)) (k0 (0:Int) false) (if 0≤(0:Int)∧(0:Int) < (x0.length:Int) then
ad (((x0.getD (0:Int).toNat 0).toNat:Int)==(48:Int)) (ad (decide ((x0.length:Int) > (1:Int))) (k0 (0:Int) false) (k1 x0 (0:Int))) (k1 x0 (0:Int))
else none)))
theorem amp (fU) (h140:(BK fU).holds cl) (x0):exec cl N Aa [(0,.v .str x0)] K=(R6 fU (fun y0 y1=>K .ret (IS y0 y1)) (fun y0 y1=>exec cl N z8 [(0,.v .str y0),(4,.v U2 y1)] K) x0):=by
 rw [←aN h140]
 delta Aa
 generalize z8=q
 revert q
 refine id ?_
 intro q
 kernel_rfl
def R2 (k0:V3→Int→Int→Option R) (x0:V3) (x1:Int):Option R:=
k0 x0 x1 (0:Int)
theorem aml (x0 x1):exec cl N ML [(0,.v .str x0),(4,.v U2 x1)] K=(R2 (fun y0 y1 y2=>K .normal (lD y0 y1 y2)) x0 x1):=by
 kernel_rfl
theorem T4 (x0 x1 x2):aj [0,4,5] (lD x0 x1 x2)=(lD x0 x1 x2):=by kernel_rfl
def R3 (k0:V3→Int→Int→Option R) (k1:V3→Int→Int→Option R) (x0:V3) (x1 x2:Int):Option R:=
ad (decide (x2 < (x0.length:Int))) (if 0≤x2∧x2 < (x0.length:Int) then
k0 x0 (IntKind.i64.wrap ((IntKind.i64.wrap ((10:Int) * x1))+(IntKind.i64.wrap (IntKind.u8.wrap (((x0.getD x2.toNat 0).toNat:Int) - (48:Int)))))) (IntKind.i64.wrap (x2+(1:Int)))
else none) (k1 x0 x1 x2)
theorem amm (x0 x1 x2):exec cl N Et (lD x0 x1 x2) K=(R3 (fun y0 y1 y2=>K .normal (lD y0 y1 y2)) (fun y0 y1 y2=>K (.exit 0) (lD y0 y1 y2)) x0 x1 x2):=by
 kernel_rfl
def KN {R:Type} (k0:V3→Int→Int→Option R):Nat→V3→Int→Int→Option R
 | 0,_,_,_=>none
 | m+1,x0,x1,x2=>(R3 (KN k0 m) k0 x0 x1 x2)
theorem aeD:∀ (m) (x0 x1 x2),iter [0,4,5] (fun env K=>exec cl N Et env K) K m (lD x0 x1 x2)=KN (fun y0 y1 y2=>K (.exit 0) (lD y0 y1 y2)) m x0 x1 x2:=by
 intro m
 induction m with
 | zero=>intros; rfl
 | succ m ih=>
   intro x0 x1 x2
   simp only [b6,amm,b8,b7,b9,T4,ih]
   rfl
theorem abc (x0 x1 x2):aj [4] (lD x0 x1 x2)=[(4,.v U2 x1)]:=by kernel_rfl
def R4 (N:Nat) (k0:Int→Option R) (x0:V3) (x1 x2:Int):Option R:=
KN (fun y0 y1 y2=>k0 y1) N x0 x1 x2
theorem amn (x0 x1 x2):exec cl N Eu (lD x0 x1 x2) K=(R4 N (fun y0=>K (.exit 0) [(4,.v U2 y0)]) x0 x1 x2):=by
 simp only [Eu,aT,b5,T4,aeD,abc]
 rfl
theorem abd (x0):aj [4] [(4,.v U2 x0)]=[(4,.v U2 x0)]:=by kernel_rfl
def R5 (k0:Int→Bool→Option R) (x0:Int):Option R:=
k0 x0 true
theorem amo (x0):exec cl N MO [(4,.v U2 x0)] K=(R5 (fun y0 y1=>K .ret [(2,.v U2 y0),(3,.v .bool y1)]) x0):=by
 kernel_rfl
def R7 (N:Nat) (fU:V3→Option (Int)) (k0:Int→Bool→Option R) (k1:Int→Bool→Option R) (x0:V3):Option R:=
(R6 fU k0 (R2 (R4 N ((R5 k1)))) x0)
theorem amq (fU) (h140:(BK fU).holds cl) (x0):exec cl N Aa [(0,.v .str x0)] K=(R7 N fU (fun y0 y1=>K .ret (IS y0 y1)) (fun y0 y1=>K .ret [(2,.v U2 y0),(3,.v .bool y1)]) x0):=by
 simp only [bQ,bS,bR,bT,amp fU h140,z8,MN,aml,MM,aT,cj,amn,cd,cg,cc,abd,amo]
 rfl
theorem ahQ (y0 y1):ag d119 .ret (IS y0 y1)=some [.v U2 y0,.v .bool y1]:=by kernel_rfl
theorem ahR (y0 y1):ag d119 .ret [(2,.v U2 y0),(3,.v .bool y1)]=some [.v U2 y0,.v .bool y1]:=by kernel_rfl
def Jo (N:Nat) (fU:V3→Option (Int)) (x0:V3) (k:Int→Bool→Option R):Option R:=
(R7 N fU k k x0)
theorem XX (fU) (h140:(BK fU).holds cl) (x0) (k:List E→Option R):exec cl N Es [(0,.v .str x0)] (fun e env=>(ag d119 e env).bind k)=Jo N fU x0 (fun r0 r1=>k [.v U2 r0,.v .bool r1]):=by
 simp only [Es,amq fU h140,ahQ,ahR,aq]
 rfl
def BH (S:V3→Option V5):aO:=cE 119 .str S fun b=> [.v U2 b.1,.v .bool b.2]
def fS (N:Nat) (x0:V3):Option V5:=Jo N (fU N) x0 (fun (r0:Int) (r1:Bool)=>some (r0,r1))
def R8 (k0:V3→Option R) (x0:Int):Option R:=
if 0≤x0∧x0 < ([([97,110,121,119,104,101,114,101]:List UInt8),([98,101,102,111,114,101]:List UInt8),([115,116,97,114,116]:List UInt8),([98,101,116,119,101,101,110]:List UInt8),([110,111,116]:List UInt8)].length:Int) then
if x0.toNat < [([97,110,121,119,104,101,114,101]:List UInt8),([98,101,102,111,114,101]:List UInt8),([115,116,97,114,116]:List UInt8),([98,101,116,119,101,101,110]:List UInt8),([110,111,116]:List UInt8)].length then
k0 ([([97,110,121,119,104,101,114,101]:List UInt8),([98,101,102,111,114,101]:List UInt8),([115,116,97,114,116]:List UInt8),([98,101,116,119,101,101,110]:List UInt8),([110,111,116]:List UInt8)].getD x0.toNat [])
else none
else none
theorem ams (x0):exec cl N MQ [(0,.v U2 x0)] K=(R8 (fun y0=>K .ret [(2,.v .str y0)]) x0):=by
 kernel_rfl
theorem ahU (y0):ag d120 .ret [(2,.v .str y0)]=some [.v .str y0]:=by kernel_rfl
def Jq (x0:Int) (k:V3→Option R):Option R:=
(R8 k x0)
theorem XZ (x0) (k:List E→Option R):exec cl N Ew [(0,.v U2 x0)] (fun e env=>(ag d120 e env).bind k)=Jq x0 (fun r0=>k [.v .str r0]):=by
 simp only [Ew,ams,ahU,aq]
 rfl
def ru (S:Int→Option V7):aO:=cE 120 U2 S fun b=> [.v .str b]
def dJ (N:Nat) (x0:Int):Option V7:=Jq x0 (fun (r0:V3)=>some (r0))
def Td (bN:V3→Option fH) (k0:aV→Bool→Option R) (k1:aV→aE→V3→Option R) (x0:V3):Option R:=
(bN x0).bind fun r389=>
ad (decide ((r389.length:Int) < (4:Int))) (k0 ([],[],(0:Int),(0:Int),()) false) (if 0≤(1:Int)∧(1:Int) < (r389.length:Int) then
if ((1:Int).toNat) < r389.length then
k1 ([],([],((0:Int),((0:Int),())))) r389 (r389.getD ((1:Int).toNat) [])
else none
else none)
theorem arn (bN) (h93:(kY bN).holds cl) (x0):exec cl N Bs [(0,.v .str x0)] K=(Td bN (fun y0 y1=>K .ret (IT y0 y1)) (fun y0 y1 y2=>exec cl N Br (oS y0 y1 y2) K) x0):=by
 rw [←aN h93]
 delta Bs
 generalize Br=q
 revert q
 refine id ?_
 intro q
 kernel_rfl
def S9 (k0:aV→aE→V3→Int→Option R) (x0:aV) (x1:aE) (x2:V3):Option R:=
k0 x0 x1 x2 (2:Int)
theorem ari (x0 x1 x2):exec cl N Qy (oS x0 x1 x2) K=(S9 (fun y0 y1 y2 y3=>K .normal (lF y0 y1 y2 y3)) x0 x1 x2):=by
 kernel_rfl
theorem UE (x0 x1 x2 x3):aj [2,4,5,6] (lF x0 x1 x2 x3)=(lF x0 x1 x2 x3):=by kernel_rfl
def Ta (k0:aV→aE→V3→Int→Option R) (k1:aV→aE→V3→Int→Option R) (x0:aV) (x1:aE) (x2:V3) (x3:Int):Option R:=
ad (decide (x3 < (IntKind.i64.wrap ((x1.length:Int) - (2:Int))))) (if x2.length+([32]:List UInt8).length≤140737488355328 then
let v394:V3:=(x2++([32]:List UInt8))
if 0≤x3∧x3 < (x1.length:Int) then
if x3.toNat < x1.length then
if v394.length+(x1.getD x3.toNat []).length≤140737488355328 then
k0 x0 x1 (v394++(x1.getD x3.toNat [])) (IntKind.i64.wrap (x3+(1:Int)))
else none
else none
else none
else none) (k1 x0 x1 x2 x3)
theorem arj (x0 x1 x2 x3):exec cl N Hv (lF x0 x1 x2 x3) K=(Ta (fun y0 y1 y2 y3=>K .normal (lF y0 y1 y2 y3)) (fun y0 y1 y2 y3=>K (.exit 0) (lF y0 y1 y2 y3)) x0 x1 x2 x3):=by
 kernel_rfl
def KX {R:Type} (k0:aV→aE→V3→Int→Option R):Nat→aV→aE→V3→Int→Option R
 | 0,_,_,_,_=>none
 | m+1,x0,x1,x2,x3=>(Ta (KX k0 m) k0 x0 x1 x2 x3)
theorem afl:∀ (m) (x0 x1 x2 x3),iter [2,4,5,6] (fun env K=>exec cl N Hv env K) K m (lF x0 x1 x2 x3)=KX (fun y0 y1 y2 y3=>K (.exit 0) (lF y0 y1 y2 y3)) m x0 x1 x2 x3:=by
 intro m
 induction m with
 | zero=>intros; rfl
 | succ m ih=>
   intro x0 x1 x2 x3
   simp only [b6,arj,b8,b7,b9,UE,ih]
   rfl
theorem adt (x0 x1 x2 x3):aj [2,4,5] (lF x0 x1 x2 x3)=(oS x0 x1 x2):=by kernel_rfl
def Tf (N:Nat) (k0:aV→aE→V3→Option R) (x0:aV) (x1:aE) (x2:V3) (x3:Int):Option R:=
KX (fun y0 y1 y2 y3=>k0 y0 y1 y2) N x0 x1 x2 x3
theorem arp (x0 x1 x2 x3):exec cl N Hx (lF x0 x1 x2 x3) K=(Tf N (fun y0 y1 y2=>K (.exit 0) (oS y0 y1 y2)) x0 x1 x2 x3):=by
 simp only [Hx,aT,b5,UE,afl,adt]
 rfl
theorem adu (x0 x1 x2):aj [2,4,5] (oS x0 x1 x2)=(oS x0 x1 x2):=by kernel_rfl
def Tc (fR:V3→Option uf) (fS:V3→Option V5) (k0:aV→Bool→Option R) (k1:aV→aE→aA→Int→Option R) (x0:aV) (x1:aE) (x2:V3):Option R:=
(fR x2).bind fun r398=>
let v399:Int:=(IntKind.i64.wrap ((x1.length:Int) - (2:Int)))
if 0≤v399∧v399 < (x1.length:Int) then
if v399.toNat < x1.length then
(fS (x1.getD v399.toNat [])).bind fun r401=>
ad (r398.2 != (0:Int)) (k0 ([],[],(0:Int),(0:Int),()) false) (ad (!r401.2) (k0 ([],[],(0:Int),(0:Int),()) false) (k1 x0 x1 r398.1 r401.1))
else none
else none
theorem arl (fR) (fS) (h118:(BG fR).holds cl) (h119:(BH fS).holds cl) (x0 x1 x2):exec cl N Hw (oS x0 x1 x2) K=(Tc fR fS (fun y0 y1=>K .ret (IU y0 y1)) (fun y0 y1 y2 y3=>exec cl N Bq (Rp y0 y1 y2 y3) K) x0 x1 x2):=by
 rw [←aN h118]
 rw [←aN h119]
 delta Hw
 generalize Bq=q
 revert q
 refine id ?_
 intro q
 kernel_rfl
def Tg (k0:aV→aE→aA→Int→Int→Option R) (x0:aV) (x1:aE) (x2:aA) (x3:Int):Option R:=
k0 x0 x1 x2 x3 (0:Int)
theorem arq (x0 x1 x2 x3):exec cl N QC (Rp x0 x1 x2 x3) K=(Tg (fun y0 y1 y2 y3 y4=>K .normal (lG y0 y1 y2 y3 y4)) x0 x1 x2 x3):=by
 kernel_rfl
theorem UF (x0 x1 x2 x3 x4):aj [2,4,7,9,11] (lG x0 x1 x2 x3 x4)=(lG x0 x1 x2 x3 x4):=by kernel_rfl
def Ti (dJ:Int→Option V7) (k0:aV→Bool→Option R) (k1:aV→aE→aA→Int→Int→Option R) (k2:aV→aE→aA→Int→Int→Option R) (x0:aV) (x1:aE) (x2:aA) (x3 x4:Int):Option R:=
ad (decide (x4≤(4:Int))) (let v404:Int:=(IntKind.i64.wrap ((x1.length:Int) - (1:Int)))
if 0≤v404∧v404 < (x1.length:Int) then
if v404.toNat < x1.length then
(dJ x4).bind fun r406=>
ad ((x1.getD v404.toNat [])==r406) (if 0≤(0:Int)∧(0:Int) < (x1.length:Int) then
if ((0:Int).toNat) < x1.length then
k0 ((x1.getD ((0:Int).toNat) []),x2,x3,x4,()) true
else none
else none) (k1 x0 x1 x2 x3 (IntKind.i64.wrap (x4+(1:Int))))
else none
else none) (k2 x0 x1 x2 x3 x4)
theorem ars (dJ) (h120:(ru dJ).holds cl) (x0 x1 x2 x3 x4):exec cl N Hy (lG x0 x1 x2 x3 x4) K=(Ti dJ (fun y0 y1=>K .ret (IV y0 y1)) (fun y0 y1 y2 y3 y4=>K .normal (lG y0 y1 y2 y3 y4)) (fun y0 y1 y2 y3 y4=>K (.exit 2) (lG y0 y1 y2 y3 y4)) x0 x1 x2 x3 x4):=by
 rw [←aN h120]
 kernel_rfl
def KY {R:Type} (dJ:Int→Option V7) (k0:aV→Bool→Option R) (k1:aV→aE→aA→Int→Int→Option R):Nat→aV→aE→aA→Int→Int→Option R
 | 0,_,_,_,_,_=>none
 | m+1,x0,x1,x2,x3,x4=>(Ti dJ k0 (KY dJ k0 k1 m) k1 x0 x1 x2 x3 x4)
theorem afm (dJ) (h120:(ru dJ).holds cl):∀ (m) (x0 x1 x2 x3 x4),iter [2,4,7,9,11] (fun env K=>exec cl N Hy env K) K m (lG x0 x1 x2 x3 x4)=KY dJ (fun y0 y1=>K .ret (IV y0 y1)) (fun y0 y1 y2 y3 y4=>K (.exit 2) (lG y0 y1 y2 y3 y4)) m x0 x1 x2 x3 x4:=by
 intro m
 induction m with
 | zero=>intros; rfl
 | succ m ih=>
   intro x0 x1 x2 x3 x4
   simp only [b6,ars dJ h120,b8,b7,b9,UF,ih]
   rfl
theorem adv (x0 x1):aj [2,3] (IV x0 x1)=(rQ x0 x1):=by kernel_rfl
theorem adw (x0 x1 x2 x3 x4):aj [2,3] (lG x0 x1 x2 x3 x4)=(uX x0):=by kernel_rfl
def Tj (N:Nat) (dJ:Int→Option V7) (k0:aV→Bool→Option R) (k1:aV→Option R) (x0:aV) (x1:aE) (x2:aA) (x3 x4:Int):Option R:=
KY dJ k0 (fun y0 y1 y2 y3 y4=>k1 y0) N x0 x1 x2 x3 x4
theorem art (dJ) (h120:(ru dJ).holds cl) (x0 x1 x2 x3 x4):exec cl N Hz (lG x0 x1 x2 x3 x4) K=(Tj N dJ (fun y0 y1=>K .ret (rQ y0 y1)) (fun y0=>K (.exit 2) (uX y0)) x0 x1 x2 x3 x4):=by
 simp only [Hz,aT,b5,UF,afm dJ h120,adv,adw]
 rfl
theorem adx (x0 x1):aj [2,3] (rQ x0 x1)=(rQ x0 x1):=by kernel_rfl
theorem ady (x0):aj [2,3] (uX x0)=(uX x0):=by kernel_rfl
def Tb (k0:aV→Bool→Option R) (x0:aV):Option R:=
k0 ([],[],(0:Int),(0:Int),()) false
theorem ark (x0):exec cl N Qz (uX x0) K=(Tb (fun y0 y1=>K .ret (IW y0 y1)) x0):=by
 kernel_rfl
def Te (N:Nat) (bN:V3→Option fH) (fR:V3→Option uf) (fS:V3→Option V5) (dJ:Int→Option V7) (k0:aV→Bool→Option R) (k1:aV→Bool→Option R) (k2:aV→Bool→Option R) (k3:aV→Bool→Option R) (x0:V3):Option R:=
(Td bN k0 (S9 (Tf N ((Tc fR fS k1 (Tg (Tj N dJ k2 ((Tb k3)))))))) x0)
theorem aro (bN) (fR) (fS) (dJ) (h93:(kY bN).holds cl) (h118:(BG fR).holds cl) (h119:(BH fS).holds cl) (h120:(ru dJ).holds cl) (x0):exec cl N Bs [(0,.v .str x0)] K=(Te N bN fR fS dJ (fun y0 y1=>K .ret (IT y0 y1)) (fun y0 y1=>K .ret (IU y0 y1)) (fun y0 y1=>K .ret (rQ y0 y1)) (fun y0 y1=>K .ret (IW y0 y1)) x0):=by
 simp only [bQ,bS,bR,bT,arn bN h93,Br,QB,ari,QA,aT,cj,arp,cd,cg,cc,adu,arl fR fS h118 h119,Bq,QE,arq,QD,art dJ h120,adx,ady,ark]
 rfl
theorem ajU (y0 y1):ag d94 .ret (IT y0 y1)=some [.v aH y0,.v .bool y1]:=by kernel_rfl
theorem ajV (y0 y1):ag d94 .ret (IU y0 y1)=some [.v aH y0,.v .bool y1]:=by kernel_rfl
theorem ajW (y0 y1):ag d94 .ret (rQ y0 y1)=some [.v aH y0,.v .bool y1]:=by kernel_rfl
theorem ajX (y0 y1):ag d94 .ret (IW y0 y1)=some [.v aH y0,.v .bool y1]:=by kernel_rfl
def Kg (N:Nat) (bN:V3→Option fH) (fR:V3→Option uf) (fS:V3→Option V5) (dJ:Int→Option V7) (x0:V3) (k:aV→Bool→Option R):Option R:=
(Te N bN fR fS dJ k k k k x0)
theorem Y6 (bN) (fR) (fS) (dJ) (h93:(kY bN).holds cl) (h118:(BG fR).holds cl) (h119:(BH fS).holds cl) (h120:(ru dJ).holds cl) (x0) (k:List E→Option R):exec cl N Hu [(0,.v .str x0)] (fun e env=>(ag d94 e env).bind k)=Kg N bN fR fS dJ x0 (fun r0 r1=>k [.v aH r0,.v .bool r1]):=by
 simp only [Hu,aro bN fR fS dJ h93 h118 h119 h120,ajU,ajV,ajW,ajX,aq]
 rfl
def oM (S:V3→Option nk):aO:=cE 94 .str S fun b=> [.v aH b.1,.v .bool b.2]
def cV (N:Nat) (x0:V3):Option nk:=Kg N (bN N) (fR N) (fS N) (dJ N) x0 (fun (r0:aV) (r1:Bool)=>some (r0,r1))
def Jx (k0:Bool→Option R) (x0:Int):Option R:=
ad (decide (x0≥(97:Int))) (k0 (decide (x0≤(122:Int)))) (k0 false)
theorem amQ (x0):exec cl N Nb [(0,.v U0 x0)] K=(Jx (fun y0=>K .ret [(2,.v .bool y0)]) x0):=by
 kernel_rfl
theorem ah5 (y0):ag d135 .ret [(2,.v .bool y0)]=some [.v .bool y0]:=by kernel_rfl
def Cj (x0:Int) (k:Bool→Option R):Option R:=
(Jx k x0)
theorem X8 (x0) (k:List E→Option R):exec cl N EN [(0,.v U0 x0)] (fun e env=>(ag d135 e env).bind k)=Cj x0 (fun r0=>k [.v .bool r0]):=by
 simp only [EN,amQ,ah5,aq]
 rfl
def oG (S:Int→Option (Bool)):aO:=cE 135 U0 S fun b=> [.v .bool b]
def cF (N:Nat) (x0:Int):Option (Bool):=Cj x0 (fun (r0:Bool)=>some (r0))
def vr (cF:Int→Option (Bool)) (k0:Int→Option R) (k1:V3→Int→Option R) (x0:V3):Option R:=
ad (x0==([]:List UInt8)) (k0 (0:Int)) (if 0≤(0:Int)∧(0:Int) < (x0.length:Int) then
(cF ((x0.getD (0:Int).toNat 0).toNat:Int)).bind fun r593=>
ad (!r593) (k0 (0:Int)) (k1 x0 (1:Int))
else none)
theorem alV (cF) (h135:(oG cF).holds cl) (x0):exec cl N zV [(0,.v .str x0)] K=(vr cF (fun y0=>K .ret (gM y0)) (fun y0 y1=>exec cl N zU (cm y0 y1) K) x0):=by
 rw [←aN h135]
 delta zV
 generalize zU=q
 revert q
 refine id ?_
 intro q
 kernel_rfl
theorem TW (x0 x1):aj [0,3] (cm x0 x1)=(cm x0 x1):=by kernel_rfl
def vo (cF:Int→Option (Bool)) (bw:Int→Option (Bool)) (k0:V3→Int→Option R) (k1:V3→Int→Option R) (x0:V3) (x1:Int):Option R:=
ad (decide (x1 < (x0.length:Int))) (if 0≤x1∧x1 < (x0.length:Int) then
(cF ((x0.getD x1.toNat 0).toNat:Int)).bind fun r596=>
ad r596 (k0 x0 (IntKind.i64.wrap (x1+(1:Int)))) (if 0≤x1∧x1 < (x0.length:Int) then
(bw ((x0.getD x1.toNat 0).toNat:Int)).bind fun r599=>
ad r599 (k0 x0 (IntKind.i64.wrap (x1+(1:Int)))) (if 0≤x1∧x1 < (x0.length:Int) then
ad (((x0.getD x1.toNat 0).toNat:Int) != (45:Int)) (k1 x0 x1) (ad ((IntKind.i64.wrap (x1+(1:Int)))==(x0.length:Int)) (k1 x0 x1) (let v605:Int:=(IntKind.i64.wrap (x1+(1:Int)))
if 0≤v605∧v605 < (x0.length:Int) then
(cF ((x0.getD v605.toNat 0).toNat:Int)).bind fun r607=>
ad (!r607) (let v608:Int:=(IntKind.i64.wrap (x1+(1:Int)))
if 0≤v608∧v608 < (x0.length:Int) then
(bw ((x0.getD v608.toNat 0).toNat:Int)).bind fun r610=>
ad (!r610) (k1 x0 x1) (k0 x0 (IntKind.i64.wrap (x1+(2:Int))))
else none) (k0 x0 (IntKind.i64.wrap (x1+(2:Int))))
else none))
else none)
else none)
else none) (k1 x0 x1)
theorem alS (cF) (bw) (h135:(oG cF).holds cl) (h136:(kz bw).holds cl) (x0 x1):exec cl N Eg (cm x0 x1) K=(vo cF bw (fun y0 y1=>K .normal (cm y0 y1)) (fun y0 y1=>K (.exit 0) (cm y0 y1)) x0 x1):=by
 rw [←aN h135]
 rw [←aN h136]
 kernel_rfl
def qe {R:Type} (cF:Int→Option (Bool)) (bw:Int→Option (Bool)) (k0:V3→Int→Option R):Nat→V3→Int→Option R
 | 0,_,_=>none
 | m+1,x0,x1=>(vo cF bw (qe cF bw k0 m) k0 x0 x1)
theorem aez (cF) (bw) (h135:(oG cF).holds cl) (h136:(kz bw).holds cl):∀ (m) (x0 x1),iter [0,3] (fun env K=>exec cl N Eg env K) K m (cm x0 x1)=qe cF bw (fun y0 y1=>K (.exit 0) (cm y0 y1)) m x0 x1:=by
 intro m
 induction m with
 | zero=>intros; rfl
 | succ m ih=>
   intro x0 x1
   simp only [b6,alS cF bw h135 h136,b8,b7,b9,TW,ih]
   rfl
theorem aaY (x0 x1):aj [3] (cm x0 x1)=[(3,.v U2 x1)]:=by kernel_rfl
def vp (N:Nat) (cF:Int→Option (Bool)) (bw:Int→Option (Bool)) (k0:Int→Option R) (x0:V3) (x1:Int):Option R:=
qe cF bw (fun y0 y1=>k0 y1) N x0 x1
theorem alT (cF) (bw) (h135:(oG cF).holds cl) (h136:(kz bw).holds cl) (x0 x1):exec cl N Eh (cm x0 x1) K=(vp N cF bw (fun y0=>K (.exit 0) [(3,.v U2 y0)]) x0 x1):=by
 simp only [Eh,aT,b5,TW,aez cF bw h135 h136,aaY]
 rfl
theorem aaZ (x0):aj [3] [(3,.v U2 x0)]=[(3,.v U2 x0)]:=by kernel_rfl
def vq (k0:Int→Option R) (x0:Int):Option R:=
k0 x0
theorem alU (x0):exec cl N My [(3,.v U2 x0)] K=(vq (fun y0=>K .ret [(2,.v U2 y0)]) x0):=by
 kernel_rfl
def vt (N:Nat) (cF:Int→Option (Bool)) (bw:Int→Option (Bool)) (k0:Int→Option R) (k1:Int→Option R) (x0:V3):Option R:=
(vr cF k0 (vp N cF bw ((vq k1))) x0)
theorem alW (cF) (bw) (h135:(oG cF).holds cl) (h136:(kz bw).holds cl) (x0):exec cl N zV [(0,.v .str x0)] K=(vt N cF bw (fun y0=>K .ret (gM y0)) (fun y0=>K .ret [(2,.v U2 y0)]) x0):=by
 simp only [bQ,bS,bR,bT,alV cF h135,zU,Mx,aT,cj,alT cF bw h135 h136,cd,cg,cc,aaZ,alU]
 rfl
theorem ahH (y0):ag d115 .ret (gM y0)=some [.v U2 y0]:=by kernel_rfl
theorem ahI (y0):ag d115 .ret [(2,.v U2 y0)]=some [.v U2 y0]:=by kernel_rfl
def r9 (N:Nat) (cF:Int→Option (Bool)) (bw:Int→Option (Bool)) (x0:V3) (k:Int→Option R):Option R:=
(vt N cF bw k k x0)
theorem XT (cF) (bw) (h135:(oG cF).holds cl) (h136:(kz bw).holds cl) (x0) (k:List E→Option R):exec cl N Ef [(0,.v .str x0)] (fun e env=>(ag d115 e env).bind k)=r9 N cF bw x0 (fun r0=>k [.v U2 r0]):=by
 simp only [Ef,alW cF bw h135 h136,ahH,ahI,aq]
 rfl
def HO (S:V3→Option (Int)):aO:=cE 115 .str S fun b=> [.v U2 b]
def gS (N:Nat) (x0:V3):Option (Int):=r9 N (cF N) (bw N) x0 (fun (r0:Int)=>some (r0))
def Kd (gS:V3→Option (Int)) (k0:Bool→Option R) (x0:V3):Option R:=
ad (x0 != ([]:List UInt8)) (ad (decide ((x0.length:Int)≤(20:Int))) ((gS x0).bind fun r617=>
k0 (r617==(x0.length:Int))) (k0 false)) (k0 false)
theorem aqX (gS) (h115:(HO gS).holds cl) (x0):exec cl N Ql [(0,.v .str x0)] K=(Kd gS (fun y0=>K .ret [(2,.v .bool y0)]) x0):=by
 rw [←aN h115]
 kernel_rfl
theorem ajO (y0):ag d90 .ret [(2,.v .bool y0)]=some [.v .bool y0]:=by kernel_rfl
def CK (gS:V3→Option (Int)) (x0:V3) (k:Bool→Option R):Option R:=
(Kd gS k x0)
theorem Y2 (gS) (h115:(HO gS).holds cl) (x0) (k:List E→Option R):exec cl N Hk [(0,.v .str x0)] (fun e env=>(ag d90 e env).bind k)=CK gS x0 (fun r0=>k [.v .bool r0]):=by
 simp only [Hk,aqX gS h115,ajO,aq]
 rfl
def BQ (S:V3→Option (Bool)):aO:=cE 90 .str S fun b=> [.v .bool b]
def eZ (N:Nat) (x0:V3):Option (Bool):=CK (gS N) x0 (fun (r0:Bool)=>some (r0))
def RT (k0:Bool→Option R) (k1:Int→Option R) (x0:Int):Option R:=
ad (decide (x0 < (32:Int))) (k0 false) (ad (decide (x0 > (126:Int))) (k0 false) (k1 x0))
theorem alP (x0):exec cl N zT [(0,.v U0 x0)] K=(RT (fun y0=>K .ret [(0,.dead),(2,.v .bool y0)]) (fun y0=>exec cl N zS [(0,.v U0 y0),(2,.dead)] K) x0):=by
 delta zT
 generalize zS=q
 revert q
 refine id ?_
 intro q
 kernel_rfl
def RP (k0:Int→Int→Option R) (x0:Int):Option R:=
k0 x0 (0:Int)
theorem alL (x0):exec cl N Ms [(0,.v U0 x0),(2,.dead)] K=(RP (fun y0 y1=>K .normal (lH y0 y1)) x0):=by
 kernel_rfl
theorem TU (x0 x1):aj [0,3] (lH x0 x1)=(lH x0 x1):=by kernel_rfl
def RQ (k0:Bool→Option R) (k1:Int→Int→Option R) (k2:Int→Int→Option R) (x0 x1:Int):Option R:=
ad (decide (x1 < (15:Int))) (if 0≤x1∧x1 < (([32,46,44,59,58,33,63,34,45,91,93,60,62,123,125]:List UInt8).length:Int) then
ad (((([32,46,44,59,58,33,63,34,45,91,93,60,62,123,125]:List UInt8).getD x1.toNat 0).toNat:Int)==x0) (k0 false) (k1 x0 (IntKind.i64.wrap (x1+(1:Int))))
else none) (k2 x0 x1)
theorem alM (x0 x1):exec cl N Ec (lH x0 x1) K=(RQ (fun y0=>K .ret (IX y0)) (fun y0 y1=>K .normal (lH y0 y1)) (fun y0 y1=>K (.exit 0) (lH y0 y1)) x0 x1):=by
 kernel_rfl
def KL {R:Type} (k0:Bool→Option R) (k1:Int→Int→Option R):Nat→Int→Int→Option R
 | 0,_,_=>none
 | m+1,x0,x1=>(RQ k0 (KL k0 k1 m) k1 x0 x1)
theorem aey:∀ (m) (x0 x1),iter [0,3] (fun env K=>exec cl N Ec env K) K m (lH x0 x1)=KL (fun y0=>K .ret (IX y0)) (fun y0 y1=>K (.exit 0) (lH y0 y1)) m x0 x1:=by
 intro m
 induction m with
 | zero=>intros; rfl
 | succ m ih=>
   intro x0 x1
   simp only [b6,alM,b8,b7,b9,TU,ih]
   rfl
theorem aaU (x0):aj [2] (IX x0)=[(2,.v .bool x0)]:=by kernel_rfl
theorem aaV (x0 x1):aj [2] (lH x0 x1)=[(2,.dead)]:=by kernel_rfl
def RR (N:Nat) (k0:Bool→Option R) (k1:Option R) (x0 x1:Int):Option R:=
KL k0 (fun y0 y1=>k1) N x0 x1
theorem alN (x0 x1):exec cl N Ed (lH x0 x1) K=(RR N (fun y0=>K .ret [(2,.v .bool y0)]) (K (.exit 0) [(2,.dead)]) x0 x1):=by
 simp only [Ed,aT,b5,TU,aey,aaU,aaV]
 rfl
theorem aaW (x0):aj [2] [(2,.v .bool x0)]=[(2,.v .bool x0)]:=by kernel_rfl
theorem aaX:aj [2] [(2,.dead)]=[(2,.dead)]:=by kernel_rfl
def RS (k0:Bool→Option R):Option R:=
k0 true
theorem alO:exec cl N Mv [(2,.dead)] K=(RS (fun y0=>K .ret [(2,.v .bool y0)])):=by
 kernel_rfl
def RU (N:Nat) (k0:Bool→Option R) (k1:Bool→Option R) (x0:Int):Option R:=
(RT k0 (RP (RR N k1 (RS k1))) x0)
theorem alQ (x0):exec cl N zT [(0,.v U0 x0)] K=(RU N (fun y0=>K .ret [(0,.dead),(2,.v .bool y0)]) (fun y0=>K .ret [(2,.v .bool y0)]) x0):=by
 simp only [bQ,bS,bR,bT,alP,zS,Mu,alL,Mt,aT,cj,alN,cd,cg,cc,aaW,aaX,alO]
 rfl
theorem ahE (y0):ag d111 .ret [(0,.dead),(2,.v .bool y0)]=some [.v .bool y0]:=by kernel_rfl
theorem ahF (y0):ag d111 .ret [(2,.v .bool y0)]=some [.v .bool y0]:=by kernel_rfl
def Jl (N:Nat) (x0:Int) (k:Bool→Option R):Option R:=
(RU N k k x0)
theorem XR (x0) (k:List E→Option R):exec cl N Eb [(0,.v U0 x0)] (fun e env=>(ag d111 e env).bind k)=Jl N x0 (fun r0=>k [.v .bool r0]):=by
 simp only [Eb,alQ,ahE,ahF,aq]
 rfl
def ky (S:Int→Option (Bool)):aO:=cE 111 U0 S fun b=> [.v .bool b]
def bu (N:Nat) (x0:Int):Option (Bool):=Jl N x0 (fun (r0:Bool)=>some (r0))
def vz (k0:Int→Option R) (k1:V3→Option R) (x0:V3):Option R:=
ad (x0==([]:List UInt8)) (k0 (7:Int)) (ad (decide ((x0.length:Int) > (4:Int))) (k0 (3:Int)) (k1 x0))
theorem al6 (x0):exec cl N zX [(0,.v .str x0)] K=(vz (fun y0=>K .ret (gM y0)) (fun y0=>exec cl N zW (rR y0) K) x0):=by
 delta zX
 generalize zW=q
 revert q
 refine id ?_
 intro q
 kernel_rfl
def vu (k0:V3→Int→Option R) (x0:V3):Option R:=
k0 x0 (0:Int)
theorem alX (x0):exec cl N Mz (rR x0) K=(vu (fun y0 y1=>K .normal (cm y0 y1)) x0):=by
 kernel_rfl
theorem TX (x0 x1):aj [0,3] (cm x0 x1)=(cm x0 x1):=by kernel_rfl
def vw (bu:Int→Option (Bool)) (k0:Int→Option R) (k1:V3→Int→Option R) (k2:V3→Int→Option R) (x0:V3) (x1:Int):Option R:=
ad (decide (x1 < (x0.length:Int))) (if 0≤x1∧x1 < (x0.length:Int) then
(bu ((x0.getD x1.toNat 0).toNat:Int)).bind fun r648=>
ad (!r648) (k0 (2:Int)) (if 0≤x1∧x1 < (x0.length:Int) then
ad (decide (((x0.getD x1.toNat 0).toNat:Int)≥(65:Int))) (if 0≤x1∧x1 < (x0.length:Int) then
ad (decide (((x0.getD x1.toNat 0).toNat:Int)≤(90:Int))) (k0 (2:Int)) (k1 x0 (IntKind.i64.wrap (x1+(1:Int))))
else none) (k1 x0 (IntKind.i64.wrap (x1+(1:Int))))
else none)
else none) (k2 x0 x1)
theorem alY (bu) (h111:(ky bu).holds cl) (x0 x1):exec cl N Ej (cm x0 x1) K=(vw bu (fun y0=>K .ret (mM y0)) (fun y0 y1=>K .normal (cm y0 y1)) (fun y0 y1=>K (.exit 0) (cm y0 y1)) x0 x1):=by
 rw [←aN h111]
 kernel_rfl
def s3 {R:Type} (bu:Int→Option (Bool)) (k0:Int→Option R) (k1:V3→Int→Option R):Nat→V3→Int→Option R
 | 0,_,_=>none
 | m+1,x0,x1=>(vw bu k0 (s3 bu k0 k1 m) k1 x0 x1)
theorem aeA (bu) (h111:(ky bu).holds cl):∀ (m) (x0 x1),iter [0,3] (fun env K=>exec cl N Ej env K) K m (cm x0 x1)=s3 bu (fun y0=>K .ret (mM y0)) (fun y0 y1=>K (.exit 0) (cm y0 y1)) m x0 x1:=by
 intro m
 induction m with
 | zero=>intros; rfl
 | succ m ih=>
   intro x0 x1
   simp only [b6,alY bu h111,b8,b7,b9,TX,ih]
   rfl
theorem aa0 (x0):aj [2] (mM x0)=[(2,.v U2 x0)]:=by kernel_rfl
theorem aa1 (x0 x1):aj [2] (cm x0 x1)=[(2,.dead)]:=by kernel_rfl
def vx (N:Nat) (bu:Int→Option (Bool)) (k0:Int→Option R) (k1:Option R) (x0:V3) (x1:Int):Option R:=
s3 bu k0 (fun y0 y1=>k1) N x0 x1
theorem alZ (bu) (h111:(ky bu).holds cl) (x0 x1):exec cl N Ek (cm x0 x1) K=(vx N bu (fun y0=>K .ret [(2,.v U2 y0)]) (K (.exit 0) [(2,.dead)]) x0 x1):=by
 simp only [Ek,aT,b5,TX,aeA bu h111,aa0,aa1]
 rfl
theorem aa2 (x0):aj [2] [(2,.v U2 x0)]=[(2,.v U2 x0)]:=by kernel_rfl
theorem aa3:aj [2] [(2,.dead)]=[(2,.dead)]:=by kernel_rfl
def vy (k0:Int→Option R):Option R:=
k0 (0:Int)
theorem al0:exec cl N MC [(2,.dead)] K=(vy (fun y0=>K .ret [(2,.v U2 y0)])):=by
 kernel_rfl
def vA (N:Nat) (bu:Int→Option (Bool)) (k0:Int→Option R) (k1:Int→Option R) (x0:V3):Option R:=
(vz k0 (vu (vx N bu k1 (vy k1))) x0)
theorem al7 (bu) (h111:(ky bu).holds cl) (x0):exec cl N zX [(0,.v .str x0)] K=(vA N bu (fun y0=>K .ret (gM y0)) (fun y0=>K .ret [(2,.v U2 y0)]) x0):=by
 simp only [bQ,bS,bR,bT,al6,zW,MB,alX,MA,aT,cj,alZ bu h111,cd,cg,cc,aa2,aa3,al0]
 rfl
theorem ahJ (y0):ag d116 .ret (gM y0)=some [.v U2 y0]:=by kernel_rfl
theorem ahK (y0):ag d116 .ret [(2,.v U2 y0)]=some [.v U2 y0]:=by kernel_rfl
def sa (N:Nat) (bu:Int→Option (Bool)) (x0:V3) (k:Int→Option R):Option R:=
(vA N bu k k x0)
theorem XU (bu) (h111:(ky bu).holds cl) (x0) (k:List E→Option R):exec cl N Ei [(0,.v .str x0)] (fun e env=>(ag d116 e env).bind k)=sa N bu x0 (fun r0=>k [.v U2 r0]):=by
 simp only [Ei,al7 bu h111,ahJ,ahK,aq]
 rfl
def BF (S:V3→Option (Int)):aO:=cE 116 .str S fun b=> [.v U2 b]
def fu (N:Nat) (x0:V3):Option (Int):=sa N (bu N) x0 (fun (r0:Int)=>some (r0))
def yh (fu:V3→Option (Int)) (k0:Int→Option R) (k1:aV→Option R) (x0:aV):Option R:=
(fu x0.1).bind fun r667=>
ad (r667 != (0:Int)) (k0 r667) (ad ((x0.2.1.length:Int)==(0:Int)) (k0 (7:Int)) (ad (decide ((x0.2.1.length:Int) > (2:Int))) (k0 (3:Int)) (k1 x0)))
theorem aq2 (fu) (h116:(BF fu).holds cl) (x0):exec cl N Bl [(0,.v aH x0)] K=(yh fu (fun y0=>K .ret (e7 y0)) (fun y0=>exec cl N Bk (jo y0) K) x0):=by
 rw [←aN h116]
 delta Bl
 generalize Bk=q
 revert q
 refine id ?_
 intro q
 kernel_rfl
def yd (k0:aV→Int→Option R) (x0:aV):Option R:=
k0 x0 (0:Int)
theorem aqY (x0):exec cl N Qm (jo x0) K=(yd (fun y0 y1=>K .normal (lI y0 y1)) x0):=by
 kernel_rfl
theorem UB (x0 x1):aj [1,4] (lI x0 x1)=(lI x0 x1):=by kernel_rfl
def ye (bM:aR→Option (Int)) (k0:Int→Option R) (k1:aV→Int→Option R) (k2:aV→Int→Option R) (x0:aV) (x1:Int):Option R:=
ad (decide (x1 < (x0.2.1.length:Int))) (if 0≤x1∧x1 < (x0.2.1.length:Int) then
(bM (x0.2.1.getD x1.toNat ((0:Int),((0:Int),([],()))))).bind fun r672=>
ad (r672 != (0:Int)) (k0 r672) (k1 x0 (IntKind.i64.wrap (x1+(1:Int))))
else none) (k2 x0 x1)
theorem aqZ (bM) (h117:(mI bM).holds cl) (x0 x1):exec cl N Hm (lI x0 x1) K=(ye bM (fun y0=>K .ret (e9 y0)) (fun y0 y1=>K .normal (lI y0 y1)) (fun y0 y1=>K (.exit 0) (lI y0 y1)) x0 x1):=by
 rw [←aN h117]
 kernel_rfl
def tp {R:Type} (bM:aR→Option (Int)) (k0:Int→Option R) (k1:aV→Int→Option R):Nat→aV→Int→Option R
 | 0,_,_=>none
 | m+1,x0,x1=>(ye bM k0 (tp bM k0 k1 m) k1 x0 x1)
theorem afi (bM) (h117:(mI bM).holds cl):∀ (m) (x0 x1),iter [1,4] (fun env K=>exec cl N Hm env K) K m (lI x0 x1)=tp bM (fun y0=>K .ret (e9 y0)) (fun y0 y1=>K (.exit 0) (lI y0 y1)) m x0 x1:=by
 intro m
 induction m with
 | zero=>intros; rfl
 | succ m ih=>
   intro x0 x1
   simp only [b6,aqZ bM h117,b8,b7,b9,UB,ih]
   rfl
theorem adj (x0):aj [1,2] (e9 x0)=(e7 x0):=by kernel_rfl
theorem adk (x0 x1):aj [1,2] (lI x0 x1)=(jo x0):=by kernel_rfl
def yf (N:Nat) (bM:aR→Option (Int)) (k0:Int→Option R) (k1:aV→Option R) (x0:aV) (x1:Int):Option R:=
tp bM k0 (fun y0 y1=>k1 y0) N x0 x1
theorem aq0 (bM) (h117:(mI bM).holds cl) (x0 x1):exec cl N Hn (lI x0 x1) K=(yf N bM (fun y0=>K .ret (e7 y0)) (fun y0=>K (.exit 0) (jo y0)) x0 x1):=by
 simp only [Hn,aT,b5,UB,afi bM h117,adj,adk]
 rfl
theorem adl (x0):aj [1,2] (e7 x0)=(e7 x0):=by kernel_rfl
theorem adm (x0):aj [1,2] (jo x0)=(jo x0):=by kernel_rfl
def yg (k0:Int→Option R) (x0:aV):Option R:=
ad (decide (x0.2.2.1 < (0:Int))) (k0 (6:Int)) (ad (decide (x0.2.2.1 > (99:Int))) (k0 (6:Int)) (ad (decide (x0.2.2.2.1 < (0:Int))) (k0 (6:Int)) (ad (decide (x0.2.2.2.1 > (4:Int))) (k0 (6:Int)) (k0 (0:Int)))))
theorem aq1 (x0):exec cl N Qp (jo x0) K=(yg (fun y0=>K .ret [(2,.v U2 y0)]) x0):=by
 kernel_rfl
def yi (N:Nat) (fu:V3→Option (Int)) (bM:aR→Option (Int)) (k0:Int→Option R) (k1:Int→Option R) (x0:aV):Option R:=
(yh fu k0 (yd (yf N bM k0 ((yg k1)))) x0)
theorem aq3 (fu) (bM) (h116:(BF fu).holds cl) (h117:(mI bM).holds cl) (x0):exec cl N Bl [(0,.v aH x0)] K=(yi N fu bM (fun y0=>K .ret (e7 y0)) (fun y0=>K .ret [(2,.v U2 y0)]) x0):=by
 simp only [bQ,bS,bR,bT,aq2 fu h116,Bk,Qo,aqY,Qn,aT,cj,aq0 bM h117,cd,cg,cc,adl,adm,aq1]
 rfl
theorem ajP (y0):ag d91 .ret (e7 y0)=some [.v U2 y0]:=by kernel_rfl
theorem ajQ (y0):ag d91 .ret [(2,.v U2 y0)]=some [.v U2 y0]:=by kernel_rfl
def sS (N:Nat) (fu:V3→Option (Int)) (bM:aR→Option (Int)) (x0:aV) (k:Int→Option R):Option R:=
(yi N fu bM k k x0)
theorem Y3 (fu) (bM) (h116:(BF fu).holds cl) (h117:(mI bM).holds cl) (x0) (k:List E→Option R):exec cl N Hl [(0,.v aH x0)] (fun e env=>(ag d91 e env).bind k)=sS N fu bM x0 (fun r0=>k [.v U2 r0]):=by
 simp only [Hl,aq3 fu bM h116 h117,ajP,ajQ,aq]
 rfl
def oL (S:aV→Option (Int)):aO:=cE 91 aH S fun b=> [.v U2 b]
def cJ (N:Nat) (x0:aV):Option (Int):=sS N (fu N) (bM N) x0 (fun (r0:Int)=>some (r0))
def Kb (k0:Int→Option R) (k1:Int→Option R) (x0 x1:Int):Option R:=
ad (decide (x0 < x1)) (k0 (-1:Int)) (ad (decide (x0 > x1)) (k1 (1:Int)) (k1 (0:Int)))
theorem aqV (x0 x1):exec cl N Qj (B0 x0 x1) K=(Kb (fun y0=>K .ret (lJ y0)) (fun y0=>K .ret [(4,.v U2 y0)]) x0 x1):=by
 kernel_rfl
theorem ajL (y0):ag d86 .ret (lJ y0)=some [.v U2 y0]:=by kernel_rfl
theorem ajM (y0):ag d86 .ret [(4,.v U2 y0)]=some [.v U2 y0]:=by kernel_rfl
def CJ (x0 x1:Int) (k:Int→Option R):Option R:=
(Kb k k x0 x1)
theorem Y1 (x0 x1) (k:List E→Option R):exec cl N Hi (B0 x0 x1) (fun e env=>(ag d86 e env).bind k)=CJ x0 x1 (fun r0=>k [.v U2 r0]):=by
 simp only [Hi,aqV,ajL,ajM,aq]
 rfl
def Il (S:Int→Int→Option (Int)):aO:=dP 86 U2 U2 S fun b=> [.v U2 b]
def gJ (N:Nat) (x0:Int) (x1:Int):Option (Int):=CJ x0 x1 (fun (r0:Int)=>some (r0))
def JZ (gJ:Int→Int→Option (Int)) (k0:Int→Option R) (k1:Int→Option R) (x0 x1:aR):Option R:=
(gJ x0.1 x1.1).bind fun r696=>
ad (r696 != (0:Int)) (k0 r696) ((gJ x0.2.1 x1.2.1).bind fun r698=>
ad (r698 != (0:Int)) (k0 r698) (ad (Op.bytesLess x0.2.2.1 x1.2.2.1) (k0 (-1:Int)) (ad (!((Op.bytesLess x0.2.2.1 x1.2.2.1) || x0.2.2.1==x1.2.2.1)) (k1 (1:Int)) (k1 (0:Int)))))
theorem apV (gJ) (h86:(Il gJ).holds cl) (x0 x1):exec cl N Pt [(0,.v aC x0),(1,.v aC x1)] K=(JZ gJ (fun y0=>K .ret [(2,.dead),(3,.dead),(4,.v U2 y0)]) (fun y0=>K .ret [(4,.v U2 y0)]) x0 x1):=by
 rw [←aN h86]
 kernel_rfl
theorem ajk (y0):ag d59 .ret [(2,.dead),(3,.dead),(4,.v U2 y0)]=some [.v U2 y0]:=by kernel_rfl
theorem ajl (y0):ag d59 .ret [(4,.v U2 y0)]=some [.v U2 y0]:=by kernel_rfl
def CG (gJ:Int→Int→Option (Int)) (x0 x1:aR) (k:Int→Option R):Option R:=
(JZ gJ k k x0 x1)
theorem YS (gJ) (h86:(Il gJ).holds cl) (x0 x1) (k:List E→Option R):exec cl N GK [(0,.v aC x0),(1,.v aC x1)] (fun e env=>(ag d59 e env).bind k)=CG gJ x0 x1 (fun r0=>k [.v U2 r0]):=by
 simp only [GK,apV gJ h86,ajk,ajl,aq]
 rfl
def rH (S:aR→aR→Option (Int)):aO:=dP 59 aC aC S fun b=> [.v U2 b]
def dv (N:Nat) (x0:aR) (x1:aR):Option (Int):=CG (gJ N) x0 x1 (fun (r0:Int)=>some (r0))
def wS (k0:Bool→Option R) (k1:aA→aA→Option R) (x0 x1:aA):Option R:=
ad ((x0.length:Int) != (x1.length:Int)) (k0 false) (k1 x0 x1)
theorem aoM (x0 x1):exec cl N AM (rS x0 x1) K=(wS (fun y0=>K .ret (iQ y0)) (fun y0 y1=>exec cl N AL (B3 y0 y1) K) x0 x1):=by
 delta AM
 generalize AL=q
 revert q
 refine id ?_
 intro q
 kernel_rfl
def wO (k0:aA→aA→Int→Option R) (x0 x1:aA):Option R:=
k0 x0 x1 (0:Int)
theorem aoI (x0 x1):exec cl N OD (B3 x0 x1) K=(wO (fun y0 y1 y2=>K .normal (lK y0 y1 y2)) x0 x1):=by
 kernel_rfl
theorem Uj (x0 x1 x2):aj [0,1,5] (lK x0 x1 x2)=(lK x0 x1 x2):=by kernel_rfl
def wP (dv:aR→aR→Option (Int)) (k0:Bool→Option R) (k1:aA→aA→Int→Option R) (k2:aA→aA→Int→Option R) (x0 x1:aA) (x2:Int):Option R:=
ad (decide (x2 < (x0.length:Int))) (if 0≤x2∧x2 < (x0.length:Int) then
if 0≤x2∧x2 < (x1.length:Int) then
(dv (x0.getD x2.toNat ((0:Int),((0:Int),([],())))) (x1.getD x2.toNat ((0:Int),((0:Int),([],()))))).bind fun r707=>
ad (r707 != (0:Int)) (k0 false) (k1 x0 x1 (IntKind.i64.wrap (x2+(1:Int))))
else none
else none) (k2 x0 x1 x2)
theorem aoJ (dv) (h59:(rH dv).holds cl) (x0 x1 x2):exec cl N F0 (lK x0 x1 x2) K=(wP dv (fun y0=>K .ret (mN y0)) (fun y0 y1 y2=>K .normal (lK y0 y1 y2)) (fun y0 y1 y2=>K (.exit 0) (lK y0 y1 y2)) x0 x1 x2):=by
 rw [←aN h59]
 kernel_rfl
def te {R:Type} (dv:aR→aR→Option (Int)) (k0:Bool→Option R) (k1:aA→aA→Int→Option R):Nat→aA→aA→Int→Option R
 | 0,_,_,_=>none
 | m+1,x0,x1,x2=>(wP dv k0 (te dv k0 k1 m) k1 x0 x1 x2)
theorem aeY (dv) (h59:(rH dv).holds cl):∀ (m) (x0 x1 x2),iter [0,1,5] (fun env K=>exec cl N F0 env K) K m (lK x0 x1 x2)=te dv (fun y0=>K .ret (mN y0)) (fun y0 y1 y2=>K (.exit 0) (lK y0 y1 y2)) m x0 x1 x2:=by
 intro m
 induction m with
 | zero=>intros; rfl
 | succ m ih=>
   intro x0 x1 x2
   simp only [b6,aoJ dv h59,b8,b7,b9,Uj,ih]
   rfl
theorem acd (x0):aj [4] (mN x0)=[(4,.v .bool x0)]:=by kernel_rfl
theorem ace (x0 x1 x2):aj [4] (lK x0 x1 x2)=[(4,.dead)]:=by kernel_rfl
def wQ (N:Nat) (dv:aR→aR→Option (Int)) (k0:Bool→Option R) (k1:Option R) (x0 x1:aA) (x2:Int):Option R:=
te dv k0 (fun y0 y1 y2=>k1) N x0 x1 x2
theorem aoK (dv) (h59:(rH dv).holds cl) (x0 x1 x2):exec cl N F1 (lK x0 x1 x2) K=(wQ N dv (fun y0=>K .ret [(4,.v .bool y0)]) (K (.exit 0) [(4,.dead)]) x0 x1 x2):=by
 simp only [F1,aT,b5,Uj,aeY dv h59,acd,ace]
 rfl
theorem acf (x0):aj [4] [(4,.v .bool x0)]=[(4,.v .bool x0)]:=by kernel_rfl
theorem acg:aj [4] [(4,.dead)]=[(4,.dead)]:=by kernel_rfl
def wR (k0:Bool→Option R):Option R:=
k0 true
theorem aoL:exec cl N OG [(4,.dead)] K=(wR (fun y0=>K .ret [(4,.v .bool y0)])):=by
 kernel_rfl
def wT (N:Nat) (dv:aR→aR→Option (Int)) (k0:Bool→Option R) (k1:Bool→Option R) (x0 x1:aA):Option R:=
(wS k0 (wO (wQ N dv k1 (wR k1))) x0 x1)
theorem aoN (dv) (h59:(rH dv).holds cl) (x0 x1):exec cl N AM (rS x0 x1) K=(wT N dv (fun y0=>K .ret (iQ y0)) (fun y0=>K .ret [(4,.v .bool y0)]) x0 x1):=by
 simp only [bQ,bS,bR,bT,aoM,AL,OF,aoI,OE,aT,cj,aoK dv h59,cd,cg,cc,acf,acg,aoL]
 rfl
theorem aiO (y0):ag d28 .ret (iQ y0)=some [.v .bool y0]:=by kernel_rfl
theorem aiP (y0):ag d28 .ret [(4,.v .bool y0)]=some [.v .bool y0]:=by kernel_rfl
def sn (N:Nat) (dv:aR→aR→Option (Int)) (x0 x1:aA) (k:Bool→Option R):Option R:=
(wT N dv k k x0 x1)
theorem YA (dv) (h59:(rH dv).holds cl) (x0 x1) (k:List E→Option R):exec cl N FZ (rS x0 x1) (fun e env=>(ag d28 e env).bind k)=sn N dv x0 x1 (fun r0=>k [.v .bool r0]):=by
 simp only [FZ,aoN dv h59,aiO,aiP,aq]
 rfl
def mJ (S:aA→aA→Option (Bool)):aO:=dP 28 bp bp S fun b=> [.v .bool b]
def bK (N:Nat) (x0:aA) (x1:aA):Option (Bool):=sn N (dv N) x0 x1 (fun (r0:Bool)=>some (r0))
def pX (eZ:V3→Option (Bool)) (k0:Int→Int→Option R) (k1:ae→Option R) (x0:ae):Option R:=
(eZ x0.1).bind fun r715=>
ad (!r715) (k0 (-1:Int) (2:Int)) (ad ((x0.2.1.length:Int)==(0:Int)) (k0 (-1:Int) (7:Int)) (ad (decide ((x0.2.1.length:Int) > (120:Int))) (k0 (-1:Int) (3:Int)) (k1 x0)))
theorem aqb (eZ) (h90:(BQ eZ).holds cl) (x0):exec cl N A8 [(0,.v ar x0)] K=(pX eZ (fun y0 y1=>K .ret (rT y0 y1)) (fun y0=>exec cl N A7 (B4 y0) K) x0):=by
 rw [←aN h90]
 delta A8
 generalize A7=q
 revert q
 refine id ?_
 intro q
 kernel_rfl
def pU (k0:ae→Int→Option R) (x0:ae):Option R:=
k0 x0 (0:Int)
theorem ap8 (x0):exec cl N PF (B4 x0) K=(pU (fun y0 y1=>K .normal (iR y0 y1)) x0):=by
 kernel_rfl
theorem Uu (x0 x1):aj [1,4] (iR x0 x1)=(iR x0 x1):=by kernel_rfl
def p7 (k0:ae→Int→Option R) (k1:ae→Int→Option R) (x0:ae) (x1:Int):Option R:=
ad (decide (x1 < (x0.2.1.length:Int))) (k0 x0 x1) (k1 x0 x1)
theorem aqg (x0 x1):exec cl N uE (iR x0 x1) K=(p7 (fun y0 y1=>exec cl N Ba (iR y0 y1) K) (fun y0 y1=>K (.exit 0) (iR y0 y1)) x0 x1):=by
 delta uE
 generalize Ba=q
 revert q
 refine id ?_
 intro q
 kernel_rfl
def p5 (cJ:aV→Option (Int)) (k0:Int→Int→Option R) (k1:ae→Int→Int→Option R) (x0:ae) (x1:Int):Option R:=
if 0≤x1∧x1 < (x0.2.1.length:Int) then
(cJ (x0.2.1.getD x1.toNat ([],([],((0:Int),((0:Int),())))))).bind fun r719=>
ad (r719 != (0:Int)) (k0 x1 r719) (k1 x0 x1 (0:Int))
else none
theorem aqe (cJ) (h91:(oL cJ).holds cl) (x0 x1):exec cl N GU (iR x0 x1) K=(p5 cJ (fun y0 y1=>K .ret (nB y0 y1)) (fun y0 y1 y2=>exec cl N A9 (lL y0 y1 y2) K) x0 x1):=by
 rw [←aN h91]
 delta GU
 generalize A9=q
 revert q
 refine id ?_
 intro q
 kernel_rfl
theorem Uv (x0 x1 x2):aj [1,4,6] (lL x0 x1 x2)=(lL x0 x1 x2):=by kernel_rfl
def pV (bK:aA→aA→Option (Bool)) (k0:Int→Int→Option R) (k1:ae→Int→Int→Option R) (k2:ae→Int→Int→Option R) (x0:ae) (x1 x2:Int):Option R:=
ad (decide (x2 < x1)) (if 0≤x1∧x1 < (x0.2.1.length:Int) then
if 0≤x2∧x2 < (x0.2.1.length:Int) then
ad ((x0.2.1.getD x1.toNat ([],([],((0:Int),((0:Int),()))))).1==(x0.2.1.getD x2.toNat ([],([],((0:Int),((0:Int),()))))).1) (ad ((x0.2.1.getD x1.toNat ([],([],((0:Int),((0:Int),()))))).2.2.2.1==(x0.2.1.getD x2.toNat ([],([],((0:Int),((0:Int),()))))).2.2.2.1) ((bK ((x0.2.1.getD x1.toNat ([],([],((0:Int),((0:Int),()))))).2.1) ((x0.2.1.getD x2.toNat ([],([],((0:Int),((0:Int),()))))).2.1)).bind fun r724=>
ad r724 (k0 x1 (5:Int)) (k1 x0 x1 (IntKind.i64.wrap (x2+(1:Int))))) (k1 x0 x1 (IntKind.i64.wrap (x2+(1:Int))))) (k1 x0 x1 (IntKind.i64.wrap (x2+(1:Int))))
else none
else none) (k2 x0 x1 x2)
theorem ap9 (bK) (h28:(mJ bK).holds cl) (x0 x1 x2):exec cl N GR (lL x0 x1 x2) K=(pV bK (fun y0 y1=>K .ret (IY y0 y1)) (fun y0 y1 y2=>K .normal (lL y0 y1 y2)) (fun y0 y1 y2=>K (.exit 2) (lL y0 y1 y2)) x0 x1 x2):=by
 rw [←aN h28]
 kernel_rfl
def qn {R:Type} (bK:aA→aA→Option (Bool)) (k0:Int→Int→Option R) (k1:ae→Int→Int→Option R):Nat→ae→Int→Int→Option R
 | 0,_,_,_=>none
 | m+1,x0,x1,x2=>(pV bK k0 (qn bK k0 k1 m) k1 x0 x1 x2)
theorem afb (bK) (h28:(mJ bK).holds cl):∀ (m) (x0 x1 x2),iter [1,4,6] (fun env K=>exec cl N GR env K) K m (lL x0 x1 x2)=qn bK (fun y0 y1=>K .ret (IY y0 y1)) (fun y0 y1 y2=>K (.exit 2) (lL y0 y1 y2)) m x0 x1 x2:=by
 intro m
 induction m with
 | zero=>intros; rfl
 | succ m ih=>
   intro x0 x1 x2
   simp only [b6,ap9 bK h28,b8,b7,b9,Uv,ih]
   rfl
theorem acR (x0 x1):aj [1,2,3,4] (IY x0 x1)=(nB x0 x1):=by kernel_rfl
theorem acS (x0 x1 x2):aj [1,2,3,4] (lL x0 x1 x2)=(uY x0 x1):=by kernel_rfl
def pZ (N:Nat) (bK:aA→aA→Option (Bool)) (k0:Int→Int→Option R) (k1:ae→Int→Option R) (x0:ae) (x1 x2:Int):Option R:=
qn bK k0 (fun y0 y1 y2=>k1 y0 y1) N x0 x1 x2
theorem aqd (bK) (h28:(mJ bK).holds cl) (x0 x1 x2):exec cl N GS (lL x0 x1 x2) K=(pZ N bK (fun y0 y1=>K .ret (nB y0 y1)) (fun y0 y1=>K (.exit 2) (uY y0 y1)) x0 x1 x2):=by
 simp only [GS,aT,b5,Uv,afb bK h28,acR,acS]
 rfl
theorem acT (x0 x1):aj [1,2,3,4] (nB x0 x1)=(nB x0 x1):=by kernel_rfl
theorem acU (x0 x1):aj [1,2,3,4] (uY x0 x1)=(uY x0 x1):=by kernel_rfl
def p6 (k0:ae→Int→Option R) (x0:ae) (x1:Int):Option R:=
k0 x0 (IntKind.i64.wrap (x1+(1:Int)))
theorem aqf (x0 x1):exec cl N PK (uY x0 x1) K=(p6 (fun y0 y1=>K .normal (iR y0 y1)) x0 x1):=by
 kernel_rfl
def p8 (N:Nat) (bK:aA→aA→Option (Bool)) (cJ:aV→Option (Int)) (k0:Int→Int→Option R) (k1:ae→Int→Option R) (k2:ae→Int→Option R) (x0:ae) (x1:Int):Option R:=
(p7 (p5 cJ k0 (pZ N bK k0 (((p6 k1))))) k2 x0 x1)
theorem aqh (bK) (cJ) (h28:(mJ bK).holds cl) (h91:(oL cJ).holds cl) (x0 x1):exec cl N uE (iR x0 x1) K=(p8 N bK cJ (fun y0 y1=>K .ret (nB y0 y1)) (fun y0 y1=>K .normal (iR y0 y1)) (fun y0 y1=>K (.exit 0) (iR y0 y1)) x0 x1):=by
 simp only [bQ,bS,bR,bT,aqg,Ba,PJ,aT,cj,aqe cJ h91,A9,aqd bK h28,cd,cg,cc,acT,acU,aqf]
 rfl
def nS {R:Type} (N:Nat) (bK:aA→aA→Option (Bool)) (cJ:aV→Option (Int)) (k0:Int→Int→Option R) (k1:ae→Int→Option R):Nat→ae→Int→Option R
 | 0,_,_=>none
 | m+1,x0,x1=>(p8 N bK cJ k0 (nS N bK cJ k0 k1 m) k1 x0 x1)
theorem afc (bK) (cJ) (h28:(mJ bK).holds cl) (h91:(oL cJ).holds cl):∀ (m) (x0 x1),iter [1,4] (fun env K=>exec cl N uE env K) K m (iR x0 x1)=nS N bK cJ (fun y0 y1=>K .ret (nB y0 y1)) (fun y0 y1=>K (.exit 0) (iR y0 y1)) m x0 x1:=by
 intro m
 induction m with
 | zero=>intros; rfl
 | succ m ih=>
   intro x0 x1
   simp only [b6,aqh bK cJ h28 h91,b8,b7,b9,Uu,ih]
   rfl
theorem acV (x0 x1):aj [2,3] (nB x0 x1)=(jq x0 x1):=by kernel_rfl
theorem acW (x0 x1):aj [2,3] (iR x0 x1)=[(2,.dead),(3,.dead)]:=by kernel_rfl
def p9 (N:Nat) (bK:aA→aA→Option (Bool)) (cJ:aV→Option (Int)) (k0:Int→Int→Option R) (k1:Option R) (x0:ae) (x1:Int):Option R:=
nS N bK cJ k0 (fun y0 y1=>k1) N x0 x1
theorem aqi (bK) (cJ) (h28:(mJ bK).holds cl) (h91:(oL cJ).holds cl) (x0 x1):exec cl N GV (iR x0 x1) K=(p9 N bK cJ (fun y0 y1=>K .ret (jq y0 y1)) (K (.exit 0) [(2,.dead),(3,.dead)]) x0 x1):=by
 simp only [GV,aT,b5,Uu,afc bK cJ h28 h91,acV,acW]
 rfl
theorem acX (x0 x1):aj [2,3] (jq x0 x1)=(jq x0 x1):=by kernel_rfl
theorem acY:aj [2,3] [(2,.dead),(3,.dead)]=[(2,.dead),(3,.dead)]:=by kernel_rfl
def pW (k0:Int→Int→Option R):Option R:=
k0 (-1:Int) (0:Int)
theorem aqa:exec cl N PI [(2,.dead),(3,.dead)] K=(pW (fun y0 y1=>K .ret (jq y0 y1))):=by
 kernel_rfl
def pY (N:Nat) (bK:aA→aA→Option (Bool)) (eZ:V3→Option (Bool)) (cJ:aV→Option (Int)) (k0:Int→Int→Option R) (k1:Int→Int→Option R) (x0:ae):Option R:=
(pX eZ k0 (pU (p9 N bK cJ k1 (pW k1))) x0)
theorem aqc (bK) (eZ) (cJ) (h28:(mJ bK).holds cl) (h90:(BQ eZ).holds cl) (h91:(oL cJ).holds cl) (x0):exec cl N A8 [(0,.v ar x0)] K=(pY N bK eZ cJ (fun y0 y1=>K .ret (rT y0 y1)) (fun y0 y1=>K .ret (jq y0 y1)) x0):=by
 simp only [bQ,bS,bR,bT,aqb eZ h90,A7,PH,ap8,PG,aT,cj,aqi bK cJ h28 h91,cd,cg,cc,acX,acY,aqa]
 rfl
theorem ajt (y0 y1):ag d67 .ret (rT y0 y1)=some [.v U2 y0,.v U2 y1]:=by kernel_rfl
theorem aju (y0 y1):ag d67 .ret (jq y0 y1)=some [.v U2 y0,.v U2 y1]:=by kernel_rfl
def nP (N:Nat) (bK:aA→aA→Option (Bool)) (eZ:V3→Option (Bool)) (cJ:aV→Option (Int)) (x0:ae) (k:Int→Int→Option R):Option R:=
(pY N bK eZ cJ k k x0)
theorem YU (bK) (eZ) (cJ) (h28:(mJ bK).holds cl) (h90:(BQ eZ).holds cl) (h91:(oL cJ).holds cl) (x0) (k:List E→Option R):exec cl N GQ [(0,.v ar x0)] (fun e env=>(ag d67 e env).bind k)=nP N bK eZ cJ x0 (fun r0 r1=>k [.v U2 r0,.v U2 r1]):=by
 simp only [GQ,aqc bK eZ cJ h28 h90 h91,ajt,aju,aq]
 rfl
def rJ (S:ae→Option V1):aO:=cE 67 ar S fun b=> [.v U2 b.1,.v U2 b.2]
def dD (N:Nat) (x0:ae):Option V1:=nP N (bK N) (eZ N) (cJ N) x0 (fun (r0:Int) (r1:Int)=>some (r0,r1))
def SN (fV:V3→Option fH) (k0:ae→Int→Int→Option R) (k1:ae→Int→Int→Option R) (k2:V3→ae→aE→ae→Option R) (x0:V3):Option R:=
ad (decide ((x0.length:Int) > (20000:Int))) (k0 ([],[],()) (0:Int) (3:Int)) ((fV x0).bind fun r734=>
ad ((r734.length:Int)==(0:Int)) (k1 ([],[],()) (1:Int) (2:Int)) (k2 x0 ([],([],())) r734 ([],([],()))))
theorem aqm (fV) (h92:(BR fV).holds cl) (x0):exec cl N Bc [(0,.v .str x0)] K=(SN fV (fun y0 y1 y2=>K .ret (IZ y0 y1 y2)) (fun y0 y1 y2=>K .ret (I0 y0 y1 y2)) (fun y0 y1 y2 y3=>exec cl N Bb (Rq y0 y1 y2 y3) K) x0):=by
 rw [←aN h92]
 delta Bc
 generalize Bb=q
 revert q
 refine id ?_
 intro q
 kernel_rfl
def SK (k0:V3→ae→aE→ae→Int→Option R) (x0:V3) (x1:ae) (x2:aE) (x3:ae):Option R:=
k0 x0 x1 x2 x3 (0:Int)
theorem aqj (x0 x1 x2 x3):exec cl N PL (Rq x0 x1 x2 x3) K=(SK (fun y0 y1 y2 y3 y4=>K .normal (gN y0 y1 y2 y3 y4)) x0 x1 x2 x3):=by
 kernel_rfl
theorem Uw (x0 x1 x2 x3 x4):aj [0,2,5,6,7] (gN x0 x1 x2 x3 x4)=(gN x0 x1 x2 x3 x4):=by kernel_rfl
def SL (k0:V3→ae→aE→ae→Int→Option R) (k1:V3→ae→aE→ae→Int→Option R) (x0:V3) (x1:ae) (x2:aE) (x3:ae) (x4:Int):Option R:=
ad (decide (x4 < (x2.length:Int))) (k0 x0 x1 x2 x3 x4) (k1 x0 x1 x2 x3 x4)
theorem aqk (x0 x1 x2 x3 x4):exec cl N PM (gN x0 x1 x2 x3 x4) K=(SL (fun y0 y1 y2 y3 y4=>K .normal (gN y0 y1 y2 y3 y4)) (fun y0 y1 y2 y3 y4=>K (.exit 0) (gN y0 y1 y2 y3 y4)) x0 x1 x2 x3 x4):=by
 kernel_rfl
def SP (k0:V3→ae→aE→ae→Int→Bool→Option R) (x0:V3) (x1:ae) (x2:aE) (x3:ae) (x4:Int):Option R:=
ad (x4==(IntKind.i64.wrap ((x2.length:Int) - (1:Int)))) (let v738:Int:=(IntKind.i64.wrap ((x0.length:Int) - (1:Int)))
if 0≤v738∧v738 < (x0.length:Int) then
k0 x0 x1 x2 x3 x4 (((x0.getD v738.toNat 0).toNat:Int) != (10:Int))
else none) (k0 x0 x1 x2 x3 x4 false)
theorem aqo (x0 x1 x2 x3 x4):exec cl N PR (gN x0 x1 x2 x3 x4) K=(SP (fun y0 y1 y2 y3 y4 y5=>K .normal (Rs y0 y1 y2 y3 y4 y5)) x0 x1 x2 x3 x4):=by
 kernel_rfl
def SQ (bN:V3→Option fH) (cV:V3→Option nk) (k0:ae→Int→Int→Option R) (k1:V3→ae→aE→ae→Int→Option R) (x0:V3) (x1:ae) (x2:aE) (x3:ae) (x4:Int) (x5:Bool):Option R:=
if 0≤x4∧x4 < (x2.length:Int) then
if x4.toNat < x2.length then
(bN (x2.getD x4.toNat [])).bind fun r742=>
if 0≤x4∧x4 < (x2.length:Int) then
if x4.toNat < x2.length then
(cV (x2.getD x4.toNat [])).bind fun r744=>
ad (x4==(0:Int)) (ad ((r742.length:Int)==(2:Int)) (if 0≤(0:Int)∧(0:Int) < (r742.length:Int) then
if ((0:Int).toNat) < r742.length then
ad x5 (k0 ([],[],()) (IntKind.i64.wrap (x4+(1:Int))) (2:Int)) (ad (!((r742.getD ((0:Int).toNat) [])==([111,114,116,104,111,103,114,97,112,104,121]:List UInt8))) (k0 ([],[],()) (IntKind.i64.wrap (x4+(1:Int))) (2:Int)) (ad (x4==(0:Int)) (if 0≤(1:Int)∧(1:Int) < (r742.length:Int) then
if ((1:Int).toNat) < r742.length then
k1 x0 x1 x2 ((r742.getD ((1:Int).toNat) []),x3.2) x4
else none
else none) (if x3.2.1.length+[r744.1].length≤2513169434916 then
k1 x0 x1 x2 (x3.1,((x3.2.1++[r744.1]),x3.2.2)) x4
else none)))
else none
else none) (ad x5 (k0 ([],[],()) (IntKind.i64.wrap (x4+(1:Int))) (2:Int)) (k0 ([],[],()) (IntKind.i64.wrap (x4+(1:Int))) (2:Int)))) (ad x5 (k0 ([],[],()) (IntKind.i64.wrap (x4+(1:Int))) (2:Int)) (ad (!r744.2) (k0 ([],[],()) (IntKind.i64.wrap (x4+(1:Int))) (2:Int)) (ad (x4==(0:Int)) (if 0≤(1:Int)∧(1:Int) < (r742.length:Int) then
if ((1:Int).toNat) < r742.length then
k1 x0 x1 x2 ((r742.getD ((1:Int).toNat) []),x3.2) x4
else none
else none) (if x3.2.1.length+[r744.1].length≤2513169434916 then
k1 x0 x1 x2 (x3.1,((x3.2.1++[r744.1]),x3.2.2)) x4
else none))))
else none
else none
else none
else none
theorem aqp (bN) (cV) (h93:(kY bN).holds cl) (h94:(oM cV).holds cl) (x0 x1 x2 x3 x4 x5):exec cl N PS (Rs x0 x1 x2 x3 x4 x5) K=(SQ bN cV (fun y0 y1 y2=>K .ret (Rt y0 y1 y2)) (fun y0 y1 y2 y3 y4=>K .normal (gN y0 y1 y2 y3 y4)) x0 x1 x2 x3 x4 x5):=by
 rw [←aN h93]
 rw [←aN h94]
 kernel_rfl
theorem acZ (x0 x1 x2):aj [0,2,3,4,5,6,7] (Rt x0 x1 x2)=(B5 x0 x1 x2):=by kernel_rfl
theorem ac0 (x0 x1 x2 x3 x4):aj [0,2,3,4,5,6,7] (gN x0 x1 x2 x3 x4)=(Ru x0 x1 x2 x3 x4):=by kernel_rfl
def SR (k0:V3→ae→aE→ae→Int→Option R) (x0:V3) (x1:ae) (x2:aE) (x3:ae) (x4:Int):Option R:=
k0 x0 x1 x2 x3 (IntKind.i64.wrap (x4+(1:Int)))
theorem aqq (x0 x1 x2 x3 x4):exec cl N PV (Ru x0 x1 x2 x3 x4) K=(SR (fun y0 y1 y2 y3 y4=>K .normal (gN y0 y1 y2 y3 y4)) x0 x1 x2 x3 x4):=by
 kernel_rfl
def SS (bN:V3→Option fH) (cV:V3→Option nk) (k0:ae→Int→Int→Option R) (k1:V3→ae→aE→ae→Int→Option R) (k2:V3→ae→aE→ae→Int→Option R) (x0:V3) (x1:ae) (x2:aE) (x3:ae) (x4:Int):Option R:=
(SL (SP (SQ bN cV k0 ((SR k1)))) k2 x0 x1 x2 x3 x4)
theorem aqr (bN) (cV) (h93:(kY bN).holds cl) (h94:(oM cV).holds cl) (x0 x1 x2 x3 x4):exec cl N Bd (gN x0 x1 x2 x3 x4) K=(SS bN cV (fun y0 y1 y2=>K .ret (B5 y0 y1 y2)) (fun y0 y1 y2 y3 y4=>K .normal (gN y0 y1 y2 y3 y4)) (fun y0 y1 y2 y3 y4=>K (.exit 0) (gN y0 y1 y2 y3 y4)) x0 x1 x2 x3 x4):=by
 simp only [Bd,bQ,bS,bR,bT,aqk,PW,PU,aT,cj,PT,aqo,aqp bN cV h93 h94,cd,cg,cc,acZ,ac0,aqq]
 rfl
def KU {R:Type} (bN:V3→Option fH) (cV:V3→Option nk) (k0:ae→Int→Int→Option R) (k1:V3→ae→aE→ae→Int→Option R):Nat→V3→ae→aE→ae→Int→Option R
 | 0,_,_,_,_,_=>none
 | m+1,x0,x1,x2,x3,x4=>(SS bN cV k0 (KU bN cV k0 k1 m) k1 x0 x1 x2 x3 x4)
theorem afd (bN) (cV) (h93:(kY bN).holds cl) (h94:(oM cV).holds cl):∀ (m) (x0 x1 x2 x3 x4),iter [0,2,5,6,7] (fun env K=>exec cl N Bd env K) K m (gN x0 x1 x2 x3 x4)=KU bN cV (fun y0 y1 y2=>K .ret (B5 y0 y1 y2)) (fun y0 y1 y2 y3 y4=>K (.exit 0) (gN y0 y1 y2 y3 y4)) m x0 x1 x2 x3 x4:=by
 intro m
 induction m with
 | zero=>intros; rfl
 | succ m ih=>
   intro x0 x1 x2 x3 x4
   simp only [b6,aqr bN cV h93 h94,b8,b7,b9,Uw,ih]
   rfl
theorem ac1 (x0 x1 x2):aj [2,3,4,6] (B5 x0 x1 x2)=(oT x0 x1 x2):=by kernel_rfl
theorem ac2 (x0 x1 x2 x3 x4):aj [2,3,4,6] (gN x0 x1 x2 x3 x4)=(uZ x1 x3):=by kernel_rfl
def SU (N:Nat) (bN:V3→Option fH) (cV:V3→Option nk) (k0:ae→Int→Int→Option R) (k1:ae→ae→Option R) (x0:V3) (x1:ae) (x2:aE) (x3:ae) (x4:Int):Option R:=
KU bN cV k0 (fun y0 y1 y2 y3 y4=>k1 y1 y3) N x0 x1 x2 x3 x4
theorem aqs (bN) (cV) (h93:(kY bN).holds cl) (h94:(oM cV).holds cl) (x0 x1 x2 x3 x4):exec cl N GX (gN x0 x1 x2 x3 x4) K=(SU N bN cV (fun y0 y1 y2=>K .ret (oT y0 y1 y2)) (fun y0 y1=>K (.exit 0) (uZ y0 y1)) x0 x1 x2 x3 x4):=by
 simp only [GX,aT,b5,Uw,afd bN cV h93 h94,ac1,ac2]
 rfl
theorem ac3 (x0 x1 x2):aj [2,3,4,6] (oT x0 x1 x2)=(oT x0 x1 x2):=by kernel_rfl
theorem ac4 (x0 x1):aj [2,3,4,6] (uZ x0 x1)=(uZ x0 x1):=by kernel_rfl
def SM (dD:ae→Option V1) (k0:ae→Int→Int→Option R) (k1:ae→Int→Int→Option R) (x0 x1:ae):Option R:=
(dD x1).bind fun r760=>
ad (r760.2 != (0:Int)) (ad (decide (r760.1≥(0:Int))) (k0 ([],[],()) (IntKind.i64.wrap (r760.1+(2:Int))) r760.2) (k0 ([],[],()) (1:Int) r760.2)) (k1 x1 (0:Int) (0:Int))
theorem aql (dD) (h67:(rJ dD).holds cl) (x0 x1):exec cl N PQ (uZ x0 x1) K=(SM dD (fun y0 y1 y2=>K .ret (oT y0 y1 y2)) (fun y0 y1 y2=>K .ret (I1 y0 y1 y2)) x0 x1):=by
 rw [←aN h67]
 kernel_rfl
def SO (N:Nat) (dD:ae→Option V1) (fV:V3→Option fH) (bN:V3→Option fH) (cV:V3→Option nk) (k0:ae→Int→Int→Option R) (k1:ae→Int→Int→Option R) (k2:ae→Int→Int→Option R) (k3:ae→Int→Int→Option R) (x0:V3):Option R:=
(SN fV k0 k1 (SK (SU N bN cV k2 ((SM dD k2 k3)))) x0)
theorem aqn (dD) (fV) (bN) (cV) (h67:(rJ dD).holds cl) (h92:(BR fV).holds cl) (h93:(kY bN).holds cl) (h94:(oM cV).holds cl) (x0):exec cl N Bc [(0,.v .str x0)] K=(SO N dD fV bN cV (fun y0 y1 y2=>K .ret (IZ y0 y1 y2)) (fun y0 y1 y2=>K .ret (I0 y0 y1 y2)) (fun y0 y1 y2=>K .ret (oT y0 y1 y2)) (fun y0 y1 y2=>K .ret (I1 y0 y1 y2)) x0):=by
 simp only [bQ,bS,bR,bT,aqm fV h92,Bb,PO,aqj,PN,aT,cj,aqs bN cV h93 h94,cd,cg,cc,ac3,ac4,aql dD h67]
 rfl
theorem ajv (y0 y1 y2):ag d69 .ret (IZ y0 y1 y2)=some [.v ar y0,.v U2 y1,.v U2 y2]:=by kernel_rfl
theorem ajw (y0 y1 y2):ag d69 .ret (I0 y0 y1 y2)=some [.v ar y0,.v U2 y1,.v U2 y2]:=by kernel_rfl
theorem ajx (y0 y1 y2):ag d69 .ret (oT y0 y1 y2)=some [.v ar y0,.v U2 y1,.v U2 y2]:=by kernel_rfl
theorem ajy (y0 y1 y2):ag d69 .ret (I1 y0 y1 y2)=some [.v ar y0,.v U2 y1,.v U2 y2]:=by kernel_rfl
def J6 (N:Nat) (dD:ae→Option V1) (fV:V3→Option fH) (bN:V3→Option fH) (cV:V3→Option nk) (x0:V3) (k:ae→Int→Int→Option R):Option R:=
(SO N dD fV bN cV k k k k x0)
theorem YV (dD) (fV) (bN) (cV) (h67:(rJ dD).holds cl) (h92:(BR fV).holds cl) (h93:(kY bN).holds cl) (h94:(oM cV).holds cl) (x0) (k:List E→Option R):exec cl N GW [(0,.v .str x0)] (fun e env=>(ag d69 e env).bind k)=J6 N dD fV bN cV x0 (fun r0 r1 r2=>k [.v ar r0,.v U2 r1,.v U2 r2]):=by
 simp only [GW,aqn dD fV bN cV h67 h92 h93 h94,ajv,ajw,ajx,ajy,aq]
 rfl
def Ih (S:V3→Option zE):aO:=cE 69 .str S fun b=> [.v ar b.1,.v U2 b.2.1,.v U2 b.2.2]
def jj (N:Nat) (x0:V3):Option zE:=J6 N (dD N) (fV N) (bN N) (cV N) x0 (fun (r0:ae) (r1:Int) (r2:Int)=>some (r0,r1,r2))
def SD (jj:V3→Option zE) (k0:ae→Option R):Option R:=
(jj ([111,114,116,104,111,103,114,97,112,104,121,32,108,97,116,105,110,10,97,32,97,47,118,51,32,49,32,97,110,121,119,104,101,114,101,10,101,32,101,47,118,51,32,49,32,97,110,121,119,104,101,114,101,10,105,32,105,47,118,51,32,49,32,97,110,121,119,104,101,114,101,10,111,32,111,47,118,51,32,49,32,97,110,121,119,104,101,114,101,10,117,32,117,47,118,51,32,49,32,97,110,121,119,104,101,114,101,10,121,32,121,47,118,51,32,49,32,97,110,121,119,104,101,114,101,10,97,95,32,97,95,47,118,50,32,49,32,97,110,121,119,104,101,114,101,10,101,95,32,101,95,47,118,50,32,49,32,97,110,121,119,104,101,114,101,10,105,95,32,105,95,47,118,50,32,49,32,97,110,121,119,104,101,114,101,10,111,95,32,111,95,47,118,50,32,49,32,97,110,121,119,104,101,114,101,10,117,95,32,117,95,47,118,50,32,49,32,97,110,121,119,104,101,114,101,10,121,95,32,121,95,47,118,50,32,49,32,97,110,121,119,104,101,114,101,10,97,94,32,97,94,47,118,49,32,49,32,97,110,121,119,104,101,114,101,10,101,94,32,101,94,47,118,49,32,49,32,97,110,121,119,104,101,114,101,10,105,94,32,105,94,47,118,49,32,49,32,97,110,121,119,104,101,114,101,10,111,94,32,111,94,47,118,49,32,49,32,97,110,121,119,104,101,114,101,10,117,94,32,117,94,47,118,49,32,49,32,97,110,121,119,104,101,114,101,10,121,94,32,121,94,47,118,49,32,49,32,97,110,121,119,104,101,114,101,10,97,101,32,97,101,47,100,50,32,49,32,97,110,121,119,104,101,114,101,10,97,117,32,97,117,47,100,50,32,49,32,97,110,121,119,104,101,114,101,10,111,101,32,111,101,47,100,50,32,49,32,97,110,121,119,104,101,114,101,10,101,117,32,101,117,47,100,50,32,51,32,97,110,121,119,104,101,114,101,10,105,32,105,47,103,32,48,32,115,116,97,114,116,10,105,32,105,47,103,32,105,47,103,32,48,32,98,101,116,119,101,101,110,10,117,32,117,47,103,32,48,32,115,116,97,114,116,10,117,32,117,47,103,32,48,32,98,101,116,119,101,101,110,10,106,32,106,47,103,32,48,32,97,110,121,119,104,101,114,101,10,118,32,118,47,103,32,48,32,97,110,121,119,104,101,114,101,10,113,117,32,113,117,47,109,32,48,32,98,101,102,111,114,101,10,103,117,32,103,117,47,109,32,50,32,98,101,102,111,114,101,10,115,117,32,115,47,115,32,117,47,103,32,51,32,98,101,102,111,114,101,10,98,32,98,47,109,32,48,32,97,110,121,119,104,101,114,101,10,99,32,99,47,109,32,48,32,97,110,121,119,104,101,114,101,10,100,32,100,47,109,32,48,32,97,110,121,119,104,101,114,101,10,102,32,102,47,109,32,48,32,97,110,121,119,104,101,114,101,10,103,32,103,47,109,32,48,32,97,110,121,119,104,101,114,101,10,107,32,107,47,109,32,48,32,97,110,121,119,104,101,114,101,10,112,32,112,47,109,32,48,32,97,110,121,119,104,101,114,101,10,116,32,116,47,109,32,48,32,97,110,121,119,104,101,114,101,10,108,32,108,47,108,32,48,32,97,110,121,119,104,101,114,101,10,114,32,114,47,108,32,48,32,97,110,121,119,104,101,114,101,10,109,32,109,47,110,32,48,32,97,110,121,119,104,101,114,101,10,110,32,110,47,110,32,48,32,97,110,121,119,104,101,114,101,10,115,32,115,47,115,32,48,32,97,110,121,119,104,101,114,101,10,120,32,120,47,120,32,48,32,97,110,121,119,104,101,114,101,10,122,32,122,47,120,32,48,32,97,110,121,119,104,101,114,101,10,104,32,104,47,98,32,48,32,97,110,121,119,104,101,114,101,10]:List UInt8)).bind fun r765=>
k0 r765.1
theorem aoV (jj) (h69:(Ih jj).holds cl):exec cl N OM [] K=(SD jj (fun y0=>K .ret [(0,.loc ar .no y0)])):=by
 rw [←aN h69]
 kernel_rfl
theorem aiU (y0):ag d37 .ret [(0,.loc ar .no y0)]=some [.v ar y0]:=by kernel_rfl
def JR (jj:V3→Option zE) (k:ae→Option R):Option R:=
(SD jj k)
theorem YD (jj) (h69:(Ih jj).holds cl) (k:List E→Option R):exec cl N F6 [] (fun e env=>(ag d37 e env).bind k)=JR jj (fun r0=>k [.v ar r0]):=by
 simp only [F6,aoV jj h69,aiU,aq]
 rfl
def BN (S:Option ug):aO:={A:=Unit,B:=ae,f:=37,enc:=fun a=> [],dec:=ck,S:=fun a=>S,av:=fun b=> [.v ar b],ok:=(fun es b h=>jn h)}
def hZ (N:Nat):Option ug:=JR (jj N) (fun (r0:ae)=>some (r0))
def JH (k0:Bool→Option R) (x0:Int):Option R:=
ad (decide (x0≥(97:Int))) (k0 (decide (x0≤(122:Int)))) (k0 false)
theorem ant (x0):exec cl N NF [(0,.v U0 x0)] K=(JH (fun y0=>K .ret [(2,.v .bool y0)]) x0):=by
 kernel_rfl
theorem ain (y0):ag d149 .ret [(2,.v .bool y0)]=some [.v .bool y0]:=by kernel_rfl
def Ct (x0:Int) (k:Bool→Option R):Option R:=
(JH k x0)
theorem Yj (x0) (k:List E→Option R):exec cl N Fe [(0,.v U0 x0)] (fun e env=>(ag d149 e env).bind k)=Ct x0 (fun r0=>k [.v .bool r0]):=by
 simp only [Fe,ant,ain,aq]
 rfl
def oI (S:Int→Option (Bool)):aO:=cE 149 U0 S fun b=> [.v .bool b]
def cI (N:Nat) (x0:Int):Option (Bool):=Ct x0 (fun (r0:Bool)=>some (r0))
def JI (k0:Bool→Option R) (x0:Int):Option R:=
ad (decide (x0≥(48:Int))) (k0 (decide (x0≤(57:Int)))) (k0 false)
theorem anu (x0):exec cl N NG [(0,.v U0 x0)] K=(JI (fun y0=>K .ret [(2,.v .bool y0)]) x0):=by
 kernel_rfl
theorem aio (y0):ag d150 .ret [(2,.v .bool y0)]=some [.v .bool y0]:=by kernel_rfl
def Cu (x0:Int) (k:Bool→Option R):Option R:=
(JI k x0)
theorem Yl (x0) (k:List E→Option R):exec cl N Fg [(0,.v U0 x0)] (fun e env=>(ag d150 e env).bind k)=Cu x0 (fun r0=>k [.v .bool r0]):=by
 simp only [Fg,anu,aio,aq]
 rfl
def rE (S:Int→Option (Bool)):aO:=cE 150 U0 S fun b=> [.v .bool b]
def dh (N:Nat) (x0:Int):Option (Bool):=Cu x0 (fun (r0:Bool)=>some (r0))
def Cp (cI:Int→Option (Bool)) (k0:Int→Option R) (k1:V3→Int→Option R) (x0:V3):Option R:=
ad (x0==([]:List UInt8)) (k0 (0:Int)) (if 0≤(0:Int)∧(0:Int) < (x0.length:Int) then
(cI ((x0.getD (0:Int).toNat 0).toNat:Int)).bind fun r799=>
ad (!r799) (k0 (0:Int)) (k1 x0 (1:Int))
else none)
theorem ani (cI) (h149:(oI cI).holds cl) (x0):exec cl N Ao [(0,.v .str x0)] K=(Cp cI (fun y0=>K .ret (gM y0)) (fun y0 y1=>exec cl N Am (cm y0 y1) K) x0):=by
 rw [←aN h149]
 delta Ao
 generalize Am=q
 revert q
 refine id ?_
 intro q
 kernel_rfl
theorem abx (x0 x1):aj [0,3] (cm x0 x1)=(cm x0 x1):=by kernel_rfl
def Cm (cI:Int→Option (Bool)) (dh:Int→Option (Bool)) (k0:V3→Int→Option R) (k1:Int→Option R) (k2:V3→Int→Option R) (x0:V3) (x1:Int):Option R:=
ad (decide (x1 < (x0.length:Int))) (if 0≤x1∧x1 < (x0.length:Int) then
let v801:Int:=((x0.getD x1.toNat 0).toNat:Int)
(cI v801).bind fun r802=>
ad r802 (k0 x0 (IntKind.i64.wrap (x1+(1:Int)))) ((dh v801).bind fun r804=>
ad r804 (k0 x0 (IntKind.i64.wrap (x1+(1:Int)))) (ad (v801==(45:Int)) (ad (decide ((IntKind.i64.wrap (x1+(1:Int))) < (x0.length:Int))) (let v809:Int:=(IntKind.i64.wrap (x1+(1:Int)))
if 0≤v809∧v809 < (x0.length:Int) then
(cI ((x0.getD v809.toNat 0).toNat:Int)).bind fun r811=>
ad r811 (k0 x0 (IntKind.i64.wrap (x1+(2:Int)))) (let v813:Int:=(IntKind.i64.wrap (x1+(1:Int)))
if 0≤v813∧v813 < (x0.length:Int) then
(dh ((x0.getD v813.toNat 0).toNat:Int)).bind fun r815=>
ad r815 (k0 x0 (IntKind.i64.wrap (x1+(2:Int)))) (k1 x1)
else none)
else none) (k1 x1)) (k1 x1)))
else none) (k2 x0 x1)
theorem anf (cI) (dh) (h149:(oI cI).holds cl) (h150:(rE dh).holds cl) (x0 x1):exec cl N E4 (cm x0 x1) K=(Cm cI dh (fun y0 y1=>K .normal [(0,.v .str y0),(2,.dead),(3,.v U2 y1)]) (fun y0=>K .ret (mM y0)) (fun y0 y1=>K (.exit 0) (cm y0 y1)) x0 x1):=by
 rw [←aN h149]
 rw [←aN h150]
 kernel_rfl
theorem aby (x0 x1):aj [0,3] [(0,.v .str x0),(2,.dead),(3,.v U2 x1)]=(cm x0 x1):=by kernel_rfl
def yB {R:Type} (cI:Int→Option (Bool)) (dh:Int→Option (Bool)) (k0:Int→Option R) (k1:V3→Int→Option R):Nat→V3→Int→Option R
 | 0,_,_=>none
 | m+1,x0,x1=>(Cm cI dh (yB cI dh k0 k1 m) k0 k1 x0 x1)
theorem aeL (cI) (dh) (h149:(oI cI).holds cl) (h150:(rE dh).holds cl):∀ (m) (x0 x1),iter [0,3] (fun env K=>exec cl N E4 env K) K m (cm x0 x1)=yB cI dh (fun y0=>K .ret (mM y0)) (fun y0 y1=>K (.exit 0) (cm y0 y1)) m x0 x1:=by
 intro m
 induction m with
 | zero=>intros; rfl
 | succ m ih=>
   intro x0 x1
   simp only [b6,anf cI dh h149 h150,b8,b7,b9,aby,ih]
   rfl
theorem abz (x0):aj [2,3] (mM x0)=(j7 x0):=by kernel_rfl
theorem abA (x0 x1):aj [2,3] (cm x0 x1)=(iS x1):=by kernel_rfl
def Cn (N:Nat) (cI:Int→Option (Bool)) (dh:Int→Option (Bool)) (k0:Int→Option R) (k1:Int→Option R) (x0:V3) (x1:Int):Option R:=
yB cI dh k0 (fun y0 y1=>k1 y1) N x0 x1
theorem ang (cI) (dh) (h149:(oI cI).holds cl) (h150:(rE dh).holds cl) (x0 x1):exec cl N E5 (cm x0 x1) K=(Cn N cI dh (fun y0=>K .ret (j7 y0)) (fun y0=>K (.exit 0) (iS y0)) x0 x1):=by
 simp only [E5,aT,b5,abx,aeL cI dh h149 h150,abz,abA]
 rfl
theorem abB (x0):aj [2,3] (j7 x0)=(j7 x0):=by kernel_rfl
theorem abC (x0):aj [2,3] (iS x0)=(iS x0):=by kernel_rfl
def Co (k0:Int→Option R) (x0:Int):Option R:=
k0 x0
theorem anh (x0):exec cl N Nu (iS x0) K=(Co (fun y0=>K .ret [(2,.v U2 y0)]) x0):=by
 kernel_rfl
def Cq (N:Nat) (cI:Int→Option (Bool)) (dh:Int→Option (Bool)) (k0:Int→Option R) (k1:Int→Option R) (k2:Int→Option R) (x0:V3):Option R:=
(Cp cI k0 (Cn N cI dh k1 ((Co k2))) x0)
theorem anj (cI) (dh) (h149:(oI cI).holds cl) (h150:(rE dh).holds cl) (x0):exec cl N Ao [(0,.v .str x0)] K=(Cq N cI dh (fun y0=>K .ret (gM y0)) (fun y0=>K .ret (j7 y0)) (fun y0=>K .ret [(2,.v U2 y0)]) x0):=by
 simp only [bQ,bS,bR,bT,ani cI h149,Am,Nt,aT,cj,ang cI dh h149 h150,cd,cg,cc,abB,abC,anh]
 rfl
theorem aie (y0):ag d141 .ret (gM y0)=some [.v U2 y0]:=by kernel_rfl
theorem aif (y0):ag d141 .ret (j7 y0)=some [.v U2 y0]:=by kernel_rfl
theorem aih (y0):ag d141 .ret [(2,.v U2 y0)]=some [.v U2 y0]:=by kernel_rfl
def v7 (N:Nat) (cI:Int→Option (Bool)) (dh:Int→Option (Bool)) (x0:V3) (k:Int→Option R):Option R:=
(Cq N cI dh k k k x0)
theorem Ye (cI) (dh) (h149:(oI cI).holds cl) (h150:(rE dh).holds cl) (x0) (k:List E→Option R):exec cl N E3 [(0,.v .str x0)] (fun e env=>(ag d141 e env).bind k)=v7 N cI dh x0 (fun r0=>k [.v U2 r0]):=by
 simp only [E3,anj cI dh h149 h150,aie,aif,aih,aq]
 rfl
def HU (S:V3→Option (Int)):aO:=cE 141 .str S fun b=> [.v U2 b]
def gV (N:Nat) (x0:V3):Option (Int):=v7 N (cI N) (dh N) x0 (fun (r0:Int)=>some (r0))
def Jr (gV:V3→Option (Int)) (k0:Bool→Option R) (x0:V3):Option R:=
ad (x0 != ([]:List UInt8)) (ad (decide ((x0.length:Int)≤(20:Int))) ((gV x0).bind fun r821=>
k0 (r821==(x0.length:Int))) (k0 false)) (k0 false)
theorem amt (gV) (h141:(HU gV).holds cl) (x0):exec cl N MR [(0,.v .str x0)] K=(Jr gV (fun y0=>K .ret [(2,.v .bool y0)]) x0):=by
 rw [←aN h141]
 kernel_rfl
theorem ahV (y0):ag d121 .ret [(2,.v .bool y0)]=some [.v .bool y0]:=by kernel_rfl
def Cf (gV:V3→Option (Int)) (x0:V3) (k:Bool→Option R):Option R:=
(Jr gV k x0)
theorem X0 (gV) (h141:(HU gV).holds cl) (x0) (k:List E→Option R):exec cl N Ey [(0,.v .str x0)] (fun e env=>(ag d121 e env).bind k)=Cf gV x0 (fun r0=>k [.v .bool r0]):=by
 simp only [Ey,amt gV h141,ahV,aq]
 rfl
def BI (S:V3→Option (Bool)):aO:=cE 121 .str S fun b=> [.v .bool b]
def fe (N:Nat) (x0:V3):Option (Bool):=Cf (gV N) x0 (fun (r0:Bool)=>some (r0))
def xP (k0:V0→Option R) (x0:V3):Option R:=
k0 (x0.map fun b=>(b.toNat:Int))
theorem aqE (x0):exec cl N Bf [(0,.v .str x0)] K=(xP (fun y0=>exec cl N Be (oU y0) K) x0):=by
 delta Bf
 generalize Be=q
 revert q
 refine id ?_
 intro q
 kernel_rfl
def xL (k0:V0→Int→Int→Option R) (x0:V0):Option R:=
k0 x0 (x0.length:Int) (0:Int)
theorem aqA (x0):exec cl N P4 (oU x0) K=(xL (fun y0 y1 y2=>K .normal (lM y0 y1 y2)) x0):=by
 kernel_rfl
theorem Uy (x0 x1 x2):aj [3,8,9,10] (lM x0 x1 x2)=(lM x0 x1 x2):=by kernel_rfl
def xM (k0:V0→Int→Int→Option R) (k1:V0→Int→Int→Option R) (x0:V0) (x1 x2:Int):Option R:=
ad (decide (x2 < x1)) (if 0≤x2∧x2 < (x0.length:Int) then
if x2.toNat < x0.length then
let v840:Int:=(x0.getD x2.toNat (0:Int))
ad (decide (v840≥(65:Int))) (ad (decide (v840≤(90:Int))) (if 0≤x2∧x2 < (x0.length:Int) then
if x2.toNat < x0.length then
k0 (x0.set x2.toNat (IntKind.u8.wrap ((IntKind.u8.wrap (v840 - (65:Int)))+(97:Int)))) x1 (IntKind.i64.wrap (x2+(1:Int)))
else none
else none) (k0 x0 x1 (IntKind.i64.wrap (x2+(1:Int))))) (k0 x0 x1 (IntKind.i64.wrap (x2+(1:Int))))
else none
else none) (k1 x0 x1 x2)
theorem aqB (x0 x1 x2):exec cl N G7 (lM x0 x1 x2) K=(xM (fun y0 y1 y2=>K .normal (lM y0 y1 y2)) (fun y0 y1 y2=>K (.exit 0) (lM y0 y1 y2)) x0 x1 x2):=by
 kernel_rfl
def tl {R:Type} (k0:V0→Int→Int→Option R):Nat→V0→Int→Int→Option R
 | 0,_,_,_=>none
 | m+1,x0,x1,x2=>(xM (tl k0 m) k0 x0 x1 x2)
theorem aff:∀ (m) (x0 x1 x2),iter [3,8,9,10] (fun env K=>exec cl N G7 env K) K m (lM x0 x1 x2)=tl (fun y0 y1 y2=>K (.exit 0) (lM y0 y1 y2)) m x0 x1 x2:=by
 intro m
 induction m with
 | zero=>intros; rfl
 | succ m ih=>
   intro x0 x1 x2
   simp only [b6,aqB,b8,b7,b9,Uy,ih]
   rfl
theorem ac9 (x0 x1 x2):aj [3] (lM x0 x1 x2)=(oU x0):=by kernel_rfl
def xN (N:Nat) (k0:V0→Option R) (x0:V0) (x1 x2:Int):Option R:=
tl (fun y0 y1 y2=>k0 y0) N x0 x1 x2
theorem aqC (x0 x1 x2):exec cl N G8 (lM x0 x1 x2) K=(xN N (fun y0=>K (.exit 0) (oU y0)) x0 x1 x2):=by
 simp only [G8,aT,b5,Uy,aff,ac9]
 rfl
theorem ada (x0):aj [3] (oU x0)=(oU x0):=by kernel_rfl
def xO (k0:V3→Option R) (x0:V0):Option R:=
k0 (x0.map fun n=>UInt8.ofNat n.toNat)
theorem aqD (x0):exec cl N P7 (oU x0) K=(xO (fun y0=>K .ret [(2,.v .str y0)]) x0):=by
 kernel_rfl
def xQ (N:Nat) (k0:V3→Option R) (x0:V3):Option R:=
(xP (xL (xN N ((xO k0)))) x0)
theorem aqF (x0):exec cl N Bf [(0,.v .str x0)] K=(xQ N (fun y0=>K .ret [(2,.v .str y0)]) x0):=by
 simp only [bQ,bS,bR,bT,aqE,Be,P6,aqA,P5,aT,cj,aqC,cd,cg,cc,ada,aqD]
 rfl
theorem ajD (y0):ag d72 .ret [(2,.v .str y0)]=some [.v .str y0]:=by kernel_rfl
def sN (N:Nat) (x0:V3) (k:V3→Option R):Option R:=
(xQ N k x0)
theorem YY (x0) (k:List E→Option R):exec cl N G6 [(0,.v .str x0)] (fun e env=>(ag d72 e env).bind k)=sN N x0 (fun r0=>k [.v .str r0]):=by
 simp only [G6,aqF,ajD,aq]
 rfl
def uP (S:V3→Option V7):aO:=cE 72 .str S fun b=> [.v .str b]
def ep (N:Nat) (x0:V3):Option V7:=sN N x0 (fun (r0:V3)=>some (r0))
def wz (k0:Int→Option R) (k1:V3→Option R) (x0:V3):Option R:=
ad (decide ((x0.length:Int) > (120:Int))) (k0 (3:Int)) (k1 x0)
theorem anK (x0):exec cl N As [(0,.v .str x0)] K=(wz (fun y0=>K .ret (gM y0)) (fun y0=>exec cl N Ar (rR y0) K) x0):=by
 delta As
 generalize Ar=q
 revert q
 refine id ?_
 intro q
 kernel_rfl
def wq (k0:V0→Int→Int→Option R) (x0:V3):Option R:=
k0 (x0.map fun b=>(b.toNat:Int)) ((x0.map fun b=>(b.toNat:Int)).length:Int) (0:Int)
theorem anG (x0):exec cl N NP (rR x0) K=(wq (fun y0 y1 y2=>K .normal (lN y0 y1 y2)) x0):=by
 kernel_rfl
theorem Ud (x0 x1 x2):aj [9,10,11] (lN x0 x1 x2)=(lN x0 x1 x2):=by kernel_rfl
def wu (k0:Int→Option R) (k1:V0→Int→Int→Option R) (k2:V0→Int→Int→Option R) (x0:V0) (x1 x2:Int):Option R:=
ad (decide (x2 < x1)) (if 0≤x2∧x2 < (x0.length:Int) then
if x2.toNat < x0.length then
let v858:Int:=(x0.getD x2.toNat (0:Int))
ad (decide (v858 < (32:Int))) (k0 (2:Int)) (ad (decide (v858 > (126:Int))) (k0 (2:Int)) (k1 x0 x1 (IntKind.i64.wrap (x2+(1:Int)))))
else none
else none) (k2 x0 x1 x2)
theorem anH (x0 x1 x2):exec cl N Fq (lN x0 x1 x2) K=(wu (fun y0=>K .ret (I2 y0)) (fun y0 y1 y2=>K .normal (lN y0 y1 y2)) (fun y0 y1 y2=>K (.exit 0) (lN y0 y1 y2)) x0 x1 x2):=by
 kernel_rfl
def s7 {R:Type} (k0:Int→Option R) (k1:V0→Int→Int→Option R):Nat→V0→Int→Int→Option R
 | 0,_,_,_=>none
 | m+1,x0,x1,x2=>(wu k0 (s7 k0 k1 m) k1 x0 x1 x2)
theorem aeO:∀ (m) (x0 x1 x2),iter [9,10,11] (fun env K=>exec cl N Fq env K) K m (lN x0 x1 x2)=s7 (fun y0=>K .ret (I2 y0)) (fun y0 y1 y2=>K (.exit 0) (lN y0 y1 y2)) m x0 x1 x2:=by
 intro m
 induction m with
 | zero=>intros; rfl
 | succ m ih=>
   intro x0 x1 x2
   simp only [b6,anH,b8,b7,b9,Ud,ih]
   rfl
theorem abJ (x0):aj [2] (I2 x0)=[(2,.v U2 x0)]:=by kernel_rfl
theorem abK (x0 x1 x2):aj [2] (lN x0 x1 x2)=[(2,.dead)]:=by kernel_rfl
def wv (N:Nat) (k0:Int→Option R) (k1:Option R) (x0:V0) (x1 x2:Int):Option R:=
s7 k0 (fun y0 y1 y2=>k1) N x0 x1 x2
theorem anI (x0 x1 x2):exec cl N Fs (lN x0 x1 x2) K=(wv N (fun y0=>K .ret [(2,.v U2 y0)]) (K (.exit 0) [(2,.dead)]) x0 x1 x2):=by
 simp only [Fs,aT,b5,Ud,aeO,abJ,abK]
 rfl
theorem abL (x0):aj [2] [(2,.v U2 x0)]=[(2,.v U2 x0)]:=by kernel_rfl
theorem abM:aj [2] [(2,.dead)]=[(2,.dead)]:=by kernel_rfl
def wx (k0:Int→Option R):Option R:=
k0 (0:Int)
theorem anJ:exec cl N NS [(2,.dead)] K=(wx (fun y0=>K .ret [(2,.v U2 y0)])):=by
 kernel_rfl
def wA (N:Nat) (k0:Int→Option R) (k1:Int→Option R) (x0:V3):Option R:=
(wz k0 (wq (wv N k1 (wx k1))) x0)
theorem anL (x0):exec cl N As [(0,.v .str x0)] K=(wA N (fun y0=>K .ret (gM y0)) (fun y0=>K .ret [(2,.v U2 y0)]) x0):=by
 simp only [bQ,bS,bR,bT,anK,Ar,NR,anG,NQ,aT,cj,anI,cd,cg,cc,abL,abM,anJ]
 rfl
theorem aiw (y0):ag d158 .ret (gM y0)=some [.v U2 y0]:=by kernel_rfl
theorem aix (y0):ag d158 .ret [(2,.v U2 y0)]=some [.v U2 y0]:=by kernel_rfl
def sj (N:Nat) (x0:V3) (k:Int→Option R):Option R:=
(wA N k k x0)
theorem Yr (x0) (k:List E→Option R):exec cl N Fp [(0,.v .str x0)] (fun e env=>(ag d158 e env).bind k)=sj N x0 (fun r0=>k [.v U2 r0]):=by
 simp only [Fp,anL,aiw,aix,aq]
 rfl
def BM (S:V3→Option (Int)):aO:=cE 158 .str S fun b=> [.v U2 b]
def fw (N:Nat) (x0:V3):Option (Int):=sj N x0 (fun (r0:Int)=>some (r0))
def R9 (ff:V3→Int→Option (Int)) (k0:Int→Option R) (x0:V3) (x1:Int):Option R:=
(ff x0 x1).bind fun r869=>
k0 r869
theorem amO (ff) (h145:(j6 ff).holds cl) (x0 x1):exec cl N M9 [(0,.v .str x0),(1,.v U0 x1)] K=(R9 ff (fun y0=>K .ret [(4,.v U2 y0)]) x0 x1):=by
 rw [←aN h145]
 kernel_rfl
theorem ah3 (y0):ag d127 .ret [(4,.v U2 y0)]=some [.v U2 y0]:=by kernel_rfl
def Ju (ff:V3→Int→Option (Int)) (x0:V3) (x1:Int) (k:Int→Option R):Option R:=
(R9 ff k x0 x1)
theorem X6 (ff) (h145:(j6 ff).holds cl) (x0 x1) (k:List E→Option R):exec cl N EL [(0,.v .str x0),(1,.v U0 x1)] (fun e env=>(ag d127 e env).bind k)=Ju ff x0 x1 (fun r0=>k [.v U2 r0]):=by
 simp only [EL,amO ff h145,ah3,aq]
 rfl
def HS (S:V3→Int→Option (Int)):aO:=dP 127 .str U0 S fun b=> [.v U2 b]
def ji (N:Nat) (x0:V3) (x1:Int):Option (Int):=Ju (ff N) x0 x1 (fun (r0:Int)=>some (r0))
def Tk (ji:V3→Int→Option (Int)) (k0:Bool→Option R) (x0:Int):Option R:=
ad (decide (x0≥(32:Int))) (ad (decide (x0≤(126:Int))) ((ji ([32,46,44,59,58,33,63,34,45,91,93,60,62,123,125]:List UInt8) x0).bind fun r874=>
k0 (decide (r874 < (0:Int)))) (k0 false)) (k0 false)
theorem arC (ji) (h127:(HS ji).holds cl) (x0):exec cl N QL [(0,.v U0 x0)] K=(Tk ji (fun y0=>K .ret [(2,.v .bool y0)]) x0):=by
 rw [←aN h127]
 kernel_rfl
theorem aj2 (y0):ag d98 .ret [(2,.v .bool y0)]=some [.v .bool y0]:=by kernel_rfl
def Kj (ji:V3→Int→Option (Int)) (x0:Int) (k:Bool→Option R):Option R:=
(Tk ji k x0)
theorem Za (ji) (h127:(HS ji).holds cl) (x0) (k:List E→Option R):exec cl N HF [(0,.v U0 x0)] (fun e env=>(ag d98 e env).bind k)=Kj ji x0 (fun r0=>k [.v .bool r0]):=by
 simp only [HF,arC ji h127,aj2,aq]
 rfl
def nz (S:Int→Option (Bool)):aO:=cE 98 U0 S fun b=> [.v .bool b]
def ca (N:Nat) (x0:Int):Option (Bool):=Kj (ji N) x0 (fun (r0:Bool)=>some (r0))
def wm (fw:V3→Option (Int)) (k0:gi→Int→Option R) (k1:V3→gi→Option R) (x0:V3):Option R:=
(fw x0).bind fun r891=>
ad (r891 != (0:Int)) (k0 [] r891) (k1 x0 [])
theorem anA (fw) (h158:(BM fw).holds cl) (x0):exec cl N Aq [(0,.v .str x0)] K=(wm fw (fun y0 y1=>K .ret (I3 y0 y1)) (fun y0 y1=>exec cl N Ap [(0,.v .str y0),(5,.own true 179 dX .no y1)] K) x0):=by
 rw [←aN h158]
 delta Aq
 generalize Ap=q
 revert q
 refine id ?_
 intro q
 kernel_rfl
def wh (k0:gi→V0→Int→Int→Option R) (x0:V3) (x1:gi):Option R:=
k0 x1 (x0.map fun b=>(b.toNat:Int)) ((x0.map fun b=>(b.toNat:Int)).length:Int) (0:Int)
theorem anv (x0 x1):exec cl N NH [(0,.v .str x0),(5,.own true 179 dX .no x1)] K=(wh (fun y0 y1 y2 y3=>K .normal (lO y0 y1 y2 y3)) x0 x1):=by
 kernel_rfl
theorem Uc (x0 x1 x2 x3):aj [5,15,16,17] (lO x0 x1 x2 x3)=(lO x0 x1 x2 x3):=by kernel_rfl
def wi (ca:Int→Option (Bool)) (k0:gi→V0→Int→Int→Option R) (k1:gi→V0→Int→Int→Option R) (x0:gi) (x1:V0) (x2 x3:Int):Option R:=
ad (decide (x3 < x2)) (if 0≤x3∧x3 < (x1.length:Int) then
if x3.toNat < x1.length then
(ca (x1.getD x3.toNat (0:Int))).bind fun r895=>
ad (!r895) (k0 x0 x1 x2 (IntKind.i64.wrap (x3+(1:Int)))) (ad (decide ((x0.length:Int) > (0:Int))) (let v898:Int:=(IntKind.i64.wrap ((x0.length:Int) - (1:Int)))
if 0≤v898∧v898 < (x0.length:Int) then
if v898.toNat < x0.length then
ad (((x0.getD v898.toNat ((0:Int),((0:Int),()))).2.1)==x3) (let v900:Int:=(IntKind.i64.wrap ((x0.length:Int) - (1:Int)))
if 0≤v900∧v900 < (x0.length:Int) then
if v900.toNat < x0.length then
if 0≤v900∧v900 < (x0.length:Int) then
if v900.toNat < x0.length then
k0 (x0.set v900.toNat ((x0.getD v900.toNat ((0:Int),((0:Int),()))).1,((IntKind.i64.wrap (((x0.getD v900.toNat ((0:Int),((0:Int),()))).2.1)+(1:Int))),(x0.getD v900.toNat ((0:Int),((0:Int),()))).2.2))) x1 x2 (IntKind.i64.wrap (x3+(1:Int)))
else none
else none
else none
else none) (let v905:ue:=(x3,(IntKind.i64.wrap (x3+(1:Int))),())
if x0.length+[v905].length≤8796093022208 then
k0 (x0++[v905]) x1 x2 (IntKind.i64.wrap (x3+(1:Int)))
else none)
else none
else none) (let v908:ue:=(x3,(IntKind.i64.wrap (x3+(1:Int))),())
if x0.length+[v908].length≤8796093022208 then
k0 (x0++[v908]) x1 x2 (IntKind.i64.wrap (x3+(1:Int)))
else none))
else none
else none) (k1 x0 x1 x2 x3)
theorem anw (ca) (h98:(nz ca).holds cl) (x0 x1 x2 x3):exec cl N Fi (lO x0 x1 x2 x3) K=(wi ca (fun y0 y1 y2 y3=>K .normal (lO y0 y1 y2 y3)) (fun y0 y1 y2 y3=>K (.exit 0) (lO y0 y1 y2 y3)) x0 x1 x2 x3):=by
 rw [←aN h98]
 kernel_rfl
def qh {R:Type} (ca:Int→Option (Bool)) (k0:gi→V0→Int→Int→Option R):Nat→gi→V0→Int→Int→Option R
 | 0,_,_,_,_=>none
 | m+1,x0,x1,x2,x3=>(wi ca (qh ca k0 m) k0 x0 x1 x2 x3)
theorem aeN (ca) (h98:(nz ca).holds cl):∀ (m) (x0 x1 x2 x3),iter [5,15,16,17] (fun env K=>exec cl N Fi env K) K m (lO x0 x1 x2 x3)=qh ca (fun y0 y1 y2 y3=>K (.exit 0) (lO y0 y1 y2 y3)) m x0 x1 x2 x3:=by
 intro m
 induction m with
 | zero=>intros; rfl
 | succ m ih=>
   intro x0 x1 x2 x3
   simp only [b6,anw ca h98,b8,b7,b9,Uc,ih]
   rfl
theorem abH (x0 x1 x2 x3):aj [5] (lO x0 x1 x2 x3)=(u0 x0):=by kernel_rfl
def wj (N:Nat) (ca:Int→Option (Bool)) (k0:gi→Option R) (x0:gi) (x1:V0) (x2 x3:Int):Option R:=
qh ca (fun y0 y1 y2 y3=>k0 y0) N x0 x1 x2 x3
theorem anx (ca) (h98:(nz ca).holds cl) (x0 x1 x2 x3):exec cl N Fj (lO x0 x1 x2 x3) K=(wj N ca (fun y0=>K (.exit 0) (u0 y0)) x0 x1 x2 x3):=by
 simp only [Fj,aT,b5,Uc,aeN ca h98,abH]
 rfl
theorem abI (x0):aj [5] (u0 x0)=(u0 x0):=by kernel_rfl
def wk (k0:Int→gi→Option R) (x0:gi):Option R:=
k0 (0:Int) x0
theorem anz (x0):exec cl N NK (u0 x0) K=(wk (fun y0 y1=>K .ret (I4 y0 y1)) x0):=by
 kernel_rfl
def wo (N:Nat) (ca:Int→Option (Bool)) (fw:V3→Option (Int)) (k0:gi→Int→Option R) (k1:Int→gi→Option R) (x0:V3):Option R:=
(wm fw k0 (wh (wj N ca ((wk k1)))) x0)
theorem anB (ca) (fw) (h98:(nz ca).holds cl) (h158:(BM fw).holds cl) (x0):exec cl N Aq [(0,.v .str x0)] K=(wo N ca fw (fun y0 y1=>K .ret (I3 y0 y1)) (fun y0 y1=>K .ret (I4 y0 y1)) x0):=by
 simp only [bQ,bS,bR,bT,anA fw h158,Ap,NJ,anv,NI,aT,cj,anx ca h98,cd,cg,cc,abI,anz]
 rfl
theorem aip (y0 y1):ag d151 .ret (I3 y0 y1)=some [.own true 179 dX .no y0,.v U2 y1]:=by kernel_rfl
theorem aiq (y0 y1):ag d151 .ret (I4 y0 y1)=some [.own true 179 dX .no y1,.v U2 y0]:=by kernel_rfl
def si (N:Nat) (ca:Int→Option (Bool)) (fw:V3→Option (Int)) (x0:V3) (k:gi→Int→Option R):Option R:=
(wo N ca fw k (fun y0 y1=>k y1 y0) x0)
theorem Ym (ca) (fw) (h98:(nz ca).holds cl) (h158:(BM fw).holds cl) (x0) (k:List E→Option R):exec cl N Fh [(0,.v .str x0)] (fun e env=>(ag d151 e env).bind k)=si N ca fw x0 (fun r0 r1=>k [.own true 179 dX .no r0,.v U2 r1]):=by
 simp only [Fh,anB ca fw h98 h158,aip,aiq,aq]
 rfl
def HX (S:V3→Option zC):aO:=cE 151 .str S fun b=> [.own true 179 dX .no b.1,.v U2 b.2]
def iL (N:Nat) (x0:V3):Option zC:=si N (ca N) (fw N) x0 (fun (r0:gi) (r1:Int)=>some (r0,r1))
def JE (ep:V3→Option V7) (iL:V3→Option zC) (k0:Int→Option R) (k1:Int→Option R) (x0:V3):Option R:=
ad (x0==([]:List UInt8)) (k0 (7:Int)) (ad (decide ((x0.length:Int) > (4:Int))) (k0 (3:Int)) ((ep x0).bind fun r919=>
ad (r919 != x0) (k0 (2:Int)) ((iL x0).bind fun r920=>
ad (r920.2 != (0:Int)) (k1 (2:Int)) (ad ((r920.1.length:Int) != (1:Int)) (k1 (2:Int)) (if 0≤(0:Int)∧(0:Int) < (r920.1.length:Int) then
if ((0:Int).toNat) < r920.1.length then
if 0≤(0:Int)∧(0:Int) < (r920.1.length:Int) then
if ((0:Int).toNat) < r920.1.length then
ad ((IntKind.i64.wrap (((r920.1.getD ((0:Int).toNat) ((0:Int),((0:Int),()))).2.1) - ((r920.1.getD ((0:Int).toNat) ((0:Int),((0:Int),()))).1))) != (x0.length:Int)) (k1 (2:Int)) (k1 (0:Int))
else none
else none
else none
else none)))))
theorem ank (ep) (iL) (h72:(uP ep).holds cl) (h151:(HX iL).holds cl) (x0):exec cl N Nv [(0,.v .str x0)] K=(JE ep iL (fun y0=>K .ret (gM y0)) (fun y0=>K .ret [(2,.v U2 y0)]) x0):=by
 rw [←aN h72]
 rw [←aN h151]
 kernel_rfl
theorem aii (y0):ag d142 .ret (gM y0)=some [.v U2 y0]:=by kernel_rfl
theorem aij (y0):ag d142 .ret [(2,.v U2 y0)]=some [.v U2 y0]:=by kernel_rfl
def Cr (ep:V3→Option V7) (iL:V3→Option zC) (x0:V3) (k:Int→Option R):Option R:=
(JE ep iL k k x0)
theorem Yf (ep) (iL) (h72:(uP ep).holds cl) (h151:(HX iL).holds cl) (x0) (k:List E→Option R):exec cl N E6 [(0,.v .str x0)] (fun e env=>(ag d142 e env).bind k)=Cr ep iL x0 (fun r0=>k [.v U2 r0]):=by
 simp only [E6,ank ep iL h72 h151,aii,aij,aq]
 rfl
def BL (S:V3→Option (Int)):aO:=cE 142 .str S fun b=> [.v U2 b]
def fv (N:Nat) (x0:V3):Option (Int):=Cr (ep N) (iL N) x0 (fun (r0:Int)=>some (r0))
def JJ (k0:Bool→Option R) (k1:Bool→Option R) (x0:aR):Option R:=
ad (x0.1==(1:Int)) (ad (decide (x0.2.1≥(1:Int))) (k0 (decide (x0.2.1≤(3:Int)))) (k0 false)) (ad (x0.1==(2:Int)) (k0 (x0.2.1==(2:Int))) (k1 (x0.2.1==(0:Int))))
theorem anC (x0):exec cl N NL [(0,.v aC x0)] K=(JJ (fun y0=>K .ret (u6 y0)) (fun y0=>K .ret [(2,.v .bool y0)]) x0):=by
 kernel_rfl
theorem air (y0):ag d152 .ret (u6 y0)=some [.v .bool y0]:=by kernel_rfl
theorem ais (y0):ag d152 .ret [(2,.v .bool y0)]=some [.v .bool y0]:=by kernel_rfl
def Cv (x0:aR) (k:Bool→Option R):Option R:=
(JJ k k x0)
theorem Yn (x0) (k:List E→Option R):exec cl N Fk [(0,.v aC x0)] (fun e env=>(ag d152 e env).bind k)=Cv x0 (fun r0=>k [.v .bool r0]):=by
 simp only [Fk,anC,air,ais,aq]
 rfl
def HY (S:aR→Option (Bool)):aO:=cE 152 aC S fun b=> [.v .bool b]
def gW (N:Nat) (x0:aR):Option (Bool):=Cv x0 (fun (r0:Bool)=>some (r0))
def JM (k0:Bool→Option R) (x0:Int):Option R:=
ad (decide (x0≥(97:Int))) (ad (decide (x0≤(122:Int))) (k0 true) (ad (decide (x0≥(48:Int))) (ad (decide (x0≤(57:Int))) (k0 true) (ad (x0==(95:Int)) (k0 true) (ad (x0==(94:Int)) (k0 true) (k0 (x0==(39:Int)))))) (ad (x0==(95:Int)) (k0 true) (ad (x0==(94:Int)) (k0 true) (k0 (x0==(39:Int))))))) (ad (decide (x0≥(48:Int))) (ad (decide (x0≤(57:Int))) (k0 true) (ad (x0==(95:Int)) (k0 true) (ad (x0==(94:Int)) (k0 true) (k0 (x0==(39:Int)))))) (ad (x0==(95:Int)) (k0 true) (ad (x0==(94:Int)) (k0 true) (k0 (x0==(39:Int))))))
theorem anF (x0):exec cl N NO [(0,.v U3 x0)] K=(JM (fun y0=>K .ret [(2,.v .bool y0)]) x0):=by
 kernel_rfl
theorem aiv (y0):ag d155 .ret [(2,.v .bool y0)]=some [.v .bool y0]:=by kernel_rfl
def Cy (x0:Int) (k:Bool→Option R):Option R:=
(JM k x0)
theorem Yq (x0) (k:List E→Option R):exec cl N Fo [(0,.v U3 x0)] (fun e env=>(ag d155 e env).bind k)=Cy x0 (fun r0=>k [.v .bool r0]):=by
 simp only [Fo,anF,aiv,aq]
 rfl
def H2 (S:Int→Option (Bool)):aO:=cE 155 U3 S fun b=> [.v .bool b]
def gZ (N:Nat) (x0:Int):Option (Bool):=Cy x0 (fun (r0:Bool)=>some (r0))
def JL (gZ:Int→Option (Bool)) (k0:Bool→Option R) (x0:Int):Option R:=
(gZ x0).bind fun r986=>
k0 (!r986)
theorem anE (gZ) (h155:(H2 gZ).holds cl) (x0):exec cl N NN [(0,.v U3 x0)] K=(JL gZ (fun y0=>K .ret [(2,.v .bool y0)]) x0):=by
 rw [←aN h155]
 kernel_rfl
theorem aiu (y0):ag d154 .ret [(2,.v .bool y0)]=some [.v .bool y0]:=by kernel_rfl
def Cx (gZ:Int→Option (Bool)) (x0:Int) (k:Bool→Option R):Option R:=
(JL gZ k x0)
theorem Yp (gZ) (h155:(H2 gZ).holds cl) (x0) (k:List E→Option R):exec cl N Fm [(0,.v U3 x0)] (fun e env=>(ag d154 e env).bind k)=Cx gZ x0 (fun r0=>k [.v .bool r0]):=by
 simp only [Fm,anE gZ h155,aiu,aq]
 rfl
def H0 (S:Int→Option (Bool)):aO:=cE 154 U3 S fun b=> [.v .bool b]
def gY (N:Nat) (x0:Int):Option (Bool):=Cx (gZ N) x0 (fun (r0:Bool)=>some (r0))
def wI (k0:V3→bY→Bool→Option R) (x0:V3) (x1:bY) (x2:Bool):Option R:=
k0 x0 x1 x2
theorem anT (x0 x1 x2):exec cl N NY (u7 x0 x1 x2) K=(wI (fun y0 y1 y2=>K .normal (u7 y0 y1 y2)) x0 x1 x2):=by
 kernel_rfl
def wJ (k0:bY→Bool→V3→Nat→Option R) (x0:V3) (x1:bY) (x2:Bool):Option R:=
k0 x1 x2 x0 (0:Nat)
theorem anU (x0 x1 x2):exec cl N NZ (u7 x0 x1 x2) K=(wJ (fun y0 y1 y2 y3=>K .normal (oV y0 y1 y2 y3)) x0 x1 x2):=by
 kernel_rfl
theorem abR (x0 x1 x2 x3):aj [1,2,10] (oV x0 x1 x2 x3)=(oV x0 x1 x2 x3):=by kernel_rfl
def wK (k0:Int→Option R) (k1:bY→Bool→V3→Nat→Option R) (k2:bY→Bool→V3→Nat→Bool→Option R) (x0:bY) (x1:Bool) (x2:V3) (x3:Nat):Option R:=
ad (decide (x3 < x2.length)) ((x0 ((((Utf8.decode ⟨⟨x2⟩⟩ x3).1:Nat):Int),())).bind fun r992=>
ad (r992==x1) (k0 ((x3:Nat):Int)) (k1 x0 x1 x2 (x3+(Utf8.decode ⟨⟨x2⟩⟩ x3).2))) (k2 x0 x1 x2 x3 false)
theorem anV (x0 x1 x2 x3):exec cl N FA (oV x0 x1 x2 x3) K=(wK (fun y0=>K .ret (I5 y0)) (fun y0 y1 y2 y3=>K .normal [(1,.v mD y0),(2,.v .bool y1),(6,.dead),(10,.it y2 y3)]) (fun y0 y1 y2 y3 y4=>K (.exit 0) (I6 y0 y1 y2 y3 y4)) x0 x1 x2 x3):=by
 kernel_rfl
theorem abS (x0 x1 x2 x3):aj [1,2,10] [(1,.v mD x0),(2,.v .bool x1),(6,.dead),(10,.it x2 x3)]=(oV x0 x1 x2 x3):=by kernel_rfl
def s9 {R:Type} (k0:Int→Option R) (k1:bY→Bool→V3→Nat→Bool→Option R):Nat→bY→Bool→V3→Nat→Option R
 | 0,_,_,_,_=>none
 | m+1,x0,x1,x2,x3=>(wK k0 (s9 k0 k1 m) k1 x0 x1 x2 x3)
theorem aeQ:∀ (m) (x0 x1 x2 x3),iter [1,2,10] (fun env K=>exec cl N FA env K) K m (oV x0 x1 x2 x3)=s9 (fun y0=>K .ret (I5 y0)) (fun y0 y1 y2 y3 y4=>K (.exit 0) (I6 y0 y1 y2 y3 y4)) m x0 x1 x2 x3:=by
 intro m
 induction m with
 | zero=>intros; rfl
 | succ m ih=>
   intro x0 x1 x2 x3
   simp only [b6,anV,b8,b7,b9,abS,ih]
   rfl
theorem abT (x0):aj [6] (I5 x0)=[(6,.v U2 x0)]:=by kernel_rfl
theorem abU (x0 x1 x2 x3 x4):aj [6] (I6 x0 x1 x2 x3 x4)=[(6,.dead)]:=by kernel_rfl
def wL (N:Nat) (k0:Int→Option R) (k1:Option R) (x0:bY) (x1:Bool) (x2:V3) (x3:Nat):Option R:=
s9 k0 (fun y0 y1 y2 y3 y4=>k1) N x0 x1 x2 x3
theorem anW (x0 x1 x2 x3):exec cl N FB (oV x0 x1 x2 x3) K=(wL N (fun y0=>K .ret [(6,.v U2 y0)]) (K (.exit 0) [(6,.dead)]) x0 x1 x2 x3):=by
 simp only [FB,aT,b5,abR,aeQ,abT,abU]
 rfl
theorem abV (x0):aj [6] [(6,.v U2 x0)]=[(6,.v U2 x0)]:=by kernel_rfl
theorem abW:aj [6] [(6,.dead)]=[(6,.dead)]:=by kernel_rfl
def wM (k0:Int→Option R):Option R:=
k0 (-1:Int)
theorem anX:exec cl N N2 [(6,.dead)] K=(wM (fun y0=>K .ret [(6,.v U2 y0)])):=by
 kernel_rfl
def wN (N:Nat) (k0:Int→Option R) (x0:V3) (x1:bY) (x2:Bool):Option R:=
(wI (wJ (wL N k0 (wM k0))) x0 x1 x2)
theorem anY (x0 x1 x2):exec cl N FC (u7 x0 x1 x2) K=(wN N (fun y0=>K .ret [(6,.v U2 y0)]) x0 x1 x2):=by
 simp only [FC,bQ,bS,bR,bT,anT,N3,N1,anU,N0,aT,cj,anW,cd,cg,cc,abV,abW,anX]
 rfl
theorem aiB (y0):ag d160 .ret [(6,.v U2 y0)]=some [.v U2 y0]:=by kernel_rfl
def sk (N:Nat) (x0:V3) (x1:bY) (x2:Bool) (k:Int→Option R):Option R:=
(wN N k x0 x1 x2)
theorem Yu (x0 x1 x2) (k:List E→Option R):exec cl N Fy (u7 x0 x1 x2) (fun e env=>(ag d160 e env).bind k)=sk N x0 x1 x2 (fun r0=>k [.v U2 r0]):=by
 simp only [Fy,anY,aiB,aq]
 rfl
def H4 (S:V3→bY→Bool→Option (Int)):aO:=Io 160 .str mD .bool S fun b=> [.v U2 b]
def hP (N:Nat) (x0:V3) (x1:bY) (x2:Bool):Option (Int):=sk N x0 x1 x2 (fun (r0:Int)=>some (r0))
def JN (hP:V3→bY→Bool→Option (Int)) (k0:Int→Option R) (x0:V3) (x1:bY):Option R:=
(hP x0 x1 true).bind fun r994=>
k0 r994
theorem anM (hP) (h160:(H4 hP).holds cl) (x0 x1):exec cl N NT (B6 x0 x1) K=(JN hP (fun y0=>K .ret [(4,.v U2 y0)]) x0 x1):=by
 rw [←aN h160]
 kernel_rfl
theorem aiy (y0):ag d159 .ret [(4,.v U2 y0)]=some [.v U2 y0]:=by kernel_rfl
def Cz (hP:V3→bY→Bool→Option (Int)) (x0:V3) (x1:bY) (k:Int→Option R):Option R:=
(JN hP k x0 x1)
theorem Ys (hP) (h160:(H4 hP).holds cl) (x0 x1) (k:List E→Option R):exec cl N Ft (B6 x0 x1) (fun e env=>(ag d159 e env).bind k)=Cz hP x0 x1 (fun r0=>k [.v U2 r0]):=by
 simp only [Ft,anM hP h160,aiy,aq]
 rfl
def H3 (S:V3→bY→Option (Int)):aO:=dP 159 .str mD S fun b=> [.v U2 b]
def hN (N:Nat) (x0:V3) (x1:bY):Option (Int):=Cz (hP N) x0 x1 (fun (r0:Int)=>some (r0))
def JK (hN:V3→bY→Option (Int)) (k0:Bool→Option R) (x0:V3) (x1:bY):Option R:=
(hN x0 x1).bind fun r997=>
k0 (decide (r997≥(0:Int)))
theorem anD (hN) (h159:(H3 hN).holds cl) (x0 x1):exec cl N NM (B6 x0 x1) K=(JK hN (fun y0=>K .ret [(4,.v .bool y0)]) x0 x1):=by
 rw [←aN h159]
 kernel_rfl
theorem ait (y0):ag d153 .ret [(4,.v .bool y0)]=some [.v .bool y0]:=by kernel_rfl
def Cw (hN:V3→bY→Option (Int)) (x0:V3) (x1:bY) (k:Bool→Option R):Option R:=
(JK hN k x0 x1)
theorem Yo (hN) (h159:(H3 hN).holds cl) (x0 x1) (k:List E→Option R):exec cl N Fl (B6 x0 x1) (fun e env=>(ag d153 e env).bind k)=Cw hN x0 x1 (fun r0=>k [.v .bool r0]):=by
 simp only [Fl,anD hN h159,ait,aq]
 rfl
def HZ (S:V3→bY→Option (Bool)):aO:=dP 153 .str mD S fun b=> [.v .bool b]
def gX (N:Nat) (x0:V3) (x1:bY):Option (Bool):=Cw (hN N) x0 x1 (fun (r0:Bool)=>some (r0))
def JF (gW:aR→Option (Bool)) (gX:V3→bY→Option (Bool)) (gY:Int→Option (Bool)) (k0:Int→Option R) (x0:aR):Option R:=
ad (decide (x0.1 < (1:Int))) (k0 (1:Int)) (ad (decide (x0.1 > (9:Int))) (k0 (1:Int)) ((gW x0).bind fun r1002=>
ad (!r1002) (k0 (6:Int)) (ad (x0.2.2.1==([]:List UInt8)) (k0 (7:Int)) (ad (decide ((x0.2.2.1.length:Int) > (8:Int))) (k0 (3:Int)) ((gX x0.2.2.1 (fun (x1005:V4)=>((gY x1005.1).bind fun b1006=>some [.v .bool b1006]).bind (jQ .bool))).bind fun r1007=>
ad r1007 (k0 (2:Int)) (k0 (0:Int)))))))
theorem anl (gW) (gX) (gY) (h152:(HY gW).holds cl) (h153:(HZ gX).holds cl) (h154:(H0 gY).holds cl) (x0):exec cl N Nw [(0,.v aC x0)] K=(JF gW gX gY (fun y0=>K .ret [(2,.v U2 y0)]) x0):=by
 rw [←aN h152]
 rw [←aN h153]
 rw [←aN h154]
 kernel_rfl
theorem aik (y0):ag d143 .ret [(2,.v U2 y0)]=some [.v U2 y0]:=by kernel_rfl
def Cs (gW:aR→Option (Bool)) (gX:V3→bY→Option (Bool)) (gY:Int→Option (Bool)) (x0:aR) (k:Int→Option R):Option R:=
(JF gW gX gY k x0)
theorem Yg (gW) (gX) (gY) (h152:(HY gW).holds cl) (h153:(HZ gX).holds cl) (h154:(H0 gY).holds cl) (x0) (k:List E→Option R):exec cl N E7 [(0,.v aC x0)] (fun e env=>(ag d143 e env).bind k)=Cs gW gX gY x0 (fun r0=>k [.v U2 r0]):=by
 simp only [E7,anl gW gX gY h152 h153 h154,aik,aq]
 rfl
def rD (S:aR→Option (Int)):aO:=cE 143 aC S fun b=> [.v U2 b]
def du (N:Nat) (x0:aR):Option (Int):=Cs (gW N) (gX N) (gY N) x0 (fun (r0:Int)=>some (r0))
def vM (fv:V3→Option (Int)) (k0:Int→Option R) (k1:aV→Option R) (x0:aV):Option R:=
(fv x0.1).bind fun r1015=>
ad (r1015 != (0:Int)) (k0 r1015) (ad ((x0.2.1.length:Int)==(0:Int)) (k0 (7:Int)) (ad (decide ((x0.2.1.length:Int) > (2:Int))) (k0 (3:Int)) (k1 x0)))
theorem amy (fv) (h142:(BL fv).holds cl) (x0):exec cl N Ac [(0,.v aH x0)] K=(vM fv (fun y0=>K .ret (e7 y0)) (fun y0=>exec cl N Ab (jo y0) K) x0):=by
 rw [←aN h142]
 delta Ac
 generalize Ab=q
 revert q
 refine id ?_
 intro q
 kernel_rfl
def vI (k0:aV→aA→Int→Int→Option R) (x0:aV):Option R:=
k0 x0 x0.2.1 (x0.2.1.length:Int) (0:Int)
theorem amu (x0):exec cl N MS (jo x0) K=(vI (fun y0 y1 y2 y3=>K .normal (lP y0 y1 y2 y3)) x0):=by
 kernel_rfl
theorem T5 (x0 x1 x2 x3):aj [1,22,23,24] (lP x0 x1 x2 x3)=(lP x0 x1 x2 x3):=by kernel_rfl
def vJ (du:aR→Option (Int)) (k0:Int→Option R) (k1:aV→aA→Int→Int→Option R) (k2:aV→aA→Int→Int→Option R) (x0:aV) (x1:aA) (x2 x3:Int):Option R:=
ad (decide (x3 < x2)) (if 0≤x3∧x3 < (x1.length:Int) then
(du (x1.getD x3.toNat ((0:Int),((0:Int),([],()))))).bind fun r1020=>
ad (r1020 != (0:Int)) (k0 r1020) (k1 x0 x1 x2 (IntKind.i64.wrap (x3+(1:Int))))
else none) (k2 x0 x1 x2 x3)
theorem amv (du) (h143:(rD du).holds cl) (x0 x1 x2 x3):exec cl N EA (lP x0 x1 x2 x3) K=(vJ du (fun y0=>K .ret (I7 y0)) (fun y0 y1 y2 y3=>K .normal (lP y0 y1 y2 y3)) (fun y0 y1 y2 y3=>K (.exit 0) (lP y0 y1 y2 y3)) x0 x1 x2 x3):=by
 rw [←aN h143]
 kernel_rfl
def s5 {R:Type} (du:aR→Option (Int)) (k0:Int→Option R) (k1:aV→aA→Int→Int→Option R):Nat→aV→aA→Int→Int→Option R
 | 0,_,_,_,_=>none
 | m+1,x0,x1,x2,x3=>(vJ du k0 (s5 du k0 k1 m) k1 x0 x1 x2 x3)
theorem aeE (du) (h143:(rD du).holds cl):∀ (m) (x0 x1 x2 x3),iter [1,22,23,24] (fun env K=>exec cl N EA env K) K m (lP x0 x1 x2 x3)=s5 du (fun y0=>K .ret (I7 y0)) (fun y0 y1 y2 y3=>K (.exit 0) (lP y0 y1 y2 y3)) m x0 x1 x2 x3:=by
 intro m
 induction m with
 | zero=>intros; rfl
 | succ m ih=>
   intro x0 x1 x2 x3
   simp only [b6,amv du h143,b8,b7,b9,T5,ih]
   rfl
theorem abe (x0):aj [1,2] (I7 x0)=(e7 x0):=by kernel_rfl
theorem abf (x0 x1 x2 x3):aj [1,2] (lP x0 x1 x2 x3)=(jo x0):=by kernel_rfl
def vK (N:Nat) (du:aR→Option (Int)) (k0:Int→Option R) (k1:aV→Option R) (x0:aV) (x1:aA) (x2 x3:Int):Option R:=
s5 du k0 (fun y0 y1 y2 y3=>k1 y0) N x0 x1 x2 x3
theorem amw (du) (h143:(rD du).holds cl) (x0 x1 x2 x3):exec cl N EB (lP x0 x1 x2 x3) K=(vK N du (fun y0=>K .ret (e7 y0)) (fun y0=>K (.exit 0) (jo y0)) x0 x1 x2 x3):=by
 simp only [EB,aT,b5,T5,aeE du h143,abe,abf]
 rfl
theorem abg (x0):aj [1,2] (e7 x0)=(e7 x0):=by kernel_rfl
theorem abh (x0):aj [1,2] (jo x0)=(jo x0):=by kernel_rfl
def vL (k0:Int→Option R) (x0:aV):Option R:=
ad (decide (x0.2.2.1 < (0:Int))) (k0 (6:Int)) (ad (decide (x0.2.2.1 > (99:Int))) (k0 (6:Int)) (ad (decide (x0.2.2.2.1 < (0:Int))) (k0 (6:Int)) (ad (decide (x0.2.2.2.1 > (4:Int))) (k0 (6:Int)) (k0 (0:Int)))))
theorem amx (x0):exec cl N MV (jo x0) K=(vL (fun y0=>K .ret [(2,.v U2 y0)]) x0):=by
 kernel_rfl
def vN (N:Nat) (fv:V3→Option (Int)) (du:aR→Option (Int)) (k0:Int→Option R) (k1:Int→Option R) (x0:aV):Option R:=
(vM fv k0 (vI (vK N du k0 ((vL k1)))) x0)
theorem amz (fv) (du) (h142:(BL fv).holds cl) (h143:(rD du).holds cl) (x0):exec cl N Ac [(0,.v aH x0)] K=(vN N fv du (fun y0=>K .ret (e7 y0)) (fun y0=>K .ret [(2,.v U2 y0)]) x0):=by
 simp only [bQ,bS,bR,bT,amy fv h142,Ab,MU,amu,MT,aT,cj,amw du h143,cd,cg,cc,abg,abh,amx]
 rfl
theorem ahW (y0):ag d122 .ret (e7 y0)=some [.v U2 y0]:=by kernel_rfl
theorem ahX (y0):ag d122 .ret [(2,.v U2 y0)]=some [.v U2 y0]:=by kernel_rfl
def sd (N:Nat) (fv:V3→Option (Int)) (du:aR→Option (Int)) (x0:aV) (k:Int→Option R):Option R:=
(vN N fv du k k x0)
theorem X1 (fv) (du) (h142:(BL fv).holds cl) (h143:(rD du).holds cl) (x0) (k:List E→Option R):exec cl N Ez [(0,.v aH x0)] (fun e env=>(ag d122 e env).bind k)=sd N fv du x0 (fun r0=>k [.v U2 r0]):=by
 simp only [Ez,amz fv du h142 h143,ahW,ahX,aq]
 rfl
def ry (S:aV→Option (Int)):aO:=cE 122 aH S fun b=> [.v U2 b]
def de (N:Nat) (x0:aV):Option (Int):=sd N (fv N) (du N) x0 (fun (r0:Int)=>some (r0))
def vS (k0:Bool→Option R) (k1:aA→aA→Option R) (x0 x1:aA):Option R:=
ad ((x0.length:Int) != (x1.length:Int)) (k0 false) (k1 x0 x1)
theorem amG (x0 x1):exec cl N Ae (rS x0 x1) K=(vS (fun y0=>K .ret (iQ y0)) (fun y0 y1=>exec cl N Ad (B3 y0 y1) K) x0 x1):=by
 delta Ae
 generalize Ad=q
 revert q
 refine id ?_
 intro q
 kernel_rfl
def vO (k0:aA→aA→Int→Int→Option R) (x0 x1:aA):Option R:=
k0 x0 x1 (x0.length:Int) (0:Int)
theorem amC (x0 x1):exec cl N MY (B3 x0 x1) K=(vO (fun y0 y1 y2 y3=>K .normal (lQ y0 y1 y2 y3)) x0 x1):=by
 kernel_rfl
theorem T6 (x0 x1 x2 x3):aj [0,1,12,13] (lQ x0 x1 x2 x3)=(lQ x0 x1 x2 x3):=by kernel_rfl
def vP (k0:Bool→Option R) (k1:aA→aA→Int→Int→Option R) (k2:aA→aA→Int→Int→Option R) (x0 x1:aA) (x2 x3:Int):Option R:=
ad (decide (x3 < x2)) (if 0≤x3∧x3 < (x0.length:Int) then
if 0≤x3∧x3 < (x1.length:Int) then
ad (!(((x0.getD x3.toNat ((0:Int),((0:Int),([],())))).1==(x1.getD x3.toNat ((0:Int),((0:Int),([],())))).1)&&(((x0.getD x3.toNat ((0:Int),((0:Int),([],())))).2.1==(x1.getD x3.toNat ((0:Int),((0:Int),([],())))).2.1)&&(((x0.getD x3.toNat ((0:Int),((0:Int),([],())))).2.2.1==(x1.getD x3.toNat ((0:Int),((0:Int),([],())))).2.2.1)&&true)))) (k0 false) (k1 x0 x1 x2 (IntKind.i64.wrap (x3+(1:Int))))
else none
else none) (k2 x0 x1 x2 x3)
theorem amD (x0 x1 x2 x3):exec cl N EF (lQ x0 x1 x2 x3) K=(vP (fun y0=>K .ret (rU y0)) (fun y0 y1 y2 y3=>K .normal (lQ y0 y1 y2 y3)) (fun y0 y1 y2 y3=>K (.exit 0) (lQ y0 y1 y2 y3)) x0 x1 x2 x3):=by
 kernel_rfl
def s6 {R:Type} (k0:Bool→Option R) (k1:aA→aA→Int→Int→Option R):Nat→aA→aA→Int→Int→Option R
 | 0,_,_,_,_=>none
 | m+1,x0,x1,x2,x3=>(vP k0 (s6 k0 k1 m) k1 x0 x1 x2 x3)
theorem aeF:∀ (m) (x0 x1 x2 x3),iter [0,1,12,13] (fun env K=>exec cl N EF env K) K m (lQ x0 x1 x2 x3)=s6 (fun y0=>K .ret (rU y0)) (fun y0 y1 y2 y3=>K (.exit 0) (lQ y0 y1 y2 y3)) m x0 x1 x2 x3:=by
 intro m
 induction m with
 | zero=>intros; rfl
 | succ m ih=>
   intro x0 x1 x2 x3
   simp only [b6,amD,b8,b7,b9,T6,ih]
   rfl
theorem abi (x0):aj [4] (rU x0)=[(4,.v .bool x0)]:=by kernel_rfl
theorem abj (x0 x1 x2 x3):aj [4] (lQ x0 x1 x2 x3)=[(4,.dead)]:=by kernel_rfl
def vQ (N:Nat) (k0:Bool→Option R) (k1:Option R) (x0 x1:aA) (x2 x3:Int):Option R:=
s6 k0 (fun y0 y1 y2 y3=>k1) N x0 x1 x2 x3
theorem amE (x0 x1 x2 x3):exec cl N EG (lQ x0 x1 x2 x3) K=(vQ N (fun y0=>K .ret [(4,.v .bool y0)]) (K (.exit 0) [(4,.dead)]) x0 x1 x2 x3):=by
 simp only [EG,aT,b5,T6,aeF,abi,abj]
 rfl
theorem abk (x0):aj [4] [(4,.v .bool x0)]=[(4,.v .bool x0)]:=by kernel_rfl
theorem abl:aj [4] [(4,.dead)]=[(4,.dead)]:=by kernel_rfl
def vR (k0:Bool→Option R):Option R:=
k0 true
theorem amF:exec cl N M1 [(4,.dead)] K=(vR (fun y0=>K .ret [(4,.v .bool y0)])):=by
 kernel_rfl
def vT (N:Nat) (k0:Bool→Option R) (k1:Bool→Option R) (x0 x1:aA):Option R:=
(vS k0 (vO (vQ N k1 (vR k1))) x0 x1)
theorem amH (x0 x1):exec cl N Ae (rS x0 x1) K=(vT N (fun y0=>K .ret (iQ y0)) (fun y0=>K .ret [(4,.v .bool y0)]) x0 x1):=by
 simp only [bQ,bS,bR,bT,amG,Ad,M0,amC,MZ,aT,cj,amE,cd,cg,cc,abk,abl,amF]
 rfl
theorem ah0 (y0):ag d125 .ret (iQ y0)=some [.v .bool y0]:=by kernel_rfl
theorem ah1 (y0):ag d125 .ret [(4,.v .bool y0)]=some [.v .bool y0]:=by kernel_rfl
def se (N:Nat) (x0 x1:aA) (k:Bool→Option R):Option R:=
(vT N k k x0 x1)
theorem X4 (x0 x1) (k:List E→Option R):exec cl N EE (rS x0 x1) (fun e env=>(ag d125 e env).bind k)=se N x0 x1 (fun r0=>k [.v .bool r0]):=by
 simp only [EE,amH,ah0,ah1,aq]
 rfl
def HQ (S:aA→aA→Option (Bool)):aO:=dP 125 bp bp S fun b=> [.v .bool b]
def gU (N:Nat) (x0:aA) (x1:aA):Option (Bool):=se N x0 x1 (fun (r0:Bool)=>some (r0))
def Jt (gU:aA→aA→Option (Bool)) (k0:Bool→Option R) (x0 x1:aV):Option R:=
ad (x0.1==x1.1) (ad (x0.2.2.2.1==x1.2.2.2.1) ((gU x0.2.1 x1.2.1).bind fun r1043=>
k0 r1043) (k0 false)) (k0 false)
theorem amB (gU) (h125:(HQ gU).holds cl) (x0 x1):exec cl N MX [(0,.v aH x0),(1,.at aH x1)] K=(Jt gU (fun y0=>K .ret [(3,.v .bool y0)]) x0 x1):=by
 rw [←aN h125]
 kernel_rfl
theorem ahZ (y0):ag d124 .ret [(3,.v .bool y0)]=some [.v .bool y0]:=by kernel_rfl
def Ci (gU:aA→aA→Option (Bool)) (x0 x1:aV) (k:Bool→Option R):Option R:=
(Jt gU k x0 x1)
theorem X3 (gU) (h125:(HQ gU).holds cl) (x0 x1) (k:List E→Option R):exec cl N ED [(0,.v aH x0),(1,.at aH x1)] (fun e env=>(ag d124 e env).bind k)=Ci gU x0 x1 (fun r0=>k [.v .bool r0]):=by
 simp only [ED,amB gU h125,ahZ,aq]
 rfl
def rA (S:aV→aV→Option (Bool)):aO:={A:=aV×aV×Unit,B:=Bool,f:=124,enc:=fun a=> [.v aH a.1,.at aH a.2.1],dec:=(bc (bL aH) (bc (oN aH) ck)),S:=fun a=>S a.1 a.2.1,av:=fun b=> [.v .bool b],ok:=(gn (T:=aH) (BT (T:=aH) (fun es b h=>jn h)))}
def df (N:Nat) (x0:aV) (x1:aV):Option (Bool):=Ci (gU N) x0 x1 (fun (r0:Bool)=>some (r0))
def v8 (k0:cA→eT→Option R) (x0:cA) (x1:eT):Option R:=
k0 x0 x1
theorem anm (x0 x1):exec cl N Nx (oW x0 x1) K=(v8 (fun y0 y1=>K .normal (oW y0 y1)) x0 x1):=by
 kernel_rfl
def wa (k0:cA→eT→Int→Int→Option R) (x0:cA) (x1:eT):Option R:=
k0 x0 x1 (x0.length:Int) (0:Int)
theorem ann (x0 x1):exec cl N Ny (oW x0 x1) K=(wa (fun y0 y1 y2 y3=>K .normal (lR y0 y1 y2 y3)) x0 x1):=by
 kernel_rfl
theorem Ub (x0 x1 x2 x3):aj [0,1,7,8] (lR x0 x1 x2 x3)=(lR x0 x1 x2 x3):=by kernel_rfl
def wb (k0:Int→Option R) (k1:cA→eT→Int→Int→Option R) (k2:cA→eT→Int→Int→Option R) (x0:cA) (x1:eT) (x2 x3:Int):Option R:=
ad (decide (x3 < x2)) (if 0≤x3∧x3 < (x0.length:Int) then
(x1 ((x0.getD x3.toNat ([],([],((0:Int),((0:Int),()))))),())).bind fun r1050=>
ad r1050 (k0 x3) (k1 x0 x1 x2 (IntKind.i64.wrap (x3+(1:Int))))
else none) (k2 x0 x1 x2 x3)
theorem ano (x0 x1 x2 x3):exec cl N E9 (lR x0 x1 x2 x3) K=(wb (fun y0=>K .ret (rV y0)) (fun y0 y1 y2 y3=>K .normal (lR y0 y1 y2 y3)) (fun y0 y1 y2 y3=>K (.exit 0) (lR y0 y1 y2 y3)) x0 x1 x2 x3):=by
 kernel_rfl
def qg {R:Type} (k0:Int→Option R) (k1:cA→eT→Int→Int→Option R):Nat→cA→eT→Int→Int→Option R
 | 0,_,_,_,_=>none
 | m+1,x0,x1,x2,x3=>(wb k0 (qg k0 k1 m) k1 x0 x1 x2 x3)
theorem aeM:∀ (m) (x0 x1 x2 x3),iter [0,1,7,8] (fun env K=>exec cl N E9 env K) K m (lR x0 x1 x2 x3)=qg (fun y0=>K .ret (rV y0)) (fun y0 y1 y2 y3=>K (.exit 0) (lR y0 y1 y2 y3)) m x0 x1 x2 x3:=by
 intro m
 induction m with
 | zero=>intros; rfl
 | succ m ih=>
   intro x0 x1 x2 x3
   simp only [b6,ano,b8,b7,b9,Ub,ih]
   rfl
theorem abD (x0):aj [4] (rV x0)=[(4,.v U2 x0)]:=by kernel_rfl
theorem abE (x0 x1 x2 x3):aj [4] (lR x0 x1 x2 x3)=[(4,.dead)]:=by kernel_rfl
def wc (N:Nat) (k0:Int→Option R) (k1:Option R) (x0:cA) (x1:eT) (x2 x3:Int):Option R:=
qg k0 (fun y0 y1 y2 y3=>k1) N x0 x1 x2 x3
theorem anp (x0 x1 x2 x3):exec cl N Fa (lR x0 x1 x2 x3) K=(wc N (fun y0=>K .ret [(4,.v U2 y0)]) (K (.exit 0) [(4,.dead)]) x0 x1 x2 x3):=by
 simp only [Fa,aT,b5,Ub,aeM,abD,abE]
 rfl
theorem abF (x0):aj [4] [(4,.v U2 x0)]=[(4,.v U2 x0)]:=by kernel_rfl
theorem abG:aj [4] [(4,.dead)]=[(4,.dead)]:=by kernel_rfl
def we (k0:Int→Option R):Option R:=
k0 (-1:Int)
theorem anq:exec cl N NB [(4,.dead)] K=(we (fun y0=>K .ret [(4,.v U2 y0)])):=by
 kernel_rfl
def wg (N:Nat) (k0:Int→Option R) (x0:cA) (x1:eT):Option R:=
(v8 (wa (wc N k0 (we k0))) x0 x1)
theorem anr (x0 x1):exec cl N Fb (oW x0 x1) K=(wg N (fun y0=>K .ret [(4,.v U2 y0)]) x0 x1):=by
 simp only [Fb,bQ,bS,bR,bT,anm,NC,NA,ann,Nz,aT,cj,anp,cd,cg,cc,abF,abG,anq]
 rfl
theorem ail (y0):ag d144 .ret [(4,.v U2 y0)]=some [.v U2 y0]:=by kernel_rfl
def sh (N:Nat) (x0:cA) (x1:eT) (k:Int→Option R):Option R:=
(wg N k x0 x1)
theorem Yh (x0 x1) (k:List E→Option R):exec cl N E8 (oW x0 x1) (fun e env=>(ag d144 e env).bind k)=sh N x0 x1 (fun r0=>k [.v U2 r0]):=by
 simp only [E8,anr,ail,aq]
 rfl
def HV (S:cA→eT→Option (Int)):aO:=dP 144 c8 zx S fun b=> [.v U2 b]
def iK (N:Nat) (x0:cA) (x1:eT):Option (Int):=sh N x0 x1 (fun (r0:Int)=>some (r0))
def Js (iK:cA→eT→Option (Int)) (k0:Bool→Option R) (x0:cA) (x1:eT):Option R:=
(iK x0 x1).bind fun r1054=>
k0 (decide (r1054≥(0:Int)))
theorem amA (iK) (h144:(HV iK).holds cl) (x0 x1):exec cl N MW (oW x0 x1) K=(Js iK (fun y0=>K .ret [(4,.v .bool y0)]) x0 x1):=by
 rw [←aN h144]
 kernel_rfl
theorem ahY (y0):ag d123 .ret [(4,.v .bool y0)]=some [.v .bool y0]:=by kernel_rfl
def Cg (iK:cA→eT→Option (Int)) (x0:cA) (x1:eT) (k:Bool→Option R):Option R:=
(Js iK k x0 x1)
theorem X2 (iK) (h144:(HV iK).holds cl) (x0 x1) (k:List E→Option R):exec cl N EC (oW x0 x1) (fun e env=>(ag d123 e env).bind k)=Cg iK x0 x1 (fun r0=>k [.v .bool r0]):=by
 simp only [EC,amA iK h144,ahY,aq]
 rfl
def rz (S:cA→eT→Option (Bool)):aO:=dP 123 c8 zx S fun b=> [.v .bool b]
def c6 (N:Nat) (x0:cA) (x1:eT):Option (Bool):=Cg (iK N) x0 x1 (fun (r0:Bool)=>some (r0))
def yn (fe:V3→Option (Bool)) (k0:Int→Int→Option R) (k1:ae→Option R) (x0:ae):Option R:=
(fe x0.1).bind fun r1058=>
ad (!r1058) (k0 (-1:Int) (2:Int)) (ad ((x0.2.1.length:Int)==(0:Int)) (k0 (-1:Int) (7:Int)) (ad (decide ((x0.2.1.length:Int) > (120:Int))) (k0 (-1:Int) (3:Int)) (k1 x0)))
theorem ary (fe) (h121:(BI fe).holds cl) (x0):exec cl N Bu [(0,.v ar x0)] K=(yn fe (fun y0 y1=>K .ret (rT y0 y1)) (fun y0=>exec cl N Bt (B4 y0) K) x0):=by
 rw [←aN h121]
 delta Bu
 generalize Bt=q
 revert q
 refine id ?_
 intro q
 kernel_rfl
def yj (k0:ae→cA→Int→Int→Option R) (x0:ae):Option R:=
k0 x0 x0.2.1 (x0.2.1.length:Int) (0:Int)
theorem aru (x0):exec cl N QF (B4 x0) K=(yj (fun y0 y1 y2 y3=>K .normal (lS y0 y1 y2 y3)) x0):=by
 kernel_rfl
theorem UG (x0 x1 x2 x3):aj [1,24,25,26] (lS x0 x1 x2 x3)=(lS x0 x1 x2 x3):=by kernel_rfl
def yk (de:aV→Option (Int)) (c6:cA→eT→Option (Bool)) (df:aV→aV→Option (Bool)) (k0:Int→Int→Option R) (k1:ae→cA→Int→Int→Option R) (k2:ae→cA→Int→Int→Option R) (x0:ae) (x1:cA) (x2 x3:Int):Option R:=
ad (decide (x3 < x2)) (if 0≤x3∧x3 < (x1.length:Int) then
(de (x1.getD x3.toNat ([],([],((0:Int),((0:Int),())))))).bind fun r1062=>
ad (r1062 != (0:Int)) (k0 x3 r1062) (if 0≤(0:Int)∧(0:Int)≤x3∧x3≤(x0.2.1.length:Int)∧(x0.2.1.length:Int)≤(x0.2.1.length:Int) then
(c6 ((x0.2.1.drop (0:Int).toNat).take (x3.toNat - (0:Int).toNat)) (fun (x1065:(aV×Unit))=>((df x1065.1 (x1.getD x3.toNat ([],([],((0:Int),((0:Int),())))))).bind fun b1066=>some [.v .bool b1066]).bind (jQ .bool))).bind fun r1067=>
ad r1067 (k0 x3 (5:Int)) (k1 x0 x1 x2 (IntKind.i64.wrap (x3+(1:Int))))
else none)
else none) (k2 x0 x1 x2 x3)
theorem arv (de) (c6) (df) (h122:(ry de).holds cl) (h123:(rz c6).holds cl) (h124:(rA df).holds cl) (x0 x1 x2 x3):exec cl N HB (lS x0 x1 x2 x3) K=(yk de c6 df (fun y0 y1=>K .ret (I8 y0 y1)) (fun y0 y1 y2 y3=>K .normal (lS y0 y1 y2 y3)) (fun y0 y1 y2 y3=>K (.exit 1) (lS y0 y1 y2 y3)) x0 x1 x2 x3):=by
 rw [←aN h122]
 rw [←aN h123]
 rw [←aN h124]
 kernel_rfl
def qq {R:Type} (de:aV→Option (Int)) (c6:cA→eT→Option (Bool)) (df:aV→aV→Option (Bool)) (k0:Int→Int→Option R) (k1:ae→cA→Int→Int→Option R):Nat→ae→cA→Int→Int→Option R
 | 0,_,_,_,_=>none
 | m+1,x0,x1,x2,x3=>(yk de c6 df k0 (qq de c6 df k0 k1 m) k1 x0 x1 x2 x3)
theorem afn (de) (c6) (df) (h122:(ry de).holds cl) (h123:(rz c6).holds cl) (h124:(rA df).holds cl):∀ (m) (x0 x1 x2 x3),iter [1,24,25,26] (fun env K=>exec cl N HB env K) K m (lS x0 x1 x2 x3)=qq de c6 df (fun y0 y1=>K .ret (I8 y0 y1)) (fun y0 y1 y2 y3=>K (.exit 1) (lS y0 y1 y2 y3)) m x0 x1 x2 x3:=by
 intro m
 induction m with
 | zero=>intros; rfl
 | succ m ih=>
   intro x0 x1 x2 x3
   simp only [b6,arv de c6 df h122 h123 h124,b8,b7,b9,UG,ih]
   rfl
theorem adz (x0 x1):aj [2,3] (I8 x0 x1)=(jq x0 x1):=by kernel_rfl
theorem adA (x0 x1 x2 x3):aj [2,3] (lS x0 x1 x2 x3)=[(2,.dead),(3,.dead)]:=by kernel_rfl
def yl (N:Nat) (de:aV→Option (Int)) (c6:cA→eT→Option (Bool)) (df:aV→aV→Option (Bool)) (k0:Int→Int→Option R) (k1:Option R) (x0:ae) (x1:cA) (x2 x3:Int):Option R:=
qq de c6 df k0 (fun y0 y1 y2 y3=>k1) N x0 x1 x2 x3
theorem arw (de) (c6) (df) (h122:(ry de).holds cl) (h123:(rz c6).holds cl) (h124:(rA df).holds cl) (x0 x1 x2 x3):exec cl N HC (lS x0 x1 x2 x3) K=(yl N de c6 df (fun y0 y1=>K .ret (jq y0 y1)) (K (.exit 1) [(2,.dead),(3,.dead)]) x0 x1 x2 x3):=by
 simp only [HC,aT,b5,UG,afn de c6 df h122 h123 h124,adz,adA]
 rfl
theorem adB (x0 x1):aj [2,3] (jq x0 x1)=(jq x0 x1):=by kernel_rfl
theorem adC:aj [2,3] [(2,.dead),(3,.dead)]=[(2,.dead),(3,.dead)]:=by kernel_rfl
def ym (k0:Int→Int→Option R):Option R:=
k0 (-1:Int) (0:Int)
theorem arx:exec cl N QI [(2,.dead),(3,.dead)] K=(ym (fun y0 y1=>K .ret (jq y0 y1))):=by
 kernel_rfl
def yp (N:Nat) (fe:V3→Option (Bool)) (de:aV→Option (Int)) (c6:cA→eT→Option (Bool)) (df:aV→aV→Option (Bool)) (k0:Int→Int→Option R) (k1:Int→Int→Option R) (x0:ae):Option R:=
(yn fe k0 (yj (yl N de c6 df k1 (ym k1))) x0)
theorem arz (fe) (de) (c6) (df) (h121:(BI fe).holds cl) (h122:(ry de).holds cl) (h123:(rz c6).holds cl) (h124:(rA df).holds cl) (x0):exec cl N Bu [(0,.v ar x0)] K=(yp N fe de c6 df (fun y0 y1=>K .ret (rT y0 y1)) (fun y0 y1=>K .ret (jq y0 y1)) x0):=by
 simp only [bQ,bS,bR,bT,ary fe h121,Bt,QH,aru,QG,aT,cj,arw de c6 df h122 h123 h124,cd,cg,cc,adB,adC,arx]
 rfl
theorem ajY (y0 y1):ag d95 .ret (rT y0 y1)=some [.v U2 y0,.v U2 y1]:=by kernel_rfl
theorem ajZ (y0 y1):ag d95 .ret (jq y0 y1)=some [.v U2 y0,.v U2 y1]:=by kernel_rfl
def sT (N:Nat) (fe:V3→Option (Bool)) (de:aV→Option (Int)) (c6:cA→eT→Option (Bool)) (df:aV→aV→Option (Bool)) (x0:ae) (k:Int→Int→Option R):Option R:=
(yp N fe de c6 df k k x0)
theorem Y7 (fe) (de) (c6) (df) (h121:(BI fe).holds cl) (h122:(ry de).holds cl) (h123:(rz c6).holds cl) (h124:(rA df).holds cl) (x0) (k:List E→Option R):exec cl N HA [(0,.v ar x0)] (fun e env=>(ag d95 e env).bind k)=sT N fe de c6 df x0 (fun r0 r1=>k [.v U2 r0,.v U2 r1]):=by
 simp only [HA,arz fe de c6 df h121 h122 h123 h124,ajY,ajZ,aq]
 rfl
def Im (S:ae→Option V1):aO:=cE 95 ar S fun b=> [.v U2 b.1,.v U2 b.2]
def iO (N:Nat) (x0:ae):Option V1:=sT N (fe N) (de N) (c6 N) (df N) x0 (fun (r0:Int) (r1:Int)=>some (r0,r1))
def J7 (iO:ae→Option V1) (k0:Int→Option R) (x0:ae):Option R:=
(iO x0).bind fun r1070=>
k0 r1070.2
theorem aqt (iO) (h95:(Im iO).holds cl) (x0):exec cl N PX [(0,.v ar x0)] K=(J7 iO (fun y0=>K .ret [(2,.v U2 y0)]) x0):=by
 rw [←aN h95]
 kernel_rfl
theorem ajz (y0):ag d70 .ret [(2,.v U2 y0)]=some [.v U2 y0]:=by kernel_rfl
def CH (iO:ae→Option V1) (x0:ae) (k:Int→Option R):Option R:=
(J7 iO k x0)
theorem YW (iO) (h95:(Im iO).holds cl) (x0) (k:List E→Option R):exec cl N GY [(0,.v ar x0)] (fun e env=>(ag d70 e env).bind k)=CH iO x0 (fun r0=>k [.v U2 r0]):=by
 simp only [GY,aqt iO h95,ajz,aq]
 rfl
def uO (S:ae→Option (Int)):aO:=cE 70 ar S fun b=> [.v U2 b]
def eo (N:Nat) (x0:ae):Option (Int):=CH (iO N) x0 (fun (r0:Int)=>some (r0))
def Ki (ca:Int→Option (Bool)) (k0:Bool→Option R) (x0:Int):Option R:=
(ca x0).bind fun r1078=>
k0 (!r1078)
theorem arB (ca) (h98:(nz ca).holds cl) (x0):exec cl N QK [(0,.v U0 x0)] K=(Ki ca (fun y0=>K .ret [(2,.v .bool y0)]) x0):=by
 rw [←aN h98]
 kernel_rfl
theorem aj1 (y0):ag d97 .ret [(2,.v .bool y0)]=some [.v .bool y0]:=by kernel_rfl
def CM (ca:Int→Option (Bool)) (x0:Int) (k:Bool→Option R):Option R:=
(Ki ca k x0)
theorem Y9 (ca) (h98:(nz ca).holds cl) (x0) (k:List E→Option R):exec cl N HE [(0,.v U0 x0)] (fun e env=>(ag d97 e env).bind k)=CM ca x0 (fun r0=>k [.v .bool r0]):=by
 simp only [HE,arB ca h98,aj1,aq]
 rfl
def rL (S:Int→Option (Bool)):aO:=cE 97 U0 S fun b=> [.v .bool b]
def dp (N:Nat) (x0:Int):Option (Bool):=CM (ca N) x0 (fun (r0:Bool)=>some (r0))
def vU (k0:V0→bY→Option R) (x0:V0) (x1:bY):Option R:=
k0 x0 x1
theorem amI (x0 x1):exec cl N M3 (oX x0 x1) K=(vU (fun y0 y1=>K .normal (oX y0 y1)) x0 x1):=by
 kernel_rfl
def vV (k0:V0→bY→Int→Int→Option R) (x0:V0) (x1:bY):Option R:=
k0 x0 x1 (x0.length:Int) (0:Int)
theorem amJ (x0 x1):exec cl N M4 (oX x0 x1) K=(vV (fun y0 y1 y2 y3=>K .normal (lT y0 y1 y2 y3)) x0 x1):=by
 kernel_rfl
theorem T7 (x0 x1 x2 x3):aj [0,1,7,8] (lT x0 x1 x2 x3)=(lT x0 x1 x2 x3):=by kernel_rfl
def vW (k0:Int→Option R) (k1:V0→bY→Int→Int→Option R) (k2:V0→bY→Int→Int→Option R) (x0:V0) (x1:bY) (x2 x3:Int):Option R:=
ad (decide (x3 < x2)) (if 0≤x3∧x3 < (x0.length:Int) then
(x1 ((x0.getD x3.toNat (0:Int)),())).bind fun r1085=>
ad r1085 (k0 x3) (k1 x0 x1 x2 (IntKind.i64.wrap (x3+(1:Int))))
else none) (k2 x0 x1 x2 x3)
theorem amK (x0 x1 x2 x3):exec cl N EI (lT x0 x1 x2 x3) K=(vW (fun y0=>K .ret (rV y0)) (fun y0 y1 y2 y3=>K .normal (lT y0 y1 y2 y3)) (fun y0 y1 y2 y3=>K (.exit 0) (lT y0 y1 y2 y3)) x0 x1 x2 x3):=by
 kernel_rfl
def qf {R:Type} (k0:Int→Option R) (k1:V0→bY→Int→Int→Option R):Nat→V0→bY→Int→Int→Option R
 | 0,_,_,_,_=>none
 | m+1,x0,x1,x2,x3=>(vW k0 (qf k0 k1 m) k1 x0 x1 x2 x3)
theorem aeG:∀ (m) (x0 x1 x2 x3),iter [0,1,7,8] (fun env K=>exec cl N EI env K) K m (lT x0 x1 x2 x3)=qf (fun y0=>K .ret (rV y0)) (fun y0 y1 y2 y3=>K (.exit 0) (lT y0 y1 y2 y3)) m x0 x1 x2 x3:=by
 intro m
 induction m with
 | zero=>intros; rfl
 | succ m ih=>
   intro x0 x1 x2 x3
   simp only [b6,amK,b8,b7,b9,T7,ih]
   rfl
theorem abm (x0):aj [4] (rV x0)=[(4,.v U2 x0)]:=by kernel_rfl
theorem abn (x0 x1 x2 x3):aj [4] (lT x0 x1 x2 x3)=[(4,.dead)]:=by kernel_rfl
def vX (N:Nat) (k0:Int→Option R) (k1:Option R) (x0:V0) (x1:bY) (x2 x3:Int):Option R:=
qf k0 (fun y0 y1 y2 y3=>k1) N x0 x1 x2 x3
theorem amL (x0 x1 x2 x3):exec cl N EJ (lT x0 x1 x2 x3) K=(vX N (fun y0=>K .ret [(4,.v U2 y0)]) (K (.exit 0) [(4,.dead)]) x0 x1 x2 x3):=by
 simp only [EJ,aT,b5,T7,aeG,abm,abn]
 rfl
theorem abo (x0):aj [4] [(4,.v U2 x0)]=[(4,.v U2 x0)]:=by kernel_rfl
theorem abp:aj [4] [(4,.dead)]=[(4,.dead)]:=by kernel_rfl
def vY (k0:Int→Option R):Option R:=
k0 (-1:Int)
theorem amM:exec cl N M7 [(4,.dead)] K=(vY (fun y0=>K .ret [(4,.v U2 y0)])):=by
 kernel_rfl
def vZ (N:Nat) (k0:Int→Option R) (x0:V0) (x1:bY):Option R:=
(vU (vV (vX N k0 (vY k0))) x0 x1)
theorem amN (x0 x1):exec cl N EK (oX x0 x1) K=(vZ N (fun y0=>K .ret [(4,.v U2 y0)]) x0 x1):=by
 simp only [EK,bQ,bS,bR,bT,amI,M8,M6,amJ,M5,aT,cj,amL,cd,cg,cc,abo,abp,amM]
 rfl
theorem ah2 (y0):ag d126 .ret [(4,.v U2 y0)]=some [.v U2 y0]:=by kernel_rfl
def sf (N:Nat) (x0:V0) (x1:bY) (k:Int→Option R):Option R:=
(vZ N k x0 x1)
theorem X5 (x0 x1) (k:List E→Option R):exec cl N EH (oX x0 x1) (fun e env=>(ag d126 e env).bind k)=sf N x0 x1 (fun r0=>k [.v U2 r0]):=by
 simp only [EH,amN,ah2,aq]
 rfl
def HR (S:V0→bY→Option (Int)):aO:=dP 126 U4 zt S fun b=> [.v U2 b]
def iJ (N:Nat) (x0:V0) (x1:bY):Option (Int):=sf N x0 x1 (fun (r0:Int)=>some (r0))
def Kh (iJ:V0→bY→Option (Int)) (k0:Bool→Option R) (x0:V0) (x1:bY):Option R:=
(iJ x0 x1).bind fun r1089=>
k0 (decide (r1089≥(0:Int)))
theorem arA (iJ) (h126:(HR iJ).holds cl) (x0 x1):exec cl N QJ (oX x0 x1) K=(Kh iJ (fun y0=>K .ret [(4,.v .bool y0)]) x0 x1):=by
 rw [←aN h126]
 kernel_rfl
theorem aj0 (y0):ag d96 .ret [(4,.v .bool y0)]=some [.v .bool y0]:=by kernel_rfl
def CL (iJ:V0→bY→Option (Int)) (x0:V0) (x1:bY) (k:Bool→Option R):Option R:=
(Kh iJ k x0 x1)
theorem Y8 (iJ) (h126:(HR iJ).holds cl) (x0 x1) (k:List E→Option R):exec cl N HD (oX x0 x1) (fun e env=>(ag d96 e env).bind k)=CL iJ x0 x1 (fun r0=>k [.v .bool r0]):=by
 simp only [HD,arA iJ h126,aj0,aq]
 rfl
def rK (S:V0→bY→Option (Bool)):aO:=dP 96 U4 zt S fun b=> [.v .bool b]
def c7 (N:Nat) (x0:V0) (x1:bY):Option (Bool):=CL (iJ N) x0 x1 (fun (r0:Bool)=>some (r0))
end Go.Fw.L19
