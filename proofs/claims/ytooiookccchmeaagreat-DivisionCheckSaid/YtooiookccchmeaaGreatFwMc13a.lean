/- Own work. -/
import Derived.Test.YtooiookccchmeaaGreatFwYc13
import Derived.Test.YtooiookccchmeaaGreatFwB4
set_option linter.unusedVariables false
set_option linter.unusedSimpArgs false
open Option renaming bind_some → aq
namespace Go.Fw.L19
open Go Go.Fw
set_option maxRecDepth 100000
abbrev cC (f:FuncId) (T0:Ty) {B:Type} (S:den T0→Option B) (aw:B→List E):aN:={A:=den T0×Unit,B:=B,f:=f,enc:=fun a=> [.v T0 a.1],dec:=(bj (bM T0) cz),S:=fun a=>S a.1,aw:=aw,ok:=(gz (T:=T0) (fun es b h=>jv h))}
abbrev dT (f:FuncId) (T0 T1:Ty) {B:Type} (S:den T0→den T1→Option B) (aw:B→List E):aN:={A:=den T0×den T1×Unit,B:=B,f:=f,enc:=fun a=> [.v T0 a.1,.v T1 a.2.1],dec:=(bj (bM T0) (bj (bM T1) cz)),S:=fun a=>S a.1 a.2.1,aw:=aw,ok:=(gz (T:=T0) (gz (T:=T1) (fun es b h=>jv h)))}
abbrev rA (f:FuncId) (T0 T1 T2:Ty) {B:Type} (S:den T0→den T1→den T2→Option B) (aw:B→List E):aN:={A:=den T0×den T1×den T2×Unit,B:=B,f:=f,enc:=fun a=> [.v T0 a.1,.v T1 a.2.1,.v T2 a.2.2.1],dec:=(bj (bM T0) (bj (bM T1) (bj (bM T2) cz))),S:=fun a=>S a.1 a.2.1 a.2.2.1,aw:=aw,ok:=(gz (T:=T0) (gz (T:=T1) (gz (T:=T2) (fun es b h=>jv h))))}
abbrev Su (f:FuncId) (T0 T1 T2 T3:Ty) {B:Type} (S:den T0→den T1→den T2→den T3→Option B) (aw:B→List E):aN:={A:=den T0×den T1×den T2×den T3×Unit,B:=B,f:=f,enc:=fun a=> [.v T0 a.1,.v T1 a.2.1,.v T2 a.2.2.1,.v T3 a.2.2.2.1],dec:=(bj (bM T0) (bj (bM T1) (bj (bM T2) (bj (bM T3) cz)))),S:=fun a=>S a.1 a.2.1 a.2.2.1 a.2.2.2.1,aw:=aw,ok:=(gz (T:=T0) (gz (T:=T1) (gz (T:=T2) (gz (T:=T3) (fun es b h=>jv h)))))}
abbrev e0:=fun x0 x1 x2=>([(0,.v .str x0),(3,.own true 9 .str .no x1),(4,.v U2 x2)]:Env)
abbrev e1:=fun x0 x1 x2 x3=>([(0,.v .str x0),(3,.own true 9 .str .no x1),(4,.v U2 x2),(5,.v U2 x3)]:Env)
abbrev e2:=fun x0=>([(3,.own true 9 .str .no x0)]:Env)
abbrev e3:=fun x0=>([(2,.ref 3 []),(3,.own true 9 .str .no x0)]:Env)
abbrev e4:=fun x0=>([(0,.dead),(2,.own true 9 .str .no x0),(3,.dead),(4,.dead),(5,.dead)]:Env)
abbrev e5:=fun x0=>([(2,.own true 9 .str .no x0),(3,.dead)]:Env)
abbrev e6:=fun x0=>([(2,.dead),(3,.own true 9 .str .no x0)]:Env)
abbrev e7:=fun x0=>([(1,.dead),(2,.v U2 x0)]:Env)
abbrev e8:=fun x0 x1=>([(1,.loc aC .no x0),(4,.v U2 x1)]:Env)
abbrev e9:=fun x0=>([(1,.dead),(2,.v U2 x0),(4,.dead)]:Env)
abbrev kO:=fun x0 x1 x2=>([(0,.v .str x0),(2,.loc aC .no x1),(4,.v U2 x2)]:Env)
abbrev Js:=fun x0 x1=>([(0,.dead),(2,.loc aC .no x0),(3,.v .bool x1),(4,.dead),(5,.dead)]:Env)
abbrev o5:=fun x0 x1 x2=>([(2,.loc aC .no x0),(5,.v .str x1),(6,.loc aC .no x2)]:Env)
abbrev lx:=fun x0 x1 x2 x3=>([(2,.loc aC .no x0),(5,.v .str x1),(6,.loc aC .no x2),(7,.v U2 x3)]:Env)
abbrev JC:=fun x0 x1=>([(2,.loc aC .no x0),(3,.v .bool x1)]:Env)
abbrev JG:=fun x0 x1=>([(0,.dead),(2,.own true 40 aC .no x0),(3,.v U2 x1)]:Env)
abbrev lI:=fun x0 x1 x2=>([(4,.own true 40 aC .no x0),(5,.own true 9 .str .no x1),(6,.v U2 x2)]:Env)
abbrev JK:=fun x0 x1=>([(2,.own true 40 aC .no x0),(3,.v U2 x1),(4,.dead),(5,.dead),(6,.dead)]:Env)
abbrev o7:=fun x0 x1=>([(2,.own true 40 aC .no x0),(3,.v U2 x1),(4,.dead)]:Env)
abbrev uZ:=fun x0=>([(2,.dead),(3,.dead),(4,.own true 40 aC .no x0)]:Env)
abbrev JN:=fun x0 x1=>([(2,.ref 4 []),(3,.v U2 x0),(4,.own true 40 aC .no x1)]:Env)
abbrev cw:=fun x0 x1=>([(0,.v .str x0),(3,.v U2 x1)]:Env)
abbrev JO:=fun x0 x1=>([(0,.dead),(2,.v U2 x0),(3,.v .bool x1)]:Env)
abbrev lQ:=fun x0 x1 x2=>([(0,.v .str x0),(4,.v U2 x1),(5,.v U2 x2)]:Env)
abbrev JP:=fun x0 x1=>([(2,.loc aE (.pair .no (.pair (.own true 40 .no) (.pair .no (.pair .no .no)))) x0),(3,.v .bool x1),(4,.dead)]:Env)
abbrev o8:=fun x0 x1 x2=>([(2,.loc aE (.pair .no (.pair (.own true 40 .no) (.pair .no (.pair .no .no)))) x0),(4,.own true 9 .str .no x1),(5,.v .str x2)]:Env)
abbrev lR:=fun x0 x1 x2 x3=>([(2,.loc aE (.pair .no (.pair (.own true 40 .no) (.pair .no (.pair .no .no)))) x0),(4,.own true 9 .str .no x1),(5,.v .str x2),(6,.v U2 x3)]:Env)
abbrev JQ:=fun x0 x1=>([(2,.loc aE (.pair .no (.pair (.own true 40 .no) (.pair .no (.pair .no .no)))) x0),(3,.v .bool x1),(4,.dead),(7,.dead),(9,.dead)]:Env)
abbrev SS:=fun x0 x1 x2 x3=>([(2,.loc aE (.pair .no (.pair (.own true 40 .no) (.pair .no (.pair .no .no)))) x0),(3,.dead),(4,.own true 9 .str .no x1),(7,.own true 40 aC .no x2),(9,.v U2 x3)]:Env)
abbrev lS:=fun x0 x1 x2 x3 x4=>([(2,.loc aE (.pair .no (.pair (.own true 40 .no) (.pair .no (.pair .no .no)))) x0),(4,.own true 9 .str .no x1),(7,.own true 40 aC .no x2),(9,.v U2 x3),(11,.v U2 x4)]:Env)
abbrev JR:=fun x0 x1=>([(2,.loc aE .no x0),(3,.v .bool x1),(4,.dead),(7,.dead),(9,.dead),(11,.dead)]:Env)
abbrev rG:=fun x0 x1=>([(2,.loc aE .no x0),(3,.v .bool x1)]:Env)
abbrev u0:=fun x0=>([(2,.loc aE (.pair .no (.pair (.own true 40 .no) (.pair .no (.pair .no .no)))) x0),(3,.dead)]:Env)
abbrev JS:=fun x0 x1=>([(2,.loc aE (.pair .no (.pair (.own true 40 .no) (.pair .no (.pair .no .no)))) x0),(3,.v .bool x1)]:Env)
abbrev gW:=fun x0=>([(0,.dead),(2,.v U2 x0)]:Env)
abbrev lT:=fun x0 x1=>([(0,.v U0 x0),(3,.v U2 x1)]:Env)
abbrev JT:=fun x0=>([(0,.dead),(2,.v .bool x0),(3,.dead)]:Env)
abbrev rH:=fun x0=>([(0,.v .str x0),(2,.dead)]:Env)
abbrev mZ:=fun x0=>([(0,.dead),(2,.v U2 x0),(3,.dead)]:Env)
abbrev jz:=fun x0=>([(1,.loc aE .no x0),(2,.dead)]:Env)
abbrev lU:=fun x0 x1=>([(1,.loc aE .no x0),(4,.v U2 x1)]:Env)
abbrev CI:=fun x0 x1=>([(0,.v U2 x0),(1,.v U2 x1)]:Env)
abbrev lV:=fun x0=>([(0,.dead),(1,.dead),(4,.v U2 x0)]:Env)
abbrev rI:=fun x0 x1=>([(0,.v ba x0),(1,.v ba x1)]:Env)
abbrev ja:=fun x0=>([(0,.dead),(1,.dead),(4,.v .bool x0)]:Env)
abbrev CJ:=fun x0 x1=>([(0,.v ba x0),(1,.v ba x1),(4,.dead)]:Env)
abbrev lW:=fun x0 x1 x2=>([(0,.v ba x0),(1,.v ba x1),(5,.v U2 x2)]:Env)
abbrev ki:=fun x0=>([(0,.dead),(1,.dead),(4,.v .bool x0),(5,.dead)]:Env)
abbrev rJ:=fun x0 x1=>([(1,.dead),(2,.v U2 x0),(3,.v U2 x1)]:Env)
abbrev CK:=fun x0=>([(1,.loc ar .no x0),(2,.dead),(3,.dead)]:Env)
abbrev jb:=fun x0 x1=>([(1,.loc ar .no x0),(4,.v U2 x1)]:Env)
abbrev nQ:=fun x0 x1=>([(1,.dead),(2,.v U2 x0),(3,.v U2 x1),(4,.dead)]:Env)
abbrev lX:=fun x0 x1 x2=>([(1,.loc ar .no x0),(4,.v U2 x1),(6,.v U2 x2)]:Env)
abbrev JU:=fun x0 x1=>([(1,.dead),(2,.v U2 x0),(3,.v U2 x1),(4,.dead),(6,.dead)]:Env)
abbrev u6:=fun x0 x1=>([(1,.loc ar .no x0),(2,.dead),(3,.dead),(4,.v U2 x1)]:Env)
abbrev jA:=fun x0 x1=>([(2,.v U2 x0),(3,.v U2 x1)]:Env)
abbrev JV:=fun x0 x1 x2=>([(0,.dead),(2,.loc ar (.pair .no (.pair (.own true 43 .no) .no)) x0),(3,.v U2 x1),(4,.v U2 x2)]:Env)
abbrev JW:=fun x0 x1 x2=>([(0,.dead),(2,.loc ar (.pair .no (.pair (.own true 43 .no) .no)) x0),(3,.v U2 x1),(4,.v U2 x2),(5,.dead)]:Env)
abbrev SU:=fun x0 x1 x2 x3=>([(0,.v .str x0),(2,.loc ar (.pair .no (.pair (.own true 43 .no) .no)) x1),(5,.own true 9 .str .no x2),(6,.loc ar (.pair .no (.pair (.own true 43 .no) .no)) x3)]:Env)
abbrev gX:=fun x0 x1 x2 x3 x4=>([(0,.v .str x0),(2,.loc ar (.pair .no (.pair (.own true 43 .no) .no)) x1),(5,.own true 9 .str .no x2),(6,.loc ar (.pair .no (.pair (.own true 43 .no) .no)) x3),(7,.v U2 x4)]:Env)
abbrev SV:=fun x0 x1 x2 x3 x4 x5=>([(0,.v .str x0),(2,.loc ar (.pair .no (.pair (.own true 43 .no) .no)) x1),(5,.own true 9 .str .no x2),(6,.loc ar (.pair .no (.pair (.own true 43 .no) .no)) x3),(7,.v U2 x4),(8,.v .bool x5)]:Env)
abbrev SX:=fun x0 x1 x2=>([(0,.dead),(2,.loc ar (.pair .no (.pair (.own true 43 .no) .no)) x0),(3,.v U2 x1),(4,.v U2 x2),(5,.dead),(6,.dead),(7,.dead),(9,.dead),(10,.dead)]:Env)
abbrev CL:=fun x0 x1 x2=>([(0,.dead),(2,.loc ar (.pair .no (.pair (.own true 43 .no) .no)) x0),(3,.v U2 x1),(4,.v U2 x2),(5,.dead),(6,.dead),(7,.dead)]:Env)
abbrev SY:=fun x0 x1 x2 x3 x4=>([(0,.v .str x0),(2,.loc ar (.pair .no (.pair (.own true 43 .no) .no)) x1),(3,.dead),(4,.dead),(5,.own true 9 .str .no x2),(6,.loc ar (.pair .no (.pair (.own true 43 .no) .no)) x3),(7,.v U2 x4)]:Env)
abbrev o9:=fun x0 x1 x2=>([(2,.loc ar (.pair .no (.pair (.own true 43 .no) .no)) x0),(3,.v U2 x1),(4,.v U2 x2),(6,.dead)]:Env)
abbrev u7:=fun x0 x1=>([(2,.loc ar (.pair .no (.pair (.own true 43 .no) .no)) x0),(3,.dead),(4,.dead),(6,.loc ar (.pair .no (.pair (.own true 43 .no) .no)) x1)]:Env)
abbrev JX:=fun x0 x1 x2=>([(2,.loc ar .no x0),(3,.v U2 x1),(4,.v U2 x2)]:Env)
abbrev kj:=fun x0=>([(2,.v U2 x0),(3,.dead)]:Env)
abbrev jc:=fun x0=>([(2,.dead),(3,.v U2 x0)]:Env)
abbrev pa:=fun x0=>([(3,.own true 4294967295 U0 .no x0)]:Env)
abbrev lY:=fun x0 x1 x2=>([(3,.own true 4294967295 U0 .no x0),(8,.ref 3 []),(9,.v U2 x1),(10,.v U2 x2)]:Env)
abbrev lZ:=fun x0 x1 x2=>([(9,.own true 4294967295 U0 .no x0),(10,.v U2 x1),(11,.v U2 x2)]:Env)
abbrev JY:=fun x0=>([(2,.v U2 x0),(9,.dead),(10,.dead),(11,.dead)]:Env)
abbrev JZ:=fun x0 x1=>([(0,.dead),(2,.own true 179 ei .no x0),(3,.v U2 x1)]:Env)
abbrev l6:=fun x0 x1 x2 x3=>([(5,.own true 179 ei .no x0),(15,.own true 4294967295 U0 .no x1),(16,.v U2 x2),(17,.v U2 x3)]:Env)
abbrev va:=fun x0=>([(5,.own true 179 ei .no x0)]:Env)
abbrev J0:=fun x0 x1=>([(2,.ref 5 []),(3,.v U2 x0),(5,.own true 179 ei .no x1)]:Env)
abbrev vb:=fun x0=>([(1,.dead),(2,.v .bool x0)]:Env)
abbrev vc:=fun x0 x1 x2=>([(0,.v .str x0),(1,.v mN x1),(2,.v .bool x2)]:Env)
abbrev pb:=fun x0 x1 x2 x3=>([(1,.v mN x0),(2,.v .bool x1),(10,.it x2 x3)]:Env)
abbrev J1:=fun x0=>([(1,.dead),(2,.dead),(6,.v U2 x0),(10,.dead)]:Env)
abbrev J2:=fun x0 x1 x2 x3 x4=>([(1,.v mN x0),(2,.v .bool x1),(10,.it x2 x3),(11,.cL [.v .bool x4])]:Env)
abbrev CM:=fun x0 x1=>([(0,.v .str x0),(1,.v mN x1)]:Env)
abbrev l7:=fun x0 x1 x2 x3=>([(1,.loc aE .no x0),(22,.v ba x1),(23,.v U2 x2),(24,.v U2 x3)]:Env)
abbrev J3:=fun x0=>([(1,.dead),(2,.v U2 x0),(22,.dead),(23,.dead),(24,.dead)]:Env)
abbrev l8:=fun x0 x1 x2 x3=>([(0,.v ba x0),(1,.v ba x1),(12,.v U2 x2),(13,.v U2 x3)]:Env)
abbrev rK:=fun x0=>([(0,.dead),(1,.dead),(4,.v .bool x0),(12,.dead),(13,.dead)]:Env)
abbrev pc:=fun x0 x1=>([(0,.v cS x0),(1,.v Ag x1)]:Env)
abbrev l9:=fun x0 x1 x2 x3=>([(0,.v cS x0),(1,.v Ag x1),(7,.v U2 x2),(8,.v U2 x3)]:Env)
abbrev rL:=fun x0=>([(0,.dead),(1,.dead),(4,.v U2 x0),(7,.dead),(8,.dead)]:Env)
abbrev ma:=fun x0 x1 x2 x3=>([(1,.loc ar .no x0),(24,.v cS x1),(25,.v U2 x2),(26,.v U2 x3)]:Env)
abbrev J4:=fun x0 x1=>([(1,.dead),(2,.v U2 x0),(3,.v U2 x1),(24,.dead),(25,.dead),(26,.dead)]:Env)
abbrev pd:=fun x0 x1=>([(0,.v U4 x0),(1,.v Ae x1)]:Env)
abbrev mb:=fun x0 x1 x2 x3=>([(0,.v U4 x0),(1,.v Ae x1),(7,.v U2 x2),(8,.v U2 x3)]:Env)
abbrev J5:=fun x0=>([(0,.dead),(1,.dead),(4,.v .str x0)]:Env)
abbrev pe:=fun x0 x1 x2=>([(0,.v U1 x0),(1,.v .str x1),(5,.v U2 x2)]:Env)
abbrev mc:=fun x0 x1 x2 x3 x4 x5=>([(0,.v U1 x0),(1,.v .str x1),(5,.v U2 x2),(39,.v U1 x3),(40,.v U2 x4),(41,.v U2 x5)]:Env)
abbrev me:=fun x0 x1 x2 x3=>([(0,.v U1 x0),(7,.v U1 x1),(8,.v U2 x2),(9,.v U2 x3)]:Env)
abbrev J6:=fun x0 x1=>([(0,.dead),(2,.v .str x0),(3,.v U2 x1),(7,.dead),(8,.dead),(9,.dead)]:Env)
abbrev rM:=fun x0 x1=>([(0,.dead),(2,.v .str x0),(3,.v U2 x1)]:Env)
abbrev uQ:=fun x0=>([(0,.v U1 x0),(2,.dead),(3,.dead)]:Env)
abbrev Jr:=fun x0 x1=>([(2,.v .str x0),(3,.v U2 x1),(6,.dead)]:Env)
abbrev kP:=fun x0 x1=>([(0,.v ar x0),(1,.v .str x1)]:Env)
abbrev CG:=fun x0=>([(1,.dead),(4,.v U2 x0)]:Env)
abbrev SC:=fun x0=>([(0,.dead),(1,.dead),(4,.own true 40 aC .no x0)]:Env)
abbrev uR:=fun x0 x1 x2 x3=>([(0,.v ar x0),(1,.v U2 x1),(2,.v ba x2),(3,.v ba x3)]:Env)
abbrev uS:=fun x0=>([(1,.dead),(2,.dead),(3,.dead),(4,.dead),(8,.v .bool x0)]:Env)
abbrev SD:=fun x0 x1 x2 x3=>([(1,.v U2 x0),(2,.v ba x1),(3,.v ba x2),(4,.loc ar .no x3),(8,.dead)]:Env)
abbrev CH:=fun x0 x1=>([(0,.v .str x0),(1,.v .str x1)]:Env)
abbrev lp:=fun x0 x1 x2 x3 x4 x5=>([(0,.at bG x0),(3,.loc a6 .no x1),(5,.own true 73 a6 .no x2),(12,.v cS x3),(13,.v U2 x4),(14,.v U2 x5)]:Env)
abbrev uT:=fun x0=>([(5,.own true 73 a6 .no x0)]:Env)
abbrev Jt:=fun x0=>([(4,.ref 5 []),(5,.own true 73 a6 .no x0)]:Env)
abbrev rB:=fun x0 x1=>([(0,.loc bG (.pair .no (.pair .no (.pair .mp .no))) x0),(1,.v a6 x1)]:Env)
abbrev Ju:=fun x0 x1=>([(0,.loc bG (.pair .no (.pair .no (.pair .mp .no))) x0),(3,.dead),(4,.v U2 x1)]:Env)
abbrev o4:=fun x0 x1 x2=>([(0,.loc bG (.pair .no (.pair .no (.pair .mp .no))) x0),(3,.loc a6 .no x1),(7,.v U2 x2)]:Env)
abbrev lq:=fun x0 x1 x2 x3 x4 x5=>([(0,.loc bG (.pair .no (.pair .no (.pair .mp .no))) x0),(3,.loc a6 .no x1),(7,.v U2 x2),(47,.own true 73 a6 .no x3),(48,.v U2 x4),(49,.v U2 x5)]:Env)
abbrev Jv:=fun x0 x1=>([(0,.loc bG (.pair .no (.pair .no (.pair .mp .no))) x0),(4,.v U2 x1)]:Env)
abbrev Jx:=fun x0 x1=>([(0,.loc bG (.pair .no (.pair .no (.pair .mp .no))) x0),(3,.dead),(4,.own true 27 U5 .no x1)]:Env)
abbrev SE:=fun x0 x1 x2=>([(0,.loc bG (.pair .no (.pair .no (.pair .mp .no))) x0),(3,.loc a6 .no x1),(5,.own true 27 U5 .no x2)]:Env)
abbrev fN:=fun x0 x1 x2 x3 x4=>([(0,.loc bG (.pair .no (.pair .no (.pair .mp .no))) x0),(5,.own true 27 U5 .no x1),(21,.own true 73 a6 .no x2),(22,.v U2 x3),(23,.v U2 x4)]:Env)
abbrev SF:=fun x0 x1 x2 x3 x4 x5=>([(0,.loc bG (.pair .no (.pair .no (.pair .mp .no))) x0),(5,.own true 27 U5 .no x1),(7,.loc a6 .no x2),(21,.own true 73 a6 .no x3),(22,.v U2 x4),(23,.v U2 x5)]:Env)
abbrev lr:=fun x0 x1 x2 x3 x4 x5 x6 x7 x8=>([(0,.loc bG (.pair .no (.pair .no (.pair .mp .no))) x0),(5,.own true 27 U5 .no x1),(7,.loc a6 .no x2),(21,.own true 73 a6 .no x3),(22,.v U2 x4),(23,.v U2 x5),(33,.own true 27 U5 .no x6),(34,.v U2 x7),(35,.v U2 x8)]:Env)
abbrev uU:=fun x0 x1=>([(0,.loc bG (.pair .no (.pair .no (.pair .mp .no))) x0),(5,.own true 27 U5 .no x1)]:Env)
abbrev Jy:=fun x0 x1=>([(0,.loc bG (.pair .no (.pair .no (.pair .mp .no))) x0),(4,.ref 5 []),(5,.own true 27 U5 .no x1)]:Env)
abbrev gd:=fun x0 x1=>([(0,.v ar x0),(1,.v U5 x1)]:Env)
abbrev jw:=fun x0 x1 x2=>([(1,.v U5 x0),(2,.loc ar .no x1),(5,.v U2 x2)]:Env)
abbrev lu:=fun x0 x1 x2 x3 x4=>([(2,.loc ar .no x0),(5,.v U2 x1),(8,.v U5 x2),(9,.v U2 x3),(10,.v U2 x4)]:Env)
abbrev kQ:=fun x0 x1=>([(0,.v U5 x0),(1,.v U5 x1)]:Env)
abbrev lv:=fun x0 x1 x2 x3 x4=>([(0,.v U5 x0),(1,.v U5 x1),(9,.v U5 x2),(10,.v U2 x3),(11,.v U2 x4)]:Env)
abbrev Jz:=fun x0=>([(0,.dead),(1,.dead),(4,.v U2 x0),(9,.dead),(10,.dead),(11,.dead)]:Env)
abbrev mY:=fun x0 x1=>([(0,.v U5 x0),(1,.v U5 x1),(4,.dead)]:Env)
abbrev ly:=fun x0 x1 x2 x3=>([(3,.v U2 x0),(6,.v U5 x1),(7,.v U2 x2),(8,.v U2 x3)]:Env)
abbrev JA:=fun x0=>([(2,.v U2 x0),(3,.dead),(6,.dead),(7,.dead),(8,.dead)]:Env)
abbrev SG:=fun x0 x1=>([(1,.dead),(2,.dead),(4,.own true 27 U5 .no x0),(5,.v U2 x1)]:Env)
abbrev SH:=fun x0 x1=>([(2,.dead),(4,.own true 27 U5 .no x0),(5,.v U2 x1),(7,.dead),(8,.dead),(21,.dead)]:Env)
abbrev SI:=fun x0 x1=>([(4,.ref 10 []),(5,.v U2 x0),(10,.own true 27 U5 .no x1)]:Env)
abbrev SJ:=fun x0 x1 x2=>([(2,.dead),(4,.own true 3 U2 .no x0),(5,.v U2 x1),(6,.v U2 x2),(7,.dead)]:Env)
abbrev lz:=fun x0 x1 x2 x3 x4=>([(2,.loc ar .no x0),(6,.sb 123 5 x1),(9,.v U5 x2),(10,.v U2 x3),(11,.v U2 x4)]:Env)
abbrev JB:=fun x0 x1=>([(2,.dead),(4,.v .str x0),(5,.v .bool x1),(6,.dead),(9,.dead),(10,.dead),(11,.dead)]:Env)
abbrev rC:=fun x0 x1=>([(4,.v .str x0),(5,.v .bool x1),(6,.dead)]:Env)
abbrev uV:=fun x0=>([(4,.dead),(5,.dead),(6,.sb 123 5 x0)]:Env)
abbrev JD:=fun x0 x1=>([(1,.dead),(2,.dead),(4,.own true 3 U2 .no x0),(5,.v U2 x1)]:Env)
abbrev SK:=fun x0 x1 x2 x3=>([(1,.v U5 x0),(2,.loc ar .no x1),(7,.own true 3 U2 .no x2),(8,.v U2 x3)]:Env)
abbrev gV:=fun x0 x1 x2 x3 x4 x5=>([(2,.loc ar .no x0),(7,.own true 3 U2 .no x1),(8,.v U2 x2),(17,.v U5 x3),(18,.v U2 x4),(19,.v U2 x5)]:Env)
abbrev o6:=fun x0 x1 x2 x3 x4 x5 x6=>([(2,.loc ar .no x0),(7,.own true 3 U2 .no x1),(8,.v U2 x2),(10,.v U2 x3),(17,.v U5 x4),(18,.v U2 x5),(19,.v U2 x6)]:Env)
abbrev lA:=fun x0 x1 x2 x3 x4 x5 x6 x7 x8=>([(2,.loc ar .no x0),(7,.own true 3 U2 .no x1),(8,.v U2 x2),(10,.v U2 x3),(17,.v U5 x4),(18,.v U2 x5),(19,.v U2 x6),(29,.v U2 x7),(30,.v U2 x8)]:Env)
abbrev uW:=fun x0=>([(7,.own true 3 U2 .no x0)]:Env)
abbrev JE:=fun x0 x1=>([(4,.ref 7 []),(5,.v U2 x0),(7,.own true 3 U2 .no x1)]:Env)
abbrev JF:=fun x0 x1=>([(1,.dead),(2,.dead),(4,.v U2 x0),(5,.v U2 x1)]:Env)
abbrev SL:=fun x0 x1 x2 x3=>([(1,.v .str x0),(2,.loc ar .no x1),(7,.own true 4 .bool .no x2),(8,.v U2 x3)]:Env)
abbrev fO:=fun x0 x1 x2 x3 x4 x5=>([(1,.v .str x0),(2,.loc ar .no x1),(7,.own true 4 .bool .no x2),(8,.v U2 x3),(25,.ref 7 []),(26,.v U2 x4),(27,.v U2 x5)]:Env)
abbrev SM:=fun x0 x1 x2 x3 x4 x5 x6=>([(1,.v .str x0),(2,.loc ar .no x1),(7,.own true 4 .bool .no x2),(8,.v U2 x3),(9,.v U2 x4),(25,.ref 7 []),(26,.v U2 x5),(27,.v U2 x6)]:Env)
abbrev lB:=fun x0 x1 x2 x3 x4 x5 x6 x7 x8 x9=>([(1,.v .str x0),(2,.loc ar .no x1),(7,.own true 4 .bool .no x2),(8,.v U2 x3),(9,.v U2 x4),(25,.ref 7 []),(26,.v U2 x5),(27,.v U2 x6),(36,.v cS x7),(37,.v U2 x8),(38,.v U2 x9)]:Env)
abbrev lC:=fun x0 x1 x2=>([(0,.v U5 x0),(1,.v U5 x1),(5,.v U2 x2)]:Env)
abbrev lD:=fun x0 x1 x2=>([(0,.v U7 x0),(1,.v U7 x1),(5,.v U2 x2)]:Env)
abbrev lF:=fun x0 x1 x2 x3=>([(0,.v U5 x0),(1,.v U5 x1),(12,.v U2 x2),(13,.v U2 x3)]:Env)
abbrev SN:=fun x0=>([(0,.v .bool x0),(2,.dead),(4,.dead),(6,.dead),(9,.dead)]:Env)
abbrev lG:=fun x0 x1=>([(0,.v ba x0),(5,.v U2 x1)]:Env)
abbrev JH:=fun x0=>([(0,.dead),(4,.v .bool x0),(5,.dead)]:Env)
abbrev lH:=fun x0 x1 x2=>([(1,.loc ar .no x0),(3,.v U2 x1),(4,.v U2 x2)]:Env)
abbrev JI:=fun x0=>([(1,.dead),(2,.v .bool x0),(3,.dead),(4,.dead)]:Env)
abbrev rD:=fun x0=>([(2,.v .bool x0),(3,.dead)]:Env)
abbrev lJ:=fun x0 x1 x2=>([(0,.v ar x0),(1,.v .str x1),(2,.v U5 x2)]:Env)
abbrev rE:=fun x0 x1=>([(1,.dead),(2,.dead),(3,.dead),(6,.v U2 x0),(7,.v U2 x1)]:Env)
abbrev jx:=fun x0 x1=>([(2,.dead),(3,.dead),(6,.v U2 x0),(7,.v U2 x1)]:Env)
abbrev jy:=fun x0 x1=>([(2,.v U5 x0),(3,.loc ar .no x1),(6,.dead),(7,.dead)]:Env)
abbrev lK:=fun x0 x1 x2 x3 x4=>([(2,.v U5 x0),(3,.loc ar .no x1),(34,.v U5 x2),(35,.v U2 x3),(36,.v U2 x4)]:Env)
abbrev JJ:=fun x0 x1=>([(2,.dead),(3,.dead),(6,.v U2 x0),(7,.v U2 x1),(34,.dead),(35,.dead),(36,.dead)]:Env)
abbrev rF:=fun x0 x1=>([(6,.v U2 x0),(7,.v U2 x1)]:Env)
abbrev lL:=fun x0 x1 x2=>([(0,.v .str x0),(3,.own true 5 U0 .no x1),(4,.v U2 x2)]:Env)
abbrev uX:=fun x0=>([(3,.own true 5 U0 .no x0)]:Env)
abbrev JL:=fun x0=>([(1,.dead),(2,.dead),(4,.v U2 x0),(5,.dead)]:Env)
abbrev lM:=fun x0 x1 x2 x3=>([(1,.v U5 x0),(2,.loc ar .no x1),(5,.v .str x2),(6,.v U2 x3)]:Env)
abbrev SO:=fun x0=>([(1,.dead),(2,.dead),(3,.dead),(6,.own true 40 aC .no x0)]:Env)
abbrev lN:=fun x0 x1 x2 x3=>([(1,.v U5 x0),(2,.loc ar .no x1),(5,.v U2 x2),(6,.v U2 x3)]:Env)
abbrev lO:=fun x0 x1 x2=>([(2,.v U5 x0),(3,.loc ar .no x1),(10,.v U2 x2)]:Env)
abbrev JM:=fun x0 x1=>([(2,.dead),(3,.dead),(6,.v U2 x0),(7,.v U2 x1),(10,.dead)]:Env)
abbrev uY:=fun x0 x1=>([(0,.v U7 x0),(1,.v U5 x1)]:Env)
abbrev lP:=fun x0 x1 x2=>([(0,.v U7 x0),(1,.v U5 x1),(5,.v U2 x2)]:Env)
abbrev SP:=fun x0=>([(1,.dead),(2,.dead),(3,.dead),(6,.v .bool x0)]:Env)
abbrev SQ:=fun x0=>([(1,.dead),(2,.dead),(3,.dead),(6,.v .bool x0),(7,.dead),(8,.dead)]:Env)
abbrev SR:=fun x0=>([(1,.dead),(2,.dead),(3,.dead),(6,.v .bool x0),(7,.dead),(8,.dead),(11,.dead)]:Env)
variable {N:Nat} {cl:aA} {R:Type} {K:KE R}
def UF (k0:V3→aF→Int→Option R) (x0:V3):Option R:=
k0 x0 [] (0:Int)
theorem atJ (x0):exec cl N B0 [(0,.v .str x0)] K=(UF (fun y0 y1 y2=>exec cl N BZ (e0 y0 y1 y2) K) x0):=by
 delta B0
 generalize BZ=q
 revert q
 refine id ?_
 intro q
 kernel_rfl
def UB (k0:V3→aF→Int→Int→Option R) (x0:V3) (x1:aF) (x2:Int):Option R:=
k0 x0 x1 x2 (0:Int)
theorem atF (x0 x1 x2):exec cl N RL (e0 x0 x1 x2) K=(UB (fun y0 y1 y2 y3=>K .normal (e1 y0 y1 y2 y3)) x0 x1 x2):=by
 kernel_rfl
theorem Ww (x0 x1 x2 x3):aj [0,3,4,5] (e1 x0 x1 x2 x3)=(e1 x0 x1 x2 x3):=by kernel_rfl
def UC (k0:V3→aF→Int→Int→Option R) (k1:V3→aF→Int→Int→Option R) (x0:V3) (x1:aF) (x2 x3:Int):Option R:=
ad (decide (x3≤(x0.length:Int))) (ad (x3==(x0.length:Int)) (ad (x2==x3) (k0 x0 x1 x2 x3) (ad (x3==(x0.length:Int)) (if 0≤x2∧x2≤x3∧x3≤(x0.length:Int) then
let v27:V3:=((x0.drop x2.toNat).take (x3.toNat - x2.toNat))
if x1.length+[v27].length≤8796093022208 then
k1 x0 (x1++[v27]) (IntKind.i64.wrap (x3+(1:Int))) (IntKind.i64.wrap (x3+(1:Int)))
else none
else none) (if 0≤x3∧x3 < (x0.length:Int) then
ad (((x0.getD x3.toNat 0).toNat:Int)==(10:Int)) (if 0≤x2∧x2≤x3∧x3≤(x0.length:Int) then
let v32:V3:=((x0.drop x2.toNat).take (x3.toNat - x2.toNat))
if x1.length+[v32].length≤8796093022208 then
k1 x0 (x1++[v32]) (IntKind.i64.wrap (x3+(1:Int))) (IntKind.i64.wrap (x3+(1:Int)))
else none
else none) (k1 x0 x1 x2 (IntKind.i64.wrap (x3+(1:Int))))
else none))) (ad (x3==(x0.length:Int)) (if 0≤x2∧x2≤x3∧x3≤(x0.length:Int) then
let v37:V3:=((x0.drop x2.toNat).take (x3.toNat - x2.toNat))
if x1.length+[v37].length≤8796093022208 then
k1 x0 (x1++[v37]) (IntKind.i64.wrap (x3+(1:Int))) (IntKind.i64.wrap (x3+(1:Int)))
else none
else none) (if 0≤x3∧x3 < (x0.length:Int) then
ad (((x0.getD x3.toNat 0).toNat:Int)==(10:Int)) (if 0≤x2∧x2≤x3∧x3≤(x0.length:Int) then
let v42:V3:=((x0.drop x2.toNat).take (x3.toNat - x2.toNat))
if x1.length+[v42].length≤8796093022208 then
k1 x0 (x1++[v42]) (IntKind.i64.wrap (x3+(1:Int))) (IntKind.i64.wrap (x3+(1:Int)))
else none
else none) (k1 x0 x1 x2 (IntKind.i64.wrap (x3+(1:Int))))
else none))) (k0 x0 x1 x2 x3)
theorem atG (x0 x1 x2 x3):exec cl N Im (e1 x0 x1 x2 x3) K=(UC (fun y0 y1 y2 y3=>K (.exit 0) (e1 y0 y1 y2 y3)) (fun y0 y1 y2 y3=>K .normal (e1 y0 y1 y2 y3)) x0 x1 x2 x3):=by
 kernel_rfl
def LZ {R:Type} (k0:V3→aF→Int→Int→Option R):Nat→V3→aF→Int→Int→Option R
 | 0,_,_,_,_=>none
 | m+1,x0,x1,x2,x3=>(UC k0 (LZ k0 m) x0 x1 x2 x3)
theorem ahj:∀ (m) (x0 x1 x2 x3),iter [0,3,4,5] (fun env K=>exec cl N Im env K) K m (e1 x0 x1 x2 x3)=LZ (fun y0 y1 y2 y3=>K (.exit 0) (e1 y0 y1 y2 y3)) m x0 x1 x2 x3:=by
 intro m
 induction m with
 | zero=>intros; rfl
 | succ m ih=>
   intro x0 x1 x2 x3
   simp only [bX,atG,bZ,bY,b5,Ww,ih]
   rfl
theorem afh (x0 x1 x2 x3):aj [3] (e1 x0 x1 x2 x3)=(e2 x1):=by kernel_rfl
def UD (N:Nat) (k0:aF→Option R) (x0:V3) (x1:aF) (x2 x3:Int):Option R:=
LZ (fun y0 y1 y2 y3=>k0 y1) N x0 x1 x2 x3
theorem atH (x0 x1 x2 x3):exec cl N Io (e1 x0 x1 x2 x3) K=(UD N (fun y0=>K (.exit 0) (e2 y0)) x0 x1 x2 x3):=by
 simp only [Io,aT,bW,Ww,ahj,afh]
 rfl
theorem afi (x0):aj [3] (e2 x0)=(e2 x0):=by kernel_rfl
def UE (k0:aF→Option R) (x0:aF):Option R:=
k0 x0
theorem atI (x0):exec cl N RO (e2 x0) K=(UE (fun y0=>K .ret (e3 y0)) x0):=by
 kernel_rfl
def UG (N:Nat) (k0:aF→Option R) (x0:V3):Option R:=
(UF (UB (UD N ((UE k0)))) x0)
theorem atK (x0):exec cl N B0 [(0,.v .str x0)] K=(UG N (fun y0=>K .ret (e3 y0)) x0):=by
 simp only [bQ,bT,bS,bU,atJ,BZ,RN,atF,RM,aT,ca,atH,b8,b9,b7,afi,atI]
 rfl
theorem amb (y0):ag d92 .ret (e3 y0)=some [.own true 9 .str .no y0]:=by kernel_rfl
def Ld (N:Nat) (x0:V3) (k:aF→Option R):Option R:=
(UG N k x0)
theorem aaG (x0) (k:List E→Option R):exec cl N Il [(0,.v .str x0)] (fun e env=>(ag d92 e env).bind k)=Ld N x0 (fun r0=>k [.own true 9 .str .no r0]):=by
 simp only [Il,atK,amb,aq]
 rfl
def Cz (S:V3→Option fL):aN:=cC 92 .str S fun b=> [.own true 9 .str .no b]
def fZ (N:Nat) (x0:V3):Option fL:=Ld N x0 (fun (r0:aF)=>some (r0))
def UL (k0:V3→aF→Int→Option R) (x0:V3):Option R:=
k0 x0 [] (0:Int)
theorem atP (x0):exec cl N B4 [(0,.v .str x0)] K=(UL (fun y0 y1 y2=>exec cl N B3 (e0 y0 y1 y2) K) x0):=by
 delta B4
 generalize B3=q
 revert q
 refine id ?_
 intro q
 kernel_rfl
def UH (k0:V3→aF→Int→Int→Option R) (x0:V3) (x1:aF) (x2:Int):Option R:=
k0 x0 x1 x2 (0:Int)
theorem atL (x0 x1 x2):exec cl N RP (e0 x0 x1 x2) K=(UH (fun y0 y1 y2 y3=>K .normal (e1 y0 y1 y2 y3)) x0 x1 x2):=by
 kernel_rfl
theorem Wx (x0 x1 x2 x3):aj [0,3,4,5] (e1 x0 x1 x2 x3)=(e1 x0 x1 x2 x3):=by kernel_rfl
def UI (k0:aF→Option R) (k1:V3→aF→Int→Int→Option R) (k2:V3→aF→Int→Int→Option R) (x0:V3) (x1:aF) (x2 x3:Int):Option R:=
ad (decide (x3≤(x0.length:Int))) (ad (x3==(x0.length:Int)) (ad (x3==x2) (k0 []) (if 0≤x2∧x2≤x3∧x3≤(x0.length:Int) then
let v67:V3:=((x0.drop x2.toNat).take (x3.toNat - x2.toNat))
if x1.length+[v67].length≤8796093022208 then
k1 x0 (x1++[v67]) (IntKind.i64.wrap (x3+(1:Int))) (IntKind.i64.wrap (x3+(1:Int)))
else none
else none)) (if 0≤x3∧x3 < (x0.length:Int) then
ad (((x0.getD x3.toNat 0).toNat:Int)==(32:Int)) (ad (x3==x2) (k0 []) (if 0≤x2∧x2≤x3∧x3≤(x0.length:Int) then
let v72:V3:=((x0.drop x2.toNat).take (x3.toNat - x2.toNat))
if x1.length+[v72].length≤8796093022208 then
k1 x0 (x1++[v72]) (IntKind.i64.wrap (x3+(1:Int))) (IntKind.i64.wrap (x3+(1:Int)))
else none
else none)) (k1 x0 x1 x2 (IntKind.i64.wrap (x3+(1:Int))))
else none)) (k2 x0 x1 x2 x3)
theorem atM (x0 x1 x2 x3):exec cl N Iq (e1 x0 x1 x2 x3) K=(UI (fun y0=>K .ret (e4 y0)) (fun y0 y1 y2 y3=>K .normal (e1 y0 y1 y2 y3)) (fun y0 y1 y2 y3=>K (.exit 0) (e1 y0 y1 y2 y3)) x0 x1 x2 x3):=by
 kernel_rfl
def L0 {R:Type} (k0:aF→Option R) (k1:V3→aF→Int→Int→Option R):Nat→V3→aF→Int→Int→Option R
 | 0,_,_,_,_=>none
 | m+1,x0,x1,x2,x3=>(UI k0 (L0 k0 k1 m) k1 x0 x1 x2 x3)
theorem ahk:∀ (m) (x0 x1 x2 x3),iter [0,3,4,5] (fun env K=>exec cl N Iq env K) K m (e1 x0 x1 x2 x3)=L0 (fun y0=>K .ret (e4 y0)) (fun y0 y1 y2 y3=>K (.exit 0) (e1 y0 y1 y2 y3)) m x0 x1 x2 x3:=by
 intro m
 induction m with
 | zero=>intros; rfl
 | succ m ih=>
   intro x0 x1 x2 x3
   simp only [bX,atM,bZ,bY,b5,Wx,ih]
   rfl
theorem afj (x0):aj [2,3] (e4 x0)=(e5 x0):=by kernel_rfl
theorem afk (x0 x1 x2 x3):aj [2,3] (e1 x0 x1 x2 x3)=(e6 x1):=by kernel_rfl
def UJ (N:Nat) (k0:aF→Option R) (k1:aF→Option R) (x0:V3) (x1:aF) (x2 x3:Int):Option R:=
L0 k0 (fun y0 y1 y2 y3=>k1 y1) N x0 x1 x2 x3
theorem atN (x0 x1 x2 x3):exec cl N Ir (e1 x0 x1 x2 x3) K=(UJ N (fun y0=>K .ret (e5 y0)) (fun y0=>K (.exit 0) (e6 y0)) x0 x1 x2 x3):=by
 simp only [Ir,aT,bW,Wx,ahk,afj,afk]
 rfl
theorem afl (x0):aj [2,3] (e5 x0)=(e5 x0):=by kernel_rfl
theorem afm (x0):aj [2,3] (e6 x0)=(e6 x0):=by kernel_rfl
def UK (k0:aF→Option R) (x0:aF):Option R:=
k0 x0
theorem atO (x0):exec cl N RS (e6 x0) K=(UK (fun y0=>K .ret (e3 y0)) x0):=by
 kernel_rfl
def UM (N:Nat) (k0:aF→Option R) (k1:aF→Option R) (x0:V3):Option R:=
(UL (UH (UJ N k0 ((UK k1)))) x0)
theorem atQ (x0):exec cl N B4 [(0,.v .str x0)] K=(UM N (fun y0=>K .ret (e5 y0)) (fun y0=>K .ret (e3 y0)) x0):=by
 simp only [bQ,bT,bS,bU,atP,B3,RR,atL,RQ,aT,ca,atN,b8,b9,b7,afl,afm,atO]
 rfl
theorem amc (y0):ag d93 .ret (e5 y0)=some [.own true 9 .str .no y0]:=by kernel_rfl
theorem amd (y0):ag d93 .ret (e3 y0)=some [.own true 9 .str .no y0]:=by kernel_rfl
def Le (N:Nat) (x0:V3) (k:aF→Option R):Option R:=
(UM N k k x0)
theorem aaH (x0) (k:List E→Option R):exec cl N Ip [(0,.v .str x0)] (fun e env=>(ag d93 e env).bind k)=Le N x0 (fun r0=>k [.own true 9 .str .no r0]):=by
 simp only [Ip,atQ,amc,amd,aq]
 rfl
def ll (S:V3→Option fL):aN:=cC 93 .str S fun b=> [.own true 9 .str .no b]
def bP (N:Nat) (x0:V3):Option fL:=Le N x0 (fun (r0:aF)=>some (r0))
def TM (k0:V3→aF→Option R) (x0:V3):Option R:=
k0 x0 [([]:List UInt8)]
theorem ao8 (x0):exec cl N AV [(0,.v .str x0)] K=(TM (fun y0 y1=>exec cl N AU [(0,.v .str y0),(3,.own true 9 .str .no y1)] K) x0):=by
 delta AV
 generalize AU=q
 revert q
 refine id ?_
 intro q
 kernel_rfl
def TI (k0:V3→aF→Int→Option R) (x0:V3) (x1:aF):Option R:=
k0 x0 x1 (0:Int)
theorem ao4 (x0 x1):exec cl N Og [(0,.v .str x0),(3,.own true 9 .str .no x1)] K=(TI (fun y0 y1 y2=>K .normal (e0 y0 y1 y2)) x0 x1):=by
 kernel_rfl
theorem VO (x0 x1 x2):aj [0,3,4] (e0 x0 x1 x2)=(e0 x0 x1 x2):=by kernel_rfl
def TJ (k0:V3→aF→Int→Option R) (k1:V3→aF→Int→Option R) (x0:V3) (x1:aF) (x2:Int):Option R:=
ad (decide (x2 < (x0.length:Int))) (if 0≤x2∧x2 < (x0.length:Int) then
ad (((x0.getD x2.toNat 0).toNat:Int)==(32:Int)) (if x1.length+[([]:List UInt8)].length≤8796093022208 then
k0 x0 (x1++[([]:List UInt8)]) (IntKind.i64.wrap (x2+(1:Int)))
else none) (let v102:Int:=(IntKind.i64.wrap ((x1.length:Int) - (1:Int)))
let v103:Int:=(IntKind.i64.wrap ((x1.length:Int) - (1:Int)))
if 0≤v103∧v103 < (x1.length:Int) then
if v103.toNat < x1.length then
let v105:Int:=(IntKind.i64.wrap (x2+(1:Int)))
if 0≤x2∧x2≤v105∧v105≤(x0.length:Int) then
let v106:V3:=((x0.drop x2.toNat).take (v105.toNat - x2.toNat))
if (x1.getD v103.toNat []).length+v106.length≤140737488355328 then
if 0≤v102∧v102 < (x1.length:Int) then
if v102.toNat < x1.length then
k0 x0 (x1.set v102.toNat ((x1.getD v103.toNat [])++v106)) (IntKind.i64.wrap (x2+(1:Int)))
else none
else none
else none
else none
else none
else none)
else none) (k1 x0 x1 x2)
theorem ao5 (x0 x1 x2):exec cl N FE (e0 x0 x1 x2) K=(TJ (fun y0 y1 y2=>K .normal (e0 y0 y1 y2)) (fun y0 y1 y2=>K (.exit 0) (e0 y0 y1 y2)) x0 x1 x2):=by
 kernel_rfl
def LQ {R:Type} (k0:V3→aF→Int→Option R):Nat→V3→aF→Int→Option R
 | 0,_,_,_=>none
 | m+1,x0,x1,x2=>(TJ (LQ k0 m) k0 x0 x1 x2)
theorem agE:∀ (m) (x0 x1 x2),iter [0,3,4] (fun env K=>exec cl N FE env K) K m (e0 x0 x1 x2)=LQ (fun y0 y1 y2=>K (.exit 0) (e0 y0 y1 y2)) m x0 x1 x2:=by
 intro m
 induction m with
 | zero=>intros; rfl
 | succ m ih=>
   intro x0 x1 x2
   simp only [bX,ao5,bZ,bY,b5,VO,ih]
   rfl
theorem ac9 (x0 x1 x2):aj [3] (e0 x0 x1 x2)=(e2 x1):=by kernel_rfl
def TK (N:Nat) (k0:aF→Option R) (x0:V3) (x1:aF) (x2:Int):Option R:=
LQ (fun y0 y1 y2=>k0 y1) N x0 x1 x2
theorem ao6 (x0 x1 x2):exec cl N FF (e0 x0 x1 x2) K=(TK N (fun y0=>K (.exit 0) (e2 y0)) x0 x1 x2):=by
 simp only [FF,aT,bW,VO,agE,ac9]
 rfl
theorem ada (x0):aj [3] (e2 x0)=(e2 x0):=by kernel_rfl
def TL (k0:aF→Option R) (x0:aF):Option R:=
k0 x0
theorem ao7 (x0):exec cl N Oj (e2 x0) K=(TL (fun y0=>K .ret (e3 y0)) x0):=by
 kernel_rfl
def TN (N:Nat) (k0:aF→Option R) (x0:V3):Option R:=
(TM (TI (TK N ((TL k0)))) x0)
theorem ao9 (x0):exec cl N AV [(0,.v .str x0)] K=(TN N (fun y0=>K .ret (e3 y0)) x0):=by
 simp only [bQ,bT,bS,bU,ao8,AU,Oi,ao4,Oh,aT,ca,ao6,b8,b9,b7,ada,ao7]
 rfl
theorem aj9 (y0):ag d138 .ret (e3 y0)=some [.own true 9 .str .no y0]:=by kernel_rfl
def Kv (N:Nat) (x0:V3) (k:aF→Option R):Option R:=
(TN N k x0)
theorem ZG (x0) (k:List E→Option R):exec cl N FC [(0,.v .str x0)] (fun e env=>(ag d138 e env).bind k)=Kv N x0 (fun r0=>k [.own true 9 .str .no r0]):=by
 simp only [FC,ao9,aj9,aq]
 rfl
def Co (S:V3→Option fL):aN:=cC 138 .str S fun b=> [.own true 9 .str .no b]
def fX (N:Nat) (x0:V3):Option fL:=Kv N x0 (fun (r0:aF)=>some (r0))
def T7 (k0:V3→Option R):Option R:=
k0 ([32,118,100,109,108,110,115,120,103,98]:List UInt8)
theorem apD:exec cl N OH [] K=(T7 (fun y0=>K .ret [(0,.v .str y0)])):=by
 kernel_rfl
theorem akm (y0):ag d148 .ret [(0,.v .str y0)]=some [.v .str y0]:=by kernel_rfl
def KB (k:V3→Option R):Option R:=
(T7 k)
theorem ZN (k:List E→Option R):exec cl N FZ [] (fun e env=>(ag d148 e env).bind k)=KB (fun r0=>k [.v .str r0]):=by
 simp only [FZ,apD,akm,aq]
 rfl
def oT (S:Option V6):aN:={A:=Unit,B:=V3,f:=148,enc:=fun a=> [],dec:=cz,S:=fun a=>S,aw:=fun b=> [.v .str b],ok:=(fun es b h=>jv h)}
def dH (N:Nat):Option V6:=KB (fun (r0:V3)=>some (r0))
def Ki (k0:Bool→Option R) (x0:aQ):Option R:=
ad (x0.1==(1:Int)) (k0 true) (k0 (x0.1==(2:Int)))
theorem an7 (x0):exec cl N Nx [(0,.v aC x0)] K=(Ki (fun y0=>K .ret [(2,.v .bool y0)]) x0):=by
 kernel_rfl
theorem ajH (y0):ag d114 .ret [(2,.v .bool y0)]=some [.v .bool y0]:=by kernel_rfl
def CU (x0:aQ) (k:Bool→Option R):Option R:=
(Ki k x0)
theorem Zn (x0) (k:List E→Option R):exec cl N EX [(0,.v aC x0)] (fun e env=>(ag d114 e env).bind k)=CU x0 (fun r0=>k [.v .bool r0]):=by
 simp only [EX,an7,ajH,aq]
 rfl
def nM (S:aQ→Option (Bool)):aN:=cC 114 aC S fun b=> [.v .bool b]
def cB (N:Nat) (x0:aQ):Option (Bool):=CU x0 (fun (r0:Bool)=>some (r0))
def Ku (k0:Bool→Option R) (x0:Int):Option R:=
ad (decide (x0≥(97:Int))) (ad (decide (x0≤(122:Int))) (k0 true) (ad (decide (x0≥(48:Int))) (ad (decide (x0≤(57:Int))) (k0 true) (ad (x0==(95:Int)) (k0 true) (ad (x0==(94:Int)) (k0 true) (k0 (x0==(39:Int)))))) (ad (x0==(95:Int)) (k0 true) (ad (x0==(94:Int)) (k0 true) (k0 (x0==(39:Int))))))) (ad (decide (x0≥(48:Int))) (ad (decide (x0≤(57:Int))) (k0 true) (ad (x0==(95:Int)) (k0 true) (ad (x0==(94:Int)) (k0 true) (k0 (x0==(39:Int)))))) (ad (x0==(95:Int)) (k0 true) (ad (x0==(94:Int)) (k0 true) (k0 (x0==(39:Int))))))
theorem ao3 (x0):exec cl N Of [(0,.v U0 x0)] K=(Ku (fun y0=>K .ret [(2,.v .bool y0)]) x0):=by
 kernel_rfl
theorem aj8 (y0):ag d137 .ret [(2,.v .bool y0)]=some [.v .bool y0]:=by kernel_rfl
def C0 (x0:Int) (k:Bool→Option R):Option R:=
(Ku k x0)
theorem ZF (x0) (k:List E→Option R):exec cl N FB [(0,.v U0 x0)] (fun e env=>(ag d137 e env).bind k)=C0 x0 (fun r0=>k [.v .bool r0]):=by
 simp only [FB,ao3,aj8,aq]
 rfl
def rb (S:Int→Option (Bool)):aN:=cC 137 U0 S fun b=> [.v .bool b]
def dB (N:Nat) (x0:Int):Option (Bool):=C0 x0 (fun (r0:Bool)=>some (r0))
def vJ (k0:Int→Option R) (k1:aQ→Bool→Option R) (x0:aQ):Option R:=
ad (decide (x0.1 < (1:Int))) (k0 (1:Int)) (ad (decide (x0.1 > (9:Int))) (k0 (1:Int)) (ad (x0.1==(1:Int)) (ad (decide (x0.2.1≥(1:Int))) (ad (x0.1==(2:Int)) (k1 x0 (x0.2.1==(2:Int))) (k1 x0 (decide (x0.2.1≤(3:Int))))) (ad (x0.1==(2:Int)) (k1 x0 (x0.2.1==(2:Int))) (k1 x0 false))) (ad (x0.1==(2:Int)) (k1 x0 (x0.2.1==(2:Int))) (k1 x0 (x0.2.1==(0:Int))))))
theorem aoo (x0):exec cl N AL [(0,.v aC x0)] K=(vJ (fun y0=>K .ret (e7 y0)) (fun y0 y1=>exec cl N uA [(1,.loc aC .no y0),(3,.v .bool y1)] K) x0):=by
 delta AL
 generalize uA=q
 revert q
 refine id ?_
 intro q
 kernel_rfl
def vI (k0:Int→Option R) (k1:aQ→Option R) (x0:aQ) (x1:Bool):Option R:=
ad (!x1) (k0 (6:Int)) (ad (x0.2.2.1==([]:List UInt8)) (k0 (7:Int)) (ad (decide ((x0.2.2.1.length:Int) > (8:Int))) (k0 (3:Int)) (k1 x0)))
theorem aon (x0 x1):exec cl N uA [(1,.loc aC .no x0),(3,.v .bool x1)] K=(vI (fun y0=>K .ret (e7 y0)) (fun y0=>exec cl N AK [(1,.loc aC .no y0),(2,.dead)] K) x0 x1):=by
 delta uA
 generalize AK=q
 revert q
 refine id ?_
 intro q
 kernel_rfl
def vE (k0:aQ→Int→Option R) (x0:aQ):Option R:=
k0 x0 (0:Int)
theorem aoj (x0):exec cl N NF [(1,.loc aC .no x0),(2,.dead)] K=(vE (fun y0 y1=>K .normal (e8 y0 y1)) x0):=by
 kernel_rfl
theorem VI (x0 x1):aj [1,4] (e8 x0 x1)=(e8 x0 x1):=by kernel_rfl
def vF (dB:Int→Option (Bool)) (k0:Int→Option R) (k1:aQ→Int→Option R) (k2:aQ→Int→Option R) (x0:aQ) (x1:Int):Option R:=
ad (decide (x1 < (x0.2.2.1.length:Int))) (if 0≤x1∧x1 < (x0.2.2.1.length:Int) then
(dB ((x0.2.2.1.getD x1.toNat 0).toNat:Int)).bind fun r259=>
ad (!r259) (k0 (2:Int)) (k1 x0 (IntKind.i64.wrap (x1+(1:Int))))
else none) (k2 x0 x1)
theorem aok (dB) (h137:(rb dB).holds cl) (x0 x1):exec cl N E5 (e8 x0 x1) K=(vF dB (fun y0=>K .ret (e9 y0)) (fun y0 y1=>K .normal (e8 y0 y1)) (fun y0 y1=>K (.exit 0) (e8 y0 y1)) x0 x1):=by
 rw [←aJ h137]
 kernel_rfl
def sW {R:Type} (dB:Int→Option (Bool)) (k0:Int→Option R) (k1:aQ→Int→Option R):Nat→aQ→Int→Option R
 | 0,_,_=>none
 | m+1,x0,x1=>(vF dB k0 (sW dB k0 k1 m) k1 x0 x1)
theorem agy (dB) (h137:(rb dB).holds cl):∀ (m) (x0 x1),iter [1,4] (fun env K=>exec cl N E5 env K) K m (e8 x0 x1)=sW dB (fun y0=>K .ret (e9 y0)) (fun y0 y1=>K (.exit 0) (e8 y0 y1)) m x0 x1:=by
 intro m
 induction m with
 | zero=>intros; rfl
 | succ m ih=>
   intro x0 x1
   simp only [bX,aok dB h137,bZ,bY,b5,VI,ih]
   rfl
theorem acN (x0):aj [2] (e9 x0)=[(2,.v U2 x0)]:=by kernel_rfl
theorem acO (x0 x1):aj [2] (e8 x0 x1)=[(2,.dead)]:=by kernel_rfl
def vG (N:Nat) (dB:Int→Option (Bool)) (k0:Int→Option R) (k1:Option R) (x0:aQ) (x1:Int):Option R:=
sW dB k0 (fun y0 y1=>k1) N x0 x1
theorem aol (dB) (h137:(rb dB).holds cl) (x0 x1):exec cl N E6 (e8 x0 x1) K=(vG N dB (fun y0=>K .ret [(2,.v U2 y0)]) (K (.exit 0) [(2,.dead)]) x0 x1):=by
 simp only [E6,aT,bW,VI,agy dB h137,acN,acO]
 rfl
theorem acP (x0):aj [2] [(2,.v U2 x0)]=[(2,.v U2 x0)]:=by kernel_rfl
theorem acQ:aj [2] [(2,.dead)]=[(2,.dead)]:=by kernel_rfl
def vH (k0:Int→Option R):Option R:=
k0 (0:Int)
theorem aom:exec cl N NI [(2,.dead)] K=(vH (fun y0=>K .ret [(2,.v U2 y0)])):=by
 kernel_rfl
def vK (N:Nat) (dB:Int→Option (Bool)) (k0:Int→Option R) (k1:Int→Option R) (x0:aQ):Option R:=
(vJ k0 (vI k0 (vE (vG N dB k1 (vH k1)))) x0)
theorem aop (dB) (h137:(rb dB).holds cl) (x0):exec cl N AL [(0,.v aC x0)] K=(vK N dB (fun y0=>K .ret (e7 y0)) (fun y0=>K .ret [(2,.v U2 y0)]) x0):=by
 simp only [bQ,bT,bS,bU,aoo,aon,AK,NH,aoj,NG,aT,ca,aol dB h137,b8,b9,b7,acP,acQ,aom]
 rfl
theorem ajM (y0):ag d117 .ret (e7 y0)=some [.v U2 y0]:=by kernel_rfl
theorem ajN (y0):ag d117 .ret [(2,.v U2 y0)]=some [.v U2 y0]:=by kernel_rfl
def rU (N:Nat) (dB:Int→Option (Bool)) (x0:aQ) (k:Int→Option R):Option R:=
(vK N dB k k x0)
theorem Zq (dB) (h137:(rb dB).holds cl) (x0) (k:List E→Option R):exec cl N E4 [(0,.v aC x0)] (fun e env=>(ag d117 e env).bind k)=rU N dB x0 (fun r0=>k [.v U2 r0]):=by
 simp only [E4,aop dB h137,ajM,ajN,aq]
 rfl
def mT (S:aQ→Option (Int)):aN:=cC 117 aC S fun b=> [.v U2 b]
def bN (N:Nat) (x0:aQ):Option (Int):=rU N (dB N) x0 (fun (r0:Int)=>some (r0))
def TR (k0:V3→aQ→Int→Option R) (x0:V3):Option R:=
k0 x0 ((0:Int),((0:Int),([],()))) (0:Int)
theorem apd (x0):exec cl N AX [(0,.v .str x0)] K=(TR (fun y0 y1 y2=>exec cl N AW (kO y0 y1 y2) K) x0):=by
 delta AX
 generalize AW=q
 revert q
 refine id ?_
 intro q
 kernel_rfl
theorem DE (x0 x1 x2):aj [0,2,4] (kO x0 x1 x2)=(kO x0 x1 x2):=by kernel_rfl
def TO (k0:V3→aQ→Int→Option R) (k1:V3→aQ→Int→Option R) (x0:V3) (x1:aQ) (x2:Int):Option R:=
ad (decide (x2 < (x0.length:Int))) (if 0≤x2∧x2 < (x0.length:Int) then
ad (((x0.getD x2.toNat 0).toNat:Int) != (47:Int)) (k0 x0 x1 (IntKind.i64.wrap (x2+(1:Int)))) (k1 x0 x1 x2)
else none) (k1 x0 x1 x2)
theorem apa (x0 x1 x2):exec cl N FH (kO x0 x1 x2) K=(TO (fun y0 y1 y2=>K .normal (kO y0 y1 y2)) (fun y0 y1 y2=>K (.exit 0) (kO y0 y1 y2)) x0 x1 x2):=by
 kernel_rfl
def LR {R:Type} (k0:V3→aQ→Int→Option R):Nat→V3→aQ→Int→Option R
 | 0,_,_,_=>none
 | m+1,x0,x1,x2=>(TO (LR k0 m) k0 x0 x1 x2)
theorem agF:∀ (m) (x0 x1 x2),iter [0,2,4] (fun env K=>exec cl N FH env K) K m (kO x0 x1 x2)=LR (fun y0 y1 y2=>K (.exit 0) (kO y0 y1 y2)) m x0 x1 x2:=by
 intro m
 induction m with
 | zero=>intros; rfl
 | succ m ih=>
   intro x0 x1 x2
   simp only [bX,apa,bZ,bY,b5,DE,ih]
   rfl
def TP (N:Nat) (k0:V3→aQ→Int→Option R) (x0:V3) (x1:aQ) (x2:Int):Option R:=
LR k0 N x0 x1 x2
theorem apb (x0 x1 x2):exec cl N FI (kO x0 x1 x2) K=(TP N (fun y0 y1 y2=>K (.exit 0) (kO y0 y1 y2)) x0 x1 x2):=by
 simp only [FI,aT,bW,DE,agF,DE]
 rfl
def TQ (k0:aQ→Bool→Option R) (k1:aQ→V3→aQ→Option R) (x0:V3) (x1:aQ) (x2:Int):Option R:=
ad (decide (x2 < (x0.length:Int))) (let v280:Int:=(IntKind.i64.wrap (x2+(1:Int)))
if 0≤v280∧v280≤(x0.length:Int)∧(x0.length:Int)≤(x0.length:Int) then
let v281:V3:=((x0.drop v280.toNat).take ((x0.length:Int).toNat - v280.toNat))
ad (v281==([]:List UInt8)) (k0 ((0:Int),(0:Int),[],()) false) (if 0≤(0:Int)∧(0:Int)≤x2∧x2≤(x0.length:Int) then
k1 x1 v281 ((0:Int),(0:Int),((x0.drop (0:Int).toNat).take (x2.toNat - (0:Int).toNat)),())
else none)
else none) (ad (([]:List UInt8)==([]:List UInt8)) (k0 ((0:Int),(0:Int),[],()) false) (if 0≤(0:Int)∧(0:Int)≤x2∧x2≤(x0.length:Int) then
k1 x1 ([]:List UInt8) ((0:Int),(0:Int),((x0.drop (0:Int).toNat).take (x2.toNat - (0:Int).toNat)),())
else none))
theorem apc (x0 x1 x2):exec cl N FJ (kO x0 x1 x2) K=(TQ (fun y0 y1=>K .ret (Js y0 y1)) (fun y0 y1 y2=>exec cl N AY (o5 y0 y1 y2) K) x0 x1 x2):=by
 delta FJ
 generalize AY=q
 revert q
 refine id ?_
 intro q
 kernel_rfl
def TT (k0:aQ→V3→aQ→Int→Option R) (x0:aQ) (x1:V3) (x2:aQ):Option R:=
k0 x0 x1 x2 (1:Int)
theorem apf (x0 x1 x2):exec cl N Om (o5 x0 x1 x2) K=(TT (fun y0 y1 y2 y3=>K .normal (lx y0 y1 y2 y3)) x0 x1 x2):=by
 kernel_rfl
theorem VP (x0 x1 x2 x3):aj [2,5,6,7] (lx x0 x1 x2 x3)=(lx x0 x1 x2 x3):=by kernel_rfl
def TU (dH:Option V6) (k0:aQ→V3→aQ→Int→Option R) (k1:aQ→V3→aQ→Int→Option R) (x0:aQ) (x1:V3) (x2:aQ) (x3:Int):Option R:=
(dH).bind fun r290=>
ad (decide (x3 < (r290.length:Int))) ((dH).bind fun r292=>
if 0≤x3∧x3 < (r292.length:Int) then
if 0≤(0:Int)∧(0:Int) < (x1.length:Int) then
ad (((r292.getD x3.toNat 0).toNat:Int)==((x1.getD (0:Int).toNat 0).toNat:Int)) (k0 x0 x1 (x3,x2.2) (IntKind.i64.wrap (x3+(1:Int)))) (k0 x0 x1 x2 (IntKind.i64.wrap (x3+(1:Int))))
else none
else none) (k1 x0 x1 x2 x3)
theorem apg (dH) (h148:(oT dH).holds cl) (x0 x1 x2 x3):exec cl N FK (lx x0 x1 x2 x3) K=(TU dH (fun y0 y1 y2 y3=>K .normal (lx y0 y1 y2 y3)) (fun y0 y1 y2 y3=>K (.exit 2) (lx y0 y1 y2 y3)) x0 x1 x2 x3):=by
 rw [←aJ h148]
 kernel_rfl
def LS {R:Type} (dH:Option V6) (k0:aQ→V3→aQ→Int→Option R):Nat→aQ→V3→aQ→Int→Option R
 | 0,_,_,_,_=>none
 | m+1,x0,x1,x2,x3=>(TU dH (LS dH k0 m) k0 x0 x1 x2 x3)
theorem agG (dH) (h148:(oT dH).holds cl):∀ (m) (x0 x1 x2 x3),iter [2,5,6,7] (fun env K=>exec cl N FK env K) K m (lx x0 x1 x2 x3)=LS dH (fun y0 y1 y2 y3=>K (.exit 2) (lx y0 y1 y2 y3)) m x0 x1 x2 x3:=by
 intro m
 induction m with
 | zero=>intros; rfl
 | succ m ih=>
   intro x0 x1 x2 x3
   simp only [bX,apg dH h148,bZ,bY,b5,VP,ih]
   rfl
theorem adb (x0 x1 x2 x3):aj [2,5,6] (lx x0 x1 x2 x3)=(o5 x0 x1 x2):=by kernel_rfl
def TW (N:Nat) (dH:Option V6) (k0:aQ→V3→aQ→Option R) (x0:aQ) (x1:V3) (x2:aQ) (x3:Int):Option R:=
LS dH (fun y0 y1 y2 y3=>k0 y0 y1 y2) N x0 x1 x2 x3
theorem aph (dH) (h148:(oT dH).holds cl) (x0 x1 x2 x3):exec cl N FL (lx x0 x1 x2 x3) K=(TW N dH (fun y0 y1 y2=>K (.exit 2) (o5 y0 y1 y2)) x0 x1 x2 x3):=by
 simp only [FL,aT,bW,VP,agG dH h148,adb]
 rfl
theorem ade (x0 x1 x2):aj [2,5,6] (o5 x0 x1 x2)=(o5 x0 x1 x2):=by kernel_rfl
def TX (cB:aQ→Option (Bool)) (bN:aQ→Option (Int)) (k0:aQ→Bool→Option R) (x0:aQ) (x1:V3) (x2:aQ):Option R:=
if 0≤(1:Int)∧(1:Int)≤(x1.length:Int)∧(x1.length:Int)≤(x1.length:Int) then
let v298:V3:=((x1.drop (1:Int).toNat).take ((x1.length:Int).toNat - (1:Int).toNat))
(cB x2).bind fun r299=>
ad r299 (ad ((v298.length:Int)==(1:Int)) (if 0≤(0:Int)∧(0:Int) < (v298.length:Int) then
ad (decide (((v298.getD (0:Int).toNat 0).toNat:Int)≥(49:Int))) (if 0≤(0:Int)∧(0:Int) < (v298.length:Int) then
ad (decide (((v298.getD (0:Int).toNat 0).toNat:Int)≤(51:Int))) (if 0≤(0:Int)∧(0:Int) < (v298.length:Int) then
let v307:Int:=(IntKind.i64.wrap ((IntKind.i64.wrap ((v298.getD (0:Int).toNat 0).toNat:Int)) - (48:Int)))
ad (([]:List UInt8)==([]:List UInt8)) ((bN (x2.1,(v307,x2.2.2))).bind fun r309=>
k0 (x2.1,(v307,x2.2.2)) (r309==(0:Int))) (k0 (x2.1,(v307,x2.2.2)) false)
else none) (ad (v298==([]:List UInt8)) ((bN x2).bind fun r312=>
k0 x2 (r312==(0:Int))) (k0 x2 false))
else none) (ad (v298==([]:List UInt8)) ((bN x2).bind fun r315=>
k0 x2 (r315==(0:Int))) (k0 x2 false))
else none) (ad (v298==([]:List UInt8)) ((bN x2).bind fun r318=>
k0 x2 (r318==(0:Int))) (k0 x2 false))) (ad (v298==([]:List UInt8)) ((bN x2).bind fun r321=>
k0 x2 (r321==(0:Int))) (k0 x2 false))
else none
theorem api (cB) (bN) (h114:(nM cB).holds cl) (h117:(mT bN).holds cl) (x0 x1 x2):exec cl N Oq (o5 x0 x1 x2) K=(TX cB bN (fun y0 y1=>K .ret (JC y0 y1)) x0 x1 x2):=by
 rw [←aJ h114]
 rw [←aJ h117]
 kernel_rfl
def TS (N:Nat) (cB:aQ→Option (Bool)) (bN:aQ→Option (Int)) (dH:Option V6) (k0:aQ→Bool→Option R) (k1:aQ→Bool→Option R) (x0:V3):Option R:=
(TR (TP N ((TQ k0 (TT (TW N dH ((TX cB bN k1))))))) x0)
theorem ape (cB) (bN) (dH) (h114:(nM cB).holds cl) (h117:(mT bN).holds cl) (h148:(oT dH).holds cl) (x0):exec cl N AX [(0,.v .str x0)] K=(TS N cB bN dH (fun y0 y1=>K .ret (Js y0 y1)) (fun y0 y1=>K .ret (JC y0 y1)) x0):=by
 simp only [bQ,bT,bS,bU,apd,AW,Ol,aT,ca,apb,b8,b9,b7,DE,apc,AY,Oo,apf,On,aph dH h148,ade,api cB bN h114 h117]
 rfl
theorem aka (y0 y1):ag d139 .ret (Js y0 y1)=some [.v aC y0,.v .bool y1]:=by kernel_rfl
theorem akb (y0 y1):ag d139 .ret (JC y0 y1)=some [.v aC y0,.v .bool y1]:=by kernel_rfl
def Kw (N:Nat) (cB:aQ→Option (Bool)) (bN:aQ→Option (Int)) (dH:Option V6) (x0:V3) (k:aQ→Bool→Option R):Option R:=
(TS N cB bN dH k k x0)
theorem ZH (cB) (bN) (dH) (h114:(nM cB).holds cl) (h117:(mT bN).holds cl) (h148:(oT dH).holds cl) (x0) (k:List E→Option R):exec cl N FG [(0,.v .str x0)] (fun e env=>(ag d139 e env).bind k)=Kw N cB bN dH x0 (fun r0 r1=>k [.v aC r0,.v .bool r1]):=by
 simp only [FG,ape cB bN dH h114 h117 h148,aka,akb,aq]
 rfl
def rh (S:V3→Option oN):aN:=cC 139 .str S fun b=> [.v aC b.1,.v .bool b.2]
def dQ (N:Nat) (x0:V3):Option oN:=Kw N (cB N) (bN N) (dH N) x0 (fun (r0:aQ) (r1:Bool)=>some (r0,r1))
def Tx (fX:V3→Option fL) (k0:av→Int→Option R) (k1:av→aF→Option R) (x0:V3):Option R:=
ad (decide ((x0.length:Int) > (4000:Int))) (k0 [] (3:Int)) (ad (x0==([]:List UInt8)) (k0 [] (0:Int)) ((fX x0).bind fun r328=>
k1 [] r328))
theorem aou (fX) (h138:(Co fX).holds cl) (x0):exec cl N AN [(0,.v .str x0)] K=(Tx fX (fun y0 y1=>K .ret (JG y0 y1)) (fun y0 y1=>exec cl N AM [(4,.own true 40 aC .no y0),(5,.own true 9 .str .no y1)] K) x0):=by
 rw [←aJ h138]
 delta AN
 generalize AM=q
 revert q
 refine id ?_
 intro q
 kernel_rfl
def Tt (k0:av→aF→Int→Option R) (x0:av) (x1:aF):Option R:=
k0 x0 x1 (0:Int)
theorem aoq (x0 x1):exec cl N NJ [(4,.own true 40 aC .no x0),(5,.own true 9 .str .no x1)] K=(Tt (fun y0 y1 y2=>K .normal (lI y0 y1 y2)) x0 x1):=by
 kernel_rfl
theorem VJ (x0 x1 x2):aj [4,5,6] (lI x0 x1 x2)=(lI x0 x1 x2):=by kernel_rfl
def Tu (dQ:V3→Option oN) (k0:av→Int→Option R) (k1:av→aF→Int→Option R) (k2:av→aF→Int→Option R) (x0:av) (x1:aF) (x2:Int):Option R:=
ad (decide (x2 < (x1.length:Int))) (if 0≤x2∧x2 < (x1.length:Int) then
if x2.toNat < x1.length then
(dQ (x1.getD x2.toNat [])).bind fun r331=>
ad (!r331.2) (k0 [] (2:Int)) (if x0.length+[r331.1].length≤4398046511104 then
k1 (x0++[r331.1]) x1 (IntKind.i64.wrap (x2+(1:Int)))
else none)
else none
else none) (k2 x0 x1 x2)
theorem aor (dQ) (h139:(rh dQ).holds cl) (x0 x1 x2):exec cl N E8 (lI x0 x1 x2) K=(Tu dQ (fun y0 y1=>K .ret (JK y0 y1)) (fun y0 y1 y2=>K .normal (lI y0 y1 y2)) (fun y0 y1 y2=>K (.exit 0) (lI y0 y1 y2)) x0 x1 x2):=by
 rw [←aJ h139]
 kernel_rfl
def LO {R:Type} (dQ:V3→Option oN) (k0:av→Int→Option R) (k1:av→aF→Int→Option R):Nat→av→aF→Int→Option R
 | 0,_,_,_=>none
 | m+1,x0,x1,x2=>(Tu dQ k0 (LO dQ k0 k1 m) k1 x0 x1 x2)
theorem agz (dQ) (h139:(rh dQ).holds cl):∀ (m) (x0 x1 x2),iter [4,5,6] (fun env K=>exec cl N E8 env K) K m (lI x0 x1 x2)=LO dQ (fun y0 y1=>K .ret (JK y0 y1)) (fun y0 y1 y2=>K (.exit 0) (lI y0 y1 y2)) m x0 x1 x2:=by
 intro m
 induction m with
 | zero=>intros; rfl
 | succ m ih=>
   intro x0 x1 x2
   simp only [bX,aor dQ h139,bZ,bY,b5,VJ,ih]
   rfl
theorem acR (x0 x1):aj [2,3,4] (JK x0 x1)=(o7 x0 x1):=by kernel_rfl
theorem acS (x0 x1 x2):aj [2,3,4] (lI x0 x1 x2)=(uZ x0):=by kernel_rfl
def Tv (N:Nat) (dQ:V3→Option oN) (k0:av→Int→Option R) (k1:av→Option R) (x0:av) (x1:aF) (x2:Int):Option R:=
LO dQ k0 (fun y0 y1 y2=>k1 y0) N x0 x1 x2
theorem aos (dQ) (h139:(rh dQ).holds cl) (x0 x1 x2):exec cl N E9 (lI x0 x1 x2) K=(Tv N dQ (fun y0 y1=>K .ret (o7 y0 y1)) (fun y0=>K (.exit 0) (uZ y0)) x0 x1 x2):=by
 simp only [E9,aT,bW,VJ,agz dQ h139,acR,acS]
 rfl
theorem acT (x0 x1):aj [2,3,4] (o7 x0 x1)=(o7 x0 x1):=by kernel_rfl
theorem acU (x0):aj [2,3,4] (uZ x0)=(uZ x0):=by kernel_rfl
def Tw (k0:av→Int→Option R) (k1:Int→av→Option R) (x0:av):Option R:=
ad (decide ((x0.length:Int) > (200:Int))) (k0 [] (2:Int)) (k1 (0:Int) x0)
theorem aot (x0):exec cl N NM (uZ x0) K=(Tw (fun y0 y1=>K .ret (o7 y0 y1)) (fun y0 y1=>K .ret (JN y0 y1)) x0):=by
 kernel_rfl
def Tz (N:Nat) (fX:V3→Option fL) (dQ:V3→Option oN) (k0:av→Int→Option R) (k1:av→Int→Option R) (k2:Int→av→Option R) (x0:V3):Option R:=
(Tx fX k0 (Tt (Tv N dQ k1 ((Tw k1 k2)))) x0)
theorem aov (fX) (dQ) (h138:(Co fX).holds cl) (h139:(rh dQ).holds cl) (x0):exec cl N AN [(0,.v .str x0)] K=(Tz N fX dQ (fun y0 y1=>K .ret (JG y0 y1)) (fun y0 y1=>K .ret (o7 y0 y1)) (fun y0 y1=>K .ret (JN y0 y1)) x0):=by
 simp only [bQ,bT,bS,bU,aou fX h138,AM,NL,aoq,NK,aT,ca,aos dQ h139,b8,b9,b7,acT,acU,aot]
 rfl
theorem ajO (y0 y1):ag d118 .ret (JG y0 y1)=some [.own true 40 aC .no y0,.v U2 y1]:=by kernel_rfl
theorem ajP (y0 y1):ag d118 .ret (o7 y0 y1)=some [.own true 40 aC .no y0,.v U2 y1]:=by kernel_rfl
theorem ajQ (y0 y1):ag d118 .ret (JN y0 y1)=some [.own true 40 aC .no y1,.v U2 y0]:=by kernel_rfl
def Kj (N:Nat) (fX:V3→Option fL) (dQ:V3→Option oN) (x0:V3) (k:av→Int→Option R):Option R:=
(Tz N fX dQ k k (fun y0 y1=>k y1 y0) x0)
theorem Zr (fX) (dQ) (h138:(Co fX).holds cl) (h139:(rh dQ).holds cl) (x0) (k:List E→Option R):exec cl N E7 [(0,.v .str x0)] (fun e env=>(ag d118 e env).bind k)=Kj N fX dQ x0 (fun r0 r1=>k [.own true 40 aC .no r0,.v U2 r1]):=by
 simp only [E7,aov fX dQ h138 h139,ajO,ajP,ajQ,aq]
 rfl
def Cl (S:V3→Option ug):aN:=cC 118 .str S fun b=> [.own true 40 aC .no b.1,.v U2 b.2]
def fV (N:Nat) (x0:V3):Option ug:=Kj N (fX N) (dQ N) x0 (fun (r0:av) (r1:Int)=>some (r0,r1))
def Kt (k0:Bool→Option R) (x0:Int):Option R:=
ad (decide (x0≥(48:Int))) (k0 (decide (x0≤(57:Int)))) (k0 false)
theorem ao2 (x0):exec cl N Oe [(0,.v U0 x0)] K=(Kt (fun y0=>K .ret [(2,.v .bool y0)]) x0):=by
 kernel_rfl
theorem aj7 (y0):ag d136 .ret [(2,.v .bool y0)]=some [.v .bool y0]:=by kernel_rfl
def CZ (x0:Int) (k:Bool→Option R):Option R:=
(Kt k x0)
theorem ZE (x0) (k:List E→Option R):exec cl N FA [(0,.v U0 x0)] (fun e env=>(ag d136 e env).bind k)=CZ x0 (fun r0=>k [.v .bool r0]):=by
 simp only [FA,ao2,aj7,aq]
 rfl
def kK (S:Int→Option (Bool)):aN:=cC 136 U0 S fun b=> [.v .bool b]
def bA (N:Nat) (x0:Int):Option (Bool):=CZ x0 (fun (r0:Bool)=>some (r0))
def T5 (k0:V3→Int→Option R) (x0:V3):Option R:=
k0 x0 (0:Int)
theorem apn (x0):exec cl N A0 [(0,.v .str x0)] K=(T5 (fun y0 y1=>exec cl N AZ (cw y0 y1) K) x0):=by
 delta A0
 generalize AZ=q
 revert q
 refine id ?_
 intro q
 kernel_rfl
theorem VQ (x0 x1):aj [0,3] (cw x0 x1)=(cw x0 x1):=by kernel_rfl
def TY (bA:Int→Option (Bool)) (k0:V3→Int→Option R) (k1:V3→Int→Option R) (x0:V3) (x1:Int):Option R:=
ad (decide (x1 < (x0.length:Int))) (if 0≤x1∧x1 < (x0.length:Int) then
(bA ((x0.getD x1.toNat 0).toNat:Int)).bind fun r349=>
ad r349 (k0 x0 (IntKind.i64.wrap (x1+(1:Int)))) (k1 x0 x1)
else none) (k1 x0 x1)
theorem apk (bA) (h136:(kK bA).holds cl) (x0 x1):exec cl N FN (cw x0 x1) K=(TY bA (fun y0 y1=>K .normal (cw y0 y1)) (fun y0 y1=>K (.exit 0) (cw y0 y1)) x0 x1):=by
 rw [←aJ h136]
 kernel_rfl
def LU {R:Type} (bA:Int→Option (Bool)) (k0:V3→Int→Option R):Nat→V3→Int→Option R
 | 0,_,_=>none
 | m+1,x0,x1=>(TY bA (LU bA k0 m) k0 x0 x1)
theorem agH (bA) (h136:(kK bA).holds cl):∀ (m) (x0 x1),iter [0,3] (fun env K=>exec cl N FN env K) K m (cw x0 x1)=LU bA (fun y0 y1=>K (.exit 0) (cw y0 y1)) m x0 x1:=by
 intro m
 induction m with
 | zero=>intros; rfl
 | succ m ih=>
   intro x0 x1
   simp only [bX,apk bA h136,bZ,bY,b5,VQ,ih]
   rfl
theorem adf (x0 x1):aj [3] (cw x0 x1)=[(3,.v U2 x1)]:=by kernel_rfl
def TZ (N:Nat) (bA:Int→Option (Bool)) (k0:Int→Option R) (x0:V3) (x1:Int):Option R:=
LU bA (fun y0 y1=>k0 y1) N x0 x1
theorem apl (bA) (h136:(kK bA).holds cl) (x0 x1):exec cl N FO (cw x0 x1) K=(TZ N bA (fun y0=>K (.exit 0) [(3,.v U2 y0)]) x0 x1):=by
 simp only [FO,aT,bW,VQ,agH bA h136,adf]
 rfl
theorem adg (x0):aj [3] [(3,.v U2 x0)]=[(3,.v U2 x0)]:=by kernel_rfl
def T4 (k0:Int→Option R) (x0:Int):Option R:=
k0 x0
theorem apm (x0):exec cl N Ov [(3,.v U2 x0)] K=(T4 (fun y0=>K .ret [(2,.v U2 y0)]) x0):=by
 kernel_rfl
def T6 (N:Nat) (bA:Int→Option (Bool)) (k0:Int→Option R) (x0:V3):Option R:=
(T5 (TZ N bA ((T4 k0))) x0)
theorem apo (bA) (h136:(kK bA).holds cl) (x0):exec cl N A0 [(0,.v .str x0)] K=(T6 N bA (fun y0=>K .ret [(2,.v U2 y0)]) x0):=by
 simp only [bQ,bT,bS,bU,apn,AZ,Ou,aT,ca,apl bA h136,b8,b9,b7,adg,apm]
 rfl
theorem ake (y0):ag d140 .ret [(2,.v U2 y0)]=some [.v U2 y0]:=by kernel_rfl
def Ky (N:Nat) (bA:Int→Option (Bool)) (x0:V3) (k:Int→Option R):Option R:=
(T6 N bA k x0)
theorem ZI (bA) (h136:(kK bA).holds cl) (x0) (k:List E→Option R):exec cl N FM [(0,.v .str x0)] (fun e env=>(ag d140 e env).bind k)=Ky N bA x0 (fun r0=>k [.v U2 r0]):=by
 simp only [FM,apo bA h136,ake,aq]
 rfl
def Cp (S:V3→Option (Int)):aN:=cC 140 .str S fun b=> [.v U2 b]
def fY (N:Nat) (x0:V3):Option (Int):=Ky N (bA N) x0 (fun (r0:Int)=>some (r0))
def TE (fY:V3→Option (Int)) (k0:Int→Bool→Option R) (k1:V3→Int→Option R) (x0:V3):Option R:=
ad (x0==([]:List UInt8)) (k0 (0:Int) false) (ad (decide ((x0.length:Int) > (6:Int))) (k0 (0:Int) false) ((fY x0).bind fun r365=>
ad (r365 != (x0.length:Int)) (k0 (0:Int) false) (if 0≤(0:Int)∧(0:Int) < (x0.length:Int) then
ad (((x0.getD (0:Int).toNat 0).toNat:Int)==(48:Int)) (ad (decide ((x0.length:Int) > (1:Int))) (k0 (0:Int) false) (k1 x0 (0:Int))) (k1 x0 (0:Int))
else none)))
theorem aoA (fY) (h140:(Cp fY).holds cl) (x0):exec cl N AP [(0,.v .str x0)] K=(TE fY (fun y0 y1=>K .ret (JO y0 y1)) (fun y0 y1=>exec cl N AO [(0,.v .str y0),(4,.v U2 y1)] K) x0):=by
 rw [←aJ h140]
 delta AP
 generalize AO=q
 revert q
 refine id ?_
 intro q
 kernel_rfl
def TA (k0:V3→Int→Int→Option R) (x0:V3) (x1:Int):Option R:=
k0 x0 x1 (0:Int)
theorem aow (x0 x1):exec cl N NN [(0,.v .str x0),(4,.v U2 x1)] K=(TA (fun y0 y1 y2=>K .normal (lQ y0 y1 y2)) x0 x1):=by
 kernel_rfl
theorem VK (x0 x1 x2):aj [0,4,5] (lQ x0 x1 x2)=(lQ x0 x1 x2):=by kernel_rfl
def TB (k0:V3→Int→Int→Option R) (k1:V3→Int→Int→Option R) (x0:V3) (x1 x2:Int):Option R:=
ad (decide (x2 < (x0.length:Int))) (if 0≤x2∧x2 < (x0.length:Int) then
k0 x0 (IntKind.i64.wrap ((IntKind.i64.wrap ((10:Int) * x1))+(IntKind.i64.wrap (IntKind.u8.wrap (((x0.getD x2.toNat 0).toNat:Int) - (48:Int)))))) (IntKind.i64.wrap (x2+(1:Int)))
else none) (k1 x0 x1 x2)
theorem aox (x0 x1 x2):exec cl N Fb (lQ x0 x1 x2) K=(TB (fun y0 y1 y2=>K .normal (lQ y0 y1 y2)) (fun y0 y1 y2=>K (.exit 0) (lQ y0 y1 y2)) x0 x1 x2):=by
 kernel_rfl
def LP {R:Type} (k0:V3→Int→Int→Option R):Nat→V3→Int→Int→Option R
 | 0,_,_,_=>none
 | m+1,x0,x1,x2=>(TB (LP k0 m) k0 x0 x1 x2)
theorem agA:∀ (m) (x0 x1 x2),iter [0,4,5] (fun env K=>exec cl N Fb env K) K m (lQ x0 x1 x2)=LP (fun y0 y1 y2=>K (.exit 0) (lQ y0 y1 y2)) m x0 x1 x2:=by
 intro m
 induction m with
 | zero=>intros; rfl
 | succ m ih=>
   intro x0 x1 x2
   simp only [bX,aox,bZ,bY,b5,VK,ih]
   rfl
theorem acV (x0 x1 x2):aj [4] (lQ x0 x1 x2)=[(4,.v U2 x1)]:=by kernel_rfl
def TC (N:Nat) (k0:Int→Option R) (x0:V3) (x1 x2:Int):Option R:=
LP (fun y0 y1 y2=>k0 y1) N x0 x1 x2
theorem aoy (x0 x1 x2):exec cl N Fc (lQ x0 x1 x2) K=(TC N (fun y0=>K (.exit 0) [(4,.v U2 y0)]) x0 x1 x2):=by
 simp only [Fc,aT,bW,VK,agA,acV]
 rfl
theorem acW (x0):aj [4] [(4,.v U2 x0)]=[(4,.v U2 x0)]:=by kernel_rfl
def TD (k0:Int→Bool→Option R) (x0:Int):Option R:=
k0 x0 true
theorem aoz (x0):exec cl N NQ [(4,.v U2 x0)] K=(TD (fun y0 y1=>K .ret [(2,.v U2 y0),(3,.v .bool y1)]) x0):=by
 kernel_rfl
def TF (N:Nat) (fY:V3→Option (Int)) (k0:Int→Bool→Option R) (k1:Int→Bool→Option R) (x0:V3):Option R:=
(TE fY k0 (TA (TC N ((TD k1)))) x0)
theorem aoB (fY) (h140:(Cp fY).holds cl) (x0):exec cl N AP [(0,.v .str x0)] K=(TF N fY (fun y0 y1=>K .ret (JO y0 y1)) (fun y0 y1=>K .ret [(2,.v U2 y0),(3,.v .bool y1)]) x0):=by
 simp only [bQ,bT,bS,bU,aoA fY h140,AO,NP,aow,NO,aT,ca,aoy,b8,b9,b7,acW,aoz]
 rfl
theorem ajR (y0 y1):ag d119 .ret (JO y0 y1)=some [.v U2 y0,.v .bool y1]:=by kernel_rfl
theorem ajS (y0 y1):ag d119 .ret [(2,.v U2 y0),(3,.v .bool y1)]=some [.v U2 y0,.v .bool y1]:=by kernel_rfl
def Kk (N:Nat) (fY:V3→Option (Int)) (x0:V3) (k:Int→Bool→Option R):Option R:=
(TF N fY k k x0)
theorem Zs (fY) (h140:(Cp fY).holds cl) (x0) (k:List E→Option R):exec cl N Fa [(0,.v .str x0)] (fun e env=>(ag d119 e env).bind k)=Kk N fY x0 (fun r0 r1=>k [.v U2 r0,.v .bool r1]):=by
 simp only [Fa,aoB fY h140,ajR,ajS,aq]
 rfl
def Cm (S:V3→Option V5):aN:=cC 119 .str S fun b=> [.v U2 b.1,.v .bool b.2]
def fW (N:Nat) (x0:V3):Option V5:=Kk N (fY N) x0 (fun (r0:Int) (r1:Bool)=>some (r0,r1))
def TG (k0:V3→Option R) (x0:Int):Option R:=
if 0≤x0∧x0 < ([([97,110,121,119,104,101,114,101]:List UInt8),([98,101,102,111,114,101]:List UInt8),([115,116,97,114,116]:List UInt8),([98,101,116,119,101,101,110]:List UInt8),([110,111,116]:List UInt8)].length:Int) then
if x0.toNat < [([97,110,121,119,104,101,114,101]:List UInt8),([98,101,102,111,114,101]:List UInt8),([115,116,97,114,116]:List UInt8),([98,101,116,119,101,101,110]:List UInt8),([110,111,116]:List UInt8)].length then
k0 ([([97,110,121,119,104,101,114,101]:List UInt8),([98,101,102,111,114,101]:List UInt8),([115,116,97,114,116]:List UInt8),([98,101,116,119,101,101,110]:List UInt8),([110,111,116]:List UInt8)].getD x0.toNat [])
else none
else none
theorem aoD (x0):exec cl N NS [(0,.v U2 x0)] K=(TG (fun y0=>K .ret [(2,.v .str y0)]) x0):=by
 kernel_rfl
theorem ajV (y0):ag d120 .ret [(2,.v .str y0)]=some [.v .str y0]:=by kernel_rfl
def Km (x0:Int) (k:V3→Option R):Option R:=
(TG k x0)
theorem Zu (x0) (k:List E→Option R):exec cl N Ff [(0,.v U2 x0)] (fun e env=>(ag d120 e env).bind k)=Km x0 (fun r0=>k [.v .str r0]):=by
 simp only [Ff,aoD,ajV,aq]
 rfl
def qX (S:Int→Option V6):aN:=cC 120 U2 S fun b=> [.v .str b]
def dP (N:Nat) (x0:Int):Option V6:=Km x0 (fun (r0:V3)=>some (r0))
def UR (bP:V3→Option fL) (k0:aW→Bool→Option R) (k1:aW→aF→V3→Option R) (x0:V3):Option R:=
(bP x0).bind fun r389=>
ad (decide ((r389.length:Int) < (4:Int))) (k0 ([],[],(0:Int),(0:Int),()) false) (if 0≤(1:Int)∧(1:Int) < (r389.length:Int) then
if ((1:Int).toNat) < r389.length then
k1 ([],([],((0:Int),((0:Int),())))) r389 (r389.getD ((1:Int).toNat) [])
else none
else none)
theorem atW (bP) (h93:(ll bP).holds cl) (x0):exec cl N B7 [(0,.v .str x0)] K=(UR bP (fun y0 y1=>K .ret (JP y0 y1)) (fun y0 y1 y2=>exec cl N B6 (o8 y0 y1 y2) K) x0):=by
 rw [←aJ h93]
 delta B7
 generalize B6=q
 revert q
 refine id ?_
 intro q
 kernel_rfl
def UN (k0:aW→aF→V3→Int→Option R) (x0:aW) (x1:aF) (x2:V3):Option R:=
k0 x0 x1 x2 (2:Int)
theorem atS (x0 x1 x2):exec cl N RT (o8 x0 x1 x2) K=(UN (fun y0 y1 y2 y3=>K .normal (lR y0 y1 y2 y3)) x0 x1 x2):=by
 kernel_rfl
theorem Wy (x0 x1 x2 x3):aj [2,4,5,6] (lR x0 x1 x2 x3)=(lR x0 x1 x2 x3):=by kernel_rfl
def UO (k0:aW→aF→V3→Int→Option R) (k1:aW→aF→V3→Int→Option R) (x0:aW) (x1:aF) (x2:V3) (x3:Int):Option R:=
ad (decide (x3 < (IntKind.i64.wrap ((x1.length:Int) - (2:Int))))) (if x2.length+([32]:List UInt8).length≤140737488355328 then
let v394:V3:=(x2++([32]:List UInt8))
if 0≤x3∧x3 < (x1.length:Int) then
if x3.toNat < x1.length then
if v394.length+(x1.getD x3.toNat []).length≤140737488355328 then
k0 x0 x1 (v394++(x1.getD x3.toNat [])) (IntKind.i64.wrap (x3+(1:Int)))
else none
else none
else none
else none) (k1 x0 x1 x2 x3)
theorem atT (x0 x1 x2 x3):exec cl N It (lR x0 x1 x2 x3) K=(UO (fun y0 y1 y2 y3=>K .normal (lR y0 y1 y2 y3)) (fun y0 y1 y2 y3=>K (.exit 0) (lR y0 y1 y2 y3)) x0 x1 x2 x3):=by
 kernel_rfl
def L1 {R:Type} (k0:aW→aF→V3→Int→Option R):Nat→aW→aF→V3→Int→Option R
 | 0,_,_,_,_=>none
 | m+1,x0,x1,x2,x3=>(UO (L1 k0 m) k0 x0 x1 x2 x3)
theorem ahl:∀ (m) (x0 x1 x2 x3),iter [2,4,5,6] (fun env K=>exec cl N It env K) K m (lR x0 x1 x2 x3)=L1 (fun y0 y1 y2 y3=>K (.exit 0) (lR y0 y1 y2 y3)) m x0 x1 x2 x3:=by
 intro m
 induction m with
 | zero=>intros; rfl
 | succ m ih=>
   intro x0 x1 x2 x3
   simp only [bX,atT,bZ,bY,b5,Wy,ih]
   rfl
theorem afn (x0 x1 x2 x3):aj [2,4,5] (lR x0 x1 x2 x3)=(o8 x0 x1 x2):=by kernel_rfl
def UT (N:Nat) (k0:aW→aF→V3→Option R) (x0:aW) (x1:aF) (x2:V3) (x3:Int):Option R:=
L1 (fun y0 y1 y2 y3=>k0 y0 y1 y2) N x0 x1 x2 x3
theorem atY (x0 x1 x2 x3):exec cl N Iv (lR x0 x1 x2 x3) K=(UT N (fun y0 y1 y2=>K (.exit 0) (o8 y0 y1 y2)) x0 x1 x2 x3):=by
 simp only [Iv,aT,bW,Wy,ahl,afn]
 rfl
theorem afo (x0 x1 x2):aj [2,4,5] (o8 x0 x1 x2)=(o8 x0 x1 x2):=by kernel_rfl
def UQ (fV:V3→Option ug) (fW:V3→Option V5) (k0:aW→Bool→Option R) (k1:aW→aF→av→Int→Option R) (x0:aW) (x1:aF) (x2:V3):Option R:=
(fV x2).bind fun r398=>
let v399:Int:=(IntKind.i64.wrap ((x1.length:Int) - (2:Int)))
if 0≤v399∧v399 < (x1.length:Int) then
if v399.toNat < x1.length then
(fW (x1.getD v399.toNat [])).bind fun r401=>
ad (r398.2 != (0:Int)) (k0 ([],[],(0:Int),(0:Int),()) false) (ad (!r401.2) (k0 ([],[],(0:Int),(0:Int),()) false) (k1 x0 x1 r398.1 r401.1))
else none
else none
theorem atV (fV) (fW) (h118:(Cl fV).holds cl) (h119:(Cm fW).holds cl) (x0 x1 x2):exec cl N Iu (o8 x0 x1 x2) K=(UQ fV fW (fun y0 y1=>K .ret (JQ y0 y1)) (fun y0 y1 y2 y3=>exec cl N B5 (SS y0 y1 y2 y3) K) x0 x1 x2):=by
 rw [←aJ h118]
 rw [←aJ h119]
 delta Iu
 generalize B5=q
 revert q
 refine id ?_
 intro q
 kernel_rfl
def UU (k0:aW→aF→av→Int→Int→Option R) (x0:aW) (x1:aF) (x2:av) (x3:Int):Option R:=
k0 x0 x1 x2 x3 (0:Int)
theorem atZ (x0 x1 x2 x3):exec cl N RY (SS x0 x1 x2 x3) K=(UU (fun y0 y1 y2 y3 y4=>K .normal (lS y0 y1 y2 y3 y4)) x0 x1 x2 x3):=by
 kernel_rfl
theorem Wz (x0 x1 x2 x3 x4):aj [2,4,7,9,11] (lS x0 x1 x2 x3 x4)=(lS x0 x1 x2 x3 x4):=by kernel_rfl
def UW (dP:Int→Option V6) (k0:aW→Bool→Option R) (k1:aW→aF→av→Int→Int→Option R) (k2:aW→aF→av→Int→Int→Option R) (x0:aW) (x1:aF) (x2:av) (x3 x4:Int):Option R:=
ad (decide (x4≤(4:Int))) (let v404:Int:=(IntKind.i64.wrap ((x1.length:Int) - (1:Int)))
if 0≤v404∧v404 < (x1.length:Int) then
if v404.toNat < x1.length then
(dP x4).bind fun r406=>
ad ((x1.getD v404.toNat [])==r406) (if 0≤(0:Int)∧(0:Int) < (x1.length:Int) then
if ((0:Int).toNat) < x1.length then
k0 ((x1.getD ((0:Int).toNat) []),x2,x3,x4,()) true
else none
else none) (k1 x0 x1 x2 x3 (IntKind.i64.wrap (x4+(1:Int))))
else none
else none) (k2 x0 x1 x2 x3 x4)
theorem at0 (dP) (h120:(qX dP).holds cl) (x0 x1 x2 x3 x4):exec cl N Iw (lS x0 x1 x2 x3 x4) K=(UW dP (fun y0 y1=>K .ret (JR y0 y1)) (fun y0 y1 y2 y3 y4=>K .normal (lS y0 y1 y2 y3 y4)) (fun y0 y1 y2 y3 y4=>K (.exit 2) (lS y0 y1 y2 y3 y4)) x0 x1 x2 x3 x4):=by
 rw [←aJ h120]
 kernel_rfl
def L2 {R:Type} (dP:Int→Option V6) (k0:aW→Bool→Option R) (k1:aW→aF→av→Int→Int→Option R):Nat→aW→aF→av→Int→Int→Option R
 | 0,_,_,_,_,_=>none
 | m+1,x0,x1,x2,x3,x4=>(UW dP k0 (L2 dP k0 k1 m) k1 x0 x1 x2 x3 x4)
theorem ahm (dP) (h120:(qX dP).holds cl):∀ (m) (x0 x1 x2 x3 x4),iter [2,4,7,9,11] (fun env K=>exec cl N Iw env K) K m (lS x0 x1 x2 x3 x4)=L2 dP (fun y0 y1=>K .ret (JR y0 y1)) (fun y0 y1 y2 y3 y4=>K (.exit 2) (lS y0 y1 y2 y3 y4)) m x0 x1 x2 x3 x4:=by
 intro m
 induction m with
 | zero=>intros; rfl
 | succ m ih=>
   intro x0 x1 x2 x3 x4
   simp only [bX,at0 dP h120,bZ,bY,b5,Wz,ih]
   rfl
theorem afp (x0 x1):aj [2,3] (JR x0 x1)=(rG x0 x1):=by kernel_rfl
theorem afq (x0 x1 x2 x3 x4):aj [2,3] (lS x0 x1 x2 x3 x4)=(u0 x0):=by kernel_rfl
def UX (N:Nat) (dP:Int→Option V6) (k0:aW→Bool→Option R) (k1:aW→Option R) (x0:aW) (x1:aF) (x2:av) (x3 x4:Int):Option R:=
L2 dP k0 (fun y0 y1 y2 y3 y4=>k1 y0) N x0 x1 x2 x3 x4
theorem at1 (dP) (h120:(qX dP).holds cl) (x0 x1 x2 x3 x4):exec cl N Ix (lS x0 x1 x2 x3 x4) K=(UX N dP (fun y0 y1=>K .ret (rG y0 y1)) (fun y0=>K (.exit 2) (u0 y0)) x0 x1 x2 x3 x4):=by
 simp only [Ix,aT,bW,Wz,ahm dP h120,afp,afq]
 rfl
theorem afr (x0 x1):aj [2,3] (rG x0 x1)=(rG x0 x1):=by kernel_rfl
theorem afs (x0):aj [2,3] (u0 x0)=(u0 x0):=by kernel_rfl
def UP (k0:aW→Bool→Option R) (x0:aW):Option R:=
k0 ([],[],(0:Int),(0:Int),()) false
theorem atU (x0):exec cl N RU (u0 x0) K=(UP (fun y0 y1=>K .ret (JS y0 y1)) x0):=by
 kernel_rfl
def US (N:Nat) (bP:V3→Option fL) (fV:V3→Option ug) (fW:V3→Option V5) (dP:Int→Option V6) (k0:aW→Bool→Option R) (k1:aW→Bool→Option R) (k2:aW→Bool→Option R) (k3:aW→Bool→Option R) (x0:V3):Option R:=
(UR bP k0 (UN (UT N ((UQ fV fW k1 (UU (UX N dP k2 ((UP k3)))))))) x0)
theorem atX (bP) (fV) (fW) (dP) (h93:(ll bP).holds cl) (h118:(Cl fV).holds cl) (h119:(Cm fW).holds cl) (h120:(qX dP).holds cl) (x0):exec cl N B7 [(0,.v .str x0)] K=(US N bP fV fW dP (fun y0 y1=>K .ret (JP y0 y1)) (fun y0 y1=>K .ret (JQ y0 y1)) (fun y0 y1=>K .ret (rG y0 y1)) (fun y0 y1=>K .ret (JS y0 y1)) x0):=by
 simp only [bQ,bT,bS,bU,atW bP h93,B6,RX,atS,RW,aT,ca,atY,b8,b9,b7,afo,atV fV fW h118 h119,B5,R0,atZ,RZ,at1 dP h120,afr,afs,atU]
 rfl
theorem ame (y0 y1):ag d94 .ret (JP y0 y1)=some [.v aE y0,.v .bool y1]:=by kernel_rfl
theorem amf (y0 y1):ag d94 .ret (JQ y0 y1)=some [.v aE y0,.v .bool y1]:=by kernel_rfl
theorem amg (y0 y1):ag d94 .ret (rG y0 y1)=some [.v aE y0,.v .bool y1]:=by kernel_rfl
theorem amh (y0 y1):ag d94 .ret (JS y0 y1)=some [.v aE y0,.v .bool y1]:=by kernel_rfl
def Lf (N:Nat) (bP:V3→Option fL) (fV:V3→Option ug) (fW:V3→Option V5) (dP:Int→Option V6) (x0:V3) (k:aW→Bool→Option R):Option R:=
(US N bP fV fW dP k k k k x0)
theorem aaI (bP) (fV) (fW) (dP) (h93:(ll bP).holds cl) (h118:(Cl fV).holds cl) (h119:(Cm fW).holds cl) (h120:(qX dP).holds cl) (x0) (k:List E→Option R):exec cl N Is [(0,.v .str x0)] (fun e env=>(ag d94 e env).bind k)=Lf N bP fV fW dP x0 (fun r0 r1=>k [.v aE r0,.v .bool r1]):=by
 simp only [Is,atX bP fV fW dP h93 h118 h119 h120,ame,amf,amg,amh,aq]
 rfl
def oY (S:V3→Option nD):aN:=cC 94 .str S fun b=> [.v aE b.1,.v .bool b.2]
def c7 (N:Nat) (x0:V3):Option nD:=Lf N (bP N) (fV N) (fW N) (dP N) x0 (fun (r0:aW) (r1:Bool)=>some (r0,r1))
def Ks (k0:Bool→Option R) (x0:Int):Option R:=
ad (decide (x0≥(97:Int))) (k0 (decide (x0≤(122:Int)))) (k0 false)
theorem ao1 (x0):exec cl N Oc [(0,.v U0 x0)] K=(Ks (fun y0=>K .ret [(2,.v .bool y0)]) x0):=by
 kernel_rfl
theorem aj6 (y0):ag d135 .ret [(2,.v .bool y0)]=some [.v .bool y0]:=by kernel_rfl
def CY (x0:Int) (k:Bool→Option R):Option R:=
(Ks k x0)
theorem ZD (x0) (k:List E→Option R):exec cl N Fy [(0,.v U0 x0)] (fun e env=>(ag d135 e env).bind k)=CY x0 (fun r0=>k [.v .bool r0]):=by
 simp only [Fy,ao1,aj6,aq]
 rfl
def oS (S:Int→Option (Bool)):aN:=cC 135 U0 S fun b=> [.v .bool b]
def cJ (N:Nat) (x0:Int):Option (Bool):=CY x0 (fun (r0:Bool)=>some (r0))
def vw (cJ:Int→Option (Bool)) (k0:Int→Option R) (k1:V3→Int→Option R) (x0:V3):Option R:=
ad (x0==([]:List UInt8)) (k0 (0:Int)) (if 0≤(0:Int)∧(0:Int) < (x0.length:Int) then
(cJ ((x0.getD (0:Int).toNat 0).toNat:Int)).bind fun r593=>
ad (!r593) (k0 (0:Int)) (k1 x0 (1:Int))
else none)
theorem aob (cJ) (h135:(oS cJ).holds cl) (x0):exec cl N AG [(0,.v .str x0)] K=(vw cJ (fun y0=>K .ret (gW y0)) (fun y0 y1=>exec cl N AF (cw y0 y1) K) x0):=by
 rw [←aJ h135]
 delta AG
 generalize AF=q
 revert q
 refine id ?_
 intro q
 kernel_rfl
theorem VG (x0 x1):aj [0,3] (cw x0 x1)=(cw x0 x1):=by kernel_rfl
def vr (cJ:Int→Option (Bool)) (bA:Int→Option (Bool)) (k0:V3→Int→Option R) (k1:V3→Int→Option R) (x0:V3) (x1:Int):Option R:=
ad (decide (x1 < (x0.length:Int))) (if 0≤x1∧x1 < (x0.length:Int) then
(cJ ((x0.getD x1.toNat 0).toNat:Int)).bind fun r596=>
ad r596 (k0 x0 (IntKind.i64.wrap (x1+(1:Int)))) (if 0≤x1∧x1 < (x0.length:Int) then
(bA ((x0.getD x1.toNat 0).toNat:Int)).bind fun r599=>
ad r599 (k0 x0 (IntKind.i64.wrap (x1+(1:Int)))) (if 0≤x1∧x1 < (x0.length:Int) then
ad (((x0.getD x1.toNat 0).toNat:Int) != (45:Int)) (k1 x0 x1) (ad ((IntKind.i64.wrap (x1+(1:Int)))==(x0.length:Int)) (k1 x0 x1) (let v605:Int:=(IntKind.i64.wrap (x1+(1:Int)))
if 0≤v605∧v605 < (x0.length:Int) then
(cJ ((x0.getD v605.toNat 0).toNat:Int)).bind fun r607=>
ad (!r607) (let v608:Int:=(IntKind.i64.wrap (x1+(1:Int)))
if 0≤v608∧v608 < (x0.length:Int) then
(bA ((x0.getD v608.toNat 0).toNat:Int)).bind fun r610=>
ad (!r610) (k1 x0 x1) (k0 x0 (IntKind.i64.wrap (x1+(2:Int))))
else none) (k0 x0 (IntKind.i64.wrap (x1+(2:Int))))
else none))
else none)
else none)
else none) (k1 x0 x1)
theorem an8 (cJ) (bA) (h135:(oS cJ).holds cl) (h136:(kK bA).holds cl) (x0 x1):exec cl N EZ (cw x0 x1) K=(vr cJ bA (fun y0 y1=>K .normal (cw y0 y1)) (fun y0 y1=>K (.exit 0) (cw y0 y1)) x0 x1):=by
 rw [←aJ h135]
 rw [←aJ h136]
 kernel_rfl
def pY {R:Type} (cJ:Int→Option (Bool)) (bA:Int→Option (Bool)) (k0:V3→Int→Option R):Nat→V3→Int→Option R
 | 0,_,_=>none
 | m+1,x0,x1=>(vr cJ bA (pY cJ bA k0 m) k0 x0 x1)
theorem agw (cJ) (bA) (h135:(oS cJ).holds cl) (h136:(kK bA).holds cl):∀ (m) (x0 x1),iter [0,3] (fun env K=>exec cl N EZ env K) K m (cw x0 x1)=pY cJ bA (fun y0 y1=>K (.exit 0) (cw y0 y1)) m x0 x1:=by
 intro m
 induction m with
 | zero=>intros; rfl
 | succ m ih=>
   intro x0 x1
   simp only [bX,an8 cJ bA h135 h136,bZ,bY,b5,VG,ih]
   rfl
theorem acH (x0 x1):aj [3] (cw x0 x1)=[(3,.v U2 x1)]:=by kernel_rfl
def vt (N:Nat) (cJ:Int→Option (Bool)) (bA:Int→Option (Bool)) (k0:Int→Option R) (x0:V3) (x1:Int):Option R:=
pY cJ bA (fun y0 y1=>k0 y1) N x0 x1
theorem an9 (cJ) (bA) (h135:(oS cJ).holds cl) (h136:(kK bA).holds cl) (x0 x1):exec cl N E0 (cw x0 x1) K=(vt N cJ bA (fun y0=>K (.exit 0) [(3,.v U2 y0)]) x0 x1):=by
 simp only [E0,aT,bW,VG,agw cJ bA h135 h136,acH]
 rfl
theorem acI (x0):aj [3] [(3,.v U2 x0)]=[(3,.v U2 x0)]:=by kernel_rfl
def vu (k0:Int→Option R) (x0:Int):Option R:=
k0 x0
theorem aoa (x0):exec cl N Nz [(3,.v U2 x0)] K=(vu (fun y0=>K .ret [(2,.v U2 y0)]) x0):=by
 kernel_rfl
def vx (N:Nat) (cJ:Int→Option (Bool)) (bA:Int→Option (Bool)) (k0:Int→Option R) (k1:Int→Option R) (x0:V3):Option R:=
(vw cJ k0 (vt N cJ bA ((vu k1))) x0)
theorem aoc (cJ) (bA) (h135:(oS cJ).holds cl) (h136:(kK bA).holds cl) (x0):exec cl N AG [(0,.v .str x0)] K=(vx N cJ bA (fun y0=>K .ret (gW y0)) (fun y0=>K .ret [(2,.v U2 y0)]) x0):=by
 simp only [bQ,bT,bS,bU,aob cJ h135,AF,Ny,aT,ca,an9 cJ bA h135 h136,b8,b9,b7,acI,aoa]
 rfl
theorem ajI (y0):ag d115 .ret (gW y0)=some [.v U2 y0]:=by kernel_rfl
theorem ajJ (y0):ag d115 .ret [(2,.v U2 y0)]=some [.v U2 y0]:=by kernel_rfl
def rS (N:Nat) (cJ:Int→Option (Bool)) (bA:Int→Option (Bool)) (x0:V3) (k:Int→Option R):Option R:=
(vx N cJ bA k k x0)
theorem Zo (cJ) (bA) (h135:(oS cJ).holds cl) (h136:(kK bA).holds cl) (x0) (k:List E→Option R):exec cl N EY [(0,.v .str x0)] (fun e env=>(ag d115 e env).bind k)=rS N cJ bA x0 (fun r0=>k [.v U2 r0]):=by
 simp only [EY,aoc cJ bA h135 h136,ajI,ajJ,aq]
 rfl
def IN (S:V3→Option (Int)):aN:=cC 115 .str S fun b=> [.v U2 b]
def hQ (N:Nat) (x0:V3):Option (Int):=rS N (cJ N) (bA N) x0 (fun (r0:Int)=>some (r0))
def Lc (hQ:V3→Option (Int)) (k0:Bool→Option R) (x0:V3):Option R:=
ad (x0 != ([]:List UInt8)) (ad (decide ((x0.length:Int)≤(20:Int))) ((hQ x0).bind fun r617=>
k0 (r617==(x0.length:Int))) (k0 false)) (k0 false)
theorem aty (hQ) (h115:(IN hQ).holds cl) (x0):exec cl N RG [(0,.v .str x0)] K=(Lc hQ (fun y0=>K .ret [(2,.v .bool y0)]) x0):=by
 rw [←aJ h115]
 kernel_rfl
theorem al8 (y0):ag d90 .ret [(2,.v .bool y0)]=some [.v .bool y0]:=by kernel_rfl
def Du (hQ:V3→Option (Int)) (x0:V3) (k:Bool→Option R):Option R:=
(Lc hQ k x0)
theorem aaE (hQ) (h115:(IN hQ).holds cl) (x0) (k:List E→Option R):exec cl N Ih [(0,.v .str x0)] (fun e env=>(ag d90 e env).bind k)=Du hQ x0 (fun r0=>k [.v .bool r0]):=by
 simp only [Ih,aty hQ h115,al8,aq]
 rfl
def Cy (S:V3→Option (Bool)):aN:=cC 90 .str S fun b=> [.v .bool b]
def fe (N:Nat) (x0:V3):Option (Bool):=Du (hQ N) x0 (fun (r0:Bool)=>some (r0))
def Tr (k0:Bool→Option R) (k1:Int→Option R) (x0:Int):Option R:=
ad (decide (x0 < (32:Int))) (k0 false) (ad (decide (x0 > (126:Int))) (k0 false) (k1 x0))
theorem an5 (x0):exec cl N AE [(0,.v U0 x0)] K=(Tr (fun y0=>K .ret [(0,.dead),(2,.v .bool y0)]) (fun y0=>exec cl N AD [(0,.v U0 y0),(2,.dead)] K) x0):=by
 delta AE
 generalize AD=q
 revert q
 refine id ?_
 intro q
 kernel_rfl
def Tm (k0:Int→Int→Option R) (x0:Int):Option R:=
k0 x0 (0:Int)
theorem an1 (x0):exec cl N Nt [(0,.v U0 x0),(2,.dead)] K=(Tm (fun y0 y1=>K .normal (lT y0 y1)) x0):=by
 kernel_rfl
theorem VF (x0 x1):aj [0,3] (lT x0 x1)=(lT x0 x1):=by kernel_rfl
def Tn (k0:Bool→Option R) (k1:Int→Int→Option R) (k2:Int→Int→Option R) (x0 x1:Int):Option R:=
ad (decide (x1 < (15:Int))) (if 0≤x1∧x1 < (([32,46,44,59,58,33,63,34,45,91,93,60,62,123,125]:List UInt8).length:Int) then
ad (((([32,46,44,59,58,33,63,34,45,91,93,60,62,123,125]:List UInt8).getD x1.toNat 0).toNat:Int)==x0) (k0 false) (k1 x0 (IntKind.i64.wrap (x1+(1:Int))))
else none) (k2 x0 x1)
theorem an2 (x0 x1):exec cl N EV (lT x0 x1) K=(Tn (fun y0=>K .ret (JT y0)) (fun y0 y1=>K .normal (lT y0 y1)) (fun y0 y1=>K (.exit 0) (lT y0 y1)) x0 x1):=by
 kernel_rfl
def LN {R:Type} (k0:Bool→Option R) (k1:Int→Int→Option R):Nat→Int→Int→Option R
 | 0,_,_=>none
 | m+1,x0,x1=>(Tn k0 (LN k0 k1 m) k1 x0 x1)
theorem agv:∀ (m) (x0 x1),iter [0,3] (fun env K=>exec cl N EV env K) K m (lT x0 x1)=LN (fun y0=>K .ret (JT y0)) (fun y0 y1=>K (.exit 0) (lT y0 y1)) m x0 x1:=by
 intro m
 induction m with
 | zero=>intros; rfl
 | succ m ih=>
   intro x0 x1
   simp only [bX,an2,bZ,bY,b5,VF,ih]
   rfl
theorem acD (x0):aj [2] (JT x0)=[(2,.v .bool x0)]:=by kernel_rfl
theorem acE (x0 x1):aj [2] (lT x0 x1)=[(2,.dead)]:=by kernel_rfl
def To (N:Nat) (k0:Bool→Option R) (k1:Option R) (x0 x1:Int):Option R:=
LN k0 (fun y0 y1=>k1) N x0 x1
theorem an3 (x0 x1):exec cl N EW (lT x0 x1) K=(To N (fun y0=>K .ret [(2,.v .bool y0)]) (K (.exit 0) [(2,.dead)]) x0 x1):=by
 simp only [EW,aT,bW,VF,agv,acD,acE]
 rfl
theorem acF (x0):aj [2] [(2,.v .bool x0)]=[(2,.v .bool x0)]:=by kernel_rfl
theorem acG:aj [2] [(2,.dead)]=[(2,.dead)]:=by kernel_rfl
def Tp (k0:Bool→Option R):Option R:=
k0 true
theorem an4:exec cl N Nw [(2,.dead)] K=(Tp (fun y0=>K .ret [(2,.v .bool y0)])):=by
 kernel_rfl
def Ts (N:Nat) (k0:Bool→Option R) (k1:Bool→Option R) (x0:Int):Option R:=
(Tr k0 (Tm (To N k1 (Tp k1))) x0)
theorem an6 (x0):exec cl N AE [(0,.v U0 x0)] K=(Ts N (fun y0=>K .ret [(0,.dead),(2,.v .bool y0)]) (fun y0=>K .ret [(2,.v .bool y0)]) x0):=by
 simp only [bQ,bT,bS,bU,an5,AD,Nv,an1,Nu,aT,ca,an3,b8,b9,b7,acF,acG,an4]
 rfl
theorem ajF (y0):ag d111 .ret [(0,.dead),(2,.v .bool y0)]=some [.v .bool y0]:=by kernel_rfl
theorem ajG (y0):ag d111 .ret [(2,.v .bool y0)]=some [.v .bool y0]:=by kernel_rfl
def Kh (N:Nat) (x0:Int) (k:Bool→Option R):Option R:=
(Ts N k k x0)
theorem Zm (x0) (k:List E→Option R):exec cl N EU [(0,.v U0 x0)] (fun e env=>(ag d111 e env).bind k)=Kh N x0 (fun r0=>k [.v .bool r0]):=by
 simp only [EU,an6,ajF,ajG,aq]
 rfl
def kJ (S:Int→Option (Bool)):aN:=cC 111 U0 S fun b=> [.v .bool b]
def bz (N:Nat) (x0:Int):Option (Bool):=Kh N x0 (fun (r0:Bool)=>some (r0))
def vC (k0:Int→Option R) (k1:V3→Option R) (x0:V3):Option R:=
ad (x0==([]:List UInt8)) (k0 (7:Int)) (ad (decide ((x0.length:Int) > (4:Int))) (k0 (3:Int)) (k1 x0))
theorem aoh (x0):exec cl N AJ [(0,.v .str x0)] K=(vC (fun y0=>K .ret (gW y0)) (fun y0=>exec cl N AH (rH y0) K) x0):=by
 delta AJ
 generalize AH=q
 revert q
 refine id ?_
 intro q
 kernel_rfl
def vy (k0:V3→Int→Option R) (x0:V3):Option R:=
k0 x0 (0:Int)
theorem aod (x0):exec cl N NA (rH x0) K=(vy (fun y0 y1=>K .normal (cw y0 y1)) x0):=by
 kernel_rfl
theorem VH (x0 x1):aj [0,3] (cw x0 x1)=(cw x0 x1):=by kernel_rfl
def vz (bz:Int→Option (Bool)) (k0:Int→Option R) (k1:V3→Int→Option R) (k2:V3→Int→Option R) (x0:V3) (x1:Int):Option R:=
ad (decide (x1 < (x0.length:Int))) (if 0≤x1∧x1 < (x0.length:Int) then
(bz ((x0.getD x1.toNat 0).toNat:Int)).bind fun r648=>
ad (!r648) (k0 (2:Int)) (if 0≤x1∧x1 < (x0.length:Int) then
ad (decide (((x0.getD x1.toNat 0).toNat:Int)≥(65:Int))) (if 0≤x1∧x1 < (x0.length:Int) then
ad (decide (((x0.getD x1.toNat 0).toNat:Int)≤(90:Int))) (k0 (2:Int)) (k1 x0 (IntKind.i64.wrap (x1+(1:Int))))
else none) (k1 x0 (IntKind.i64.wrap (x1+(1:Int))))
else none)
else none) (k2 x0 x1)
theorem aoe (bz) (h111:(kJ bz).holds cl) (x0 x1):exec cl N E2 (cw x0 x1) K=(vz bz (fun y0=>K .ret (mZ y0)) (fun y0 y1=>K .normal (cw y0 y1)) (fun y0 y1=>K (.exit 0) (cw y0 y1)) x0 x1):=by
 rw [←aJ h111]
 kernel_rfl
def sV {R:Type} (bz:Int→Option (Bool)) (k0:Int→Option R) (k1:V3→Int→Option R):Nat→V3→Int→Option R
 | 0,_,_=>none
 | m+1,x0,x1=>(vz bz k0 (sV bz k0 k1 m) k1 x0 x1)
theorem agx (bz) (h111:(kJ bz).holds cl):∀ (m) (x0 x1),iter [0,3] (fun env K=>exec cl N E2 env K) K m (cw x0 x1)=sV bz (fun y0=>K .ret (mZ y0)) (fun y0 y1=>K (.exit 0) (cw y0 y1)) m x0 x1:=by
 intro m
 induction m with
 | zero=>intros; rfl
 | succ m ih=>
   intro x0 x1
   simp only [bX,aoe bz h111,bZ,bY,b5,VH,ih]
   rfl
theorem acJ (x0):aj [2] (mZ x0)=[(2,.v U2 x0)]:=by kernel_rfl
theorem acK (x0 x1):aj [2] (cw x0 x1)=[(2,.dead)]:=by kernel_rfl
def vA (N:Nat) (bz:Int→Option (Bool)) (k0:Int→Option R) (k1:Option R) (x0:V3) (x1:Int):Option R:=
sV bz k0 (fun y0 y1=>k1) N x0 x1
theorem aof (bz) (h111:(kJ bz).holds cl) (x0 x1):exec cl N E3 (cw x0 x1) K=(vA N bz (fun y0=>K .ret [(2,.v U2 y0)]) (K (.exit 0) [(2,.dead)]) x0 x1):=by
 simp only [E3,aT,bW,VH,agx bz h111,acJ,acK]
 rfl
theorem acL (x0):aj [2] [(2,.v U2 x0)]=[(2,.v U2 x0)]:=by kernel_rfl
theorem acM:aj [2] [(2,.dead)]=[(2,.dead)]:=by kernel_rfl
def vB (k0:Int→Option R):Option R:=
k0 (0:Int)
theorem aog:exec cl N ND [(2,.dead)] K=(vB (fun y0=>K .ret [(2,.v U2 y0)])):=by
 kernel_rfl
def vD (N:Nat) (bz:Int→Option (Bool)) (k0:Int→Option R) (k1:Int→Option R) (x0:V3):Option R:=
(vC k0 (vy (vA N bz k1 (vB k1))) x0)
theorem aoi (bz) (h111:(kJ bz).holds cl) (x0):exec cl N AJ [(0,.v .str x0)] K=(vD N bz (fun y0=>K .ret (gW y0)) (fun y0=>K .ret [(2,.v U2 y0)]) x0):=by
 simp only [bQ,bT,bS,bU,aoh,AH,NC,aod,NB,aT,ca,aof bz h111,b8,b9,b7,acL,acM,aog]
 rfl
theorem ajK (y0):ag d116 .ret (gW y0)=some [.v U2 y0]:=by kernel_rfl
theorem ajL (y0):ag d116 .ret [(2,.v U2 y0)]=some [.v U2 y0]:=by kernel_rfl
def rT (N:Nat) (bz:Int→Option (Bool)) (x0:V3) (k:Int→Option R):Option R:=
(vD N bz k k x0)
theorem Zp (bz) (h111:(kJ bz).holds cl) (x0) (k:List E→Option R):exec cl N E1 [(0,.v .str x0)] (fun e env=>(ag d116 e env).bind k)=rT N bz x0 (fun r0=>k [.v U2 r0]):=by
 simp only [E1,aoi bz h111,ajK,ajL,aq]
 rfl
def Ck (S:V3→Option (Int)):aN:=cC 116 .str S fun b=> [.v U2 b]
def fx (N:Nat) (x0:V3):Option (Int):=rT N (bz N) x0 (fun (r0:Int)=>some (r0))
def yY (fx:V3→Option (Int)) (k0:Int→Option R) (k1:aW→Option R) (x0:aW):Option R:=
(fx x0.1).bind fun r667=>
ad (r667 != (0:Int)) (k0 r667) (ad ((x0.2.1.length:Int)==(0:Int)) (k0 (7:Int)) (ad (decide ((x0.2.1.length:Int) > (2:Int))) (k0 (3:Int)) (k1 x0)))
theorem atD (fx) (h116:(Ck fx).holds cl) (x0):exec cl N BY [(0,.v aE x0)] K=(yY fx (fun y0=>K .ret (e7 y0)) (fun y0=>exec cl N BX (jz y0) K) x0):=by
 rw [←aJ h116]
 delta BY
 generalize BX=q
 revert q
 refine id ?_
 intro q
 kernel_rfl
def yU (k0:aW→Int→Option R) (x0:aW):Option R:=
k0 x0 (0:Int)
theorem atz (x0):exec cl N RH (jz x0) K=(yU (fun y0 y1=>K .normal (lU y0 y1)) x0):=by
 kernel_rfl
theorem Wv (x0 x1):aj [1,4] (lU x0 x1)=(lU x0 x1):=by kernel_rfl
def yV (bN:aQ→Option (Int)) (k0:Int→Option R) (k1:aW→Int→Option R) (k2:aW→Int→Option R) (x0:aW) (x1:Int):Option R:=
ad (decide (x1 < (x0.2.1.length:Int))) (if 0≤x1∧x1 < (x0.2.1.length:Int) then
(bN (x0.2.1.getD x1.toNat ((0:Int),((0:Int),([],()))))).bind fun r672=>
ad (r672 != (0:Int)) (k0 r672) (k1 x0 (IntKind.i64.wrap (x1+(1:Int))))
else none) (k2 x0 x1)
theorem atA (bN) (h117:(mT bN).holds cl) (x0 x1):exec cl N Ij (lU x0 x1) K=(yV bN (fun y0=>K .ret (e9 y0)) (fun y0 y1=>K .normal (lU y0 y1)) (fun y0 y1=>K (.exit 0) (lU y0 y1)) x0 x1):=by
 rw [←aJ h117]
 kernel_rfl
def tn {R:Type} (bN:aQ→Option (Int)) (k0:Int→Option R) (k1:aW→Int→Option R):Nat→aW→Int→Option R
 | 0,_,_=>none
 | m+1,x0,x1=>(yV bN k0 (tn bN k0 k1 m) k1 x0 x1)
theorem ahi (bN) (h117:(mT bN).holds cl):∀ (m) (x0 x1),iter [1,4] (fun env K=>exec cl N Ij env K) K m (lU x0 x1)=tn bN (fun y0=>K .ret (e9 y0)) (fun y0 y1=>K (.exit 0) (lU y0 y1)) m x0 x1:=by
 intro m
 induction m with
 | zero=>intros; rfl
 | succ m ih=>
   intro x0 x1
   simp only [bX,atA bN h117,bZ,bY,b5,Wv,ih]
   rfl
theorem afd (x0):aj [1,2] (e9 x0)=(e7 x0):=by kernel_rfl
theorem afe (x0 x1):aj [1,2] (lU x0 x1)=(jz x0):=by kernel_rfl
def yW (N:Nat) (bN:aQ→Option (Int)) (k0:Int→Option R) (k1:aW→Option R) (x0:aW) (x1:Int):Option R:=
tn bN k0 (fun y0 y1=>k1 y0) N x0 x1
theorem atB (bN) (h117:(mT bN).holds cl) (x0 x1):exec cl N Ik (lU x0 x1) K=(yW N bN (fun y0=>K .ret (e7 y0)) (fun y0=>K (.exit 0) (jz y0)) x0 x1):=by
 simp only [Ik,aT,bW,Wv,ahi bN h117,afd,afe]
 rfl
theorem aff (x0):aj [1,2] (e7 x0)=(e7 x0):=by kernel_rfl
theorem afg (x0):aj [1,2] (jz x0)=(jz x0):=by kernel_rfl
def yX (k0:Int→Option R) (x0:aW):Option R:=
ad (decide (x0.2.2.1 < (0:Int))) (k0 (6:Int)) (ad (decide (x0.2.2.1 > (99:Int))) (k0 (6:Int)) (ad (decide (x0.2.2.2.1 < (0:Int))) (k0 (6:Int)) (ad (decide (x0.2.2.2.1 > (4:Int))) (k0 (6:Int)) (k0 (0:Int)))))
theorem atC (x0):exec cl N RK (jz x0) K=(yX (fun y0=>K .ret [(2,.v U2 y0)]) x0):=by
 kernel_rfl
def yZ (N:Nat) (fx:V3→Option (Int)) (bN:aQ→Option (Int)) (k0:Int→Option R) (k1:Int→Option R) (x0:aW):Option R:=
(yY fx k0 (yU (yW N bN k0 ((yX k1)))) x0)
theorem atE (fx) (bN) (h116:(Ck fx).holds cl) (h117:(mT bN).holds cl) (x0):exec cl N BY [(0,.v aE x0)] K=(yZ N fx bN (fun y0=>K .ret (e7 y0)) (fun y0=>K .ret [(2,.v U2 y0)]) x0):=by
 simp only [bQ,bT,bS,bU,atD fx h116,BX,RJ,atz,RI,aT,ca,atB bN h117,b8,b9,b7,aff,afg,atC]
 rfl
theorem al9 (y0):ag d91 .ret (e7 y0)=some [.v U2 y0]:=by kernel_rfl
theorem ama (y0):ag d91 .ret [(2,.v U2 y0)]=some [.v U2 y0]:=by kernel_rfl
def sN (N:Nat) (fx:V3→Option (Int)) (bN:aQ→Option (Int)) (x0:aW) (k:Int→Option R):Option R:=
(yZ N fx bN k k x0)
theorem aaF (fx) (bN) (h116:(Ck fx).holds cl) (h117:(mT bN).holds cl) (x0) (k:List E→Option R):exec cl N Ii [(0,.v aE x0)] (fun e env=>(ag d91 e env).bind k)=sN N fx bN x0 (fun r0=>k [.v U2 r0]):=by
 simp only [Ii,atE fx bN h116 h117,al9,ama,aq]
 rfl
def oX (S:aW→Option (Int)):aN:=cC 91 aE S fun b=> [.v U2 b]
def cN (N:Nat) (x0:aW):Option (Int):=sN N (fx N) (bN N) x0 (fun (r0:Int)=>some (r0))
def K7 (k0:Int→Option R) (k1:Int→Option R) (x0 x1:Int):Option R:=
ad (decide (x0 < x1)) (k0 (-1:Int)) (ad (decide (x0 > x1)) (k1 (1:Int)) (k1 (0:Int)))
theorem att (x0 x1):exec cl N RB (CI x0 x1) K=(K7 (fun y0=>K .ret (lV y0)) (fun y0=>K .ret [(4,.v U2 y0)]) x0 x1):=by
 kernel_rfl
theorem alU (y0):ag d86 .ret (lV y0)=some [.v U2 y0]:=by kernel_rfl
theorem alV (y0):ag d86 .ret [(4,.v U2 y0)]=some [.v U2 y0]:=by kernel_rfl
def Dr (x0 x1:Int) (k:Int→Option R):Option R:=
(K7 k k x0 x1)
theorem aaB (x0 x1) (k:List E→Option R):exec cl N Ib (CI x0 x1) (fun e env=>(ag d86 e env).bind k)=Dr x0 x1 (fun r0=>k [.v U2 r0]):=by
 simp only [Ib,att,alU,alV,aq]
 rfl
def Jj (S:Int→Int→Option (Int)):aN:=dT 86 U2 U2 S fun b=> [.v U2 b]
def gS (N:Nat) (x0:Int) (x1:Int):Option (Int):=Dr x0 x1 (fun (r0:Int)=>some (r0))
def KT (gS:Int→Int→Option (Int)) (k0:Int→Option R) (k1:Int→Option R) (x0 x1:aQ):Option R:=
(gS x0.1 x1.1).bind fun r696=>
ad (r696 != (0:Int)) (k0 r696) ((gS x0.2.1 x1.2.1).bind fun r698=>
ad (r698 != (0:Int)) (k0 r698) (ad (Op.bytesLess x0.2.2.1 x1.2.2.1) (k0 (-1:Int)) (ad (!((Op.bytesLess x0.2.2.1 x1.2.2.1) || x0.2.2.1==x1.2.2.1)) (k1 (1:Int)) (k1 (0:Int)))))
theorem asl (gS) (h86:(Jj gS).holds cl) (x0 x1):exec cl N QD [(0,.v aC x0),(1,.v aC x1)] K=(KT gS (fun y0=>K .ret [(2,.dead),(3,.dead),(4,.v U2 y0)]) (fun y0=>K .ret [(4,.v U2 y0)]) x0 x1):=by
 rw [←aJ h86]
 kernel_rfl
theorem alq (y0):ag d59 .ret [(2,.dead),(3,.dead),(4,.v U2 y0)]=some [.v U2 y0]:=by kernel_rfl
theorem alr (y0):ag d59 .ret [(4,.v U2 y0)]=some [.v U2 y0]:=by kernel_rfl
def Dl (gS:Int→Int→Option (Int)) (x0 x1:aQ) (k:Int→Option R):Option R:=
(KT gS k k x0 x1)
theorem aao (gS) (h86:(Jj gS).holds cl) (x0 x1) (k:List E→Option R):exec cl N HA [(0,.v aC x0),(1,.v aC x1)] (fun e env=>(ag d59 e env).bind k)=Dl gS x0 x1 (fun r0=>k [.v U2 r0]):=by
 simp only [HA,asl gS h86,alq,alr,aq]
 rfl
def rl (S:aQ→aQ→Option (Int)):aN:=dT 59 aC aC S fun b=> [.v U2 b]
def dD (N:Nat) (x0:aQ) (x1:aQ):Option (Int):=Dl (gS N) x0 x1 (fun (r0:Int)=>some (r0))
def wV (k0:Bool→Option R) (k1:av→av→Option R) (x0 x1:av):Option R:=
ad ((x0.length:Int) != (x1.length:Int)) (k0 false) (k1 x0 x1)
theorem aqJ (x0 x1):exec cl N Bj (rI x0 x1) K=(wV (fun y0=>K .ret (ja y0)) (fun y0 y1=>exec cl N Bi (CJ y0 y1) K) x0 x1):=by
 delta Bj
 generalize Bi=q
 revert q
 refine id ?_
 intro q
 kernel_rfl
def wR (k0:av→av→Int→Option R) (x0 x1:av):Option R:=
k0 x0 x1 (0:Int)
theorem aqF (x0 x1):exec cl N Pv (CJ x0 x1) K=(wR (fun y0 y1 y2=>K .normal (lW y0 y1 y2)) x0 x1):=by
 kernel_rfl
theorem VY (x0 x1 x2):aj [0,1,5] (lW x0 x1 x2)=(lW x0 x1 x2):=by kernel_rfl
def wS (dD:aQ→aQ→Option (Int)) (k0:Bool→Option R) (k1:av→av→Int→Option R) (k2:av→av→Int→Option R) (x0 x1:av) (x2:Int):Option R:=
ad (decide (x2 < (x0.length:Int))) (if 0≤x2∧x2 < (x0.length:Int) then
if 0≤x2∧x2 < (x1.length:Int) then
(dD (x0.getD x2.toNat ((0:Int),((0:Int),([],())))) (x1.getD x2.toNat ((0:Int),((0:Int),([],()))))).bind fun r707=>
ad (r707 != (0:Int)) (k0 false) (k1 x0 x1 (IntKind.i64.wrap (x2+(1:Int))))
else none
else none) (k2 x0 x1 x2)
theorem aqG (dD) (h59:(rl dD).holds cl) (x0 x1 x2):exec cl N GD (lW x0 x1 x2) K=(wS dD (fun y0=>K .ret (ki y0)) (fun y0 y1 y2=>K .normal (lW y0 y1 y2)) (fun y0 y1 y2=>K (.exit 0) (lW y0 y1 y2)) x0 x1 x2):=by
 rw [←aJ h59]
 kernel_rfl
def s6 {R:Type} (dD:aQ→aQ→Option (Int)) (k0:Bool→Option R) (k1:av→av→Int→Option R):Nat→av→av→Int→Option R
 | 0,_,_,_=>none
 | m+1,x0,x1,x2=>(wS dD k0 (s6 dD k0 k1 m) k1 x0 x1 x2)
theorem agT (dD) (h59:(rl dD).holds cl):∀ (m) (x0 x1 x2),iter [0,1,5] (fun env K=>exec cl N GD env K) K m (lW x0 x1 x2)=s6 dD (fun y0=>K .ret (ki y0)) (fun y0 y1 y2=>K (.exit 0) (lW y0 y1 y2)) m x0 x1 x2:=by
 intro m
 induction m with
 | zero=>intros; rfl
 | succ m ih=>
   intro x0 x1 x2
   simp only [bX,aqG dD h59,bZ,bY,b5,VY,ih]
   rfl
theorem adT (x0):aj [4] (ki x0)=[(4,.v .bool x0)]:=by kernel_rfl
theorem adU (x0 x1 x2):aj [4] (lW x0 x1 x2)=[(4,.dead)]:=by kernel_rfl
def wT (N:Nat) (dD:aQ→aQ→Option (Int)) (k0:Bool→Option R) (k1:Option R) (x0 x1:av) (x2:Int):Option R:=
s6 dD k0 (fun y0 y1 y2=>k1) N x0 x1 x2
theorem aqH (dD) (h59:(rl dD).holds cl) (x0 x1 x2):exec cl N GF (lW x0 x1 x2) K=(wT N dD (fun y0=>K .ret [(4,.v .bool y0)]) (K (.exit 0) [(4,.dead)]) x0 x1 x2):=by
 simp only [GF,aT,bW,VY,agT dD h59,adT,adU]
 rfl
theorem adV (x0):aj [4] [(4,.v .bool x0)]=[(4,.v .bool x0)]:=by kernel_rfl
theorem adW:aj [4] [(4,.dead)]=[(4,.dead)]:=by kernel_rfl
def wU (k0:Bool→Option R):Option R:=
k0 true
theorem aqI:exec cl N Py [(4,.dead)] K=(wU (fun y0=>K .ret [(4,.v .bool y0)])):=by
 kernel_rfl
def wW (N:Nat) (dD:aQ→aQ→Option (Int)) (k0:Bool→Option R) (k1:Bool→Option R) (x0 x1:av):Option R:=
(wV k0 (wR (wT N dD k1 (wU k1))) x0 x1)
theorem aqK (dD) (h59:(rl dD).holds cl) (x0 x1):exec cl N Bj (rI x0 x1) K=(wW N dD (fun y0=>K .ret (ja y0)) (fun y0=>K .ret [(4,.v .bool y0)]) x0 x1):=by
 simp only [bQ,bT,bS,bU,aqJ,Bi,Px,aqF,Pw,aT,ca,aqH dD h59,b8,b9,b7,adV,adW,aqI]
 rfl
theorem akL (y0):ag d28 .ret (ja y0)=some [.v .bool y0]:=by kernel_rfl
theorem akM (y0):ag d28 .ret [(4,.v .bool y0)]=some [.v .bool y0]:=by kernel_rfl
def r8 (N:Nat) (dD:aQ→aQ→Option (Int)) (x0 x1:av) (k:Bool→Option R):Option R:=
(wW N dD k k x0 x1)
theorem Z3 (dD) (h59:(rl dD).holds cl) (x0 x1) (k:List E→Option R):exec cl N GC (rI x0 x1) (fun e env=>(ag d28 e env).bind k)=r8 N dD x0 x1 (fun r0=>k [.v .bool r0]):=by
 simp only [GC,aqK dD h59,akL,akM,aq]
 rfl
def mU (S:av→av→Option (Bool)):aN:=dT 28 ba ba S fun b=> [.v .bool b]
def bL (N:Nat) (x0:av) (x1:av):Option (Bool):=r8 N (dD N) x0 x1 (fun (r0:Bool)=>some (r0))
def pM (fe:V3→Option (Bool)) (k0:Int→Int→Option R) (k1:ae→Option R) (x0:ae):Option R:=
(fe x0.1).bind fun r715=>
ad (!r715) (k0 (-1:Int) (2:Int)) (ad ((x0.2.1.length:Int)==(0:Int)) (k0 (-1:Int) (7:Int)) (ad (decide ((x0.2.1.length:Int) > (120:Int))) (k0 (-1:Int) (3:Int)) (k1 x0)))
theorem asI (fe) (h90:(Cy fe).holds cl) (x0):exec cl N BL [(0,.v ar x0)] K=(pM fe (fun y0 y1=>K .ret (rJ y0 y1)) (fun y0=>exec cl N BK (CK y0) K) x0):=by
 rw [←aJ h90]
 delta BL
 generalize BK=q
 revert q
 refine id ?_
 intro q
 kernel_rfl
def pJ (k0:ae→Int→Option R) (x0:ae):Option R:=
k0 x0 (0:Int)
theorem asF (x0):exec cl N QW (CK x0) K=(pJ (fun y0 y1=>K .normal (jb y0 y1)) x0):=by
 kernel_rfl
theorem Wo (x0 x1):aj [1,4] (jb x0 x1)=(jb x0 x1):=by kernel_rfl
def pR (k0:ae→Int→Option R) (k1:ae→Int→Option R) (x0:ae) (x1:Int):Option R:=
ad (decide (x1 < (x0.2.1.length:Int))) (k0 x0 x1) (k1 x0 x1)
theorem asN (x0 x1):exec cl N uE (jb x0 x1) K=(pR (fun y0 y1=>exec cl N BN (jb y0 y1) K) (fun y0 y1=>K (.exit 0) (jb y0 y1)) x0 x1):=by
 delta uE
 generalize BN=q
 revert q
 refine id ?_
 intro q
 kernel_rfl
def pP (cN:aW→Option (Int)) (k0:Int→Int→Option R) (k1:ae→Int→Int→Option R) (x0:ae) (x1:Int):Option R:=
if 0≤x1∧x1 < (x0.2.1.length:Int) then
(cN (x0.2.1.getD x1.toNat ([],([],((0:Int),((0:Int),())))))).bind fun r719=>
ad (r719 != (0:Int)) (k0 x1 r719) (k1 x0 x1 (0:Int))
else none
theorem asL (cN) (h91:(oX cN).holds cl) (x0 x1):exec cl N HP (jb x0 x1) K=(pP cN (fun y0 y1=>K .ret (nQ y0 y1)) (fun y0 y1 y2=>exec cl N BM (lX y0 y1 y2) K) x0 x1):=by
 rw [←aJ h91]
 delta HP
 generalize BM=q
 revert q
 refine id ?_
 intro q
 kernel_rfl
theorem Wp (x0 x1 x2):aj [1,4,6] (lX x0 x1 x2)=(lX x0 x1 x2):=by kernel_rfl
def pK (bL:av→av→Option (Bool)) (k0:Int→Int→Option R) (k1:ae→Int→Int→Option R) (k2:ae→Int→Int→Option R) (x0:ae) (x1 x2:Int):Option R:=
ad (decide (x2 < x1)) (if 0≤x1∧x1 < (x0.2.1.length:Int) then
if 0≤x2∧x2 < (x0.2.1.length:Int) then
ad ((x0.2.1.getD x1.toNat ([],([],((0:Int),((0:Int),()))))).1==(x0.2.1.getD x2.toNat ([],([],((0:Int),((0:Int),()))))).1) (ad ((x0.2.1.getD x1.toNat ([],([],((0:Int),((0:Int),()))))).2.2.2.1==(x0.2.1.getD x2.toNat ([],([],((0:Int),((0:Int),()))))).2.2.2.1) ((bL ((x0.2.1.getD x1.toNat ([],([],((0:Int),((0:Int),()))))).2.1) ((x0.2.1.getD x2.toNat ([],([],((0:Int),((0:Int),()))))).2.1)).bind fun r724=>
ad r724 (k0 x1 (5:Int)) (k1 x0 x1 (IntKind.i64.wrap (x2+(1:Int))))) (k1 x0 x1 (IntKind.i64.wrap (x2+(1:Int))))) (k1 x0 x1 (IntKind.i64.wrap (x2+(1:Int))))
else none
else none) (k2 x0 x1 x2)
theorem asG (bL) (h28:(mU bL).holds cl) (x0 x1 x2):exec cl N HN (lX x0 x1 x2) K=(pK bL (fun y0 y1=>K .ret (JU y0 y1)) (fun y0 y1 y2=>K .normal (lX y0 y1 y2)) (fun y0 y1 y2=>K (.exit 2) (lX y0 y1 y2)) x0 x1 x2):=by
 rw [←aJ h28]
 kernel_rfl
def p9 {R:Type} (bL:av→av→Option (Bool)) (k0:Int→Int→Option R) (k1:ae→Int→Int→Option R):Nat→ae→Int→Int→Option R
 | 0,_,_,_=>none
 | m+1,x0,x1,x2=>(pK bL k0 (p9 bL k0 k1 m) k1 x0 x1 x2)
theorem ahb (bL) (h28:(mU bL).holds cl):∀ (m) (x0 x1 x2),iter [1,4,6] (fun env K=>exec cl N HN env K) K m (lX x0 x1 x2)=p9 bL (fun y0 y1=>K .ret (JU y0 y1)) (fun y0 y1 y2=>K (.exit 2) (lX y0 y1 y2)) m x0 x1 x2:=by
 intro m
 induction m with
 | zero=>intros; rfl
 | succ m ih=>
   intro x0 x1 x2
   simp only [bX,asG bL h28,bZ,bY,b5,Wp,ih]
   rfl
theorem aeN (x0 x1):aj [1,2,3,4] (JU x0 x1)=(nQ x0 x1):=by kernel_rfl
theorem aeO (x0 x1 x2):aj [1,2,3,4] (lX x0 x1 x2)=(u6 x0 x1):=by kernel_rfl
def pO (N:Nat) (bL:av→av→Option (Bool)) (k0:Int→Int→Option R) (k1:ae→Int→Option R) (x0:ae) (x1 x2:Int):Option R:=
p9 bL k0 (fun y0 y1 y2=>k1 y0 y1) N x0 x1 x2
theorem asK (bL) (h28:(mU bL).holds cl) (x0 x1 x2):exec cl N HO (lX x0 x1 x2) K=(pO N bL (fun y0 y1=>K .ret (nQ y0 y1)) (fun y0 y1=>K (.exit 2) (u6 y0 y1)) x0 x1 x2):=by
 simp only [HO,aT,bW,Wp,ahb bL h28,aeN,aeO]
 rfl
theorem aeP (x0 x1):aj [1,2,3,4] (nQ x0 x1)=(nQ x0 x1):=by kernel_rfl
theorem aeQ (x0 x1):aj [1,2,3,4] (u6 x0 x1)=(u6 x0 x1):=by kernel_rfl
def pQ (k0:ae→Int→Option R) (x0:ae) (x1:Int):Option R:=
k0 x0 (IntKind.i64.wrap (x1+(1:Int)))
theorem asM (x0 x1):exec cl N Q1 (u6 x0 x1) K=(pQ (fun y0 y1=>K .normal (jb y0 y1)) x0 x1):=by
 kernel_rfl
def pS (N:Nat) (bL:av→av→Option (Bool)) (cN:aW→Option (Int)) (k0:Int→Int→Option R) (k1:ae→Int→Option R) (k2:ae→Int→Option R) (x0:ae) (x1:Int):Option R:=
(pR (pP cN k0 (pO N bL k0 (((pQ k1))))) k2 x0 x1)
theorem asO (bL) (cN) (h28:(mU bL).holds cl) (h91:(oX cN).holds cl) (x0 x1):exec cl N uE (jb x0 x1) K=(pS N bL cN (fun y0 y1=>K .ret (nQ y0 y1)) (fun y0 y1=>K .normal (jb y0 y1)) (fun y0 y1=>K (.exit 0) (jb y0 y1)) x0 x1):=by
 simp only [bQ,bT,bS,bU,asN,BN,Q0,aT,ca,asL cN h91,BM,asK bL h28,b8,b9,b7,aeP,aeQ,asM]
 rfl
def oi {R:Type} (N:Nat) (bL:av→av→Option (Bool)) (cN:aW→Option (Int)) (k0:Int→Int→Option R) (k1:ae→Int→Option R):Nat→ae→Int→Option R
 | 0,_,_=>none
 | m+1,x0,x1=>(pS N bL cN k0 (oi N bL cN k0 k1 m) k1 x0 x1)
theorem ahc (bL) (cN) (h28:(mU bL).holds cl) (h91:(oX cN).holds cl):∀ (m) (x0 x1),iter [1,4] (fun env K=>exec cl N uE env K) K m (jb x0 x1)=oi N bL cN (fun y0 y1=>K .ret (nQ y0 y1)) (fun y0 y1=>K (.exit 0) (jb y0 y1)) m x0 x1:=by
 intro m
 induction m with
 | zero=>intros; rfl
 | succ m ih=>
   intro x0 x1
   simp only [bX,asO bL cN h28 h91,bZ,bY,b5,Wo,ih]
   rfl
theorem aeR (x0 x1):aj [2,3] (nQ x0 x1)=(jA x0 x1):=by kernel_rfl
theorem aeS (x0 x1):aj [2,3] (jb x0 x1)=[(2,.dead),(3,.dead)]:=by kernel_rfl
def pT (N:Nat) (bL:av→av→Option (Bool)) (cN:aW→Option (Int)) (k0:Int→Int→Option R) (k1:Option R) (x0:ae) (x1:Int):Option R:=
oi N bL cN k0 (fun y0 y1=>k1) N x0 x1
theorem asP (bL) (cN) (h28:(mU bL).holds cl) (h91:(oX cN).holds cl) (x0 x1):exec cl N HQ (jb x0 x1) K=(pT N bL cN (fun y0 y1=>K .ret (jA y0 y1)) (K (.exit 0) [(2,.dead),(3,.dead)]) x0 x1):=by
 simp only [HQ,aT,bW,Wo,ahc bL cN h28 h91,aeR,aeS]
 rfl
theorem aeT (x0 x1):aj [2,3] (jA x0 x1)=(jA x0 x1):=by kernel_rfl
theorem aeU:aj [2,3] [(2,.dead),(3,.dead)]=[(2,.dead),(3,.dead)]:=by kernel_rfl
def pL (k0:Int→Int→Option R):Option R:=
k0 (-1:Int) (0:Int)
theorem asH:exec cl N QZ [(2,.dead),(3,.dead)] K=(pL (fun y0 y1=>K .ret (jA y0 y1))):=by
 kernel_rfl
def pN (N:Nat) (bL:av→av→Option (Bool)) (fe:V3→Option (Bool)) (cN:aW→Option (Int)) (k0:Int→Int→Option R) (k1:Int→Int→Option R) (x0:ae):Option R:=
(pM fe k0 (pJ (pT N bL cN k1 (pL k1))) x0)
theorem asJ (bL) (fe) (cN) (h28:(mU bL).holds cl) (h90:(Cy fe).holds cl) (h91:(oX cN).holds cl) (x0):exec cl N BL [(0,.v ar x0)] K=(pN N bL fe cN (fun y0 y1=>K .ret (rJ y0 y1)) (fun y0 y1=>K .ret (jA y0 y1)) x0):=by
 simp only [bQ,bT,bS,bU,asI fe h90,BK,QY,asF,QX,aT,ca,asP bL cN h28 h91,b8,b9,b7,aeT,aeU,asH]
 rfl
theorem alC (y0 y1):ag d67 .ret (rJ y0 y1)=some [.v U2 y0,.v U2 y1]:=by kernel_rfl
theorem alD (y0 y1):ag d67 .ret (jA y0 y1)=some [.v U2 y0,.v U2 y1]:=by kernel_rfl
def oc (N:Nat) (bL:av→av→Option (Bool)) (fe:V3→Option (Bool)) (cN:aW→Option (Int)) (x0:ae) (k:Int→Int→Option R):Option R:=
(pN N bL fe cN k k x0)
theorem aat (bL) (fe) (cN) (h28:(mU bL).holds cl) (h90:(Cy fe).holds cl) (h91:(oX cN).holds cl) (x0) (k:List E→Option R):exec cl N HM [(0,.v ar x0)] (fun e env=>(ag d67 e env).bind k)=oc N bL fe cN x0 (fun r0 r1=>k [.v U2 r0,.v U2 r1]):=by
 simp only [HM,asJ bL fe cN h28 h90 h91,alC,alD,aq]
 rfl
def ru (S:ae→Option V1):aN:=cC 67 ar S fun b=> [.v U2 b.1,.v U2 b.2]
def dM (N:Nat) (x0:ae):Option V1:=oc N (bL N) (fe N) (cN N) x0 (fun (r0:Int) (r1:Int)=>some (r0,r1))
def Uu (fZ:V3→Option fL) (k0:ae→Int→Int→Option R) (k1:ae→Int→Int→Option R) (k2:V3→ae→aF→ae→Option R) (x0:V3):Option R:=
ad (decide ((x0.length:Int) > (20000:Int))) (k0 ([],[],()) (0:Int) (3:Int)) ((fZ x0).bind fun r734=>
ad ((r734.length:Int)==(0:Int)) (k1 ([],[],()) (1:Int) (2:Int)) (k2 x0 ([],([],())) r734 ([],([],()))))
theorem asT (fZ) (h92:(Cz fZ).holds cl) (x0):exec cl N BP [(0,.v .str x0)] K=(Uu fZ (fun y0 y1 y2=>K .ret (JV y0 y1 y2)) (fun y0 y1 y2=>K .ret (JW y0 y1 y2)) (fun y0 y1 y2 y3=>exec cl N BO (SU y0 y1 y2 y3) K) x0):=by
 rw [←aJ h92]
 delta BP
 generalize BO=q
 revert q
 refine id ?_
 intro q
 kernel_rfl
def Ur (k0:V3→ae→aF→ae→Int→Option R) (x0:V3) (x1:ae) (x2:aF) (x3:ae):Option R:=
k0 x0 x1 x2 x3 (0:Int)
theorem asQ (x0 x1 x2 x3):exec cl N Q2 (SU x0 x1 x2 x3) K=(Ur (fun y0 y1 y2 y3 y4=>K .normal (gX y0 y1 y2 y3 y4)) x0 x1 x2 x3):=by
 kernel_rfl
theorem Wq (x0 x1 x2 x3 x4):aj [0,2,5,6,7] (gX x0 x1 x2 x3 x4)=(gX x0 x1 x2 x3 x4):=by kernel_rfl
def Us (k0:V3→ae→aF→ae→Int→Option R) (k1:V3→ae→aF→ae→Int→Option R) (x0:V3) (x1:ae) (x2:aF) (x3:ae) (x4:Int):Option R:=
ad (decide (x4 < (x2.length:Int))) (k0 x0 x1 x2 x3 x4) (k1 x0 x1 x2 x3 x4)
theorem asR (x0 x1 x2 x3 x4):exec cl N Q3 (gX x0 x1 x2 x3 x4) K=(Us (fun y0 y1 y2 y3 y4=>K .normal (gX y0 y1 y2 y3 y4)) (fun y0 y1 y2 y3 y4=>K (.exit 0) (gX y0 y1 y2 y3 y4)) x0 x1 x2 x3 x4):=by
 kernel_rfl
def Uw (k0:V3→ae→aF→ae→Int→Bool→Option R) (x0:V3) (x1:ae) (x2:aF) (x3:ae) (x4:Int):Option R:=
ad (x4==(IntKind.i64.wrap ((x2.length:Int) - (1:Int)))) (let v738:Int:=(IntKind.i64.wrap ((x0.length:Int) - (1:Int)))
if 0≤v738∧v738 < (x0.length:Int) then
k0 x0 x1 x2 x3 x4 (((x0.getD v738.toNat 0).toNat:Int) != (10:Int))
else none) (k0 x0 x1 x2 x3 x4 false)
theorem asV (x0 x1 x2 x3 x4):exec cl N Q7 (gX x0 x1 x2 x3 x4) K=(Uw (fun y0 y1 y2 y3 y4 y5=>K .normal (SV y0 y1 y2 y3 y4 y5)) x0 x1 x2 x3 x4):=by
 kernel_rfl
def Ux (bP:V3→Option fL) (c7:V3→Option nD) (k0:ae→Int→Int→Option R) (k1:V3→ae→aF→ae→Int→Option R) (x0:V3) (x1:ae) (x2:aF) (x3:ae) (x4:Int) (x5:Bool):Option R:=
if 0≤x4∧x4 < (x2.length:Int) then
if x4.toNat < x2.length then
(bP (x2.getD x4.toNat [])).bind fun r742=>
if 0≤x4∧x4 < (x2.length:Int) then
if x4.toNat < x2.length then
(c7 (x2.getD x4.toNat [])).bind fun r744=>
ad (x4==(0:Int)) (ad ((r742.length:Int)==(2:Int)) (if 0≤(0:Int)∧(0:Int) < (r742.length:Int) then
if ((0:Int).toNat) < r742.length then
ad x5 (k0 ([],[],()) (IntKind.i64.wrap (x4+(1:Int))) (2:Int)) (ad (!((r742.getD ((0:Int).toNat) [])==([111,114,116,104,111,103,114,97,112,104,121]:List UInt8))) (k0 ([],[],()) (IntKind.i64.wrap (x4+(1:Int))) (2:Int)) (ad (x4==(0:Int)) (if 0≤(1:Int)∧(1:Int) < (r742.length:Int) then
if ((1:Int).toNat) < r742.length then
k1 x0 x1 x2 ((r742.getD ((1:Int).toNat) []),x3.2) x4
else none
else none) (if x3.2.1.length+[r744.1].length≤2513169434916 then
k1 x0 x1 x2 (x3.1,((x3.2.1++[r744.1]),x3.2.2)) x4
else none)))
else none
else none) (ad x5 (k0 ([],[],()) (IntKind.i64.wrap (x4+(1:Int))) (2:Int)) (k0 ([],[],()) (IntKind.i64.wrap (x4+(1:Int))) (2:Int)))) (ad x5 (k0 ([],[],()) (IntKind.i64.wrap (x4+(1:Int))) (2:Int)) (ad (!r744.2) (k0 ([],[],()) (IntKind.i64.wrap (x4+(1:Int))) (2:Int)) (ad (x4==(0:Int)) (if 0≤(1:Int)∧(1:Int) < (r742.length:Int) then
if ((1:Int).toNat) < r742.length then
k1 x0 x1 x2 ((r742.getD ((1:Int).toNat) []),x3.2) x4
else none
else none) (if x3.2.1.length+[r744.1].length≤2513169434916 then
k1 x0 x1 x2 (x3.1,((x3.2.1++[r744.1]),x3.2.2)) x4
else none))))
else none
else none
else none
else none
theorem asW (bP) (c7) (h93:(ll bP).holds cl) (h94:(oY c7).holds cl) (x0 x1 x2 x3 x4 x5):exec cl N Q8 (SV x0 x1 x2 x3 x4 x5) K=(Ux bP c7 (fun y0 y1 y2=>K .ret (SX y0 y1 y2)) (fun y0 y1 y2 y3 y4=>K .normal (gX y0 y1 y2 y3 y4)) x0 x1 x2 x3 x4 x5):=by
 rw [←aJ h93]
 rw [←aJ h94]
 kernel_rfl
theorem aeV (x0 x1 x2):aj [0,2,3,4,5,6,7] (SX x0 x1 x2)=(CL x0 x1 x2):=by kernel_rfl
theorem aeW (x0 x1 x2 x3 x4):aj [0,2,3,4,5,6,7] (gX x0 x1 x2 x3 x4)=(SY x0 x1 x2 x3 x4):=by kernel_rfl
def Uy (k0:V3→ae→aF→ae→Int→Option R) (x0:V3) (x1:ae) (x2:aF) (x3:ae) (x4:Int):Option R:=
k0 x0 x1 x2 x3 (IntKind.i64.wrap (x4+(1:Int)))
theorem asX (x0 x1 x2 x3 x4):exec cl N Rb (SY x0 x1 x2 x3 x4) K=(Uy (fun y0 y1 y2 y3 y4=>K .normal (gX y0 y1 y2 y3 y4)) x0 x1 x2 x3 x4):=by
 kernel_rfl
def Uz (bP:V3→Option fL) (c7:V3→Option nD) (k0:ae→Int→Int→Option R) (k1:V3→ae→aF→ae→Int→Option R) (k2:V3→ae→aF→ae→Int→Option R) (x0:V3) (x1:ae) (x2:aF) (x3:ae) (x4:Int):Option R:=
(Us (Uw (Ux bP c7 k0 ((Uy k1)))) k2 x0 x1 x2 x3 x4)
theorem asY (bP) (c7) (h93:(ll bP).holds cl) (h94:(oY c7).holds cl) (x0 x1 x2 x3 x4):exec cl N BQ (gX x0 x1 x2 x3 x4) K=(Uz bP c7 (fun y0 y1 y2=>K .ret (CL y0 y1 y2)) (fun y0 y1 y2 y3 y4=>K .normal (gX y0 y1 y2 y3 y4)) (fun y0 y1 y2 y3 y4=>K (.exit 0) (gX y0 y1 y2 y3 y4)) x0 x1 x2 x3 x4):=by
 simp only [BQ,bQ,bT,bS,bU,asR,Rc,Ra,aT,ca,Q9,asV,asW bP c7 h93 h94,b8,b9,b7,aeV,aeW,asX]
 rfl
def LY {R:Type} (bP:V3→Option fL) (c7:V3→Option nD) (k0:ae→Int→Int→Option R) (k1:V3→ae→aF→ae→Int→Option R):Nat→V3→ae→aF→ae→Int→Option R
 | 0,_,_,_,_,_=>none
 | m+1,x0,x1,x2,x3,x4=>(Uz bP c7 k0 (LY bP c7 k0 k1 m) k1 x0 x1 x2 x3 x4)
theorem ahd (bP) (c7) (h93:(ll bP).holds cl) (h94:(oY c7).holds cl):∀ (m) (x0 x1 x2 x3 x4),iter [0,2,5,6,7] (fun env K=>exec cl N BQ env K) K m (gX x0 x1 x2 x3 x4)=LY bP c7 (fun y0 y1 y2=>K .ret (CL y0 y1 y2)) (fun y0 y1 y2 y3 y4=>K (.exit 0) (gX y0 y1 y2 y3 y4)) m x0 x1 x2 x3 x4:=by
 intro m
 induction m with
 | zero=>intros; rfl
 | succ m ih=>
   intro x0 x1 x2 x3 x4
   simp only [bX,asY bP c7 h93 h94,bZ,bY,b5,Wq,ih]
   rfl
theorem aeX (x0 x1 x2):aj [2,3,4,6] (CL x0 x1 x2)=(o9 x0 x1 x2):=by kernel_rfl
theorem aeY (x0 x1 x2 x3 x4):aj [2,3,4,6] (gX x0 x1 x2 x3 x4)=(u7 x1 x3):=by kernel_rfl
def UA (N:Nat) (bP:V3→Option fL) (c7:V3→Option nD) (k0:ae→Int→Int→Option R) (k1:ae→ae→Option R) (x0:V3) (x1:ae) (x2:aF) (x3:ae) (x4:Int):Option R:=
LY bP c7 k0 (fun y0 y1 y2 y3 y4=>k1 y1 y3) N x0 x1 x2 x3 x4
theorem asZ (bP) (c7) (h93:(ll bP).holds cl) (h94:(oY c7).holds cl) (x0 x1 x2 x3 x4):exec cl N HS (gX x0 x1 x2 x3 x4) K=(UA N bP c7 (fun y0 y1 y2=>K .ret (o9 y0 y1 y2)) (fun y0 y1=>K (.exit 0) (u7 y0 y1)) x0 x1 x2 x3 x4):=by
 simp only [HS,aT,bW,Wq,ahd bP c7 h93 h94,aeX,aeY]
 rfl
theorem aeZ (x0 x1 x2):aj [2,3,4,6] (o9 x0 x1 x2)=(o9 x0 x1 x2):=by kernel_rfl
theorem ae0 (x0 x1):aj [2,3,4,6] (u7 x0 x1)=(u7 x0 x1):=by kernel_rfl
def Ut (dM:ae→Option V1) (k0:ae→Int→Int→Option R) (k1:ae→Int→Int→Option R) (x0 x1:ae):Option R:=
(dM x1).bind fun r760=>
ad (r760.2 != (0:Int)) (ad (decide (r760.1≥(0:Int))) (k0 ([],[],()) (IntKind.i64.wrap (r760.1+(2:Int))) r760.2) (k0 ([],[],()) (1:Int) r760.2)) (k1 x1 (0:Int) (0:Int))
theorem asS (dM) (h67:(ru dM).holds cl) (x0 x1):exec cl N Q6 (u7 x0 x1) K=(Ut dM (fun y0 y1 y2=>K .ret (o9 y0 y1 y2)) (fun y0 y1 y2=>K .ret (JX y0 y1 y2)) x0 x1):=by
 rw [←aJ h67]
 kernel_rfl
def Uv (N:Nat) (dM:ae→Option V1) (fZ:V3→Option fL) (bP:V3→Option fL) (c7:V3→Option nD) (k0:ae→Int→Int→Option R) (k1:ae→Int→Int→Option R) (k2:ae→Int→Int→Option R) (k3:ae→Int→Int→Option R) (x0:V3):Option R:=
(Uu fZ k0 k1 (Ur (UA N bP c7 k2 ((Ut dM k2 k3)))) x0)
theorem asU (dM) (fZ) (bP) (c7) (h67:(ru dM).holds cl) (h92:(Cz fZ).holds cl) (h93:(ll bP).holds cl) (h94:(oY c7).holds cl) (x0):exec cl N BP [(0,.v .str x0)] K=(Uv N dM fZ bP c7 (fun y0 y1 y2=>K .ret (JV y0 y1 y2)) (fun y0 y1 y2=>K .ret (JW y0 y1 y2)) (fun y0 y1 y2=>K .ret (o9 y0 y1 y2)) (fun y0 y1 y2=>K .ret (JX y0 y1 y2)) x0):=by
 simp only [bQ,bT,bS,bU,asT fZ h92,BO,Q5,asQ,Q4,aT,ca,asZ bP c7 h93 h94,b8,b9,b7,aeZ,ae0,asS dM h67]
 rfl
theorem alE (y0 y1 y2):ag d69 .ret (JV y0 y1 y2)=some [.v ar y0,.v U2 y1,.v U2 y2]:=by kernel_rfl
theorem alF (y0 y1 y2):ag d69 .ret (JW y0 y1 y2)=some [.v ar y0,.v U2 y1,.v U2 y2]:=by kernel_rfl
theorem alG (y0 y1 y2):ag d69 .ret (o9 y0 y1 y2)=some [.v ar y0,.v U2 y1,.v U2 y2]:=by kernel_rfl
theorem alH (y0 y1 y2):ag d69 .ret (JX y0 y1 y2)=some [.v ar y0,.v U2 y1,.v U2 y2]:=by kernel_rfl
def K2 (N:Nat) (dM:ae→Option V1) (fZ:V3→Option fL) (bP:V3→Option fL) (c7:V3→Option nD) (x0:V3) (k:ae→Int→Int→Option R):Option R:=
(Uv N dM fZ bP c7 k k k k x0)
theorem aau (dM) (fZ) (bP) (c7) (h67:(ru dM).holds cl) (h92:(Cz fZ).holds cl) (h93:(ll bP).holds cl) (h94:(oY c7).holds cl) (x0) (k:List E→Option R):exec cl N HR [(0,.v .str x0)] (fun e env=>(ag d69 e env).bind k)=K2 N dM fZ bP c7 x0 (fun r0 r1 r2=>k [.v ar r0,.v U2 r1,.v U2 r2]):=by
 simp only [HR,asU dM fZ bP c7 h67 h92 h93 h94,alE,alF,alG,alH,aq]
 rfl
def Jf (S:V3→Option Ak):aN:=cC 69 .str S fun b=> [.v ar b.1,.v U2 b.2.1,.v U2 b.2.2]
def jq (N:Nat) (x0:V3):Option Ak:=K2 N (dM N) (fZ N) (bP N) (c7 N) x0 (fun (r0:ae) (r1:Int) (r2:Int)=>some (r0,r1,r2))
def Uq (jq:V3→Option Ak) (k0:ae→Option R):Option R:=
(jq ([111,114,116,104,111,103,114,97,112,104,121,32,108,97,116,105,110,10,97,32,97,47,118,51,32,49,32,97,110,121,119,104,101,114,101,10,101,32,101,47,118,51,32,49,32,97,110,121,119,104,101,114,101,10,105,32,105,47,118,51,32,49,32,97,110,121,119,104,101,114,101,10,111,32,111,47,118,51,32,49,32,97,110,121,119,104,101,114,101,10,117,32,117,47,118,51,32,49,32,97,110,121,119,104,101,114,101,10,121,32,121,47,118,51,32,49,32,97,110,121,119,104,101,114,101,10,97,95,32,97,95,47,118,50,32,49,32,97,110,121,119,104,101,114,101,10,101,95,32,101,95,47,118,50,32,49,32,97,110,121,119,104,101,114,101,10,105,95,32,105,95,47,118,50,32,49,32,97,110,121,119,104,101,114,101,10,111,95,32,111,95,47,118,50,32,49,32,97,110,121,119,104,101,114,101,10,117,95,32,117,95,47,118,50,32,49,32,97,110,121,119,104,101,114,101,10,121,95,32,121,95,47,118,50,32,49,32,97,110,121,119,104,101,114,101,10,97,94,32,97,94,47,118,49,32,49,32,97,110,121,119,104,101,114,101,10,101,94,32,101,94,47,118,49,32,49,32,97,110,121,119,104,101,114,101,10,105,94,32,105,94,47,118,49,32,49,32,97,110,121,119,104,101,114,101,10,111,94,32,111,94,47,118,49,32,49,32,97,110,121,119,104,101,114,101,10,117,94,32,117,94,47,118,49,32,49,32,97,110,121,119,104,101,114,101,10,121,94,32,121,94,47,118,49,32,49,32,97,110,121,119,104,101,114,101,10,97,101,32,97,101,47,100,50,32,49,32,97,110,121,119,104,101,114,101,10,97,117,32,97,117,47,100,50,32,49,32,97,110,121,119,104,101,114,101,10,111,101,32,111,101,47,100,50,32,49,32,97,110,121,119,104,101,114,101,10,101,117,32,101,117,47,100,50,32,51,32,97,110,121,119,104,101,114,101,10,105,32,105,47,103,32,48,32,115,116,97,114,116,10,105,32,105,47,103,32,105,47,103,32,48,32,98,101,116,119,101,101,110,10,117,32,117,47,103,32,48,32,115,116,97,114,116,10,117,32,117,47,103,32,48,32,98,101,116,119,101,101,110,10,106,32,106,47,103,32,48,32,97,110,121,119,104,101,114,101,10,118,32,118,47,103,32,48,32,97,110,121,119,104,101,114,101,10,113,117,32,113,117,47,109,32,48,32,98,101,102,111,114,101,10,103,117,32,103,117,47,109,32,50,32,98,101,102,111,114,101,10,115,117,32,115,47,115,32,117,47,103,32,51,32,98,101,102,111,114,101,10,98,32,98,47,109,32,48,32,97,110,121,119,104,101,114,101,10,99,32,99,47,109,32,48,32,97,110,121,119,104,101,114,101,10,100,32,100,47,109,32,48,32,97,110,121,119,104,101,114,101,10,102,32,102,47,109,32,48,32,97,110,121,119,104,101,114,101,10,103,32,103,47,109,32,48,32,97,110,121,119,104,101,114,101,10,107,32,107,47,109,32,48,32,97,110,121,119,104,101,114,101,10,112,32,112,47,109,32,48,32,97,110,121,119,104,101,114,101,10,116,32,116,47,109,32,48,32,97,110,121,119,104,101,114,101,10,108,32,108,47,108,32,48,32,97,110,121,119,104,101,114,101,10,114,32,114,47,108,32,48,32,97,110,121,119,104,101,114,101,10,109,32,109,47,110,32,48,32,97,110,121,119,104,101,114,101,10,110,32,110,47,110,32,48,32,97,110,121,119,104,101,114,101,10,115,32,115,47,115,32,48,32,97,110,121,119,104,101,114,101,10,120,32,120,47,120,32,48,32,97,110,121,119,104,101,114,101,10,122,32,122,47,120,32,48,32,97,110,121,119,104,101,114,101,10,104,32,104,47,98,32,48,32,97,110,121,119,104,101,114,101,10]:List UInt8)).bind fun r765=>
k0 r765.1
theorem ara (jq) (h69:(Jf jq).holds cl):exec cl N PT [] K=(Uq jq (fun y0=>K .ret [(0,.loc ar .no y0)])):=by
 rw [←aJ h69]
 kernel_rfl
theorem akY (y0):ag d37 .ret [(0,.loc ar .no y0)]=some [.v ar y0]:=by kernel_rfl
def KM (jq:V3→Option Ak) (k:ae→Option R):Option R:=
(Uq jq k)
theorem Z9 (jq) (h69:(Jf jq).holds cl) (k:List E→Option R):exec cl N GV [] (fun e env=>(ag d37 e env).bind k)=KM jq (fun r0=>k [.v ar r0]):=by
 simp only [GV,ara jq h69,akY,aq]
 rfl
def Cs (S:Option uh):aN:={A:=Unit,B:=ae,f:=37,enc:=fun a=> [],dec:=cz,S:=fun a=>S,aw:=fun b=> [.v ar b],ok:=(fun es b h=>jv h)}
def iu (N:Nat):Option uh:=KM (jq N) (fun (r0:ae)=>some (r0))
def KC (k0:Bool→Option R) (x0:Int):Option R:=
ad (decide (x0≥(97:Int))) (k0 (decide (x0≤(122:Int)))) (k0 false)
theorem apE (x0):exec cl N OI [(0,.v U0 x0)] K=(KC (fun y0=>K .ret [(2,.v .bool y0)]) x0):=by
 kernel_rfl
theorem akn (y0):ag d149 .ret [(2,.v .bool y0)]=some [.v .bool y0]:=by kernel_rfl
def C8 (x0:Int) (k:Bool→Option R):Option R:=
(KC k x0)
theorem ZO (x0) (k:List E→Option R):exec cl N F0 [(0,.v U0 x0)] (fun e env=>(ag d149 e env).bind k)=C8 x0 (fun r0=>k [.v .bool r0]):=by
 simp only [F0,apE,akn,aq]
 rfl
def oU (S:Int→Option (Bool)):aN:=cC 149 U0 S fun b=> [.v .bool b]
def cM (N:Nat) (x0:Int):Option (Bool):=C8 x0 (fun (r0:Bool)=>some (r0))
def KD (k0:Bool→Option R) (x0:Int):Option R:=
ad (decide (x0≥(48:Int))) (k0 (decide (x0≤(57:Int)))) (k0 false)
theorem apF (x0):exec cl N OJ [(0,.v U0 x0)] K=(KD (fun y0=>K .ret [(2,.v .bool y0)]) x0):=by
 kernel_rfl
theorem ako (y0):ag d150 .ret [(2,.v .bool y0)]=some [.v .bool y0]:=by kernel_rfl
def C9 (x0:Int) (k:Bool→Option R):Option R:=
(KD k x0)
theorem ZQ (x0) (k:List E→Option R):exec cl N F2 [(0,.v U0 x0)] (fun e env=>(ag d150 e env).bind k)=C9 x0 (fun r0=>k [.v .bool r0]):=by
 simp only [F2,apF,ako,aq]
 rfl
def rj (S:Int→Option (Bool)):aN:=cC 150 U0 S fun b=> [.v .bool b]
def dw (N:Nat) (x0:Int):Option (Bool):=C9 x0 (fun (r0:Bool)=>some (r0))
def C4 (cM:Int→Option (Bool)) (k0:Int→Option R) (k1:V3→Int→Option R) (x0:V3):Option R:=
ad (x0==([]:List UInt8)) (k0 (0:Int)) (if 0≤(0:Int)∧(0:Int) < (x0.length:Int) then
(cM ((x0.getD (0:Int).toNat 0).toNat:Int)).bind fun r799=>
ad (!r799) (k0 (0:Int)) (k1 x0 (1:Int))
else none)
theorem apt (cM) (h149:(oU cM).holds cl) (x0):exec cl N A2 [(0,.v .str x0)] K=(C4 cM (fun y0=>K .ret (gW y0)) (fun y0 y1=>exec cl N A1 (cw y0 y1) K) x0):=by
 rw [←aJ h149]
 delta A2
 generalize A1=q
 revert q
 refine id ?_
 intro q
 kernel_rfl
theorem adh (x0 x1):aj [0,3] (cw x0 x1)=(cw x0 x1):=by kernel_rfl
def C1 (cM:Int→Option (Bool)) (dw:Int→Option (Bool)) (k0:V3→Int→Option R) (k1:Int→Option R) (k2:V3→Int→Option R) (x0:V3) (x1:Int):Option R:=
ad (decide (x1 < (x0.length:Int))) (if 0≤x1∧x1 < (x0.length:Int) then
let v801:Int:=((x0.getD x1.toNat 0).toNat:Int)
(cM v801).bind fun r802=>
ad r802 (k0 x0 (IntKind.i64.wrap (x1+(1:Int)))) ((dw v801).bind fun r804=>
ad r804 (k0 x0 (IntKind.i64.wrap (x1+(1:Int)))) (ad (v801==(45:Int)) (ad (decide ((IntKind.i64.wrap (x1+(1:Int))) < (x0.length:Int))) (let v809:Int:=(IntKind.i64.wrap (x1+(1:Int)))
if 0≤v809∧v809 < (x0.length:Int) then
(cM ((x0.getD v809.toNat 0).toNat:Int)).bind fun r811=>
ad r811 (k0 x0 (IntKind.i64.wrap (x1+(2:Int)))) (let v813:Int:=(IntKind.i64.wrap (x1+(1:Int)))
if 0≤v813∧v813 < (x0.length:Int) then
(dw ((x0.getD v813.toNat 0).toNat:Int)).bind fun r815=>
ad r815 (k0 x0 (IntKind.i64.wrap (x1+(2:Int)))) (k1 x1)
else none)
else none) (k1 x1)) (k1 x1)))
else none) (k2 x0 x1)
theorem apq (cM) (dw) (h149:(oU cM).holds cl) (h150:(rj dw).holds cl) (x0 x1):exec cl N FQ (cw x0 x1) K=(C1 cM dw (fun y0 y1=>K .normal [(0,.v .str y0),(2,.dead),(3,.v U2 y1)]) (fun y0=>K .ret (mZ y0)) (fun y0 y1=>K (.exit 0) (cw y0 y1)) x0 x1):=by
 rw [←aJ h149]
 rw [←aJ h150]
 kernel_rfl
theorem adi (x0 x1):aj [0,3] [(0,.v .str x0),(2,.dead),(3,.v U2 x1)]=(cw x0 x1):=by kernel_rfl
def zq {R:Type} (cM:Int→Option (Bool)) (dw:Int→Option (Bool)) (k0:Int→Option R) (k1:V3→Int→Option R):Nat→V3→Int→Option R
 | 0,_,_=>none
 | m+1,x0,x1=>(C1 cM dw (zq cM dw k0 k1 m) k0 k1 x0 x1)
theorem agI (cM) (dw) (h149:(oU cM).holds cl) (h150:(rj dw).holds cl):∀ (m) (x0 x1),iter [0,3] (fun env K=>exec cl N FQ env K) K m (cw x0 x1)=zq cM dw (fun y0=>K .ret (mZ y0)) (fun y0 y1=>K (.exit 0) (cw y0 y1)) m x0 x1:=by
 intro m
 induction m with
 | zero=>intros; rfl
 | succ m ih=>
   intro x0 x1
   simp only [bX,apq cM dw h149 h150,bZ,bY,b5,adi,ih]
   rfl
theorem adj (x0):aj [2,3] (mZ x0)=(kj x0):=by kernel_rfl
theorem adk (x0 x1):aj [2,3] (cw x0 x1)=(jc x1):=by kernel_rfl
def C2 (N:Nat) (cM:Int→Option (Bool)) (dw:Int→Option (Bool)) (k0:Int→Option R) (k1:Int→Option R) (x0:V3) (x1:Int):Option R:=
zq cM dw k0 (fun y0 y1=>k1 y1) N x0 x1
theorem apr (cM) (dw) (h149:(oU cM).holds cl) (h150:(rj dw).holds cl) (x0 x1):exec cl N FR (cw x0 x1) K=(C2 N cM dw (fun y0=>K .ret (kj y0)) (fun y0=>K (.exit 0) (jc y0)) x0 x1):=by
 simp only [FR,aT,bW,adh,agI cM dw h149 h150,adj,adk]
 rfl
theorem adl (x0):aj [2,3] (kj x0)=(kj x0):=by kernel_rfl
theorem adm (x0):aj [2,3] (jc x0)=(jc x0):=by kernel_rfl
def C3 (k0:Int→Option R) (x0:Int):Option R:=
k0 x0
theorem aps (x0):exec cl N Ox (jc x0) K=(C3 (fun y0=>K .ret [(2,.v U2 y0)]) x0):=by
 kernel_rfl
def C5 (N:Nat) (cM:Int→Option (Bool)) (dw:Int→Option (Bool)) (k0:Int→Option R) (k1:Int→Option R) (k2:Int→Option R) (x0:V3):Option R:=
(C4 cM k0 (C2 N cM dw k1 ((C3 k2))) x0)
theorem apu (cM) (dw) (h149:(oU cM).holds cl) (h150:(rj dw).holds cl) (x0):exec cl N A2 [(0,.v .str x0)] K=(C5 N cM dw (fun y0=>K .ret (gW y0)) (fun y0=>K .ret (kj y0)) (fun y0=>K .ret [(2,.v U2 y0)]) x0):=by
 simp only [bQ,bT,bS,bU,apt cM h149,A1,Ow,aT,ca,apr cM dw h149 h150,b8,b9,b7,adl,adm,aps]
 rfl
theorem akf (y0):ag d141 .ret (gW y0)=some [.v U2 y0]:=by kernel_rfl
theorem akg (y0):ag d141 .ret (kj y0)=some [.v U2 y0]:=by kernel_rfl
theorem akh (y0):ag d141 .ret [(2,.v U2 y0)]=some [.v U2 y0]:=by kernel_rfl
def wb (N:Nat) (cM:Int→Option (Bool)) (dw:Int→Option (Bool)) (x0:V3) (k:Int→Option R):Option R:=
(C5 N cM dw k k k x0)
theorem ZJ (cM) (dw) (h149:(oU cM).holds cl) (h150:(rj dw).holds cl) (x0) (k:List E→Option R):exec cl N FP [(0,.v .str x0)] (fun e env=>(ag d141 e env).bind k)=wb N cM dw x0 (fun r0=>k [.v U2 r0]):=by
 simp only [FP,apu cM dw h149 h150,akf,akg,akh,aq]
 rfl
def IU (S:V3→Option (Int)):aN:=cC 141 .str S fun b=> [.v U2 b]
def hY (N:Nat) (x0:V3):Option (Int):=wb N (cM N) (dw N) x0 (fun (r0:Int)=>some (r0))
def Kn (hY:V3→Option (Int)) (k0:Bool→Option R) (x0:V3):Option R:=
ad (x0 != ([]:List UInt8)) (ad (decide ((x0.length:Int)≤(20:Int))) ((hY x0).bind fun r821=>
k0 (r821==(x0.length:Int))) (k0 false)) (k0 false)
theorem aoE (hY) (h141:(IU hY).holds cl) (x0):exec cl N NT [(0,.v .str x0)] K=(Kn hY (fun y0=>K .ret [(2,.v .bool y0)]) x0):=by
 rw [←aJ h141]
 kernel_rfl
theorem ajW (y0):ag d121 .ret [(2,.v .bool y0)]=some [.v .bool y0]:=by kernel_rfl
def CV (hY:V3→Option (Int)) (x0:V3) (k:Bool→Option R):Option R:=
(Kn hY k x0)
theorem Zv (hY) (h141:(IU hY).holds cl) (x0) (k:List E→Option R):exec cl N Fg [(0,.v .str x0)] (fun e env=>(ag d121 e env).bind k)=CV hY x0 (fun r0=>k [.v .bool r0]):=by
 simp only [Fg,aoE hY h141,ajW,aq]
 rfl
def Cn (S:V3→Option (Bool)):aN:=cC 121 .str S fun b=> [.v .bool b]
def fm (N:Nat) (x0:V3):Option (Bool):=CV (hY N) x0 (fun (r0:Bool)=>some (r0))
def yG (k0:V0→Option R) (x0:V3):Option R:=
k0 (x0.map fun b=>(b.toNat:Int))
theorem atb (x0):exec cl N BS [(0,.v .str x0)] K=(yG (fun y0=>exec cl N BR (pa y0) K) x0):=by
 delta BS
 generalize BR=q
 revert q
 refine id ?_
 intro q
 kernel_rfl
def yC (k0:V0→Int→Int→Option R) (x0:V0):Option R:=
k0 x0 (x0.length:Int) (0:Int)
theorem as7 (x0):exec cl N Rl (pa x0) K=(yC (fun y0 y1 y2=>K .normal (lY y0 y1 y2)) x0):=by
 kernel_rfl
theorem Ws (x0 x1 x2):aj [3,8,9,10] (lY x0 x1 x2)=(lY x0 x1 x2):=by kernel_rfl
def yD (k0:V0→Int→Int→Option R) (k1:V0→Int→Int→Option R) (x0:V0) (x1 x2:Int):Option R:=
ad (decide (x2 < x1)) (if 0≤x2∧x2 < (x0.length:Int) then
if x2.toNat < x0.length then
let v840:Int:=(x0.getD x2.toNat (0:Int))
ad (decide (v840≥(65:Int))) (ad (decide (v840≤(90:Int))) (if 0≤x2∧x2 < (x0.length:Int) then
if x2.toNat < x0.length then
k0 (x0.set x2.toNat (IntKind.u8.wrap ((IntKind.u8.wrap (v840 - (65:Int)))+(97:Int)))) x1 (IntKind.i64.wrap (x2+(1:Int)))
else none
else none) (k0 x0 x1 (IntKind.i64.wrap (x2+(1:Int))))) (k0 x0 x1 (IntKind.i64.wrap (x2+(1:Int))))
else none
else none) (k1 x0 x1 x2)
theorem as8 (x0 x1 x2):exec cl N HZ (lY x0 x1 x2) K=(yD (fun y0 y1 y2=>K .normal (lY y0 y1 y2)) (fun y0 y1 y2=>K (.exit 0) (lY y0 y1 y2)) x0 x1 x2):=by
 kernel_rfl
def tk {R:Type} (k0:V0→Int→Int→Option R):Nat→V0→Int→Int→Option R
 | 0,_,_,_=>none
 | m+1,x0,x1,x2=>(yD (tk k0 m) k0 x0 x1 x2)
theorem ahf:∀ (m) (x0 x1 x2),iter [3,8,9,10] (fun env K=>exec cl N HZ env K) K m (lY x0 x1 x2)=tk (fun y0 y1 y2=>K (.exit 0) (lY y0 y1 y2)) m x0 x1 x2:=by
 intro m
 induction m with
 | zero=>intros; rfl
 | succ m ih=>
   intro x0 x1 x2
   simp only [bX,as8,bZ,bY,b5,Ws,ih]
   rfl
theorem ae5 (x0 x1 x2):aj [3] (lY x0 x1 x2)=(pa x0):=by kernel_rfl
def yE (N:Nat) (k0:V0→Option R) (x0:V0) (x1 x2:Int):Option R:=
tk (fun y0 y1 y2=>k0 y0) N x0 x1 x2
theorem as9 (x0 x1 x2):exec cl N H0 (lY x0 x1 x2) K=(yE N (fun y0=>K (.exit 0) (pa y0)) x0 x1 x2):=by
 simp only [H0,aT,bW,Ws,ahf,ae5]
 rfl
theorem ae6 (x0):aj [3] (pa x0)=(pa x0):=by kernel_rfl
def yF (k0:V3→Option R) (x0:V0):Option R:=
k0 (x0.map fun n=>UInt8.ofNat n.toNat)
theorem ata (x0):exec cl N Ro (pa x0) K=(yF (fun y0=>K .ret [(2,.v .str y0)]) x0):=by
 kernel_rfl
def yH (N:Nat) (k0:V3→Option R) (x0:V3):Option R:=
(yG (yC (yE N ((yF k0)))) x0)
theorem atc (x0):exec cl N BS [(0,.v .str x0)] K=(yH N (fun y0=>K .ret [(2,.v .str y0)]) x0):=by
 simp only [bQ,bT,bS,bU,atb,BR,Rn,as7,Rm,aT,ca,as9,b8,b9,b7,ae6,ata]
 rfl
theorem alM (y0):ag d72 .ret [(2,.v .str y0)]=some [.v .str y0]:=by kernel_rfl
def sI (N:Nat) (x0:V3) (k:V3→Option R):Option R:=
(yH N k x0)
theorem aax (x0) (k:List E→Option R):exec cl N HY [(0,.v .str x0)] (fun e env=>(ag d72 e env).bind k)=sI N x0 (fun r0=>k [.v .str r0]):=by
 simp only [HY,atc,alM,aq]
 rfl
def uO (S:V3→Option V6):aN:=cC 72 .str S fun b=> [.v .str b]
def ez (N:Nat) (x0:V3):Option V6:=sI N x0 (fun (r0:V3)=>some (r0))
def wC (k0:Int→Option R) (k1:V3→Option R) (x0:V3):Option R:=
ad (decide ((x0.length:Int) > (120:Int))) (k0 (3:Int)) (k1 x0)
theorem apU (x0):exec cl N A6 [(0,.v .str x0)] K=(wC (fun y0=>K .ret (gW y0)) (fun y0=>exec cl N A5 (rH y0) K) x0):=by
 delta A6
 generalize A5=q
 revert q
 refine id ?_
 intro q
 kernel_rfl
def wx (k0:V0→Int→Int→Option R) (x0:V3):Option R:=
k0 (x0.map fun b=>(b.toNat:Int)) ((x0.map fun b=>(b.toNat:Int)).length:Int) (0:Int)
theorem apQ (x0):exec cl N OS (rH x0) K=(wx (fun y0 y1 y2=>K .normal (lZ y0 y1 y2)) x0):=by
 kernel_rfl
theorem VT (x0 x1 x2):aj [9,10,11] (lZ x0 x1 x2)=(lZ x0 x1 x2):=by kernel_rfl
def wz (k0:Int→Option R) (k1:V0→Int→Int→Option R) (k2:V0→Int→Int→Option R) (x0:V0) (x1 x2:Int):Option R:=
ad (decide (x2 < x1)) (if 0≤x2∧x2 < (x0.length:Int) then
if x2.toNat < x0.length then
let v858:Int:=(x0.getD x2.toNat (0:Int))
ad (decide (v858 < (32:Int))) (k0 (2:Int)) (ad (decide (v858 > (126:Int))) (k0 (2:Int)) (k1 x0 x1 (IntKind.i64.wrap (x2+(1:Int)))))
else none
else none) (k2 x0 x1 x2)
theorem apR (x0 x1 x2):exec cl N Gb (lZ x0 x1 x2) K=(wz (fun y0=>K .ret (JY y0)) (fun y0 y1 y2=>K .normal (lZ y0 y1 y2)) (fun y0 y1 y2=>K (.exit 0) (lZ y0 y1 y2)) x0 x1 x2):=by
 kernel_rfl
def sZ {R:Type} (k0:Int→Option R) (k1:V0→Int→Int→Option R):Nat→V0→Int→Int→Option R
 | 0,_,_,_=>none
 | m+1,x0,x1,x2=>(wz k0 (sZ k0 k1 m) k1 x0 x1 x2)
theorem agL:∀ (m) (x0 x1 x2),iter [9,10,11] (fun env K=>exec cl N Gb env K) K m (lZ x0 x1 x2)=sZ (fun y0=>K .ret (JY y0)) (fun y0 y1 y2=>K (.exit 0) (lZ y0 y1 y2)) m x0 x1 x2:=by
 intro m
 induction m with
 | zero=>intros; rfl
 | succ m ih=>
   intro x0 x1 x2
   simp only [bX,apR,bZ,bY,b5,VT,ih]
   rfl
theorem adt (x0):aj [2] (JY x0)=[(2,.v U2 x0)]:=by kernel_rfl
theorem adu (x0 x1 x2):aj [2] (lZ x0 x1 x2)=[(2,.dead)]:=by kernel_rfl
def wA (N:Nat) (k0:Int→Option R) (k1:Option R) (x0:V0) (x1 x2:Int):Option R:=
sZ k0 (fun y0 y1 y2=>k1) N x0 x1 x2
theorem apS (x0 x1 x2):exec cl N Gc (lZ x0 x1 x2) K=(wA N (fun y0=>K .ret [(2,.v U2 y0)]) (K (.exit 0) [(2,.dead)]) x0 x1 x2):=by
 simp only [Gc,aT,bW,VT,agL,adt,adu]
 rfl
theorem adv (x0):aj [2] [(2,.v U2 x0)]=[(2,.v U2 x0)]:=by kernel_rfl
theorem adw:aj [2] [(2,.dead)]=[(2,.dead)]:=by kernel_rfl
def wB (k0:Int→Option R):Option R:=
k0 (0:Int)
theorem apT:exec cl N OV [(2,.dead)] K=(wB (fun y0=>K .ret [(2,.v U2 y0)])):=by
 kernel_rfl
def wD (N:Nat) (k0:Int→Option R) (k1:Int→Option R) (x0:V3):Option R:=
(wC k0 (wx (wA N k1 (wB k1))) x0)
theorem apV (x0):exec cl N A6 [(0,.v .str x0)] K=(wD N (fun y0=>K .ret (gW y0)) (fun y0=>K .ret [(2,.v U2 y0)]) x0):=by
 simp only [bQ,bT,bS,bU,apU,A5,OU,apQ,OT,aT,ca,apS,b8,b9,b7,adv,adw,apT]
 rfl
theorem akw (y0):ag d158 .ret (gW y0)=some [.v U2 y0]:=by kernel_rfl
theorem akx (y0):ag d158 .ret [(2,.v U2 y0)]=some [.v U2 y0]:=by kernel_rfl
def r6 (N:Nat) (x0:V3) (k:Int→Option R):Option R:=
(wD N k k x0)
theorem ZW (x0) (k:List E→Option R):exec cl N Ga [(0,.v .str x0)] (fun e env=>(ag d158 e env).bind k)=r6 N x0 (fun r0=>k [.v U2 r0]):=by
 simp only [Ga,apV,akw,akx,aq]
 rfl
def Cr (S:V3→Option (Int)):aN:=cC 158 .str S fun b=> [.v U2 b]
def fB (N:Nat) (x0:V3):Option (Int):=r6 N x0 (fun (r0:Int)=>some (r0))
def TH (fo:V3→Int→Option (Int)) (k0:Int→Option R) (x0:V3) (x1:Int):Option R:=
(fo x0 x1).bind fun r869=>
k0 r869
theorem aoZ (fo) (h145:(kh fo).holds cl) (x0 x1):exec cl N Oa [(0,.v .str x0),(1,.v U0 x1)] K=(TH fo (fun y0=>K .ret [(4,.v U2 y0)]) x0 x1):=by
 rw [←aJ h145]
 kernel_rfl
theorem aj4 (y0):ag d127 .ret [(4,.v U2 y0)]=some [.v U2 y0]:=by kernel_rfl
def Kq (fo:V3→Int→Option (Int)) (x0:V3) (x1:Int) (k:Int→Option R):Option R:=
(TH fo k x0 x1)
theorem ZB (fo) (h145:(kh fo).holds cl) (x0 x1) (k:List E→Option R):exec cl N Fv [(0,.v .str x0),(1,.v U0 x1)] (fun e env=>(ag d127 e env).bind k)=Kq fo x0 x1 (fun r0=>k [.v U2 r0]):=by
 simp only [Fv,aoZ fo h145,aj4,aq]
 rfl
def IT (S:V3→Int→Option (Int)):aN:=dT 127 .str U0 S fun b=> [.v U2 b]
def jo (N:Nat) (x0:V3) (x1:Int):Option (Int):=Kq (fo N) x0 x1 (fun (r0:Int)=>some (r0))
def UY (jo:V3→Int→Option (Int)) (k0:Bool→Option R) (x0:Int):Option R:=
ad (decide (x0≥(32:Int))) (ad (decide (x0≤(126:Int))) ((jo ([32,46,44,59,58,33,63,34,45,91,93,60,62,123,125]:List UInt8) x0).bind fun r874=>
k0 (decide (r874 < (0:Int)))) (k0 false)) (k0 false)
theorem aua (jo) (h127:(IT jo).holds cl) (x0):exec cl N R7 [(0,.v U0 x0)] K=(UY jo (fun y0=>K .ret [(2,.v .bool y0)]) x0):=by
 rw [←aJ h127]
 kernel_rfl
theorem amm (y0):ag d98 .ret [(2,.v .bool y0)]=some [.v .bool y0]:=by kernel_rfl
def Li (jo:V3→Int→Option (Int)) (x0:Int) (k:Bool→Option R):Option R:=
(UY jo k x0)
theorem aaM (jo) (h127:(IT jo).holds cl) (x0) (k:List E→Option R):exec cl N ID [(0,.v U0 x0)] (fun e env=>(ag d98 e env).bind k)=Li jo x0 (fun r0=>k [.v .bool r0]):=by
 simp only [ID,aua jo h127,amm,aq]
 rfl
def nP (S:Int→Option (Bool)):aN:=cC 98 U0 S fun b=> [.v .bool b]
def ck (N:Nat) (x0:Int):Option (Bool):=Li (jo N) x0 (fun (r0:Bool)=>some (r0))
def wu (fB:V3→Option (Int)) (k0:gr→Int→Option R) (k1:V3→gr→Option R) (x0:V3):Option R:=
(fB x0).bind fun r891=>
ad (r891 != (0:Int)) (k0 [] r891) (k1 x0 [])
theorem apK (fB) (h158:(Cr fB).holds cl) (x0):exec cl N A4 [(0,.v .str x0)] K=(wu fB (fun y0 y1=>K .ret (JZ y0 y1)) (fun y0 y1=>exec cl N A3 [(0,.v .str y0),(5,.own true 179 ei .no y1)] K) x0):=by
 rw [←aJ h158]
 delta A4
 generalize A3=q
 revert q
 refine id ?_
 intro q
 kernel_rfl
def wk (k0:gr→V0→Int→Int→Option R) (x0:V3) (x1:gr):Option R:=
k0 x1 (x0.map fun b=>(b.toNat:Int)) ((x0.map fun b=>(b.toNat:Int)).length:Int) (0:Int)
theorem apG (x0 x1):exec cl N OK [(0,.v .str x0),(5,.own true 179 ei .no x1)] K=(wk (fun y0 y1 y2 y3=>K .normal (l6 y0 y1 y2 y3)) x0 x1):=by
 kernel_rfl
theorem VS (x0 x1 x2 x3):aj [5,15,16,17] (l6 x0 x1 x2 x3)=(l6 x0 x1 x2 x3):=by kernel_rfl
def wm (ck:Int→Option (Bool)) (k0:gr→V0→Int→Int→Option R) (k1:gr→V0→Int→Int→Option R) (x0:gr) (x1:V0) (x2 x3:Int):Option R:=
ad (decide (x3 < x2)) (if 0≤x3∧x3 < (x1.length:Int) then
if x3.toNat < x1.length then
(ck (x1.getD x3.toNat (0:Int))).bind fun r895=>
ad (!r895) (k0 x0 x1 x2 (IntKind.i64.wrap (x3+(1:Int)))) (ad (decide ((x0.length:Int) > (0:Int))) (let v898:Int:=(IntKind.i64.wrap ((x0.length:Int) - (1:Int)))
if 0≤v898∧v898 < (x0.length:Int) then
if v898.toNat < x0.length then
ad (((x0.getD v898.toNat ((0:Int),((0:Int),()))).2.1)==x3) (let v900:Int:=(IntKind.i64.wrap ((x0.length:Int) - (1:Int)))
if 0≤v900∧v900 < (x0.length:Int) then
if v900.toNat < x0.length then
if 0≤v900∧v900 < (x0.length:Int) then
if v900.toNat < x0.length then
k0 (x0.set v900.toNat ((x0.getD v900.toNat ((0:Int),((0:Int),()))).1,((IntKind.i64.wrap (((x0.getD v900.toNat ((0:Int),((0:Int),()))).2.1)+(1:Int))),(x0.getD v900.toNat ((0:Int),((0:Int),()))).2.2))) x1 x2 (IntKind.i64.wrap (x3+(1:Int)))
else none
else none
else none
else none) (let v905:uf:=(x3,(IntKind.i64.wrap (x3+(1:Int))),())
if x0.length+[v905].length≤8796093022208 then
k0 (x0++[v905]) x1 x2 (IntKind.i64.wrap (x3+(1:Int)))
else none)
else none
else none) (let v908:uf:=(x3,(IntKind.i64.wrap (x3+(1:Int))),())
if x0.length+[v908].length≤8796093022208 then
k0 (x0++[v908]) x1 x2 (IntKind.i64.wrap (x3+(1:Int)))
else none))
else none
else none) (k1 x0 x1 x2 x3)
theorem apH (ck) (h98:(nP ck).holds cl) (x0 x1 x2 x3):exec cl N F4 (l6 x0 x1 x2 x3) K=(wm ck (fun y0 y1 y2 y3=>K .normal (l6 y0 y1 y2 y3)) (fun y0 y1 y2 y3=>K (.exit 0) (l6 y0 y1 y2 y3)) x0 x1 x2 x3):=by
 rw [←aJ h98]
 kernel_rfl
def p6 {R:Type} (ck:Int→Option (Bool)) (k0:gr→V0→Int→Int→Option R):Nat→gr→V0→Int→Int→Option R
 | 0,_,_,_,_=>none
 | m+1,x0,x1,x2,x3=>(wm ck (p6 ck k0 m) k0 x0 x1 x2 x3)
theorem agK (ck) (h98:(nP ck).holds cl):∀ (m) (x0 x1 x2 x3),iter [5,15,16,17] (fun env K=>exec cl N F4 env K) K m (l6 x0 x1 x2 x3)=p6 ck (fun y0 y1 y2 y3=>K (.exit 0) (l6 y0 y1 y2 y3)) m x0 x1 x2 x3:=by
 intro m
 induction m with
 | zero=>intros; rfl
 | succ m ih=>
   intro x0 x1 x2 x3
   simp only [bX,apH ck h98,bZ,bY,b5,VS,ih]
   rfl
theorem adr (x0 x1 x2 x3):aj [5] (l6 x0 x1 x2 x3)=(va x0):=by kernel_rfl
def wo (N:Nat) (ck:Int→Option (Bool)) (k0:gr→Option R) (x0:gr) (x1:V0) (x2 x3:Int):Option R:=
p6 ck (fun y0 y1 y2 y3=>k0 y0) N x0 x1 x2 x3
theorem apI (ck) (h98:(nP ck).holds cl) (x0 x1 x2 x3):exec cl N F5 (l6 x0 x1 x2 x3) K=(wo N ck (fun y0=>K (.exit 0) (va y0)) x0 x1 x2 x3):=by
 simp only [F5,aT,bW,VS,agK ck h98,adr]
 rfl
theorem ads (x0):aj [5] (va x0)=(va x0):=by kernel_rfl
def wq (k0:Int→gr→Option R) (x0:gr):Option R:=
k0 (0:Int) x0
theorem apJ (x0):exec cl N ON (va x0) K=(wq (fun y0 y1=>K .ret (J0 y0 y1)) x0):=by
 kernel_rfl
def wv (N:Nat) (ck:Int→Option (Bool)) (fB:V3→Option (Int)) (k0:gr→Int→Option R) (k1:Int→gr→Option R) (x0:V3):Option R:=
(wu fB k0 (wk (wo N ck ((wq k1)))) x0)
theorem apL (ck) (fB) (h98:(nP ck).holds cl) (h158:(Cr fB).holds cl) (x0):exec cl N A4 [(0,.v .str x0)] K=(wv N ck fB (fun y0 y1=>K .ret (JZ y0 y1)) (fun y0 y1=>K .ret (J0 y0 y1)) x0):=by
 simp only [bQ,bT,bS,bU,apK fB h158,A3,OM,apG,OL,aT,ca,apI ck h98,b8,b9,b7,ads,apJ]
 rfl
theorem akp (y0 y1):ag d151 .ret (JZ y0 y1)=some [.own true 179 ei .no y0,.v U2 y1]:=by kernel_rfl
theorem akq (y0 y1):ag d151 .ret (J0 y0 y1)=some [.own true 179 ei .no y1,.v U2 y0]:=by kernel_rfl
def rZ (N:Nat) (ck:Int→Option (Bool)) (fB:V3→Option (Int)) (x0:V3) (k:gr→Int→Option R):Option R:=
(wv N ck fB k (fun y0 y1=>k y1 y0) x0)
theorem ZR (ck) (fB) (h98:(nP ck).holds cl) (h158:(Cr fB).holds cl) (x0) (k:List E→Option R):exec cl N F3 [(0,.v .str x0)] (fun e env=>(ag d151 e env).bind k)=rZ N ck fB x0 (fun r0 r1=>k [.own true 179 ei .no r0,.v U2 r1]):=by
 simp only [F3,apL ck fB h98 h158,akp,akq,aq]
 rfl
def IX (S:V3→Option Ai):aN:=cC 151 .str S fun b=> [.own true 179 ei .no b.1,.v U2 b.2]
def iU (N:Nat) (x0:V3):Option Ai:=rZ N (ck N) (fB N) x0 (fun (r0:gr) (r1:Int)=>some (r0,r1))
def Kz (ez:V3→Option V6) (iU:V3→Option Ai) (k0:Int→Option R) (k1:Int→Option R) (x0:V3):Option R:=
ad (x0==([]:List UInt8)) (k0 (7:Int)) (ad (decide ((x0.length:Int) > (4:Int))) (k0 (3:Int)) ((ez x0).bind fun r919=>
ad (r919 != x0) (k0 (2:Int)) ((iU x0).bind fun r920=>
ad (r920.2 != (0:Int)) (k1 (2:Int)) (ad ((r920.1.length:Int) != (1:Int)) (k1 (2:Int)) (if 0≤(0:Int)∧(0:Int) < (r920.1.length:Int) then
if ((0:Int).toNat) < r920.1.length then
if 0≤(0:Int)∧(0:Int) < (r920.1.length:Int) then
if ((0:Int).toNat) < r920.1.length then
ad ((IntKind.i64.wrap (((r920.1.getD ((0:Int).toNat) ((0:Int),((0:Int),()))).2.1) - ((r920.1.getD ((0:Int).toNat) ((0:Int),((0:Int),()))).1))) != (x0.length:Int)) (k1 (2:Int)) (k1 (0:Int))
else none
else none
else none
else none)))))
theorem apv (ez) (iU) (h72:(uO ez).holds cl) (h151:(IX iU).holds cl) (x0):exec cl N Oy [(0,.v .str x0)] K=(Kz ez iU (fun y0=>K .ret (gW y0)) (fun y0=>K .ret [(2,.v U2 y0)]) x0):=by
 rw [←aJ h72]
 rw [←aJ h151]
 kernel_rfl
theorem aki (y0):ag d142 .ret (gW y0)=some [.v U2 y0]:=by kernel_rfl
theorem akj (y0):ag d142 .ret [(2,.v U2 y0)]=some [.v U2 y0]:=by kernel_rfl
def C6 (ez:V3→Option V6) (iU:V3→Option Ai) (x0:V3) (k:Int→Option R):Option R:=
(Kz ez iU k k x0)
theorem ZK (ez) (iU) (h72:(uO ez).holds cl) (h151:(IX iU).holds cl) (x0) (k:List E→Option R):exec cl N FT [(0,.v .str x0)] (fun e env=>(ag d142 e env).bind k)=C6 ez iU x0 (fun r0=>k [.v U2 r0]):=by
 simp only [FT,apv ez iU h72 h151,aki,akj,aq]
 rfl
def Cq (S:V3→Option (Int)):aN:=cC 142 .str S fun b=> [.v U2 b]
def fy (N:Nat) (x0:V3):Option (Int):=C6 (ez N) (iU N) x0 (fun (r0:Int)=>some (r0))
def KF (k0:Bool→Option R) (k1:Bool→Option R) (x0:aQ):Option R:=
ad (x0.1==(1:Int)) (ad (decide (x0.2.1≥(1:Int))) (k0 (decide (x0.2.1≤(3:Int)))) (k0 false)) (ad (x0.1==(2:Int)) (k0 (x0.2.1==(2:Int))) (k1 (x0.2.1==(0:Int))))
theorem apM (x0):exec cl N OO [(0,.v aC x0)] K=(KF (fun y0=>K .ret (vb y0)) (fun y0=>K .ret [(2,.v .bool y0)]) x0):=by
 kernel_rfl
theorem akr (y0):ag d152 .ret (vb y0)=some [.v .bool y0]:=by kernel_rfl
theorem aks (y0):ag d152 .ret [(2,.v .bool y0)]=some [.v .bool y0]:=by kernel_rfl
def Da (x0:aQ) (k:Bool→Option R):Option R:=
(KF k k x0)
theorem ZS (x0) (k:List E→Option R):exec cl N F6 [(0,.v aC x0)] (fun e env=>(ag d152 e env).bind k)=Da x0 (fun r0=>k [.v .bool r0]):=by
 simp only [F6,apM,akr,aks,aq]
 rfl
def IY (S:aQ→Option (Bool)):aN:=cC 152 aC S fun b=> [.v .bool b]
def hZ (N:Nat) (x0:aQ):Option (Bool):=Da x0 (fun (r0:Bool)=>some (r0))
def KI (k0:Bool→Option R) (x0:Int):Option R:=
ad (decide (x0≥(97:Int))) (ad (decide (x0≤(122:Int))) (k0 true) (ad (decide (x0≥(48:Int))) (ad (decide (x0≤(57:Int))) (k0 true) (ad (x0==(95:Int)) (k0 true) (ad (x0==(94:Int)) (k0 true) (k0 (x0==(39:Int)))))) (ad (x0==(95:Int)) (k0 true) (ad (x0==(94:Int)) (k0 true) (k0 (x0==(39:Int))))))) (ad (decide (x0≥(48:Int))) (ad (decide (x0≤(57:Int))) (k0 true) (ad (x0==(95:Int)) (k0 true) (ad (x0==(94:Int)) (k0 true) (k0 (x0==(39:Int)))))) (ad (x0==(95:Int)) (k0 true) (ad (x0==(94:Int)) (k0 true) (k0 (x0==(39:Int))))))
theorem apP (x0):exec cl N OR [(0,.v U3 x0)] K=(KI (fun y0=>K .ret [(2,.v .bool y0)]) x0):=by
 kernel_rfl
theorem akv (y0):ag d155 .ret [(2,.v .bool y0)]=some [.v .bool y0]:=by kernel_rfl
def Dd (x0:Int) (k:Bool→Option R):Option R:=
(KI k x0)
theorem ZV (x0) (k:List E→Option R):exec cl N F9 [(0,.v U3 x0)] (fun e env=>(ag d155 e env).bind k)=Dd x0 (fun r0=>k [.v .bool r0]):=by
 simp only [F9,apP,akv,aq]
 rfl
def I1 (S:Int→Option (Bool)):aN:=cC 155 U3 S fun b=> [.v .bool b]
def ic (N:Nat) (x0:Int):Option (Bool):=Dd x0 (fun (r0:Bool)=>some (r0))
def KH (ic:Int→Option (Bool)) (k0:Bool→Option R) (x0:Int):Option R:=
(ic x0).bind fun r986=>
k0 (!r986)
theorem apO (ic) (h155:(I1 ic).holds cl) (x0):exec cl N OQ [(0,.v U3 x0)] K=(KH ic (fun y0=>K .ret [(2,.v .bool y0)]) x0):=by
 rw [←aJ h155]
 kernel_rfl
theorem aku (y0):ag d154 .ret [(2,.v .bool y0)]=some [.v .bool y0]:=by kernel_rfl
def Dc (ic:Int→Option (Bool)) (x0:Int) (k:Bool→Option R):Option R:=
(KH ic k x0)
theorem ZU (ic) (h155:(I1 ic).holds cl) (x0) (k:List E→Option R):exec cl N F8 [(0,.v U3 x0)] (fun e env=>(ag d154 e env).bind k)=Dc ic x0 (fun r0=>k [.v .bool r0]):=by
 simp only [F8,apO ic h155,aku,aq]
 rfl
def I0 (S:Int→Option (Bool)):aN:=cC 154 U3 S fun b=> [.v .bool b]
def ib (N:Nat) (x0:Int):Option (Bool):=Dc (ic N) x0 (fun (r0:Bool)=>some (r0))
def wL (k0:V3→cg→Bool→Option R) (x0:V3) (x1:cg) (x2:Bool):Option R:=
k0 x0 x1 x2
theorem ap3 (x0 x1 x2):exec cl N O1 (vc x0 x1 x2) K=(wL (fun y0 y1 y2=>K .normal (vc y0 y1 y2)) x0 x1 x2):=by
 kernel_rfl
def wM (k0:cg→Bool→V3→Nat→Option R) (x0:V3) (x1:cg) (x2:Bool):Option R:=
k0 x1 x2 x0 (0:Nat)
theorem ap4 (x0 x1 x2):exec cl N O2 (vc x0 x1 x2) K=(wM (fun y0 y1 y2 y3=>K .normal (pb y0 y1 y2 y3)) x0 x1 x2):=by
 kernel_rfl
theorem adB (x0 x1 x2 x3):aj [1,2,10] (pb x0 x1 x2 x3)=(pb x0 x1 x2 x3):=by kernel_rfl
def wN (k0:Int→Option R) (k1:cg→Bool→V3→Nat→Option R) (k2:cg→Bool→V3→Nat→Bool→Option R) (x0:cg) (x1:Bool) (x2:V3) (x3:Nat):Option R:=
ad (decide (x3 < x2.length)) ((x0 ((((Utf8.decode ⟨⟨x2⟩⟩ x3).1:Nat):Int),())).bind fun r992=>
ad (r992==x1) (k0 ((x3:Nat):Int)) (k1 x0 x1 x2 (x3+(Utf8.decode ⟨⟨x2⟩⟩ x3).2))) (k2 x0 x1 x2 x3 false)
theorem ap5 (x0 x1 x2 x3):exec cl N Gj (pb x0 x1 x2 x3) K=(wN (fun y0=>K .ret (J1 y0)) (fun y0 y1 y2 y3=>K .normal [(1,.v mN y0),(2,.v .bool y1),(6,.dead),(10,.it y2 y3)]) (fun y0 y1 y2 y3 y4=>K (.exit 0) (J2 y0 y1 y2 y3 y4)) x0 x1 x2 x3):=by
 kernel_rfl
theorem adC (x0 x1 x2 x3):aj [1,2,10] [(1,.v mN x0),(2,.v .bool x1),(6,.dead),(10,.it x2 x3)]=(pb x0 x1 x2 x3):=by kernel_rfl
def s4 {R:Type} (k0:Int→Option R) (k1:cg→Bool→V3→Nat→Bool→Option R):Nat→cg→Bool→V3→Nat→Option R
 | 0,_,_,_,_=>none
 | m+1,x0,x1,x2,x3=>(wN k0 (s4 k0 k1 m) k1 x0 x1 x2 x3)
theorem agN:∀ (m) (x0 x1 x2 x3),iter [1,2,10] (fun env K=>exec cl N Gj env K) K m (pb x0 x1 x2 x3)=s4 (fun y0=>K .ret (J1 y0)) (fun y0 y1 y2 y3 y4=>K (.exit 0) (J2 y0 y1 y2 y3 y4)) m x0 x1 x2 x3:=by
 intro m
 induction m with
 | zero=>intros; rfl
 | succ m ih=>
   intro x0 x1 x2 x3
   simp only [bX,ap5,bZ,bY,b5,adC,ih]
   rfl
theorem adD (x0):aj [6] (J1 x0)=[(6,.v U2 x0)]:=by kernel_rfl
theorem adE (x0 x1 x2 x3 x4):aj [6] (J2 x0 x1 x2 x3 x4)=[(6,.dead)]:=by kernel_rfl
def wO (N:Nat) (k0:Int→Option R) (k1:Option R) (x0:cg) (x1:Bool) (x2:V3) (x3:Nat):Option R:=
s4 k0 (fun y0 y1 y2 y3 y4=>k1) N x0 x1 x2 x3
theorem ap6 (x0 x1 x2 x3):exec cl N Gk (pb x0 x1 x2 x3) K=(wO N (fun y0=>K .ret [(6,.v U2 y0)]) (K (.exit 0) [(6,.dead)]) x0 x1 x2 x3):=by
 simp only [Gk,aT,bW,adB,agN,adD,adE]
 rfl
theorem adF (x0):aj [6] [(6,.v U2 x0)]=[(6,.v U2 x0)]:=by kernel_rfl
theorem adG:aj [6] [(6,.dead)]=[(6,.dead)]:=by kernel_rfl
def wP (k0:Int→Option R):Option R:=
k0 (-1:Int)
theorem ap7:exec cl N O5 [(6,.dead)] K=(wP (fun y0=>K .ret [(6,.v U2 y0)])):=by
 kernel_rfl
def wQ (N:Nat) (k0:Int→Option R) (x0:V3) (x1:cg) (x2:Bool):Option R:=
(wL (wM (wO N k0 (wP k0))) x0 x1 x2)
theorem ap8 (x0 x1 x2):exec cl N Gm (vc x0 x1 x2) K=(wQ N (fun y0=>K .ret [(6,.v U2 y0)]) x0 x1 x2):=by
 simp only [Gm,bQ,bT,bS,bU,ap3,O6,O4,ap4,O3,aT,ca,ap6,b8,b9,b7,adF,adG,ap7]
 rfl
theorem akB (y0):ag d160 .ret [(6,.v U2 y0)]=some [.v U2 y0]:=by kernel_rfl
def r7 (N:Nat) (x0:V3) (x1:cg) (x2:Bool) (k:Int→Option R):Option R:=
(wQ N k x0 x1 x2)
theorem ZZ (x0 x1 x2) (k:List E→Option R):exec cl N Gi (vc x0 x1 x2) (fun e env=>(ag d160 e env).bind k)=r7 N x0 x1 x2 (fun r0=>k [.v U2 r0]):=by
 simp only [Gi,ap8,akB,aq]
 rfl
def I3 (S:V3→cg→Bool→Option (Int)):aN:=rA 160 .str mN .bool S fun b=> [.v U2 b]
def ij (N:Nat) (x0:V3) (x1:cg) (x2:Bool):Option (Int):=r7 N x0 x1 x2 (fun (r0:Int)=>some (r0))
def KJ (ij:V3→cg→Bool→Option (Int)) (k0:Int→Option R) (x0:V3) (x1:cg):Option R:=
(ij x0 x1 true).bind fun r994=>
k0 r994
theorem apW (ij) (h160:(I3 ij).holds cl) (x0 x1):exec cl N OW (CM x0 x1) K=(KJ ij (fun y0=>K .ret [(4,.v U2 y0)]) x0 x1):=by
 rw [←aJ h160]
 kernel_rfl
theorem aky (y0):ag d159 .ret [(4,.v U2 y0)]=some [.v U2 y0]:=by kernel_rfl
def De (ij:V3→cg→Bool→Option (Int)) (x0:V3) (x1:cg) (k:Int→Option R):Option R:=
(KJ ij k x0 x1)
theorem ZX (ij) (h160:(I3 ij).holds cl) (x0 x1) (k:List E→Option R):exec cl N Ge (CM x0 x1) (fun e env=>(ag d159 e env).bind k)=De ij x0 x1 (fun r0=>k [.v U2 r0]):=by
 simp only [Ge,apW ij h160,aky,aq]
 rfl
def I2 (S:V3→cg→Option (Int)):aN:=dT 159 .str mN S fun b=> [.v U2 b]
def ig (N:Nat) (x0:V3) (x1:cg):Option (Int):=De (ij N) x0 x1 (fun (r0:Int)=>some (r0))
def KG (ig:V3→cg→Option (Int)) (k0:Bool→Option R) (x0:V3) (x1:cg):Option R:=
(ig x0 x1).bind fun r997=>
k0 (decide (r997≥(0:Int)))
theorem apN (ig) (h159:(I2 ig).holds cl) (x0 x1):exec cl N OP (CM x0 x1) K=(KG ig (fun y0=>K .ret [(4,.v .bool y0)]) x0 x1):=by
 rw [←aJ h159]
 kernel_rfl
theorem akt (y0):ag d153 .ret [(4,.v .bool y0)]=some [.v .bool y0]:=by kernel_rfl
def Db (ig:V3→cg→Option (Int)) (x0:V3) (x1:cg) (k:Bool→Option R):Option R:=
(KG ig k x0 x1)
theorem ZT (ig) (h159:(I2 ig).holds cl) (x0 x1) (k:List E→Option R):exec cl N F7 (CM x0 x1) (fun e env=>(ag d153 e env).bind k)=Db ig x0 x1 (fun r0=>k [.v .bool r0]):=by
 simp only [F7,apN ig h159,akt,aq]
 rfl
def IZ (S:V3→cg→Option (Bool)):aN:=dT 153 .str mN S fun b=> [.v .bool b]
def ia (N:Nat) (x0:V3) (x1:cg):Option (Bool):=Db (ig N) x0 x1 (fun (r0:Bool)=>some (r0))
def KA (hZ:aQ→Option (Bool)) (ia:V3→cg→Option (Bool)) (ib:Int→Option (Bool)) (k0:Int→Option R) (x0:aQ):Option R:=
ad (decide (x0.1 < (1:Int))) (k0 (1:Int)) (ad (decide (x0.1 > (9:Int))) (k0 (1:Int)) ((hZ x0).bind fun r1002=>
ad (!r1002) (k0 (6:Int)) (ad (x0.2.2.1==([]:List UInt8)) (k0 (7:Int)) (ad (decide ((x0.2.2.1.length:Int) > (8:Int))) (k0 (3:Int)) ((ia x0.2.2.1 (fun (x1005:V4)=>((ib x1005.1).bind fun b1006=>some [.v .bool b1006]).bind (j0 .bool))).bind fun r1007=>
ad r1007 (k0 (2:Int)) (k0 (0:Int)))))))
theorem apw (hZ) (ia) (ib) (h152:(IY hZ).holds cl) (h153:(IZ ia).holds cl) (h154:(I0 ib).holds cl) (x0):exec cl N Oz [(0,.v aC x0)] K=(KA hZ ia ib (fun y0=>K .ret [(2,.v U2 y0)]) x0):=by
 rw [←aJ h152]
 rw [←aJ h153]
 rw [←aJ h154]
 kernel_rfl
theorem akk (y0):ag d143 .ret [(2,.v U2 y0)]=some [.v U2 y0]:=by kernel_rfl
def C7 (hZ:aQ→Option (Bool)) (ia:V3→cg→Option (Bool)) (ib:Int→Option (Bool)) (x0:aQ) (k:Int→Option R):Option R:=
(KA hZ ia ib k x0)
theorem ZL (hZ) (ia) (ib) (h152:(IY hZ).holds cl) (h153:(IZ ia).holds cl) (h154:(I0 ib).holds cl) (x0) (k:List E→Option R):exec cl N FU [(0,.v aC x0)] (fun e env=>(ag d143 e env).bind k)=C7 hZ ia ib x0 (fun r0=>k [.v U2 r0]):=by
 simp only [FU,apw hZ ia ib h152 h153 h154,akk,aq]
 rfl
def ri (S:aQ→Option (Int)):aN:=cC 143 aC S fun b=> [.v U2 b]
def dC (N:Nat) (x0:aQ):Option (Int):=C7 (hZ N) (ia N) (ib N) x0 (fun (r0:Int)=>some (r0))
def vP (fy:V3→Option (Int)) (k0:Int→Option R) (k1:aW→Option R) (x0:aW):Option R:=
(fy x0.1).bind fun r1015=>
ad (r1015 != (0:Int)) (k0 r1015) (ad ((x0.2.1.length:Int)==(0:Int)) (k0 (7:Int)) (ad (decide ((x0.2.1.length:Int) > (2:Int))) (k0 (3:Int)) (k1 x0)))
theorem aoJ (fy) (h142:(Cq fy).holds cl) (x0):exec cl N AR [(0,.v aE x0)] K=(vP fy (fun y0=>K .ret (e7 y0)) (fun y0=>exec cl N AQ (jz y0) K) x0):=by
 rw [←aJ h142]
 delta AR
 generalize AQ=q
 revert q
 refine id ?_
 intro q
 kernel_rfl
def vL (k0:aW→av→Int→Int→Option R) (x0:aW):Option R:=
k0 x0 x0.2.1 (x0.2.1.length:Int) (0:Int)
theorem aoF (x0):exec cl N NU (jz x0) K=(vL (fun y0 y1 y2 y3=>K .normal (l7 y0 y1 y2 y3)) x0):=by
 kernel_rfl
theorem VL (x0 x1 x2 x3):aj [1,22,23,24] (l7 x0 x1 x2 x3)=(l7 x0 x1 x2 x3):=by kernel_rfl
def vM (dC:aQ→Option (Int)) (k0:Int→Option R) (k1:aW→av→Int→Int→Option R) (k2:aW→av→Int→Int→Option R) (x0:aW) (x1:av) (x2 x3:Int):Option R:=
ad (decide (x3 < x2)) (if 0≤x3∧x3 < (x1.length:Int) then
(dC (x1.getD x3.toNat ((0:Int),((0:Int),([],()))))).bind fun r1020=>
ad (r1020 != (0:Int)) (k0 r1020) (k1 x0 x1 x2 (IntKind.i64.wrap (x3+(1:Int))))
else none) (k2 x0 x1 x2 x3)
theorem aoG (dC) (h143:(ri dC).holds cl) (x0 x1 x2 x3):exec cl N Fi (l7 x0 x1 x2 x3) K=(vM dC (fun y0=>K .ret (J3 y0)) (fun y0 y1 y2 y3=>K .normal (l7 y0 y1 y2 y3)) (fun y0 y1 y2 y3=>K (.exit 0) (l7 y0 y1 y2 y3)) x0 x1 x2 x3):=by
 rw [←aJ h143]
 kernel_rfl
def sX {R:Type} (dC:aQ→Option (Int)) (k0:Int→Option R) (k1:aW→av→Int→Int→Option R):Nat→aW→av→Int→Int→Option R
 | 0,_,_,_,_=>none
 | m+1,x0,x1,x2,x3=>(vM dC k0 (sX dC k0 k1 m) k1 x0 x1 x2 x3)
theorem agB (dC) (h143:(ri dC).holds cl):∀ (m) (x0 x1 x2 x3),iter [1,22,23,24] (fun env K=>exec cl N Fi env K) K m (l7 x0 x1 x2 x3)=sX dC (fun y0=>K .ret (J3 y0)) (fun y0 y1 y2 y3=>K (.exit 0) (l7 y0 y1 y2 y3)) m x0 x1 x2 x3:=by
 intro m
 induction m with
 | zero=>intros; rfl
 | succ m ih=>
   intro x0 x1 x2 x3
   simp only [bX,aoG dC h143,bZ,bY,b5,VL,ih]
   rfl
theorem acX (x0):aj [1,2] (J3 x0)=(e7 x0):=by kernel_rfl
theorem acY (x0 x1 x2 x3):aj [1,2] (l7 x0 x1 x2 x3)=(jz x0):=by kernel_rfl
def vN (N:Nat) (dC:aQ→Option (Int)) (k0:Int→Option R) (k1:aW→Option R) (x0:aW) (x1:av) (x2 x3:Int):Option R:=
sX dC k0 (fun y0 y1 y2 y3=>k1 y0) N x0 x1 x2 x3
theorem aoH (dC) (h143:(ri dC).holds cl) (x0 x1 x2 x3):exec cl N Fj (l7 x0 x1 x2 x3) K=(vN N dC (fun y0=>K .ret (e7 y0)) (fun y0=>K (.exit 0) (jz y0)) x0 x1 x2 x3):=by
 simp only [Fj,aT,bW,VL,agB dC h143,acX,acY]
 rfl
theorem acZ (x0):aj [1,2] (e7 x0)=(e7 x0):=by kernel_rfl
theorem ac0 (x0):aj [1,2] (jz x0)=(jz x0):=by kernel_rfl
def vO (k0:Int→Option R) (x0:aW):Option R:=
ad (decide (x0.2.2.1 < (0:Int))) (k0 (6:Int)) (ad (decide (x0.2.2.1 > (99:Int))) (k0 (6:Int)) (ad (decide (x0.2.2.2.1 < (0:Int))) (k0 (6:Int)) (ad (decide (x0.2.2.2.1 > (4:Int))) (k0 (6:Int)) (k0 (0:Int)))))
theorem aoI (x0):exec cl N NX (jz x0) K=(vO (fun y0=>K .ret [(2,.v U2 y0)]) x0):=by
 kernel_rfl
def vQ (N:Nat) (fy:V3→Option (Int)) (dC:aQ→Option (Int)) (k0:Int→Option R) (k1:Int→Option R) (x0:aW):Option R:=
(vP fy k0 (vL (vN N dC k0 ((vO k1)))) x0)
theorem aoK (fy) (dC) (h142:(Cq fy).holds cl) (h143:(ri dC).holds cl) (x0):exec cl N AR [(0,.v aE x0)] K=(vQ N fy dC (fun y0=>K .ret (e7 y0)) (fun y0=>K .ret [(2,.v U2 y0)]) x0):=by
 simp only [bQ,bT,bS,bU,aoJ fy h142,AQ,NW,aoF,NV,aT,ca,aoH dC h143,b8,b9,b7,acZ,ac0,aoI]
 rfl
theorem ajX (y0):ag d122 .ret (e7 y0)=some [.v U2 y0]:=by kernel_rfl
theorem ajY (y0):ag d122 .ret [(2,.v U2 y0)]=some [.v U2 y0]:=by kernel_rfl
def rV (N:Nat) (fy:V3→Option (Int)) (dC:aQ→Option (Int)) (x0:aW) (k:Int→Option R):Option R:=
(vQ N fy dC k k x0)
theorem Zw (fy) (dC) (h142:(Cq fy).holds cl) (h143:(ri dC).holds cl) (x0) (k:List E→Option R):exec cl N Fh [(0,.v aE x0)] (fun e env=>(ag d122 e env).bind k)=rV N fy dC x0 (fun r0=>k [.v U2 r0]):=by
 simp only [Fh,aoK fy dC h142 h143,ajX,ajY,aq]
 rfl
def qY (S:aW→Option (Int)):aN:=cC 122 aE S fun b=> [.v U2 b]
def du (N:Nat) (x0:aW):Option (Int):=rV N (fy N) (dC N) x0 (fun (r0:Int)=>some (r0))
def vV (k0:Bool→Option R) (k1:av→av→Option R) (x0 x1:av):Option R:=
ad ((x0.length:Int) != (x1.length:Int)) (k0 false) (k1 x0 x1)
theorem aoR (x0 x1):exec cl N AT (rI x0 x1) K=(vV (fun y0=>K .ret (ja y0)) (fun y0 y1=>exec cl N AS (CJ y0 y1) K) x0 x1):=by
 delta AT
 generalize AS=q
 revert q
 refine id ?_
 intro q
 kernel_rfl
def vR (k0:av→av→Int→Int→Option R) (x0 x1:av):Option R:=
k0 x0 x1 (x0.length:Int) (0:Int)
theorem aoN (x0 x1):exec cl N N0 (CJ x0 x1) K=(vR (fun y0 y1 y2 y3=>K .normal (l8 y0 y1 y2 y3)) x0 x1):=by
 kernel_rfl
theorem VM (x0 x1 x2 x3):aj [0,1,12,13] (l8 x0 x1 x2 x3)=(l8 x0 x1 x2 x3):=by kernel_rfl
def vS (k0:Bool→Option R) (k1:av→av→Int→Int→Option R) (k2:av→av→Int→Int→Option R) (x0 x1:av) (x2 x3:Int):Option R:=
ad (decide (x3 < x2)) (if 0≤x3∧x3 < (x0.length:Int) then
if 0≤x3∧x3 < (x1.length:Int) then
ad (!(((x0.getD x3.toNat ((0:Int),((0:Int),([],())))).1==(x1.getD x3.toNat ((0:Int),((0:Int),([],())))).1)&&(((x0.getD x3.toNat ((0:Int),((0:Int),([],())))).2.1==(x1.getD x3.toNat ((0:Int),((0:Int),([],())))).2.1)&&(((x0.getD x3.toNat ((0:Int),((0:Int),([],())))).2.2.1==(x1.getD x3.toNat ((0:Int),((0:Int),([],())))).2.2.1)&&true)))) (k0 false) (k1 x0 x1 x2 (IntKind.i64.wrap (x3+(1:Int))))
else none
else none) (k2 x0 x1 x2 x3)
theorem aoO (x0 x1 x2 x3):exec cl N Fo (l8 x0 x1 x2 x3) K=(vS (fun y0=>K .ret (rK y0)) (fun y0 y1 y2 y3=>K .normal (l8 y0 y1 y2 y3)) (fun y0 y1 y2 y3=>K (.exit 0) (l8 y0 y1 y2 y3)) x0 x1 x2 x3):=by
 kernel_rfl
def sY {R:Type} (k0:Bool→Option R) (k1:av→av→Int→Int→Option R):Nat→av→av→Int→Int→Option R
 | 0,_,_,_,_=>none
 | m+1,x0,x1,x2,x3=>(vS k0 (sY k0 k1 m) k1 x0 x1 x2 x3)
theorem agC:∀ (m) (x0 x1 x2 x3),iter [0,1,12,13] (fun env K=>exec cl N Fo env K) K m (l8 x0 x1 x2 x3)=sY (fun y0=>K .ret (rK y0)) (fun y0 y1 y2 y3=>K (.exit 0) (l8 y0 y1 y2 y3)) m x0 x1 x2 x3:=by
 intro m
 induction m with
 | zero=>intros; rfl
 | succ m ih=>
   intro x0 x1 x2 x3
   simp only [bX,aoO,bZ,bY,b5,VM,ih]
   rfl
theorem ac1 (x0):aj [4] (rK x0)=[(4,.v .bool x0)]:=by kernel_rfl
theorem ac2 (x0 x1 x2 x3):aj [4] (l8 x0 x1 x2 x3)=[(4,.dead)]:=by kernel_rfl
def vT (N:Nat) (k0:Bool→Option R) (k1:Option R) (x0 x1:av) (x2 x3:Int):Option R:=
sY k0 (fun y0 y1 y2 y3=>k1) N x0 x1 x2 x3
theorem aoP (x0 x1 x2 x3):exec cl N Fp (l8 x0 x1 x2 x3) K=(vT N (fun y0=>K .ret [(4,.v .bool y0)]) (K (.exit 0) [(4,.dead)]) x0 x1 x2 x3):=by
 simp only [Fp,aT,bW,VM,agC,ac1,ac2]
 rfl
theorem ac3 (x0):aj [4] [(4,.v .bool x0)]=[(4,.v .bool x0)]:=by kernel_rfl
theorem ac4:aj [4] [(4,.dead)]=[(4,.dead)]:=by kernel_rfl
def vU (k0:Bool→Option R):Option R:=
k0 true
theorem aoQ:exec cl N N3 [(4,.dead)] K=(vU (fun y0=>K .ret [(4,.v .bool y0)])):=by
 kernel_rfl
def vW (N:Nat) (k0:Bool→Option R) (k1:Bool→Option R) (x0 x1:av):Option R:=
(vV k0 (vR (vT N k1 (vU k1))) x0 x1)
theorem aoS (x0 x1):exec cl N AT (rI x0 x1) K=(vW N (fun y0=>K .ret (ja y0)) (fun y0=>K .ret [(4,.v .bool y0)]) x0 x1):=by
 simp only [bQ,bT,bS,bU,aoR,AS,N2,aoN,N1,aT,ca,aoP,b8,b9,b7,ac3,ac4,aoQ]
 rfl
theorem aj1 (y0):ag d125 .ret (ja y0)=some [.v .bool y0]:=by kernel_rfl
theorem aj2 (y0):ag d125 .ret [(4,.v .bool y0)]=some [.v .bool y0]:=by kernel_rfl
def rW (N:Nat) (x0 x1:av) (k:Bool→Option R):Option R:=
(vW N k k x0 x1)
theorem Zz (x0 x1) (k:List E→Option R):exec cl N Fm (rI x0 x1) (fun e env=>(ag d125 e env).bind k)=rW N x0 x1 (fun r0=>k [.v .bool r0]):=by
 simp only [Fm,aoS,aj1,aj2,aq]
 rfl
def IQ (S:av→av→Option (Bool)):aN:=dT 125 ba ba S fun b=> [.v .bool b]
def hX (N:Nat) (x0:av) (x1:av):Option (Bool):=rW N x0 x1 (fun (r0:Bool)=>some (r0))
def Kp (hX:av→av→Option (Bool)) (k0:Bool→Option R) (x0 x1:aW):Option R:=
ad (x0.1==x1.1) (ad (x0.2.2.2.1==x1.2.2.2.1) ((hX x0.2.1 x1.2.1).bind fun r1043=>
k0 r1043) (k0 false)) (k0 false)
theorem aoM (hX) (h125:(IQ hX).holds cl) (x0 x1):exec cl N NZ [(0,.v aE x0),(1,.at aE x1)] K=(Kp hX (fun y0=>K .ret [(3,.v .bool y0)]) x0 x1):=by
 rw [←aJ h125]
 kernel_rfl
theorem aj0 (y0):ag d124 .ret [(3,.v .bool y0)]=some [.v .bool y0]:=by kernel_rfl
def CX (hX:av→av→Option (Bool)) (x0 x1:aW) (k:Bool→Option R):Option R:=
(Kp hX k x0 x1)
theorem Zy (hX) (h125:(IQ hX).holds cl) (x0 x1) (k:List E→Option R):exec cl N Fl [(0,.v aE x0),(1,.at aE x1)] (fun e env=>(ag d124 e env).bind k)=CX hX x0 x1 (fun r0=>k [.v .bool r0]):=by
 simp only [Fl,aoM hX h125,aj0,aq]
 rfl
def ra (S:aW→aW→Option (Bool)):aN:={A:=aW×aW×Unit,B:=Bool,f:=124,enc:=fun a=> [.v aE a.1,.at aE a.2.1],dec:=(bj (bM aE) (bj (oZ aE) cz)),S:=fun a=>S a.1 a.2.1,aw:=fun b=> [.v .bool b],ok:=(gz (T:=aE) (CC (T:=aE) (fun es b h=>jv h)))}
def dv (N:Nat) (x0:aW) (x1:aW):Option (Bool):=CX (hX N) x0 x1 (fun (r0:Bool)=>some (r0))
def wc (k0:cE→eX→Option R) (x0:cE) (x1:eX):Option R:=
k0 x0 x1
theorem apx (x0 x1):exec cl N OA (pc x0 x1) K=(wc (fun y0 y1=>K .normal (pc y0 y1)) x0 x1):=by
 kernel_rfl
def we (k0:cE→eX→Int→Int→Option R) (x0:cE) (x1:eX):Option R:=
k0 x0 x1 (x0.length:Int) (0:Int)
theorem apy (x0 x1):exec cl N OC (pc x0 x1) K=(we (fun y0 y1 y2 y3=>K .normal (l9 y0 y1 y2 y3)) x0 x1):=by
 kernel_rfl
theorem VR (x0 x1 x2 x3):aj [0,1,7,8] (l9 x0 x1 x2 x3)=(l9 x0 x1 x2 x3):=by kernel_rfl
def wg (k0:Int→Option R) (k1:cE→eX→Int→Int→Option R) (k2:cE→eX→Int→Int→Option R) (x0:cE) (x1:eX) (x2 x3:Int):Option R:=
ad (decide (x3 < x2)) (if 0≤x3∧x3 < (x0.length:Int) then
(x1 ((x0.getD x3.toNat ([],([],((0:Int),((0:Int),()))))),())).bind fun r1050=>
ad r1050 (k0 x3) (k1 x0 x1 x2 (IntKind.i64.wrap (x3+(1:Int))))
else none) (k2 x0 x1 x2 x3)
theorem apz (x0 x1 x2 x3):exec cl N FW (l9 x0 x1 x2 x3) K=(wg (fun y0=>K .ret (rL y0)) (fun y0 y1 y2 y3=>K .normal (l9 y0 y1 y2 y3)) (fun y0 y1 y2 y3=>K (.exit 0) (l9 y0 y1 y2 y3)) x0 x1 x2 x3):=by
 kernel_rfl
def p5 {R:Type} (k0:Int→Option R) (k1:cE→eX→Int→Int→Option R):Nat→cE→eX→Int→Int→Option R
 | 0,_,_,_,_=>none
 | m+1,x0,x1,x2,x3=>(wg k0 (p5 k0 k1 m) k1 x0 x1 x2 x3)
theorem agJ:∀ (m) (x0 x1 x2 x3),iter [0,1,7,8] (fun env K=>exec cl N FW env K) K m (l9 x0 x1 x2 x3)=p5 (fun y0=>K .ret (rL y0)) (fun y0 y1 y2 y3=>K (.exit 0) (l9 y0 y1 y2 y3)) m x0 x1 x2 x3:=by
 intro m
 induction m with
 | zero=>intros; rfl
 | succ m ih=>
   intro x0 x1 x2 x3
   simp only [bX,apz,bZ,bY,b5,VR,ih]
   rfl
theorem adn (x0):aj [4] (rL x0)=[(4,.v U2 x0)]:=by kernel_rfl
theorem ado (x0 x1 x2 x3):aj [4] (l9 x0 x1 x2 x3)=[(4,.dead)]:=by kernel_rfl
def wh (N:Nat) (k0:Int→Option R) (k1:Option R) (x0:cE) (x1:eX) (x2 x3:Int):Option R:=
p5 k0 (fun y0 y1 y2 y3=>k1) N x0 x1 x2 x3
theorem apA (x0 x1 x2 x3):exec cl N FX (l9 x0 x1 x2 x3) K=(wh N (fun y0=>K .ret [(4,.v U2 y0)]) (K (.exit 0) [(4,.dead)]) x0 x1 x2 x3):=by
 simp only [FX,aT,bW,VR,agJ,adn,ado]
 rfl
theorem adp (x0):aj [4] [(4,.v U2 x0)]=[(4,.v U2 x0)]:=by kernel_rfl
theorem adq:aj [4] [(4,.dead)]=[(4,.dead)]:=by kernel_rfl
def wi (k0:Int→Option R):Option R:=
k0 (-1:Int)
theorem apB:exec cl N OF [(4,.dead)] K=(wi (fun y0=>K .ret [(4,.v U2 y0)])):=by
 kernel_rfl
def wj (N:Nat) (k0:Int→Option R) (x0:cE) (x1:eX):Option R:=
(wc (we (wh N k0 (wi k0))) x0 x1)
theorem apC (x0 x1):exec cl N FY (pc x0 x1) K=(wj N (fun y0=>K .ret [(4,.v U2 y0)]) x0 x1):=by
 simp only [FY,bQ,bT,bS,bU,apx,OG,OE,apy,OD,aT,ca,apA,b8,b9,b7,adp,adq,apB]
 rfl
theorem akl (y0):ag d144 .ret [(4,.v U2 y0)]=some [.v U2 y0]:=by kernel_rfl
def rY (N:Nat) (x0:cE) (x1:eX) (k:Int→Option R):Option R:=
(wj N k x0 x1)
theorem ZM (x0 x1) (k:List E→Option R):exec cl N FV (pc x0 x1) (fun e env=>(ag d144 e env).bind k)=rY N x0 x1 (fun r0=>k [.v U2 r0]):=by
 simp only [FV,apC,akl,aq]
 rfl
def IV (S:cE→eX→Option (Int)):aN:=dT 144 cS Ag S fun b=> [.v U2 b]
def iT (N:Nat) (x0:cE) (x1:eX):Option (Int):=rY N x0 x1 (fun (r0:Int)=>some (r0))
def Ko (iT:cE→eX→Option (Int)) (k0:Bool→Option R) (x0:cE) (x1:eX):Option R:=
(iT x0 x1).bind fun r1054=>
k0 (decide (r1054≥(0:Int)))
theorem aoL (iT) (h144:(IV iT).holds cl) (x0 x1):exec cl N NY (pc x0 x1) K=(Ko iT (fun y0=>K .ret [(4,.v .bool y0)]) x0 x1):=by
 rw [←aJ h144]
 kernel_rfl
theorem ajZ (y0):ag d123 .ret [(4,.v .bool y0)]=some [.v .bool y0]:=by kernel_rfl
def CW (iT:cE→eX→Option (Int)) (x0:cE) (x1:eX) (k:Bool→Option R):Option R:=
(Ko iT k x0 x1)
theorem Zx (iT) (h144:(IV iT).holds cl) (x0 x1) (k:List E→Option R):exec cl N Fk (pc x0 x1) (fun e env=>(ag d123 e env).bind k)=CW iT x0 x1 (fun r0=>k [.v .bool r0]):=by
 simp only [Fk,aoL iT h144,ajZ,aq]
 rfl
def qZ (S:cE→eX→Option (Bool)):aN:=dT 123 cS Ag S fun b=> [.v .bool b]
def de (N:Nat) (x0:cE) (x1:eX):Option (Bool):=CW (iT N) x0 x1 (fun (r0:Bool)=>some (r0))
def ze (fm:V3→Option (Bool)) (k0:Int→Int→Option R) (k1:ae→Option R) (x0:ae):Option R:=
(fm x0.1).bind fun r1058=>
ad (!r1058) (k0 (-1:Int) (2:Int)) (ad ((x0.2.1.length:Int)==(0:Int)) (k0 (-1:Int) (7:Int)) (ad (decide ((x0.2.1.length:Int) > (120:Int))) (k0 (-1:Int) (3:Int)) (k1 x0)))
theorem at6 (fm) (h121:(Cn fm).holds cl) (x0):exec cl N B9 [(0,.v ar x0)] K=(ze fm (fun y0 y1=>K .ret (rJ y0 y1)) (fun y0=>exec cl N B8 (CK y0) K) x0):=by
 rw [←aJ h121]
 delta B9
 generalize B8=q
 revert q
 refine id ?_
 intro q
 kernel_rfl
def za (k0:ae→cE→Int→Int→Option R) (x0:ae):Option R:=
k0 x0 x0.2.1 (x0.2.1.length:Int) (0:Int)
theorem at2 (x0):exec cl N R1 (CK x0) K=(za (fun y0 y1 y2 y3=>K .normal (ma y0 y1 y2 y3)) x0):=by
 kernel_rfl
theorem WA (x0 x1 x2 x3):aj [1,24,25,26] (ma x0 x1 x2 x3)=(ma x0 x1 x2 x3):=by kernel_rfl
def zb (du:aW→Option (Int)) (de:cE→eX→Option (Bool)) (dv:aW→aW→Option (Bool)) (k0:Int→Int→Option R) (k1:ae→cE→Int→Int→Option R) (k2:ae→cE→Int→Int→Option R) (x0:ae) (x1:cE) (x2 x3:Int):Option R:=
ad (decide (x3 < x2)) (if 0≤x3∧x3 < (x1.length:Int) then
(du (x1.getD x3.toNat ([],([],((0:Int),((0:Int),())))))).bind fun r1062=>
ad (r1062 != (0:Int)) (k0 x3 r1062) (if 0≤(0:Int)∧(0:Int)≤x3∧x3≤(x0.2.1.length:Int)∧(x0.2.1.length:Int)≤(x0.2.1.length:Int) then
(de ((x0.2.1.drop (0:Int).toNat).take (x3.toNat - (0:Int).toNat)) (fun (x1065:(aW×Unit))=>((dv x1065.1 (x1.getD x3.toNat ([],([],((0:Int),((0:Int),())))))).bind fun b1066=>some [.v .bool b1066]).bind (j0 .bool))).bind fun r1067=>
ad r1067 (k0 x3 (5:Int)) (k1 x0 x1 x2 (IntKind.i64.wrap (x3+(1:Int))))
else none)
else none) (k2 x0 x1 x2 x3)
theorem at3 (du) (de) (dv) (h122:(qY du).holds cl) (h123:(qZ de).holds cl) (h124:(ra dv).holds cl) (x0 x1 x2 x3):exec cl N Iz (ma x0 x1 x2 x3) K=(zb du de dv (fun y0 y1=>K .ret (J4 y0 y1)) (fun y0 y1 y2 y3=>K .normal (ma y0 y1 y2 y3)) (fun y0 y1 y2 y3=>K (.exit 1) (ma y0 y1 y2 y3)) x0 x1 x2 x3):=by
 rw [←aJ h122]
 rw [←aJ h123]
 rw [←aJ h124]
 kernel_rfl
def qc {R:Type} (du:aW→Option (Int)) (de:cE→eX→Option (Bool)) (dv:aW→aW→Option (Bool)) (k0:Int→Int→Option R) (k1:ae→cE→Int→Int→Option R):Nat→ae→cE→Int→Int→Option R
 | 0,_,_,_,_=>none
 | m+1,x0,x1,x2,x3=>(zb du de dv k0 (qc du de dv k0 k1 m) k1 x0 x1 x2 x3)
theorem ahn (du) (de) (dv) (h122:(qY du).holds cl) (h123:(qZ de).holds cl) (h124:(ra dv).holds cl):∀ (m) (x0 x1 x2 x3),iter [1,24,25,26] (fun env K=>exec cl N Iz env K) K m (ma x0 x1 x2 x3)=qc du de dv (fun y0 y1=>K .ret (J4 y0 y1)) (fun y0 y1 y2 y3=>K (.exit 1) (ma y0 y1 y2 y3)) m x0 x1 x2 x3:=by
 intro m
 induction m with
 | zero=>intros; rfl
 | succ m ih=>
   intro x0 x1 x2 x3
   simp only [bX,at3 du de dv h122 h123 h124,bZ,bY,b5,WA,ih]
   rfl
theorem aft (x0 x1):aj [2,3] (J4 x0 x1)=(jA x0 x1):=by kernel_rfl
theorem afu (x0 x1 x2 x3):aj [2,3] (ma x0 x1 x2 x3)=[(2,.dead),(3,.dead)]:=by kernel_rfl
def zc (N:Nat) (du:aW→Option (Int)) (de:cE→eX→Option (Bool)) (dv:aW→aW→Option (Bool)) (k0:Int→Int→Option R) (k1:Option R) (x0:ae) (x1:cE) (x2 x3:Int):Option R:=
qc du de dv k0 (fun y0 y1 y2 y3=>k1) N x0 x1 x2 x3
theorem at4 (du) (de) (dv) (h122:(qY du).holds cl) (h123:(qZ de).holds cl) (h124:(ra dv).holds cl) (x0 x1 x2 x3):exec cl N IA (ma x0 x1 x2 x3) K=(zc N du de dv (fun y0 y1=>K .ret (jA y0 y1)) (K (.exit 1) [(2,.dead),(3,.dead)]) x0 x1 x2 x3):=by
 simp only [IA,aT,bW,WA,ahn du de dv h122 h123 h124,aft,afu]
 rfl
theorem afv (x0 x1):aj [2,3] (jA x0 x1)=(jA x0 x1):=by kernel_rfl
theorem afw:aj [2,3] [(2,.dead),(3,.dead)]=[(2,.dead),(3,.dead)]:=by kernel_rfl
def zd (k0:Int→Int→Option R):Option R:=
k0 (-1:Int) (0:Int)
theorem at5:exec cl N R4 [(2,.dead),(3,.dead)] K=(zd (fun y0 y1=>K .ret (jA y0 y1))):=by
 kernel_rfl
def zf (N:Nat) (fm:V3→Option (Bool)) (du:aW→Option (Int)) (de:cE→eX→Option (Bool)) (dv:aW→aW→Option (Bool)) (k0:Int→Int→Option R) (k1:Int→Int→Option R) (x0:ae):Option R:=
(ze fm k0 (za (zc N du de dv k1 (zd k1))) x0)
theorem at7 (fm) (du) (de) (dv) (h121:(Cn fm).holds cl) (h122:(qY du).holds cl) (h123:(qZ de).holds cl) (h124:(ra dv).holds cl) (x0):exec cl N B9 [(0,.v ar x0)] K=(zf N fm du de dv (fun y0 y1=>K .ret (rJ y0 y1)) (fun y0 y1=>K .ret (jA y0 y1)) x0):=by
 simp only [bQ,bT,bS,bU,at6 fm h121,B8,R3,at2,R2,aT,ca,at4 du de dv h122 h123 h124,b8,b9,b7,afv,afw,at5]
 rfl
theorem ami (y0 y1):ag d95 .ret (rJ y0 y1)=some [.v U2 y0,.v U2 y1]:=by kernel_rfl
theorem amj (y0 y1):ag d95 .ret (jA y0 y1)=some [.v U2 y0,.v U2 y1]:=by kernel_rfl
def sO (N:Nat) (fm:V3→Option (Bool)) (du:aW→Option (Int)) (de:cE→eX→Option (Bool)) (dv:aW→aW→Option (Bool)) (x0:ae) (k:Int→Int→Option R):Option R:=
(zf N fm du de dv k k x0)
theorem aaJ (fm) (du) (de) (dv) (h121:(Cn fm).holds cl) (h122:(qY du).holds cl) (h123:(qZ de).holds cl) (h124:(ra dv).holds cl) (x0) (k:List E→Option R):exec cl N Iy [(0,.v ar x0)] (fun e env=>(ag d95 e env).bind k)=sO N fm du de dv x0 (fun r0 r1=>k [.v U2 r0,.v U2 r1]):=by
 simp only [Iy,at7 fm du de dv h121 h122 h123 h124,ami,amj,aq]
 rfl
def Jm (S:ae→Option V1):aN:=cC 95 ar S fun b=> [.v U2 b.1,.v U2 b.2]
def iY (N:Nat) (x0:ae):Option V1:=sO N (fm N) (du N) (de N) (dv N) x0 (fun (r0:Int) (r1:Int)=>some (r0,r1))
def K3 (iY:ae→Option V1) (k0:Int→Option R) (x0:ae):Option R:=
(iY x0).bind fun r1070=>
k0 r1070.2
theorem as0 (iY) (h95:(Jm iY).holds cl) (x0):exec cl N Re [(0,.v ar x0)] K=(K3 iY (fun y0=>K .ret [(2,.v U2 y0)]) x0):=by
 rw [←aJ h95]
 kernel_rfl
theorem alI (y0):ag d70 .ret [(2,.v U2 y0)]=some [.v U2 y0]:=by kernel_rfl
def Dp (iY:ae→Option V1) (x0:ae) (k:Int→Option R):Option R:=
(K3 iY k x0)
theorem aav (iY) (h95:(Jm iY).holds cl) (x0) (k:List E→Option R):exec cl N HT [(0,.v ar x0)] (fun e env=>(ag d70 e env).bind k)=Dp iY x0 (fun r0=>k [.v U2 r0]):=by
 simp only [HT,as0 iY h95,alI,aq]
 rfl
def uN (S:ae→Option (Int)):aN:=cC 70 ar S fun b=> [.v U2 b]
def ey (N:Nat) (x0:ae):Option (Int):=Dp (iY N) x0 (fun (r0:Int)=>some (r0))
def Lh (ck:Int→Option (Bool)) (k0:Bool→Option R) (x0:Int):Option R:=
(ck x0).bind fun r1078=>
k0 (!r1078)
theorem at9 (ck) (h98:(nP ck).holds cl) (x0):exec cl N R6 [(0,.v U0 x0)] K=(Lh ck (fun y0=>K .ret [(2,.v .bool y0)]) x0):=by
 rw [←aJ h98]
 kernel_rfl
theorem aml (y0):ag d97 .ret [(2,.v .bool y0)]=some [.v .bool y0]:=by kernel_rfl
def Dw (ck:Int→Option (Bool)) (x0:Int) (k:Bool→Option R):Option R:=
(Lh ck k x0)
theorem aaL (ck) (h98:(nP ck).holds cl) (x0) (k:List E→Option R):exec cl N IC [(0,.v U0 x0)] (fun e env=>(ag d97 e env).bind k)=Dw ck x0 (fun r0=>k [.v .bool r0]):=by
 simp only [IC,at9 ck h98,aml,aq]
 rfl
def rz (S:Int→Option (Bool)):aN:=cC 97 U0 S fun b=> [.v .bool b]
def dz (N:Nat) (x0:Int):Option (Bool):=Dw (ck N) x0 (fun (r0:Bool)=>some (r0))
def vX (k0:V0→cg→Option R) (x0:V0) (x1:cg):Option R:=
k0 x0 x1
theorem aoT (x0 x1):exec cl N N4 (pd x0 x1) K=(vX (fun y0 y1=>K .normal (pd y0 y1)) x0 x1):=by
 kernel_rfl
def vY (k0:V0→cg→Int→Int→Option R) (x0:V0) (x1:cg):Option R:=
k0 x0 x1 (x0.length:Int) (0:Int)
theorem aoU (x0 x1):exec cl N N5 (pd x0 x1) K=(vY (fun y0 y1 y2 y3=>K .normal (mb y0 y1 y2 y3)) x0 x1):=by
 kernel_rfl
theorem VN (x0 x1 x2 x3):aj [0,1,7,8] (mb x0 x1 x2 x3)=(mb x0 x1 x2 x3):=by kernel_rfl
def vZ (k0:Int→Option R) (k1:V0→cg→Int→Int→Option R) (k2:V0→cg→Int→Int→Option R) (x0:V0) (x1:cg) (x2 x3:Int):Option R:=
ad (decide (x3 < x2)) (if 0≤x3∧x3 < (x0.length:Int) then
(x1 ((x0.getD x3.toNat (0:Int)),())).bind fun r1085=>
ad r1085 (k0 x3) (k1 x0 x1 x2 (IntKind.i64.wrap (x3+(1:Int))))
else none) (k2 x0 x1 x2 x3)
theorem aoV (x0 x1 x2 x3):exec cl N Fs (mb x0 x1 x2 x3) K=(vZ (fun y0=>K .ret (rL y0)) (fun y0 y1 y2 y3=>K .normal (mb y0 y1 y2 y3)) (fun y0 y1 y2 y3=>K (.exit 0) (mb y0 y1 y2 y3)) x0 x1 x2 x3):=by
 kernel_rfl
def pZ {R:Type} (k0:Int→Option R) (k1:V0→cg→Int→Int→Option R):Nat→V0→cg→Int→Int→Option R
 | 0,_,_,_,_=>none
 | m+1,x0,x1,x2,x3=>(vZ k0 (pZ k0 k1 m) k1 x0 x1 x2 x3)
theorem agD:∀ (m) (x0 x1 x2 x3),iter [0,1,7,8] (fun env K=>exec cl N Fs env K) K m (mb x0 x1 x2 x3)=pZ (fun y0=>K .ret (rL y0)) (fun y0 y1 y2 y3=>K (.exit 0) (mb y0 y1 y2 y3)) m x0 x1 x2 x3:=by
 intro m
 induction m with
 | zero=>intros; rfl
 | succ m ih=>
   intro x0 x1 x2 x3
   simp only [bX,aoV,bZ,bY,b5,VN,ih]
   rfl
theorem ac5 (x0):aj [4] (rL x0)=[(4,.v U2 x0)]:=by kernel_rfl
theorem ac6 (x0 x1 x2 x3):aj [4] (mb x0 x1 x2 x3)=[(4,.dead)]:=by kernel_rfl
def v7 (N:Nat) (k0:Int→Option R) (k1:Option R) (x0:V0) (x1:cg) (x2 x3:Int):Option R:=
pZ k0 (fun y0 y1 y2 y3=>k1) N x0 x1 x2 x3
theorem aoW (x0 x1 x2 x3):exec cl N Ft (mb x0 x1 x2 x3) K=(v7 N (fun y0=>K .ret [(4,.v U2 y0)]) (K (.exit 0) [(4,.dead)]) x0 x1 x2 x3):=by
 simp only [Ft,aT,bW,VN,agD,ac5,ac6]
 rfl
theorem ac7 (x0):aj [4] [(4,.v U2 x0)]=[(4,.v U2 x0)]:=by kernel_rfl
theorem ac8:aj [4] [(4,.dead)]=[(4,.dead)]:=by kernel_rfl
def v8 (k0:Int→Option R):Option R:=
k0 (-1:Int)
theorem aoX:exec cl N N8 [(4,.dead)] K=(v8 (fun y0=>K .ret [(4,.v U2 y0)])):=by
 kernel_rfl
def wa (N:Nat) (k0:Int→Option R) (x0:V0) (x1:cg):Option R:=
(vX (vY (v7 N k0 (v8 k0))) x0 x1)
theorem aoY (x0 x1):exec cl N Fu (pd x0 x1) K=(wa N (fun y0=>K .ret [(4,.v U2 y0)]) x0 x1):=by
 simp only [Fu,bQ,bT,bS,bU,aoT,N9,N7,aoU,N6,aT,ca,aoW,b8,b9,b7,ac7,ac8,aoX]
 rfl
theorem aj3 (y0):ag d126 .ret [(4,.v U2 y0)]=some [.v U2 y0]:=by kernel_rfl
def rX (N:Nat) (x0:V0) (x1:cg) (k:Int→Option R):Option R:=
(wa N k x0 x1)
theorem ZA (x0 x1) (k:List E→Option R):exec cl N Fq (pd x0 x1) (fun e env=>(ag d126 e env).bind k)=rX N x0 x1 (fun r0=>k [.v U2 r0]):=by
 simp only [Fq,aoY,aj3,aq]
 rfl
def IS (S:V0→cg→Option (Int)):aN:=dT 126 U4 Ae S fun b=> [.v U2 b]
def iS (N:Nat) (x0:V0) (x1:cg):Option (Int):=rX N x0 x1 (fun (r0:Int)=>some (r0))
def Lg (iS:V0→cg→Option (Int)) (k0:Bool→Option R) (x0:V0) (x1:cg):Option R:=
(iS x0 x1).bind fun r1089=>
k0 (decide (r1089≥(0:Int)))
theorem at8 (iS) (h126:(IS iS).holds cl) (x0 x1):exec cl N R5 (pd x0 x1) K=(Lg iS (fun y0=>K .ret [(4,.v .bool y0)]) x0 x1):=by
 rw [←aJ h126]
 kernel_rfl
theorem amk (y0):ag d96 .ret [(4,.v .bool y0)]=some [.v .bool y0]:=by kernel_rfl
def Dv (iS:V0→cg→Option (Int)) (x0:V0) (x1:cg) (k:Bool→Option R):Option R:=
(Lg iS k x0 x1)
theorem aaK (iS) (h126:(IS iS).holds cl) (x0 x1) (k:List E→Option R):exec cl N IB (pd x0 x1) (fun e env=>(ag d96 e env).bind k)=Dv iS x0 x1 (fun r0=>k [.v .bool r0]):=by
 simp only [IB,at8 iS h126,amk,aq]
 rfl
def ry (S:V0→cg→Option (Bool)):aN:=dT 96 U4 Ae S fun b=> [.v .bool b]
def df (N:Nat) (x0:V0) (x1:cg):Option (Bool):=Dv (iS N) x0 x1 (fun (r0:Bool)=>some (r0))
end Go.Fw.L19
