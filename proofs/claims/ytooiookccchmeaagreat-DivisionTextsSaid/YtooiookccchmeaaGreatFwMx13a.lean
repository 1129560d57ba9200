/- Own work. -/
import Derived.Test.YtooiookccchmeaaGreatFwYx13
import Derived.Test.YtooiookccchmeaaGreatFwB4
set_option linter.unusedVariables false
set_option linter.unusedSimpArgs false
open Option renaming bind_some → ar
namespace Go.Fw.L19
open Go Go.Fw
set_option maxRecDepth 100000
abbrev cI (f:FuncId) (T0:Ty) {B:Type} (S:den T0→Option B) (av:B→List E):aO:={A:=den T0×Unit,B:=B,f:=f,enc:=fun a=> [.v T0 a.1],dec:=(bg (bG T0) cj),S:=fun a=>S a.1,av:=av,ok:=(gi (T:=T0) (fun es b h=>iq h))}
abbrev er (f:FuncId) (T0 T1:Ty) {B:Type} (S:den T0→den T1→Option B) (av:B→List E):aO:={A:=den T0×den T1×Unit,B:=B,f:=f,enc:=fun a=> [.v T0 a.1,.v T1 a.2.1],dec:=(bg (bG T0) (bg (bG T1) cj)),S:=fun a=>S a.1 a.2.1,av:=av,ok:=(gi (T:=T0) (gi (T:=T1) (fun es b h=>iq h)))}
abbrev QK (f:FuncId) (T0 T1 T2:Ty) {B:Type} (S:den T0→den T1→den T2→Option B) (av:B→List E):aO:={A:=den T0×den T1×den T2×Unit,B:=B,f:=f,enc:=fun a=> [.v T0 a.1,.v T1 a.2.1,.v T2 a.2.2.1],dec:=(bg (bG T0) (bg (bG T1) (bg (bG T2) cj))),S:=fun a=>S a.1 a.2.1 a.2.2.1,av:=av,ok:=(gi (T:=T0) (gi (T:=T1) (gi (T:=T2) (fun es b h=>iq h))))}
abbrev Xm (f:FuncId) (T0 T1 T2 T3:Ty) {B:Type} (S:den T0→den T1→den T2→den T3→Option B) (av:B→List E):aO:={A:=den T0×den T1×den T2×den T3×Unit,B:=B,f:=f,enc:=fun a=> [.v T0 a.1,.v T1 a.2.1,.v T2 a.2.2.1,.v T3 a.2.2.2.1],dec:=(bg (bG T0) (bg (bG T1) (bg (bG T2) (bg (bG T3) cj)))),S:=fun a=>S a.1 a.2.1 a.2.2.1 a.2.2.2.1,av:=av,ok:=(gi (T:=T0) (gi (T:=T1) (gi (T:=T2) (gi (T:=T3) (fun es b h=>iq h)))))}
abbrev e0:=fun x0 x1 x2=>([(0,.v .str x0),(3,.own true 9 .str .no x1),(4,.v U2 x2)]:Env)
abbrev e1:=fun x0 x1 x2 x3=>([(0,.v .str x0),(3,.own true 9 .str .no x1),(4,.v U2 x2),(5,.v U2 x3)]:Env)
abbrev e2:=fun x0=>([(3,.own true 9 .str .no x0)]:Env)
abbrev e3:=fun x0=>([(2,.ref 3 []),(3,.own true 9 .str .no x0)]:Env)
abbrev e4:=fun x0=>([(0,.dead),(2,.own true 9 .str .no x0),(3,.dead),(4,.dead),(5,.dead)]:Env)
abbrev e5:=fun x0=>([(2,.own true 9 .str .no x0),(3,.dead)]:Env)
abbrev e6:=fun x0=>([(2,.dead),(3,.own true 9 .str .no x0)]:Env)
abbrev e7:=fun x0=>([(1,.dead),(2,.v U2 x0)]:Env)
abbrev e8:=fun x0 x1=>([(1,.loc aB .no x0),(4,.v U2 x1)]:Env)
abbrev e9:=fun x0=>([(1,.dead),(2,.v U2 x0),(4,.dead)]:Env)
abbrev kQ:=fun x0 x1 x2=>([(0,.v .str x0),(2,.loc aB .no x1),(4,.v U2 x2)]:Env)
abbrev HY:=fun x0 x1=>([(0,.dead),(2,.loc aB .no x0),(3,.v .bool x1),(4,.dead),(5,.dead)]:Env)
abbrev pq:=fun x0 x1 x2=>([(2,.loc aB .no x0),(5,.v .str x1),(6,.loc aB .no x2)]:Env)
abbrev lH:=fun x0 x1 x2 x3=>([(2,.loc aB .no x0),(5,.v .str x1),(6,.loc aB .no x2),(7,.v U2 x3)]:Env)
abbrev H8:=fun x0 x1=>([(2,.loc aB .no x0),(3,.v .bool x1)]:Env)
abbrev Ib:=fun x0 x1=>([(0,.dead),(2,.own true 40 aB .no x0),(3,.v U2 x1)]:Env)
abbrev lQ:=fun x0 x1 x2=>([(4,.own true 40 aB .no x0),(5,.own true 9 .str .no x1),(6,.v U2 x2)]:Env)
abbrev Ik:=fun x0 x1=>([(2,.own true 40 aB .no x0),(3,.v U2 x1),(4,.dead),(5,.dead),(6,.dead)]:Env)
abbrev py:=fun x0 x1=>([(2,.own true 40 aB .no x0),(3,.v U2 x1),(4,.dead)]:Env)
abbrev uQ:=fun x0=>([(2,.dead),(3,.dead),(4,.own true 40 aB .no x0)]:Env)
abbrev Io:=fun x0 x1=>([(2,.ref 4 []),(3,.v U2 x0),(4,.own true 40 aB .no x1)]:Env)
abbrev cX:=fun x0 x1=>([(0,.v .str x0),(3,.v U2 x1)]:Env)
abbrev Ip:=fun x0 x1=>([(0,.dead),(2,.v U2 x0),(3,.v .bool x1)]:Env)
abbrev lU:=fun x0 x1 x2=>([(0,.v .str x0),(4,.v U2 x1),(5,.v U2 x2)]:Env)
abbrev Iq:=fun x0 x1=>([(2,.loc aD (.pair .no (.pair (.own true 40 .no) (.pair .no (.pair .no .no)))) x0),(3,.v .bool x1),(4,.dead)]:Env)
abbrev pz:=fun x0 x1 x2=>([(2,.loc aD (.pair .no (.pair (.own true 40 .no) (.pair .no (.pair .no .no)))) x0),(4,.own true 9 .str .no x1),(5,.v .str x2)]:Env)
abbrev lV:=fun x0 x1 x2 x3=>([(2,.loc aD (.pair .no (.pair (.own true 40 .no) (.pair .no (.pair .no .no)))) x0),(4,.own true 9 .str .no x1),(5,.v .str x2),(6,.v U2 x3)]:Env)
abbrev Ir:=fun x0 x1=>([(2,.loc aD (.pair .no (.pair (.own true 40 .no) (.pair .no (.pair .no .no)))) x0),(3,.v .bool x1),(4,.dead),(7,.dead),(9,.dead)]:Env)
abbrev Q2:=fun x0 x1 x2 x3=>([(2,.loc aD (.pair .no (.pair (.own true 40 .no) (.pair .no (.pair .no .no)))) x0),(3,.dead),(4,.own true 9 .str .no x1),(7,.own true 40 aB .no x2),(9,.v U2 x3)]:Env)
abbrev lW:=fun x0 x1 x2 x3 x4=>([(2,.loc aD (.pair .no (.pair (.own true 40 .no) (.pair .no (.pair .no .no)))) x0),(4,.own true 9 .str .no x1),(7,.own true 40 aB .no x2),(9,.v U2 x3),(11,.v U2 x4)]:Env)
abbrev Is:=fun x0 x1=>([(2,.loc aD .no x0),(3,.v .bool x1),(4,.dead),(7,.dead),(9,.dead),(11,.dead)]:Env)
abbrev rT:=fun x0 x1=>([(2,.loc aD .no x0),(3,.v .bool x1)]:Env)
abbrev uR:=fun x0=>([(2,.loc aD (.pair .no (.pair (.own true 40 .no) (.pair .no (.pair .no .no)))) x0),(3,.dead)]:Env)
abbrev It:=fun x0 x1=>([(2,.loc aD (.pair .no (.pair (.own true 40 .no) (.pair .no (.pair .no .no)))) x0),(3,.v .bool x1)]:Env)
abbrev jk:=fun x0=>([(0,.dead),(2,.v U2 x0)]:Env)
abbrev lX:=fun x0 x1=>([(0,.v U0 x0),(3,.v U2 x1)]:Env)
abbrev rU:=fun x0=>([(0,.dead),(2,.v .bool x0),(3,.dead)]:Env)
abbrev BF:=fun x0=>([(0,.v .str x0),(2,.dead)]:Env)
abbrev rV:=fun x0=>([(0,.dead),(2,.v U2 x0),(3,.dead)]:Env)
abbrev jl:=fun x0=>([(1,.loc aD .no x0),(2,.dead)]:Env)
abbrev lY:=fun x0 x1=>([(1,.loc aD .no x0),(4,.v U2 x1)]:Env)
abbrev rW:=fun x0 x1=>([(0,.v U2 x0),(1,.v U2 x1)]:Env)
abbrev lZ:=fun x0=>([(0,.dead),(1,.dead),(4,.v U2 x0)]:Env)
abbrev rX:=fun x0 x1=>([(0,.v bB x0),(1,.v bB x1)]:Env)
abbrev iS:=fun x0=>([(0,.dead),(1,.dead),(4,.v .bool x0)]:Env)
abbrev BG:=fun x0 x1=>([(0,.v bB x0),(1,.v bB x1),(4,.dead)]:Env)
abbrev l6:=fun x0 x1 x2=>([(0,.v bB x0),(1,.v bB x1),(5,.v U2 x2)]:Env)
abbrev nj:=fun x0=>([(0,.dead),(1,.dead),(4,.v .bool x0),(5,.dead)]:Env)
abbrev rY:=fun x0 x1=>([(1,.dead),(2,.v U2 x0),(3,.v U2 x1)]:Env)
abbrev BH:=fun x0=>([(1,.loc ak .no x0),(2,.dead),(3,.dead)]:Env)
abbrev iT:=fun x0 x1=>([(1,.loc ak .no x0),(4,.v U2 x1)]:Env)
abbrev nZ:=fun x0 x1=>([(1,.dead),(2,.v U2 x0),(3,.v U2 x1),(4,.dead)]:Env)
abbrev l7:=fun x0 x1 x2=>([(1,.loc ak .no x0),(4,.v U2 x1),(6,.v U2 x2)]:Env)
abbrev Iu:=fun x0 x1=>([(1,.dead),(2,.v U2 x0),(3,.v U2 x1),(4,.dead),(6,.dead)]:Env)
abbrev uS:=fun x0 x1=>([(1,.loc ak .no x0),(2,.dead),(3,.dead),(4,.v U2 x1)]:Env)
abbrev jm:=fun x0 x1=>([(2,.v U2 x0),(3,.v U2 x1)]:Env)
abbrev Iv:=fun x0 x1 x2=>([(0,.dead),(2,.loc ak (.pair .no (.pair (.own true 43 .no) .no)) x0),(3,.v U2 x1),(4,.v U2 x2)]:Env)
abbrev Iw:=fun x0 x1 x2=>([(0,.dead),(2,.loc ak (.pair .no (.pair (.own true 43 .no) .no)) x0),(3,.v U2 x1),(4,.v U2 x2),(5,.dead)]:Env)
abbrev Q3:=fun x0 x1 x2 x3=>([(0,.v .str x0),(2,.loc ak (.pair .no (.pair (.own true 43 .no) .no)) x1),(5,.own true 9 .str .no x2),(6,.loc ak (.pair .no (.pair (.own true 43 .no) .no)) x3)]:Env)
abbrev gS:=fun x0 x1 x2 x3 x4=>([(0,.v .str x0),(2,.loc ak (.pair .no (.pair (.own true 43 .no) .no)) x1),(5,.own true 9 .str .no x2),(6,.loc ak (.pair .no (.pair (.own true 43 .no) .no)) x3),(7,.v U2 x4)]:Env)
abbrev Q4:=fun x0 x1 x2 x3 x4 x5=>([(0,.v .str x0),(2,.loc ak (.pair .no (.pair (.own true 43 .no) .no)) x1),(5,.own true 9 .str .no x2),(6,.loc ak (.pair .no (.pair (.own true 43 .no) .no)) x3),(7,.v U2 x4),(8,.v .bool x5)]:Env)
abbrev Q5:=fun x0 x1 x2=>([(0,.dead),(2,.loc ak (.pair .no (.pair (.own true 43 .no) .no)) x0),(3,.v U2 x1),(4,.v U2 x2),(5,.dead),(6,.dead),(7,.dead),(9,.dead),(10,.dead)]:Env)
abbrev BI:=fun x0 x1 x2=>([(0,.dead),(2,.loc ak (.pair .no (.pair (.own true 43 .no) .no)) x0),(3,.v U2 x1),(4,.v U2 x2),(5,.dead),(6,.dead),(7,.dead)]:Env)
abbrev Q6:=fun x0 x1 x2 x3 x4=>([(0,.v .str x0),(2,.loc ak (.pair .no (.pair (.own true 43 .no) .no)) x1),(3,.dead),(4,.dead),(5,.own true 9 .str .no x2),(6,.loc ak (.pair .no (.pair (.own true 43 .no) .no)) x3),(7,.v U2 x4)]:Env)
abbrev pA:=fun x0 x1 x2=>([(2,.loc ak (.pair .no (.pair (.own true 43 .no) .no)) x0),(3,.v U2 x1),(4,.v U2 x2),(6,.dead)]:Env)
abbrev uT:=fun x0 x1=>([(2,.loc ak (.pair .no (.pair (.own true 43 .no) .no)) x0),(3,.dead),(4,.dead),(6,.loc ak (.pair .no (.pair (.own true 43 .no) .no)) x1)]:Env)
abbrev Ix:=fun x0 x1 x2=>([(2,.loc ak .no x0),(3,.v U2 x1),(4,.v U2 x2)]:Env)
abbrev kq:=fun x0=>([(2,.v U2 x0),(3,.dead)]:Env)
abbrev l8:=fun x0=>([(2,.dead),(3,.v U2 x0)]:Env)
abbrev pB:=fun x0=>([(3,.own true 4294967295 U0 .no x0)]:Env)
abbrev l9:=fun x0 x1 x2=>([(3,.own true 4294967295 U0 .no x0),(8,.ref 3 []),(9,.v U2 x1),(10,.v U2 x2)]:Env)
abbrev ma:=fun x0 x1 x2=>([(9,.own true 4294967295 U0 .no x0),(10,.v U2 x1),(11,.v U2 x2)]:Env)
abbrev Iy:=fun x0=>([(2,.v U2 x0),(9,.dead),(10,.dead),(11,.dead)]:Env)
abbrev Iz:=fun x0 x1=>([(0,.dead),(2,.own true 179 eo .no x0),(3,.v U2 x1)]:Env)
abbrev mb:=fun x0 x1 x2 x3=>([(5,.own true 179 eo .no x0),(15,.own true 4294967295 U0 .no x1),(16,.v U2 x2),(17,.v U2 x3)]:Env)
abbrev uU:=fun x0=>([(5,.own true 179 eo .no x0)]:Env)
abbrev IA:=fun x0 x1=>([(2,.ref 5 []),(3,.v U2 x0),(5,.own true 179 eo .no x1)]:Env)
abbrev uV:=fun x0 x1 x2=>([(0,.v .str x0),(1,.v mR x1),(2,.v .bool x2)]:Env)
abbrev pC:=fun x0 x1 x2 x3=>([(1,.v mR x0),(2,.v .bool x1),(10,.it x2 x3)]:Env)
abbrev IB:=fun x0=>([(1,.dead),(2,.dead),(6,.v U2 x0),(10,.dead)]:Env)
abbrev IC:=fun x0 x1 x2 x3 x4=>([(1,.v mR x0),(2,.v .bool x1),(10,.it x2 x3),(11,.cJ [.v .bool x4])]:Env)
abbrev BJ:=fun x0 x1=>([(0,.v .str x0),(1,.v mR x1)]:Env)
abbrev mc:=fun x0 x1 x2 x3=>([(1,.loc aD .no x0),(22,.v bB x1),(23,.v U2 x2),(24,.v U2 x3)]:Env)
abbrev ID:=fun x0=>([(1,.dead),(2,.v U2 x0),(22,.dead),(23,.dead),(24,.dead)]:Env)
abbrev me:=fun x0 x1 x2 x3=>([(0,.v bB x0),(1,.v bB x1),(12,.v U2 x2),(13,.v U2 x3)]:Env)
abbrev rZ:=fun x0=>([(0,.dead),(1,.dead),(4,.v .bool x0),(12,.dead),(13,.dead)]:Env)
abbrev pD:=fun x0 x1=>([(0,.v cR x0),(1,.v zl x1)]:Env)
abbrev mf:=fun x0 x1 x2 x3=>([(0,.v cR x0),(1,.v zl x1),(7,.v U2 x2),(8,.v U2 x3)]:Env)
abbrev r6:=fun x0=>([(0,.dead),(1,.dead),(4,.v U2 x0),(7,.dead),(8,.dead)]:Env)
abbrev mg:=fun x0 x1 x2 x3=>([(1,.loc ak .no x0),(24,.v cR x1),(25,.v U2 x2),(26,.v U2 x3)]:Env)
abbrev IE:=fun x0 x1=>([(1,.dead),(2,.v U2 x0),(3,.v U2 x1),(24,.dead),(25,.dead),(26,.dead)]:Env)
abbrev pE:=fun x0 x1=>([(0,.v U4 x0),(1,.v zj x1)]:Env)
abbrev mh:=fun x0 x1 x2 x3=>([(0,.v U4 x0),(1,.v zj x1),(7,.v U2 x2),(8,.v U2 x3)]:Env)
abbrev IF:=fun x0=>([(0,.dead),(1,.dead),(4,.v .str x0)]:Env)
abbrev pF:=fun x0 x1 x2=>([(0,.v U1 x0),(1,.v .str x1),(5,.v U2 x2)]:Env)
abbrev mi:=fun x0 x1 x2 x3 x4 x5=>([(0,.v U1 x0),(1,.v .str x1),(5,.v U2 x2),(39,.v U1 x3),(40,.v U2 x4),(41,.v U2 x5)]:Env)
abbrev mj:=fun x0 x1 x2 x3=>([(0,.v U1 x0),(7,.v U1 x1),(8,.v U2 x2),(9,.v U2 x3)]:Env)
abbrev IG:=fun x0 x1=>([(0,.dead),(2,.v .str x0),(3,.v U2 x1),(7,.dead),(8,.dead),(9,.dead)]:Env)
abbrev r7:=fun x0 x1=>([(0,.dead),(2,.v .str x0),(3,.v U2 x1)]:Env)
abbrev uW:=fun x0=>([(0,.v U1 x0),(2,.dead),(3,.dead)]:Env)
abbrev HU:=fun x0 x1=>([(2,.v .str x0),(3,.v U2 x1),(6,.dead)]:Env)
abbrev nh:=fun x0 x1=>([(0,.v ak x0),(1,.v .str x1)]:Env)
abbrev QP:=fun x0=>([(0,.dead),(1,.dead),(4,.own true 40 aB .no x0)]:Env)
abbrev HV:=fun x0 x1 x2 x3=>([(0,.v ak x0),(1,.v U2 x1),(2,.v bB x2),(3,.v bB x3)]:Env)
abbrev HW:=fun x0=>([(1,.dead),(2,.dead),(3,.dead),(4,.dead),(8,.v .bool x0)]:Env)
abbrev QQ:=fun x0 x1 x2 x3=>([(1,.v U2 x0),(2,.v bB x1),(3,.v bB x2),(4,.loc ak .no x3),(8,.dead)]:Env)
abbrev BE:=fun x0 x1=>([(0,.v .str x0),(1,.v .str x1)]:Env)
abbrev lA:=fun x0 x1 x2 x3 x4 x5=>([(0,.at bC x0),(3,.loc a6 .no x1),(5,.own true 73 a6 .no x2),(12,.v cR x3),(13,.v U2 x4),(14,.v U2 x5)]:Env)
abbrev uK:=fun x0=>([(5,.own true 73 a6 .no x0)]:Env)
abbrev HX:=fun x0=>([(4,.ref 5 []),(5,.own true 73 a6 .no x0)]:Env)
abbrev rR:=fun x0 x1=>([(0,.loc bC (.pair .no (.pair .no (.pair .mp .no))) x0),(1,.v a6 x1)]:Env)
abbrev HZ:=fun x0 x1=>([(0,.loc bC (.pair .no (.pair .no (.pair .mp .no))) x0),(3,.dead),(4,.v U2 x1)]:Env)
abbrev po:=fun x0 x1 x2=>([(0,.loc bC (.pair .no (.pair .no (.pair .mp .no))) x0),(3,.loc a6 .no x1),(7,.v U2 x2)]:Env)
abbrev lB:=fun x0 x1 x2 x3 x4 x5=>([(0,.loc bC (.pair .no (.pair .no (.pair .mp .no))) x0),(3,.loc a6 .no x1),(7,.v U2 x2),(47,.own true 73 a6 .no x3),(48,.v U2 x4),(49,.v U2 x5)]:Env)
abbrev H0:=fun x0 x1=>([(0,.loc bC (.pair .no (.pair .no (.pair .mp .no))) x0),(4,.v U2 x1)]:Env)
abbrev H2:=fun x0 x1=>([(0,.loc bC (.pair .no (.pair .no (.pair .mp .no))) x0),(3,.dead),(4,.own true 27 U5 .no x1)]:Env)
abbrev QR:=fun x0 x1 x2=>([(0,.loc bC (.pair .no (.pair .no (.pair .mp .no))) x0),(3,.loc a6 .no x1),(5,.own true 27 U5 .no x2)]:Env)
abbrev fS:=fun x0 x1 x2 x3 x4=>([(0,.loc bC (.pair .no (.pair .no (.pair .mp .no))) x0),(5,.own true 27 U5 .no x1),(21,.own true 73 a6 .no x2),(22,.v U2 x3),(23,.v U2 x4)]:Env)
abbrev QS:=fun x0 x1 x2 x3 x4 x5=>([(0,.loc bC (.pair .no (.pair .no (.pair .mp .no))) x0),(5,.own true 27 U5 .no x1),(7,.loc a6 .no x2),(21,.own true 73 a6 .no x3),(22,.v U2 x4),(23,.v U2 x5)]:Env)
abbrev lC:=fun x0 x1 x2 x3 x4 x5 x6 x7 x8=>([(0,.loc bC (.pair .no (.pair .no (.pair .mp .no))) x0),(5,.own true 27 U5 .no x1),(7,.loc a6 .no x2),(21,.own true 73 a6 .no x3),(22,.v U2 x4),(23,.v U2 x5),(33,.own true 27 U5 .no x6),(34,.v U2 x7),(35,.v U2 x8)]:Env)
abbrev uL:=fun x0 x1=>([(0,.loc bC (.pair .no (.pair .no (.pair .mp .no))) x0),(5,.own true 27 U5 .no x1)]:Env)
abbrev H3:=fun x0 x1=>([(0,.loc bC (.pair .no (.pair .no (.pair .mp .no))) x0),(4,.ref 5 []),(5,.own true 27 U5 .no x1)]:Env)
abbrev iu:=fun x0 x1=>([(0,.v ak x0),(1,.v U5 x1)]:Env)
abbrev lD:=fun x0 x1 x2 x3 x4=>([(2,.loc ak .no x0),(5,.v U2 x1),(8,.v U5 x2),(9,.v U2 x3),(10,.v U2 x4)]:Env)
abbrev kR:=fun x0 x1=>([(0,.v U5 x0),(1,.v U5 x1)]:Env)
abbrev lF:=fun x0 x1 x2 x3 x4=>([(0,.v U5 x0),(1,.v U5 x1),(9,.v U5 x2),(10,.v U2 x3),(11,.v U2 x4)]:Env)
abbrev H4:=fun x0=>([(0,.dead),(1,.dead),(4,.v U2 x0),(9,.dead),(10,.dead),(11,.dead)]:Env)
abbrev ni:=fun x0 x1=>([(0,.v U5 x0),(1,.v U5 x1),(4,.dead)]:Env)
abbrev kp:=fun x0 x1=>([(0,.v U5 x0),(3,.v U2 x1)]:Env)
abbrev lG:=fun x0 x1 x2 x3=>([(3,.v U2 x0),(6,.v U5 x1),(7,.v U2 x2),(8,.v U2 x3)]:Env)
abbrev H5:=fun x0=>([(2,.v U2 x0),(3,.dead),(6,.dead),(7,.dead),(8,.dead)]:Env)
abbrev QT:=fun x0 x1=>([(1,.dead),(2,.dead),(4,.own true 27 U5 .no x0),(5,.v U2 x1)]:Env)
abbrev QU:=fun x0 x1=>([(2,.dead),(4,.own true 27 U5 .no x0),(5,.v U2 x1),(7,.dead),(8,.dead),(21,.dead)]:Env)
abbrev QV:=fun x0 x1=>([(4,.ref 10 []),(5,.v U2 x0),(10,.own true 27 U5 .no x1)]:Env)
abbrev QW:=fun x0 x1 x2=>([(2,.dead),(4,.own true 3 U2 .no x0),(5,.v U2 x1),(6,.v U2 x2),(7,.dead)]:Env)
abbrev lI:=fun x0 x1 x2 x3 x4=>([(2,.loc ak .no x0),(6,.sb 123 5 x1),(9,.v U5 x2),(10,.v U2 x3),(11,.v U2 x4)]:Env)
abbrev H6:=fun x0 x1=>([(2,.dead),(4,.v .str x0),(5,.v .bool x1),(6,.dead),(9,.dead),(10,.dead),(11,.dead)]:Env)
abbrev rS:=fun x0 x1=>([(4,.v .str x0),(5,.v .bool x1),(6,.dead)]:Env)
abbrev uM:=fun x0=>([(4,.dead),(5,.dead),(6,.sb 123 5 x0)]:Env)
abbrev H7:=fun x0 x1=>([(1,.dead),(2,.dead),(4,.own true 3 U2 .no x0),(5,.v U2 x1)]:Env)
abbrev QX:=fun x0 x1 x2 x3=>([(1,.v U5 x0),(2,.loc ak .no x1),(7,.own true 3 U2 .no x2),(8,.v U2 x3)]:Env)
abbrev gR:=fun x0 x1 x2 x3 x4 x5=>([(2,.loc ak .no x0),(7,.own true 3 U2 .no x1),(8,.v U2 x2),(17,.v U5 x3),(18,.v U2 x4),(19,.v U2 x5)]:Env)
abbrev pt:=fun x0 x1 x2 x3 x4 x5 x6=>([(2,.loc ak .no x0),(7,.own true 3 U2 .no x1),(8,.v U2 x2),(10,.v U2 x3),(17,.v U5 x4),(18,.v U2 x5),(19,.v U2 x6)]:Env)
abbrev lJ:=fun x0 x1 x2 x3 x4 x5 x6 x7 x8=>([(2,.loc ak .no x0),(7,.own true 3 U2 .no x1),(8,.v U2 x2),(10,.v U2 x3),(17,.v U5 x4),(18,.v U2 x5),(19,.v U2 x6),(29,.v U2 x7),(30,.v U2 x8)]:Env)
abbrev uN:=fun x0=>([(7,.own true 3 U2 .no x0)]:Env)
abbrev H9:=fun x0 x1=>([(4,.ref 7 []),(5,.v U2 x0),(7,.own true 3 U2 .no x1)]:Env)
abbrev Ia:=fun x0 x1=>([(1,.dead),(2,.dead),(4,.v U2 x0),(5,.v U2 x1)]:Env)
abbrev QY:=fun x0 x1 x2 x3=>([(1,.v .str x0),(2,.loc ak .no x1),(7,.own true 4 .bool .no x2),(8,.v U2 x3)]:Env)
abbrev fT:=fun x0 x1 x2 x3 x4 x5=>([(1,.v .str x0),(2,.loc ak .no x1),(7,.own true 4 .bool .no x2),(8,.v U2 x3),(25,.ref 7 []),(26,.v U2 x4),(27,.v U2 x5)]:Env)
abbrev QZ:=fun x0 x1 x2 x3 x4 x5 x6=>([(1,.v .str x0),(2,.loc ak .no x1),(7,.own true 4 .bool .no x2),(8,.v U2 x3),(9,.v U2 x4),(25,.ref 7 []),(26,.v U2 x5),(27,.v U2 x6)]:Env)
abbrev lK:=fun x0 x1 x2 x3 x4 x5 x6 x7 x8 x9=>([(1,.v .str x0),(2,.loc ak .no x1),(7,.own true 4 .bool .no x2),(8,.v U2 x3),(9,.v U2 x4),(25,.ref 7 []),(26,.v U2 x5),(27,.v U2 x6),(36,.v cR x7),(37,.v U2 x8),(38,.v U2 x9)]:Env)
abbrev lL:=fun x0 x1 x2=>([(0,.v U5 x0),(1,.v U5 x1),(5,.v U2 x2)]:Env)
abbrev lM:=fun x0 x1 x2=>([(0,.v U7 x0),(1,.v U7 x1),(5,.v U2 x2)]:Env)
abbrev lN:=fun x0 x1 x2 x3=>([(0,.v U5 x0),(1,.v U5 x1),(12,.v U2 x2),(13,.v U2 x3)]:Env)
abbrev Q0:=fun x0=>([(0,.v .bool x0),(2,.dead),(4,.dead),(6,.dead),(9,.dead)]:Env)
abbrev pv:=fun x0 x1 x2=>([(1,.loc fi .no x0),(2,.loc ak (.pair .no (.pair (.own true 43 .no) .no)) x1),(3,.loc ak .no x2)]:Env)
abbrev lO:=fun x0 x1 x2 x3=>([(1,.loc fi .no x0),(2,.loc ak (.pair .no (.pair (.own true 43 .no) .no)) x1),(3,.loc ak .no x2),(4,.v U2 x3)]:Env)
abbrev lP:=fun x0 x1 x2 x3=>([(1,.loc fi .no x0),(2,.loc ak (.pair .no (.pair (.own true 43 .no) .no)) x1),(3,.loc ak .no x2),(7,.v U2 x3)]:Env)
abbrev uO:=fun x0 x1=>([(2,.loc ak (.pair .no (.pair (.own true 43 .no) .no)) x0),(3,.loc ak .no x1)]:Env)
abbrev Ic:=fun x0 x1=>([(1,.dead),(2,.dead),(4,.own true 40 aB .no x0),(5,.v U2 x1)]:Env)
abbrev lR:=fun x0 x1 x2 x3 x4=>([(2,.loc ak .no x0),(7,.own true 40 aB .no x1),(16,.v U5 x2),(17,.v U2 x3),(18,.v U2 x4)]:Env)
abbrev uP:=fun x0=>([(7,.own true 40 aB .no x0)]:Env)
abbrev Ie:=fun x0 x1=>([(4,.ref 7 []),(5,.v U2 x0),(7,.own true 40 aB .no x1)]:Env)
abbrev Ig:=fun x0 x1 x2=>([(0,.v ak x0),(1,.v .str x1),(2,.v U5 x2)]:Env)
abbrev Ih:=fun x0 x1=>([(1,.dead),(2,.dead),(3,.dead),(6,.v U2 x0),(7,.v U2 x1)]:Env)
abbrev pw:=fun x0 x1=>([(2,.dead),(3,.dead),(6,.v U2 x0),(7,.v U2 x1)]:Env)
abbrev px:=fun x0 x1=>([(2,.v U5 x0),(3,.loc ak .no x1),(6,.dead),(7,.dead)]:Env)
abbrev lS:=fun x0 x1 x2 x3 x4=>([(2,.v U5 x0),(3,.loc ak .no x1),(34,.v U5 x2),(35,.v U2 x3),(36,.v U2 x4)]:Env)
abbrev Ii:=fun x0 x1=>([(2,.dead),(3,.dead),(6,.v U2 x0),(7,.v U2 x1),(34,.dead),(35,.dead),(36,.dead)]:Env)
abbrev Ij:=fun x0=>([(1,.dead),(2,.dead),(4,.v .bool x0)]:Env)
abbrev Il:=fun x0=>([(1,.dead),(4,.v .bool x0),(5,.dead),(6,.dead)]:Env)
abbrev Q1:=fun x0 x1 x2 x3=>([(1,.v .str x0),(5,.loc ak .no x1),(6,.own true 27 U5 .no x2),(8,.v U2 x3)]:Env)
abbrev lT:=fun x0 x1 x2 x3 x4 x5=>([(1,.v .str x0),(5,.loc ak .no x1),(6,.own true 27 U5 .no x2),(8,.v U2 x3),(52,.ref 6 []),(53,.v U2 x4),(54,.v U2 x5)]:Env)
abbrev Im:=fun x0=>([(1,.dead),(4,.v .bool x0),(5,.dead),(6,.dead),(8,.dead),(52,.dead),(53,.dead),(54,.dead)]:Env)
variable {N:Nat} {cl:az} {R:Type} {K:KE R}
def SO (k0:V4→aG→Int→Option R) (x0:V4):Option R:=
k0 x0 [] (0:Int)
theorem aqy (x0):exec cl N A7 [(0,.v .str x0)] K=(SO (fun y0 y1 y2=>exec cl N A6 (e0 y0 y1 y2) K) x0):=by
 delta A7
 generalize A6=q
 revert q
 refine id ?_
 intro q
 kernel_rfl
def SK (k0:V4→aG→Int→Int→Option R) (x0:V4) (x1:aG) (x2:Int):Option R:=
k0 x0 x1 x2 (0:Int)
theorem aqu (x0 x1 x2):exec cl N P4 (e0 x0 x1 x2) K=(SK (fun y0 y1 y2 y3=>K .normal (e1 y0 y1 y2 y3)) x0 x1 x2):=by
 kernel_rfl
theorem Ut (x0 x1 x2 x3):aj [0,3,4,5] (e1 x0 x1 x2 x3)=(e1 x0 x1 x2 x3):=by kernel_rfl
def SL (k0:V4→aG→Int→Int→Option R) (k1:V4→aG→Int→Int→Option R) (x0:V4) (x1:aG) (x2 x3:Int):Option R:=
ad (decide (x3≤(x0.length:Int))) (ad (x3==(x0.length:Int)) (ad (x2==x3) (k0 x0 x1 x2 x3) (ad (x3==(x0.length:Int)) (if 0≤x2∧x2≤x3∧x3≤(x0.length:Int) then
let v27:V4:=((x0.drop x2.toNat).take (x3.toNat - x2.toNat))
if x1.length+[v27].length≤8796093022208 then
k1 x0 (x1++[v27]) (IntKind.i64.wrap (x3+(1:Int))) (IntKind.i64.wrap (x3+(1:Int)))
else none
else none) (if 0≤x3∧x3 < (x0.length:Int) then
ad (((x0.getD x3.toNat 0).toNat:Int)==(10:Int)) (if 0≤x2∧x2≤x3∧x3≤(x0.length:Int) then
let v32:V4:=((x0.drop x2.toNat).take (x3.toNat - x2.toNat))
if x1.length+[v32].length≤8796093022208 then
k1 x0 (x1++[v32]) (IntKind.i64.wrap (x3+(1:Int))) (IntKind.i64.wrap (x3+(1:Int)))
else none
else none) (k1 x0 x1 x2 (IntKind.i64.wrap (x3+(1:Int))))
else none))) (ad (x3==(x0.length:Int)) (if 0≤x2∧x2≤x3∧x3≤(x0.length:Int) then
let v37:V4:=((x0.drop x2.toNat).take (x3.toNat - x2.toNat))
if x1.length+[v37].length≤8796093022208 then
k1 x0 (x1++[v37]) (IntKind.i64.wrap (x3+(1:Int))) (IntKind.i64.wrap (x3+(1:Int)))
else none
else none) (if 0≤x3∧x3 < (x0.length:Int) then
ad (((x0.getD x3.toNat 0).toNat:Int)==(10:Int)) (if 0≤x2∧x2≤x3∧x3≤(x0.length:Int) then
let v42:V4:=((x0.drop x2.toNat).take (x3.toNat - x2.toNat))
if x1.length+[v42].length≤8796093022208 then
k1 x0 (x1++[v42]) (IntKind.i64.wrap (x3+(1:Int))) (IntKind.i64.wrap (x3+(1:Int)))
else none
else none) (k1 x0 x1 x2 (IntKind.i64.wrap (x3+(1:Int))))
else none))) (k0 x0 x1 x2 x3)
theorem aqv (x0 x1 x2 x3):exec cl N GZ (e1 x0 x1 x2 x3) K=(SL (fun y0 y1 y2 y3=>K (.exit 0) (e1 y0 y1 y2 y3)) (fun y0 y1 y2 y3=>K .normal (e1 y0 y1 y2 y3)) x0 x1 x2 x3):=by
 kernel_rfl
def Kx {R:Type} (k0:V4→aG→Int→Int→Option R):Nat→V4→aG→Int→Int→Option R
 | 0,_,_,_,_=>none
 | m+1,x0,x1,x2,x3=>(SL k0 (Kx k0 m) x0 x1 x2 x3)
theorem afa:∀ (m) (x0 x1 x2 x3),iter [0,3,4,5] (fun env K=>exec cl N GZ env K) K m (e1 x0 x1 x2 x3)=Kx (fun y0 y1 y2 y3=>K (.exit 0) (e1 y0 y1 y2 y3)) m x0 x1 x2 x3:=by
 intro m
 induction m with
 | zero=>intros; rfl
 | succ m ih=>
   intro x0 x1 x2 x3
   simp only [b9,aqv,cb,ca,cc,Ut,ih]
   rfl
theorem adh (x0 x1 x2 x3):aj [3] (e1 x0 x1 x2 x3)=(e2 x1):=by kernel_rfl
def SM (N:Nat) (k0:aG→Option R) (x0:V4) (x1:aG) (x2 x3:Int):Option R:=
Kx (fun y0 y1 y2 y3=>k0 y1) N x0 x1 x2 x3
theorem aqw (x0 x1 x2 x3):exec cl N G3 (e1 x0 x1 x2 x3) K=(SM N (fun y0=>K (.exit 0) (e2 y0)) x0 x1 x2 x3):=by
 simp only [G3,aV,b8,Ut,afa,adh]
 rfl
theorem adi (x0):aj [3] (e2 x0)=(e2 x0):=by kernel_rfl
def SN (k0:aG→Option R) (x0:aG):Option R:=
k0 x0
theorem aqx (x0):exec cl N P7 (e2 x0) K=(SN (fun y0=>K .ret (e3 y0)) x0):=by
 kernel_rfl
def SP (N:Nat) (k0:aG→Option R) (x0:V4):Option R:=
(SO (SK (SM N ((SN k0)))) x0)
theorem aqz (x0):exec cl N A7 [(0,.v .str x0)] K=(SP N (fun y0=>K .ret (e3 y0)) x0):=by
 simp only [bX,bZ,bY,b5,aqy,A6,P6,aqu,P5,aV,cx,aqw,ct,cw,cq,adi,aqx]
 rfl
theorem aju (y0):ag d92 .ret (e3 y0)=some [.own true 9 .str .no y0]:=by kernel_rfl
def JL (N:Nat) (x0:V4) (k:aG→Option R):Option R:=
(SP N k x0)
theorem YY (x0) (k:List E→Option R):exec cl N GY [(0,.v .str x0)] (fun e env=>(ag d92 e env).bind k)=JL N x0 (fun r0=>k [.own true 9 .str .no r0]):=by
 simp only [GY,aqz,aju,ar]
 rfl
def Bx (S:V4→Option fQ):aO:=cI 92 .str S fun b=> [.own true 9 .str .no b]
def gg (N:Nat) (x0:V4):Option fQ:=JL N x0 (fun (r0:aG)=>some (r0))
def SV (k0:V4→aG→Int→Option R) (x0:V4):Option R:=
k0 x0 [] (0:Int)
theorem aqE (x0):exec cl N A9 [(0,.v .str x0)] K=(SV (fun y0 y1 y2=>exec cl N A8 (e0 y0 y1 y2) K) x0):=by
 delta A9
 generalize A8=q
 revert q
 refine id ?_
 intro q
 kernel_rfl
def SQ (k0:V4→aG→Int→Int→Option R) (x0:V4) (x1:aG) (x2:Int):Option R:=
k0 x0 x1 x2 (0:Int)
theorem aqA (x0 x1 x2):exec cl N P8 (e0 x0 x1 x2) K=(SQ (fun y0 y1 y2 y3=>K .normal (e1 y0 y1 y2 y3)) x0 x1 x2):=by
 kernel_rfl
theorem Uu (x0 x1 x2 x3):aj [0,3,4,5] (e1 x0 x1 x2 x3)=(e1 x0 x1 x2 x3):=by kernel_rfl
def SR (k0:aG→Option R) (k1:V4→aG→Int→Int→Option R) (k2:V4→aG→Int→Int→Option R) (x0:V4) (x1:aG) (x2 x3:Int):Option R:=
ad (decide (x3≤(x0.length:Int))) (ad (x3==(x0.length:Int)) (ad (x3==x2) (k0 []) (if 0≤x2∧x2≤x3∧x3≤(x0.length:Int) then
let v67:V4:=((x0.drop x2.toNat).take (x3.toNat - x2.toNat))
if x1.length+[v67].length≤8796093022208 then
k1 x0 (x1++[v67]) (IntKind.i64.wrap (x3+(1:Int))) (IntKind.i64.wrap (x3+(1:Int)))
else none
else none)) (if 0≤x3∧x3 < (x0.length:Int) then
ad (((x0.getD x3.toNat 0).toNat:Int)==(32:Int)) (ad (x3==x2) (k0 []) (if 0≤x2∧x2≤x3∧x3≤(x0.length:Int) then
let v72:V4:=((x0.drop x2.toNat).take (x3.toNat - x2.toNat))
if x1.length+[v72].length≤8796093022208 then
k1 x0 (x1++[v72]) (IntKind.i64.wrap (x3+(1:Int))) (IntKind.i64.wrap (x3+(1:Int)))
else none
else none)) (k1 x0 x1 x2 (IntKind.i64.wrap (x3+(1:Int))))
else none)) (k2 x0 x1 x2 x3)
theorem aqB (x0 x1 x2 x3):exec cl N G5 (e1 x0 x1 x2 x3) K=(SR (fun y0=>K .ret (e4 y0)) (fun y0 y1 y2 y3=>K .normal (e1 y0 y1 y2 y3)) (fun y0 y1 y2 y3=>K (.exit 0) (e1 y0 y1 y2 y3)) x0 x1 x2 x3):=by
 kernel_rfl
def Ky {R:Type} (k0:aG→Option R) (k1:V4→aG→Int→Int→Option R):Nat→V4→aG→Int→Int→Option R
 | 0,_,_,_,_=>none
 | m+1,x0,x1,x2,x3=>(SR k0 (Ky k0 k1 m) k1 x0 x1 x2 x3)
theorem afb:∀ (m) (x0 x1 x2 x3),iter [0,3,4,5] (fun env K=>exec cl N G5 env K) K m (e1 x0 x1 x2 x3)=Ky (fun y0=>K .ret (e4 y0)) (fun y0 y1 y2 y3=>K (.exit 0) (e1 y0 y1 y2 y3)) m x0 x1 x2 x3:=by
 intro m
 induction m with
 | zero=>intros; rfl
 | succ m ih=>
   intro x0 x1 x2 x3
   simp only [b9,aqB,cb,ca,cc,Uu,ih]
   rfl
theorem adj (x0):aj [2,3] (e4 x0)=(e5 x0):=by kernel_rfl
theorem adk (x0 x1 x2 x3):aj [2,3] (e1 x0 x1 x2 x3)=(e6 x1):=by kernel_rfl
def SS (N:Nat) (k0:aG→Option R) (k1:aG→Option R) (x0:V4) (x1:aG) (x2 x3:Int):Option R:=
Ky k0 (fun y0 y1 y2 y3=>k1 y1) N x0 x1 x2 x3
theorem aqC (x0 x1 x2 x3):exec cl N G6 (e1 x0 x1 x2 x3) K=(SS N (fun y0=>K .ret (e5 y0)) (fun y0=>K (.exit 0) (e6 y0)) x0 x1 x2 x3):=by
 simp only [G6,aV,b8,Uu,afb,adj,adk]
 rfl
theorem adl (x0):aj [2,3] (e5 x0)=(e5 x0):=by kernel_rfl
theorem adm (x0):aj [2,3] (e6 x0)=(e6 x0):=by kernel_rfl
def SU (k0:aG→Option R) (x0:aG):Option R:=
k0 x0
theorem aqD (x0):exec cl N Qb (e6 x0) K=(SU (fun y0=>K .ret (e3 y0)) x0):=by
 kernel_rfl
def SX (N:Nat) (k0:aG→Option R) (k1:aG→Option R) (x0:V4):Option R:=
(SV (SQ (SS N k0 ((SU k1)))) x0)
theorem aqF (x0):exec cl N A9 [(0,.v .str x0)] K=(SX N (fun y0=>K .ret (e5 y0)) (fun y0=>K .ret (e3 y0)) x0):=by
 simp only [bX,bZ,bY,b5,aqE,A8,Qa,aqA,P9,aV,cx,aqC,ct,cw,cq,adl,adm,aqD]
 rfl
theorem ajv (y0):ag d93 .ret (e5 y0)=some [.own true 9 .str .no y0]:=by kernel_rfl
theorem ajw (y0):ag d93 .ret (e3 y0)=some [.own true 9 .str .no y0]:=by kernel_rfl
def JM (N:Nat) (x0:V4) (k:aG→Option R):Option R:=
(SX N k k x0)
theorem YZ (x0) (k:List E→Option R):exec cl N G4 [(0,.v .str x0)] (fun e env=>(ag d93 e env).bind k)=JM N x0 (fun r0=>k [.own true 9 .str .no r0]):=by
 simp only [G4,aqF,ajv,ajw,ar]
 rfl
def ly (S:V4→Option fQ):aO:=cI 93 .str S fun b=> [.own true 9 .str .no b]
def bL (N:Nat) (x0:V4):Option fQ:=JM N x0 (fun (r0:aG)=>some (r0))
def RQ (k0:V4→aG→Option R) (x0:V4):Option R:=
k0 x0 [([]:List UInt8)]
theorem amv (x0):exec cl N zZ [(0,.v .str x0)] K=(RQ (fun y0 y1=>exec cl N zY [(0,.v .str y0),(3,.own true 9 .str .no y1)] K) x0):=by
 delta zZ
 generalize zY=q
 revert q
 refine id ?_
 intro q
 kernel_rfl
def RM (k0:V4→aG→Int→Option R) (x0:V4) (x1:aG):Option R:=
k0 x0 x1 (0:Int)
theorem amr (x0 x1):exec cl N MQ [(0,.v .str x0),(3,.own true 9 .str .no x1)] K=(RM (fun y0 y1 y2=>K .normal (e0 y0 y1 y2)) x0 x1):=by
 kernel_rfl
theorem TU (x0 x1 x2):aj [0,3,4] (e0 x0 x1 x2)=(e0 x0 x1 x2):=by kernel_rfl
def RN (k0:V4→aG→Int→Option R) (k1:V4→aG→Int→Option R) (x0:V4) (x1:aG) (x2:Int):Option R:=
ad (decide (x2 < (x0.length:Int))) (if 0≤x2∧x2 < (x0.length:Int) then
ad (((x0.getD x2.toNat 0).toNat:Int)==(32:Int)) (if x1.length+[([]:List UInt8)].length≤8796093022208 then
k0 x0 (x1++[([]:List UInt8)]) (IntKind.i64.wrap (x2+(1:Int)))
else none) (let v102:Int:=(IntKind.i64.wrap ((x1.length:Int) - (1:Int)))
let v103:Int:=(IntKind.i64.wrap ((x1.length:Int) - (1:Int)))
if 0≤v103∧v103 < (x1.length:Int) then
if v103.toNat < x1.length then
let v105:Int:=(IntKind.i64.wrap (x2+(1:Int)))
if 0≤x2∧x2≤v105∧v105≤(x0.length:Int) then
let v106:V4:=((x0.drop x2.toNat).take (v105.toNat - x2.toNat))
if (x1.getD v103.toNat []).length+v106.length≤140737488355328 then
if 0≤v102∧v102 < (x1.length:Int) then
if v102.toNat < x1.length then
k0 x0 (x1.set v102.toNat ((x1.getD v103.toNat [])++v106)) (IntKind.i64.wrap (x2+(1:Int)))
else none
else none
else none
else none
else none
else none)
else none) (k1 x0 x1 x2)
theorem ams (x0 x1 x2):exec cl N Ev (e0 x0 x1 x2) K=(RN (fun y0 y1 y2=>K .normal (e0 y0 y1 y2)) (fun y0 y1 y2=>K (.exit 0) (e0 y0 y1 y2)) x0 x1 x2):=by
 kernel_rfl
def Ko {R:Type} (k0:V4→aG→Int→Option R):Nat→V4→aG→Int→Option R
 | 0,_,_,_=>none
 | m+1,x0,x1,x2=>(RN (Ko k0 m) k0 x0 x1 x2)
theorem aez:∀ (m) (x0 x1 x2),iter [0,3,4] (fun env K=>exec cl N Ev env K) K m (e0 x0 x1 x2)=Ko (fun y0 y1 y2=>K (.exit 0) (e0 y0 y1 y2)) m x0 x1 x2:=by
 intro m
 induction m with
 | zero=>intros; rfl
 | succ m ih=>
   intro x0 x1 x2
   simp only [b9,ams,cb,ca,cc,TU,ih]
   rfl
theorem abn (x0 x1 x2):aj [3] (e0 x0 x1 x2)=(e2 x1):=by kernel_rfl
def RO (N:Nat) (k0:aG→Option R) (x0:V4) (x1:aG) (x2:Int):Option R:=
Ko (fun y0 y1 y2=>k0 y1) N x0 x1 x2
theorem amt (x0 x1 x2):exec cl N Ew (e0 x0 x1 x2) K=(RO N (fun y0=>K (.exit 0) (e2 y0)) x0 x1 x2):=by
 simp only [Ew,aV,b8,TU,aez,abn]
 rfl
theorem abo (x0):aj [3] (e2 x0)=(e2 x0):=by kernel_rfl
def RP (k0:aG→Option R) (x0:aG):Option R:=
k0 x0
theorem amu (x0):exec cl N MT (e2 x0) K=(RP (fun y0=>K .ret (e3 y0)) x0):=by
 kernel_rfl
def RR (N:Nat) (k0:aG→Option R) (x0:V4):Option R:=
(RQ (RM (RO N ((RP k0)))) x0)
theorem amw (x0):exec cl N zZ [(0,.v .str x0)] K=(RR N (fun y0=>K .ret (e3 y0)) x0):=by
 simp only [bX,bZ,bY,b5,amv,zY,MS,amr,MR,aV,cx,amt,ct,cw,cq,abo,amu]
 rfl
theorem ahQ (y0):ag d138 .ret (e3 y0)=some [.own true 9 .str .no y0]:=by kernel_rfl
def I7 (N:Nat) (x0:V4) (k:aG→Option R):Option R:=
(RR N k x0)
theorem X6 (x0) (k:List E→Option R):exec cl N Eu [(0,.v .str x0)] (fun e env=>(ag d138 e env).bind k)=I7 N x0 (fun r0=>k [.own true 9 .str .no r0]):=by
 simp only [Eu,amw,ahQ,ar]
 rfl
def Bs (S:V4→Option fQ):aO:=cI 138 .str S fun b=> [.own true 9 .str .no b]
def ga (N:Nat) (x0:V4):Option fQ:=I7 N x0 (fun (r0:aG)=>some (r0))
def R7 (k0:V4→Option R):Option R:=
k0 ([32,118,100,109,108,110,115,120,103,98]:List UInt8)
theorem amZ:exec cl N Nf [] K=(R7 (fun y0=>K .ret [(0,.v .str y0)])):=by
 kernel_rfl
theorem ah3 (y0):ag d148 .ret [(0,.v .str y0)]=some [.v .str y0]:=by kernel_rfl
def Jd (k:V4→Option R):Option R:=
(R7 k)
theorem Yd (k:List E→Option R):exec cl N ER [] (fun e env=>(ag d148 e env).bind k)=Jd (fun r0=>k [.v .str r0]):=by
 simp only [ER,amZ,ah3,ar]
 rfl
def pd (S:Option V6):aO:={A:=Unit,B:=V4,f:=148,enc:=fun a=> [],dec:=cj,S:=fun a=>S,av:=fun b=> [.v .str b],ok:=(fun es b h=>iq h)}
def dG (N:Nat):Option V6:=Jd (fun (r0:V4)=>some (r0))
def IV (k0:Bool→Option R) (x0:aR):Option R:=
ad (x0.1==(1:Int)) (k0 true) (k0 (x0.1==(2:Int)))
theorem alp (x0):exec cl N Ma [(0,.v aB x0)] K=(IV (fun y0=>K .ret [(2,.v .bool y0)]) x0):=by
 kernel_rfl
theorem ahp (y0):ag d114 .ret [(2,.v .bool y0)]=some [.v .bool y0]:=by kernel_rfl
def BQ (x0:aR) (k:Bool→Option R):Option R:=
(IV k x0)
theorem XO (x0) (k:List E→Option R):exec cl N DU [(0,.v aB x0)] (fun e env=>(ag d114 e env).bind k)=BQ x0 (fun r0=>k [.v .bool r0]):=by
 simp only [DU,alp,ahp,ar]
 rfl
def Bn (S:aR→Option (Bool)):aO:=cI 114 aB S fun b=> [.v .bool b]
def fI (N:Nat) (x0:aR):Option (Bool):=BQ x0 (fun (r0:Bool)=>some (r0))
def I6 (k0:Bool→Option R) (x0:Int):Option R:=
ad (decide (x0≥(97:Int))) (ad (decide (x0≤(122:Int))) (k0 true) (ad (decide (x0≥(48:Int))) (ad (decide (x0≤(57:Int))) (k0 true) (ad (x0==(95:Int)) (k0 true) (ad (x0==(94:Int)) (k0 true) (k0 (x0==(39:Int)))))) (ad (x0==(95:Int)) (k0 true) (ad (x0==(94:Int)) (k0 true) (k0 (x0==(39:Int))))))) (ad (decide (x0≥(48:Int))) (ad (decide (x0≤(57:Int))) (k0 true) (ad (x0==(95:Int)) (k0 true) (ad (x0==(94:Int)) (k0 true) (k0 (x0==(39:Int)))))) (ad (x0==(95:Int)) (k0 true) (ad (x0==(94:Int)) (k0 true) (k0 (x0==(39:Int))))))
theorem amq (x0):exec cl N MP [(0,.v U0 x0)] K=(I6 (fun y0=>K .ret [(2,.v .bool y0)]) x0):=by
 kernel_rfl
theorem ahP (y0):ag d137 .ret [(2,.v .bool y0)]=some [.v .bool y0]:=by kernel_rfl
def BW (x0:Int) (k:Bool→Option R):Option R:=
(I6 k x0)
theorem X5 (x0) (k:List E→Option R):exec cl N Et [(0,.v U0 x0)] (fun e env=>(ag d137 e env).bind k)=BW x0 (fun r0=>k [.v .bool r0]):=by
 simp only [Et,amq,ahP,ar]
 rfl
def rD (S:Int→Option (Bool)):aO:=cI 137 U0 S fun b=> [.v .bool b]
def dw (N:Nat) (x0:Int):Option (Bool):=BW x0 (fun (r0:Bool)=>some (r0))
def vA (k0:Int→Option R) (k1:aR→Bool→Option R) (x0:aR):Option R:=
ad (decide (x0.1 < (1:Int))) (k0 (1:Int)) (ad (decide (x0.1 > (9:Int))) (k0 (1:Int)) (ad (x0.1==(1:Int)) (ad (decide (x0.2.1≥(1:Int))) (ad (x0.1==(2:Int)) (k1 x0 (x0.2.1==(2:Int))) (k1 x0 (decide (x0.2.1≤(3:Int))))) (ad (x0.1==(2:Int)) (k1 x0 (x0.2.1==(2:Int))) (k1 x0 false))) (ad (x0.1==(2:Int)) (k1 x0 (x0.2.1==(2:Int))) (k1 x0 (x0.2.1==(0:Int))))))
theorem alH (x0):exec cl N zP [(0,.v aB x0)] K=(vA (fun y0=>K .ret (e7 y0)) (fun y0 y1=>exec cl N uj [(1,.loc aB .no y0),(3,.v .bool y1)] K) x0):=by
 delta zP
 generalize uj=q
 revert q
 refine id ?_
 intro q
 kernel_rfl
def vz (k0:Int→Option R) (k1:aR→Option R) (x0:aR) (x1:Bool):Option R:=
ad (!x1) (k0 (6:Int)) (ad (x0.2.2.1==([]:List UInt8)) (k0 (7:Int)) (ad (decide ((x0.2.2.1.length:Int) > (8:Int))) (k0 (3:Int)) (k1 x0)))
theorem alG (x0 x1):exec cl N uj [(1,.loc aB .no x0),(3,.v .bool x1)] K=(vz (fun y0=>K .ret (e7 y0)) (fun y0=>exec cl N zO [(1,.loc aB .no y0),(2,.dead)] K) x0 x1):=by
 delta uj
 generalize zO=q
 revert q
 refine id ?_
 intro q
 kernel_rfl
def vu (k0:aR→Int→Option R) (x0:aR):Option R:=
k0 x0 (0:Int)
theorem alC (x0):exec cl N Mh [(1,.loc aB .no x0),(2,.dead)] K=(vu (fun y0 y1=>K .normal (e8 y0 y1)) x0):=by
 kernel_rfl
theorem TO (x0 x1):aj [1,4] (e8 x0 x1)=(e8 x0 x1):=by kernel_rfl
def vw (dw:Int→Option (Bool)) (k0:Int→Option R) (k1:aR→Int→Option R) (k2:aR→Int→Option R) (x0:aR) (x1:Int):Option R:=
ad (decide (x1 < (x0.2.2.1.length:Int))) (if 0≤x1∧x1 < (x0.2.2.1.length:Int) then
(dw ((x0.2.2.1.getD x1.toNat 0).toNat:Int)).bind fun r259=>
ad (!r259) (k0 (2:Int)) (k1 x0 (IntKind.i64.wrap (x1+(1:Int))))
else none) (k2 x0 x1)
theorem alD (dw) (h137:(rD dw).holds cl) (x0 x1):exec cl N D2 (e8 x0 x1) K=(vw dw (fun y0=>K .ret (e9 y0)) (fun y0 y1=>K .normal (e8 y0 y1)) (fun y0 y1=>K (.exit 0) (e8 y0 y1)) x0 x1):=by
 rw [←aM h137]
 kernel_rfl
def sX {R:Type} (dw:Int→Option (Bool)) (k0:Int→Option R) (k1:aR→Int→Option R):Nat→aR→Int→Option R
 | 0,_,_=>none
 | m+1,x0,x1=>(vw dw k0 (sX dw k0 k1 m) k1 x0 x1)
theorem aet (dw) (h137:(rD dw).holds cl):∀ (m) (x0 x1),iter [1,4] (fun env K=>exec cl N D2 env K) K m (e8 x0 x1)=sX dw (fun y0=>K .ret (e9 y0)) (fun y0 y1=>K (.exit 0) (e8 y0 y1)) m x0 x1:=by
 intro m
 induction m with
 | zero=>intros; rfl
 | succ m ih=>
   intro x0 x1
   simp only [b9,alD dw h137,cb,ca,cc,TO,ih]
   rfl
theorem aa1 (x0):aj [2] (e9 x0)=[(2,.v U2 x0)]:=by kernel_rfl
theorem aa2 (x0 x1):aj [2] (e8 x0 x1)=[(2,.dead)]:=by kernel_rfl
def vx (N:Nat) (dw:Int→Option (Bool)) (k0:Int→Option R) (k1:Option R) (x0:aR) (x1:Int):Option R:=
sX dw k0 (fun y0 y1=>k1) N x0 x1
theorem alE (dw) (h137:(rD dw).holds cl) (x0 x1):exec cl N D3 (e8 x0 x1) K=(vx N dw (fun y0=>K .ret [(2,.v U2 y0)]) (K (.exit 0) [(2,.dead)]) x0 x1):=by
 simp only [D3,aV,b8,TO,aet dw h137,aa1,aa2]
 rfl
theorem aa3 (x0):aj [2] [(2,.v U2 x0)]=[(2,.v U2 x0)]:=by kernel_rfl
theorem aa4:aj [2] [(2,.dead)]=[(2,.dead)]:=by kernel_rfl
def vy (k0:Int→Option R):Option R:=
k0 (0:Int)
theorem alF:exec cl N Mk [(2,.dead)] K=(vy (fun y0=>K .ret [(2,.v U2 y0)])):=by
 kernel_rfl
def vB (N:Nat) (dw:Int→Option (Bool)) (k0:Int→Option R) (k1:Int→Option R) (x0:aR):Option R:=
(vA k0 (vz k0 (vu (vx N dw k1 (vy k1)))) x0)
theorem alI (dw) (h137:(rD dw).holds cl) (x0):exec cl N zP [(0,.v aB x0)] K=(vB N dw (fun y0=>K .ret (e7 y0)) (fun y0=>K .ret [(2,.v U2 y0)]) x0):=by
 simp only [bX,bZ,bY,b5,alH,alG,zO,Mj,alC,Mi,aV,cx,alE dw h137,ct,cw,cq,aa3,aa4,alF]
 rfl
theorem ahu (y0):ag d117 .ret (e7 y0)=some [.v U2 y0]:=by kernel_rfl
theorem ahv (y0):ag d117 .ret [(2,.v U2 y0)]=some [.v U2 y0]:=by kernel_rfl
def sh (N:Nat) (dw:Int→Option (Bool)) (x0:aR) (k:Int→Option R):Option R:=
(vB N dw k k x0)
theorem XR (dw) (h137:(rD dw).holds cl) (x0) (k:List E→Option R):exec cl N D1 [(0,.v aB x0)] (fun e env=>(ag d117 e env).bind k)=sh N dw x0 (fun r0=>k [.v U2 r0]):=by
 simp only [D1,alI dw h137,ahu,ahv,ar]
 rfl
def mZ (S:aR→Option (Int)):aO:=cI 117 aB S fun b=> [.v U2 b]
def bK (N:Nat) (x0:aR):Option (Int):=sh N (dw N) x0 (fun (r0:Int)=>some (r0))
def RW (k0:V4→aR→Int→Option R) (x0:V4):Option R:=
k0 x0 ((0:Int),((0:Int),([],()))) (0:Int)
theorem amA (x0):exec cl N z7 [(0,.v .str x0)] K=(RW (fun y0 y1 y2=>exec cl N z6 (kQ y0 y1 y2) K) x0):=by
 delta z7
 generalize z6=q
 revert q
 refine id ?_
 intro q
 kernel_rfl
theorem Cz (x0 x1 x2):aj [0,2,4] (kQ x0 x1 x2)=(kQ x0 x1 x2):=by kernel_rfl
def RS (k0:V4→aR→Int→Option R) (k1:V4→aR→Int→Option R) (x0:V4) (x1:aR) (x2:Int):Option R:=
ad (decide (x2 < (x0.length:Int))) (if 0≤x2∧x2 < (x0.length:Int) then
ad (((x0.getD x2.toNat 0).toNat:Int) != (47:Int)) (k0 x0 x1 (IntKind.i64.wrap (x2+(1:Int)))) (k1 x0 x1 x2)
else none) (k1 x0 x1 x2)
theorem amx (x0 x1 x2):exec cl N Ez (kQ x0 x1 x2) K=(RS (fun y0 y1 y2=>K .normal (kQ y0 y1 y2)) (fun y0 y1 y2=>K (.exit 0) (kQ y0 y1 y2)) x0 x1 x2):=by
 kernel_rfl
def Kp {R:Type} (k0:V4→aR→Int→Option R):Nat→V4→aR→Int→Option R
 | 0,_,_,_=>none
 | m+1,x0,x1,x2=>(RS (Kp k0 m) k0 x0 x1 x2)
theorem aeA:∀ (m) (x0 x1 x2),iter [0,2,4] (fun env K=>exec cl N Ez env K) K m (kQ x0 x1 x2)=Kp (fun y0 y1 y2=>K (.exit 0) (kQ y0 y1 y2)) m x0 x1 x2:=by
 intro m
 induction m with
 | zero=>intros; rfl
 | succ m ih=>
   intro x0 x1 x2
   simp only [b9,amx,cb,ca,cc,Cz,ih]
   rfl
def RT (N:Nat) (k0:V4→aR→Int→Option R) (x0:V4) (x1:aR) (x2:Int):Option R:=
Kp k0 N x0 x1 x2
theorem amy (x0 x1 x2):exec cl N EA (kQ x0 x1 x2) K=(RT N (fun y0 y1 y2=>K (.exit 0) (kQ y0 y1 y2)) x0 x1 x2):=by
 simp only [EA,aV,b8,Cz,aeA,Cz]
 rfl
def RU (k0:aR→Bool→Option R) (k1:aR→V4→aR→Option R) (x0:V4) (x1:aR) (x2:Int):Option R:=
ad (decide (x2 < (x0.length:Int))) (let v280:Int:=(IntKind.i64.wrap (x2+(1:Int)))
if 0≤v280∧v280≤(x0.length:Int)∧(x0.length:Int)≤(x0.length:Int) then
let v281:V4:=((x0.drop v280.toNat).take ((x0.length:Int).toNat - v280.toNat))
ad (v281==([]:List UInt8)) (k0 ((0:Int),(0:Int),[],()) false) (if 0≤(0:Int)∧(0:Int)≤x2∧x2≤(x0.length:Int) then
k1 x1 v281 ((0:Int),(0:Int),((x0.drop (0:Int).toNat).take (x2.toNat - (0:Int).toNat)),())
else none)
else none) (ad (([]:List UInt8)==([]:List UInt8)) (k0 ((0:Int),(0:Int),[],()) false) (if 0≤(0:Int)∧(0:Int)≤x2∧x2≤(x0.length:Int) then
k1 x1 ([]:List UInt8) ((0:Int),(0:Int),((x0.drop (0:Int).toNat).take (x2.toNat - (0:Int).toNat)),())
else none))
theorem amz (x0 x1 x2):exec cl N EB (kQ x0 x1 x2) K=(RU (fun y0 y1=>K .ret (HY y0 y1)) (fun y0 y1 y2=>exec cl N z8 (pq y0 y1 y2) K) x0 x1 x2):=by
 delta EB
 generalize z8=q
 revert q
 refine id ?_
 intro q
 kernel_rfl
def RY (k0:aR→V4→aR→Int→Option R) (x0:aR) (x1:V4) (x2:aR):Option R:=
k0 x0 x1 x2 (1:Int)
theorem amC (x0 x1 x2):exec cl N MV (pq x0 x1 x2) K=(RY (fun y0 y1 y2 y3=>K .normal (lH y0 y1 y2 y3)) x0 x1 x2):=by
 kernel_rfl
theorem TW (x0 x1 x2 x3):aj [2,5,6,7] (lH x0 x1 x2 x3)=(lH x0 x1 x2 x3):=by kernel_rfl
def RZ (dG:Option V6) (k0:aR→V4→aR→Int→Option R) (k1:aR→V4→aR→Int→Option R) (x0:aR) (x1:V4) (x2:aR) (x3:Int):Option R:=
(dG).bind fun r290=>
ad (decide (x3 < (r290.length:Int))) ((dG).bind fun r292=>
if 0≤x3∧x3 < (r292.length:Int) then
if 0≤(0:Int)∧(0:Int) < (x1.length:Int) then
ad (((r292.getD x3.toNat 0).toNat:Int)==((x1.getD (0:Int).toNat 0).toNat:Int)) (k0 x0 x1 (x3,x2.2) (IntKind.i64.wrap (x3+(1:Int)))) (k0 x0 x1 x2 (IntKind.i64.wrap (x3+(1:Int))))
else none
else none) (k1 x0 x1 x2 x3)
theorem amD (dG) (h148:(pd dG).holds cl) (x0 x1 x2 x3):exec cl N EC (lH x0 x1 x2 x3) K=(RZ dG (fun y0 y1 y2 y3=>K .normal (lH y0 y1 y2 y3)) (fun y0 y1 y2 y3=>K (.exit 2) (lH y0 y1 y2 y3)) x0 x1 x2 x3):=by
 rw [←aM h148]
 kernel_rfl
def Kq {R:Type} (dG:Option V6) (k0:aR→V4→aR→Int→Option R):Nat→aR→V4→aR→Int→Option R
 | 0,_,_,_,_=>none
 | m+1,x0,x1,x2,x3=>(RZ dG (Kq dG k0 m) k0 x0 x1 x2 x3)
theorem aeB (dG) (h148:(pd dG).holds cl):∀ (m) (x0 x1 x2 x3),iter [2,5,6,7] (fun env K=>exec cl N EC env K) K m (lH x0 x1 x2 x3)=Kq dG (fun y0 y1 y2 y3=>K (.exit 2) (lH y0 y1 y2 y3)) m x0 x1 x2 x3:=by
 intro m
 induction m with
 | zero=>intros; rfl
 | succ m ih=>
   intro x0 x1 x2 x3
   simp only [b9,amD dG h148,cb,ca,cc,TW,ih]
   rfl
theorem abp (x0 x1 x2 x3):aj [2,5,6] (lH x0 x1 x2 x3)=(pq x0 x1 x2):=by kernel_rfl
def R0 (N:Nat) (dG:Option V6) (k0:aR→V4→aR→Option R) (x0:aR) (x1:V4) (x2:aR) (x3:Int):Option R:=
Kq dG (fun y0 y1 y2 y3=>k0 y0 y1 y2) N x0 x1 x2 x3
theorem amE (dG) (h148:(pd dG).holds cl) (x0 x1 x2 x3):exec cl N ED (lH x0 x1 x2 x3) K=(R0 N dG (fun y0 y1 y2=>K (.exit 2) (pq y0 y1 y2)) x0 x1 x2 x3):=by
 simp only [ED,aV,b8,TW,aeB dG h148,abp]
 rfl
theorem abq (x0 x1 x2):aj [2,5,6] (pq x0 x1 x2)=(pq x0 x1 x2):=by kernel_rfl
def R1 (fI:aR→Option (Bool)) (bK:aR→Option (Int)) (k0:aR→Bool→Option R) (x0:aR) (x1:V4) (x2:aR):Option R:=
if 0≤(1:Int)∧(1:Int)≤(x1.length:Int)∧(x1.length:Int)≤(x1.length:Int) then
let v298:V4:=((x1.drop (1:Int).toNat).take ((x1.length:Int).toNat - (1:Int).toNat))
(fI x2).bind fun r299=>
ad r299 (ad ((v298.length:Int)==(1:Int)) (if 0≤(0:Int)∧(0:Int) < (v298.length:Int) then
ad (decide (((v298.getD (0:Int).toNat 0).toNat:Int)≥(49:Int))) (if 0≤(0:Int)∧(0:Int) < (v298.length:Int) then
ad (decide (((v298.getD (0:Int).toNat 0).toNat:Int)≤(51:Int))) (if 0≤(0:Int)∧(0:Int) < (v298.length:Int) then
let v307:Int:=(IntKind.i64.wrap ((IntKind.i64.wrap ((v298.getD (0:Int).toNat 0).toNat:Int)) - (48:Int)))
ad (([]:List UInt8)==([]:List UInt8)) ((bK (x2.1,(v307,x2.2.2))).bind fun r309=>
k0 (x2.1,(v307,x2.2.2)) (r309==(0:Int))) (k0 (x2.1,(v307,x2.2.2)) false)
else none) (ad (v298==([]:List UInt8)) ((bK x2).bind fun r312=>
k0 x2 (r312==(0:Int))) (k0 x2 false))
else none) (ad (v298==([]:List UInt8)) ((bK x2).bind fun r315=>
k0 x2 (r315==(0:Int))) (k0 x2 false))
else none) (ad (v298==([]:List UInt8)) ((bK x2).bind fun r318=>
k0 x2 (r318==(0:Int))) (k0 x2 false))) (ad (v298==([]:List UInt8)) ((bK x2).bind fun r321=>
k0 x2 (r321==(0:Int))) (k0 x2 false))
else none
theorem amF (fI) (bK) (h114:(Bn fI).holds cl) (h117:(mZ bK).holds cl) (x0 x1 x2):exec cl N MY (pq x0 x1 x2) K=(R1 fI bK (fun y0 y1=>K .ret (H8 y0 y1)) x0 x1 x2):=by
 rw [←aM h114]
 rw [←aM h117]
 kernel_rfl
def RX (N:Nat) (fI:aR→Option (Bool)) (bK:aR→Option (Int)) (dG:Option V6) (k0:aR→Bool→Option R) (k1:aR→Bool→Option R) (x0:V4):Option R:=
(RW (RT N ((RU k0 (RY (R0 N dG ((R1 fI bK k1))))))) x0)
theorem amB (fI) (bK) (dG) (h114:(Bn fI).holds cl) (h117:(mZ bK).holds cl) (h148:(pd dG).holds cl) (x0):exec cl N z7 [(0,.v .str x0)] K=(RX N fI bK dG (fun y0 y1=>K .ret (HY y0 y1)) (fun y0 y1=>K .ret (H8 y0 y1)) x0):=by
 simp only [bX,bZ,bY,b5,amA,z6,MU,aV,cx,amy,ct,cw,cq,Cz,amz,z8,MX,amC,MW,amE dG h148,abq,amF fI bK h114 h117]
 rfl
theorem ahR (y0 y1):ag d139 .ret (HY y0 y1)=some [.v aB y0,.v .bool y1]:=by kernel_rfl
theorem ahS (y0 y1):ag d139 .ret (H8 y0 y1)=some [.v aB y0,.v .bool y1]:=by kernel_rfl
def I8 (N:Nat) (fI:aR→Option (Bool)) (bK:aR→Option (Int)) (dG:Option V6) (x0:V4) (k:aR→Bool→Option R):Option R:=
(RX N fI bK dG k k x0)
theorem X7 (fI) (bK) (dG) (h114:(Bn fI).holds cl) (h117:(mZ bK).holds cl) (h148:(pd dG).holds cl) (x0) (k:List E→Option R):exec cl N Ey [(0,.v .str x0)] (fun e env=>(ag d139 e env).bind k)=I8 N fI bK dG x0 (fun r0 r1=>k [.v aB r0,.v .bool r1]):=by
 simp only [Ey,amB fI bK dG h114 h117 h148,ahR,ahS,ar]
 rfl
def pc (S:V4→Option o6):aO:=cI 139 .str S fun b=> [.v aB b.1,.v .bool b.2]
def dJ (N:Nat) (x0:V4):Option o6:=I8 N (fI N) (bK N) (dG N) x0 (fun (r0:aR) (r1:Bool)=>some (r0,r1))
def RC (ga:V4→Option fQ) (k0:aA→Int→Option R) (k1:aA→aG→Option R) (x0:V4):Option R:=
ad (decide ((x0.length:Int) > (4000:Int))) (k0 [] (3:Int)) (ad (x0==([]:List UInt8)) (k0 [] (0:Int)) ((ga x0).bind fun r328=>
k1 [] r328))
theorem alN (ga) (h138:(Bs ga).holds cl) (x0):exec cl N zR [(0,.v .str x0)] K=(RC ga (fun y0 y1=>K .ret (Ib y0 y1)) (fun y0 y1=>exec cl N zQ [(4,.own true 40 aB .no y0),(5,.own true 9 .str .no y1)] K) x0):=by
 rw [←aM h138]
 delta zR
 generalize zQ=q
 revert q
 refine id ?_
 intro q
 kernel_rfl
def Ry (k0:aA→aG→Int→Option R) (x0:aA) (x1:aG):Option R:=
k0 x0 x1 (0:Int)
theorem alJ (x0 x1):exec cl N Ml [(4,.own true 40 aB .no x0),(5,.own true 9 .str .no x1)] K=(Ry (fun y0 y1 y2=>K .normal (lQ y0 y1 y2)) x0 x1):=by
 kernel_rfl
theorem TP (x0 x1 x2):aj [4,5,6] (lQ x0 x1 x2)=(lQ x0 x1 x2):=by kernel_rfl
def Rz (dJ:V4→Option o6) (k0:aA→Int→Option R) (k1:aA→aG→Int→Option R) (k2:aA→aG→Int→Option R) (x0:aA) (x1:aG) (x2:Int):Option R:=
ad (decide (x2 < (x1.length:Int))) (if 0≤x2∧x2 < (x1.length:Int) then
if x2.toNat < x1.length then
(dJ (x1.getD x2.toNat [])).bind fun r331=>
ad (!r331.2) (k0 [] (2:Int)) (if x0.length+[r331.1].length≤4398046511104 then
k1 (x0++[r331.1]) x1 (IntKind.i64.wrap (x2+(1:Int)))
else none)
else none
else none) (k2 x0 x1 x2)
theorem alK (dJ) (h139:(pc dJ).holds cl) (x0 x1 x2):exec cl N D5 (lQ x0 x1 x2) K=(Rz dJ (fun y0 y1=>K .ret (Ik y0 y1)) (fun y0 y1 y2=>K .normal (lQ y0 y1 y2)) (fun y0 y1 y2=>K (.exit 0) (lQ y0 y1 y2)) x0 x1 x2):=by
 rw [←aM h139]
 kernel_rfl
def Km {R:Type} (dJ:V4→Option o6) (k0:aA→Int→Option R) (k1:aA→aG→Int→Option R):Nat→aA→aG→Int→Option R
 | 0,_,_,_=>none
 | m+1,x0,x1,x2=>(Rz dJ k0 (Km dJ k0 k1 m) k1 x0 x1 x2)
theorem aeu (dJ) (h139:(pc dJ).holds cl):∀ (m) (x0 x1 x2),iter [4,5,6] (fun env K=>exec cl N D5 env K) K m (lQ x0 x1 x2)=Km dJ (fun y0 y1=>K .ret (Ik y0 y1)) (fun y0 y1 y2=>K (.exit 0) (lQ y0 y1 y2)) m x0 x1 x2:=by
 intro m
 induction m with
 | zero=>intros; rfl
 | succ m ih=>
   intro x0 x1 x2
   simp only [b9,alK dJ h139,cb,ca,cc,TP,ih]
   rfl
theorem aa5 (x0 x1):aj [2,3,4] (Ik x0 x1)=(py x0 x1):=by kernel_rfl
theorem aa6 (x0 x1 x2):aj [2,3,4] (lQ x0 x1 x2)=(uQ x0):=by kernel_rfl
def RA (N:Nat) (dJ:V4→Option o6) (k0:aA→Int→Option R) (k1:aA→Option R) (x0:aA) (x1:aG) (x2:Int):Option R:=
Km dJ k0 (fun y0 y1 y2=>k1 y0) N x0 x1 x2
theorem alL (dJ) (h139:(pc dJ).holds cl) (x0 x1 x2):exec cl N D6 (lQ x0 x1 x2) K=(RA N dJ (fun y0 y1=>K .ret (py y0 y1)) (fun y0=>K (.exit 0) (uQ y0)) x0 x1 x2):=by
 simp only [D6,aV,b8,TP,aeu dJ h139,aa5,aa6]
 rfl
theorem aa7 (x0 x1):aj [2,3,4] (py x0 x1)=(py x0 x1):=by kernel_rfl
theorem aa8 (x0):aj [2,3,4] (uQ x0)=(uQ x0):=by kernel_rfl
def RB (k0:aA→Int→Option R) (k1:Int→aA→Option R) (x0:aA):Option R:=
ad (decide ((x0.length:Int) > (200:Int))) (k0 [] (2:Int)) (k1 (0:Int) x0)
theorem alM (x0):exec cl N Mo (uQ x0) K=(RB (fun y0 y1=>K .ret (py y0 y1)) (fun y0 y1=>K .ret (Io y0 y1)) x0):=by
 kernel_rfl
def RD (N:Nat) (ga:V4→Option fQ) (dJ:V4→Option o6) (k0:aA→Int→Option R) (k1:aA→Int→Option R) (k2:Int→aA→Option R) (x0:V4):Option R:=
(RC ga k0 (Ry (RA N dJ k1 ((RB k1 k2)))) x0)
theorem alO (ga) (dJ) (h138:(Bs ga).holds cl) (h139:(pc dJ).holds cl) (x0):exec cl N zR [(0,.v .str x0)] K=(RD N ga dJ (fun y0 y1=>K .ret (Ib y0 y1)) (fun y0 y1=>K .ret (py y0 y1)) (fun y0 y1=>K .ret (Io y0 y1)) x0):=by
 simp only [bX,bZ,bY,b5,alN ga h138,zQ,Mn,alJ,Mm,aV,cx,alL dJ h139,ct,cw,cq,aa7,aa8,alM]
 rfl
theorem ahw (y0 y1):ag d118 .ret (Ib y0 y1)=some [.own true 40 aB .no y0,.v U2 y1]:=by kernel_rfl
theorem ahx (y0 y1):ag d118 .ret (py y0 y1)=some [.own true 40 aB .no y0,.v U2 y1]:=by kernel_rfl
theorem ahy (y0 y1):ag d118 .ret (Io y0 y1)=some [.own true 40 aB .no y1,.v U2 y0]:=by kernel_rfl
def IW (N:Nat) (ga:V4→Option fQ) (dJ:V4→Option o6) (x0:V4) (k:aA→Int→Option R):Option R:=
(RD N ga dJ k k (fun y0 y1=>k y1 y0) x0)
theorem XS (ga) (dJ) (h138:(Bs ga).holds cl) (h139:(pc dJ).holds cl) (x0) (k:List E→Option R):exec cl N D4 [(0,.v .str x0)] (fun e env=>(ag d118 e env).bind k)=IW N ga dJ x0 (fun r0 r1=>k [.own true 40 aB .no r0,.v U2 r1]):=by
 simp only [D4,alO ga dJ h138 h139,ahw,ahx,ahy,ar]
 rfl
def Bp (S:V4→Option ke):aO:=cI 118 .str S fun b=> [.own true 40 aB .no b.1,.v U2 b.2]
def fY (N:Nat) (x0:V4):Option ke:=IW N (ga N) (dJ N) x0 (fun (r0:aA) (r1:Int)=>some (r0,r1))
def I5 (k0:Bool→Option R) (x0:Int):Option R:=
ad (decide (x0≥(48:Int))) (k0 (decide (x0≤(57:Int)))) (k0 false)
theorem amp (x0):exec cl N MO [(0,.v U0 x0)] K=(I5 (fun y0=>K .ret [(2,.v .bool y0)]) x0):=by
 kernel_rfl
theorem ahO (y0):ag d136 .ret [(2,.v .bool y0)]=some [.v .bool y0]:=by kernel_rfl
def BV (x0:Int) (k:Bool→Option R):Option R:=
(I5 k x0)
theorem X4 (x0) (k:List E→Option R):exec cl N Es [(0,.v U0 x0)] (fun e env=>(ag d136 e env).bind k)=BV x0 (fun r0=>k [.v .bool r0]):=by
 simp only [Es,amp,ahO,ar]
 rfl
def kN (S:Int→Option (Bool)):aO:=cI 136 U0 S fun b=> [.v .bool b]
def bu (N:Nat) (x0:Int):Option (Bool):=BV x0 (fun (r0:Bool)=>some (r0))
def R5 (k0:V4→Int→Option R) (x0:V4):Option R:=
k0 x0 (0:Int)
theorem amK (x0):exec cl N Ab [(0,.v .str x0)] K=(R5 (fun y0 y1=>exec cl N Aa (cX y0 y1) K) x0):=by
 delta Ab
 generalize Aa=q
 revert q
 refine id ?_
 intro q
 kernel_rfl
theorem TX (x0 x1):aj [0,3] (cX x0 x1)=(cX x0 x1):=by kernel_rfl
def R2 (bu:Int→Option (Bool)) (k0:V4→Int→Option R) (k1:V4→Int→Option R) (x0:V4) (x1:Int):Option R:=
ad (decide (x1 < (x0.length:Int))) (if 0≤x1∧x1 < (x0.length:Int) then
(bu ((x0.getD x1.toNat 0).toNat:Int)).bind fun r349=>
ad r349 (k0 x0 (IntKind.i64.wrap (x1+(1:Int)))) (k1 x0 x1)
else none) (k1 x0 x1)
theorem amH (bu) (h136:(kN bu).holds cl) (x0 x1):exec cl N EF (cX x0 x1) K=(R2 bu (fun y0 y1=>K .normal (cX y0 y1)) (fun y0 y1=>K (.exit 0) (cX y0 y1)) x0 x1):=by
 rw [←aM h136]
 kernel_rfl
def Kr {R:Type} (bu:Int→Option (Bool)) (k0:V4→Int→Option R):Nat→V4→Int→Option R
 | 0,_,_=>none
 | m+1,x0,x1=>(R2 bu (Kr bu k0 m) k0 x0 x1)
theorem aeC (bu) (h136:(kN bu).holds cl):∀ (m) (x0 x1),iter [0,3] (fun env K=>exec cl N EF env K) K m (cX x0 x1)=Kr bu (fun y0 y1=>K (.exit 0) (cX y0 y1)) m x0 x1:=by
 intro m
 induction m with
 | zero=>intros; rfl
 | succ m ih=>
   intro x0 x1
   simp only [b9,amH bu h136,cb,ca,cc,TX,ih]
   rfl
theorem abr (x0 x1):aj [3] (cX x0 x1)=[(3,.v U2 x1)]:=by kernel_rfl
def R3 (N:Nat) (bu:Int→Option (Bool)) (k0:Int→Option R) (x0:V4) (x1:Int):Option R:=
Kr bu (fun y0 y1=>k0 y1) N x0 x1
theorem amI (bu) (h136:(kN bu).holds cl) (x0 x1):exec cl N EG (cX x0 x1) K=(R3 N bu (fun y0=>K (.exit 0) [(3,.v U2 y0)]) x0 x1):=by
 simp only [EG,aV,b8,TX,aeC bu h136,abr]
 rfl
theorem abt (x0):aj [3] [(3,.v U2 x0)]=[(3,.v U2 x0)]:=by kernel_rfl
def R4 (k0:Int→Option R) (x0:Int):Option R:=
k0 x0
theorem amJ (x0):exec cl N M1 [(3,.v U2 x0)] K=(R4 (fun y0=>K .ret [(2,.v U2 y0)]) x0):=by
 kernel_rfl
def R6 (N:Nat) (bu:Int→Option (Bool)) (k0:Int→Option R) (x0:V4):Option R:=
(R5 (R3 N bu ((R4 k0))) x0)
theorem amL (bu) (h136:(kN bu).holds cl) (x0):exec cl N Ab [(0,.v .str x0)] K=(R6 N bu (fun y0=>K .ret [(2,.v U2 y0)]) x0):=by
 simp only [bX,bZ,bY,b5,amK,Aa,M0,aV,cx,amI bu h136,ct,cw,cq,abt,amJ]
 rfl
theorem ahV (y0):ag d140 .ret [(2,.v U2 y0)]=some [.v U2 y0]:=by kernel_rfl
def Ja (N:Nat) (bu:Int→Option (Bool)) (x0:V4) (k:Int→Option R):Option R:=
(R6 N bu k x0)
theorem X8 (bu) (h136:(kN bu).holds cl) (x0) (k:List E→Option R):exec cl N EE [(0,.v .str x0)] (fun e env=>(ag d140 e env).bind k)=Ja N bu x0 (fun r0=>k [.v U2 r0]):=by
 simp only [EE,amL bu h136,ahV,ar]
 rfl
def Bt (S:V4→Option (Int)):aO:=cI 140 .str S fun b=> [.v U2 b]
def gd (N:Nat) (x0:V4):Option (Int):=Ja N (bu N) x0 (fun (r0:Int)=>some (r0))
def RI (gd:V4→Option (Int)) (k0:Int→Bool→Option R) (k1:V4→Int→Option R) (x0:V4):Option R:=
ad (x0==([]:List UInt8)) (k0 (0:Int) false) (ad (decide ((x0.length:Int) > (6:Int))) (k0 (0:Int) false) ((gd x0).bind fun r365=>
ad (r365 != (x0.length:Int)) (k0 (0:Int) false) (if 0≤(0:Int)∧(0:Int) < (x0.length:Int) then
ad (((x0.getD (0:Int).toNat 0).toNat:Int)==(48:Int)) (ad (decide ((x0.length:Int) > (1:Int))) (k0 (0:Int) false) (k1 x0 (0:Int))) (k1 x0 (0:Int))
else none)))
theorem alT (gd) (h140:(Bt gd).holds cl) (x0):exec cl N zT [(0,.v .str x0)] K=(RI gd (fun y0 y1=>K .ret (Ip y0 y1)) (fun y0 y1=>exec cl N zS [(0,.v .str y0),(4,.v U2 y1)] K) x0):=by
 rw [←aM h140]
 delta zT
 generalize zS=q
 revert q
 refine id ?_
 intro q
 kernel_rfl
def RE (k0:V4→Int→Int→Option R) (x0:V4) (x1:Int):Option R:=
k0 x0 x1 (0:Int)
theorem alP (x0 x1):exec cl N Mp [(0,.v .str x0),(4,.v U2 x1)] K=(RE (fun y0 y1 y2=>K .normal (lU y0 y1 y2)) x0 x1):=by
 kernel_rfl
theorem TQ (x0 x1 x2):aj [0,4,5] (lU x0 x1 x2)=(lU x0 x1 x2):=by kernel_rfl
def RF (k0:V4→Int→Int→Option R) (k1:V4→Int→Int→Option R) (x0:V4) (x1 x2:Int):Option R:=
ad (decide (x2 < (x0.length:Int))) (if 0≤x2∧x2 < (x0.length:Int) then
k0 x0 (IntKind.i64.wrap ((IntKind.i64.wrap ((10:Int) * x1))+(IntKind.i64.wrap (IntKind.u8.wrap (((x0.getD x2.toNat 0).toNat:Int) - (48:Int)))))) (IntKind.i64.wrap (x2+(1:Int)))
else none) (k1 x0 x1 x2)
theorem alQ (x0 x1 x2):exec cl N D8 (lU x0 x1 x2) K=(RF (fun y0 y1 y2=>K .normal (lU y0 y1 y2)) (fun y0 y1 y2=>K (.exit 0) (lU y0 y1 y2)) x0 x1 x2):=by
 kernel_rfl
def Kn {R:Type} (k0:V4→Int→Int→Option R):Nat→V4→Int→Int→Option R
 | 0,_,_,_=>none
 | m+1,x0,x1,x2=>(RF (Kn k0 m) k0 x0 x1 x2)
theorem aev:∀ (m) (x0 x1 x2),iter [0,4,5] (fun env K=>exec cl N D8 env K) K m (lU x0 x1 x2)=Kn (fun y0 y1 y2=>K (.exit 0) (lU y0 y1 y2)) m x0 x1 x2:=by
 intro m
 induction m with
 | zero=>intros; rfl
 | succ m ih=>
   intro x0 x1 x2
   simp only [b9,alQ,cb,ca,cc,TQ,ih]
   rfl
theorem aa9 (x0 x1 x2):aj [4] (lU x0 x1 x2)=[(4,.v U2 x1)]:=by kernel_rfl
def RG (N:Nat) (k0:Int→Option R) (x0:V4) (x1 x2:Int):Option R:=
Kn (fun y0 y1 y2=>k0 y1) N x0 x1 x2
theorem alR (x0 x1 x2):exec cl N D9 (lU x0 x1 x2) K=(RG N (fun y0=>K (.exit 0) [(4,.v U2 y0)]) x0 x1 x2):=by
 simp only [D9,aV,b8,TQ,aev,aa9]
 rfl
theorem aba (x0):aj [4] [(4,.v U2 x0)]=[(4,.v U2 x0)]:=by kernel_rfl
def RH (k0:Int→Bool→Option R) (x0:Int):Option R:=
k0 x0 true
theorem alS (x0):exec cl N Ms [(4,.v U2 x0)] K=(RH (fun y0 y1=>K .ret [(2,.v U2 y0),(3,.v .bool y1)]) x0):=by
 kernel_rfl
def RJ (N:Nat) (gd:V4→Option (Int)) (k0:Int→Bool→Option R) (k1:Int→Bool→Option R) (x0:V4):Option R:=
(RI gd k0 (RE (RG N ((RH k1)))) x0)
theorem alU (gd) (h140:(Bt gd).holds cl) (x0):exec cl N zT [(0,.v .str x0)] K=(RJ N gd (fun y0 y1=>K .ret (Ip y0 y1)) (fun y0 y1=>K .ret [(2,.v U2 y0),(3,.v .bool y1)]) x0):=by
 simp only [bX,bZ,bY,b5,alT gd h140,zS,Mr,alP,Mq,aV,cx,alR,ct,cw,cq,aba,alS]
 rfl
theorem ahz (y0 y1):ag d119 .ret (Ip y0 y1)=some [.v U2 y0,.v .bool y1]:=by kernel_rfl
theorem ahA (y0 y1):ag d119 .ret [(2,.v U2 y0),(3,.v .bool y1)]=some [.v U2 y0,.v .bool y1]:=by kernel_rfl
def IX (N:Nat) (gd:V4→Option (Int)) (x0:V4) (k:Int→Bool→Option R):Option R:=
(RJ N gd k k x0)
theorem XT (gd) (h140:(Bt gd).holds cl) (x0) (k:List E→Option R):exec cl N D7 [(0,.v .str x0)] (fun e env=>(ag d119 e env).bind k)=IX N gd x0 (fun r0 r1=>k [.v U2 r0,.v .bool r1]):=by
 simp only [D7,alU gd h140,ahz,ahA,ar]
 rfl
def Bq (S:V4→Option V5):aO:=cI 119 .str S fun b=> [.v U2 b.1,.v .bool b.2]
def fZ (N:Nat) (x0:V4):Option V5:=IX N (gd N) x0 (fun (r0:Int) (r1:Bool)=>some (r0,r1))
def RK (k0:V4→Option R) (x0:Int):Option R:=
if 0≤x0∧x0 < ([([97,110,121,119,104,101,114,101]:List UInt8),([98,101,102,111,114,101]:List UInt8),([115,116,97,114,116]:List UInt8),([98,101,116,119,101,101,110]:List UInt8),([110,111,116]:List UInt8)].length:Int) then
if x0.toNat < [([97,110,121,119,104,101,114,101]:List UInt8),([98,101,102,111,114,101]:List UInt8),([115,116,97,114,116]:List UInt8),([98,101,116,119,101,101,110]:List UInt8),([110,111,116]:List UInt8)].length then
k0 ([([97,110,121,119,104,101,114,101]:List UInt8),([98,101,102,111,114,101]:List UInt8),([115,116,97,114,116]:List UInt8),([98,101,116,119,101,101,110]:List UInt8),([110,111,116]:List UInt8)].getD x0.toNat [])
else none
else none
theorem alW (x0):exec cl N Mu [(0,.v U2 x0)] K=(RK (fun y0=>K .ret [(2,.v .str y0)]) x0):=by
 kernel_rfl
theorem ahD (y0):ag d120 .ret [(2,.v .str y0)]=some [.v .str y0]:=by kernel_rfl
def IZ (x0:Int) (k:V4→Option R):Option R:=
(RK k x0)
theorem XU (x0) (k:List E→Option R):exec cl N Ea [(0,.v U2 x0)] (fun e env=>(ag d120 e env).bind k)=IZ x0 (fun r0=>k [.v .str r0]):=by
 simp only [Ea,alW,ahD,ar]
 rfl
def rz (S:Int→Option V6):aO:=cI 120 U2 S fun b=> [.v .str b]
def dQ (N:Nat) (x0:Int):Option V6:=IZ x0 (fun (r0:V4)=>some (r0))
def S2 (bL:V4→Option fQ) (k0:aT→Bool→Option R) (k1:aT→aG→V4→Option R) (x0:V4):Option R:=
(bL x0).bind fun r389=>
ad (decide ((r389.length:Int) < (4:Int))) (k0 ([],[],(0:Int),(0:Int),()) false) (if 0≤(1:Int)∧(1:Int) < (r389.length:Int) then
if ((1:Int).toNat) < r389.length then
k1 ([],([],((0:Int),((0:Int),())))) r389 (r389.getD ((1:Int).toNat) [])
else none
else none)
theorem aqK (bL) (h93:(ly bL).holds cl) (x0):exec cl N Bc [(0,.v .str x0)] K=(S2 bL (fun y0 y1=>K .ret (Iq y0 y1)) (fun y0 y1 y2=>exec cl N Bb (pz y0 y1 y2) K) x0):=by
 rw [←aM h93]
 delta Bc
 generalize Bb=q
 revert q
 refine id ?_
 intro q
 kernel_rfl
def SY (k0:aT→aG→V4→Int→Option R) (x0:aT) (x1:aG) (x2:V4):Option R:=
k0 x0 x1 x2 (2:Int)
theorem aqG (x0 x1 x2):exec cl N Qc (pz x0 x1 x2) K=(SY (fun y0 y1 y2 y3=>K .normal (lV y0 y1 y2 y3)) x0 x1 x2):=by
 kernel_rfl
theorem Uv (x0 x1 x2 x3):aj [2,4,5,6] (lV x0 x1 x2 x3)=(lV x0 x1 x2 x3):=by kernel_rfl
def SZ (k0:aT→aG→V4→Int→Option R) (k1:aT→aG→V4→Int→Option R) (x0:aT) (x1:aG) (x2:V4) (x3:Int):Option R:=
ad (decide (x3 < (IntKind.i64.wrap ((x1.length:Int) - (2:Int))))) (if x2.length+([32]:List UInt8).length≤140737488355328 then
let v394:V4:=(x2++([32]:List UInt8))
if 0≤x3∧x3 < (x1.length:Int) then
if x3.toNat < x1.length then
if v394.length+(x1.getD x3.toNat []).length≤140737488355328 then
k0 x0 x1 (v394++(x1.getD x3.toNat [])) (IntKind.i64.wrap (x3+(1:Int)))
else none
else none
else none
else none) (k1 x0 x1 x2 x3)
theorem aqH (x0 x1 x2 x3):exec cl N G8 (lV x0 x1 x2 x3) K=(SZ (fun y0 y1 y2 y3=>K .normal (lV y0 y1 y2 y3)) (fun y0 y1 y2 y3=>K (.exit 0) (lV y0 y1 y2 y3)) x0 x1 x2 x3):=by
 kernel_rfl
def Kz {R:Type} (k0:aT→aG→V4→Int→Option R):Nat→aT→aG→V4→Int→Option R
 | 0,_,_,_,_=>none
 | m+1,x0,x1,x2,x3=>(SZ (Kz k0 m) k0 x0 x1 x2 x3)
theorem afc:∀ (m) (x0 x1 x2 x3),iter [2,4,5,6] (fun env K=>exec cl N G8 env K) K m (lV x0 x1 x2 x3)=Kz (fun y0 y1 y2 y3=>K (.exit 0) (lV y0 y1 y2 y3)) m x0 x1 x2 x3:=by
 intro m
 induction m with
 | zero=>intros; rfl
 | succ m ih=>
   intro x0 x1 x2 x3
   simp only [b9,aqH,cb,ca,cc,Uv,ih]
   rfl
theorem adn (x0 x1 x2 x3):aj [2,4,5] (lV x0 x1 x2 x3)=(pz x0 x1 x2):=by kernel_rfl
def S4 (N:Nat) (k0:aT→aG→V4→Option R) (x0:aT) (x1:aG) (x2:V4) (x3:Int):Option R:=
Kz (fun y0 y1 y2 y3=>k0 y0 y1 y2) N x0 x1 x2 x3
theorem aqM (x0 x1 x2 x3):exec cl N Ha (lV x0 x1 x2 x3) K=(S4 N (fun y0 y1 y2=>K (.exit 0) (pz y0 y1 y2)) x0 x1 x2 x3):=by
 simp only [Ha,aV,b8,Uv,afc,adn]
 rfl
theorem ado (x0 x1 x2):aj [2,4,5] (pz x0 x1 x2)=(pz x0 x1 x2):=by kernel_rfl
def S1 (fY:V4→Option ke) (fZ:V4→Option V5) (k0:aT→Bool→Option R) (k1:aT→aG→aA→Int→Option R) (x0:aT) (x1:aG) (x2:V4):Option R:=
(fY x2).bind fun r398=>
let v399:Int:=(IntKind.i64.wrap ((x1.length:Int) - (2:Int)))
if 0≤v399∧v399 < (x1.length:Int) then
if v399.toNat < x1.length then
(fZ (x1.getD v399.toNat [])).bind fun r401=>
ad (r398.2 != (0:Int)) (k0 ([],[],(0:Int),(0:Int),()) false) (ad (!r401.2) (k0 ([],[],(0:Int),(0:Int),()) false) (k1 x0 x1 r398.1 r401.1))
else none
else none
theorem aqJ (fY) (fZ) (h118:(Bp fY).holds cl) (h119:(Bq fZ).holds cl) (x0 x1 x2):exec cl N G9 (pz x0 x1 x2) K=(S1 fY fZ (fun y0 y1=>K .ret (Ir y0 y1)) (fun y0 y1 y2 y3=>exec cl N Ba (Q2 y0 y1 y2 y3) K) x0 x1 x2):=by
 rw [←aM h118]
 rw [←aM h119]
 delta G9
 generalize Ba=q
 revert q
 refine id ?_
 intro q
 kernel_rfl
def S5 (k0:aT→aG→aA→Int→Int→Option R) (x0:aT) (x1:aG) (x2:aA) (x3:Int):Option R:=
k0 x0 x1 x2 x3 (0:Int)
theorem aqN (x0 x1 x2 x3):exec cl N Qg (Q2 x0 x1 x2 x3) K=(S5 (fun y0 y1 y2 y3 y4=>K .normal (lW y0 y1 y2 y3 y4)) x0 x1 x2 x3):=by
 kernel_rfl
theorem Uw (x0 x1 x2 x3 x4):aj [2,4,7,9,11] (lW x0 x1 x2 x3 x4)=(lW x0 x1 x2 x3 x4):=by kernel_rfl
def S6 (dQ:Int→Option V6) (k0:aT→Bool→Option R) (k1:aT→aG→aA→Int→Int→Option R) (k2:aT→aG→aA→Int→Int→Option R) (x0:aT) (x1:aG) (x2:aA) (x3 x4:Int):Option R:=
ad (decide (x4≤(4:Int))) (let v404:Int:=(IntKind.i64.wrap ((x1.length:Int) - (1:Int)))
if 0≤v404∧v404 < (x1.length:Int) then
if v404.toNat < x1.length then
(dQ x4).bind fun r406=>
ad ((x1.getD v404.toNat [])==r406) (if 0≤(0:Int)∧(0:Int) < (x1.length:Int) then
if ((0:Int).toNat) < x1.length then
k0 ((x1.getD ((0:Int).toNat) []),x2,x3,x4,()) true
else none
else none) (k1 x0 x1 x2 x3 (IntKind.i64.wrap (x4+(1:Int))))
else none
else none) (k2 x0 x1 x2 x3 x4)
theorem aqO (dQ) (h120:(rz dQ).holds cl) (x0 x1 x2 x3 x4):exec cl N Hb (lW x0 x1 x2 x3 x4) K=(S6 dQ (fun y0 y1=>K .ret (Is y0 y1)) (fun y0 y1 y2 y3 y4=>K .normal (lW y0 y1 y2 y3 y4)) (fun y0 y1 y2 y3 y4=>K (.exit 2) (lW y0 y1 y2 y3 y4)) x0 x1 x2 x3 x4):=by
 rw [←aM h120]
 kernel_rfl
def KA {R:Type} (dQ:Int→Option V6) (k0:aT→Bool→Option R) (k1:aT→aG→aA→Int→Int→Option R):Nat→aT→aG→aA→Int→Int→Option R
 | 0,_,_,_,_,_=>none
 | m+1,x0,x1,x2,x3,x4=>(S6 dQ k0 (KA dQ k0 k1 m) k1 x0 x1 x2 x3 x4)
theorem afd (dQ) (h120:(rz dQ).holds cl):∀ (m) (x0 x1 x2 x3 x4),iter [2,4,7,9,11] (fun env K=>exec cl N Hb env K) K m (lW x0 x1 x2 x3 x4)=KA dQ (fun y0 y1=>K .ret (Is y0 y1)) (fun y0 y1 y2 y3 y4=>K (.exit 2) (lW y0 y1 y2 y3 y4)) m x0 x1 x2 x3 x4:=by
 intro m
 induction m with
 | zero=>intros; rfl
 | succ m ih=>
   intro x0 x1 x2 x3 x4
   simp only [b9,aqO dQ h120,cb,ca,cc,Uw,ih]
   rfl
theorem adp (x0 x1):aj [2,3] (Is x0 x1)=(rT x0 x1):=by kernel_rfl
theorem adq (x0 x1 x2 x3 x4):aj [2,3] (lW x0 x1 x2 x3 x4)=(uR x0):=by kernel_rfl
def S7 (N:Nat) (dQ:Int→Option V6) (k0:aT→Bool→Option R) (k1:aT→Option R) (x0:aT) (x1:aG) (x2:aA) (x3 x4:Int):Option R:=
KA dQ k0 (fun y0 y1 y2 y3 y4=>k1 y0) N x0 x1 x2 x3 x4
theorem aqP (dQ) (h120:(rz dQ).holds cl) (x0 x1 x2 x3 x4):exec cl N Hc (lW x0 x1 x2 x3 x4) K=(S7 N dQ (fun y0 y1=>K .ret (rT y0 y1)) (fun y0=>K (.exit 2) (uR y0)) x0 x1 x2 x3 x4):=by
 simp only [Hc,aV,b8,Uw,afd dQ h120,adp,adq]
 rfl
theorem adr (x0 x1):aj [2,3] (rT x0 x1)=(rT x0 x1):=by kernel_rfl
theorem ads (x0):aj [2,3] (uR x0)=(uR x0):=by kernel_rfl
def S0 (k0:aT→Bool→Option R) (x0:aT):Option R:=
k0 ([],[],(0:Int),(0:Int),()) false
theorem aqI (x0):exec cl N Qd (uR x0) K=(S0 (fun y0 y1=>K .ret (It y0 y1)) x0):=by
 kernel_rfl
def S3 (N:Nat) (bL:V4→Option fQ) (fY:V4→Option ke) (fZ:V4→Option V5) (dQ:Int→Option V6) (k0:aT→Bool→Option R) (k1:aT→Bool→Option R) (k2:aT→Bool→Option R) (k3:aT→Bool→Option R) (x0:V4):Option R:=
(S2 bL k0 (SY (S4 N ((S1 fY fZ k1 (S5 (S7 N dQ k2 ((S0 k3)))))))) x0)
theorem aqL (bL) (fY) (fZ) (dQ) (h93:(ly bL).holds cl) (h118:(Bp fY).holds cl) (h119:(Bq fZ).holds cl) (h120:(rz dQ).holds cl) (x0):exec cl N Bc [(0,.v .str x0)] K=(S3 N bL fY fZ dQ (fun y0 y1=>K .ret (Iq y0 y1)) (fun y0 y1=>K .ret (Ir y0 y1)) (fun y0 y1=>K .ret (rT y0 y1)) (fun y0 y1=>K .ret (It y0 y1)) x0):=by
 simp only [bX,bZ,bY,b5,aqK bL h93,Bb,Qf,aqG,Qe,aV,cx,aqM,ct,cw,cq,ado,aqJ fY fZ h118 h119,Ba,Qi,aqN,Qh,aqP dQ h120,adr,ads,aqI]
 rfl
theorem ajx (y0 y1):ag d94 .ret (Iq y0 y1)=some [.v aD y0,.v .bool y1]:=by kernel_rfl
theorem ajy (y0 y1):ag d94 .ret (Ir y0 y1)=some [.v aD y0,.v .bool y1]:=by kernel_rfl
theorem ajz (y0 y1):ag d94 .ret (rT y0 y1)=some [.v aD y0,.v .bool y1]:=by kernel_rfl
theorem ajA (y0 y1):ag d94 .ret (It y0 y1)=some [.v aD y0,.v .bool y1]:=by kernel_rfl
def JN (N:Nat) (bL:V4→Option fQ) (fY:V4→Option ke) (fZ:V4→Option V5) (dQ:Int→Option V6) (x0:V4) (k:aT→Bool→Option R):Option R:=
(S3 N bL fY fZ dQ k k k k x0)
theorem Y0 (bL) (fY) (fZ) (dQ) (h93:(ly bL).holds cl) (h118:(Bp fY).holds cl) (h119:(Bq fZ).holds cl) (h120:(rz dQ).holds cl) (x0) (k:List E→Option R):exec cl N G7 [(0,.v .str x0)] (fun e env=>(ag d94 e env).bind k)=JN N bL fY fZ dQ x0 (fun r0 r1=>k [.v aD r0,.v .bool r1]):=by
 simp only [G7,aqL bL fY fZ dQ h93 h118 h119 h120,ajx,ajy,ajz,ajA,ar]
 rfl
def pk (S:V4→Option nK):aO:=cI 94 .str S fun b=> [.v aD b.1,.v .bool b.2]
def c6 (N:Nat) (x0:V4):Option nK:=JN N (bL N) (fY N) (fZ N) (dQ N) x0 (fun (r0:aT) (r1:Bool)=>some (r0,r1))
def I4 (k0:Bool→Option R) (x0:Int):Option R:=
ad (decide (x0≥(97:Int))) (k0 (decide (x0≤(122:Int)))) (k0 false)
theorem amo (x0):exec cl N MN [(0,.v U0 x0)] K=(I4 (fun y0=>K .ret [(2,.v .bool y0)]) x0):=by
 kernel_rfl
theorem ahN (y0):ag d135 .ret [(2,.v .bool y0)]=some [.v .bool y0]:=by kernel_rfl
def BU (x0:Int) (k:Bool→Option R):Option R:=
(I4 k x0)
theorem X3 (x0) (k:List E→Option R):exec cl N Er [(0,.v U0 x0)] (fun e env=>(ag d135 e env).bind k)=BU x0 (fun r0=>k [.v .bool r0]):=by
 simp only [Er,amo,ahN,ar]
 rfl
def pb (S:Int→Option (Bool)):aO:=cI 135 U0 S fun b=> [.v .bool b]
def cH (N:Nat) (x0:Int):Option (Bool):=BU x0 (fun (r0:Bool)=>some (r0))
def vl (cH:Int→Option (Bool)) (k0:Int→Option R) (k1:V4→Int→Option R) (x0:V4):Option R:=
ad (x0==([]:List UInt8)) (k0 (0:Int)) (if 0≤(0:Int)∧(0:Int) < (x0.length:Int) then
(cH ((x0.getD (0:Int).toNat 0).toNat:Int)).bind fun r593=>
ad (!r593) (k0 (0:Int)) (k1 x0 (1:Int))
else none)
theorem alu (cH) (h135:(pb cH).holds cl) (x0):exec cl N zL [(0,.v .str x0)] K=(vl cH (fun y0=>K .ret (jk y0)) (fun y0 y1=>exec cl N zK (cX y0 y1) K) x0):=by
 rw [←aM h135]
 delta zL
 generalize zK=q
 revert q
 refine id ?_
 intro q
 kernel_rfl
theorem TM (x0 x1):aj [0,3] (cX x0 x1)=(cX x0 x1):=by kernel_rfl
def vi (cH:Int→Option (Bool)) (bu:Int→Option (Bool)) (k0:V4→Int→Option R) (k1:V4→Int→Option R) (x0:V4) (x1:Int):Option R:=
ad (decide (x1 < (x0.length:Int))) (if 0≤x1∧x1 < (x0.length:Int) then
(cH ((x0.getD x1.toNat 0).toNat:Int)).bind fun r596=>
ad r596 (k0 x0 (IntKind.i64.wrap (x1+(1:Int)))) (if 0≤x1∧x1 < (x0.length:Int) then
(bu ((x0.getD x1.toNat 0).toNat:Int)).bind fun r599=>
ad r599 (k0 x0 (IntKind.i64.wrap (x1+(1:Int)))) (if 0≤x1∧x1 < (x0.length:Int) then
ad (((x0.getD x1.toNat 0).toNat:Int) != (45:Int)) (k1 x0 x1) (ad ((IntKind.i64.wrap (x1+(1:Int)))==(x0.length:Int)) (k1 x0 x1) (let v605:Int:=(IntKind.i64.wrap (x1+(1:Int)))
if 0≤v605∧v605 < (x0.length:Int) then
(cH ((x0.getD v605.toNat 0).toNat:Int)).bind fun r607=>
ad (!r607) (let v608:Int:=(IntKind.i64.wrap (x1+(1:Int)))
if 0≤v608∧v608 < (x0.length:Int) then
(bu ((x0.getD v608.toNat 0).toNat:Int)).bind fun r610=>
ad (!r610) (k1 x0 x1) (k0 x0 (IntKind.i64.wrap (x1+(2:Int))))
else none) (k0 x0 (IntKind.i64.wrap (x1+(2:Int))))
else none))
else none)
else none)
else none) (k1 x0 x1)
theorem alq (cH) (bu) (h135:(pb cH).holds cl) (h136:(kN bu).holds cl) (x0 x1):exec cl N DW (cX x0 x1) K=(vi cH bu (fun y0 y1=>K .normal (cX y0 y1)) (fun y0 y1=>K (.exit 0) (cX y0 y1)) x0 x1):=by
 rw [←aM h135]
 rw [←aM h136]
 kernel_rfl
def ql {R:Type} (cH:Int→Option (Bool)) (bu:Int→Option (Bool)) (k0:V4→Int→Option R):Nat→V4→Int→Option R
 | 0,_,_=>none
 | m+1,x0,x1=>(vi cH bu (ql cH bu k0 m) k0 x0 x1)
theorem aer (cH) (bu) (h135:(pb cH).holds cl) (h136:(kN bu).holds cl):∀ (m) (x0 x1),iter [0,3] (fun env K=>exec cl N DW env K) K m (cX x0 x1)=ql cH bu (fun y0 y1=>K (.exit 0) (cX y0 y1)) m x0 x1:=by
 intro m
 induction m with
 | zero=>intros; rfl
 | succ m ih=>
   intro x0 x1
   simp only [b9,alq cH bu h135 h136,cb,ca,cc,TM,ih]
   rfl
theorem aaV (x0 x1):aj [3] (cX x0 x1)=[(3,.v U2 x1)]:=by kernel_rfl
def vj (N:Nat) (cH:Int→Option (Bool)) (bu:Int→Option (Bool)) (k0:Int→Option R) (x0:V4) (x1:Int):Option R:=
ql cH bu (fun y0 y1=>k0 y1) N x0 x1
theorem alr (cH) (bu) (h135:(pb cH).holds cl) (h136:(kN bu).holds cl) (x0 x1):exec cl N DX (cX x0 x1) K=(vj N cH bu (fun y0=>K (.exit 0) [(3,.v U2 y0)]) x0 x1):=by
 simp only [DX,aV,b8,TM,aer cH bu h135 h136,aaV]
 rfl
theorem aaW (x0):aj [3] [(3,.v U2 x0)]=[(3,.v U2 x0)]:=by kernel_rfl
def vk (k0:Int→Option R) (x0:Int):Option R:=
k0 x0
theorem als (x0):exec cl N Mc [(3,.v U2 x0)] K=(vk (fun y0=>K .ret [(2,.v U2 y0)]) x0):=by
 kernel_rfl
def vm (N:Nat) (cH:Int→Option (Bool)) (bu:Int→Option (Bool)) (k0:Int→Option R) (k1:Int→Option R) (x0:V4):Option R:=
(vl cH k0 (vj N cH bu ((vk k1))) x0)
theorem alv (cH) (bu) (h135:(pb cH).holds cl) (h136:(kN bu).holds cl) (x0):exec cl N zL [(0,.v .str x0)] K=(vm N cH bu (fun y0=>K .ret (jk y0)) (fun y0=>K .ret [(2,.v U2 y0)]) x0):=by
 simp only [bX,bZ,bY,b5,alu cH h135,zK,Mb,aV,cx,alr cH bu h135 h136,ct,cw,cq,aaW,als]
 rfl
theorem ahq (y0):ag d115 .ret (jk y0)=some [.v U2 y0]:=by kernel_rfl
theorem ahr (y0):ag d115 .ret [(2,.v U2 y0)]=some [.v U2 y0]:=by kernel_rfl
def se (N:Nat) (cH:Int→Option (Bool)) (bu:Int→Option (Bool)) (x0:V4) (k:Int→Option R):Option R:=
(vm N cH bu k k x0)
theorem XP (cH) (bu) (h135:(pb cH).holds cl) (h136:(kN bu).holds cl) (x0) (k:List E→Option R):exec cl N DV [(0,.v .str x0)] (fun e env=>(ag d115 e env).bind k)=se N cH bu x0 (fun r0=>k [.v U2 r0]):=by
 simp only [DV,alv cH bu h135 h136,ahq,ahr,ar]
 rfl
def Hr (S:V4→Option (Int)):aO:=cI 115 .str S fun b=> [.v U2 b]
def gY (N:Nat) (x0:V4):Option (Int):=se N (cH N) (bu N) x0 (fun (r0:Int)=>some (r0))
def JK (gY:V4→Option (Int)) (k0:Bool→Option R) (x0:V4):Option R:=
ad (x0 != ([]:List UInt8)) (ad (decide ((x0.length:Int)≤(20:Int))) ((gY x0).bind fun r617=>
k0 (r617==(x0.length:Int))) (k0 false)) (k0 false)
theorem aqn (gY) (h115:(Hr gY).holds cl) (x0):exec cl N PZ [(0,.v .str x0)] K=(JK gY (fun y0=>K .ret [(2,.v .bool y0)]) x0):=by
 rw [←aM h115]
 kernel_rfl
theorem ajr (y0):ag d90 .ret [(2,.v .bool y0)]=some [.v .bool y0]:=by kernel_rfl
def Cp (gY:V4→Option (Int)) (x0:V4) (k:Bool→Option R):Option R:=
(JK gY k x0)
theorem YW (gY) (h115:(Hr gY).holds cl) (x0) (k:List E→Option R):exec cl N GU [(0,.v .str x0)] (fun e env=>(ag d90 e env).bind k)=Cp gY x0 (fun r0=>k [.v .bool r0]):=by
 simp only [GU,aqn gY h115,ajr,ar]
 rfl
def Bw (S:V4→Option (Bool)):aO:=cI 90 .str S fun b=> [.v .bool b]
def ft (N:Nat) (x0:V4):Option (Bool):=Cp (gY N) x0 (fun (r0:Bool)=>some (r0))
def Rw (k0:Bool→Option R) (k1:Int→Option R) (x0:Int):Option R:=
ad (decide (x0 < (32:Int))) (k0 false) (ad (decide (x0 > (126:Int))) (k0 false) (k1 x0))
theorem aln (x0):exec cl N zJ [(0,.v U0 x0)] K=(Rw (fun y0=>K .ret [(0,.dead),(2,.v .bool y0)]) (fun y0=>exec cl N zI [(0,.v U0 y0),(2,.dead)] K) x0):=by
 delta zJ
 generalize zI=q
 revert q
 refine id ?_
 intro q
 kernel_rfl
def Rs (k0:Int→Int→Option R) (x0:Int):Option R:=
k0 x0 (0:Int)
theorem ali (x0):exec cl N L6 [(0,.v U0 x0),(2,.dead)] K=(Rs (fun y0 y1=>K .normal (lX y0 y1)) x0):=by
 kernel_rfl
theorem TL (x0 x1):aj [0,3] (lX x0 x1)=(lX x0 x1):=by kernel_rfl
def Rt (k0:Bool→Option R) (k1:Int→Int→Option R) (k2:Int→Int→Option R) (x0 x1:Int):Option R:=
ad (decide (x1 < (15:Int))) (if 0≤x1∧x1 < (([32,46,44,59,58,33,63,34,45,91,93,60,62,123,125]:List UInt8).length:Int) then
ad (((([32,46,44,59,58,33,63,34,45,91,93,60,62,123,125]:List UInt8).getD x1.toNat 0).toNat:Int)==x0) (k0 false) (k1 x0 (IntKind.i64.wrap (x1+(1:Int))))
else none) (k2 x0 x1)
theorem alj (x0 x1):exec cl N DS (lX x0 x1) K=(Rt (fun y0=>K .ret (rU y0)) (fun y0 y1=>K .normal (lX y0 y1)) (fun y0 y1=>K (.exit 0) (lX y0 y1)) x0 x1):=by
 kernel_rfl
def Kl {R:Type} (k0:Bool→Option R) (k1:Int→Int→Option R):Nat→Int→Int→Option R
 | 0,_,_=>none
 | m+1,x0,x1=>(Rt k0 (Kl k0 k1 m) k1 x0 x1)
theorem aeq:∀ (m) (x0 x1),iter [0,3] (fun env K=>exec cl N DS env K) K m (lX x0 x1)=Kl (fun y0=>K .ret (rU y0)) (fun y0 y1=>K (.exit 0) (lX y0 y1)) m x0 x1:=by
 intro m
 induction m with
 | zero=>intros; rfl
 | succ m ih=>
   intro x0 x1
   simp only [b9,alj,cb,ca,cc,TL,ih]
   rfl
theorem aaR (x0):aj [2] (rU x0)=[(2,.v .bool x0)]:=by kernel_rfl
theorem aaS (x0 x1):aj [2] (lX x0 x1)=[(2,.dead)]:=by kernel_rfl
def Ru (N:Nat) (k0:Bool→Option R) (k1:Option R) (x0 x1:Int):Option R:=
Kl k0 (fun y0 y1=>k1) N x0 x1
theorem alk (x0 x1):exec cl N DT (lX x0 x1) K=(Ru N (fun y0=>K .ret [(2,.v .bool y0)]) (K (.exit 0) [(2,.dead)]) x0 x1):=by
 simp only [DT,aV,b8,TL,aeq,aaR,aaS]
 rfl
theorem aaT (x0):aj [2] [(2,.v .bool x0)]=[(2,.v .bool x0)]:=by kernel_rfl
theorem aaU:aj [2] [(2,.dead)]=[(2,.dead)]:=by kernel_rfl
def Rv (k0:Bool→Option R):Option R:=
k0 true
theorem alm:exec cl N L9 [(2,.dead)] K=(Rv (fun y0=>K .ret [(2,.v .bool y0)])):=by
 kernel_rfl
def Rx (N:Nat) (k0:Bool→Option R) (k1:Bool→Option R) (x0:Int):Option R:=
(Rw k0 (Rs (Ru N k1 (Rv k1))) x0)
theorem alo (x0):exec cl N zJ [(0,.v U0 x0)] K=(Rx N (fun y0=>K .ret [(0,.dead),(2,.v .bool y0)]) (fun y0=>K .ret [(2,.v .bool y0)]) x0):=by
 simp only [bX,bZ,bY,b5,aln,zI,L8,ali,L7,aV,cx,alk,ct,cw,cq,aaT,aaU,alm]
 rfl
theorem ahn (y0):ag d111 .ret [(0,.dead),(2,.v .bool y0)]=some [.v .bool y0]:=by kernel_rfl
theorem aho (y0):ag d111 .ret [(2,.v .bool y0)]=some [.v .bool y0]:=by kernel_rfl
def IU (N:Nat) (x0:Int) (k:Bool→Option R):Option R:=
(Rx N k k x0)
theorem XN (x0) (k:List E→Option R):exec cl N DR [(0,.v U0 x0)] (fun e env=>(ag d111 e env).bind k)=IU N x0 (fun r0=>k [.v .bool r0]):=by
 simp only [DR,alo,ahn,aho,ar]
 rfl
def ry (S:Int→Option (Bool)):aO:=cI 111 U0 S fun b=> [.v .bool b]
def dh (N:Nat) (x0:Int):Option (Bool):=IU N x0 (fun (r0:Bool)=>some (r0))
def vr (k0:Int→Option R) (k1:V4→Option R) (x0:V4):Option R:=
ad (x0==([]:List UInt8)) (k0 (7:Int)) (ad (decide ((x0.length:Int) > (4:Int))) (k0 (3:Int)) (k1 x0))
theorem alA (x0):exec cl N zN [(0,.v .str x0)] K=(vr (fun y0=>K .ret (jk y0)) (fun y0=>exec cl N zM (BF y0) K) x0):=by
 delta zN
 generalize zM=q
 revert q
 refine id ?_
 intro q
 kernel_rfl
def vn (k0:V4→Int→Option R) (x0:V4):Option R:=
k0 x0 (0:Int)
theorem alw (x0):exec cl N Md (BF x0) K=(vn (fun y0 y1=>K .normal (cX y0 y1)) x0):=by
 kernel_rfl
theorem TN (x0 x1):aj [0,3] (cX x0 x1)=(cX x0 x1):=by kernel_rfl
def vo (dh:Int→Option (Bool)) (k0:Int→Option R) (k1:V4→Int→Option R) (k2:V4→Int→Option R) (x0:V4) (x1:Int):Option R:=
ad (decide (x1 < (x0.length:Int))) (if 0≤x1∧x1 < (x0.length:Int) then
(dh ((x0.getD x1.toNat 0).toNat:Int)).bind fun r648=>
ad (!r648) (k0 (2:Int)) (if 0≤x1∧x1 < (x0.length:Int) then
ad (decide (((x0.getD x1.toNat 0).toNat:Int)≥(65:Int))) (if 0≤x1∧x1 < (x0.length:Int) then
ad (decide (((x0.getD x1.toNat 0).toNat:Int)≤(90:Int))) (k0 (2:Int)) (k1 x0 (IntKind.i64.wrap (x1+(1:Int))))
else none) (k1 x0 (IntKind.i64.wrap (x1+(1:Int))))
else none)
else none) (k2 x0 x1)
theorem alx (dh) (h111:(ry dh).holds cl) (x0 x1):exec cl N DZ (cX x0 x1) K=(vo dh (fun y0=>K .ret (rV y0)) (fun y0 y1=>K .normal (cX y0 y1)) (fun y0 y1=>K (.exit 0) (cX y0 y1)) x0 x1):=by
 rw [←aM h111]
 kernel_rfl
def sW {R:Type} (dh:Int→Option (Bool)) (k0:Int→Option R) (k1:V4→Int→Option R):Nat→V4→Int→Option R
 | 0,_,_=>none
 | m+1,x0,x1=>(vo dh k0 (sW dh k0 k1 m) k1 x0 x1)
theorem aes (dh) (h111:(ry dh).holds cl):∀ (m) (x0 x1),iter [0,3] (fun env K=>exec cl N DZ env K) K m (cX x0 x1)=sW dh (fun y0=>K .ret (rV y0)) (fun y0 y1=>K (.exit 0) (cX y0 y1)) m x0 x1:=by
 intro m
 induction m with
 | zero=>intros; rfl
 | succ m ih=>
   intro x0 x1
   simp only [b9,alx dh h111,cb,ca,cc,TN,ih]
   rfl
theorem aaX (x0):aj [2] (rV x0)=[(2,.v U2 x0)]:=by kernel_rfl
theorem aaY (x0 x1):aj [2] (cX x0 x1)=[(2,.dead)]:=by kernel_rfl
def vp (N:Nat) (dh:Int→Option (Bool)) (k0:Int→Option R) (k1:Option R) (x0:V4) (x1:Int):Option R:=
sW dh k0 (fun y0 y1=>k1) N x0 x1
theorem aly (dh) (h111:(ry dh).holds cl) (x0 x1):exec cl N D0 (cX x0 x1) K=(vp N dh (fun y0=>K .ret [(2,.v U2 y0)]) (K (.exit 0) [(2,.dead)]) x0 x1):=by
 simp only [D0,aV,b8,TN,aes dh h111,aaX,aaY]
 rfl
theorem aaZ (x0):aj [2] [(2,.v U2 x0)]=[(2,.v U2 x0)]:=by kernel_rfl
theorem aa0:aj [2] [(2,.dead)]=[(2,.dead)]:=by kernel_rfl
def vq (k0:Int→Option R):Option R:=
k0 (0:Int)
theorem alz:exec cl N Mg [(2,.dead)] K=(vq (fun y0=>K .ret [(2,.v U2 y0)])):=by
 kernel_rfl
def vt (N:Nat) (dh:Int→Option (Bool)) (k0:Int→Option R) (k1:Int→Option R) (x0:V4):Option R:=
(vr k0 (vn (vp N dh k1 (vq k1))) x0)
theorem alB (dh) (h111:(ry dh).holds cl) (x0):exec cl N zN [(0,.v .str x0)] K=(vt N dh (fun y0=>K .ret (jk y0)) (fun y0=>K .ret [(2,.v U2 y0)]) x0):=by
 simp only [bX,bZ,bY,b5,alA,zM,Mf,alw,Me,aV,cx,aly dh h111,ct,cw,cq,aaZ,aa0,alz]
 rfl
theorem ahs (y0):ag d116 .ret (jk y0)=some [.v U2 y0]:=by kernel_rfl
theorem aht (y0):ag d116 .ret [(2,.v U2 y0)]=some [.v U2 y0]:=by kernel_rfl
def sf (N:Nat) (dh:Int→Option (Bool)) (x0:V4) (k:Int→Option R):Option R:=
(vt N dh k k x0)
theorem XQ (dh) (h111:(ry dh).holds cl) (x0) (k:List E→Option R):exec cl N DY [(0,.v .str x0)] (fun e env=>(ag d116 e env).bind k)=sf N dh x0 (fun r0=>k [.v U2 r0]):=by
 simp only [DY,alB dh h111,ahs,aht,ar]
 rfl
def Bo (S:V4→Option (Int)):aO:=cI 116 .str S fun b=> [.v U2 b]
def fJ (N:Nat) (x0:V4):Option (Int):=sf N (dh N) x0 (fun (r0:Int)=>some (r0))
def yc (fJ:V4→Option (Int)) (k0:Int→Option R) (k1:aT→Option R) (x0:aT):Option R:=
(fJ x0.1).bind fun r667=>
ad (r667 != (0:Int)) (k0 r667) (ad ((x0.2.1.length:Int)==(0:Int)) (k0 (7:Int)) (ad (decide ((x0.2.1.length:Int) > (2:Int))) (k0 (3:Int)) (k1 x0)))
theorem aqs (fJ) (h116:(Bo fJ).holds cl) (x0):exec cl N A5 [(0,.v aD x0)] K=(yc fJ (fun y0=>K .ret (e7 y0)) (fun y0=>exec cl N A4 (jl y0) K) x0):=by
 rw [←aM h116]
 delta A5
 generalize A4=q
 revert q
 refine id ?_
 intro q
 kernel_rfl
def xY (k0:aT→Int→Option R) (x0:aT):Option R:=
k0 x0 (0:Int)
theorem aqo (x0):exec cl N P0 (jl x0) K=(xY (fun y0 y1=>K .normal (lY y0 y1)) x0):=by
 kernel_rfl
theorem Us (x0 x1):aj [1,4] (lY x0 x1)=(lY x0 x1):=by kernel_rfl
def xZ (bK:aR→Option (Int)) (k0:Int→Option R) (k1:aT→Int→Option R) (k2:aT→Int→Option R) (x0:aT) (x1:Int):Option R:=
ad (decide (x1 < (x0.2.1.length:Int))) (if 0≤x1∧x1 < (x0.2.1.length:Int) then
(bK (x0.2.1.getD x1.toNat ((0:Int),((0:Int),([],()))))).bind fun r672=>
ad (r672 != (0:Int)) (k0 r672) (k1 x0 (IntKind.i64.wrap (x1+(1:Int))))
else none) (k2 x0 x1)
theorem aqp (bK) (h117:(mZ bK).holds cl) (x0 x1):exec cl N GW (lY x0 x1) K=(xZ bK (fun y0=>K .ret (e9 y0)) (fun y0 y1=>K .normal (lY y0 y1)) (fun y0 y1=>K (.exit 0) (lY y0 y1)) x0 x1):=by
 rw [←aM h117]
 kernel_rfl
def th {R:Type} (bK:aR→Option (Int)) (k0:Int→Option R) (k1:aT→Int→Option R):Nat→aT→Int→Option R
 | 0,_,_=>none
 | m+1,x0,x1=>(xZ bK k0 (th bK k0 k1 m) k1 x0 x1)
theorem ae9 (bK) (h117:(mZ bK).holds cl):∀ (m) (x0 x1),iter [1,4] (fun env K=>exec cl N GW env K) K m (lY x0 x1)=th bK (fun y0=>K .ret (e9 y0)) (fun y0 y1=>K (.exit 0) (lY y0 y1)) m x0 x1:=by
 intro m
 induction m with
 | zero=>intros; rfl
 | succ m ih=>
   intro x0 x1
   simp only [b9,aqp bK h117,cb,ca,cc,Us,ih]
   rfl
theorem adb (x0):aj [1,2] (e9 x0)=(e7 x0):=by kernel_rfl
theorem ade (x0 x1):aj [1,2] (lY x0 x1)=(jl x0):=by kernel_rfl
def ya (N:Nat) (bK:aR→Option (Int)) (k0:Int→Option R) (k1:aT→Option R) (x0:aT) (x1:Int):Option R:=
th bK k0 (fun y0 y1=>k1 y0) N x0 x1
theorem aqq (bK) (h117:(mZ bK).holds cl) (x0 x1):exec cl N GX (lY x0 x1) K=(ya N bK (fun y0=>K .ret (e7 y0)) (fun y0=>K (.exit 0) (jl y0)) x0 x1):=by
 simp only [GX,aV,b8,Us,ae9 bK h117,adb,ade]
 rfl
theorem adf (x0):aj [1,2] (e7 x0)=(e7 x0):=by kernel_rfl
theorem adg (x0):aj [1,2] (jl x0)=(jl x0):=by kernel_rfl
def yb (k0:Int→Option R) (x0:aT):Option R:=
ad (decide (x0.2.2.1 < (0:Int))) (k0 (6:Int)) (ad (decide (x0.2.2.1 > (99:Int))) (k0 (6:Int)) (ad (decide (x0.2.2.2.1 < (0:Int))) (k0 (6:Int)) (ad (decide (x0.2.2.2.1 > (4:Int))) (k0 (6:Int)) (k0 (0:Int)))))
theorem aqr (x0):exec cl N P3 (jl x0) K=(yb (fun y0=>K .ret [(2,.v U2 y0)]) x0):=by
 kernel_rfl
def yd (N:Nat) (fJ:V4→Option (Int)) (bK:aR→Option (Int)) (k0:Int→Option R) (k1:Int→Option R) (x0:aT):Option R:=
(yc fJ k0 (xY (ya N bK k0 ((yb k1)))) x0)
theorem aqt (fJ) (bK) (h116:(Bo fJ).holds cl) (h117:(mZ bK).holds cl) (x0):exec cl N A5 [(0,.v aD x0)] K=(yd N fJ bK (fun y0=>K .ret (e7 y0)) (fun y0=>K .ret [(2,.v U2 y0)]) x0):=by
 simp only [bX,bZ,bY,b5,aqs fJ h116,A4,P2,aqo,P1,aV,cx,aqq bK h117,ct,cw,cq,adf,adg,aqr]
 rfl
theorem ajs (y0):ag d91 .ret (e7 y0)=some [.v U2 y0]:=by kernel_rfl
theorem ajt (y0):ag d91 .ret [(2,.v U2 y0)]=some [.v U2 y0]:=by kernel_rfl
def sP (N:Nat) (fJ:V4→Option (Int)) (bK:aR→Option (Int)) (x0:aT) (k:Int→Option R):Option R:=
(yd N fJ bK k k x0)
theorem YX (fJ) (bK) (h116:(Bo fJ).holds cl) (h117:(mZ bK).holds cl) (x0) (k:List E→Option R):exec cl N GV [(0,.v aD x0)] (fun e env=>(ag d91 e env).bind k)=sP N fJ bK x0 (fun r0=>k [.v U2 r0]):=by
 simp only [GV,aqt fJ bK h116 h117,ajs,ajt,ar]
 rfl
def pj (S:aT→Option (Int)):aO:=cI 91 aD S fun b=> [.v U2 b]
def cL (N:Nat) (x0:aT):Option (Int):=sP N (fJ N) (bK N) x0 (fun (r0:Int)=>some (r0))
def JI (k0:Int→Option R) (k1:Int→Option R) (x0 x1:Int):Option R:=
ad (decide (x0 < x1)) (k0 (-1:Int)) (ad (decide (x0 > x1)) (k1 (1:Int)) (k1 (0:Int)))
theorem aql (x0 x1):exec cl N PX (rW x0 x1) K=(JI (fun y0=>K .ret (lZ y0)) (fun y0=>K .ret [(4,.v U2 y0)]) x0 x1):=by
 kernel_rfl
theorem ajo (y0):ag d86 .ret (lZ y0)=some [.v U2 y0]:=by kernel_rfl
theorem ajp (y0):ag d86 .ret [(4,.v U2 y0)]=some [.v U2 y0]:=by kernel_rfl
def Co (x0 x1:Int) (k:Int→Option R):Option R:=
(JI k k x0 x1)
theorem YV (x0 x1) (k:List E→Option R):exec cl N GR (rW x0 x1) (fun e env=>(ag d86 e env).bind k)=Co x0 x1 (fun r0=>k [.v U2 r0]):=by
 simp only [GR,aql,ajo,ajp,ar]
 rfl
def HM (S:Int→Int→Option (Int)):aO:=er 86 U2 U2 S fun b=> [.v U2 b]
def gP (N:Nat) (x0:Int) (x1:Int):Option (Int):=Co x0 x1 (fun (r0:Int)=>some (r0))
def Jv (gP:Int→Int→Option (Int)) (k0:Int→Option R) (k1:Int→Option R) (x0 x1:aR):Option R:=
(gP x0.1 x1.1).bind fun r696=>
ad (r696 != (0:Int)) (k0 r696) ((gP x0.2.1 x1.2.1).bind fun r698=>
ad (r698 != (0:Int)) (k0 r698) (ad (Op.bytesLess x0.2.2.1 x1.2.2.1) (k0 (-1:Int)) (ad (!((Op.bytesLess x0.2.2.1 x1.2.2.1) || x0.2.2.1==x1.2.2.1)) (k1 (1:Int)) (k1 (0:Int)))))
theorem apw (gP) (h86:(HM gP).holds cl) (x0 x1):exec cl N Pd [(0,.v aB x0),(1,.v aB x1)] K=(Jv gP (fun y0=>K .ret [(2,.dead),(3,.dead),(4,.v U2 y0)]) (fun y0=>K .ret [(4,.v U2 y0)]) x0 x1):=by
 rw [←aM h86]
 kernel_rfl
theorem ai2 (y0):ag d59 .ret [(2,.dead),(3,.dead),(4,.v U2 y0)]=some [.v U2 y0]:=by kernel_rfl
theorem ai3 (y0):ag d59 .ret [(4,.v U2 y0)]=some [.v U2 y0]:=by kernel_rfl
def Ck (gP:Int→Int→Option (Int)) (x0 x1:aR) (k:Int→Option R):Option R:=
(Jv gP k k x0 x1)
theorem YM (gP) (h86:(HM gP).holds cl) (x0 x1) (k:List E→Option R):exec cl N Gp [(0,.v aB x0),(1,.v aB x1)] (fun e env=>(ag d59 e env).bind k)=Ck gP x0 x1 (fun r0=>k [.v U2 r0]):=by
 simp only [Gp,apw gP h86,ai2,ai3,ar]
 rfl
def rM (S:aR→aR→Option (Int)):aO:=er 59 aB aB S fun b=> [.v U2 b]
def dD (N:Nat) (x0:aR) (x1:aR):Option (Int):=Ck (gP N) x0 x1 (fun (r0:Int)=>some (r0))
def wS (k0:Bool→Option R) (k1:aA→aA→Option R) (x0 x1:aA):Option R:=
ad ((x0.length:Int) != (x1.length:Int)) (k0 false) (k1 x0 x1)
theorem aoe (x0 x1):exec cl N Ay (rX x0 x1) K=(wS (fun y0=>K .ret (iS y0)) (fun y0 y1=>exec cl N Ax (BG y0 y1) K) x0 x1):=by
 delta Ay
 generalize Ax=q
 revert q
 refine id ?_
 intro q
 kernel_rfl
def wO (k0:aA→aA→Int→Option R) (x0 x1:aA):Option R:=
k0 x0 x1 (0:Int)
theorem aoa (x0 x1):exec cl N N9 (BG x0 x1) K=(wO (fun y0 y1 y2=>K .normal (l6 y0 y1 y2)) x0 x1):=by
 kernel_rfl
theorem Ua (x0 x1 x2):aj [0,1,5] (l6 x0 x1 x2)=(l6 x0 x1 x2):=by kernel_rfl
def wP (dD:aR→aR→Option (Int)) (k0:Bool→Option R) (k1:aA→aA→Int→Option R) (k2:aA→aA→Int→Option R) (x0 x1:aA) (x2:Int):Option R:=
ad (decide (x2 < (x0.length:Int))) (if 0≤x2∧x2 < (x0.length:Int) then
if 0≤x2∧x2 < (x1.length:Int) then
(dD (x0.getD x2.toNat ((0:Int),((0:Int),([],())))) (x1.getD x2.toNat ((0:Int),((0:Int),([],()))))).bind fun r707=>
ad (r707 != (0:Int)) (k0 false) (k1 x0 x1 (IntKind.i64.wrap (x2+(1:Int))))
else none
else none) (k2 x0 x1 x2)
theorem aob (dD) (h59:(rM dD).holds cl) (x0 x1 x2):exec cl N FA (l6 x0 x1 x2) K=(wP dD (fun y0=>K .ret (nj y0)) (fun y0 y1 y2=>K .normal (l6 y0 y1 y2)) (fun y0 y1 y2=>K (.exit 0) (l6 y0 y1 y2)) x0 x1 x2):=by
 rw [←aM h59]
 kernel_rfl
def s8 {R:Type} (dD:aR→aR→Option (Int)) (k0:Bool→Option R) (k1:aA→aA→Int→Option R):Nat→aA→aA→Int→Option R
 | 0,_,_,_=>none
 | m+1,x0,x1,x2=>(wP dD k0 (s8 dD k0 k1 m) k1 x0 x1 x2)
theorem aeP (dD) (h59:(rM dD).holds cl):∀ (m) (x0 x1 x2),iter [0,1,5] (fun env K=>exec cl N FA env K) K m (l6 x0 x1 x2)=s8 dD (fun y0=>K .ret (nj y0)) (fun y0 y1 y2=>K (.exit 0) (l6 y0 y1 y2)) m x0 x1 x2:=by
 intro m
 induction m with
 | zero=>intros; rfl
 | succ m ih=>
   intro x0 x1 x2
   simp only [b9,aob dD h59,cb,ca,cc,Ua,ih]
   rfl
theorem ab8 (x0):aj [4] (nj x0)=[(4,.v .bool x0)]:=by kernel_rfl
theorem ab9 (x0 x1 x2):aj [4] (l6 x0 x1 x2)=[(4,.dead)]:=by kernel_rfl
def wQ (N:Nat) (dD:aR→aR→Option (Int)) (k0:Bool→Option R) (k1:Option R) (x0 x1:aA) (x2:Int):Option R:=
s8 dD k0 (fun y0 y1 y2=>k1) N x0 x1 x2
theorem aoc (dD) (h59:(rM dD).holds cl) (x0 x1 x2):exec cl N FB (l6 x0 x1 x2) K=(wQ N dD (fun y0=>K .ret [(4,.v .bool y0)]) (K (.exit 0) [(4,.dead)]) x0 x1 x2):=by
 simp only [FB,aV,b8,Ua,aeP dD h59,ab8,ab9]
 rfl
theorem aca (x0):aj [4] [(4,.v .bool x0)]=[(4,.v .bool x0)]:=by kernel_rfl
theorem acb:aj [4] [(4,.dead)]=[(4,.dead)]:=by kernel_rfl
def wR (k0:Bool→Option R):Option R:=
k0 true
theorem aod:exec cl N Oc [(4,.dead)] K=(wR (fun y0=>K .ret [(4,.v .bool y0)])):=by
 kernel_rfl
def wT (N:Nat) (dD:aR→aR→Option (Int)) (k0:Bool→Option R) (k1:Bool→Option R) (x0 x1:aA):Option R:=
(wS k0 (wO (wQ N dD k1 (wR k1))) x0 x1)
theorem aof (dD) (h59:(rM dD).holds cl) (x0 x1):exec cl N Ay (rX x0 x1) K=(wT N dD (fun y0=>K .ret (iS y0)) (fun y0=>K .ret [(4,.v .bool y0)]) x0 x1):=by
 simp only [bX,bZ,bY,b5,aoe,Ax,Ob,aoa,Oa,aV,cx,aoc dD h59,ct,cw,cq,aca,acb,aod]
 rfl
theorem aix (y0):ag d28 .ret (iS y0)=some [.v .bool y0]:=by kernel_rfl
theorem aiy (y0):ag d28 .ret [(4,.v .bool y0)]=some [.v .bool y0]:=by kernel_rfl
def su (N:Nat) (dD:aR→aR→Option (Int)) (x0 x1:aA) (k:Bool→Option R):Option R:=
(wT N dD k k x0 x1)
theorem Yv (dD) (h59:(rM dD).holds cl) (x0 x1) (k:List E→Option R):exec cl N Fy (rX x0 x1) (fun e env=>(ag d28 e env).bind k)=su N dD x0 x1 (fun r0=>k [.v .bool r0]):=by
 simp only [Fy,aof dD h59,aix,aiy,ar]
 rfl
def na (S:aA→aA→Option (Bool)):aO:=er 28 bB bB S fun b=> [.v .bool b]
def bH (N:Nat) (x0:aA) (x1:aA):Option (Bool):=su N (dD N) x0 x1 (fun (r0:Bool)=>some (r0))
def p8 (ft:V4→Option (Bool)) (k0:Int→Int→Option R) (k1:ae→Option R) (x0:ae):Option R:=
(ft x0.1).bind fun r715=>
ad (!r715) (k0 (-1:Int) (2:Int)) (ad ((x0.2.1.length:Int)==(0:Int)) (k0 (-1:Int) (7:Int)) (ad (decide ((x0.2.1.length:Int) > (120:Int))) (k0 (-1:Int) (3:Int)) (k1 x0)))
theorem apG (ft) (h90:(Bw ft).holds cl) (x0):exec cl N AU [(0,.v ak x0)] K=(p8 ft (fun y0 y1=>K .ret (rY y0 y1)) (fun y0=>exec cl N AT (BH y0) K) x0):=by
 rw [←aM h90]
 delta AU
 generalize AT=q
 revert q
 refine id ?_
 intro q
 kernel_rfl
def p5 (k0:ae→Int→Option R) (x0:ae):Option R:=
k0 x0 (0:Int)
theorem apD (x0):exec cl N Pm (BH x0) K=(p5 (fun y0 y1=>K .normal (iT y0 y1)) x0):=by
 kernel_rfl
theorem Um (x0 x1):aj [1,4] (iT x0 x1)=(iT x0 x1):=by kernel_rfl
def qd (k0:ae→Int→Option R) (k1:ae→Int→Option R) (x0:ae) (x1:Int):Option R:=
ad (decide (x1 < (x0.2.1.length:Int))) (k0 x0 x1) (k1 x0 x1)
theorem apL (x0 x1):exec cl N uu (iT x0 x1) K=(qd (fun y0 y1=>exec cl N AW (iT y0 y1) K) (fun y0 y1=>K (.exit 0) (iT y0 y1)) x0 x1):=by
 delta uu
 generalize AW=q
 revert q
 refine id ?_
 intro q
 kernel_rfl
def qb (cL:aT→Option (Int)) (k0:Int→Int→Option R) (k1:ae→Int→Int→Option R) (x0:ae) (x1:Int):Option R:=
if 0≤x1∧x1 < (x0.2.1.length:Int) then
(cL (x0.2.1.getD x1.toNat ([],([],((0:Int),((0:Int),())))))).bind fun r719=>
ad (r719 != (0:Int)) (k0 x1 r719) (k1 x0 x1 (0:Int))
else none
theorem apJ (cL) (h91:(pj cL).holds cl) (x0 x1):exec cl N Gx (iT x0 x1) K=(qb cL (fun y0 y1=>K .ret (nZ y0 y1)) (fun y0 y1 y2=>exec cl N AV (l7 y0 y1 y2) K) x0 x1):=by
 rw [←aM h91]
 delta Gx
 generalize AV=q
 revert q
 refine id ?_
 intro q
 kernel_rfl
theorem Un (x0 x1 x2):aj [1,4,6] (l7 x0 x1 x2)=(l7 x0 x1 x2):=by kernel_rfl
def p6 (bH:aA→aA→Option (Bool)) (k0:Int→Int→Option R) (k1:ae→Int→Int→Option R) (k2:ae→Int→Int→Option R) (x0:ae) (x1 x2:Int):Option R:=
ad (decide (x2 < x1)) (if 0≤x1∧x1 < (x0.2.1.length:Int) then
if 0≤x2∧x2 < (x0.2.1.length:Int) then
ad ((x0.2.1.getD x1.toNat ([],([],((0:Int),((0:Int),()))))).1==(x0.2.1.getD x2.toNat ([],([],((0:Int),((0:Int),()))))).1) (ad ((x0.2.1.getD x1.toNat ([],([],((0:Int),((0:Int),()))))).2.2.2.1==(x0.2.1.getD x2.toNat ([],([],((0:Int),((0:Int),()))))).2.2.2.1) ((bH ((x0.2.1.getD x1.toNat ([],([],((0:Int),((0:Int),()))))).2.1) ((x0.2.1.getD x2.toNat ([],([],((0:Int),((0:Int),()))))).2.1)).bind fun r724=>
ad r724 (k0 x1 (5:Int)) (k1 x0 x1 (IntKind.i64.wrap (x2+(1:Int))))) (k1 x0 x1 (IntKind.i64.wrap (x2+(1:Int))))) (k1 x0 x1 (IntKind.i64.wrap (x2+(1:Int))))
else none
else none) (k2 x0 x1 x2)
theorem apE (bH) (h28:(na bH).holds cl) (x0 x1 x2):exec cl N Gv (l7 x0 x1 x2) K=(p6 bH (fun y0 y1=>K .ret (Iu y0 y1)) (fun y0 y1 y2=>K .normal (l7 y0 y1 y2)) (fun y0 y1 y2=>K (.exit 2) (l7 y0 y1 y2)) x0 x1 x2):=by
 rw [←aM h28]
 kernel_rfl
def qq {R:Type} (bH:aA→aA→Option (Bool)) (k0:Int→Int→Option R) (k1:ae→Int→Int→Option R):Nat→ae→Int→Int→Option R
 | 0,_,_,_=>none
 | m+1,x0,x1,x2=>(p6 bH k0 (qq bH k0 k1 m) k1 x0 x1 x2)
theorem ae3 (bH) (h28:(na bH).holds cl):∀ (m) (x0 x1 x2),iter [1,4,6] (fun env K=>exec cl N Gv env K) K m (l7 x0 x1 x2)=qq bH (fun y0 y1=>K .ret (Iu y0 y1)) (fun y0 y1 y2=>K (.exit 2) (l7 y0 y1 y2)) m x0 x1 x2:=by
 intro m
 induction m with
 | zero=>intros; rfl
 | succ m ih=>
   intro x0 x1 x2
   simp only [b9,apE bH h28,cb,ca,cc,Un,ih]
   rfl
theorem acP (x0 x1):aj [1,2,3,4] (Iu x0 x1)=(nZ x0 x1):=by kernel_rfl
theorem acQ (x0 x1 x2):aj [1,2,3,4] (l7 x0 x1 x2)=(uS x0 x1):=by kernel_rfl
def qa (N:Nat) (bH:aA→aA→Option (Bool)) (k0:Int→Int→Option R) (k1:ae→Int→Option R) (x0:ae) (x1 x2:Int):Option R:=
qq bH k0 (fun y0 y1 y2=>k1 y0 y1) N x0 x1 x2
theorem apI (bH) (h28:(na bH).holds cl) (x0 x1 x2):exec cl N Gw (l7 x0 x1 x2) K=(qa N bH (fun y0 y1=>K .ret (nZ y0 y1)) (fun y0 y1=>K (.exit 2) (uS y0 y1)) x0 x1 x2):=by
 simp only [Gw,aV,b8,Un,ae3 bH h28,acP,acQ]
 rfl
theorem acR (x0 x1):aj [1,2,3,4] (nZ x0 x1)=(nZ x0 x1):=by kernel_rfl
theorem acS (x0 x1):aj [1,2,3,4] (uS x0 x1)=(uS x0 x1):=by kernel_rfl
def qc (k0:ae→Int→Option R) (x0:ae) (x1:Int):Option R:=
k0 x0 (IntKind.i64.wrap (x1+(1:Int)))
theorem apK (x0 x1):exec cl N Pr (uS x0 x1) K=(qc (fun y0 y1=>K .normal (iT y0 y1)) x0 x1):=by
 kernel_rfl
def qe (N:Nat) (bH:aA→aA→Option (Bool)) (cL:aT→Option (Int)) (k0:Int→Int→Option R) (k1:ae→Int→Option R) (k2:ae→Int→Option R) (x0:ae) (x1:Int):Option R:=
(qd (qb cL k0 (qa N bH k0 (((qc k1))))) k2 x0 x1)
theorem apM (bH) (cL) (h28:(na bH).holds cl) (h91:(pj cL).holds cl) (x0 x1):exec cl N uu (iT x0 x1) K=(qe N bH cL (fun y0 y1=>K .ret (nZ y0 y1)) (fun y0 y1=>K .normal (iT y0 y1)) (fun y0 y1=>K (.exit 0) (iT y0 y1)) x0 x1):=by
 simp only [bX,bZ,bY,b5,apL,AW,Pq,aV,cx,apJ cL h91,AV,apI bH h28,ct,cw,cq,acR,acS,apK]
 rfl
def oz {R:Type} (N:Nat) (bH:aA→aA→Option (Bool)) (cL:aT→Option (Int)) (k0:Int→Int→Option R) (k1:ae→Int→Option R):Nat→ae→Int→Option R
 | 0,_,_=>none
 | m+1,x0,x1=>(qe N bH cL k0 (oz N bH cL k0 k1 m) k1 x0 x1)
theorem ae4 (bH) (cL) (h28:(na bH).holds cl) (h91:(pj cL).holds cl):∀ (m) (x0 x1),iter [1,4] (fun env K=>exec cl N uu env K) K m (iT x0 x1)=oz N bH cL (fun y0 y1=>K .ret (nZ y0 y1)) (fun y0 y1=>K (.exit 0) (iT y0 y1)) m x0 x1:=by
 intro m
 induction m with
 | zero=>intros; rfl
 | succ m ih=>
   intro x0 x1
   simp only [b9,apM bH cL h28 h91,cb,ca,cc,Um,ih]
   rfl
theorem acT (x0 x1):aj [2,3] (nZ x0 x1)=(jm x0 x1):=by kernel_rfl
theorem acU (x0 x1):aj [2,3] (iT x0 x1)=[(2,.dead),(3,.dead)]:=by kernel_rfl
def qf (N:Nat) (bH:aA→aA→Option (Bool)) (cL:aT→Option (Int)) (k0:Int→Int→Option R) (k1:Option R) (x0:ae) (x1:Int):Option R:=
oz N bH cL k0 (fun y0 y1=>k1) N x0 x1
theorem apN (bH) (cL) (h28:(na bH).holds cl) (h91:(pj cL).holds cl) (x0 x1):exec cl N Gy (iT x0 x1) K=(qf N bH cL (fun y0 y1=>K .ret (jm y0 y1)) (K (.exit 0) [(2,.dead),(3,.dead)]) x0 x1):=by
 simp only [Gy,aV,b8,Um,ae4 bH cL h28 h91,acT,acU]
 rfl
theorem acV (x0 x1):aj [2,3] (jm x0 x1)=(jm x0 x1):=by kernel_rfl
theorem acW:aj [2,3] [(2,.dead),(3,.dead)]=[(2,.dead),(3,.dead)]:=by kernel_rfl
def p7 (k0:Int→Int→Option R):Option R:=
k0 (-1:Int) (0:Int)
theorem apF:exec cl N Pp [(2,.dead),(3,.dead)] K=(p7 (fun y0 y1=>K .ret (jm y0 y1))):=by
 kernel_rfl
def p9 (N:Nat) (bH:aA→aA→Option (Bool)) (ft:V4→Option (Bool)) (cL:aT→Option (Int)) (k0:Int→Int→Option R) (k1:Int→Int→Option R) (x0:ae):Option R:=
(p8 ft k0 (p5 (qf N bH cL k1 (p7 k1))) x0)
theorem apH (bH) (ft) (cL) (h28:(na bH).holds cl) (h90:(Bw ft).holds cl) (h91:(pj cL).holds cl) (x0):exec cl N AU [(0,.v ak x0)] K=(p9 N bH ft cL (fun y0 y1=>K .ret (rY y0 y1)) (fun y0 y1=>K .ret (jm y0 y1)) x0):=by
 simp only [bX,bZ,bY,b5,apG ft h90,AT,Po,apD,Pn,aV,cx,apN bH cL h28 h91,ct,cw,cq,acV,acW,apF]
 rfl
theorem ai7 (y0 y1):ag d67 .ret (rY y0 y1)=some [.v U2 y0,.v U2 y1]:=by kernel_rfl
theorem ai8 (y0 y1):ag d67 .ret (jm y0 y1)=some [.v U2 y0,.v U2 y1]:=by kernel_rfl
def ow (N:Nat) (bH:aA→aA→Option (Bool)) (ft:V4→Option (Bool)) (cL:aT→Option (Int)) (x0:ae) (k:Int→Int→Option R):Option R:=
(p9 N bH ft cL k k x0)
theorem YO (bH) (ft) (cL) (h28:(na bH).holds cl) (h90:(Bw ft).holds cl) (h91:(pj cL).holds cl) (x0) (k:List E→Option R):exec cl N Gu [(0,.v ak x0)] (fun e env=>(ag d67 e env).bind k)=ow N bH ft cL x0 (fun r0 r1=>k [.v U2 r0,.v U2 r1]):=by
 simp only [Gu,apH bH ft cL h28 h90 h91,ai7,ai8,ar]
 rfl
def rN (S:ae→Option V1):aO:=cI 67 ak S fun b=> [.v U2 b.1,.v U2 b.2]
def dK (N:Nat) (x0:ae):Option V1:=ow N (bH N) (ft N) (cL N) x0 (fun (r0:Int) (r1:Int)=>some (r0,r1))
def SD (gg:V4→Option fQ) (k0:ae→Int→Int→Option R) (k1:ae→Int→Int→Option R) (k2:V4→ae→aG→ae→Option R) (x0:V4):Option R:=
ad (decide ((x0.length:Int) > (20000:Int))) (k0 ([],[],()) (0:Int) (3:Int)) ((gg x0).bind fun r734=>
ad ((r734.length:Int)==(0:Int)) (k1 ([],[],()) (1:Int) (2:Int)) (k2 x0 ([],([],())) r734 ([],([],()))))
theorem apS (gg) (h92:(Bx gg).holds cl) (x0):exec cl N AY [(0,.v .str x0)] K=(SD gg (fun y0 y1 y2=>K .ret (Iv y0 y1 y2)) (fun y0 y1 y2=>K .ret (Iw y0 y1 y2)) (fun y0 y1 y2 y3=>exec cl N AX (Q3 y0 y1 y2 y3) K) x0):=by
 rw [←aM h92]
 delta AY
 generalize AX=q
 revert q
 refine id ?_
 intro q
 kernel_rfl
def SA (k0:V4→ae→aG→ae→Int→Option R) (x0:V4) (x1:ae) (x2:aG) (x3:ae):Option R:=
k0 x0 x1 x2 x3 (0:Int)
theorem apP (x0 x1 x2 x3):exec cl N Pt (Q3 x0 x1 x2 x3) K=(SA (fun y0 y1 y2 y3 y4=>K .normal (gS y0 y1 y2 y3 y4)) x0 x1 x2 x3):=by
 kernel_rfl
theorem Uo (x0 x1 x2 x3 x4):aj [0,2,5,6,7] (gS x0 x1 x2 x3 x4)=(gS x0 x1 x2 x3 x4):=by kernel_rfl
def SB (k0:V4→ae→aG→ae→Int→Option R) (k1:V4→ae→aG→ae→Int→Option R) (x0:V4) (x1:ae) (x2:aG) (x3:ae) (x4:Int):Option R:=
ad (decide (x4 < (x2.length:Int))) (k0 x0 x1 x2 x3 x4) (k1 x0 x1 x2 x3 x4)
theorem apQ (x0 x1 x2 x3 x4):exec cl N Pu (gS x0 x1 x2 x3 x4) K=(SB (fun y0 y1 y2 y3 y4=>K .normal (gS y0 y1 y2 y3 y4)) (fun y0 y1 y2 y3 y4=>K (.exit 0) (gS y0 y1 y2 y3 y4)) x0 x1 x2 x3 x4):=by
 kernel_rfl
def SF (k0:V4→ae→aG→ae→Int→Bool→Option R) (x0:V4) (x1:ae) (x2:aG) (x3:ae) (x4:Int):Option R:=
ad (x4==(IntKind.i64.wrap ((x2.length:Int) - (1:Int)))) (let v738:Int:=(IntKind.i64.wrap ((x0.length:Int) - (1:Int)))
if 0≤v738∧v738 < (x0.length:Int) then
k0 x0 x1 x2 x3 x4 (((x0.getD v738.toNat 0).toNat:Int) != (10:Int))
else none) (k0 x0 x1 x2 x3 x4 false)
theorem apU (x0 x1 x2 x3 x4):exec cl N Py (gS x0 x1 x2 x3 x4) K=(SF (fun y0 y1 y2 y3 y4 y5=>K .normal (Q4 y0 y1 y2 y3 y4 y5)) x0 x1 x2 x3 x4):=by
 kernel_rfl
def SG (bL:V4→Option fQ) (c6:V4→Option nK) (k0:ae→Int→Int→Option R) (k1:V4→ae→aG→ae→Int→Option R) (x0:V4) (x1:ae) (x2:aG) (x3:ae) (x4:Int) (x5:Bool):Option R:=
if 0≤x4∧x4 < (x2.length:Int) then
if x4.toNat < x2.length then
(bL (x2.getD x4.toNat [])).bind fun r742=>
if 0≤x4∧x4 < (x2.length:Int) then
if x4.toNat < x2.length then
(c6 (x2.getD x4.toNat [])).bind fun r744=>
ad (x4==(0:Int)) (ad ((r742.length:Int)==(2:Int)) (if 0≤(0:Int)∧(0:Int) < (r742.length:Int) then
if ((0:Int).toNat) < r742.length then
ad x5 (k0 ([],[],()) (IntKind.i64.wrap (x4+(1:Int))) (2:Int)) (ad (!((r742.getD ((0:Int).toNat) [])==([111,114,116,104,111,103,114,97,112,104,121]:List UInt8))) (k0 ([],[],()) (IntKind.i64.wrap (x4+(1:Int))) (2:Int)) (ad (x4==(0:Int)) (if 0≤(1:Int)∧(1:Int) < (r742.length:Int) then
if ((1:Int).toNat) < r742.length then
k1 x0 x1 x2 ((r742.getD ((1:Int).toNat) []),x3.2) x4
else none
else none) (if x3.2.1.length+[r744.1].length≤2513169434916 then
k1 x0 x1 x2 (x3.1,((x3.2.1++[r744.1]),x3.2.2)) x4
else none)))
else none
else none) (ad x5 (k0 ([],[],()) (IntKind.i64.wrap (x4+(1:Int))) (2:Int)) (k0 ([],[],()) (IntKind.i64.wrap (x4+(1:Int))) (2:Int)))) (ad x5 (k0 ([],[],()) (IntKind.i64.wrap (x4+(1:Int))) (2:Int)) (ad (!r744.2) (k0 ([],[],()) (IntKind.i64.wrap (x4+(1:Int))) (2:Int)) (ad (x4==(0:Int)) (if 0≤(1:Int)∧(1:Int) < (r742.length:Int) then
if ((1:Int).toNat) < r742.length then
k1 x0 x1 x2 ((r742.getD ((1:Int).toNat) []),x3.2) x4
else none
else none) (if x3.2.1.length+[r744.1].length≤2513169434916 then
k1 x0 x1 x2 (x3.1,((x3.2.1++[r744.1]),x3.2.2)) x4
else none))))
else none
else none
else none
else none
theorem apV (bL) (c6) (h93:(ly bL).holds cl) (h94:(pk c6).holds cl) (x0 x1 x2 x3 x4 x5):exec cl N Pz (Q4 x0 x1 x2 x3 x4 x5) K=(SG bL c6 (fun y0 y1 y2=>K .ret (Q5 y0 y1 y2)) (fun y0 y1 y2 y3 y4=>K .normal (gS y0 y1 y2 y3 y4)) x0 x1 x2 x3 x4 x5):=by
 rw [←aM h93]
 rw [←aM h94]
 kernel_rfl
theorem acX (x0 x1 x2):aj [0,2,3,4,5,6,7] (Q5 x0 x1 x2)=(BI x0 x1 x2):=by kernel_rfl
theorem acY (x0 x1 x2 x3 x4):aj [0,2,3,4,5,6,7] (gS x0 x1 x2 x3 x4)=(Q6 x0 x1 x2 x3 x4):=by kernel_rfl
def SH (k0:V4→ae→aG→ae→Int→Option R) (x0:V4) (x1:ae) (x2:aG) (x3:ae) (x4:Int):Option R:=
k0 x0 x1 x2 x3 (IntKind.i64.wrap (x4+(1:Int)))
theorem apW (x0 x1 x2 x3 x4):exec cl N PC (Q6 x0 x1 x2 x3 x4) K=(SH (fun y0 y1 y2 y3 y4=>K .normal (gS y0 y1 y2 y3 y4)) x0 x1 x2 x3 x4):=by
 kernel_rfl
def SI (bL:V4→Option fQ) (c6:V4→Option nK) (k0:ae→Int→Int→Option R) (k1:V4→ae→aG→ae→Int→Option R) (k2:V4→ae→aG→ae→Int→Option R) (x0:V4) (x1:ae) (x2:aG) (x3:ae) (x4:Int):Option R:=
(SB (SF (SG bL c6 k0 ((SH k1)))) k2 x0 x1 x2 x3 x4)
theorem apX (bL) (c6) (h93:(ly bL).holds cl) (h94:(pk c6).holds cl) (x0 x1 x2 x3 x4):exec cl N AZ (gS x0 x1 x2 x3 x4) K=(SI bL c6 (fun y0 y1 y2=>K .ret (BI y0 y1 y2)) (fun y0 y1 y2 y3 y4=>K .normal (gS y0 y1 y2 y3 y4)) (fun y0 y1 y2 y3 y4=>K (.exit 0) (gS y0 y1 y2 y3 y4)) x0 x1 x2 x3 x4):=by
 simp only [AZ,bX,bZ,bY,b5,apQ,PD,PB,aV,cx,PA,apU,apV bL c6 h93 h94,ct,cw,cq,acX,acY,apW]
 rfl
def Kw {R:Type} (bL:V4→Option fQ) (c6:V4→Option nK) (k0:ae→Int→Int→Option R) (k1:V4→ae→aG→ae→Int→Option R):Nat→V4→ae→aG→ae→Int→Option R
 | 0,_,_,_,_,_=>none
 | m+1,x0,x1,x2,x3,x4=>(SI bL c6 k0 (Kw bL c6 k0 k1 m) k1 x0 x1 x2 x3 x4)
theorem ae5 (bL) (c6) (h93:(ly bL).holds cl) (h94:(pk c6).holds cl):∀ (m) (x0 x1 x2 x3 x4),iter [0,2,5,6,7] (fun env K=>exec cl N AZ env K) K m (gS x0 x1 x2 x3 x4)=Kw bL c6 (fun y0 y1 y2=>K .ret (BI y0 y1 y2)) (fun y0 y1 y2 y3 y4=>K (.exit 0) (gS y0 y1 y2 y3 y4)) m x0 x1 x2 x3 x4:=by
 intro m
 induction m with
 | zero=>intros; rfl
 | succ m ih=>
   intro x0 x1 x2 x3 x4
   simp only [b9,apX bL c6 h93 h94,cb,ca,cc,Uo,ih]
   rfl
theorem acZ (x0 x1 x2):aj [2,3,4,6] (BI x0 x1 x2)=(pA x0 x1 x2):=by kernel_rfl
theorem ac0 (x0 x1 x2 x3 x4):aj [2,3,4,6] (gS x0 x1 x2 x3 x4)=(uT x1 x3):=by kernel_rfl
def SJ (N:Nat) (bL:V4→Option fQ) (c6:V4→Option nK) (k0:ae→Int→Int→Option R) (k1:ae→ae→Option R) (x0:V4) (x1:ae) (x2:aG) (x3:ae) (x4:Int):Option R:=
Kw bL c6 k0 (fun y0 y1 y2 y3 y4=>k1 y1 y3) N x0 x1 x2 x3 x4
theorem apY (bL) (c6) (h93:(ly bL).holds cl) (h94:(pk c6).holds cl) (x0 x1 x2 x3 x4):exec cl N GB (gS x0 x1 x2 x3 x4) K=(SJ N bL c6 (fun y0 y1 y2=>K .ret (pA y0 y1 y2)) (fun y0 y1=>K (.exit 0) (uT y0 y1)) x0 x1 x2 x3 x4):=by
 simp only [GB,aV,b8,Uo,ae5 bL c6 h93 h94,acZ,ac0]
 rfl
theorem ac1 (x0 x1 x2):aj [2,3,4,6] (pA x0 x1 x2)=(pA x0 x1 x2):=by kernel_rfl
theorem ac2 (x0 x1):aj [2,3,4,6] (uT x0 x1)=(uT x0 x1):=by kernel_rfl
def SC (dK:ae→Option V1) (k0:ae→Int→Int→Option R) (k1:ae→Int→Int→Option R) (x0 x1:ae):Option R:=
(dK x1).bind fun r760=>
ad (r760.2 != (0:Int)) (ad (decide (r760.1≥(0:Int))) (k0 ([],[],()) (IntKind.i64.wrap (r760.1+(2:Int))) r760.2) (k0 ([],[],()) (1:Int) r760.2)) (k1 x1 (0:Int) (0:Int))
theorem apR (dK) (h67:(rN dK).holds cl) (x0 x1):exec cl N Px (uT x0 x1) K=(SC dK (fun y0 y1 y2=>K .ret (pA y0 y1 y2)) (fun y0 y1 y2=>K .ret (Ix y0 y1 y2)) x0 x1):=by
 rw [←aM h67]
 kernel_rfl
def SE (N:Nat) (dK:ae→Option V1) (gg:V4→Option fQ) (bL:V4→Option fQ) (c6:V4→Option nK) (k0:ae→Int→Int→Option R) (k1:ae→Int→Int→Option R) (k2:ae→Int→Int→Option R) (k3:ae→Int→Int→Option R) (x0:V4):Option R:=
(SD gg k0 k1 (SA (SJ N bL c6 k2 ((SC dK k2 k3)))) x0)
theorem apT (dK) (gg) (bL) (c6) (h67:(rN dK).holds cl) (h92:(Bx gg).holds cl) (h93:(ly bL).holds cl) (h94:(pk c6).holds cl) (x0):exec cl N AY [(0,.v .str x0)] K=(SE N dK gg bL c6 (fun y0 y1 y2=>K .ret (Iv y0 y1 y2)) (fun y0 y1 y2=>K .ret (Iw y0 y1 y2)) (fun y0 y1 y2=>K .ret (pA y0 y1 y2)) (fun y0 y1 y2=>K .ret (Ix y0 y1 y2)) x0):=by
 simp only [bX,bZ,bY,b5,apS gg h92,AX,Pw,apP,Pv,aV,cx,apY bL c6 h93 h94,ct,cw,cq,ac1,ac2,apR dK h67]
 rfl
theorem aja (y0 y1 y2):ag d69 .ret (Iv y0 y1 y2)=some [.v ak y0,.v U2 y1,.v U2 y2]:=by kernel_rfl
theorem ajb (y0 y1 y2):ag d69 .ret (Iw y0 y1 y2)=some [.v ak y0,.v U2 y1,.v U2 y2]:=by kernel_rfl
theorem ajc (y0 y1 y2):ag d69 .ret (pA y0 y1 y2)=some [.v ak y0,.v U2 y1,.v U2 y2]:=by kernel_rfl
theorem ajd (y0 y1 y2):ag d69 .ret (Ix y0 y1 y2)=some [.v ak y0,.v U2 y1,.v U2 y2]:=by kernel_rfl
def JE (N:Nat) (dK:ae→Option V1) (gg:V4→Option fQ) (bL:V4→Option fQ) (c6:V4→Option nK) (x0:V4) (k:ae→Int→Int→Option R):Option R:=
(SE N dK gg bL c6 k k k k x0)
theorem YQ (dK) (gg) (bL) (c6) (h67:(rN dK).holds cl) (h92:(Bx gg).holds cl) (h93:(ly bL).holds cl) (h94:(pk c6).holds cl) (x0) (k:List E→Option R):exec cl N GA [(0,.v .str x0)] (fun e env=>(ag d69 e env).bind k)=JE N dK gg bL c6 x0 (fun r0 r1 r2=>k [.v ak r0,.v U2 r1,.v U2 r2]):=by
 simp only [GA,apT dK gg bL c6 h67 h92 h93 h94,aja,ajb,ajc,ajd,ar]
 rfl
def uF (S:V4→Option qZ):aO:=cI 69 .str S fun b=> [.v ak b.1,.v U2 b.2.1,.v U2 b.2.2]
def eP (N:Nat) (x0:V4):Option qZ:=JE N (dK N) (gg N) (bL N) (c6 N) x0 (fun (r0:ae) (r1:Int) (r2:Int)=>some (r0,r1,r2))
def Sr (eP:V4→Option qZ) (k0:ae→Option R):Option R:=
(eP ([111,114,116,104,111,103,114,97,112,104,121,32,108,97,116,105,110,10,97,32,97,47,118,51,32,49,32,97,110,121,119,104,101,114,101,10,101,32,101,47,118,51,32,49,32,97,110,121,119,104,101,114,101,10,105,32,105,47,118,51,32,49,32,97,110,121,119,104,101,114,101,10,111,32,111,47,118,51,32,49,32,97,110,121,119,104,101,114,101,10,117,32,117,47,118,51,32,49,32,97,110,121,119,104,101,114,101,10,121,32,121,47,118,51,32,49,32,97,110,121,119,104,101,114,101,10,97,95,32,97,95,47,118,50,32,49,32,97,110,121,119,104,101,114,101,10,101,95,32,101,95,47,118,50,32,49,32,97,110,121,119,104,101,114,101,10,105,95,32,105,95,47,118,50,32,49,32,97,110,121,119,104,101,114,101,10,111,95,32,111,95,47,118,50,32,49,32,97,110,121,119,104,101,114,101,10,117,95,32,117,95,47,118,50,32,49,32,97,110,121,119,104,101,114,101,10,121,95,32,121,95,47,118,50,32,49,32,97,110,121,119,104,101,114,101,10,97,94,32,97,94,47,118,49,32,49,32,97,110,121,119,104,101,114,101,10,101,94,32,101,94,47,118,49,32,49,32,97,110,121,119,104,101,114,101,10,105,94,32,105,94,47,118,49,32,49,32,97,110,121,119,104,101,114,101,10,111,94,32,111,94,47,118,49,32,49,32,97,110,121,119,104,101,114,101,10,117,94,32,117,94,47,118,49,32,49,32,97,110,121,119,104,101,114,101,10,121,94,32,121,94,47,118,49,32,49,32,97,110,121,119,104,101,114,101,10,97,101,32,97,101,47,100,50,32,49,32,97,110,121,119,104,101,114,101,10,97,117,32,97,117,47,100,50,32,49,32,97,110,121,119,104,101,114,101,10,111,101,32,111,101,47,100,50,32,49,32,97,110,121,119,104,101,114,101,10,101,117,32,101,117,47,100,50,32,51,32,97,110,121,119,104,101,114,101,10,105,32,105,47,103,32,48,32,115,116,97,114,116,10,105,32,105,47,103,32,105,47,103,32,48,32,98,101,116,119,101,101,110,10,117,32,117,47,103,32,48,32,115,116,97,114,116,10,117,32,117,47,103,32,48,32,98,101,116,119,101,101,110,10,106,32,106,47,103,32,48,32,97,110,121,119,104,101,114,101,10,118,32,118,47,103,32,48,32,97,110,121,119,104,101,114,101,10,113,117,32,113,117,47,109,32,48,32,98,101,102,111,114,101,10,103,117,32,103,117,47,109,32,50,32,98,101,102,111,114,101,10,115,117,32,115,47,115,32,117,47,103,32,51,32,98,101,102,111,114,101,10,98,32,98,47,109,32,48,32,97,110,121,119,104,101,114,101,10,99,32,99,47,109,32,48,32,97,110,121,119,104,101,114,101,10,100,32,100,47,109,32,48,32,97,110,121,119,104,101,114,101,10,102,32,102,47,109,32,48,32,97,110,121,119,104,101,114,101,10,103,32,103,47,109,32,48,32,97,110,121,119,104,101,114,101,10,107,32,107,47,109,32,48,32,97,110,121,119,104,101,114,101,10,112,32,112,47,109,32,48,32,97,110,121,119,104,101,114,101,10,116,32,116,47,109,32,48,32,97,110,121,119,104,101,114,101,10,108,32,108,47,108,32,48,32,97,110,121,119,104,101,114,101,10,114,32,114,47,108,32,48,32,97,110,121,119,104,101,114,101,10,109,32,109,47,110,32,48,32,97,110,121,119,104,101,114,101,10,110,32,110,47,110,32,48,32,97,110,121,119,104,101,114,101,10,115,32,115,47,115,32,48,32,97,110,121,119,104,101,114,101,10,120,32,120,47,120,32,48,32,97,110,121,119,104,101,114,101,10,122,32,122,47,120,32,48,32,97,110,121,119,104,101,114,101,10,104,32,104,47,98,32,48,32,97,110,121,119,104,101,114,101,10]:List UInt8)).bind fun r765=>
k0 r765.1
theorem aoC (eP) (h69:(uF eP).holds cl):exec cl N OC [] K=(Sr eP (fun y0=>K .ret [(0,.loc ak .no y0)])):=by
 rw [←aM h69]
 kernel_rfl
theorem aiF (y0):ag d37 .ret [(0,.loc ak .no y0)]=some [.v ak y0]:=by kernel_rfl
def Jo (eP:V4→Option qZ) (k:ae→Option R):Option R:=
(Sr eP k)
theorem YA (eP) (h69:(uF eP).holds cl) (k:List E→Option R):exec cl N FQ [] (fun e env=>(ag d37 e env).bind k)=Jo eP (fun r0=>k [.v ak r0]):=by
 simp only [FQ,aoC eP h69,aiF,ar]
 rfl
def pg (S:Option gr):aO:={A:=Unit,B:=ae,f:=37,enc:=fun a=> [],dec:=cj,S:=fun a=>S,av:=fun b=> [.v ak b],ok:=(fun es b h=>iq h)}
def dC (N:Nat):Option gr:=Jo (eP N) (fun (r0:ae)=>some (r0))
def Je (k0:Bool→Option R) (x0:Int):Option R:=
ad (decide (x0≥(97:Int))) (k0 (decide (x0≤(122:Int)))) (k0 false)
theorem am0 (x0):exec cl N Ng [(0,.v U0 x0)] K=(Je (fun y0=>K .ret [(2,.v .bool y0)]) x0):=by
 kernel_rfl
theorem ah4 (y0):ag d149 .ret [(2,.v .bool y0)]=some [.v .bool y0]:=by kernel_rfl
def B6 (x0:Int) (k:Bool→Option R):Option R:=
(Je k x0)
theorem Ye (x0) (k:List E→Option R):exec cl N ES [(0,.v U0 x0)] (fun e env=>(ag d149 e env).bind k)=B6 x0 (fun r0=>k [.v .bool r0]):=by
 simp only [ES,am0,ah4,ar]
 rfl
def pe (S:Int→Option (Bool)):aO:=cI 149 U0 S fun b=> [.v .bool b]
def cK (N:Nat) (x0:Int):Option (Bool):=B6 x0 (fun (r0:Bool)=>some (r0))
def Jf (k0:Bool→Option R) (x0:Int):Option R:=
ad (decide (x0≥(48:Int))) (k0 (decide (x0≤(57:Int)))) (k0 false)
theorem am1 (x0):exec cl N Nh [(0,.v U0 x0)] K=(Jf (fun y0=>K .ret [(2,.v .bool y0)]) x0):=by
 kernel_rfl
theorem ah5 (y0):ag d150 .ret [(2,.v .bool y0)]=some [.v .bool y0]:=by kernel_rfl
def B7 (x0:Int) (k:Bool→Option R):Option R:=
(Jf k x0)
theorem Yg (x0) (k:List E→Option R):exec cl N EU [(0,.v U0 x0)] (fun e env=>(ag d150 e env).bind k)=B7 x0 (fun r0=>k [.v .bool r0]):=by
 simp only [EU,am1,ah5,ar]
 rfl
def rF (S:Int→Option (Bool)):aO:=cI 150 U0 S fun b=> [.v .bool b]
def dq (N:Nat) (x0:Int):Option (Bool):=B7 x0 (fun (r0:Bool)=>some (r0))
def B0 (cK:Int→Option (Bool)) (k0:Int→Option R) (k1:V4→Int→Option R) (x0:V4):Option R:=
ad (x0==([]:List UInt8)) (k0 (0:Int)) (if 0≤(0:Int)∧(0:Int) < (x0.length:Int) then
(cK ((x0.getD (0:Int).toNat 0).toNat:Int)).bind fun r799=>
ad (!r799) (k0 (0:Int)) (k1 x0 (1:Int))
else none)
theorem amP (cK) (h149:(pe cK).holds cl) (x0):exec cl N Ad [(0,.v .str x0)] K=(B0 cK (fun y0=>K .ret (jk y0)) (fun y0 y1=>exec cl N Ac (cX y0 y1) K) x0):=by
 rw [←aM h149]
 delta Ad
 generalize Ac=q
 revert q
 refine id ?_
 intro q
 kernel_rfl
theorem abu (x0 x1):aj [0,3] (cX x0 x1)=(cX x0 x1):=by kernel_rfl
def BX (cK:Int→Option (Bool)) (dq:Int→Option (Bool)) (k0:V4→Int→Option R) (k1:Int→Option R) (k2:V4→Int→Option R) (x0:V4) (x1:Int):Option R:=
ad (decide (x1 < (x0.length:Int))) (if 0≤x1∧x1 < (x0.length:Int) then
let v801:Int:=((x0.getD x1.toNat 0).toNat:Int)
(cK v801).bind fun r802=>
ad r802 (k0 x0 (IntKind.i64.wrap (x1+(1:Int)))) ((dq v801).bind fun r804=>
ad r804 (k0 x0 (IntKind.i64.wrap (x1+(1:Int)))) (ad (v801==(45:Int)) (ad (decide ((IntKind.i64.wrap (x1+(1:Int))) < (x0.length:Int))) (let v809:Int:=(IntKind.i64.wrap (x1+(1:Int)))
if 0≤v809∧v809 < (x0.length:Int) then
(cK ((x0.getD v809.toNat 0).toNat:Int)).bind fun r811=>
ad r811 (k0 x0 (IntKind.i64.wrap (x1+(2:Int)))) (let v813:Int:=(IntKind.i64.wrap (x1+(1:Int)))
if 0≤v813∧v813 < (x0.length:Int) then
(dq ((x0.getD v813.toNat 0).toNat:Int)).bind fun r815=>
ad r815 (k0 x0 (IntKind.i64.wrap (x1+(2:Int)))) (k1 x1)
else none)
else none) (k1 x1)) (k1 x1)))
else none) (k2 x0 x1)
theorem amM (cK) (dq) (h149:(pe cK).holds cl) (h150:(rF dq).holds cl) (x0 x1):exec cl N EI (cX x0 x1) K=(BX cK dq (fun y0 y1=>K .normal [(0,.v .str y0),(2,.dead),(3,.v U2 y1)]) (fun y0=>K .ret (rV y0)) (fun y0 y1=>K (.exit 0) (cX y0 y1)) x0 x1):=by
 rw [←aM h149]
 rw [←aM h150]
 kernel_rfl
theorem abv (x0 x1):aj [0,3] [(0,.v .str x0),(2,.dead),(3,.v U2 x1)]=(cX x0 x1):=by kernel_rfl
def yw {R:Type} (cK:Int→Option (Bool)) (dq:Int→Option (Bool)) (k0:Int→Option R) (k1:V4→Int→Option R):Nat→V4→Int→Option R
 | 0,_,_=>none
 | m+1,x0,x1=>(BX cK dq (yw cK dq k0 k1 m) k0 k1 x0 x1)
theorem aeD (cK) (dq) (h149:(pe cK).holds cl) (h150:(rF dq).holds cl):∀ (m) (x0 x1),iter [0,3] (fun env K=>exec cl N EI env K) K m (cX x0 x1)=yw cK dq (fun y0=>K .ret (rV y0)) (fun y0 y1=>K (.exit 0) (cX y0 y1)) m x0 x1:=by
 intro m
 induction m with
 | zero=>intros; rfl
 | succ m ih=>
   intro x0 x1
   simp only [b9,amM cK dq h149 h150,cb,ca,cc,abv,ih]
   rfl
theorem abw (x0):aj [2,3] (rV x0)=(kq x0):=by kernel_rfl
theorem abx (x0 x1):aj [2,3] (cX x0 x1)=(l8 x1):=by kernel_rfl
def BY (N:Nat) (cK:Int→Option (Bool)) (dq:Int→Option (Bool)) (k0:Int→Option R) (k1:Int→Option R) (x0:V4) (x1:Int):Option R:=
yw cK dq k0 (fun y0 y1=>k1 y1) N x0 x1
theorem amN (cK) (dq) (h149:(pe cK).holds cl) (h150:(rF dq).holds cl) (x0 x1):exec cl N EJ (cX x0 x1) K=(BY N cK dq (fun y0=>K .ret (kq y0)) (fun y0=>K (.exit 0) (l8 y0)) x0 x1):=by
 simp only [EJ,aV,b8,abu,aeD cK dq h149 h150,abw,abx]
 rfl
theorem aby (x0):aj [2,3] (kq x0)=(kq x0):=by kernel_rfl
theorem abz (x0):aj [2,3] (l8 x0)=(l8 x0):=by kernel_rfl
def BZ (k0:Int→Option R) (x0:Int):Option R:=
k0 x0
theorem amO (x0):exec cl N M4 (l8 x0) K=(BZ (fun y0=>K .ret [(2,.v U2 y0)]) x0):=by
 kernel_rfl
def B3 (N:Nat) (cK:Int→Option (Bool)) (dq:Int→Option (Bool)) (k0:Int→Option R) (k1:Int→Option R) (k2:Int→Option R) (x0:V4):Option R:=
(B0 cK k0 (BY N cK dq k1 ((BZ k2))) x0)
theorem amQ (cK) (dq) (h149:(pe cK).holds cl) (h150:(rF dq).holds cl) (x0):exec cl N Ad [(0,.v .str x0)] K=(B3 N cK dq (fun y0=>K .ret (jk y0)) (fun y0=>K .ret (kq y0)) (fun y0=>K .ret [(2,.v U2 y0)]) x0):=by
 simp only [bX,bZ,bY,b5,amP cK h149,Ac,M3,aV,cx,amN cK dq h149 h150,ct,cw,cq,aby,abz,amO]
 rfl
theorem ahW (y0):ag d141 .ret (jk y0)=some [.v U2 y0]:=by kernel_rfl
theorem ahX (y0):ag d141 .ret (kq y0)=some [.v U2 y0]:=by kernel_rfl
theorem ahY (y0):ag d141 .ret [(2,.v U2 y0)]=some [.v U2 y0]:=by kernel_rfl
def vU (N:Nat) (cK:Int→Option (Bool)) (dq:Int→Option (Bool)) (x0:V4) (k:Int→Option R):Option R:=
(B3 N cK dq k k k x0)
theorem X9 (cK) (dq) (h149:(pe cK).holds cl) (h150:(rF dq).holds cl) (x0) (k:List E→Option R):exec cl N EH [(0,.v .str x0)] (fun e env=>(ag d141 e env).bind k)=vU N cK dq x0 (fun r0=>k [.v U2 r0]):=by
 simp only [EH,amQ cK dq h149 h150,ahW,ahX,ahY,ar]
 rfl
def Hw (S:V4→Option (Int)):aO:=cI 141 .str S fun b=> [.v U2 b]
def hP (N:Nat) (x0:V4):Option (Int):=vU N (cK N) (dq N) x0 (fun (r0:Int)=>some (r0))
def I0 (hP:V4→Option (Int)) (k0:Bool→Option R) (x0:V4):Option R:=
ad (x0 != ([]:List UInt8)) (ad (decide ((x0.length:Int)≤(20:Int))) ((hP x0).bind fun r821=>
k0 (r821==(x0.length:Int))) (k0 false)) (k0 false)
theorem alX (hP) (h141:(Hw hP).holds cl) (x0):exec cl N Mv [(0,.v .str x0)] K=(I0 hP (fun y0=>K .ret [(2,.v .bool y0)]) x0):=by
 rw [←aM h141]
 kernel_rfl
theorem ahE (y0):ag d121 .ret [(2,.v .bool y0)]=some [.v .bool y0]:=by kernel_rfl
def BR (hP:V4→Option (Int)) (x0:V4) (k:Bool→Option R):Option R:=
(I0 hP k x0)
theorem XV (hP) (h141:(Hw hP).holds cl) (x0) (k:List E→Option R):exec cl N Eb [(0,.v .str x0)] (fun e env=>(ag d121 e env).bind k)=BR hP x0 (fun r0=>k [.v .bool r0]):=by
 simp only [Eb,alX hP h141,ahE,ar]
 rfl
def Br (S:V4→Option (Bool)):aO:=cI 121 .str S fun b=> [.v .bool b]
def fy (N:Nat) (x0:V4):Option (Bool):=BR (hP N) x0 (fun (r0:Bool)=>some (r0))
def xP (k0:V0→Option R) (x0:V4):Option R:=
k0 (x0.map fun b=>(b.toNat:Int))
theorem aqa (x0):exec cl N A1 [(0,.v .str x0)] K=(xP (fun y0=>exec cl N A0 (pB y0) K) x0):=by
 delta A1
 generalize A0=q
 revert q
 refine id ?_
 intro q
 kernel_rfl
def xL (k0:V0→Int→Int→Option R) (x0:V0):Option R:=
k0 x0 (x0.length:Int) (0:Int)
theorem ap6 (x0):exec cl N PL (pB x0) K=(xL (fun y0 y1 y2=>K .normal (l9 y0 y1 y2)) x0):=by
 kernel_rfl
theorem Uq (x0 x1 x2):aj [3,8,9,10] (l9 x0 x1 x2)=(l9 x0 x1 x2):=by kernel_rfl
def xM (k0:V0→Int→Int→Option R) (k1:V0→Int→Int→Option R) (x0:V0) (x1 x2:Int):Option R:=
ad (decide (x2 < x1)) (if 0≤x2∧x2 < (x0.length:Int) then
if x2.toNat < x0.length then
let v840:Int:=(x0.getD x2.toNat (0:Int))
ad (decide (v840≥(65:Int))) (ad (decide (v840≤(90:Int))) (if 0≤x2∧x2 < (x0.length:Int) then
if x2.toNat < x0.length then
k0 (x0.set x2.toNat (IntKind.u8.wrap ((IntKind.u8.wrap (v840 - (65:Int)))+(97:Int)))) x1 (IntKind.i64.wrap (x2+(1:Int)))
else none
else none) (k0 x0 x1 (IntKind.i64.wrap (x2+(1:Int))))) (k0 x0 x1 (IntKind.i64.wrap (x2+(1:Int))))
else none
else none) (k1 x0 x1 x2)
theorem ap7 (x0 x1 x2):exec cl N GJ (l9 x0 x1 x2) K=(xM (fun y0 y1 y2=>K .normal (l9 y0 y1 y2)) (fun y0 y1 y2=>K (.exit 0) (l9 y0 y1 y2)) x0 x1 x2):=by
 kernel_rfl
def tg {R:Type} (k0:V0→Int→Int→Option R):Nat→V0→Int→Int→Option R
 | 0,_,_,_=>none
 | m+1,x0,x1,x2=>(xM (tg k0 m) k0 x0 x1 x2)
theorem ae7:∀ (m) (x0 x1 x2),iter [3,8,9,10] (fun env K=>exec cl N GJ env K) K m (l9 x0 x1 x2)=tg (fun y0 y1 y2=>K (.exit 0) (l9 y0 y1 y2)) m x0 x1 x2:=by
 intro m
 induction m with
 | zero=>intros; rfl
 | succ m ih=>
   intro x0 x1 x2
   simp only [b9,ap7,cb,ca,cc,Uq,ih]
   rfl
theorem ac7 (x0 x1 x2):aj [3] (l9 x0 x1 x2)=(pB x0):=by kernel_rfl
def xN (N:Nat) (k0:V0→Option R) (x0:V0) (x1 x2:Int):Option R:=
tg (fun y0 y1 y2=>k0 y0) N x0 x1 x2
theorem ap8 (x0 x1 x2):exec cl N GK (l9 x0 x1 x2) K=(xN N (fun y0=>K (.exit 0) (pB y0)) x0 x1 x2):=by
 simp only [GK,aV,b8,Uq,ae7,ac7]
 rfl
theorem ac8 (x0):aj [3] (pB x0)=(pB x0):=by kernel_rfl
def xO (k0:V4→Option R) (x0:V0):Option R:=
k0 (x0.map fun n=>UInt8.ofNat n.toNat)
theorem ap9 (x0):exec cl N PO (pB x0) K=(xO (fun y0=>K .ret [(2,.v .str y0)]) x0):=by
 kernel_rfl
def xQ (N:Nat) (k0:V4→Option R) (x0:V4):Option R:=
(xP (xL (xN N ((xO k0)))) x0)
theorem aqb (x0):exec cl N A1 [(0,.v .str x0)] K=(xQ N (fun y0=>K .ret [(2,.v .str y0)]) x0):=by
 simp only [bX,bZ,bY,b5,aqa,A0,PN,ap6,PM,aV,cx,ap8,ct,cw,cq,ac8,ap9]
 rfl
theorem aji (y0):ag d72 .ret [(2,.v .str y0)]=some [.v .str y0]:=by kernel_rfl
def sL (N:Nat) (x0:V4) (k:V4→Option R):Option R:=
(xQ N k x0)
theorem YT (x0) (k:List E→Option R):exec cl N GI [(0,.v .str x0)] (fun e env=>(ag d72 e env).bind k)=sL N x0 (fun r0=>k [.v .str r0]):=by
 simp only [GI,aqb,aji,ar]
 rfl
def uH (S:V4→Option V6):aO:=cI 72 .str S fun b=> [.v .str b]
def eB (N:Nat) (x0:V4):Option V6:=sL N x0 (fun (r0:V4)=>some (r0))
def wm (k0:Int→Option R) (k1:V4→Option R) (x0:V4):Option R:=
ad (decide ((x0.length:Int) > (120:Int))) (k0 (3:Int)) (k1 x0)
theorem anh (x0):exec cl N Ah [(0,.v .str x0)] K=(wm (fun y0=>K .ret (jk y0)) (fun y0=>exec cl N Ag (BF y0) K) x0):=by
 delta Ah
 generalize Ag=q
 revert q
 refine id ?_
 intro q
 kernel_rfl
def wh (k0:V0→Int→Int→Option R) (x0:V4):Option R:=
k0 (x0.map fun b=>(b.toNat:Int)) ((x0.map fun b=>(b.toNat:Int)).length:Int) (0:Int)
theorem anc (x0):exec cl N Nr (BF x0) K=(wh (fun y0 y1 y2=>K .normal (ma y0 y1 y2)) x0):=by
 kernel_rfl
theorem T4 (x0 x1 x2):aj [9,10,11] (ma x0 x1 x2)=(ma x0 x1 x2):=by kernel_rfl
def wi (k0:Int→Option R) (k1:V0→Int→Int→Option R) (k2:V0→Int→Int→Option R) (x0:V0) (x1 x2:Int):Option R:=
ad (decide (x2 < x1)) (if 0≤x2∧x2 < (x0.length:Int) then
if x2.toNat < x0.length then
let v858:Int:=(x0.getD x2.toNat (0:Int))
ad (decide (v858 < (32:Int))) (k0 (2:Int)) (ad (decide (v858 > (126:Int))) (k0 (2:Int)) (k1 x0 x1 (IntKind.i64.wrap (x2+(1:Int)))))
else none
else none) (k2 x0 x1 x2)
theorem ane (x0 x1 x2):exec cl N E3 (ma x0 x1 x2) K=(wi (fun y0=>K .ret (Iy y0)) (fun y0 y1 y2=>K .normal (ma y0 y1 y2)) (fun y0 y1 y2=>K (.exit 0) (ma y0 y1 y2)) x0 x1 x2):=by
 kernel_rfl
def s3 {R:Type} (k0:Int→Option R) (k1:V0→Int→Int→Option R):Nat→V0→Int→Int→Option R
 | 0,_,_,_=>none
 | m+1,x0,x1,x2=>(wi k0 (s3 k0 k1 m) k1 x0 x1 x2)
theorem aeG:∀ (m) (x0 x1 x2),iter [9,10,11] (fun env K=>exec cl N E3 env K) K m (ma x0 x1 x2)=s3 (fun y0=>K .ret (Iy y0)) (fun y0 y1 y2=>K (.exit 0) (ma y0 y1 y2)) m x0 x1 x2:=by
 intro m
 induction m with
 | zero=>intros; rfl
 | succ m ih=>
   intro x0 x1 x2
   simp only [b9,ane,cb,ca,cc,T4,ih]
   rfl
theorem abG (x0):aj [2] (Iy x0)=[(2,.v U2 x0)]:=by kernel_rfl
theorem abH (x0 x1 x2):aj [2] (ma x0 x1 x2)=[(2,.dead)]:=by kernel_rfl
def wj (N:Nat) (k0:Int→Option R) (k1:Option R) (x0:V0) (x1 x2:Int):Option R:=
s3 k0 (fun y0 y1 y2=>k1) N x0 x1 x2
theorem anf (x0 x1 x2):exec cl N E4 (ma x0 x1 x2) K=(wj N (fun y0=>K .ret [(2,.v U2 y0)]) (K (.exit 0) [(2,.dead)]) x0 x1 x2):=by
 simp only [E4,aV,b8,T4,aeG,abG,abH]
 rfl
theorem abI (x0):aj [2] [(2,.v U2 x0)]=[(2,.v U2 x0)]:=by kernel_rfl
theorem abJ:aj [2] [(2,.dead)]=[(2,.dead)]:=by kernel_rfl
def wk (k0:Int→Option R):Option R:=
k0 (0:Int)
theorem ang:exec cl N Nu [(2,.dead)] K=(wk (fun y0=>K .ret [(2,.v U2 y0)])):=by
 kernel_rfl
def wo (N:Nat) (k0:Int→Option R) (k1:Int→Option R) (x0:V4):Option R:=
(wm k0 (wh (wj N k1 (wk k1))) x0)
theorem ani (x0):exec cl N Ah [(0,.v .str x0)] K=(wo N (fun y0=>K .ret (jk y0)) (fun y0=>K .ret [(2,.v U2 y0)]) x0):=by
 simp only [bX,bZ,bY,b5,anh,Ag,Nt,anc,Ns,aV,cx,anf,ct,cw,cq,abI,abJ,ang]
 rfl
theorem aid (y0):ag d158 .ret (jk y0)=some [.v U2 y0]:=by kernel_rfl
theorem aie (y0):ag d158 .ret [(2,.v U2 y0)]=some [.v U2 y0]:=by kernel_rfl
def sr (N:Nat) (x0:V4) (k:Int→Option R):Option R:=
(wo N k k x0)
theorem Ym (x0) (k:List E→Option R):exec cl N E2 [(0,.v .str x0)] (fun e env=>(ag d158 e env).bind k)=sr N x0 (fun r0=>k [.v U2 r0]):=by
 simp only [E2,ani,aid,aie,ar]
 rfl
def Bv (S:V4→Option (Int)):aO:=cI 158 .str S fun b=> [.v U2 b]
def fL (N:Nat) (x0:V4):Option (Int):=sr N x0 (fun (r0:Int)=>some (r0))
def RL (fB:V4→Int→Option (Int)) (k0:Int→Option R) (x0:V4) (x1:Int):Option R:=
(fB x0 x1).bind fun r869=>
k0 r869
theorem amn (fB) (h145:(ko fB).holds cl) (x0 x1):exec cl N MM [(0,.v .str x0),(1,.v U0 x1)] K=(RL fB (fun y0=>K .ret [(4,.v U2 y0)]) x0 x1):=by
 rw [←aM h145]
 kernel_rfl
theorem ahM (y0):ag d127 .ret [(4,.v U2 y0)]=some [.v U2 y0]:=by kernel_rfl
def I3 (fB:V4→Int→Option (Int)) (x0:V4) (x1:Int) (k:Int→Option R):Option R:=
(RL fB k x0 x1)
theorem X1 (fB) (h145:(ko fB).holds cl) (x0 x1) (k:List E→Option R):exec cl N Eo [(0,.v .str x0),(1,.v U0 x1)] (fun e env=>(ag d127 e env).bind k)=I3 fB x0 x1 (fun r0=>k [.v U2 r0]):=by
 simp only [Eo,amn fB h145,ahM,ar]
 rfl
def Hu (S:V4→Int→Option (Int)):aO:=er 127 .str U0 S fun b=> [.v U2 b]
def jh (N:Nat) (x0:V4) (x1:Int):Option (Int):=I3 (fB N) x0 x1 (fun (r0:Int)=>some (r0))
def S8 (jh:V4→Int→Option (Int)) (k0:Bool→Option R) (x0:Int):Option R:=
ad (decide (x0≥(32:Int))) (ad (decide (x0≤(126:Int))) ((jh ([32,46,44,59,58,33,63,34,45,91,93,60,62,123,125]:List UInt8) x0).bind fun r874=>
k0 (decide (r874 < (0:Int)))) (k0 false)) (k0 false)
theorem aqY (jh) (h127:(Hu jh).holds cl) (x0):exec cl N Qp [(0,.v U0 x0)] K=(S8 jh (fun y0=>K .ret [(2,.v .bool y0)]) x0):=by
 rw [←aM h127]
 kernel_rfl
theorem ajF (y0):ag d98 .ret [(2,.v .bool y0)]=some [.v .bool y0]:=by kernel_rfl
def JQ (jh:V4→Int→Option (Int)) (x0:Int) (k:Bool→Option R):Option R:=
(S8 jh k x0)
theorem Y4 (jh) (h127:(Hu jh).holds cl) (x0) (k:List E→Option R):exec cl N Hi [(0,.v U0 x0)] (fun e env=>(ag d98 e env).bind k)=JQ jh x0 (fun r0=>k [.v .bool r0]):=by
 simp only [Hi,aqY jh h127,ajF,ar]
 rfl
def nY (S:Int→Option (Bool)):aO:=cI 98 U0 S fun b=> [.v .bool b]
def b6 (N:Nat) (x0:Int):Option (Bool):=JQ (jh N) x0 (fun (r0:Bool)=>some (r0))
def we (fL:V4→Option (Int)) (k0:gq→Int→Option R) (k1:V4→gq→Option R) (x0:V4):Option R:=
(fL x0).bind fun r891=>
ad (r891 != (0:Int)) (k0 [] r891) (k1 x0 [])
theorem am6 (fL) (h158:(Bv fL).holds cl) (x0):exec cl N Af [(0,.v .str x0)] K=(we fL (fun y0 y1=>K .ret (Iz y0 y1)) (fun y0 y1=>exec cl N Ae [(0,.v .str y0),(5,.own true 179 eo .no y1)] K) x0):=by
 rw [←aM h158]
 delta Af
 generalize Ae=q
 revert q
 refine id ?_
 intro q
 kernel_rfl
def v8 (k0:gq→V0→Int→Int→Option R) (x0:V4) (x1:gq):Option R:=
k0 x1 (x0.map fun b=>(b.toNat:Int)) ((x0.map fun b=>(b.toNat:Int)).length:Int) (0:Int)
theorem am2 (x0 x1):exec cl N Ni [(0,.v .str x0),(5,.own true 179 eo .no x1)] K=(v8 (fun y0 y1 y2 y3=>K .normal (mb y0 y1 y2 y3)) x0 x1):=by
 kernel_rfl
theorem TZ (x0 x1 x2 x3):aj [5,15,16,17] (mb x0 x1 x2 x3)=(mb x0 x1 x2 x3):=by kernel_rfl
def wa (b6:Int→Option (Bool)) (k0:gq→V0→Int→Int→Option R) (k1:gq→V0→Int→Int→Option R) (x0:gq) (x1:V0) (x2 x3:Int):Option R:=
ad (decide (x3 < x2)) (if 0≤x3∧x3 < (x1.length:Int) then
if x3.toNat < x1.length then
(b6 (x1.getD x3.toNat (0:Int))).bind fun r895=>
ad (!r895) (k0 x0 x1 x2 (IntKind.i64.wrap (x3+(1:Int)))) (ad (decide ((x0.length:Int) > (0:Int))) (let v898:Int:=(IntKind.i64.wrap ((x0.length:Int) - (1:Int)))
if 0≤v898∧v898 < (x0.length:Int) then
if v898.toNat < x0.length then
ad (((x0.getD v898.toNat ((0:Int),((0:Int),()))).2.1)==x3) (let v900:Int:=(IntKind.i64.wrap ((x0.length:Int) - (1:Int)))
if 0≤v900∧v900 < (x0.length:Int) then
if v900.toNat < x0.length then
if 0≤v900∧v900 < (x0.length:Int) then
if v900.toNat < x0.length then
k0 (x0.set v900.toNat ((x0.getD v900.toNat ((0:Int),((0:Int),()))).1,((IntKind.i64.wrap (((x0.getD v900.toNat ((0:Int),((0:Int),()))).2.1)+(1:Int))),(x0.getD v900.toNat ((0:Int),((0:Int),()))).2.2))) x1 x2 (IntKind.i64.wrap (x3+(1:Int)))
else none
else none
else none
else none) (let v905:tV:=(x3,(IntKind.i64.wrap (x3+(1:Int))),())
if x0.length+[v905].length≤8796093022208 then
k0 (x0++[v905]) x1 x2 (IntKind.i64.wrap (x3+(1:Int)))
else none)
else none
else none) (let v908:tV:=(x3,(IntKind.i64.wrap (x3+(1:Int))),())
if x0.length+[v908].length≤8796093022208 then
k0 (x0++[v908]) x1 x2 (IntKind.i64.wrap (x3+(1:Int)))
else none))
else none
else none) (k1 x0 x1 x2 x3)
theorem am3 (b6) (h98:(nY b6).holds cl) (x0 x1 x2 x3):exec cl N EW (mb x0 x1 x2 x3) K=(wa b6 (fun y0 y1 y2 y3=>K .normal (mb y0 y1 y2 y3)) (fun y0 y1 y2 y3=>K (.exit 0) (mb y0 y1 y2 y3)) x0 x1 x2 x3):=by
 rw [←aM h98]
 kernel_rfl
def qo {R:Type} (b6:Int→Option (Bool)) (k0:gq→V0→Int→Int→Option R):Nat→gq→V0→Int→Int→Option R
 | 0,_,_,_,_=>none
 | m+1,x0,x1,x2,x3=>(wa b6 (qo b6 k0 m) k0 x0 x1 x2 x3)
theorem aeF (b6) (h98:(nY b6).holds cl):∀ (m) (x0 x1 x2 x3),iter [5,15,16,17] (fun env K=>exec cl N EW env K) K m (mb x0 x1 x2 x3)=qo b6 (fun y0 y1 y2 y3=>K (.exit 0) (mb y0 y1 y2 y3)) m x0 x1 x2 x3:=by
 intro m
 induction m with
 | zero=>intros; rfl
 | succ m ih=>
   intro x0 x1 x2 x3
   simp only [b9,am3 b6 h98,cb,ca,cc,TZ,ih]
   rfl
theorem abE (x0 x1 x2 x3):aj [5] (mb x0 x1 x2 x3)=(uU x0):=by kernel_rfl
def wb (N:Nat) (b6:Int→Option (Bool)) (k0:gq→Option R) (x0:gq) (x1:V0) (x2 x3:Int):Option R:=
qo b6 (fun y0 y1 y2 y3=>k0 y0) N x0 x1 x2 x3
theorem am4 (b6) (h98:(nY b6).holds cl) (x0 x1 x2 x3):exec cl N EX (mb x0 x1 x2 x3) K=(wb N b6 (fun y0=>K (.exit 0) (uU y0)) x0 x1 x2 x3):=by
 simp only [EX,aV,b8,TZ,aeF b6 h98,abE]
 rfl
theorem abF (x0):aj [5] (uU x0)=(uU x0):=by kernel_rfl
def wc (k0:Int→gq→Option R) (x0:gq):Option R:=
k0 (0:Int) x0
theorem am5 (x0):exec cl N Nl (uU x0) K=(wc (fun y0 y1=>K .ret (IA y0 y1)) x0):=by
 kernel_rfl
def wg (N:Nat) (b6:Int→Option (Bool)) (fL:V4→Option (Int)) (k0:gq→Int→Option R) (k1:Int→gq→Option R) (x0:V4):Option R:=
(we fL k0 (v8 (wb N b6 ((wc k1)))) x0)
theorem am7 (b6) (fL) (h98:(nY b6).holds cl) (h158:(Bv fL).holds cl) (x0):exec cl N Af [(0,.v .str x0)] K=(wg N b6 fL (fun y0 y1=>K .ret (Iz y0 y1)) (fun y0 y1=>K .ret (IA y0 y1)) x0):=by
 simp only [bX,bZ,bY,b5,am6 fL h158,Ae,Nk,am2,Nj,aV,cx,am4 b6 h98,ct,cw,cq,abF,am5]
 rfl
theorem ah6 (y0 y1):ag d151 .ret (Iz y0 y1)=some [.own true 179 eo .no y0,.v U2 y1]:=by kernel_rfl
theorem ah7 (y0 y1):ag d151 .ret (IA y0 y1)=some [.own true 179 eo .no y1,.v U2 y0]:=by kernel_rfl
def sq (N:Nat) (b6:Int→Option (Bool)) (fL:V4→Option (Int)) (x0:V4) (k:gq→Int→Option R):Option R:=
(wg N b6 fL k (fun y0 y1=>k y1 y0) x0)
theorem Yh (b6) (fL) (h98:(nY b6).holds cl) (h158:(Bv fL).holds cl) (x0) (k:List E→Option R):exec cl N EV [(0,.v .str x0)] (fun e env=>(ag d151 e env).bind k)=sq N b6 fL x0 (fun r0 r1=>k [.own true 179 eo .no r0,.v U2 r1]):=by
 simp only [EV,am7 b6 fL h98 h158,ah6,ah7,ar]
 rfl
def Hz (S:V4→Option zp):aO:=cI 151 .str S fun b=> [.own true 179 eo .no b.1,.v U2 b.2]
def iM (N:Nat) (x0:V4):Option zp:=sq N (b6 N) (fL N) x0 (fun (r0:gq) (r1:Int)=>some (r0,r1))
def Jb (eB:V4→Option V6) (iM:V4→Option zp) (k0:Int→Option R) (k1:Int→Option R) (x0:V4):Option R:=
ad (x0==([]:List UInt8)) (k0 (7:Int)) (ad (decide ((x0.length:Int) > (4:Int))) (k0 (3:Int)) ((eB x0).bind fun r919=>
ad (r919 != x0) (k0 (2:Int)) ((iM x0).bind fun r920=>
ad (r920.2 != (0:Int)) (k1 (2:Int)) (ad ((r920.1.length:Int) != (1:Int)) (k1 (2:Int)) (if 0≤(0:Int)∧(0:Int) < (r920.1.length:Int) then
if ((0:Int).toNat) < r920.1.length then
if 0≤(0:Int)∧(0:Int) < (r920.1.length:Int) then
if ((0:Int).toNat) < r920.1.length then
ad ((IntKind.i64.wrap (((r920.1.getD ((0:Int).toNat) ((0:Int),((0:Int),()))).2.1) - ((r920.1.getD ((0:Int).toNat) ((0:Int),((0:Int),()))).1))) != (x0.length:Int)) (k1 (2:Int)) (k1 (0:Int))
else none
else none
else none
else none)))))
theorem amR (eB) (iM) (h72:(uH eB).holds cl) (h151:(Hz iM).holds cl) (x0):exec cl N M5 [(0,.v .str x0)] K=(Jb eB iM (fun y0=>K .ret (jk y0)) (fun y0=>K .ret [(2,.v U2 y0)]) x0):=by
 rw [←aM h72]
 rw [←aM h151]
 kernel_rfl
theorem ahZ (y0):ag d142 .ret (jk y0)=some [.v U2 y0]:=by kernel_rfl
theorem ah0 (y0):ag d142 .ret [(2,.v U2 y0)]=some [.v U2 y0]:=by kernel_rfl
def B4 (eB:V4→Option V6) (iM:V4→Option zp) (x0:V4) (k:Int→Option R):Option R:=
(Jb eB iM k k x0)
theorem Ya (eB) (iM) (h72:(uH eB).holds cl) (h151:(Hz iM).holds cl) (x0) (k:List E→Option R):exec cl N EK [(0,.v .str x0)] (fun e env=>(ag d142 e env).bind k)=B4 eB iM x0 (fun r0=>k [.v U2 r0]):=by
 simp only [EK,amR eB iM h72 h151,ahZ,ah0,ar]
 rfl
def Bu (S:V4→Option (Int)):aO:=cI 142 .str S fun b=> [.v U2 b]
def fK (N:Nat) (x0:V4):Option (Int):=B4 (eB N) (iM N) x0 (fun (r0:Int)=>some (r0))
def Jg (k0:Bool→Option R) (k1:Bool→Option R) (x0:aR):Option R:=
ad (x0.1==(1:Int)) (ad (decide (x0.2.1≥(1:Int))) (k0 (decide (x0.2.1≤(3:Int)))) (k0 false)) (ad (x0.1==(2:Int)) (k0 (x0.2.1==(2:Int))) (k1 (x0.2.1==(0:Int))))
theorem am8 (x0):exec cl N Nn [(0,.v aB x0)] K=(Jg (fun y0=>K .ret [(1,.dead),(2,.v .bool y0)]) (fun y0=>K .ret [(2,.v .bool y0)]) x0):=by
 kernel_rfl
theorem ah8 (y0):ag d152 .ret [(1,.dead),(2,.v .bool y0)]=some [.v .bool y0]:=by kernel_rfl
theorem ah9 (y0):ag d152 .ret [(2,.v .bool y0)]=some [.v .bool y0]:=by kernel_rfl
def B8 (x0:aR) (k:Bool→Option R):Option R:=
(Jg k k x0)
theorem Yi (x0) (k:List E→Option R):exec cl N EY [(0,.v aB x0)] (fun e env=>(ag d152 e env).bind k)=B8 x0 (fun r0=>k [.v .bool r0]):=by
 simp only [EY,am8,ah8,ah9,ar]
 rfl
def HA (S:aR→Option (Bool)):aO:=cI 152 aB S fun b=> [.v .bool b]
def hQ (N:Nat) (x0:aR):Option (Bool):=B8 x0 (fun (r0:Bool)=>some (r0))
def Jj (k0:Bool→Option R) (x0:Int):Option R:=
ad (decide (x0≥(97:Int))) (ad (decide (x0≤(122:Int))) (k0 true) (ad (decide (x0≥(48:Int))) (ad (decide (x0≤(57:Int))) (k0 true) (ad (x0==(95:Int)) (k0 true) (ad (x0==(94:Int)) (k0 true) (k0 (x0==(39:Int)))))) (ad (x0==(95:Int)) (k0 true) (ad (x0==(94:Int)) (k0 true) (k0 (x0==(39:Int))))))) (ad (decide (x0≥(48:Int))) (ad (decide (x0≤(57:Int))) (k0 true) (ad (x0==(95:Int)) (k0 true) (ad (x0==(94:Int)) (k0 true) (k0 (x0==(39:Int)))))) (ad (x0==(95:Int)) (k0 true) (ad (x0==(94:Int)) (k0 true) (k0 (x0==(39:Int))))))
theorem anb (x0):exec cl N Nq [(0,.v U3 x0)] K=(Jj (fun y0=>K .ret [(2,.v .bool y0)]) x0):=by
 kernel_rfl
theorem aic (y0):ag d155 .ret [(2,.v .bool y0)]=some [.v .bool y0]:=by kernel_rfl
def Cb (x0:Int) (k:Bool→Option R):Option R:=
(Jj k x0)
theorem Yl (x0) (k:List E→Option R):exec cl N E1 [(0,.v U3 x0)] (fun e env=>(ag d155 e env).bind k)=Cb x0 (fun r0=>k [.v .bool r0]):=by
 simp only [E1,anb,aic,ar]
 rfl
def HD (S:Int→Option (Bool)):aO:=cI 155 U3 S fun b=> [.v .bool b]
def hY (N:Nat) (x0:Int):Option (Bool):=Cb x0 (fun (r0:Bool)=>some (r0))
def Ji (hY:Int→Option (Bool)) (k0:Bool→Option R) (x0:Int):Option R:=
(hY x0).bind fun r986=>
k0 (!r986)
theorem ana (hY) (h155:(HD hY).holds cl) (x0):exec cl N Np [(0,.v U3 x0)] K=(Ji hY (fun y0=>K .ret [(2,.v .bool y0)]) x0):=by
 rw [←aM h155]
 kernel_rfl
theorem aib (y0):ag d154 .ret [(2,.v .bool y0)]=some [.v .bool y0]:=by kernel_rfl
def Ca (hY:Int→Option (Bool)) (x0:Int) (k:Bool→Option R):Option R:=
(Ji hY k x0)
theorem Yk (hY) (h155:(HD hY).holds cl) (x0) (k:List E→Option R):exec cl N E0 [(0,.v U3 x0)] (fun e env=>(ag d154 e env).bind k)=Ca hY x0 (fun r0=>k [.v .bool r0]):=by
 simp only [E0,ana hY h155,aib,ar]
 rfl
def HC (S:Int→Option (Bool)):aO:=cI 154 U3 S fun b=> [.v .bool b]
def hX (N:Nat) (x0:Int):Option (Bool):=Ca (hY N) x0 (fun (r0:Bool)=>some (r0))
def wB (k0:V4→bU→Bool→Option R) (x0:V4) (x1:bU) (x2:Bool):Option R:=
k0 x0 x1 x2
theorem anq (x0 x1 x2):exec cl N NA (uV x0 x1 x2) K=(wB (fun y0 y1 y2=>K .normal (uV y0 y1 y2)) x0 x1 x2):=by
 kernel_rfl
def wC (k0:bU→Bool→V4→Nat→Option R) (x0:V4) (x1:bU) (x2:Bool):Option R:=
k0 x1 x2 x0 (0:Nat)
theorem anr (x0 x1 x2):exec cl N NB (uV x0 x1 x2) K=(wC (fun y0 y1 y2 y3=>K .normal (pC y0 y1 y2 y3)) x0 x1 x2):=by
 kernel_rfl
theorem abO (x0 x1 x2 x3):aj [1,2,10] (pC x0 x1 x2 x3)=(pC x0 x1 x2 x3):=by kernel_rfl
def wD (k0:Int→Option R) (k1:bU→Bool→V4→Nat→Option R) (k2:bU→Bool→V4→Nat→Bool→Option R) (x0:bU) (x1:Bool) (x2:V4) (x3:Nat):Option R:=
ad (decide (x3 < x2.length)) ((x0 ((((Utf8.decode ⟨⟨x2⟩⟩ x3).1:Nat):Int),())).bind fun r992=>
ad (r992==x1) (k0 ((x3:Nat):Int)) (k1 x0 x1 x2 (x3+(Utf8.decode ⟨⟨x2⟩⟩ x3).2))) (k2 x0 x1 x2 x3 false)
theorem ans (x0 x1 x2 x3):exec cl N Fa (pC x0 x1 x2 x3) K=(wD (fun y0=>K .ret (IB y0)) (fun y0 y1 y2 y3=>K .normal [(1,.v mR y0),(2,.v .bool y1),(6,.dead),(10,.it y2 y3)]) (fun y0 y1 y2 y3 y4=>K (.exit 0) (IC y0 y1 y2 y3 y4)) x0 x1 x2 x3):=by
 kernel_rfl
theorem abP (x0 x1 x2 x3):aj [1,2,10] [(1,.v mR x0),(2,.v .bool x1),(6,.dead),(10,.it x2 x3)]=(pC x0 x1 x2 x3):=by kernel_rfl
def s5 {R:Type} (k0:Int→Option R) (k1:bU→Bool→V4→Nat→Bool→Option R):Nat→bU→Bool→V4→Nat→Option R
 | 0,_,_,_,_=>none
 | m+1,x0,x1,x2,x3=>(wD k0 (s5 k0 k1 m) k1 x0 x1 x2 x3)
theorem aeI:∀ (m) (x0 x1 x2 x3),iter [1,2,10] (fun env K=>exec cl N Fa env K) K m (pC x0 x1 x2 x3)=s5 (fun y0=>K .ret (IB y0)) (fun y0 y1 y2 y3 y4=>K (.exit 0) (IC y0 y1 y2 y3 y4)) m x0 x1 x2 x3:=by
 intro m
 induction m with
 | zero=>intros; rfl
 | succ m ih=>
   intro x0 x1 x2 x3
   simp only [b9,ans,cb,ca,cc,abP,ih]
   rfl
theorem abQ (x0):aj [6] (IB x0)=[(6,.v U2 x0)]:=by kernel_rfl
theorem abR (x0 x1 x2 x3 x4):aj [6] (IC x0 x1 x2 x3 x4)=[(6,.dead)]:=by kernel_rfl
def wF (N:Nat) (k0:Int→Option R) (k1:Option R) (x0:bU) (x1:Bool) (x2:V4) (x3:Nat):Option R:=
s5 k0 (fun y0 y1 y2 y3 y4=>k1) N x0 x1 x2 x3
theorem ant (x0 x1 x2 x3):exec cl N Fb (pC x0 x1 x2 x3) K=(wF N (fun y0=>K .ret [(6,.v U2 y0)]) (K (.exit 0) [(6,.dead)]) x0 x1 x2 x3):=by
 simp only [Fb,aV,b8,abO,aeI,abQ,abR]
 rfl
theorem abS (x0):aj [6] [(6,.v U2 x0)]=[(6,.v U2 x0)]:=by kernel_rfl
theorem abT:aj [6] [(6,.dead)]=[(6,.dead)]:=by kernel_rfl
def wG (k0:Int→Option R):Option R:=
k0 (-1:Int)
theorem anu:exec cl N NF [(6,.dead)] K=(wG (fun y0=>K .ret [(6,.v U2 y0)])):=by
 kernel_rfl
def wH (N:Nat) (k0:Int→Option R) (x0:V4) (x1:bU) (x2:Bool):Option R:=
(wB (wC (wF N k0 (wG k0))) x0 x1 x2)
theorem anv (x0 x1 x2):exec cl N Fc (uV x0 x1 x2) K=(wH N (fun y0=>K .ret [(6,.v U2 y0)]) x0 x1 x2):=by
 simp only [Fc,bX,bZ,bY,b5,anq,NG,ND,anr,NC,aV,cx,ant,ct,cw,cq,abS,abT,anu]
 rfl
theorem aij (y0):ag d160 .ret [(6,.v U2 y0)]=some [.v U2 y0]:=by kernel_rfl
def ss (N:Nat) (x0:V4) (x1:bU) (x2:Bool) (k:Int→Option R):Option R:=
(wH N k x0 x1 x2)
theorem Yp (x0 x1 x2) (k:List E→Option R):exec cl N E9 (uV x0 x1 x2) (fun e env=>(ag d160 e env).bind k)=ss N x0 x1 x2 (fun r0=>k [.v U2 r0]):=by
 simp only [E9,anv,aij,ar]
 rfl
def HF (S:V4→bU→Bool→Option (Int)):aO:=QK 160 .str mR .bool S fun b=> [.v U2 b]
def ia (N:Nat) (x0:V4) (x1:bU) (x2:Bool):Option (Int):=ss N x0 x1 x2 (fun (r0:Int)=>some (r0))
def Jk (ia:V4→bU→Bool→Option (Int)) (k0:Int→Option R) (x0:V4) (x1:bU):Option R:=
(ia x0 x1 true).bind fun r994=>
k0 r994
theorem anj (ia) (h160:(HF ia).holds cl) (x0 x1):exec cl N Nv (BJ x0 x1) K=(Jk ia (fun y0=>K .ret [(4,.v U2 y0)]) x0 x1):=by
 rw [←aM h160]
 kernel_rfl
theorem aif (y0):ag d159 .ret [(4,.v U2 y0)]=some [.v U2 y0]:=by kernel_rfl
def Cc (ia:V4→bU→Bool→Option (Int)) (x0:V4) (x1:bU) (k:Int→Option R):Option R:=
(Jk ia k x0 x1)
theorem Yn (ia) (h160:(HF ia).holds cl) (x0 x1) (k:List E→Option R):exec cl N E5 (BJ x0 x1) (fun e env=>(ag d159 e env).bind k)=Cc ia x0 x1 (fun r0=>k [.v U2 r0]):=by
 simp only [E5,anj ia h160,aif,ar]
 rfl
def HE (S:V4→bU→Option (Int)):aO:=er 159 .str mR S fun b=> [.v U2 b]
def hZ (N:Nat) (x0:V4) (x1:bU):Option (Int):=Cc (ia N) x0 x1 (fun (r0:Int)=>some (r0))
def Jh (hZ:V4→bU→Option (Int)) (k0:Bool→Option R) (x0:V4) (x1:bU):Option R:=
(hZ x0 x1).bind fun r997=>
k0 (decide (r997≥(0:Int)))
theorem am9 (hZ) (h159:(HE hZ).holds cl) (x0 x1):exec cl N No (BJ x0 x1) K=(Jh hZ (fun y0=>K .ret [(4,.v .bool y0)]) x0 x1):=by
 rw [←aM h159]
 kernel_rfl
theorem aia (y0):ag d153 .ret [(4,.v .bool y0)]=some [.v .bool y0]:=by kernel_rfl
def B9 (hZ:V4→bU→Option (Int)) (x0:V4) (x1:bU) (k:Bool→Option R):Option R:=
(Jh hZ k x0 x1)
theorem Yj (hZ) (h159:(HE hZ).holds cl) (x0 x1) (k:List E→Option R):exec cl N EZ (BJ x0 x1) (fun e env=>(ag d153 e env).bind k)=B9 hZ x0 x1 (fun r0=>k [.v .bool r0]):=by
 simp only [EZ,am9 hZ h159,aia,ar]
 rfl
def HB (S:V4→bU→Option (Bool)):aO:=er 153 .str mR S fun b=> [.v .bool b]
def hR (N:Nat) (x0:V4) (x1:bU):Option (Bool):=B9 (hZ N) x0 x1 (fun (r0:Bool)=>some (r0))
def Jc (hQ:aR→Option (Bool)) (hR:V4→bU→Option (Bool)) (hX:Int→Option (Bool)) (k0:Int→Option R) (x0:aR):Option R:=
ad (decide (x0.1 < (1:Int))) (k0 (1:Int)) (ad (decide (x0.1 > (9:Int))) (k0 (1:Int)) ((hQ x0).bind fun r1002=>
ad (!r1002) (k0 (6:Int)) (ad (x0.2.2.1==([]:List UInt8)) (k0 (7:Int)) (ad (decide ((x0.2.2.1.length:Int) > (8:Int))) (k0 (3:Int)) ((hR x0.2.2.1 (fun (x1005:V3)=>((hX x1005.1).bind fun b1006=>some [.v .bool b1006]).bind (jZ .bool))).bind fun r1007=>
ad r1007 (k0 (2:Int)) (k0 (0:Int)))))))
theorem amS (hQ) (hR) (hX) (h152:(HA hQ).holds cl) (h153:(HB hR).holds cl) (h154:(HC hX).holds cl) (x0):exec cl N M6 [(0,.v aB x0)] K=(Jc hQ hR hX (fun y0=>K .ret [(2,.v U2 y0)]) x0):=by
 rw [←aM h152]
 rw [←aM h153]
 rw [←aM h154]
 kernel_rfl
theorem ah1 (y0):ag d143 .ret [(2,.v U2 y0)]=some [.v U2 y0]:=by kernel_rfl
def B5 (hQ:aR→Option (Bool)) (hR:V4→bU→Option (Bool)) (hX:Int→Option (Bool)) (x0:aR) (k:Int→Option R):Option R:=
(Jc hQ hR hX k x0)
theorem Yb (hQ) (hR) (hX) (h152:(HA hQ).holds cl) (h153:(HB hR).holds cl) (h154:(HC hX).holds cl) (x0) (k:List E→Option R):exec cl N EL [(0,.v aB x0)] (fun e env=>(ag d143 e env).bind k)=B5 hQ hR hX x0 (fun r0=>k [.v U2 r0]):=by
 simp only [EL,amS hQ hR hX h152 h153 h154,ah1,ar]
 rfl
def rE (S:aR→Option (Int)):aO:=cI 143 aB S fun b=> [.v U2 b]
def dx (N:Nat) (x0:aR):Option (Int):=B5 (hQ N) (hR N) (hX N) x0 (fun (r0:Int)=>some (r0))
def vG (fK:V4→Option (Int)) (k0:Int→Option R) (k1:aT→Option R) (x0:aT):Option R:=
(fK x0.1).bind fun r1015=>
ad (r1015 != (0:Int)) (k0 r1015) (ad ((x0.2.1.length:Int)==(0:Int)) (k0 (7:Int)) (ad (decide ((x0.2.1.length:Int) > (2:Int))) (k0 (3:Int)) (k1 x0)))
theorem al7 (fK) (h142:(Bu fK).holds cl) (x0):exec cl N zV [(0,.v aD x0)] K=(vG fK (fun y0=>K .ret (e7 y0)) (fun y0=>exec cl N zU (jl y0) K) x0):=by
 rw [←aM h142]
 delta zV
 generalize zU=q
 revert q
 refine id ?_
 intro q
 kernel_rfl
def vC (k0:aT→aA→Int→Int→Option R) (x0:aT):Option R:=
k0 x0 x0.2.1 (x0.2.1.length:Int) (0:Int)
theorem alY (x0):exec cl N Mw (jl x0) K=(vC (fun y0 y1 y2 y3=>K .normal (mc y0 y1 y2 y3)) x0):=by
 kernel_rfl
theorem TR (x0 x1 x2 x3):aj [1,22,23,24] (mc x0 x1 x2 x3)=(mc x0 x1 x2 x3):=by kernel_rfl
def vD (dx:aR→Option (Int)) (k0:Int→Option R) (k1:aT→aA→Int→Int→Option R) (k2:aT→aA→Int→Int→Option R) (x0:aT) (x1:aA) (x2 x3:Int):Option R:=
ad (decide (x3 < x2)) (if 0≤x3∧x3 < (x1.length:Int) then
(dx (x1.getD x3.toNat ((0:Int),((0:Int),([],()))))).bind fun r1020=>
ad (r1020 != (0:Int)) (k0 r1020) (k1 x0 x1 x2 (IntKind.i64.wrap (x3+(1:Int))))
else none) (k2 x0 x1 x2 x3)
theorem alZ (dx) (h143:(rE dx).holds cl) (x0 x1 x2 x3):exec cl N Ed (mc x0 x1 x2 x3) K=(vD dx (fun y0=>K .ret (ID y0)) (fun y0 y1 y2 y3=>K .normal (mc y0 y1 y2 y3)) (fun y0 y1 y2 y3=>K (.exit 0) (mc y0 y1 y2 y3)) x0 x1 x2 x3):=by
 rw [←aM h143]
 kernel_rfl
def sY {R:Type} (dx:aR→Option (Int)) (k0:Int→Option R) (k1:aT→aA→Int→Int→Option R):Nat→aT→aA→Int→Int→Option R
 | 0,_,_,_,_=>none
 | m+1,x0,x1,x2,x3=>(vD dx k0 (sY dx k0 k1 m) k1 x0 x1 x2 x3)
theorem aew (dx) (h143:(rE dx).holds cl):∀ (m) (x0 x1 x2 x3),iter [1,22,23,24] (fun env K=>exec cl N Ed env K) K m (mc x0 x1 x2 x3)=sY dx (fun y0=>K .ret (ID y0)) (fun y0 y1 y2 y3=>K (.exit 0) (mc y0 y1 y2 y3)) m x0 x1 x2 x3:=by
 intro m
 induction m with
 | zero=>intros; rfl
 | succ m ih=>
   intro x0 x1 x2 x3
   simp only [b9,alZ dx h143,cb,ca,cc,TR,ih]
   rfl
theorem abb (x0):aj [1,2] (ID x0)=(e7 x0):=by kernel_rfl
theorem abc (x0 x1 x2 x3):aj [1,2] (mc x0 x1 x2 x3)=(jl x0):=by kernel_rfl
def vE (N:Nat) (dx:aR→Option (Int)) (k0:Int→Option R) (k1:aT→Option R) (x0:aT) (x1:aA) (x2 x3:Int):Option R:=
sY dx k0 (fun y0 y1 y2 y3=>k1 y0) N x0 x1 x2 x3
theorem al0 (dx) (h143:(rE dx).holds cl) (x0 x1 x2 x3):exec cl N Ee (mc x0 x1 x2 x3) K=(vE N dx (fun y0=>K .ret (e7 y0)) (fun y0=>K (.exit 0) (jl y0)) x0 x1 x2 x3):=by
 simp only [Ee,aV,b8,TR,aew dx h143,abb,abc]
 rfl
theorem abd (x0):aj [1,2] (e7 x0)=(e7 x0):=by kernel_rfl
theorem abe (x0):aj [1,2] (jl x0)=(jl x0):=by kernel_rfl
def vF (k0:Int→Option R) (x0:aT):Option R:=
ad (decide (x0.2.2.1 < (0:Int))) (k0 (6:Int)) (ad (decide (x0.2.2.1 > (99:Int))) (k0 (6:Int)) (ad (decide (x0.2.2.2.1 < (0:Int))) (k0 (6:Int)) (ad (decide (x0.2.2.2.1 > (4:Int))) (k0 (6:Int)) (k0 (0:Int)))))
theorem al6 (x0):exec cl N Mz (jl x0) K=(vF (fun y0=>K .ret [(2,.v U2 y0)]) x0):=by
 kernel_rfl
def vH (N:Nat) (fK:V4→Option (Int)) (dx:aR→Option (Int)) (k0:Int→Option R) (k1:Int→Option R) (x0:aT):Option R:=
(vG fK k0 (vC (vE N dx k0 ((vF k1)))) x0)
theorem al8 (fK) (dx) (h142:(Bu fK).holds cl) (h143:(rE dx).holds cl) (x0):exec cl N zV [(0,.v aD x0)] K=(vH N fK dx (fun y0=>K .ret (e7 y0)) (fun y0=>K .ret [(2,.v U2 y0)]) x0):=by
 simp only [bX,bZ,bY,b5,al7 fK h142,zU,My,alY,Mx,aV,cx,al0 dx h143,ct,cw,cq,abd,abe,al6]
 rfl
theorem ahF (y0):ag d122 .ret (e7 y0)=some [.v U2 y0]:=by kernel_rfl
theorem ahG (y0):ag d122 .ret [(2,.v U2 y0)]=some [.v U2 y0]:=by kernel_rfl
def si (N:Nat) (fK:V4→Option (Int)) (dx:aR→Option (Int)) (x0:aT) (k:Int→Option R):Option R:=
(vH N fK dx k k x0)
theorem XW (fK) (dx) (h142:(Bu fK).holds cl) (h143:(rE dx).holds cl) (x0) (k:List E→Option R):exec cl N Ec [(0,.v aD x0)] (fun e env=>(ag d122 e env).bind k)=si N fK dx x0 (fun r0=>k [.v U2 r0]):=by
 simp only [Ec,al8 fK dx h142 h143,ahF,ahG,ar]
 rfl
def rA (S:aT→Option (Int)):aO:=cI 122 aD S fun b=> [.v U2 b]
def dn (N:Nat) (x0:aT):Option (Int):=si N (fK N) (dx N) x0 (fun (r0:Int)=>some (r0))
def vM (k0:Bool→Option R) (k1:aA→aA→Option R) (x0 x1:aA):Option R:=
ad ((x0.length:Int) != (x1.length:Int)) (k0 false) (k1 x0 x1)
theorem amf (x0 x1):exec cl N zX (rX x0 x1) K=(vM (fun y0=>K .ret (iS y0)) (fun y0 y1=>exec cl N zW (BG y0 y1) K) x0 x1):=by
 delta zX
 generalize zW=q
 revert q
 refine id ?_
 intro q
 kernel_rfl
def vI (k0:aA→aA→Int→Int→Option R) (x0 x1:aA):Option R:=
k0 x0 x1 (x0.length:Int) (0:Int)
theorem amb (x0 x1):exec cl N MC (BG x0 x1) K=(vI (fun y0 y1 y2 y3=>K .normal (me y0 y1 y2 y3)) x0 x1):=by
 kernel_rfl
theorem TS (x0 x1 x2 x3):aj [0,1,12,13] (me x0 x1 x2 x3)=(me x0 x1 x2 x3):=by kernel_rfl
def vJ (k0:Bool→Option R) (k1:aA→aA→Int→Int→Option R) (k2:aA→aA→Int→Int→Option R) (x0 x1:aA) (x2 x3:Int):Option R:=
ad (decide (x3 < x2)) (if 0≤x3∧x3 < (x0.length:Int) then
if 0≤x3∧x3 < (x1.length:Int) then
ad (!(((x0.getD x3.toNat ((0:Int),((0:Int),([],())))).1==(x1.getD x3.toNat ((0:Int),((0:Int),([],())))).1)&&(((x0.getD x3.toNat ((0:Int),((0:Int),([],())))).2.1==(x1.getD x3.toNat ((0:Int),((0:Int),([],())))).2.1)&&(((x0.getD x3.toNat ((0:Int),((0:Int),([],())))).2.2.1==(x1.getD x3.toNat ((0:Int),((0:Int),([],())))).2.2.1)&&true)))) (k0 false) (k1 x0 x1 x2 (IntKind.i64.wrap (x3+(1:Int))))
else none
else none) (k2 x0 x1 x2 x3)
theorem amc (x0 x1 x2 x3):exec cl N Ei (me x0 x1 x2 x3) K=(vJ (fun y0=>K .ret (rZ y0)) (fun y0 y1 y2 y3=>K .normal (me y0 y1 y2 y3)) (fun y0 y1 y2 y3=>K (.exit 0) (me y0 y1 y2 y3)) x0 x1 x2 x3):=by
 kernel_rfl
def sZ {R:Type} (k0:Bool→Option R) (k1:aA→aA→Int→Int→Option R):Nat→aA→aA→Int→Int→Option R
 | 0,_,_,_,_=>none
 | m+1,x0,x1,x2,x3=>(vJ k0 (sZ k0 k1 m) k1 x0 x1 x2 x3)
theorem aex:∀ (m) (x0 x1 x2 x3),iter [0,1,12,13] (fun env K=>exec cl N Ei env K) K m (me x0 x1 x2 x3)=sZ (fun y0=>K .ret (rZ y0)) (fun y0 y1 y2 y3=>K (.exit 0) (me y0 y1 y2 y3)) m x0 x1 x2 x3:=by
 intro m
 induction m with
 | zero=>intros; rfl
 | succ m ih=>
   intro x0 x1 x2 x3
   simp only [b9,amc,cb,ca,cc,TS,ih]
   rfl
theorem abf (x0):aj [4] (rZ x0)=[(4,.v .bool x0)]:=by kernel_rfl
theorem abg (x0 x1 x2 x3):aj [4] (me x0 x1 x2 x3)=[(4,.dead)]:=by kernel_rfl
def vK (N:Nat) (k0:Bool→Option R) (k1:Option R) (x0 x1:aA) (x2 x3:Int):Option R:=
sZ k0 (fun y0 y1 y2 y3=>k1) N x0 x1 x2 x3
theorem amd (x0 x1 x2 x3):exec cl N Ej (me x0 x1 x2 x3) K=(vK N (fun y0=>K .ret [(4,.v .bool y0)]) (K (.exit 0) [(4,.dead)]) x0 x1 x2 x3):=by
 simp only [Ej,aV,b8,TS,aex,abf,abg]
 rfl
theorem abh (x0):aj [4] [(4,.v .bool x0)]=[(4,.v .bool x0)]:=by kernel_rfl
theorem abi:aj [4] [(4,.dead)]=[(4,.dead)]:=by kernel_rfl
def vL (k0:Bool→Option R):Option R:=
k0 true
theorem ame:exec cl N MF [(4,.dead)] K=(vL (fun y0=>K .ret [(4,.v .bool y0)])):=by
 kernel_rfl
def vN (N:Nat) (k0:Bool→Option R) (k1:Bool→Option R) (x0 x1:aA):Option R:=
(vM k0 (vI (vK N k1 (vL k1))) x0 x1)
theorem amg (x0 x1):exec cl N zX (rX x0 x1) K=(vN N (fun y0=>K .ret (iS y0)) (fun y0=>K .ret [(4,.v .bool y0)]) x0 x1):=by
 simp only [bX,bZ,bY,b5,amf,zW,ME,amb,MD,aV,cx,amd,ct,cw,cq,abh,abi,ame]
 rfl
theorem ahJ (y0):ag d125 .ret (iS y0)=some [.v .bool y0]:=by kernel_rfl
theorem ahK (y0):ag d125 .ret [(4,.v .bool y0)]=some [.v .bool y0]:=by kernel_rfl
def sj (N:Nat) (x0 x1:aA) (k:Bool→Option R):Option R:=
(vN N k k x0 x1)
theorem XZ (x0 x1) (k:List E→Option R):exec cl N Eh (rX x0 x1) (fun e env=>(ag d125 e env).bind k)=sj N x0 x1 (fun r0=>k [.v .bool r0]):=by
 simp only [Eh,amg,ahJ,ahK,ar]
 rfl
def Hs (S:aA→aA→Option (Bool)):aO:=er 125 bB bB S fun b=> [.v .bool b]
def gZ (N:Nat) (x0:aA) (x1:aA):Option (Bool):=sj N x0 x1 (fun (r0:Bool)=>some (r0))
def I2 (gZ:aA→aA→Option (Bool)) (k0:Bool→Option R) (x0 x1:aT):Option R:=
ad (x0.1==x1.1) (ad (x0.2.2.2.1==x1.2.2.2.1) ((gZ x0.2.1 x1.2.1).bind fun r1043=>
k0 r1043) (k0 false)) (k0 false)
theorem ama (gZ) (h125:(Hs gZ).holds cl) (x0 x1):exec cl N MB [(0,.v aD x0),(1,.at aD x1)] K=(I2 gZ (fun y0=>K .ret [(3,.v .bool y0)]) x0 x1):=by
 rw [←aM h125]
 kernel_rfl
theorem ahI (y0):ag d124 .ret [(3,.v .bool y0)]=some [.v .bool y0]:=by kernel_rfl
def BT (gZ:aA→aA→Option (Bool)) (x0 x1:aT) (k:Bool→Option R):Option R:=
(I2 gZ k x0 x1)
theorem XY (gZ) (h125:(Hs gZ).holds cl) (x0 x1) (k:List E→Option R):exec cl N Eg [(0,.v aD x0),(1,.at aD x1)] (fun e env=>(ag d124 e env).bind k)=BT gZ x0 x1 (fun r0=>k [.v .bool r0]):=by
 simp only [Eg,ama gZ h125,ahI,ar]
 rfl
def rC (S:aT→aT→Option (Bool)):aO:={A:=aT×aT×Unit,B:=Bool,f:=124,enc:=fun a=> [.v aD a.1,.at aD a.2.1],dec:=(bg (bG aD) (bg (pn aD) cj)),S:=fun a=>S a.1 a.2.1,av:=fun b=> [.v .bool b],ok:=(gi (T:=aD) (BA (T:=aD) (fun es b h=>iq h)))}
def dp (N:Nat) (x0:aT) (x1:aT):Option (Bool):=BT (gZ N) x0 x1 (fun (r0:Bool)=>some (r0))
def vV (k0:b7→fj→Option R) (x0:b7) (x1:fj):Option R:=
k0 x0 x1
theorem amT (x0 x1):exec cl N M7 (pD x0 x1) K=(vV (fun y0 y1=>K .normal (pD y0 y1)) x0 x1):=by
 kernel_rfl
def vW (k0:b7→fj→Int→Int→Option R) (x0:b7) (x1:fj):Option R:=
k0 x0 x1 (x0.length:Int) (0:Int)
theorem amU (x0 x1):exec cl N M8 (pD x0 x1) K=(vW (fun y0 y1 y2 y3=>K .normal (mf y0 y1 y2 y3)) x0 x1):=by
 kernel_rfl
theorem TY (x0 x1 x2 x3):aj [0,1,7,8] (mf x0 x1 x2 x3)=(mf x0 x1 x2 x3):=by kernel_rfl
def vX (k0:Int→Option R) (k1:b7→fj→Int→Int→Option R) (k2:b7→fj→Int→Int→Option R) (x0:b7) (x1:fj) (x2 x3:Int):Option R:=
ad (decide (x3 < x2)) (if 0≤x3∧x3 < (x0.length:Int) then
(x1 ((x0.getD x3.toNat ([],([],((0:Int),((0:Int),()))))),())).bind fun r1050=>
ad r1050 (k0 x3) (k1 x0 x1 x2 (IntKind.i64.wrap (x3+(1:Int))))
else none) (k2 x0 x1 x2 x3)
theorem amV (x0 x1 x2 x3):exec cl N EN (mf x0 x1 x2 x3) K=(vX (fun y0=>K .ret (r6 y0)) (fun y0 y1 y2 y3=>K .normal (mf y0 y1 y2 y3)) (fun y0 y1 y2 y3=>K (.exit 0) (mf y0 y1 y2 y3)) x0 x1 x2 x3):=by
 kernel_rfl
def qn {R:Type} (k0:Int→Option R) (k1:b7→fj→Int→Int→Option R):Nat→b7→fj→Int→Int→Option R
 | 0,_,_,_,_=>none
 | m+1,x0,x1,x2,x3=>(vX k0 (qn k0 k1 m) k1 x0 x1 x2 x3)
theorem aeE:∀ (m) (x0 x1 x2 x3),iter [0,1,7,8] (fun env K=>exec cl N EN env K) K m (mf x0 x1 x2 x3)=qn (fun y0=>K .ret (r6 y0)) (fun y0 y1 y2 y3=>K (.exit 0) (mf y0 y1 y2 y3)) m x0 x1 x2 x3:=by
 intro m
 induction m with
 | zero=>intros; rfl
 | succ m ih=>
   intro x0 x1 x2 x3
   simp only [b9,amV,cb,ca,cc,TY,ih]
   rfl
theorem abA (x0):aj [4] (r6 x0)=[(4,.v U2 x0)]:=by kernel_rfl
theorem abB (x0 x1 x2 x3):aj [4] (mf x0 x1 x2 x3)=[(4,.dead)]:=by kernel_rfl
def vY (N:Nat) (k0:Int→Option R) (k1:Option R) (x0:b7) (x1:fj) (x2 x3:Int):Option R:=
qn k0 (fun y0 y1 y2 y3=>k1) N x0 x1 x2 x3
theorem amW (x0 x1 x2 x3):exec cl N EO (mf x0 x1 x2 x3) K=(vY N (fun y0=>K .ret [(4,.v U2 y0)]) (K (.exit 0) [(4,.dead)]) x0 x1 x2 x3):=by
 simp only [EO,aV,b8,TY,aeE,abA,abB]
 rfl
theorem abC (x0):aj [4] [(4,.v U2 x0)]=[(4,.v U2 x0)]:=by kernel_rfl
theorem abD:aj [4] [(4,.dead)]=[(4,.dead)]:=by kernel_rfl
def vZ (k0:Int→Option R):Option R:=
k0 (-1:Int)
theorem amX:exec cl N Nb [(4,.dead)] K=(vZ (fun y0=>K .ret [(4,.v U2 y0)])):=by
 kernel_rfl
def v7 (N:Nat) (k0:Int→Option R) (x0:b7) (x1:fj):Option R:=
(vV (vW (vY N k0 (vZ k0))) x0 x1)
theorem amY (x0 x1):exec cl N EP (pD x0 x1) K=(v7 N (fun y0=>K .ret [(4,.v U2 y0)]) x0 x1):=by
 simp only [EP,bX,bZ,bY,b5,amT,Nc,Na,amU,M9,aV,cx,amW,ct,cw,cq,abC,abD,amX]
 rfl
theorem ah2 (y0):ag d144 .ret [(4,.v U2 y0)]=some [.v U2 y0]:=by kernel_rfl
def sn (N:Nat) (x0:b7) (x1:fj) (k:Int→Option R):Option R:=
(v7 N k x0 x1)
theorem Yc (x0 x1) (k:List E→Option R):exec cl N EM (pD x0 x1) (fun e env=>(ag d144 e env).bind k)=sn N x0 x1 (fun r0=>k [.v U2 r0]):=by
 simp only [EM,amY,ah2,ar]
 rfl
def Hx (S:b7→fj→Option (Int)):aO:=er 144 cR zl S fun b=> [.v U2 b]
def iL (N:Nat) (x0:b7) (x1:fj):Option (Int):=sn N x0 x1 (fun (r0:Int)=>some (r0))
def I1 (iL:b7→fj→Option (Int)) (k0:Bool→Option R) (x0:b7) (x1:fj):Option R:=
(iL x0 x1).bind fun r1054=>
k0 (decide (r1054≥(0:Int)))
theorem al9 (iL) (h144:(Hx iL).holds cl) (x0 x1):exec cl N MA (pD x0 x1) K=(I1 iL (fun y0=>K .ret [(4,.v .bool y0)]) x0 x1):=by
 rw [←aM h144]
 kernel_rfl
theorem ahH (y0):ag d123 .ret [(4,.v .bool y0)]=some [.v .bool y0]:=by kernel_rfl
def BS (iL:b7→fj→Option (Int)) (x0:b7) (x1:fj) (k:Bool→Option R):Option R:=
(I1 iL k x0 x1)
theorem XX (iL) (h144:(Hx iL).holds cl) (x0 x1) (k:List E→Option R):exec cl N Ef (pD x0 x1) (fun e env=>(ag d123 e env).bind k)=BS iL x0 x1 (fun r0=>k [.v .bool r0]):=by
 simp only [Ef,al9 iL h144,ahH,ar]
 rfl
def rB (S:b7→fj→Option (Bool)):aO:=er 123 cR zl S fun b=> [.v .bool b]
def db (N:Nat) (x0:b7) (x1:fj):Option (Bool):=BS (iL N) x0 x1 (fun (r0:Bool)=>some (r0))
def yi (fy:V4→Option (Bool)) (k0:Int→Int→Option R) (k1:ae→Option R) (x0:ae):Option R:=
(fy x0.1).bind fun r1058=>
ad (!r1058) (k0 (-1:Int) (2:Int)) (ad ((x0.2.1.length:Int)==(0:Int)) (k0 (-1:Int) (7:Int)) (ad (decide ((x0.2.1.length:Int) > (120:Int))) (k0 (-1:Int) (3:Int)) (k1 x0)))
theorem aqU (fy) (h121:(Br fy).holds cl) (x0):exec cl N Be [(0,.v ak x0)] K=(yi fy (fun y0 y1=>K .ret (rY y0 y1)) (fun y0=>exec cl N Bd (BH y0) K) x0):=by
 rw [←aM h121]
 delta Be
 generalize Bd=q
 revert q
 refine id ?_
 intro q
 kernel_rfl
def ye (k0:ae→b7→Int→Int→Option R) (x0:ae):Option R:=
k0 x0 x0.2.1 (x0.2.1.length:Int) (0:Int)
theorem aqQ (x0):exec cl N Qj (BH x0) K=(ye (fun y0 y1 y2 y3=>K .normal (mg y0 y1 y2 y3)) x0):=by
 kernel_rfl
theorem Ux (x0 x1 x2 x3):aj [1,24,25,26] (mg x0 x1 x2 x3)=(mg x0 x1 x2 x3):=by kernel_rfl
def yf (dn:aT→Option (Int)) (db:b7→fj→Option (Bool)) (dp:aT→aT→Option (Bool)) (k0:Int→Int→Option R) (k1:ae→b7→Int→Int→Option R) (k2:ae→b7→Int→Int→Option R) (x0:ae) (x1:b7) (x2 x3:Int):Option R:=
ad (decide (x3 < x2)) (if 0≤x3∧x3 < (x1.length:Int) then
(dn (x1.getD x3.toNat ([],([],((0:Int),((0:Int),())))))).bind fun r1062=>
ad (r1062 != (0:Int)) (k0 x3 r1062) (if 0≤(0:Int)∧(0:Int)≤x3∧x3≤(x0.2.1.length:Int)∧(x0.2.1.length:Int)≤(x0.2.1.length:Int) then
(db ((x0.2.1.drop (0:Int).toNat).take (x3.toNat - (0:Int).toNat)) (fun (x1065:(aT×Unit))=>((dp x1065.1 (x1.getD x3.toNat ([],([],((0:Int),((0:Int),())))))).bind fun b1066=>some [.v .bool b1066]).bind (jZ .bool))).bind fun r1067=>
ad r1067 (k0 x3 (5:Int)) (k1 x0 x1 x2 (IntKind.i64.wrap (x3+(1:Int))))
else none)
else none) (k2 x0 x1 x2 x3)
theorem aqR (dn) (db) (dp) (h122:(rA dn).holds cl) (h123:(rB db).holds cl) (h124:(rC dp).holds cl) (x0 x1 x2 x3):exec cl N He (mg x0 x1 x2 x3) K=(yf dn db dp (fun y0 y1=>K .ret (IE y0 y1)) (fun y0 y1 y2 y3=>K .normal (mg y0 y1 y2 y3)) (fun y0 y1 y2 y3=>K (.exit 1) (mg y0 y1 y2 y3)) x0 x1 x2 x3):=by
 rw [←aM h122]
 rw [←aM h123]
 rw [←aM h124]
 kernel_rfl
def qv {R:Type} (dn:aT→Option (Int)) (db:b7→fj→Option (Bool)) (dp:aT→aT→Option (Bool)) (k0:Int→Int→Option R) (k1:ae→b7→Int→Int→Option R):Nat→ae→b7→Int→Int→Option R
 | 0,_,_,_,_=>none
 | m+1,x0,x1,x2,x3=>(yf dn db dp k0 (qv dn db dp k0 k1 m) k1 x0 x1 x2 x3)
theorem afe (dn) (db) (dp) (h122:(rA dn).holds cl) (h123:(rB db).holds cl) (h124:(rC dp).holds cl):∀ (m) (x0 x1 x2 x3),iter [1,24,25,26] (fun env K=>exec cl N He env K) K m (mg x0 x1 x2 x3)=qv dn db dp (fun y0 y1=>K .ret (IE y0 y1)) (fun y0 y1 y2 y3=>K (.exit 1) (mg y0 y1 y2 y3)) m x0 x1 x2 x3:=by
 intro m
 induction m with
 | zero=>intros; rfl
 | succ m ih=>
   intro x0 x1 x2 x3
   simp only [b9,aqR dn db dp h122 h123 h124,cb,ca,cc,Ux,ih]
   rfl
theorem adt (x0 x1):aj [2,3] (IE x0 x1)=(jm x0 x1):=by kernel_rfl
theorem adu (x0 x1 x2 x3):aj [2,3] (mg x0 x1 x2 x3)=[(2,.dead),(3,.dead)]:=by kernel_rfl
def yg (N:Nat) (dn:aT→Option (Int)) (db:b7→fj→Option (Bool)) (dp:aT→aT→Option (Bool)) (k0:Int→Int→Option R) (k1:Option R) (x0:ae) (x1:b7) (x2 x3:Int):Option R:=
qv dn db dp k0 (fun y0 y1 y2 y3=>k1) N x0 x1 x2 x3
theorem aqS (dn) (db) (dp) (h122:(rA dn).holds cl) (h123:(rB db).holds cl) (h124:(rC dp).holds cl) (x0 x1 x2 x3):exec cl N Hf (mg x0 x1 x2 x3) K=(yg N dn db dp (fun y0 y1=>K .ret (jm y0 y1)) (K (.exit 1) [(2,.dead),(3,.dead)]) x0 x1 x2 x3):=by
 simp only [Hf,aV,b8,Ux,afe dn db dp h122 h123 h124,adt,adu]
 rfl
theorem adv (x0 x1):aj [2,3] (jm x0 x1)=(jm x0 x1):=by kernel_rfl
theorem adw:aj [2,3] [(2,.dead),(3,.dead)]=[(2,.dead),(3,.dead)]:=by kernel_rfl
def yh (k0:Int→Int→Option R):Option R:=
k0 (-1:Int) (0:Int)
theorem aqT:exec cl N Qm [(2,.dead),(3,.dead)] K=(yh (fun y0 y1=>K .ret (jm y0 y1))):=by
 kernel_rfl
def yj (N:Nat) (fy:V4→Option (Bool)) (dn:aT→Option (Int)) (db:b7→fj→Option (Bool)) (dp:aT→aT→Option (Bool)) (k0:Int→Int→Option R) (k1:Int→Int→Option R) (x0:ae):Option R:=
(yi fy k0 (ye (yg N dn db dp k1 (yh k1))) x0)
theorem aqV (fy) (dn) (db) (dp) (h121:(Br fy).holds cl) (h122:(rA dn).holds cl) (h123:(rB db).holds cl) (h124:(rC dp).holds cl) (x0):exec cl N Be [(0,.v ak x0)] K=(yj N fy dn db dp (fun y0 y1=>K .ret (rY y0 y1)) (fun y0 y1=>K .ret (jm y0 y1)) x0):=by
 simp only [bX,bZ,bY,b5,aqU fy h121,Bd,Ql,aqQ,Qk,aV,cx,aqS dn db dp h122 h123 h124,ct,cw,cq,adv,adw,aqT]
 rfl
theorem ajB (y0 y1):ag d95 .ret (rY y0 y1)=some [.v U2 y0,.v U2 y1]:=by kernel_rfl
theorem ajC (y0 y1):ag d95 .ret (jm y0 y1)=some [.v U2 y0,.v U2 y1]:=by kernel_rfl
def sQ (N:Nat) (fy:V4→Option (Bool)) (dn:aT→Option (Int)) (db:b7→fj→Option (Bool)) (dp:aT→aT→Option (Bool)) (x0:ae) (k:Int→Int→Option R):Option R:=
(yj N fy dn db dp k k x0)
theorem Y1 (fy) (dn) (db) (dp) (h121:(Br fy).holds cl) (h122:(rA dn).holds cl) (h123:(rB db).holds cl) (h124:(rC dp).holds cl) (x0) (k:List E→Option R):exec cl N Hd [(0,.v ak x0)] (fun e env=>(ag d95 e env).bind k)=sQ N fy dn db dp x0 (fun r0 r1=>k [.v U2 r0,.v U2 r1]):=by
 simp only [Hd,aqV fy dn db dp h121 h122 h123 h124,ajB,ajC,ar]
 rfl
def HN (S:ae→Option V1):aO:=cI 95 ak S fun b=> [.v U2 b.1,.v U2 b.2]
def iP (N:Nat) (x0:ae):Option V1:=sQ N (fy N) (dn N) (db N) (dp N) x0 (fun (r0:Int) (r1:Int)=>some (r0,r1))
def JF (iP:ae→Option V1) (k0:Int→Option R) (x0:ae):Option R:=
(iP x0).bind fun r1070=>
k0 r1070.2
theorem apZ (iP) (h95:(HN iP).holds cl) (x0):exec cl N PE [(0,.v ak x0)] K=(JF iP (fun y0=>K .ret [(2,.v U2 y0)]) x0):=by
 rw [←aM h95]
 kernel_rfl
theorem aje (y0):ag d70 .ret [(2,.v U2 y0)]=some [.v U2 y0]:=by kernel_rfl
def Cm (iP:ae→Option V1) (x0:ae) (k:Int→Option R):Option R:=
(JF iP k x0)
theorem YR (iP) (h95:(HN iP).holds cl) (x0) (k:List E→Option R):exec cl N GC [(0,.v ak x0)] (fun e env=>(ag d70 e env).bind k)=Cm iP x0 (fun r0=>k [.v U2 r0]):=by
 simp only [GC,apZ iP h95,aje,ar]
 rfl
def uG (S:ae→Option (Int)):aO:=cI 70 ak S fun b=> [.v U2 b]
def eA (N:Nat) (x0:ae):Option (Int):=Cm (iP N) x0 (fun (r0:Int)=>some (r0))
def JP (b6:Int→Option (Bool)) (k0:Bool→Option R) (x0:Int):Option R:=
(b6 x0).bind fun r1078=>
k0 (!r1078)
theorem aqX (b6) (h98:(nY b6).holds cl) (x0):exec cl N Qo [(0,.v U0 x0)] K=(JP b6 (fun y0=>K .ret [(2,.v .bool y0)]) x0):=by
 rw [←aM h98]
 kernel_rfl
theorem ajE (y0):ag d97 .ret [(2,.v .bool y0)]=some [.v .bool y0]:=by kernel_rfl
def Cr (b6:Int→Option (Bool)) (x0:Int) (k:Bool→Option R):Option R:=
(JP b6 k x0)
theorem Y3 (b6) (h98:(nY b6).holds cl) (x0) (k:List E→Option R):exec cl N Hh [(0,.v U0 x0)] (fun e env=>(ag d97 e env).bind k)=Cr b6 x0 (fun r0=>k [.v .bool r0]):=by
 simp only [Hh,aqX b6 h98,ajE,ar]
 rfl
def rQ (S:Int→Option (Bool)):aO:=cI 97 U0 S fun b=> [.v .bool b]
def dt (N:Nat) (x0:Int):Option (Bool):=Cr (b6 N) x0 (fun (r0:Bool)=>some (r0))
def vO (k0:V0→bU→Option R) (x0:V0) (x1:bU):Option R:=
k0 x0 x1
theorem amh (x0 x1):exec cl N MG (pE x0 x1) K=(vO (fun y0 y1=>K .normal (pE y0 y1)) x0 x1):=by
 kernel_rfl
def vP (k0:V0→bU→Int→Int→Option R) (x0:V0) (x1:bU):Option R:=
k0 x0 x1 (x0.length:Int) (0:Int)
theorem ami (x0 x1):exec cl N MH (pE x0 x1) K=(vP (fun y0 y1 y2 y3=>K .normal (mh y0 y1 y2 y3)) x0 x1):=by
 kernel_rfl
theorem TT (x0 x1 x2 x3):aj [0,1,7,8] (mh x0 x1 x2 x3)=(mh x0 x1 x2 x3):=by kernel_rfl
def vQ (k0:Int→Option R) (k1:V0→bU→Int→Int→Option R) (k2:V0→bU→Int→Int→Option R) (x0:V0) (x1:bU) (x2 x3:Int):Option R:=
ad (decide (x3 < x2)) (if 0≤x3∧x3 < (x0.length:Int) then
(x1 ((x0.getD x3.toNat (0:Int)),())).bind fun r1085=>
ad r1085 (k0 x3) (k1 x0 x1 x2 (IntKind.i64.wrap (x3+(1:Int))))
else none) (k2 x0 x1 x2 x3)
theorem amj (x0 x1 x2 x3):exec cl N El (mh x0 x1 x2 x3) K=(vQ (fun y0=>K .ret (r6 y0)) (fun y0 y1 y2 y3=>K .normal (mh y0 y1 y2 y3)) (fun y0 y1 y2 y3=>K (.exit 0) (mh y0 y1 y2 y3)) x0 x1 x2 x3):=by
 kernel_rfl
def qm {R:Type} (k0:Int→Option R) (k1:V0→bU→Int→Int→Option R):Nat→V0→bU→Int→Int→Option R
 | 0,_,_,_,_=>none
 | m+1,x0,x1,x2,x3=>(vQ k0 (qm k0 k1 m) k1 x0 x1 x2 x3)
theorem aey:∀ (m) (x0 x1 x2 x3),iter [0,1,7,8] (fun env K=>exec cl N El env K) K m (mh x0 x1 x2 x3)=qm (fun y0=>K .ret (r6 y0)) (fun y0 y1 y2 y3=>K (.exit 0) (mh y0 y1 y2 y3)) m x0 x1 x2 x3:=by
 intro m
 induction m with
 | zero=>intros; rfl
 | succ m ih=>
   intro x0 x1 x2 x3
   simp only [b9,amj,cb,ca,cc,TT,ih]
   rfl
theorem abj (x0):aj [4] (r6 x0)=[(4,.v U2 x0)]:=by kernel_rfl
theorem abk (x0 x1 x2 x3):aj [4] (mh x0 x1 x2 x3)=[(4,.dead)]:=by kernel_rfl
def vR (N:Nat) (k0:Int→Option R) (k1:Option R) (x0:V0) (x1:bU) (x2 x3:Int):Option R:=
qm k0 (fun y0 y1 y2 y3=>k1) N x0 x1 x2 x3
theorem amk (x0 x1 x2 x3):exec cl N Em (mh x0 x1 x2 x3) K=(vR N (fun y0=>K .ret [(4,.v U2 y0)]) (K (.exit 0) [(4,.dead)]) x0 x1 x2 x3):=by
 simp only [Em,aV,b8,TT,aey,abj,abk]
 rfl
theorem abl (x0):aj [4] [(4,.v U2 x0)]=[(4,.v U2 x0)]:=by kernel_rfl
theorem abm:aj [4] [(4,.dead)]=[(4,.dead)]:=by kernel_rfl
def vS (k0:Int→Option R):Option R:=
k0 (-1:Int)
theorem aml:exec cl N MK [(4,.dead)] K=(vS (fun y0=>K .ret [(4,.v U2 y0)])):=by
 kernel_rfl
def vT (N:Nat) (k0:Int→Option R) (x0:V0) (x1:bU):Option R:=
(vO (vP (vR N k0 (vS k0))) x0 x1)
theorem amm (x0 x1):exec cl N En (pE x0 x1) K=(vT N (fun y0=>K .ret [(4,.v U2 y0)]) x0 x1):=by
 simp only [En,bX,bZ,bY,b5,amh,ML,MJ,ami,MI,aV,cx,amk,ct,cw,cq,abl,abm,aml]
 rfl
theorem ahL (y0):ag d126 .ret [(4,.v U2 y0)]=some [.v U2 y0]:=by kernel_rfl
def sk (N:Nat) (x0:V0) (x1:bU) (k:Int→Option R):Option R:=
(vT N k x0 x1)
theorem X0 (x0 x1) (k:List E→Option R):exec cl N Ek (pE x0 x1) (fun e env=>(ag d126 e env).bind k)=sk N x0 x1 (fun r0=>k [.v U2 r0]):=by
 simp only [Ek,amm,ahL,ar]
 rfl
def Ht (S:V0→bU→Option (Int)):aO:=er 126 U4 zj S fun b=> [.v U2 b]
def iK (N:Nat) (x0:V0) (x1:bU):Option (Int):=sk N x0 x1 (fun (r0:Int)=>some (r0))
def JO (iK:V0→bU→Option (Int)) (k0:Bool→Option R) (x0:V0) (x1:bU):Option R:=
(iK x0 x1).bind fun r1089=>
k0 (decide (r1089≥(0:Int)))
theorem aqW (iK) (h126:(Ht iK).holds cl) (x0 x1):exec cl N Qn (pE x0 x1) K=(JO iK (fun y0=>K .ret [(4,.v .bool y0)]) x0 x1):=by
 rw [←aM h126]
 kernel_rfl
theorem ajD (y0):ag d96 .ret [(4,.v .bool y0)]=some [.v .bool y0]:=by kernel_rfl
def Cq (iK:V0→bU→Option (Int)) (x0:V0) (x1:bU) (k:Bool→Option R):Option R:=
(JO iK k x0 x1)
theorem Y2 (iK) (h126:(Ht iK).holds cl) (x0 x1) (k:List E→Option R):exec cl N Hg (pE x0 x1) (fun e env=>(ag d96 e env).bind k)=Cq iK x0 x1 (fun r0=>k [.v .bool r0]):=by
 simp only [Hg,aqW iK h126,ajD,ar]
 rfl
def rP (S:V0→bU→Option (Bool)):aO:=er 96 U4 zj S fun b=> [.v .bool b]
def dc (N:Nat) (x0:V0) (x1:bU):Option (Bool):=Cq (iK N) x0 x1 (fun (r0:Bool)=>some (r0))
end Go.Fw.L19
