/- Own work. -/
import Derived.Test.YtooiookccchmeaaGreatFwYy13
import Derived.Test.YtooiookccchmeaaGreatFwB4
set_option linter.unusedVariables false
set_option linter.unusedSimpArgs false
open Option renaming bind_some → ar
namespace Go.Fw.L19
open Go Go.Fw
set_option maxRecDepth 100000
abbrev cG (f:FuncId) (T0:Ty) {B:Type} (S:den T0→Option B) (av:B→List E):aQ:={A:=den T0×Unit,B:=B,f:=f,enc:=fun a=> [.v T0 a.1],dec:=(ba (bL T0) ck),S:=fun a=>S a.1,av:=av,ok:=(gi (T:=T0) (fun es b h=>ir h))}
abbrev eA (f:FuncId) (T0 T1:Ty) {B:Type} (S:den T0→den T1→Option B) (av:B→List E):aQ:={A:=den T0×den T1×Unit,B:=B,f:=f,enc:=fun a=> [.v T0 a.1,.v T1 a.2.1],dec:=(ba (bL T0) (ba (bL T1) ck)),S:=fun a=>S a.1 a.2.1,av:=av,ok:=(gi (T:=T0) (gi (T:=T1) (fun es b h=>ir h)))}
abbrev Ri (f:FuncId) (T0 T1 T2:Ty) {B:Type} (S:den T0→den T1→den T2→Option B) (av:B→List E):aQ:={A:=den T0×den T1×den T2×Unit,B:=B,f:=f,enc:=fun a=> [.v T0 a.1,.v T1 a.2.1,.v T2 a.2.2.1],dec:=(ba (bL T0) (ba (bL T1) (ba (bL T2) ck))),S:=fun a=>S a.1 a.2.1 a.2.2.1,av:=av,ok:=(gi (T:=T0) (gi (T:=T1) (gi (T:=T2) (fun es b h=>ir h))))}
abbrev XO (f:FuncId) (T0 T1 T2 T3:Ty) {B:Type} (S:den T0→den T1→den T2→den T3→Option B) (av:B→List E):aQ:={A:=den T0×den T1×den T2×den T3×Unit,B:=B,f:=f,enc:=fun a=> [.v T0 a.1,.v T1 a.2.1,.v T2 a.2.2.1,.v T3 a.2.2.2.1],dec:=(ba (bL T0) (ba (bL T1) (ba (bL T2) (ba (bL T3) ck)))),S:=fun a=>S a.1 a.2.1 a.2.2.1 a.2.2.2.1,av:=av,ok:=(gi (T:=T0) (gi (T:=T1) (gi (T:=T2) (gi (T:=T3) (fun es b h=>ir h)))))}
abbrev e0:=fun x0 x1 x2=>([(0,.v .str x0),(3,.own true 9 .str .no x1),(4,.v U2 x2)]:Env)
abbrev e1:=fun x0 x1 x2 x3=>([(0,.v .str x0),(3,.own true 9 .str .no x1),(4,.v U2 x2),(5,.v U2 x3)]:Env)
abbrev e2:=fun x0=>([(3,.own true 9 .str .no x0)]:Env)
abbrev e3:=fun x0=>([(2,.ref 3 []),(3,.own true 9 .str .no x0)]:Env)
abbrev e4:=fun x0=>([(0,.dead),(2,.own true 9 .str .no x0),(3,.dead),(4,.dead),(5,.dead)]:Env)
abbrev e5:=fun x0=>([(2,.own true 9 .str .no x0),(3,.dead)]:Env)
abbrev e6:=fun x0=>([(2,.dead),(3,.own true 9 .str .no x0)]:Env)
abbrev e7:=fun x0=>([(1,.dead),(2,.v U2 x0)]:Env)
abbrev e8:=fun x0 x1=>([(1,.loc aD .no x0),(4,.v U2 x1)]:Env)
abbrev e9:=fun x0=>([(1,.dead),(2,.v U2 x0),(4,.dead)]:Env)
abbrev kS:=fun x0 x1 x2=>([(0,.v .str x0),(2,.loc aD .no x1),(4,.v U2 x2)]:Env)
abbrev Iu:=fun x0 x1=>([(0,.dead),(2,.loc aD .no x0),(3,.v .bool x1),(4,.dead),(5,.dead)]:Env)
abbrev pj:=fun x0 x1 x2=>([(2,.loc aD .no x0),(5,.v .str x1),(6,.loc aD .no x2)]:Env)
abbrev lH:=fun x0 x1 x2 x3=>([(2,.loc aD .no x0),(5,.v .str x1),(6,.loc aD .no x2),(7,.v U2 x3)]:Env)
abbrev IE:=fun x0 x1=>([(2,.loc aD .no x0),(3,.v .bool x1)]:Env)
abbrev IH:=fun x0 x1=>([(0,.dead),(2,.own true 40 aD .no x0),(3,.v U2 x1)]:Env)
abbrev lQ:=fun x0 x1 x2=>([(4,.own true 40 aD .no x0),(5,.own true 9 .str .no x1),(6,.v U2 x2)]:Env)
abbrev IL:=fun x0 x1=>([(2,.own true 40 aD .no x0),(3,.v U2 x1),(4,.dead),(5,.dead),(6,.dead)]:Env)
abbrev pt:=fun x0 x1=>([(2,.own true 40 aD .no x0),(3,.v U2 x1),(4,.dead)]:Env)
abbrev vj:=fun x0=>([(2,.dead),(3,.dead),(4,.own true 40 aD .no x0)]:Env)
abbrev IS:=fun x0 x1=>([(2,.ref 4 []),(3,.v U2 x0),(4,.own true 40 aD .no x1)]:Env)
abbrev cV:=fun x0 x1=>([(0,.v .str x0),(3,.v U2 x1)]:Env)
abbrev IT:=fun x0 x1=>([(0,.dead),(2,.v U2 x0),(3,.v .bool x1)]:Env)
abbrev lX:=fun x0 x1 x2=>([(0,.v .str x0),(4,.v U2 x1),(5,.v U2 x2)]:Env)
abbrev IU:=fun x0 x1=>([(2,.loc aC (.pair .no (.pair (.own true 40 .no) (.pair .no (.pair .no .no)))) x0),(3,.v .bool x1),(4,.dead)]:Env)
abbrev pv:=fun x0 x1 x2=>([(2,.loc aC (.pair .no (.pair (.own true 40 .no) (.pair .no (.pair .no .no)))) x0),(4,.own true 9 .str .no x1),(5,.v .str x2)]:Env)
abbrev lY:=fun x0 x1 x2 x3=>([(2,.loc aC (.pair .no (.pair (.own true 40 .no) (.pair .no (.pair .no .no)))) x0),(4,.own true 9 .str .no x1),(5,.v .str x2),(6,.v U2 x3)]:Env)
abbrev IV:=fun x0 x1=>([(2,.loc aC (.pair .no (.pair (.own true 40 .no) (.pair .no (.pair .no .no)))) x0),(3,.v .bool x1),(4,.dead),(7,.dead),(9,.dead)]:Env)
abbrev RD:=fun x0 x1 x2 x3=>([(2,.loc aC (.pair .no (.pair (.own true 40 .no) (.pair .no (.pair .no .no)))) x0),(3,.dead),(4,.own true 9 .str .no x1),(7,.own true 40 aD .no x2),(9,.v U2 x3)]:Env)
abbrev lZ:=fun x0 x1 x2 x3 x4=>([(2,.loc aC (.pair .no (.pair (.own true 40 .no) (.pair .no (.pair .no .no)))) x0),(4,.own true 9 .str .no x1),(7,.own true 40 aD .no x2),(9,.v U2 x3),(11,.v U2 x4)]:Env)
abbrev IW:=fun x0 x1=>([(2,.loc aC .no x0),(3,.v .bool x1),(4,.dead),(7,.dead),(9,.dead),(11,.dead)]:Env)
abbrev rZ:=fun x0 x1=>([(2,.loc aC .no x0),(3,.v .bool x1)]:Env)
abbrev vk:=fun x0=>([(2,.loc aC (.pair .no (.pair (.own true 40 .no) (.pair .no (.pair .no .no)))) x0),(3,.dead)]:Env)
abbrev IX:=fun x0 x1=>([(2,.loc aC (.pair .no (.pair (.own true 40 .no) (.pair .no (.pair .no .no)))) x0),(3,.v .bool x1)]:Env)
abbrev jm:=fun x0=>([(0,.dead),(2,.v U2 x0)]:Env)
abbrev l6:=fun x0 x1=>([(0,.v U0 x0),(3,.v U2 x1)]:Env)
abbrev IY:=fun x0=>([(0,.dead),(2,.v .bool x0),(3,.dead)]:Env)
abbrev Cb:=fun x0=>([(0,.v .str x0),(2,.dead)]:Env)
abbrev r6:=fun x0=>([(0,.dead),(2,.v U2 x0),(3,.dead)]:Env)
abbrev jn:=fun x0=>([(1,.loc aC .no x0),(2,.dead)]:Env)
abbrev l7:=fun x0 x1=>([(1,.loc aC .no x0),(4,.v U2 x1)]:Env)
abbrev Cc:=fun x0 x1=>([(0,.v U2 x0),(1,.v U2 x1)]:Env)
abbrev l8:=fun x0=>([(0,.dead),(1,.dead),(4,.v U2 x0)]:Env)
abbrev r7:=fun x0 x1=>([(0,.v bt x0),(1,.v bt x1)]:Env)
abbrev iT:=fun x0=>([(0,.dead),(1,.dead),(4,.v .bool x0)]:Env)
abbrev Cd:=fun x0 x1=>([(0,.v bt x0),(1,.v bt x1),(4,.dead)]:Env)
abbrev l9:=fun x0 x1 x2=>([(0,.v bt x0),(1,.v bt x1),(5,.v U2 x2)]:Env)
abbrev kp:=fun x0=>([(0,.dead),(1,.dead),(4,.v .bool x0),(5,.dead)]:Env)
abbrev r8:=fun x0 x1=>([(1,.dead),(2,.v U2 x0),(3,.v U2 x1)]:Env)
abbrev Ce:=fun x0=>([(1,.loc ak .no x0),(2,.dead),(3,.dead)]:Env)
abbrev iU:=fun x0 x1=>([(1,.loc ak .no x0),(4,.v U2 x1)]:Env)
abbrev nW:=fun x0 x1=>([(1,.dead),(2,.v U2 x0),(3,.v U2 x1),(4,.dead)]:Env)
abbrev ma:=fun x0 x1 x2=>([(1,.loc ak .no x0),(4,.v U2 x1),(6,.v U2 x2)]:Env)
abbrev IZ:=fun x0 x1=>([(1,.dead),(2,.v U2 x0),(3,.v U2 x1),(4,.dead),(6,.dead)]:Env)
abbrev vl:=fun x0 x1=>([(1,.loc ak .no x0),(2,.dead),(3,.dead),(4,.v U2 x1)]:Env)
abbrev jo:=fun x0 x1=>([(2,.v U2 x0),(3,.v U2 x1)]:Env)
abbrev I0:=fun x0 x1 x2=>([(0,.dead),(2,.loc ak (.pair .no (.pair (.own true 43 .no) .no)) x0),(3,.v U2 x1),(4,.v U2 x2)]:Env)
abbrev I1:=fun x0 x1 x2=>([(0,.dead),(2,.loc ak (.pair .no (.pair (.own true 43 .no) .no)) x0),(3,.v U2 x1),(4,.v U2 x2),(5,.dead)]:Env)
abbrev RE:=fun x0 x1 x2 x3=>([(0,.v .str x0),(2,.loc ak (.pair .no (.pair (.own true 43 .no) .no)) x1),(5,.own true 9 .str .no x2),(6,.loc ak (.pair .no (.pair (.own true 43 .no) .no)) x3)]:Env)
abbrev gS:=fun x0 x1 x2 x3 x4=>([(0,.v .str x0),(2,.loc ak (.pair .no (.pair (.own true 43 .no) .no)) x1),(5,.own true 9 .str .no x2),(6,.loc ak (.pair .no (.pair (.own true 43 .no) .no)) x3),(7,.v U2 x4)]:Env)
abbrev RF:=fun x0 x1 x2 x3 x4 x5=>([(0,.v .str x0),(2,.loc ak (.pair .no (.pair (.own true 43 .no) .no)) x1),(5,.own true 9 .str .no x2),(6,.loc ak (.pair .no (.pair (.own true 43 .no) .no)) x3),(7,.v U2 x4),(8,.v .bool x5)]:Env)
abbrev RG:=fun x0 x1 x2=>([(0,.dead),(2,.loc ak (.pair .no (.pair (.own true 43 .no) .no)) x0),(3,.v U2 x1),(4,.v U2 x2),(5,.dead),(6,.dead),(7,.dead),(9,.dead),(10,.dead)]:Env)
abbrev Cf:=fun x0 x1 x2=>([(0,.dead),(2,.loc ak (.pair .no (.pair (.own true 43 .no) .no)) x0),(3,.v U2 x1),(4,.v U2 x2),(5,.dead),(6,.dead),(7,.dead)]:Env)
abbrev RH:=fun x0 x1 x2 x3 x4=>([(0,.v .str x0),(2,.loc ak (.pair .no (.pair (.own true 43 .no) .no)) x1),(3,.dead),(4,.dead),(5,.own true 9 .str .no x2),(6,.loc ak (.pair .no (.pair (.own true 43 .no) .no)) x3),(7,.v U2 x4)]:Env)
abbrev pw:=fun x0 x1 x2=>([(2,.loc ak (.pair .no (.pair (.own true 43 .no) .no)) x0),(3,.v U2 x1),(4,.v U2 x2),(6,.dead)]:Env)
abbrev vm:=fun x0 x1=>([(2,.loc ak (.pair .no (.pair (.own true 43 .no) .no)) x0),(3,.dead),(4,.dead),(6,.loc ak (.pair .no (.pair (.own true 43 .no) .no)) x1)]:Env)
abbrev I2:=fun x0 x1 x2=>([(2,.loc ak .no x0),(3,.v U2 x1),(4,.v U2 x2)]:Env)
abbrev kq:=fun x0=>([(2,.v U2 x0),(3,.dead)]:Env)
abbrev iV:=fun x0=>([(2,.dead),(3,.v U2 x0)]:Env)
abbrev px:=fun x0=>([(3,.own true 4294967295 U0 .no x0)]:Env)
abbrev mb:=fun x0 x1 x2=>([(3,.own true 4294967295 U0 .no x0),(8,.ref 3 []),(9,.v U2 x1),(10,.v U2 x2)]:Env)
abbrev mc:=fun x0 x1 x2=>([(9,.own true 4294967295 U0 .no x0),(10,.v U2 x1),(11,.v U2 x2)]:Env)
abbrev I3:=fun x0=>([(2,.v U2 x0),(9,.dead),(10,.dead),(11,.dead)]:Env)
abbrev I4:=fun x0 x1=>([(0,.dead),(2,.own true 179 ef .no x0),(3,.v U2 x1)]:Env)
abbrev me:=fun x0 x1 x2 x3=>([(5,.own true 179 ef .no x0),(15,.own true 4294967295 U0 .no x1),(16,.v U2 x2),(17,.v U2 x3)]:Env)
abbrev vn:=fun x0=>([(5,.own true 179 ef .no x0)]:Env)
abbrev I5:=fun x0 x1=>([(2,.ref 5 []),(3,.v U2 x0),(5,.own true 179 ef .no x1)]:Env)
abbrev vo:=fun x0=>([(1,.dead),(2,.v .bool x0)]:Env)
abbrev vp:=fun x0 x1 x2=>([(0,.v .str x0),(1,.v mR x1),(2,.v .bool x2)]:Env)
abbrev py:=fun x0 x1 x2 x3=>([(1,.v mR x0),(2,.v .bool x1),(10,.it x2 x3)]:Env)
abbrev I6:=fun x0=>([(1,.dead),(2,.dead),(6,.v U2 x0),(10,.dead)]:Env)
abbrev I7:=fun x0 x1 x2 x3 x4=>([(1,.v mR x0),(2,.v .bool x1),(10,.it x2 x3),(11,.cI [.v .bool x4])]:Env)
abbrev Cg:=fun x0 x1=>([(0,.v .str x0),(1,.v mR x1)]:Env)
abbrev mf:=fun x0 x1 x2 x3=>([(1,.loc aC .no x0),(22,.v bt x1),(23,.v U2 x2),(24,.v U2 x3)]:Env)
abbrev I8:=fun x0=>([(1,.dead),(2,.v U2 x0),(22,.dead),(23,.dead),(24,.dead)]:Env)
abbrev mg:=fun x0 x1 x2 x3=>([(0,.v bt x0),(1,.v bt x1),(12,.v U2 x2),(13,.v U2 x3)]:Env)
abbrev r9:=fun x0=>([(0,.dead),(1,.dead),(4,.v .bool x0),(12,.dead),(13,.dead)]:Env)
abbrev pz:=fun x0 x1=>([(0,.v bW x0),(1,.v zN x1)]:Env)
abbrev mh:=fun x0 x1 x2 x3=>([(0,.v bW x0),(1,.v zN x1),(7,.v U2 x2),(8,.v U2 x3)]:Env)
abbrev sa:=fun x0=>([(0,.dead),(1,.dead),(4,.v U2 x0),(7,.dead),(8,.dead)]:Env)
abbrev mi:=fun x0 x1 x2 x3=>([(1,.loc ak .no x0),(24,.v bW x1),(25,.v U2 x2),(26,.v U2 x3)]:Env)
abbrev I9:=fun x0 x1=>([(1,.dead),(2,.v U2 x0),(3,.v U2 x1),(24,.dead),(25,.dead),(26,.dead)]:Env)
abbrev pA:=fun x0 x1=>([(0,.v U4 x0),(1,.v zL x1)]:Env)
abbrev mj:=fun x0 x1 x2 x3=>([(0,.v U4 x0),(1,.v zL x1),(7,.v U2 x2),(8,.v U2 x3)]:Env)
abbrev Ja:=fun x0=>([(0,.dead),(1,.dead),(4,.v .str x0)]:Env)
abbrev pB:=fun x0 x1 x2=>([(0,.v U1 x0),(1,.v .str x1),(5,.v U2 x2)]:Env)
abbrev ml:=fun x0 x1 x2 x3 x4 x5=>([(0,.v U1 x0),(1,.v .str x1),(5,.v U2 x2),(39,.v U1 x3),(40,.v U2 x4),(41,.v U2 x5)]:Env)
abbrev mn:=fun x0 x1 x2 x3=>([(0,.v U1 x0),(7,.v U1 x1),(8,.v U2 x2),(9,.v U2 x3)]:Env)
abbrev Jb:=fun x0 x1=>([(0,.dead),(2,.v .str x0),(3,.v U2 x1),(7,.dead),(8,.dead),(9,.dead)]:Env)
abbrev sc:=fun x0 x1=>([(0,.dead),(2,.v .str x0),(3,.v U2 x1)]:Env)
abbrev va:=fun x0=>([(0,.v U1 x0),(2,.dead),(3,.dead)]:Env)
abbrev Ir:=fun x0 x1=>([(2,.v .str x0),(3,.v U2 x1),(6,.dead)]:Env)
abbrev nf:=fun x0 x1=>([(0,.v ak x0),(1,.v .str x1)]:Env)
abbrev Rp:=fun x0=>([(0,.dead),(1,.dead),(4,.own true 40 aD .no x0)]:Env)
abbrev Is:=fun x0 x1 x2 x3=>([(0,.v ak x0),(1,.v U2 x1),(2,.v bt x2),(3,.v bt x3)]:Env)
abbrev It:=fun x0=>([(1,.dead),(2,.dead),(3,.dead),(4,.dead),(8,.v .bool x0)]:Env)
abbrev Rq:=fun x0 x1 x2 x3=>([(1,.v U2 x0),(2,.v bt x1),(3,.v bt x2),(4,.loc ak .no x3),(8,.dead)]:Env)
abbrev Ca:=fun x0 x1=>([(0,.v .str x0),(1,.v .str x1)]:Env)
abbrev lA:=fun x0 x1 x2 x3 x4 x5=>([(0,.at bG x0),(3,.loc aZ .no x1),(5,.own true 73 aZ .no x2),(12,.v bW x3),(13,.v U2 x4),(14,.v U2 x5)]:Env)
abbrev vb:=fun x0=>([(5,.own true 73 aZ .no x0)]:Env)
abbrev Iv:=fun x0=>([(4,.ref 5 []),(5,.own true 73 aZ .no x0)]:Env)
abbrev rW:=fun x0 x1=>([(0,.loc bG (.pair .no (.pair .no (.pair .mp .no))) x0),(1,.v aZ x1)]:Env)
abbrev Iw:=fun x0 x1=>([(0,.loc bG (.pair .no (.pair .no (.pair .mp .no))) x0),(3,.dead),(4,.v U2 x1)]:Env)
abbrev ph:=fun x0 x1 x2=>([(0,.loc bG (.pair .no (.pair .no (.pair .mp .no))) x0),(3,.loc aZ .no x1),(7,.v U2 x2)]:Env)
abbrev lB:=fun x0 x1 x2 x3 x4 x5=>([(0,.loc bG (.pair .no (.pair .no (.pair .mp .no))) x0),(3,.loc aZ .no x1),(7,.v U2 x2),(47,.own true 73 aZ .no x3),(48,.v U2 x4),(49,.v U2 x5)]:Env)
abbrev Ix:=fun x0 x1=>([(0,.loc bG (.pair .no (.pair .no (.pair .mp .no))) x0),(4,.v U2 x1)]:Env)
abbrev Iy:=fun x0 x1=>([(0,.loc bG (.pair .no (.pair .no (.pair .mp .no))) x0),(3,.dead),(4,.own true 27 U5 .no x1)]:Env)
abbrev Rs:=fun x0 x1 x2=>([(0,.loc bG (.pair .no (.pair .no (.pair .mp .no))) x0),(3,.loc aZ .no x1),(5,.own true 27 U5 .no x2)]:Env)
abbrev fR:=fun x0 x1 x2 x3 x4=>([(0,.loc bG (.pair .no (.pair .no (.pair .mp .no))) x0),(5,.own true 27 U5 .no x1),(21,.own true 73 aZ .no x2),(22,.v U2 x3),(23,.v U2 x4)]:Env)
abbrev Rt:=fun x0 x1 x2 x3 x4 x5=>([(0,.loc bG (.pair .no (.pair .no (.pair .mp .no))) x0),(5,.own true 27 U5 .no x1),(7,.loc aZ .no x2),(21,.own true 73 aZ .no x3),(22,.v U2 x4),(23,.v U2 x5)]:Env)
abbrev lC:=fun x0 x1 x2 x3 x4 x5 x6 x7 x8=>([(0,.loc bG (.pair .no (.pair .no (.pair .mp .no))) x0),(5,.own true 27 U5 .no x1),(7,.loc aZ .no x2),(21,.own true 73 aZ .no x3),(22,.v U2 x4),(23,.v U2 x5),(33,.own true 27 U5 .no x6),(34,.v U2 x7),(35,.v U2 x8)]:Env)
abbrev vc:=fun x0 x1=>([(0,.loc bG (.pair .no (.pair .no (.pair .mp .no))) x0),(5,.own true 27 U5 .no x1)]:Env)
abbrev Iz:=fun x0 x1=>([(0,.loc bG (.pair .no (.pair .no (.pair .mp .no))) x0),(4,.ref 5 []),(5,.own true 27 U5 .no x1)]:Env)
abbrev kT:=fun x0 x1=>([(0,.v ak x0),(1,.v U5 x1)]:Env)
abbrev lD:=fun x0 x1 x2 x3 x4=>([(2,.loc ak .no x0),(5,.v U2 x1),(8,.v U5 x2),(9,.v U2 x3),(10,.v U2 x4)]:Env)
abbrev kU:=fun x0 x1=>([(0,.v U5 x0),(1,.v U5 x1)]:Env)
abbrev lF:=fun x0 x1 x2 x3 x4=>([(0,.v U5 x0),(1,.v U5 x1),(9,.v U5 x2),(10,.v U2 x3),(11,.v U2 x4)]:Env)
abbrev IA:=fun x0=>([(0,.dead),(1,.dead),(4,.v U2 x0),(9,.dead),(10,.dead),(11,.dead)]:Env)
abbrev ng:=fun x0 x1=>([(0,.v U5 x0),(1,.v U5 x1),(4,.dead)]:Env)
abbrev lG:=fun x0 x1 x2 x3=>([(3,.v U2 x0),(6,.v U5 x1),(7,.v U2 x2),(8,.v U2 x3)]:Env)
abbrev IB:=fun x0=>([(2,.v U2 x0),(3,.dead),(6,.dead),(7,.dead),(8,.dead)]:Env)
abbrev Ru:=fun x0 x1=>([(1,.dead),(2,.dead),(4,.own true 27 U5 .no x0),(5,.v U2 x1)]:Env)
abbrev Rv:=fun x0 x1=>([(2,.dead),(4,.own true 27 U5 .no x0),(5,.v U2 x1),(7,.dead),(8,.dead),(21,.dead)]:Env)
abbrev Rw:=fun x0 x1=>([(4,.ref 10 []),(5,.v U2 x0),(10,.own true 27 U5 .no x1)]:Env)
abbrev Rx:=fun x0 x1 x2=>([(2,.dead),(4,.own true 3 U2 .no x0),(5,.v U2 x1),(6,.v U2 x2),(7,.dead)]:Env)
abbrev lI:=fun x0 x1 x2 x3 x4=>([(2,.loc ak .no x0),(6,.sb 123 5 x1),(9,.v U5 x2),(10,.v U2 x3),(11,.v U2 x4)]:Env)
abbrev IC:=fun x0 x1=>([(2,.dead),(4,.v .str x0),(5,.v .bool x1),(6,.dead),(9,.dead),(10,.dead),(11,.dead)]:Env)
abbrev rX:=fun x0 x1=>([(4,.v .str x0),(5,.v .bool x1),(6,.dead)]:Env)
abbrev vd:=fun x0=>([(4,.dead),(5,.dead),(6,.sb 123 5 x0)]:Env)
abbrev ID:=fun x0 x1=>([(1,.dead),(2,.dead),(4,.own true 3 U2 .no x0),(5,.v U2 x1)]:Env)
abbrev Ry:=fun x0 x1 x2 x3=>([(1,.v U5 x0),(2,.loc ak .no x1),(7,.own true 3 U2 .no x2),(8,.v U2 x3)]:Env)
abbrev gR:=fun x0 x1 x2 x3 x4 x5=>([(2,.loc ak .no x0),(7,.own true 3 U2 .no x1),(8,.v U2 x2),(17,.v U5 x3),(18,.v U2 x4),(19,.v U2 x5)]:Env)
abbrev pk:=fun x0 x1 x2 x3 x4 x5 x6=>([(2,.loc ak .no x0),(7,.own true 3 U2 .no x1),(8,.v U2 x2),(10,.v U2 x3),(17,.v U5 x4),(18,.v U2 x5),(19,.v U2 x6)]:Env)
abbrev lJ:=fun x0 x1 x2 x3 x4 x5 x6 x7 x8=>([(2,.loc ak .no x0),(7,.own true 3 U2 .no x1),(8,.v U2 x2),(10,.v U2 x3),(17,.v U5 x4),(18,.v U2 x5),(19,.v U2 x6),(29,.v U2 x7),(30,.v U2 x8)]:Env)
abbrev ve:=fun x0=>([(7,.own true 3 U2 .no x0)]:Env)
abbrev IF:=fun x0 x1=>([(4,.ref 7 []),(5,.v U2 x0),(7,.own true 3 U2 .no x1)]:Env)
abbrev IG:=fun x0 x1=>([(1,.dead),(2,.dead),(4,.v U2 x0),(5,.v U2 x1)]:Env)
abbrev Rz:=fun x0 x1 x2 x3=>([(1,.v .str x0),(2,.loc ak .no x1),(7,.own true 4 .bool .no x2),(8,.v U2 x3)]:Env)
abbrev fS:=fun x0 x1 x2 x3 x4 x5=>([(1,.v .str x0),(2,.loc ak .no x1),(7,.own true 4 .bool .no x2),(8,.v U2 x3),(25,.ref 7 []),(26,.v U2 x4),(27,.v U2 x5)]:Env)
abbrev RA:=fun x0 x1 x2 x3 x4 x5 x6=>([(1,.v .str x0),(2,.loc ak .no x1),(7,.own true 4 .bool .no x2),(8,.v U2 x3),(9,.v U2 x4),(25,.ref 7 []),(26,.v U2 x5),(27,.v U2 x6)]:Env)
abbrev lK:=fun x0 x1 x2 x3 x4 x5 x6 x7 x8 x9=>([(1,.v .str x0),(2,.loc ak .no x1),(7,.own true 4 .bool .no x2),(8,.v U2 x3),(9,.v U2 x4),(25,.ref 7 []),(26,.v U2 x5),(27,.v U2 x6),(36,.v bW x7),(37,.v U2 x8),(38,.v U2 x9)]:Env)
abbrev lL:=fun x0 x1 x2=>([(0,.v U5 x0),(1,.v U5 x1),(5,.v U2 x2)]:Env)
abbrev lM:=fun x0 x1 x2=>([(0,.v U7 x0),(1,.v U7 x1),(5,.v U2 x2)]:Env)
abbrev lN:=fun x0 x1 x2 x3=>([(0,.v U5 x0),(1,.v U5 x1),(12,.v U2 x2),(13,.v U2 x3)]:Env)
abbrev RB:=fun x0=>([(0,.v .bool x0),(2,.dead),(4,.dead),(6,.dead),(9,.dead)]:Env)
abbrev pn:=fun x0 x1 x2=>([(1,.loc fx .no x0),(2,.loc ak (.pair .no (.pair (.own true 43 .no) .no)) x1),(3,.loc ak .no x2)]:Env)
abbrev lO:=fun x0 x1 x2 x3=>([(1,.loc fx .no x0),(2,.loc ak (.pair .no (.pair (.own true 43 .no) .no)) x1),(3,.loc ak .no x2),(4,.v U2 x3)]:Env)
abbrev lP:=fun x0 x1 x2 x3=>([(1,.loc fx .no x0),(2,.loc ak (.pair .no (.pair (.own true 43 .no) .no)) x1),(3,.loc ak .no x2),(7,.v U2 x3)]:Env)
abbrev vf:=fun x0 x1=>([(2,.loc ak (.pair .no (.pair (.own true 43 .no) .no)) x0),(3,.loc ak .no x1)]:Env)
abbrev po:=fun x0 x1=>([(0,.v lp x0),(3,.v U2 x1)]:Env)
abbrev lR:=fun x0 x1 x2 x3 x4=>([(0,.v lp x0),(3,.v U2 x1),(9,.v lp x2),(10,.v U2 x3),(11,.v U2 x4)]:Env)
abbrev lS:=fun x0 x1 x2 x3=>([(6,.own true 43 aC .no x0),(25,.v lp x1),(26,.v U2 x2),(27,.v U2 x3)]:Env)
abbrev vg:=fun x0=>([(6,.own true 43 aC .no x0)]:Env)
abbrev II:=fun x0=>([(2,.ref 6 []),(6,.own true 43 aC .no x0)]:Env)
abbrev lT:=fun x0 x1=>([(0,.v bt x0),(5,.v U2 x1)]:Env)
abbrev IJ:=fun x0=>([(0,.dead),(4,.v .bool x0),(5,.dead)]:Env)
abbrev lU:=fun x0 x1 x2=>([(1,.loc ak .no x0),(3,.v U2 x1),(4,.v U2 x2)]:Env)
abbrev IK:=fun x0=>([(1,.dead),(2,.v .bool x0),(3,.dead),(4,.dead)]:Env)
abbrev rY:=fun x0=>([(2,.v .bool x0),(3,.dead)]:Env)
abbrev vh:=fun x0 x1=>([(0,.v U7 x0),(1,.v U5 x1)]:Env)
abbrev lV:=fun x0 x1 x2=>([(0,.v U7 x0),(1,.v U5 x1),(5,.v U2 x2)]:Env)
abbrev IM:=fun x0 x1 x2=>([(0,.v fx x0),(1,.v .str x1),(2,.v bW x2)]:Env)
abbrev IN:=fun x0=>([(1,.dead),(2,.dead),(3,.dead),(6,.v .bool x0)]:Env)
abbrev pq:=fun x0=>([(1,.dead),(6,.v .bool x0),(7,.dead),(8,.dead)]:Env)
abbrev IP:=fun x0=>([(1,.dead),(6,.v .bool x0),(7,.dead),(8,.dead),(9,.dead),(11,.dead)]:Env)
abbrev RC:=fun x0 x1 x2 x3 x4=>([(1,.v .str x0),(6,.dead),(7,.loc ak .no x1),(8,.loc ak (.pair .no (.pair (.own false 43 .no) .no)) x2),(9,.own true 27 U5 .no x3),(11,.own true 27 U5 .no x4)]:Env)
abbrev lW:=fun x0 x1 x2 x3 x4 x5 x6=>([(1,.v .str x0),(7,.loc ak .no x1),(8,.loc ak (.pair .no (.pair (.own false 43 .no) .no)) x2),(9,.own true 27 U5 .no x3),(11,.own true 27 U5 .no x4),(87,.ref 9 []),(88,.v U2 x5),(89,.v U2 x6)]:Env)
abbrev IQ:=fun x0=>([(1,.dead),(6,.v .bool x0),(7,.dead),(8,.dead),(9,.dead),(11,.dead),(87,.dead),(88,.dead),(89,.dead)]:Env)
abbrev vi:=fun x0 x1 x2=>([(1,.v .str x0),(6,.dead),(7,.loc ak .no x1),(8,.loc ak (.pair .no (.pair (.own false 43 .no) .no)) x2)]:Env)
variable {N:Nat} {cl:az} {R:Type} {K:KE R}
def Tl (k0:V4→aG→Int→Option R) (x0:V4):Option R:=
k0 x0 [] (0:Int)
theorem ark (x0):exec cl N Bx [(0,.v .str x0)] K=(Tl (fun y0 y1 y2=>exec cl N Bw (e0 y0 y1 y2) K) x0):=by
 delta Bx
 generalize Bw=q
 revert q
 refine id ?_
 intro q
 kernel_rfl
def Tg (k0:V4→aG→Int→Int→Option R) (x0:V4) (x1:aG) (x2:Int):Option R:=
k0 x0 x1 x2 (0:Int)
theorem arf (x0 x1 x2):exec cl N Qw (e0 x0 x1 x2) K=(Tg (fun y0 y1 y2 y3=>K .normal (e1 y0 y1 y2 y3)) x0 x1 x2):=by
 kernel_rfl
theorem Vc (x0 x1 x2 x3):aj [0,3,4,5] (e1 x0 x1 x2 x3)=(e1 x0 x1 x2 x3):=by kernel_rfl
def Ti (k0:V4→aG→Int→Int→Option R) (k1:V4→aG→Int→Int→Option R) (x0:V4) (x1:aG) (x2 x3:Int):Option R:=
ad (decide (x3≤(x0.length:Int))) (ad (x3==(x0.length:Int)) (ad (x2==x3) (k0 x0 x1 x2 x3) (ad (x3==(x0.length:Int)) (if 0≤x2∧x2≤x3∧x3≤(x0.length:Int) then
let v27:V4:=((x0.drop x2.toNat).take (x3.toNat - x2.toNat))
if x1.length+[v27].length≤8796093022208 then
k1 x0 (x1++[v27]) (IntKind.i64.wrap (x3+(1:Int))) (IntKind.i64.wrap (x3+(1:Int)))
else none
else none) (if 0≤x3∧x3 < (x0.length:Int) then
ad (((x0.getD x3.toNat 0).toNat:Int)==(10:Int)) (if 0≤x2∧x2≤x3∧x3≤(x0.length:Int) then
let v32:V4:=((x0.drop x2.toNat).take (x3.toNat - x2.toNat))
if x1.length+[v32].length≤8796093022208 then
k1 x0 (x1++[v32]) (IntKind.i64.wrap (x3+(1:Int))) (IntKind.i64.wrap (x3+(1:Int)))
else none
else none) (k1 x0 x1 x2 (IntKind.i64.wrap (x3+(1:Int))))
else none))) (ad (x3==(x0.length:Int)) (if 0≤x2∧x2≤x3∧x3≤(x0.length:Int) then
let v37:V4:=((x0.drop x2.toNat).take (x3.toNat - x2.toNat))
if x1.length+[v37].length≤8796093022208 then
k1 x0 (x1++[v37]) (IntKind.i64.wrap (x3+(1:Int))) (IntKind.i64.wrap (x3+(1:Int)))
else none
else none) (if 0≤x3∧x3 < (x0.length:Int) then
ad (((x0.getD x3.toNat 0).toNat:Int)==(10:Int)) (if 0≤x2∧x2≤x3∧x3≤(x0.length:Int) then
let v42:V4:=((x0.drop x2.toNat).take (x3.toNat - x2.toNat))
if x1.length+[v42].length≤8796093022208 then
k1 x0 (x1++[v42]) (IntKind.i64.wrap (x3+(1:Int))) (IntKind.i64.wrap (x3+(1:Int)))
else none
else none) (k1 x0 x1 x2 (IntKind.i64.wrap (x3+(1:Int))))
else none))) (k0 x0 x1 x2 x3)
theorem arh (x0 x1 x2 x3):exec cl N Ht (e1 x0 x1 x2 x3) K=(Ti (fun y0 y1 y2 y3=>K (.exit 0) (e1 y0 y1 y2 y3)) (fun y0 y1 y2 y3=>K .normal (e1 y0 y1 y2 y3)) x0 x1 x2 x3):=by
 kernel_rfl
def KT {R:Type} (k0:V4→aG→Int→Int→Option R):Nat→V4→aG→Int→Int→Option R
 | 0,_,_,_,_=>none
 | m+1,x0,x1,x2,x3=>(Ti k0 (KT k0 m) x0 x1 x2 x3)
theorem afP:∀ (m) (x0 x1 x2 x3),iter [0,3,4,5] (fun env K=>exec cl N Ht env K) K m (e1 x0 x1 x2 x3)=KT (fun y0 y1 y2 y3=>K (.exit 0) (e1 y0 y1 y2 y3)) m x0 x1 x2 x3:=by
 intro m
 induction m with
 | zero=>intros; rfl
 | succ m ih=>
   intro x0 x1 x2 x3
   simp only [bZ,arh,b6,b5,b7,Vc,ih]
   rfl
theorem adN (x0 x1 x2 x3):aj [3] (e1 x0 x1 x2 x3)=(e2 x1):=by kernel_rfl
def Tj (N:Nat) (k0:aG→Option R) (x0:V4) (x1:aG) (x2 x3:Int):Option R:=
KT (fun y0 y1 y2 y3=>k0 y1) N x0 x1 x2 x3
theorem ari (x0 x1 x2 x3):exec cl N Hu (e1 x0 x1 x2 x3) K=(Tj N (fun y0=>K (.exit 0) (e2 y0)) x0 x1 x2 x3):=by
 simp only [Hu,aT,bX,Vc,afP,adN]
 rfl
theorem adO (x0):aj [3] (e2 x0)=(e2 x0):=by kernel_rfl
def Tk (k0:aG→Option R) (x0:aG):Option R:=
k0 x0
theorem arj (x0):exec cl N Qz (e2 x0) K=(Tk (fun y0=>K .ret (e3 y0)) x0):=by
 kernel_rfl
def Tm (N:Nat) (k0:aG→Option R) (x0:V4):Option R:=
(Tl (Tg (Tj N ((Tk k0)))) x0)
theorem arl (x0):exec cl N Bx [(0,.v .str x0)] K=(Tm N (fun y0=>K .ret (e3 y0)) x0):=by
 simp only [bY,b9,b8,ca,ark,Bw,Qy,arf,Qx,aT,cx,ari,ct,cw,cq,adO,arj]
 rfl
theorem aj7 (y0):ag d92 .ret (e3 y0)=some [.own true 9 .str .no y0]:=by kernel_rfl
def Kc (N:Nat) (x0:V4) (k:aG→Option R):Option R:=
(Tm N k x0)
theorem Zo (x0) (k:List E→Option R):exec cl N Hs [(0,.v .str x0)] (fun e env=>(ag d92 e env).bind k)=Kc N x0 (fun r0=>k [.own true 9 .str .no r0]):=by
 simp only [Hs,arl,aj7,ar]
 rfl
def B4 (S:V4→Option fP):aQ:=cG 92 .str S fun b=> [.own true 9 .str .no b]
def gg (N:Nat) (x0:V4):Option fP:=Kc N x0 (fun (r0:aG)=>some (r0))
def Ts (k0:V4→aG→Int→Option R) (x0:V4):Option R:=
k0 x0 [] (0:Int)
theorem ars (x0):exec cl N Bz [(0,.v .str x0)] K=(Ts (fun y0 y1 y2=>exec cl N By (e0 y0 y1 y2) K) x0):=by
 delta Bz
 generalize By=q
 revert q
 refine id ?_
 intro q
 kernel_rfl
def Tn (k0:V4→aG→Int→Int→Option R) (x0:V4) (x1:aG) (x2:Int):Option R:=
k0 x0 x1 x2 (0:Int)
theorem arn (x0 x1 x2):exec cl N QA (e0 x0 x1 x2) K=(Tn (fun y0 y1 y2 y3=>K .normal (e1 y0 y1 y2 y3)) x0 x1 x2):=by
 kernel_rfl
theorem Vd (x0 x1 x2 x3):aj [0,3,4,5] (e1 x0 x1 x2 x3)=(e1 x0 x1 x2 x3):=by kernel_rfl
def To (k0:aG→Option R) (k1:V4→aG→Int→Int→Option R) (k2:V4→aG→Int→Int→Option R) (x0:V4) (x1:aG) (x2 x3:Int):Option R:=
ad (decide (x3≤(x0.length:Int))) (ad (x3==(x0.length:Int)) (ad (x3==x2) (k0 []) (if 0≤x2∧x2≤x3∧x3≤(x0.length:Int) then
let v67:V4:=((x0.drop x2.toNat).take (x3.toNat - x2.toNat))
if x1.length+[v67].length≤8796093022208 then
k1 x0 (x1++[v67]) (IntKind.i64.wrap (x3+(1:Int))) (IntKind.i64.wrap (x3+(1:Int)))
else none
else none)) (if 0≤x3∧x3 < (x0.length:Int) then
ad (((x0.getD x3.toNat 0).toNat:Int)==(32:Int)) (ad (x3==x2) (k0 []) (if 0≤x2∧x2≤x3∧x3≤(x0.length:Int) then
let v72:V4:=((x0.drop x2.toNat).take (x3.toNat - x2.toNat))
if x1.length+[v72].length≤8796093022208 then
k1 x0 (x1++[v72]) (IntKind.i64.wrap (x3+(1:Int))) (IntKind.i64.wrap (x3+(1:Int)))
else none
else none)) (k1 x0 x1 x2 (IntKind.i64.wrap (x3+(1:Int))))
else none)) (k2 x0 x1 x2 x3)
theorem aro (x0 x1 x2 x3):exec cl N Hw (e1 x0 x1 x2 x3) K=(To (fun y0=>K .ret (e4 y0)) (fun y0 y1 y2 y3=>K .normal (e1 y0 y1 y2 y3)) (fun y0 y1 y2 y3=>K (.exit 0) (e1 y0 y1 y2 y3)) x0 x1 x2 x3):=by
 kernel_rfl
def KU {R:Type} (k0:aG→Option R) (k1:V4→aG→Int→Int→Option R):Nat→V4→aG→Int→Int→Option R
 | 0,_,_,_,_=>none
 | m+1,x0,x1,x2,x3=>(To k0 (KU k0 k1 m) k1 x0 x1 x2 x3)
theorem afQ:∀ (m) (x0 x1 x2 x3),iter [0,3,4,5] (fun env K=>exec cl N Hw env K) K m (e1 x0 x1 x2 x3)=KU (fun y0=>K .ret (e4 y0)) (fun y0 y1 y2 y3=>K (.exit 0) (e1 y0 y1 y2 y3)) m x0 x1 x2 x3:=by
 intro m
 induction m with
 | zero=>intros; rfl
 | succ m ih=>
   intro x0 x1 x2 x3
   simp only [bZ,aro,b6,b5,b7,Vd,ih]
   rfl
theorem adP (x0):aj [2,3] (e4 x0)=(e5 x0):=by kernel_rfl
theorem adQ (x0 x1 x2 x3):aj [2,3] (e1 x0 x1 x2 x3)=(e6 x1):=by kernel_rfl
def Tp (N:Nat) (k0:aG→Option R) (k1:aG→Option R) (x0:V4) (x1:aG) (x2 x3:Int):Option R:=
KU k0 (fun y0 y1 y2 y3=>k1 y1) N x0 x1 x2 x3
theorem arp (x0 x1 x2 x3):exec cl N Hx (e1 x0 x1 x2 x3) K=(Tp N (fun y0=>K .ret (e5 y0)) (fun y0=>K (.exit 0) (e6 y0)) x0 x1 x2 x3):=by
 simp only [Hx,aT,bX,Vd,afQ,adP,adQ]
 rfl
theorem adR (x0):aj [2,3] (e5 x0)=(e5 x0):=by kernel_rfl
theorem adS (x0):aj [2,3] (e6 x0)=(e6 x0):=by kernel_rfl
def Tr (k0:aG→Option R) (x0:aG):Option R:=
k0 x0
theorem arq (x0):exec cl N QD (e6 x0) K=(Tr (fun y0=>K .ret (e3 y0)) x0):=by
 kernel_rfl
def Tt (N:Nat) (k0:aG→Option R) (k1:aG→Option R) (x0:V4):Option R:=
(Ts (Tn (Tp N k0 ((Tr k1)))) x0)
theorem art (x0):exec cl N Bz [(0,.v .str x0)] K=(Tt N (fun y0=>K .ret (e5 y0)) (fun y0=>K .ret (e3 y0)) x0):=by
 simp only [bY,b9,b8,ca,ars,By,QC,arn,QB,aT,cx,arp,ct,cw,cq,adR,adS,arq]
 rfl
theorem aj8 (y0):ag d93 .ret (e5 y0)=some [.own true 9 .str .no y0]:=by kernel_rfl
theorem aj9 (y0):ag d93 .ret (e3 y0)=some [.own true 9 .str .no y0]:=by kernel_rfl
def Kd (N:Nat) (x0:V4) (k:aG→Option R):Option R:=
(Tt N k k x0)
theorem Zp (x0) (k:List E→Option R):exec cl N Hv [(0,.v .str x0)] (fun e env=>(ag d93 e env).bind k)=Kd N x0 (fun r0=>k [.own true 9 .str .no r0]):=by
 simp only [Hv,art,aj8,aj9,ar]
 rfl
def lx (S:V4→Option fP):aQ:=cG 93 .str S fun b=> [.own true 9 .str .no b]
def bR (N:Nat) (x0:V4):Option fP:=Kd N x0 (fun (r0:aG)=>some (r0))
def Sr (k0:V4→aG→Option R) (x0:V4):Option R:=
k0 x0 [([]:List UInt8)]
theorem am7 (x0):exec cl N Aw [(0,.v .str x0)] K=(Sr (fun y0 y1=>exec cl N Av [(0,.v .str y0),(3,.own true 9 .str .no y1)] K) x0):=by
 delta Aw
 generalize Av=q
 revert q
 refine id ?_
 intro q
 kernel_rfl
def Sm (k0:V4→aG→Int→Option R) (x0:V4) (x1:aG):Option R:=
k0 x0 x1 (0:Int)
theorem am3 (x0 x1):exec cl N Nb [(0,.v .str x0),(3,.own true 9 .str .no x1)] K=(Sm (fun y0 y1 y2=>K .normal (e0 y0 y1 y2)) x0 x1):=by
 kernel_rfl
theorem Uv (x0 x1 x2):aj [0,3,4] (e0 x0 x1 x2)=(e0 x0 x1 x2):=by kernel_rfl
def Sn (k0:V4→aG→Int→Option R) (k1:V4→aG→Int→Option R) (x0:V4) (x1:aG) (x2:Int):Option R:=
ad (decide (x2 < (x0.length:Int))) (if 0≤x2∧x2 < (x0.length:Int) then
ad (((x0.getD x2.toNat 0).toNat:Int)==(32:Int)) (if x1.length+[([]:List UInt8)].length≤8796093022208 then
k0 x0 (x1++[([]:List UInt8)]) (IntKind.i64.wrap (x2+(1:Int)))
else none) (let v102:Int:=(IntKind.i64.wrap ((x1.length:Int) - (1:Int)))
let v103:Int:=(IntKind.i64.wrap ((x1.length:Int) - (1:Int)))
if 0≤v103∧v103 < (x1.length:Int) then
if v103.toNat < x1.length then
let v105:Int:=(IntKind.i64.wrap (x2+(1:Int)))
if 0≤x2∧x2≤v105∧v105≤(x0.length:Int) then
let v106:V4:=((x0.drop x2.toNat).take (v105.toNat - x2.toNat))
if (x1.getD v103.toNat []).length+v106.length≤140737488355328 then
if 0≤v102∧v102 < (x1.length:Int) then
if v102.toNat < x1.length then
k0 x0 (x1.set v102.toNat ((x1.getD v103.toNat [])++v106)) (IntKind.i64.wrap (x2+(1:Int)))
else none
else none
else none
else none
else none
else none)
else none) (k1 x0 x1 x2)
theorem am4 (x0 x1 x2):exec cl N EV (e0 x0 x1 x2) K=(Sn (fun y0 y1 y2=>K .normal (e0 y0 y1 y2)) (fun y0 y1 y2=>K (.exit 0) (e0 y0 y1 y2)) x0 x1 x2):=by
 kernel_rfl
def KL {R:Type} (k0:V4→aG→Int→Option R):Nat→V4→aG→Int→Option R
 | 0,_,_,_=>none
 | m+1,x0,x1,x2=>(Sn (KL k0 m) k0 x0 x1 x2)
theorem afc:∀ (m) (x0 x1 x2),iter [0,3,4] (fun env K=>exec cl N EV env K) K m (e0 x0 x1 x2)=KL (fun y0 y1 y2=>K (.exit 0) (e0 y0 y1 y2)) m x0 x1 x2:=by
 intro m
 induction m with
 | zero=>intros; rfl
 | succ m ih=>
   intro x0 x1 x2
   simp only [bZ,am4,b6,b5,b7,Uv,ih]
   rfl
theorem abO (x0 x1 x2):aj [3] (e0 x0 x1 x2)=(e2 x1):=by kernel_rfl
def Sp (N:Nat) (k0:aG→Option R) (x0:V4) (x1:aG) (x2:Int):Option R:=
KL (fun y0 y1 y2=>k0 y1) N x0 x1 x2
theorem am5 (x0 x1 x2):exec cl N EW (e0 x0 x1 x2) K=(Sp N (fun y0=>K (.exit 0) (e2 y0)) x0 x1 x2):=by
 simp only [EW,aT,bX,Uv,afc,abO]
 rfl
theorem abP (x0):aj [3] (e2 x0)=(e2 x0):=by kernel_rfl
def Sq (k0:aG→Option R) (x0:aG):Option R:=
k0 x0
theorem am6 (x0):exec cl N Ng (e2 x0) K=(Sq (fun y0=>K .ret (e3 y0)) x0):=by
 kernel_rfl
def Ss (N:Nat) (k0:aG→Option R) (x0:V4):Option R:=
(Sr (Sm (Sp N ((Sq k0)))) x0)
theorem am8 (x0):exec cl N Aw [(0,.v .str x0)] K=(Ss N (fun y0=>K .ret (e3 y0)) x0):=by
 simp only [bY,b9,b8,ca,am7,Av,Nf,am3,Nc,aT,cx,am5,ct,cw,cq,abP,am6]
 rfl
theorem aiw (y0):ag d138 .ret (e3 y0)=some [.own true 9 .str .no y0]:=by kernel_rfl
def JB (N:Nat) (x0:V4) (k:aG→Option R):Option R:=
(Ss N k x0)
theorem Yw (x0) (k:List E→Option R):exec cl N EU [(0,.v .str x0)] (fun e env=>(ag d138 e env).bind k)=JB N x0 (fun r0=>k [.own true 9 .str .no r0]):=by
 simp only [EU,am8,aiw,ar]
 rfl
def BU (S:V4→Option fP):aQ:=cG 138 .str S fun b=> [.own true 9 .str .no b]
def ga (N:Nat) (x0:V4):Option fP:=JB N x0 (fun (r0:aG)=>some (r0))
def SI (k0:V4→Option R):Option R:=
k0 ([32,118,100,109,108,110,115,120,103,98]:List UInt8)
theorem anD:exec cl N NA [] K=(SI (fun y0=>K .ret [(0,.v .str y0)])):=by
 kernel_rfl
theorem aiJ (y0):ag d148 .ret [(0,.v .str y0)]=some [.v .str y0]:=by kernel_rfl
def JH (k:V4→Option R):Option R:=
(SI k)
theorem YD (k:List E→Option R):exec cl N Fg [] (fun e env=>(ag d148 e env).bind k)=JH (fun r0=>k [.v .str r0]):=by
 simp only [Fg,anD,aiJ,ar]
 rfl
def o9 (S:Option V6):aQ:={A:=Unit,B:=V4,f:=148,enc:=fun a=> [],dec:=ck,S:=fun a=>S,av:=fun b=> [.v .str b],ok:=(fun es b h=>ir h)}
def dE (N:Nat):Option V6:=JH (fun (r0:V4)=>some (r0))
def Jo (k0:Bool→Option R) (x0:aR):Option R:=
ad (x0.1==(1:Int)) (k0 true) (k0 (x0.1==(2:Int)))
theorem al7 (x0):exec cl N Mu [(0,.v aD x0)] K=(Jo (fun y0=>K .ret [(2,.v .bool y0)]) x0):=by
 kernel_rfl
theorem ah4 (y0):ag d114 .ret [(2,.v .bool y0)]=some [.v .bool y0]:=by kernel_rfl
def Co (x0:aR) (k:Bool→Option R):Option R:=
(Jo k x0)
theorem Ye (x0) (k:List E→Option R):exec cl N Ei [(0,.v aD x0)] (fun e env=>(ag d114 e env).bind k)=Co x0 (fun r0=>k [.v .bool r0]):=by
 simp only [Ei,al7,ah4,ar]
 rfl
def BP (S:aR→Option (Bool)):aQ:=cG 114 aD S fun b=> [.v .bool b]
def fE (N:Nat) (x0:aR):Option (Bool):=Co x0 (fun (r0:Bool)=>some (r0))
def JA (k0:Bool→Option R) (x0:Int):Option R:=
ad (decide (x0≥(97:Int))) (ad (decide (x0≤(122:Int))) (k0 true) (ad (decide (x0≥(48:Int))) (ad (decide (x0≤(57:Int))) (k0 true) (ad (x0==(95:Int)) (k0 true) (ad (x0==(94:Int)) (k0 true) (k0 (x0==(39:Int)))))) (ad (x0==(95:Int)) (k0 true) (ad (x0==(94:Int)) (k0 true) (k0 (x0==(39:Int))))))) (ad (decide (x0≥(48:Int))) (ad (decide (x0≤(57:Int))) (k0 true) (ad (x0==(95:Int)) (k0 true) (ad (x0==(94:Int)) (k0 true) (k0 (x0==(39:Int)))))) (ad (x0==(95:Int)) (k0 true) (ad (x0==(94:Int)) (k0 true) (k0 (x0==(39:Int))))))
theorem am2 (x0):exec cl N Na [(0,.v U0 x0)] K=(JA (fun y0=>K .ret [(2,.v .bool y0)]) x0):=by
 kernel_rfl
theorem aiv (y0):ag d137 .ret [(2,.v .bool y0)]=some [.v .bool y0]:=by kernel_rfl
def Cu (x0:Int) (k:Bool→Option R):Option R:=
(JA k x0)
theorem Yv (x0) (k:List E→Option R):exec cl N ET [(0,.v U0 x0)] (fun e env=>(ag d137 e env).bind k)=Cu x0 (fun r0=>k [.v .bool r0]):=by
 simp only [ET,am2,aiv,ar]
 rfl
def rM (S:Int→Option (Bool)):aQ:=cG 137 U0 S fun b=> [.v .bool b]
def dv (N:Nat) (x0:Int):Option (Bool):=Cu x0 (fun (r0:Bool)=>some (r0))
def vQ (k0:Int→Option R) (k1:aR→Bool→Option R) (x0:aR):Option R:=
ad (decide (x0.1 < (1:Int))) (k0 (1:Int)) (ad (decide (x0.1 > (9:Int))) (k0 (1:Int)) (ad (x0.1==(1:Int)) (ad (decide (x0.2.1≥(1:Int))) (ad (x0.1==(2:Int)) (k1 x0 (x0.2.1==(2:Int))) (k1 x0 (decide (x0.2.1≤(3:Int))))) (ad (x0.1==(2:Int)) (k1 x0 (x0.2.1==(2:Int))) (k1 x0 false))) (ad (x0.1==(2:Int)) (k1 x0 (x0.2.1==(2:Int))) (k1 x0 (x0.2.1==(0:Int))))))
theorem amo (x0):exec cl N Ak [(0,.v aD x0)] K=(vQ (fun y0=>K .ret (e7 y0)) (fun y0 y1=>exec cl N uI [(1,.loc aD .no y0),(3,.v .bool y1)] K) x0):=by
 delta Ak
 generalize uI=q
 revert q
 refine id ?_
 intro q
 kernel_rfl
def vP (k0:Int→Option R) (k1:aR→Option R) (x0:aR) (x1:Bool):Option R:=
ad (!x1) (k0 (6:Int)) (ad (x0.2.2.1==([]:List UInt8)) (k0 (7:Int)) (ad (decide ((x0.2.2.1.length:Int) > (8:Int))) (k0 (3:Int)) (k1 x0)))
theorem amn (x0 x1):exec cl N uI [(1,.loc aD .no x0),(3,.v .bool x1)] K=(vP (fun y0=>K .ret (e7 y0)) (fun y0=>exec cl N Aj [(1,.loc aD .no y0),(2,.dead)] K) x0 x1):=by
 delta uI
 generalize Aj=q
 revert q
 refine id ?_
 intro q
 kernel_rfl
def vL (k0:aR→Int→Option R) (x0:aR):Option R:=
k0 x0 (0:Int)
theorem amj (x0):exec cl N MB [(1,.loc aD .no x0),(2,.dead)] K=(vL (fun y0 y1=>K .normal (e8 y0 y1)) x0):=by
 kernel_rfl
theorem Up (x0 x1):aj [1,4] (e8 x0 x1)=(e8 x0 x1):=by kernel_rfl
def vM (dv:Int→Option (Bool)) (k0:Int→Option R) (k1:aR→Int→Option R) (k2:aR→Int→Option R) (x0:aR) (x1:Int):Option R:=
ad (decide (x1 < (x0.2.2.1.length:Int))) (if 0≤x1∧x1 < (x0.2.2.1.length:Int) then
(dv ((x0.2.2.1.getD x1.toNat 0).toNat:Int)).bind fun r259=>
ad (!r259) (k0 (2:Int)) (k1 x0 (IntKind.i64.wrap (x1+(1:Int))))
else none) (k2 x0 x1)
theorem amk (dv) (h137:(rM dv).holds cl) (x0 x1):exec cl N Er (e8 x0 x1) K=(vM dv (fun y0=>K .ret (e9 y0)) (fun y0 y1=>K .normal (e8 y0 y1)) (fun y0 y1=>K (.exit 0) (e8 y0 y1)) x0 x1):=by
 rw [←aN h137]
 kernel_rfl
def tc {R:Type} (dv:Int→Option (Bool)) (k0:Int→Option R) (k1:aR→Int→Option R):Nat→aR→Int→Option R
 | 0,_,_=>none
 | m+1,x0,x1=>(vM dv k0 (tc dv k0 k1 m) k1 x0 x1)
theorem ae6 (dv) (h137:(rM dv).holds cl):∀ (m) (x0 x1),iter [1,4] (fun env K=>exec cl N Er env K) K m (e8 x0 x1)=tc dv (fun y0=>K .ret (e9 y0)) (fun y0 y1=>K (.exit 0) (e8 y0 y1)) m x0 x1:=by
 intro m
 induction m with
 | zero=>intros; rfl
 | succ m ih=>
   intro x0 x1
   simp only [bZ,amk dv h137,b6,b5,b7,Up,ih]
   rfl
theorem abr (x0):aj [2] (e9 x0)=[(2,.v U2 x0)]:=by kernel_rfl
theorem abt (x0 x1):aj [2] (e8 x0 x1)=[(2,.dead)]:=by kernel_rfl
def vN (N:Nat) (dv:Int→Option (Bool)) (k0:Int→Option R) (k1:Option R) (x0:aR) (x1:Int):Option R:=
tc dv k0 (fun y0 y1=>k1) N x0 x1
theorem aml (dv) (h137:(rM dv).holds cl) (x0 x1):exec cl N Es (e8 x0 x1) K=(vN N dv (fun y0=>K .ret [(2,.v U2 y0)]) (K (.exit 0) [(2,.dead)]) x0 x1):=by
 simp only [Es,aT,bX,Up,ae6 dv h137,abr,abt]
 rfl
theorem abu (x0):aj [2] [(2,.v U2 x0)]=[(2,.v U2 x0)]:=by kernel_rfl
theorem abv:aj [2] [(2,.dead)]=[(2,.dead)]:=by kernel_rfl
def vO (k0:Int→Option R):Option R:=
k0 (0:Int)
theorem amm:exec cl N ME [(2,.dead)] K=(vO (fun y0=>K .ret [(2,.v U2 y0)])):=by
 kernel_rfl
def vR (N:Nat) (dv:Int→Option (Bool)) (k0:Int→Option R) (k1:Int→Option R) (x0:aR):Option R:=
(vQ k0 (vP k0 (vL (vN N dv k1 (vO k1)))) x0)
theorem amp (dv) (h137:(rM dv).holds cl) (x0):exec cl N Ak [(0,.v aD x0)] K=(vR N dv (fun y0=>K .ret (e7 y0)) (fun y0=>K .ret [(2,.v U2 y0)]) x0):=by
 simp only [bY,b9,b8,ca,amo,amn,Aj,MD,amj,MC,aT,cx,aml dv h137,ct,cw,cq,abu,abv,amm]
 rfl
theorem ah9 (y0):ag d117 .ret (e7 y0)=some [.v U2 y0]:=by kernel_rfl
theorem aia (y0):ag d117 .ret [(2,.v U2 y0)]=some [.v U2 y0]:=by kernel_rfl
def sn (N:Nat) (dv:Int→Option (Bool)) (x0:aR) (k:Int→Option R):Option R:=
(vR N dv k k x0)
theorem Yh (dv) (h137:(rM dv).holds cl) (x0) (k:List E→Option R):exec cl N Ep [(0,.v aD x0)] (fun e env=>(ag d117 e env).bind k)=sn N dv x0 (fun r0=>k [.v U2 r0]):=by
 simp only [Ep,amp dv h137,ah9,aia,ar]
 rfl
def mZ (S:aR→Option (Int)):aQ:=cG 117 aD S fun b=> [.v U2 b]
def bP (N:Nat) (x0:aR):Option (Int):=sn N (dv N) x0 (fun (r0:Int)=>some (r0))
def Sx (k0:V4→aR→Int→Option R) (x0:V4):Option R:=
k0 x0 ((0:Int),((0:Int),([],()))) (0:Int)
theorem anc (x0):exec cl N Ay [(0,.v .str x0)] K=(Sx (fun y0 y1 y2=>exec cl N Ax (kS y0 y1 y2) K) x0):=by
 delta Ay
 generalize Ax=q
 revert q
 refine id ?_
 intro q
 kernel_rfl
theorem C2 (x0 x1 x2):aj [0,2,4] (kS x0 x1 x2)=(kS x0 x1 x2):=by kernel_rfl
def Su (k0:V4→aR→Int→Option R) (k1:V4→aR→Int→Option R) (x0:V4) (x1:aR) (x2:Int):Option R:=
ad (decide (x2 < (x0.length:Int))) (if 0≤x2∧x2 < (x0.length:Int) then
ad (((x0.getD x2.toNat 0).toNat:Int) != (47:Int)) (k0 x0 x1 (IntKind.i64.wrap (x2+(1:Int)))) (k1 x0 x1 x2)
else none) (k1 x0 x1 x2)
theorem am9 (x0 x1 x2):exec cl N EY (kS x0 x1 x2) K=(Su (fun y0 y1 y2=>K .normal (kS y0 y1 y2)) (fun y0 y1 y2=>K (.exit 0) (kS y0 y1 y2)) x0 x1 x2):=by
 kernel_rfl
def KM {R:Type} (k0:V4→aR→Int→Option R):Nat→V4→aR→Int→Option R
 | 0,_,_,_=>none
 | m+1,x0,x1,x2=>(Su (KM k0 m) k0 x0 x1 x2)
theorem afd:∀ (m) (x0 x1 x2),iter [0,2,4] (fun env K=>exec cl N EY env K) K m (kS x0 x1 x2)=KM (fun y0 y1 y2=>K (.exit 0) (kS y0 y1 y2)) m x0 x1 x2:=by
 intro m
 induction m with
 | zero=>intros; rfl
 | succ m ih=>
   intro x0 x1 x2
   simp only [bZ,am9,b6,b5,b7,C2,ih]
   rfl
def Sv (N:Nat) (k0:V4→aR→Int→Option R) (x0:V4) (x1:aR) (x2:Int):Option R:=
KM k0 N x0 x1 x2
theorem ana (x0 x1 x2):exec cl N EZ (kS x0 x1 x2) K=(Sv N (fun y0 y1 y2=>K (.exit 0) (kS y0 y1 y2)) x0 x1 x2):=by
 simp only [EZ,aT,bX,C2,afd,C2]
 rfl
def Sw (k0:aR→Bool→Option R) (k1:aR→V4→aR→Option R) (x0:V4) (x1:aR) (x2:Int):Option R:=
ad (decide (x2 < (x0.length:Int))) (let v280:Int:=(IntKind.i64.wrap (x2+(1:Int)))
if 0≤v280∧v280≤(x0.length:Int)∧(x0.length:Int)≤(x0.length:Int) then
let v281:V4:=((x0.drop v280.toNat).take ((x0.length:Int).toNat - v280.toNat))
ad (v281==([]:List UInt8)) (k0 ((0:Int),(0:Int),[],()) false) (if 0≤(0:Int)∧(0:Int)≤x2∧x2≤(x0.length:Int) then
k1 x1 v281 ((0:Int),(0:Int),((x0.drop (0:Int).toNat).take (x2.toNat - (0:Int).toNat)),())
else none)
else none) (ad (([]:List UInt8)==([]:List UInt8)) (k0 ((0:Int),(0:Int),[],()) false) (if 0≤(0:Int)∧(0:Int)≤x2∧x2≤(x0.length:Int) then
k1 x1 ([]:List UInt8) ((0:Int),(0:Int),((x0.drop (0:Int).toNat).take (x2.toNat - (0:Int).toNat)),())
else none))
theorem anb (x0 x1 x2):exec cl N E0 (kS x0 x1 x2) K=(Sw (fun y0 y1=>K .ret (Iu y0 y1)) (fun y0 y1 y2=>exec cl N Az (pj y0 y1 y2) K) x0 x1 x2):=by
 delta E0
 generalize Az=q
 revert q
 refine id ?_
 intro q
 kernel_rfl
def Sz (k0:aR→V4→aR→Int→Option R) (x0:aR) (x1:V4) (x2:aR):Option R:=
k0 x0 x1 x2 (1:Int)
theorem anf (x0 x1 x2):exec cl N Ni (pj x0 x1 x2) K=(Sz (fun y0 y1 y2 y3=>K .normal (lH y0 y1 y2 y3)) x0 x1 x2):=by
 kernel_rfl
theorem Uw (x0 x1 x2 x3):aj [2,5,6,7] (lH x0 x1 x2 x3)=(lH x0 x1 x2 x3):=by kernel_rfl
def SA (dE:Option V6) (k0:aR→V4→aR→Int→Option R) (k1:aR→V4→aR→Int→Option R) (x0:aR) (x1:V4) (x2:aR) (x3:Int):Option R:=
(dE).bind fun r290=>
ad (decide (x3 < (r290.length:Int))) ((dE).bind fun r292=>
if 0≤x3∧x3 < (r292.length:Int) then
if 0≤(0:Int)∧(0:Int) < (x1.length:Int) then
ad (((r292.getD x3.toNat 0).toNat:Int)==((x1.getD (0:Int).toNat 0).toNat:Int)) (k0 x0 x1 (x3,x2.2) (IntKind.i64.wrap (x3+(1:Int)))) (k0 x0 x1 x2 (IntKind.i64.wrap (x3+(1:Int))))
else none
else none) (k1 x0 x1 x2 x3)
theorem ang (dE) (h148:(o9 dE).holds cl) (x0 x1 x2 x3):exec cl N E1 (lH x0 x1 x2 x3) K=(SA dE (fun y0 y1 y2 y3=>K .normal (lH y0 y1 y2 y3)) (fun y0 y1 y2 y3=>K (.exit 2) (lH y0 y1 y2 y3)) x0 x1 x2 x3):=by
 rw [←aN h148]
 kernel_rfl
def KN {R:Type} (dE:Option V6) (k0:aR→V4→aR→Int→Option R):Nat→aR→V4→aR→Int→Option R
 | 0,_,_,_,_=>none
 | m+1,x0,x1,x2,x3=>(SA dE (KN dE k0 m) k0 x0 x1 x2 x3)
theorem afe (dE) (h148:(o9 dE).holds cl):∀ (m) (x0 x1 x2 x3),iter [2,5,6,7] (fun env K=>exec cl N E1 env K) K m (lH x0 x1 x2 x3)=KN dE (fun y0 y1 y2 y3=>K (.exit 2) (lH y0 y1 y2 y3)) m x0 x1 x2 x3:=by
 intro m
 induction m with
 | zero=>intros; rfl
 | succ m ih=>
   intro x0 x1 x2 x3
   simp only [bZ,ang dE h148,b6,b5,b7,Uw,ih]
   rfl
theorem abQ (x0 x1 x2 x3):aj [2,5,6] (lH x0 x1 x2 x3)=(pj x0 x1 x2):=by kernel_rfl
def SB (N:Nat) (dE:Option V6) (k0:aR→V4→aR→Option R) (x0:aR) (x1:V4) (x2:aR) (x3:Int):Option R:=
KN dE (fun y0 y1 y2 y3=>k0 y0 y1 y2) N x0 x1 x2 x3
theorem anh (dE) (h148:(o9 dE).holds cl) (x0 x1 x2 x3):exec cl N E2 (lH x0 x1 x2 x3) K=(SB N dE (fun y0 y1 y2=>K (.exit 2) (pj y0 y1 y2)) x0 x1 x2 x3):=by
 simp only [E2,aT,bX,Uw,afe dE h148,abQ]
 rfl
theorem abR (x0 x1 x2):aj [2,5,6] (pj x0 x1 x2)=(pj x0 x1 x2):=by kernel_rfl
def SC (fE:aR→Option (Bool)) (bP:aR→Option (Int)) (k0:aR→Bool→Option R) (x0:aR) (x1:V4) (x2:aR):Option R:=
if 0≤(1:Int)∧(1:Int)≤(x1.length:Int)∧(x1.length:Int)≤(x1.length:Int) then
let v298:V4:=((x1.drop (1:Int).toNat).take ((x1.length:Int).toNat - (1:Int).toNat))
(fE x2).bind fun r299=>
ad r299 (ad ((v298.length:Int)==(1:Int)) (if 0≤(0:Int)∧(0:Int) < (v298.length:Int) then
ad (decide (((v298.getD (0:Int).toNat 0).toNat:Int)≥(49:Int))) (if 0≤(0:Int)∧(0:Int) < (v298.length:Int) then
ad (decide (((v298.getD (0:Int).toNat 0).toNat:Int)≤(51:Int))) (if 0≤(0:Int)∧(0:Int) < (v298.length:Int) then
let v307:Int:=(IntKind.i64.wrap ((IntKind.i64.wrap ((v298.getD (0:Int).toNat 0).toNat:Int)) - (48:Int)))
ad (([]:List UInt8)==([]:List UInt8)) ((bP (x2.1,(v307,x2.2.2))).bind fun r309=>
k0 (x2.1,(v307,x2.2.2)) (r309==(0:Int))) (k0 (x2.1,(v307,x2.2.2)) false)
else none) (ad (v298==([]:List UInt8)) ((bP x2).bind fun r312=>
k0 x2 (r312==(0:Int))) (k0 x2 false))
else none) (ad (v298==([]:List UInt8)) ((bP x2).bind fun r315=>
k0 x2 (r315==(0:Int))) (k0 x2 false))
else none) (ad (v298==([]:List UInt8)) ((bP x2).bind fun r318=>
k0 x2 (r318==(0:Int))) (k0 x2 false))) (ad (v298==([]:List UInt8)) ((bP x2).bind fun r321=>
k0 x2 (r321==(0:Int))) (k0 x2 false))
else none
theorem ani (fE) (bP) (h114:(BP fE).holds cl) (h117:(mZ bP).holds cl) (x0 x1 x2):exec cl N Nl (pj x0 x1 x2) K=(SC fE bP (fun y0 y1=>K .ret (IE y0 y1)) x0 x1 x2):=by
 rw [←aN h114]
 rw [←aN h117]
 kernel_rfl
def Sy (N:Nat) (fE:aR→Option (Bool)) (bP:aR→Option (Int)) (dE:Option V6) (k0:aR→Bool→Option R) (k1:aR→Bool→Option R) (x0:V4):Option R:=
(Sx (Sv N ((Sw k0 (Sz (SB N dE ((SC fE bP k1))))))) x0)
theorem ane (fE) (bP) (dE) (h114:(BP fE).holds cl) (h117:(mZ bP).holds cl) (h148:(o9 dE).holds cl) (x0):exec cl N Ay [(0,.v .str x0)] K=(Sy N fE bP dE (fun y0 y1=>K .ret (Iu y0 y1)) (fun y0 y1=>K .ret (IE y0 y1)) x0):=by
 simp only [bY,b9,b8,ca,anc,Ax,Nh,aT,cx,ana,ct,cw,cq,C2,anb,Az,Nk,anf,Nj,anh dE h148,abR,ani fE bP h114 h117]
 rfl
theorem aix (y0 y1):ag d139 .ret (Iu y0 y1)=some [.v aD y0,.v .bool y1]:=by kernel_rfl
theorem aiy (y0 y1):ag d139 .ret (IE y0 y1)=some [.v aD y0,.v .bool y1]:=by kernel_rfl
def JC (N:Nat) (fE:aR→Option (Bool)) (bP:aR→Option (Int)) (dE:Option V6) (x0:V4) (k:aR→Bool→Option R):Option R:=
(Sy N fE bP dE k k x0)
theorem Yx (fE) (bP) (dE) (h114:(BP fE).holds cl) (h117:(mZ bP).holds cl) (h148:(o9 dE).holds cl) (x0) (k:List E→Option R):exec cl N EX [(0,.v .str x0)] (fun e env=>(ag d139 e env).bind k)=JC N fE bP dE x0 (fun r0 r1=>k [.v aD r0,.v .bool r1]):=by
 simp only [EX,ane fE bP dE h114 h117 h148,aix,aiy,ar]
 rfl
def o8 (S:V4→Option oY):aQ:=cG 139 .str S fun b=> [.v aD b.1,.v .bool b.2]
def dL (N:Nat) (x0:V4):Option oY:=JC N (fE N) (bP N) (dE N) x0 (fun (r0:aR) (r1:Bool)=>some (r0,r1))
def Sc (ga:V4→Option fP) (k0:aA→Int→Option R) (k1:aA→aG→Option R) (x0:V4):Option R:=
ad (decide ((x0.length:Int) > (4000:Int))) (k0 [] (3:Int)) (ad (x0==([]:List UInt8)) (k0 [] (0:Int)) ((ga x0).bind fun r328=>
k1 [] r328))
theorem amu (ga) (h138:(BU ga).holds cl) (x0):exec cl N Am [(0,.v .str x0)] K=(Sc ga (fun y0 y1=>K .ret (IH y0 y1)) (fun y0 y1=>exec cl N Al [(4,.own true 40 aD .no y0),(5,.own true 9 .str .no y1)] K) x0):=by
 rw [←aN h138]
 delta Am
 generalize Al=q
 revert q
 refine id ?_
 intro q
 kernel_rfl
def R8 (k0:aA→aG→Int→Option R) (x0:aA) (x1:aG):Option R:=
k0 x0 x1 (0:Int)
theorem amq (x0 x1):exec cl N MF [(4,.own true 40 aD .no x0),(5,.own true 9 .str .no x1)] K=(R8 (fun y0 y1 y2=>K .normal (lQ y0 y1 y2)) x0 x1):=by
 kernel_rfl
theorem Uq (x0 x1 x2):aj [4,5,6] (lQ x0 x1 x2)=(lQ x0 x1 x2):=by kernel_rfl
def R9 (dL:V4→Option oY) (k0:aA→Int→Option R) (k1:aA→aG→Int→Option R) (k2:aA→aG→Int→Option R) (x0:aA) (x1:aG) (x2:Int):Option R:=
ad (decide (x2 < (x1.length:Int))) (if 0≤x2∧x2 < (x1.length:Int) then
if x2.toNat < x1.length then
(dL (x1.getD x2.toNat [])).bind fun r331=>
ad (!r331.2) (k0 [] (2:Int)) (if x0.length+[r331.1].length≤4398046511104 then
k1 (x0++[r331.1]) x1 (IntKind.i64.wrap (x2+(1:Int)))
else none)
else none
else none) (k2 x0 x1 x2)
theorem amr (dL) (h139:(o8 dL).holds cl) (x0 x1 x2):exec cl N Eu (lQ x0 x1 x2) K=(R9 dL (fun y0 y1=>K .ret (IL y0 y1)) (fun y0 y1 y2=>K .normal (lQ y0 y1 y2)) (fun y0 y1 y2=>K (.exit 0) (lQ y0 y1 y2)) x0 x1 x2):=by
 rw [←aN h139]
 kernel_rfl
def KJ {R:Type} (dL:V4→Option oY) (k0:aA→Int→Option R) (k1:aA→aG→Int→Option R):Nat→aA→aG→Int→Option R
 | 0,_,_,_=>none
 | m+1,x0,x1,x2=>(R9 dL k0 (KJ dL k0 k1 m) k1 x0 x1 x2)
theorem ae7 (dL) (h139:(o8 dL).holds cl):∀ (m) (x0 x1 x2),iter [4,5,6] (fun env K=>exec cl N Eu env K) K m (lQ x0 x1 x2)=KJ dL (fun y0 y1=>K .ret (IL y0 y1)) (fun y0 y1 y2=>K (.exit 0) (lQ y0 y1 y2)) m x0 x1 x2:=by
 intro m
 induction m with
 | zero=>intros; rfl
 | succ m ih=>
   intro x0 x1 x2
   simp only [bZ,amr dL h139,b6,b5,b7,Uq,ih]
   rfl
theorem abw (x0 x1):aj [2,3,4] (IL x0 x1)=(pt x0 x1):=by kernel_rfl
theorem abx (x0 x1 x2):aj [2,3,4] (lQ x0 x1 x2)=(vj x0):=by kernel_rfl
def Sa (N:Nat) (dL:V4→Option oY) (k0:aA→Int→Option R) (k1:aA→Option R) (x0:aA) (x1:aG) (x2:Int):Option R:=
KJ dL k0 (fun y0 y1 y2=>k1 y0) N x0 x1 x2
theorem ams (dL) (h139:(o8 dL).holds cl) (x0 x1 x2):exec cl N Ev (lQ x0 x1 x2) K=(Sa N dL (fun y0 y1=>K .ret (pt y0 y1)) (fun y0=>K (.exit 0) (vj y0)) x0 x1 x2):=by
 simp only [Ev,aT,bX,Uq,ae7 dL h139,abw,abx]
 rfl
theorem aby (x0 x1):aj [2,3,4] (pt x0 x1)=(pt x0 x1):=by kernel_rfl
theorem abz (x0):aj [2,3,4] (vj x0)=(vj x0):=by kernel_rfl
def Sb (k0:aA→Int→Option R) (k1:Int→aA→Option R) (x0:aA):Option R:=
ad (decide ((x0.length:Int) > (200:Int))) (k0 [] (2:Int)) (k1 (0:Int) x0)
theorem amt (x0):exec cl N MI (vj x0) K=(Sb (fun y0 y1=>K .ret (pt y0 y1)) (fun y0 y1=>K .ret (IS y0 y1)) x0):=by
 kernel_rfl
def Sd (N:Nat) (ga:V4→Option fP) (dL:V4→Option oY) (k0:aA→Int→Option R) (k1:aA→Int→Option R) (k2:Int→aA→Option R) (x0:V4):Option R:=
(Sc ga k0 (R8 (Sa N dL k1 ((Sb k1 k2)))) x0)
theorem amv (ga) (dL) (h138:(BU ga).holds cl) (h139:(o8 dL).holds cl) (x0):exec cl N Am [(0,.v .str x0)] K=(Sd N ga dL (fun y0 y1=>K .ret (IH y0 y1)) (fun y0 y1=>K .ret (pt y0 y1)) (fun y0 y1=>K .ret (IS y0 y1)) x0):=by
 simp only [bY,b9,b8,ca,amu ga h138,Al,MH,amq,MG,aT,cx,ams dL h139,ct,cw,cq,aby,abz,amt]
 rfl
theorem aib (y0 y1):ag d118 .ret (IH y0 y1)=some [.own true 40 aD .no y0,.v U2 y1]:=by kernel_rfl
theorem aic (y0 y1):ag d118 .ret (pt y0 y1)=some [.own true 40 aD .no y0,.v U2 y1]:=by kernel_rfl
theorem aid (y0 y1):ag d118 .ret (IS y0 y1)=some [.own true 40 aD .no y1,.v U2 y0]:=by kernel_rfl
def Jp (N:Nat) (ga:V4→Option fP) (dL:V4→Option oY) (x0:V4) (k:aA→Int→Option R):Option R:=
(Sd N ga dL k k (fun y0 y1=>k y1 y0) x0)
theorem Yi (ga) (dL) (h138:(BU ga).holds cl) (h139:(o8 dL).holds cl) (x0) (k:List E→Option R):exec cl N Et [(0,.v .str x0)] (fun e env=>(ag d118 e env).bind k)=Jp N ga dL x0 (fun r0 r1=>k [.own true 40 aD .no r0,.v U2 r1]):=by
 simp only [Et,amv ga dL h138 h139,aib,aic,aid,ar]
 rfl
def BR (S:V4→Option uv):aQ:=cG 118 .str S fun b=> [.own true 40 aD .no b.1,.v U2 b.2]
def fY (N:Nat) (x0:V4):Option uv:=Jp N (ga N) (dL N) x0 (fun (r0:aA) (r1:Int)=>some (r0,r1))
def Jz (k0:Bool→Option R) (x0:Int):Option R:=
ad (decide (x0≥(48:Int))) (k0 (decide (x0≤(57:Int)))) (k0 false)
theorem am1 (x0):exec cl N M9 [(0,.v U0 x0)] K=(Jz (fun y0=>K .ret [(2,.v .bool y0)]) x0):=by
 kernel_rfl
theorem aiu (y0):ag d136 .ret [(2,.v .bool y0)]=some [.v .bool y0]:=by kernel_rfl
def Ct (x0:Int) (k:Bool→Option R):Option R:=
(Jz k x0)
theorem Yu (x0) (k:List E→Option R):exec cl N ES [(0,.v U0 x0)] (fun e env=>(ag d136 e env).bind k)=Ct x0 (fun r0=>k [.v .bool r0]):=by
 simp only [ES,am1,aiu,ar]
 rfl
def kO (S:Int→Option (Bool)):aQ:=cG 136 U0 S fun b=> [.v .bool b]
def bw (N:Nat) (x0:Int):Option (Bool):=Ct x0 (fun (r0:Bool)=>some (r0))
def SG (k0:V4→Int→Option R) (x0:V4):Option R:=
k0 x0 (0:Int)
theorem ann (x0):exec cl N AB [(0,.v .str x0)] K=(SG (fun y0 y1=>exec cl N AA (cV y0 y1) K) x0):=by
 delta AB
 generalize AA=q
 revert q
 refine id ?_
 intro q
 kernel_rfl
theorem Ux (x0 x1):aj [0,3] (cV x0 x1)=(cV x0 x1):=by kernel_rfl
def SD (bw:Int→Option (Bool)) (k0:V4→Int→Option R) (k1:V4→Int→Option R) (x0:V4) (x1:Int):Option R:=
ad (decide (x1 < (x0.length:Int))) (if 0≤x1∧x1 < (x0.length:Int) then
(bw ((x0.getD x1.toNat 0).toNat:Int)).bind fun r349=>
ad r349 (k0 x0 (IntKind.i64.wrap (x1+(1:Int)))) (k1 x0 x1)
else none) (k1 x0 x1)
theorem ank (bw) (h136:(kO bw).holds cl) (x0 x1):exec cl N E4 (cV x0 x1) K=(SD bw (fun y0 y1=>K .normal (cV y0 y1)) (fun y0 y1=>K (.exit 0) (cV y0 y1)) x0 x1):=by
 rw [←aN h136]
 kernel_rfl
def KO {R:Type} (bw:Int→Option (Bool)) (k0:V4→Int→Option R):Nat→V4→Int→Option R
 | 0,_,_=>none
 | m+1,x0,x1=>(SD bw (KO bw k0 m) k0 x0 x1)
theorem aff (bw) (h136:(kO bw).holds cl):∀ (m) (x0 x1),iter [0,3] (fun env K=>exec cl N E4 env K) K m (cV x0 x1)=KO bw (fun y0 y1=>K (.exit 0) (cV y0 y1)) m x0 x1:=by
 intro m
 induction m with
 | zero=>intros; rfl
 | succ m ih=>
   intro x0 x1
   simp only [bZ,ank bw h136,b6,b5,b7,Ux,ih]
   rfl
theorem abS (x0 x1):aj [3] (cV x0 x1)=[(3,.v U2 x1)]:=by kernel_rfl
def SE (N:Nat) (bw:Int→Option (Bool)) (k0:Int→Option R) (x0:V4) (x1:Int):Option R:=
KO bw (fun y0 y1=>k0 y1) N x0 x1
theorem anl (bw) (h136:(kO bw).holds cl) (x0 x1):exec cl N E5 (cV x0 x1) K=(SE N bw (fun y0=>K (.exit 0) [(3,.v U2 y0)]) x0 x1):=by
 simp only [E5,aT,bX,Ux,aff bw h136,abS]
 rfl
theorem abT (x0):aj [3] [(3,.v U2 x0)]=[(3,.v U2 x0)]:=by kernel_rfl
def SF (k0:Int→Option R) (x0:Int):Option R:=
k0 x0
theorem anm (x0):exec cl N Np [(3,.v U2 x0)] K=(SF (fun y0=>K .ret [(2,.v U2 y0)]) x0):=by
 kernel_rfl
def SH (N:Nat) (bw:Int→Option (Bool)) (k0:Int→Option R) (x0:V4):Option R:=
(SG (SE N bw ((SF k0))) x0)
theorem ano (bw) (h136:(kO bw).holds cl) (x0):exec cl N AB [(0,.v .str x0)] K=(SH N bw (fun y0=>K .ret [(2,.v U2 y0)]) x0):=by
 simp only [bY,b9,b8,ca,ann,AA,No,aT,cx,anl bw h136,ct,cw,cq,abT,anm]
 rfl
theorem aiB (y0):ag d140 .ret [(2,.v U2 y0)]=some [.v U2 y0]:=by kernel_rfl
def JE (N:Nat) (bw:Int→Option (Bool)) (x0:V4) (k:Int→Option R):Option R:=
(SH N bw k x0)
theorem Yy (bw) (h136:(kO bw).holds cl) (x0) (k:List E→Option R):exec cl N E3 [(0,.v .str x0)] (fun e env=>(ag d140 e env).bind k)=JE N bw x0 (fun r0=>k [.v U2 r0]):=by
 simp only [E3,ano bw h136,aiB,ar]
 rfl
def BV (S:V4→Option (Int)):aQ:=cG 140 .str S fun b=> [.v U2 b]
def gd (N:Nat) (x0:V4):Option (Int):=JE N (bw N) x0 (fun (r0:Int)=>some (r0))
def Si (gd:V4→Option (Int)) (k0:Int→Bool→Option R) (k1:V4→Int→Option R) (x0:V4):Option R:=
ad (x0==([]:List UInt8)) (k0 (0:Int) false) (ad (decide ((x0.length:Int) > (6:Int))) (k0 (0:Int) false) ((gd x0).bind fun r365=>
ad (r365 != (x0.length:Int)) (k0 (0:Int) false) (if 0≤(0:Int)∧(0:Int) < (x0.length:Int) then
ad (((x0.getD (0:Int).toNat 0).toNat:Int)==(48:Int)) (ad (decide ((x0.length:Int) > (1:Int))) (k0 (0:Int) false) (k1 x0 (0:Int))) (k1 x0 (0:Int))
else none)))
theorem amA (gd) (h140:(BV gd).holds cl) (x0):exec cl N Ap [(0,.v .str x0)] K=(Si gd (fun y0 y1=>K .ret (IT y0 y1)) (fun y0 y1=>exec cl N Ao [(0,.v .str y0),(4,.v U2 y1)] K) x0):=by
 rw [←aN h140]
 delta Ap
 generalize Ao=q
 revert q
 refine id ?_
 intro q
 kernel_rfl
def Se (k0:V4→Int→Int→Option R) (x0:V4) (x1:Int):Option R:=
k0 x0 x1 (0:Int)
theorem amw (x0 x1):exec cl N MJ [(0,.v .str x0),(4,.v U2 x1)] K=(Se (fun y0 y1 y2=>K .normal (lX y0 y1 y2)) x0 x1):=by
 kernel_rfl
theorem Ur (x0 x1 x2):aj [0,4,5] (lX x0 x1 x2)=(lX x0 x1 x2):=by kernel_rfl
def Sf (k0:V4→Int→Int→Option R) (k1:V4→Int→Int→Option R) (x0:V4) (x1 x2:Int):Option R:=
ad (decide (x2 < (x0.length:Int))) (if 0≤x2∧x2 < (x0.length:Int) then
k0 x0 (IntKind.i64.wrap ((IntKind.i64.wrap ((10:Int) * x1))+(IntKind.i64.wrap (IntKind.u8.wrap (((x0.getD x2.toNat 0).toNat:Int) - (48:Int)))))) (IntKind.i64.wrap (x2+(1:Int)))
else none) (k1 x0 x1 x2)
theorem amx (x0 x1 x2):exec cl N Ey (lX x0 x1 x2) K=(Sf (fun y0 y1 y2=>K .normal (lX y0 y1 y2)) (fun y0 y1 y2=>K (.exit 0) (lX y0 y1 y2)) x0 x1 x2):=by
 kernel_rfl
def KK {R:Type} (k0:V4→Int→Int→Option R):Nat→V4→Int→Int→Option R
 | 0,_,_,_=>none
 | m+1,x0,x1,x2=>(Sf (KK k0 m) k0 x0 x1 x2)
theorem ae8:∀ (m) (x0 x1 x2),iter [0,4,5] (fun env K=>exec cl N Ey env K) K m (lX x0 x1 x2)=KK (fun y0 y1 y2=>K (.exit 0) (lX y0 y1 y2)) m x0 x1 x2:=by
 intro m
 induction m with
 | zero=>intros; rfl
 | succ m ih=>
   intro x0 x1 x2
   simp only [bZ,amx,b6,b5,b7,Ur,ih]
   rfl
theorem abA (x0 x1 x2):aj [4] (lX x0 x1 x2)=[(4,.v U2 x1)]:=by kernel_rfl
def Sg (N:Nat) (k0:Int→Option R) (x0:V4) (x1 x2:Int):Option R:=
KK (fun y0 y1 y2=>k0 y1) N x0 x1 x2
theorem amy (x0 x1 x2):exec cl N Ez (lX x0 x1 x2) K=(Sg N (fun y0=>K (.exit 0) [(4,.v U2 y0)]) x0 x1 x2):=by
 simp only [Ez,aT,bX,Ur,ae8,abA]
 rfl
theorem abB (x0):aj [4] [(4,.v U2 x0)]=[(4,.v U2 x0)]:=by kernel_rfl
def Sh (k0:Int→Bool→Option R) (x0:Int):Option R:=
k0 x0 true
theorem amz (x0):exec cl N MM [(4,.v U2 x0)] K=(Sh (fun y0 y1=>K .ret [(2,.v U2 y0),(3,.v .bool y1)]) x0):=by
 kernel_rfl
def Sj (N:Nat) (gd:V4→Option (Int)) (k0:Int→Bool→Option R) (k1:Int→Bool→Option R) (x0:V4):Option R:=
(Si gd k0 (Se (Sg N ((Sh k1)))) x0)
theorem amB (gd) (h140:(BV gd).holds cl) (x0):exec cl N Ap [(0,.v .str x0)] K=(Sj N gd (fun y0 y1=>K .ret (IT y0 y1)) (fun y0 y1=>K .ret [(2,.v U2 y0),(3,.v .bool y1)]) x0):=by
 simp only [bY,b9,b8,ca,amA gd h140,Ao,ML,amw,MK,aT,cx,amy,ct,cw,cq,abB,amz]
 rfl
theorem aie (y0 y1):ag d119 .ret (IT y0 y1)=some [.v U2 y0,.v .bool y1]:=by kernel_rfl
theorem aif (y0 y1):ag d119 .ret [(2,.v U2 y0),(3,.v .bool y1)]=some [.v U2 y0,.v .bool y1]:=by kernel_rfl
def Jq (N:Nat) (gd:V4→Option (Int)) (x0:V4) (k:Int→Bool→Option R):Option R:=
(Sj N gd k k x0)
theorem Yj (gd) (h140:(BV gd).holds cl) (x0) (k:List E→Option R):exec cl N Ew [(0,.v .str x0)] (fun e env=>(ag d119 e env).bind k)=Jq N gd x0 (fun r0 r1=>k [.v U2 r0,.v .bool r1]):=by
 simp only [Ew,amB gd h140,aie,aif,ar]
 rfl
def BS (S:V4→Option V5):aQ:=cG 119 .str S fun b=> [.v U2 b.1,.v .bool b.2]
def fZ (N:Nat) (x0:V4):Option V5:=Jq N (gd N) x0 (fun (r0:Int) (r1:Bool)=>some (r0,r1))
def Sk (k0:V4→Option R) (x0:Int):Option R:=
if 0≤x0∧x0 < ([([97,110,121,119,104,101,114,101]:List UInt8),([98,101,102,111,114,101]:List UInt8),([115,116,97,114,116]:List UInt8),([98,101,116,119,101,101,110]:List UInt8),([110,111,116]:List UInt8)].length:Int) then
if x0.toNat < [([97,110,121,119,104,101,114,101]:List UInt8),([98,101,102,111,114,101]:List UInt8),([115,116,97,114,116]:List UInt8),([98,101,116,119,101,101,110]:List UInt8),([110,111,116]:List UInt8)].length then
k0 ([([97,110,121,119,104,101,114,101]:List UInt8),([98,101,102,111,114,101]:List UInt8),([115,116,97,114,116]:List UInt8),([98,101,116,119,101,101,110]:List UInt8),([110,111,116]:List UInt8)].getD x0.toNat [])
else none
else none
theorem amD (x0):exec cl N MO [(0,.v U2 x0)] K=(Sk (fun y0=>K .ret [(2,.v .str y0)]) x0):=by
 kernel_rfl
theorem aij (y0):ag d120 .ret [(2,.v .str y0)]=some [.v .str y0]:=by kernel_rfl
def Js (x0:Int) (k:V4→Option R):Option R:=
(Sk k x0)
theorem Yk (x0) (k:List E→Option R):exec cl N EA [(0,.v U2 x0)] (fun e env=>(ag d120 e env).bind k)=Js x0 (fun r0=>k [.v .str r0]):=by
 simp only [EA,amD,aij,ar]
 rfl
def rH (S:Int→Option V6):aQ:=cG 120 U2 S fun b=> [.v .str b]
def dR (N:Nat) (x0:Int):Option V6:=Js x0 (fun (r0:V4)=>some (r0))
def Tz (bR:V4→Option fP) (k0:aS→Bool→Option R) (k1:aS→aG→V4→Option R) (x0:V4):Option R:=
(bR x0).bind fun r389=>
ad (decide ((r389.length:Int) < (4:Int))) (k0 ([],[],(0:Int),(0:Int),()) false) (if 0≤(1:Int)∧(1:Int) < (r389.length:Int) then
if ((1:Int).toNat) < r389.length then
k1 ([],([],((0:Int),((0:Int),())))) r389 (r389.getD ((1:Int).toNat) [])
else none
else none)
theorem ary (bR) (h93:(lx bR).holds cl) (x0):exec cl N BC [(0,.v .str x0)] K=(Tz bR (fun y0 y1=>K .ret (IU y0 y1)) (fun y0 y1 y2=>exec cl N BB (pv y0 y1 y2) K) x0):=by
 rw [←aN h93]
 delta BC
 generalize BB=q
 revert q
 refine id ?_
 intro q
 kernel_rfl
def Tu (k0:aS→aG→V4→Int→Option R) (x0:aS) (x1:aG) (x2:V4):Option R:=
k0 x0 x1 x2 (2:Int)
theorem aru (x0 x1 x2):exec cl N QE (pv x0 x1 x2) K=(Tu (fun y0 y1 y2 y3=>K .normal (lY y0 y1 y2 y3)) x0 x1 x2):=by
 kernel_rfl
theorem Ve (x0 x1 x2 x3):aj [2,4,5,6] (lY x0 x1 x2 x3)=(lY x0 x1 x2 x3):=by kernel_rfl
def Tv (k0:aS→aG→V4→Int→Option R) (k1:aS→aG→V4→Int→Option R) (x0:aS) (x1:aG) (x2:V4) (x3:Int):Option R:=
ad (decide (x3 < (IntKind.i64.wrap ((x1.length:Int) - (2:Int))))) (if x2.length+([32]:List UInt8).length≤140737488355328 then
let v394:V4:=(x2++([32]:List UInt8))
if 0≤x3∧x3 < (x1.length:Int) then
if x3.toNat < x1.length then
if v394.length+(x1.getD x3.toNat []).length≤140737488355328 then
k0 x0 x1 (v394++(x1.getD x3.toNat [])) (IntKind.i64.wrap (x3+(1:Int)))
else none
else none
else none
else none) (k1 x0 x1 x2 x3)
theorem arv (x0 x1 x2 x3):exec cl N Hz (lY x0 x1 x2 x3) K=(Tv (fun y0 y1 y2 y3=>K .normal (lY y0 y1 y2 y3)) (fun y0 y1 y2 y3=>K (.exit 0) (lY y0 y1 y2 y3)) x0 x1 x2 x3):=by
 kernel_rfl
def KV {R:Type} (k0:aS→aG→V4→Int→Option R):Nat→aS→aG→V4→Int→Option R
 | 0,_,_,_,_=>none
 | m+1,x0,x1,x2,x3=>(Tv (KV k0 m) k0 x0 x1 x2 x3)
theorem afR:∀ (m) (x0 x1 x2 x3),iter [2,4,5,6] (fun env K=>exec cl N Hz env K) K m (lY x0 x1 x2 x3)=KV (fun y0 y1 y2 y3=>K (.exit 0) (lY y0 y1 y2 y3)) m x0 x1 x2 x3:=by
 intro m
 induction m with
 | zero=>intros; rfl
 | succ m ih=>
   intro x0 x1 x2 x3
   simp only [bZ,arv,b6,b5,b7,Ve,ih]
   rfl
theorem adT (x0 x1 x2 x3):aj [2,4,5] (lY x0 x1 x2 x3)=(pv x0 x1 x2):=by kernel_rfl
def TB (N:Nat) (k0:aS→aG→V4→Option R) (x0:aS) (x1:aG) (x2:V4) (x3:Int):Option R:=
KV (fun y0 y1 y2 y3=>k0 y0 y1 y2) N x0 x1 x2 x3
theorem arA (x0 x1 x2 x3):exec cl N HB (lY x0 x1 x2 x3) K=(TB N (fun y0 y1 y2=>K (.exit 0) (pv y0 y1 y2)) x0 x1 x2 x3):=by
 simp only [HB,aT,bX,Ve,afR,adT]
 rfl
theorem adU (x0 x1 x2):aj [2,4,5] (pv x0 x1 x2)=(pv x0 x1 x2):=by kernel_rfl
def Tx (fY:V4→Option uv) (fZ:V4→Option V5) (k0:aS→Bool→Option R) (k1:aS→aG→aA→Int→Option R) (x0:aS) (x1:aG) (x2:V4):Option R:=
(fY x2).bind fun r398=>
let v399:Int:=(IntKind.i64.wrap ((x1.length:Int) - (2:Int)))
if 0≤v399∧v399 < (x1.length:Int) then
if v399.toNat < x1.length then
(fZ (x1.getD v399.toNat [])).bind fun r401=>
ad (r398.2 != (0:Int)) (k0 ([],[],(0:Int),(0:Int),()) false) (ad (!r401.2) (k0 ([],[],(0:Int),(0:Int),()) false) (k1 x0 x1 r398.1 r401.1))
else none
else none
theorem arx (fY) (fZ) (h118:(BR fY).holds cl) (h119:(BS fZ).holds cl) (x0 x1 x2):exec cl N HA (pv x0 x1 x2) K=(Tx fY fZ (fun y0 y1=>K .ret (IV y0 y1)) (fun y0 y1 y2 y3=>exec cl N BA (RD y0 y1 y2 y3) K) x0 x1 x2):=by
 rw [←aN h118]
 rw [←aN h119]
 delta HA
 generalize BA=q
 revert q
 refine id ?_
 intro q
 kernel_rfl
def TC (k0:aS→aG→aA→Int→Int→Option R) (x0:aS) (x1:aG) (x2:aA) (x3:Int):Option R:=
k0 x0 x1 x2 x3 (0:Int)
theorem arB (x0 x1 x2 x3):exec cl N QI (RD x0 x1 x2 x3) K=(TC (fun y0 y1 y2 y3 y4=>K .normal (lZ y0 y1 y2 y3 y4)) x0 x1 x2 x3):=by
 kernel_rfl
theorem Vf (x0 x1 x2 x3 x4):aj [2,4,7,9,11] (lZ x0 x1 x2 x3 x4)=(lZ x0 x1 x2 x3 x4):=by kernel_rfl
def TD (dR:Int→Option V6) (k0:aS→Bool→Option R) (k1:aS→aG→aA→Int→Int→Option R) (k2:aS→aG→aA→Int→Int→Option R) (x0:aS) (x1:aG) (x2:aA) (x3 x4:Int):Option R:=
ad (decide (x4≤(4:Int))) (let v404:Int:=(IntKind.i64.wrap ((x1.length:Int) - (1:Int)))
if 0≤v404∧v404 < (x1.length:Int) then
if v404.toNat < x1.length then
(dR x4).bind fun r406=>
ad ((x1.getD v404.toNat [])==r406) (if 0≤(0:Int)∧(0:Int) < (x1.length:Int) then
if ((0:Int).toNat) < x1.length then
k0 ((x1.getD ((0:Int).toNat) []),x2,x3,x4,()) true
else none
else none) (k1 x0 x1 x2 x3 (IntKind.i64.wrap (x4+(1:Int))))
else none
else none) (k2 x0 x1 x2 x3 x4)
theorem arC (dR) (h120:(rH dR).holds cl) (x0 x1 x2 x3 x4):exec cl N HC (lZ x0 x1 x2 x3 x4) K=(TD dR (fun y0 y1=>K .ret (IW y0 y1)) (fun y0 y1 y2 y3 y4=>K .normal (lZ y0 y1 y2 y3 y4)) (fun y0 y1 y2 y3 y4=>K (.exit 2) (lZ y0 y1 y2 y3 y4)) x0 x1 x2 x3 x4):=by
 rw [←aN h120]
 kernel_rfl
def KW {R:Type} (dR:Int→Option V6) (k0:aS→Bool→Option R) (k1:aS→aG→aA→Int→Int→Option R):Nat→aS→aG→aA→Int→Int→Option R
 | 0,_,_,_,_,_=>none
 | m+1,x0,x1,x2,x3,x4=>(TD dR k0 (KW dR k0 k1 m) k1 x0 x1 x2 x3 x4)
theorem afS (dR) (h120:(rH dR).holds cl):∀ (m) (x0 x1 x2 x3 x4),iter [2,4,7,9,11] (fun env K=>exec cl N HC env K) K m (lZ x0 x1 x2 x3 x4)=KW dR (fun y0 y1=>K .ret (IW y0 y1)) (fun y0 y1 y2 y3 y4=>K (.exit 2) (lZ y0 y1 y2 y3 y4)) m x0 x1 x2 x3 x4:=by
 intro m
 induction m with
 | zero=>intros; rfl
 | succ m ih=>
   intro x0 x1 x2 x3 x4
   simp only [bZ,arC dR h120,b6,b5,b7,Vf,ih]
   rfl
theorem adV (x0 x1):aj [2,3] (IW x0 x1)=(rZ x0 x1):=by kernel_rfl
theorem adW (x0 x1 x2 x3 x4):aj [2,3] (lZ x0 x1 x2 x3 x4)=(vk x0):=by kernel_rfl
def TE (N:Nat) (dR:Int→Option V6) (k0:aS→Bool→Option R) (k1:aS→Option R) (x0:aS) (x1:aG) (x2:aA) (x3 x4:Int):Option R:=
KW dR k0 (fun y0 y1 y2 y3 y4=>k1 y0) N x0 x1 x2 x3 x4
theorem arD (dR) (h120:(rH dR).holds cl) (x0 x1 x2 x3 x4):exec cl N HD (lZ x0 x1 x2 x3 x4) K=(TE N dR (fun y0 y1=>K .ret (rZ y0 y1)) (fun y0=>K (.exit 2) (vk y0)) x0 x1 x2 x3 x4):=by
 simp only [HD,aT,bX,Vf,afS dR h120,adV,adW]
 rfl
theorem adX (x0 x1):aj [2,3] (rZ x0 x1)=(rZ x0 x1):=by kernel_rfl
theorem adY (x0):aj [2,3] (vk x0)=(vk x0):=by kernel_rfl
def Tw (k0:aS→Bool→Option R) (x0:aS):Option R:=
k0 ([],[],(0:Int),(0:Int),()) false
theorem arw (x0):exec cl N QF (vk x0) K=(Tw (fun y0 y1=>K .ret (IX y0 y1)) x0):=by
 kernel_rfl
def TA (N:Nat) (bR:V4→Option fP) (fY:V4→Option uv) (fZ:V4→Option V5) (dR:Int→Option V6) (k0:aS→Bool→Option R) (k1:aS→Bool→Option R) (k2:aS→Bool→Option R) (k3:aS→Bool→Option R) (x0:V4):Option R:=
(Tz bR k0 (Tu (TB N ((Tx fY fZ k1 (TC (TE N dR k2 ((Tw k3)))))))) x0)
theorem arz (bR) (fY) (fZ) (dR) (h93:(lx bR).holds cl) (h118:(BR fY).holds cl) (h119:(BS fZ).holds cl) (h120:(rH dR).holds cl) (x0):exec cl N BC [(0,.v .str x0)] K=(TA N bR fY fZ dR (fun y0 y1=>K .ret (IU y0 y1)) (fun y0 y1=>K .ret (IV y0 y1)) (fun y0 y1=>K .ret (rZ y0 y1)) (fun y0 y1=>K .ret (IX y0 y1)) x0):=by
 simp only [bY,b9,b8,ca,ary bR h93,BB,QH,aru,QG,aT,cx,arA,ct,cw,cq,adU,arx fY fZ h118 h119,BA,QK,arB,QJ,arD dR h120,adX,adY,arw]
 rfl
theorem aka (y0 y1):ag d94 .ret (IU y0 y1)=some [.v aC y0,.v .bool y1]:=by kernel_rfl
theorem akb (y0 y1):ag d94 .ret (IV y0 y1)=some [.v aC y0,.v .bool y1]:=by kernel_rfl
theorem akc (y0 y1):ag d94 .ret (rZ y0 y1)=some [.v aC y0,.v .bool y1]:=by kernel_rfl
theorem akd (y0 y1):ag d94 .ret (IX y0 y1)=some [.v aC y0,.v .bool y1]:=by kernel_rfl
def Ke (N:Nat) (bR:V4→Option fP) (fY:V4→Option uv) (fZ:V4→Option V5) (dR:Int→Option V6) (x0:V4) (k:aS→Bool→Option R):Option R:=
(TA N bR fY fZ dR k k k k x0)
theorem Zq (bR) (fY) (fZ) (dR) (h93:(lx bR).holds cl) (h118:(BR fY).holds cl) (h119:(BS fZ).holds cl) (h120:(rH dR).holds cl) (x0) (k:List E→Option R):exec cl N Hy [(0,.v .str x0)] (fun e env=>(ag d94 e env).bind k)=Ke N bR fY fZ dR x0 (fun r0 r1=>k [.v aC r0,.v .bool r1]):=by
 simp only [Hy,arz bR fY fZ dR h93 h118 h119 h120,aka,akb,akc,akd,ar]
 rfl
def pe (S:V4→Option nK):aQ:=cG 94 .str S fun b=> [.v aC b.1,.v .bool b.2]
def cY (N:Nat) (x0:V4):Option nK:=Ke N (bR N) (fY N) (fZ N) (dR N) x0 (fun (r0:aS) (r1:Bool)=>some (r0,r1))
def Jy (k0:Bool→Option R) (x0:Int):Option R:=
ad (decide (x0≥(97:Int))) (k0 (decide (x0≤(122:Int)))) (k0 false)
theorem am0 (x0):exec cl N M8 [(0,.v U0 x0)] K=(Jy (fun y0=>K .ret [(2,.v .bool y0)]) x0):=by
 kernel_rfl
theorem ait (y0):ag d135 .ret [(2,.v .bool y0)]=some [.v .bool y0]:=by kernel_rfl
def Cs (x0:Int) (k:Bool→Option R):Option R:=
(Jy k x0)
theorem Yt (x0) (k:List E→Option R):exec cl N ER [(0,.v U0 x0)] (fun e env=>(ag d135 e env).bind k)=Cs x0 (fun r0=>k [.v .bool r0]):=by
 simp only [ER,am0,ait,ar]
 rfl
def o7 (S:Int→Option (Bool)):aQ:=cG 135 U0 S fun b=> [.v .bool b]
def cH (N:Nat) (x0:Int):Option (Bool):=Cs x0 (fun (r0:Bool)=>some (r0))
def vD (cH:Int→Option (Bool)) (k0:Int→Option R) (k1:V4→Int→Option R) (x0:V4):Option R:=
ad (x0==([]:List UInt8)) (k0 (0:Int)) (if 0≤(0:Int)∧(0:Int) < (x0.length:Int) then
(cH ((x0.getD (0:Int).toNat 0).toNat:Int)).bind fun r593=>
ad (!r593) (k0 (0:Int)) (k1 x0 (1:Int))
else none)
theorem amb (cH) (h135:(o7 cH).holds cl) (x0):exec cl N Ag [(0,.v .str x0)] K=(vD cH (fun y0=>K .ret (jm y0)) (fun y0 y1=>exec cl N Af (cV y0 y1) K) x0):=by
 rw [←aN h135]
 delta Ag
 generalize Af=q
 revert q
 refine id ?_
 intro q
 kernel_rfl
theorem Un (x0 x1):aj [0,3] (cV x0 x1)=(cV x0 x1):=by kernel_rfl
def vA (cH:Int→Option (Bool)) (bw:Int→Option (Bool)) (k0:V4→Int→Option R) (k1:V4→Int→Option R) (x0:V4) (x1:Int):Option R:=
ad (decide (x1 < (x0.length:Int))) (if 0≤x1∧x1 < (x0.length:Int) then
(cH ((x0.getD x1.toNat 0).toNat:Int)).bind fun r596=>
ad r596 (k0 x0 (IntKind.i64.wrap (x1+(1:Int)))) (if 0≤x1∧x1 < (x0.length:Int) then
(bw ((x0.getD x1.toNat 0).toNat:Int)).bind fun r599=>
ad r599 (k0 x0 (IntKind.i64.wrap (x1+(1:Int)))) (if 0≤x1∧x1 < (x0.length:Int) then
ad (((x0.getD x1.toNat 0).toNat:Int) != (45:Int)) (k1 x0 x1) (ad ((IntKind.i64.wrap (x1+(1:Int)))==(x0.length:Int)) (k1 x0 x1) (let v605:Int:=(IntKind.i64.wrap (x1+(1:Int)))
if 0≤v605∧v605 < (x0.length:Int) then
(cH ((x0.getD v605.toNat 0).toNat:Int)).bind fun r607=>
ad (!r607) (let v608:Int:=(IntKind.i64.wrap (x1+(1:Int)))
if 0≤v608∧v608 < (x0.length:Int) then
(bw ((x0.getD v608.toNat 0).toNat:Int)).bind fun r610=>
ad (!r610) (k1 x0 x1) (k0 x0 (IntKind.i64.wrap (x1+(2:Int))))
else none) (k0 x0 (IntKind.i64.wrap (x1+(2:Int))))
else none))
else none)
else none)
else none) (k1 x0 x1)
theorem al8 (cH) (bw) (h135:(o7 cH).holds cl) (h136:(kO bw).holds cl) (x0 x1):exec cl N Ek (cV x0 x1) K=(vA cH bw (fun y0 y1=>K .normal (cV y0 y1)) (fun y0 y1=>K (.exit 0) (cV y0 y1)) x0 x1):=by
 rw [←aN h135]
 rw [←aN h136]
 kernel_rfl
def qt {R:Type} (cH:Int→Option (Bool)) (bw:Int→Option (Bool)) (k0:V4→Int→Option R):Nat→V4→Int→Option R
 | 0,_,_=>none
 | m+1,x0,x1=>(vA cH bw (qt cH bw k0 m) k0 x0 x1)
theorem ae4 (cH) (bw) (h135:(o7 cH).holds cl) (h136:(kO bw).holds cl):∀ (m) (x0 x1),iter [0,3] (fun env K=>exec cl N Ek env K) K m (cV x0 x1)=qt cH bw (fun y0 y1=>K (.exit 0) (cV y0 y1)) m x0 x1:=by
 intro m
 induction m with
 | zero=>intros; rfl
 | succ m ih=>
   intro x0 x1
   simp only [bZ,al8 cH bw h135 h136,b6,b5,b7,Un,ih]
   rfl
theorem abl (x0 x1):aj [3] (cV x0 x1)=[(3,.v U2 x1)]:=by kernel_rfl
def vB (N:Nat) (cH:Int→Option (Bool)) (bw:Int→Option (Bool)) (k0:Int→Option R) (x0:V4) (x1:Int):Option R:=
qt cH bw (fun y0 y1=>k0 y1) N x0 x1
theorem al9 (cH) (bw) (h135:(o7 cH).holds cl) (h136:(kO bw).holds cl) (x0 x1):exec cl N El (cV x0 x1) K=(vB N cH bw (fun y0=>K (.exit 0) [(3,.v U2 y0)]) x0 x1):=by
 simp only [El,aT,bX,Un,ae4 cH bw h135 h136,abl]
 rfl
theorem abm (x0):aj [3] [(3,.v U2 x0)]=[(3,.v U2 x0)]:=by kernel_rfl
def vC (k0:Int→Option R) (x0:Int):Option R:=
k0 x0
theorem ama (x0):exec cl N Mw [(3,.v U2 x0)] K=(vC (fun y0=>K .ret [(2,.v U2 y0)]) x0):=by
 kernel_rfl
def vE (N:Nat) (cH:Int→Option (Bool)) (bw:Int→Option (Bool)) (k0:Int→Option R) (k1:Int→Option R) (x0:V4):Option R:=
(vD cH k0 (vB N cH bw ((vC k1))) x0)
theorem amc (cH) (bw) (h135:(o7 cH).holds cl) (h136:(kO bw).holds cl) (x0):exec cl N Ag [(0,.v .str x0)] K=(vE N cH bw (fun y0=>K .ret (jm y0)) (fun y0=>K .ret [(2,.v U2 y0)]) x0):=by
 simp only [bY,b9,b8,ca,amb cH h135,Af,Mv,aT,cx,al9 cH bw h135 h136,ct,cw,cq,abm,ama]
 rfl
theorem ah5 (y0):ag d115 .ret (jm y0)=some [.v U2 y0]:=by kernel_rfl
theorem ah6 (y0):ag d115 .ret [(2,.v U2 y0)]=some [.v U2 y0]:=by kernel_rfl
def sj (N:Nat) (cH:Int→Option (Bool)) (bw:Int→Option (Bool)) (x0:V4) (k:Int→Option R):Option R:=
(vE N cH bw k k x0)
theorem Yf (cH) (bw) (h135:(o7 cH).holds cl) (h136:(kO bw).holds cl) (x0) (k:List E→Option R):exec cl N Ej [(0,.v .str x0)] (fun e env=>(ag d115 e env).bind k)=sj N cH bw x0 (fun r0=>k [.v U2 r0]):=by
 simp only [Ej,amc cH bw h135 h136,ah5,ah6,ar]
 rfl
def HT (S:V4→Option (Int)):aQ:=cG 115 .str S fun b=> [.v U2 b]
def gY (N:Nat) (x0:V4):Option (Int):=sj N (cH N) (bw N) x0 (fun (r0:Int)=>some (r0))
def Kb (gY:V4→Option (Int)) (k0:Bool→Option R) (x0:V4):Option R:=
ad (x0 != ([]:List UInt8)) (ad (decide ((x0.length:Int)≤(20:Int))) ((gY x0).bind fun r617=>
k0 (r617==(x0.length:Int))) (k0 false)) (k0 false)
theorem aq7 (gY) (h115:(HT gY).holds cl) (x0):exec cl N Qr [(0,.v .str x0)] K=(Kb gY (fun y0=>K .ret [(2,.v .bool y0)]) x0):=by
 rw [←aN h115]
 kernel_rfl
theorem aj4 (y0):ag d90 .ret [(2,.v .bool y0)]=some [.v .bool y0]:=by kernel_rfl
def CS (gY:V4→Option (Int)) (x0:V4) (k:Bool→Option R):Option R:=
(Kb gY k x0)
theorem Zm (gY) (h115:(HT gY).holds cl) (x0) (k:List E→Option R):exec cl N Ho [(0,.v .str x0)] (fun e env=>(ag d90 e env).bind k)=CS gY x0 (fun r0=>k [.v .bool r0]):=by
 simp only [Ho,aq7 gY h115,aj4,ar]
 rfl
def B3 (S:V4→Option (Bool)):aQ:=cG 90 .str S fun b=> [.v .bool b]
def fq (N:Nat) (x0:V4):Option (Bool):=CS (gY N) x0 (fun (r0:Bool)=>some (r0))
def R6 (k0:Bool→Option R) (k1:Int→Option R) (x0:Int):Option R:=
ad (decide (x0 < (32:Int))) (k0 false) (ad (decide (x0 > (126:Int))) (k0 false) (k1 x0))
theorem al0 (x0):exec cl N Ae [(0,.v U0 x0)] K=(R6 (fun y0=>K .ret [(0,.dead),(2,.v .bool y0)]) (fun y0=>exec cl N Ad [(0,.v U0 y0),(2,.dead)] K) x0):=by
 delta Ae
 generalize Ad=q
 revert q
 refine id ?_
 intro q
 kernel_rfl
def R2 (k0:Int→Int→Option R) (x0:Int):Option R:=
k0 x0 (0:Int)
theorem alW (x0):exec cl N Mq [(0,.v U0 x0),(2,.dead)] K=(R2 (fun y0 y1=>K .normal (l6 y0 y1)) x0):=by
 kernel_rfl
theorem Um (x0 x1):aj [0,3] (l6 x0 x1)=(l6 x0 x1):=by kernel_rfl
def R3 (k0:Bool→Option R) (k1:Int→Int→Option R) (k2:Int→Int→Option R) (x0 x1:Int):Option R:=
ad (decide (x1 < (15:Int))) (if 0≤x1∧x1 < (([32,46,44,59,58,33,63,34,45,91,93,60,62,123,125]:List UInt8).length:Int) then
ad (((([32,46,44,59,58,33,63,34,45,91,93,60,62,123,125]:List UInt8).getD x1.toNat 0).toNat:Int)==x0) (k0 false) (k1 x0 (IntKind.i64.wrap (x1+(1:Int))))
else none) (k2 x0 x1)
theorem alX (x0 x1):exec cl N Eg (l6 x0 x1) K=(R3 (fun y0=>K .ret (IY y0)) (fun y0 y1=>K .normal (l6 y0 y1)) (fun y0 y1=>K (.exit 0) (l6 y0 y1)) x0 x1):=by
 kernel_rfl
def KI {R:Type} (k0:Bool→Option R) (k1:Int→Int→Option R):Nat→Int→Int→Option R
 | 0,_,_=>none
 | m+1,x0,x1=>(R3 k0 (KI k0 k1 m) k1 x0 x1)
theorem ae3:∀ (m) (x0 x1),iter [0,3] (fun env K=>exec cl N Eg env K) K m (l6 x0 x1)=KI (fun y0=>K .ret (IY y0)) (fun y0 y1=>K (.exit 0) (l6 y0 y1)) m x0 x1:=by
 intro m
 induction m with
 | zero=>intros; rfl
 | succ m ih=>
   intro x0 x1
   simp only [bZ,alX,b6,b5,b7,Um,ih]
   rfl
theorem abh (x0):aj [2] (IY x0)=[(2,.v .bool x0)]:=by kernel_rfl
theorem abi (x0 x1):aj [2] (l6 x0 x1)=[(2,.dead)]:=by kernel_rfl
def R4 (N:Nat) (k0:Bool→Option R) (k1:Option R) (x0 x1:Int):Option R:=
KI k0 (fun y0 y1=>k1) N x0 x1
theorem alY (x0 x1):exec cl N Eh (l6 x0 x1) K=(R4 N (fun y0=>K .ret [(2,.v .bool y0)]) (K (.exit 0) [(2,.dead)]) x0 x1):=by
 simp only [Eh,aT,bX,Um,ae3,abh,abi]
 rfl
theorem abj (x0):aj [2] [(2,.v .bool x0)]=[(2,.v .bool x0)]:=by kernel_rfl
theorem abk:aj [2] [(2,.dead)]=[(2,.dead)]:=by kernel_rfl
def R5 (k0:Bool→Option R):Option R:=
k0 true
theorem alZ:exec cl N Mt [(2,.dead)] K=(R5 (fun y0=>K .ret [(2,.v .bool y0)])):=by
 kernel_rfl
def R7 (N:Nat) (k0:Bool→Option R) (k1:Bool→Option R) (x0:Int):Option R:=
(R6 k0 (R2 (R4 N k1 (R5 k1))) x0)
theorem al6 (x0):exec cl N Ae [(0,.v U0 x0)] K=(R7 N (fun y0=>K .ret [(0,.dead),(2,.v .bool y0)]) (fun y0=>K .ret [(2,.v .bool y0)]) x0):=by
 simp only [bY,b9,b8,ca,al0,Ad,Ms,alW,Mr,aT,cx,alY,ct,cw,cq,abj,abk,alZ]
 rfl
theorem ah2 (y0):ag d111 .ret [(0,.dead),(2,.v .bool y0)]=some [.v .bool y0]:=by kernel_rfl
theorem ah3 (y0):ag d111 .ret [(2,.v .bool y0)]=some [.v .bool y0]:=by kernel_rfl
def Jn (N:Nat) (x0:Int) (k:Bool→Option R):Option R:=
(R7 N k k x0)
theorem Yd (x0) (k:List E→Option R):exec cl N Ef [(0,.v U0 x0)] (fun e env=>(ag d111 e env).bind k)=Jn N x0 (fun r0=>k [.v .bool r0]):=by
 simp only [Ef,al6,ah2,ah3,ar]
 rfl
def rG (S:Int→Option (Bool)):aQ:=cG 111 U0 S fun b=> [.v .bool b]
def de (N:Nat) (x0:Int):Option (Bool):=Jn N x0 (fun (r0:Bool)=>some (r0))
def vJ (k0:Int→Option R) (k1:V4→Option R) (x0:V4):Option R:=
ad (x0==([]:List UInt8)) (k0 (7:Int)) (ad (decide ((x0.length:Int) > (4:Int))) (k0 (3:Int)) (k1 x0))
theorem amh (x0):exec cl N Ai [(0,.v .str x0)] K=(vJ (fun y0=>K .ret (jm y0)) (fun y0=>exec cl N Ah (Cb y0) K) x0):=by
 delta Ai
 generalize Ah=q
 revert q
 refine id ?_
 intro q
 kernel_rfl
def vF (k0:V4→Int→Option R) (x0:V4):Option R:=
k0 x0 (0:Int)
theorem amd (x0):exec cl N Mx (Cb x0) K=(vF (fun y0 y1=>K .normal (cV y0 y1)) x0):=by
 kernel_rfl
theorem Uo (x0 x1):aj [0,3] (cV x0 x1)=(cV x0 x1):=by kernel_rfl
def vG (de:Int→Option (Bool)) (k0:Int→Option R) (k1:V4→Int→Option R) (k2:V4→Int→Option R) (x0:V4) (x1:Int):Option R:=
ad (decide (x1 < (x0.length:Int))) (if 0≤x1∧x1 < (x0.length:Int) then
(de ((x0.getD x1.toNat 0).toNat:Int)).bind fun r648=>
ad (!r648) (k0 (2:Int)) (if 0≤x1∧x1 < (x0.length:Int) then
ad (decide (((x0.getD x1.toNat 0).toNat:Int)≥(65:Int))) (if 0≤x1∧x1 < (x0.length:Int) then
ad (decide (((x0.getD x1.toNat 0).toNat:Int)≤(90:Int))) (k0 (2:Int)) (k1 x0 (IntKind.i64.wrap (x1+(1:Int))))
else none) (k1 x0 (IntKind.i64.wrap (x1+(1:Int))))
else none)
else none) (k2 x0 x1)
theorem ame (de) (h111:(rG de).holds cl) (x0 x1):exec cl N En (cV x0 x1) K=(vG de (fun y0=>K .ret (r6 y0)) (fun y0 y1=>K .normal (cV y0 y1)) (fun y0 y1=>K (.exit 0) (cV y0 y1)) x0 x1):=by
 rw [←aN h111]
 kernel_rfl
def ta {R:Type} (de:Int→Option (Bool)) (k0:Int→Option R) (k1:V4→Int→Option R):Nat→V4→Int→Option R
 | 0,_,_=>none
 | m+1,x0,x1=>(vG de k0 (ta de k0 k1 m) k1 x0 x1)
theorem ae5 (de) (h111:(rG de).holds cl):∀ (m) (x0 x1),iter [0,3] (fun env K=>exec cl N En env K) K m (cV x0 x1)=ta de (fun y0=>K .ret (r6 y0)) (fun y0 y1=>K (.exit 0) (cV y0 y1)) m x0 x1:=by
 intro m
 induction m with
 | zero=>intros; rfl
 | succ m ih=>
   intro x0 x1
   simp only [bZ,ame de h111,b6,b5,b7,Uo,ih]
   rfl
theorem abn (x0):aj [2] (r6 x0)=[(2,.v U2 x0)]:=by kernel_rfl
theorem abo (x0 x1):aj [2] (cV x0 x1)=[(2,.dead)]:=by kernel_rfl
def vH (N:Nat) (de:Int→Option (Bool)) (k0:Int→Option R) (k1:Option R) (x0:V4) (x1:Int):Option R:=
ta de k0 (fun y0 y1=>k1) N x0 x1
theorem amf (de) (h111:(rG de).holds cl) (x0 x1):exec cl N Eo (cV x0 x1) K=(vH N de (fun y0=>K .ret [(2,.v U2 y0)]) (K (.exit 0) [(2,.dead)]) x0 x1):=by
 simp only [Eo,aT,bX,Uo,ae5 de h111,abn,abo]
 rfl
theorem abp (x0):aj [2] [(2,.v U2 x0)]=[(2,.v U2 x0)]:=by kernel_rfl
theorem abq:aj [2] [(2,.dead)]=[(2,.dead)]:=by kernel_rfl
def vI (k0:Int→Option R):Option R:=
k0 (0:Int)
theorem amg:exec cl N MA [(2,.dead)] K=(vI (fun y0=>K .ret [(2,.v U2 y0)])):=by
 kernel_rfl
def vK (N:Nat) (de:Int→Option (Bool)) (k0:Int→Option R) (k1:Int→Option R) (x0:V4):Option R:=
(vJ k0 (vF (vH N de k1 (vI k1))) x0)
theorem ami (de) (h111:(rG de).holds cl) (x0):exec cl N Ai [(0,.v .str x0)] K=(vK N de (fun y0=>K .ret (jm y0)) (fun y0=>K .ret [(2,.v U2 y0)]) x0):=by
 simp only [bY,b9,b8,ca,amh,Ah,Mz,amd,My,aT,cx,amf de h111,ct,cw,cq,abp,abq,amg]
 rfl
theorem ah7 (y0):ag d116 .ret (jm y0)=some [.v U2 y0]:=by kernel_rfl
theorem ah8 (y0):ag d116 .ret [(2,.v U2 y0)]=some [.v U2 y0]:=by kernel_rfl
def sk (N:Nat) (de:Int→Option (Bool)) (x0:V4) (k:Int→Option R):Option R:=
(vK N de k k x0)
theorem Yg (de) (h111:(rG de).holds cl) (x0) (k:List E→Option R):exec cl N Em [(0,.v .str x0)] (fun e env=>(ag d116 e env).bind k)=sk N de x0 (fun r0=>k [.v U2 r0]):=by
 simp only [Em,ami de h111,ah7,ah8,ar]
 rfl
def BQ (S:V4→Option (Int)):aQ:=cG 116 .str S fun b=> [.v U2 b]
def fF (N:Nat) (x0:V4):Option (Int):=sk N (de N) x0 (fun (r0:Int)=>some (r0))
def yu (fF:V4→Option (Int)) (k0:Int→Option R) (k1:aS→Option R) (x0:aS):Option R:=
(fF x0.1).bind fun r667=>
ad (r667 != (0:Int)) (k0 r667) (ad ((x0.2.1.length:Int)==(0:Int)) (k0 (7:Int)) (ad (decide ((x0.2.1.length:Int) > (2:Int))) (k0 (3:Int)) (k1 x0)))
theorem arc (fF) (h116:(BQ fF).holds cl) (x0):exec cl N Bv [(0,.v aC x0)] K=(yu fF (fun y0=>K .ret (e7 y0)) (fun y0=>exec cl N Bu (jn y0) K) x0):=by
 rw [←aN h116]
 delta Bv
 generalize Bu=q
 revert q
 refine id ?_
 intro q
 kernel_rfl
def yn (k0:aS→Int→Option R) (x0:aS):Option R:=
k0 x0 (0:Int)
theorem aq8 (x0):exec cl N Qs (jn x0) K=(yn (fun y0 y1=>K .normal (l7 y0 y1)) x0):=by
 kernel_rfl
theorem Vb (x0 x1):aj [1,4] (l7 x0 x1)=(l7 x0 x1):=by kernel_rfl
def yp (bP:aR→Option (Int)) (k0:Int→Option R) (k1:aS→Int→Option R) (k2:aS→Int→Option R) (x0:aS) (x1:Int):Option R:=
ad (decide (x1 < (x0.2.1.length:Int))) (if 0≤x1∧x1 < (x0.2.1.length:Int) then
(bP (x0.2.1.getD x1.toNat ((0:Int),((0:Int),([],()))))).bind fun r672=>
ad (r672 != (0:Int)) (k0 r672) (k1 x0 (IntKind.i64.wrap (x1+(1:Int))))
else none) (k2 x0 x1)
theorem aq9 (bP) (h117:(mZ bP).holds cl) (x0 x1):exec cl N Hq (l7 x0 x1) K=(yp bP (fun y0=>K .ret (e9 y0)) (fun y0 y1=>K .normal (l7 y0 y1)) (fun y0 y1=>K (.exit 0) (l7 y0 y1)) x0 x1):=by
 rw [←aN h117]
 kernel_rfl
def tx {R:Type} (bP:aR→Option (Int)) (k0:Int→Option R) (k1:aS→Int→Option R):Nat→aS→Int→Option R
 | 0,_,_=>none
 | m+1,x0,x1=>(yp bP k0 (tx bP k0 k1 m) k1 x0 x1)
theorem afO (bP) (h117:(mZ bP).holds cl):∀ (m) (x0 x1),iter [1,4] (fun env K=>exec cl N Hq env K) K m (l7 x0 x1)=tx bP (fun y0=>K .ret (e9 y0)) (fun y0 y1=>K (.exit 0) (l7 y0 y1)) m x0 x1:=by
 intro m
 induction m with
 | zero=>intros; rfl
 | succ m ih=>
   intro x0 x1
   simp only [bZ,aq9 bP h117,b6,b5,b7,Vb,ih]
   rfl
theorem adJ (x0):aj [1,2] (e9 x0)=(e7 x0):=by kernel_rfl
theorem adK (x0 x1):aj [1,2] (l7 x0 x1)=(jn x0):=by kernel_rfl
def yq (N:Nat) (bP:aR→Option (Int)) (k0:Int→Option R) (k1:aS→Option R) (x0:aS) (x1:Int):Option R:=
tx bP k0 (fun y0 y1=>k1 y0) N x0 x1
theorem ara (bP) (h117:(mZ bP).holds cl) (x0 x1):exec cl N Hr (l7 x0 x1) K=(yq N bP (fun y0=>K .ret (e7 y0)) (fun y0=>K (.exit 0) (jn y0)) x0 x1):=by
 simp only [Hr,aT,bX,Vb,afO bP h117,adJ,adK]
 rfl
theorem adL (x0):aj [1,2] (e7 x0)=(e7 x0):=by kernel_rfl
theorem adM (x0):aj [1,2] (jn x0)=(jn x0):=by kernel_rfl
def yr (k0:Int→Option R) (x0:aS):Option R:=
ad (decide (x0.2.2.1 < (0:Int))) (k0 (6:Int)) (ad (decide (x0.2.2.1 > (99:Int))) (k0 (6:Int)) (ad (decide (x0.2.2.2.1 < (0:Int))) (k0 (6:Int)) (ad (decide (x0.2.2.2.1 > (4:Int))) (k0 (6:Int)) (k0 (0:Int)))))
theorem arb (x0):exec cl N Qv (jn x0) K=(yr (fun y0=>K .ret [(2,.v U2 y0)]) x0):=by
 kernel_rfl
def yw (N:Nat) (fF:V4→Option (Int)) (bP:aR→Option (Int)) (k0:Int→Option R) (k1:Int→Option R) (x0:aS):Option R:=
(yu fF k0 (yn (yq N bP k0 ((yr k1)))) x0)
theorem ard (fF) (bP) (h116:(BQ fF).holds cl) (h117:(mZ bP).holds cl) (x0):exec cl N Bv [(0,.v aC x0)] K=(yw N fF bP (fun y0=>K .ret (e7 y0)) (fun y0=>K .ret [(2,.v U2 y0)]) x0):=by
 simp only [bY,b9,b8,ca,arc fF h116,Bu,Qu,aq8,Qt,aT,cx,ara bP h117,ct,cw,cq,adL,adM,arb]
 rfl
theorem aj5 (y0):ag d91 .ret (e7 y0)=some [.v U2 y0]:=by kernel_rfl
theorem aj6 (y0):ag d91 .ret [(2,.v U2 y0)]=some [.v U2 y0]:=by kernel_rfl
def s3 (N:Nat) (fF:V4→Option (Int)) (bP:aR→Option (Int)) (x0:aS) (k:Int→Option R):Option R:=
(yw N fF bP k k x0)
theorem Zn (fF) (bP) (h116:(BQ fF).holds cl) (h117:(mZ bP).holds cl) (x0) (k:List E→Option R):exec cl N Hp [(0,.v aC x0)] (fun e env=>(ag d91 e env).bind k)=s3 N fF bP x0 (fun r0=>k [.v U2 r0]):=by
 simp only [Hp,ard fF bP h116 h117,aj5,aj6,ar]
 rfl
def pd (S:aS→Option (Int)):aQ:=cG 91 aC S fun b=> [.v U2 b]
def cK (N:Nat) (x0:aS):Option (Int):=s3 N (fF N) (bP N) x0 (fun (r0:Int)=>some (r0))
def J9 (k0:Int→Option R) (k1:Int→Option R) (x0 x1:Int):Option R:=
ad (decide (x0 < x1)) (k0 (-1:Int)) (ad (decide (x0 > x1)) (k1 (1:Int)) (k1 (0:Int)))
theorem aq5 (x0 x1):exec cl N Qp (Cc x0 x1) K=(J9 (fun y0=>K .ret (l8 y0)) (fun y0=>K .ret [(4,.v U2 y0)]) x0 x1):=by
 kernel_rfl
theorem aj1 (y0):ag d86 .ret (l8 y0)=some [.v U2 y0]:=by kernel_rfl
theorem aj2 (y0):ag d86 .ret [(4,.v U2 y0)]=some [.v U2 y0]:=by kernel_rfl
def CR (x0 x1:Int) (k:Int→Option R):Option R:=
(J9 k k x0 x1)
theorem Zk (x0 x1) (k:List E→Option R):exec cl N Hm (Cc x0 x1) (fun e env=>(ag d86 e env).bind k)=CR x0 x1 (fun r0=>k [.v U2 r0]):=by
 simp only [Hm,aq5,aj1,aj2,ar]
 rfl
def Ij (S:Int→Int→Option (Int)):aQ:=eA 86 U2 U2 S fun b=> [.v U2 b]
def gP (N:Nat) (x0:Int) (x1:Int):Option (Int):=CR x0 x1 (fun (r0:Int)=>some (r0))
def JX (gP:Int→Int→Option (Int)) (k0:Int→Option R) (k1:Int→Option R) (x0 x1:aR):Option R:=
(gP x0.1 x1.1).bind fun r696=>
ad (r696 != (0:Int)) (k0 r696) ((gP x0.2.1 x1.2.1).bind fun r698=>
ad (r698 != (0:Int)) (k0 r698) (ad (Op.bytesLess x0.2.2.1 x1.2.2.1) (k0 (-1:Int)) (ad (!((Op.bytesLess x0.2.2.1 x1.2.2.1) || x0.2.2.1==x1.2.2.1)) (k1 (1:Int)) (k1 (0:Int)))))
theorem aqb (gP) (h86:(Ij gP).holds cl) (x0 x1):exec cl N PD [(0,.v aD x0),(1,.v aD x1)] K=(JX gP (fun y0=>K .ret [(2,.dead),(3,.dead),(4,.v U2 y0)]) (fun y0=>K .ret [(4,.v U2 y0)]) x0 x1):=by
 rw [←aN h86]
 kernel_rfl
theorem ajE (y0):ag d59 .ret [(2,.dead),(3,.dead),(4,.v U2 y0)]=some [.v U2 y0]:=by kernel_rfl
theorem ajF (y0):ag d59 .ret [(4,.v U2 y0)]=some [.v U2 y0]:=by kernel_rfl
def CO (gP:Int→Int→Option (Int)) (x0 x1:aR) (k:Int→Option R):Option R:=
(JX gP k k x0 x1)
theorem Zb (gP) (h86:(Ij gP).holds cl) (x0 x1) (k:List E→Option R):exec cl N GQ [(0,.v aD x0),(1,.v aD x1)] (fun e env=>(ag d59 e env).bind k)=CO gP x0 x1 (fun r0=>k [.v U2 r0]):=by
 simp only [GQ,aqb gP h86,ajE,ajF,ar]
 rfl
def rR (S:aR→aR→Option (Int)):aQ:=eA 59 aD aD S fun b=> [.v U2 b]
def dz (N:Nat) (x0:aR) (x1:aR):Option (Int):=CO (gP N) x0 x1 (fun (r0:Int)=>some (r0))
def w4 (k0:Bool→Option R) (k1:aA→aA→Option R) (x0 x1:aA):Option R:=
ad ((x0.length:Int) != (x1.length:Int)) (k0 false) (k1 x0 x1)
theorem aoJ (x0 x1):exec cl N AW (r7 x0 x1) K=(w4 (fun y0=>K .ret (iT y0)) (fun y0 y1=>exec cl N AV (Cd y0 y1) K) x0 x1):=by
 delta AW
 generalize AV=q
 revert q
 refine id ?_
 intro q
 kernel_rfl
def wY (k0:aA→aA→Int→Option R) (x0 x1:aA):Option R:=
k0 x0 x1 (0:Int)
theorem aoF (x0 x1):exec cl N Ot (Cd x0 x1) K=(wY (fun y0 y1 y2=>K .normal (l9 y0 y1 y2)) x0 x1):=by
 kernel_rfl
theorem UF (x0 x1 x2):aj [0,1,5] (l9 x0 x1 x2)=(l9 x0 x1 x2):=by kernel_rfl
def wZ (dz:aR→aR→Option (Int)) (k0:Bool→Option R) (k1:aA→aA→Int→Option R) (k2:aA→aA→Int→Option R) (x0 x1:aA) (x2:Int):Option R:=
ad (decide (x2 < (x0.length:Int))) (if 0≤x2∧x2 < (x0.length:Int) then
if 0≤x2∧x2 < (x1.length:Int) then
(dz (x0.getD x2.toNat ((0:Int),((0:Int),([],())))) (x1.getD x2.toNat ((0:Int),((0:Int),([],()))))).bind fun r707=>
ad (r707 != (0:Int)) (k0 false) (k1 x0 x1 (IntKind.i64.wrap (x2+(1:Int))))
else none
else none) (k2 x0 x1 x2)
theorem aoG (dz) (h59:(rR dz).holds cl) (x0 x1 x2):exec cl N FW (l9 x0 x1 x2) K=(wZ dz (fun y0=>K .ret (kp y0)) (fun y0 y1 y2=>K .normal (l9 y0 y1 y2)) (fun y0 y1 y2=>K (.exit 0) (l9 y0 y1 y2)) x0 x1 x2):=by
 rw [←aN h59]
 kernel_rfl
def tj {R:Type} (dz:aR→aR→Option (Int)) (k0:Bool→Option R) (k1:aA→aA→Int→Option R):Nat→aA→aA→Int→Option R
 | 0,_,_,_=>none
 | m+1,x0,x1,x2=>(wZ dz k0 (tj dz k0 k1 m) k1 x0 x1 x2)
theorem afr (dz) (h59:(rR dz).holds cl):∀ (m) (x0 x1 x2),iter [0,1,5] (fun env K=>exec cl N FW env K) K m (l9 x0 x1 x2)=tj dz (fun y0=>K .ret (kp y0)) (fun y0 y1 y2=>K (.exit 0) (l9 y0 y1 y2)) m x0 x1 x2:=by
 intro m
 induction m with
 | zero=>intros; rfl
 | succ m ih=>
   intro x0 x1 x2
   simp only [bZ,aoG dz h59,b6,b5,b7,UF,ih]
   rfl
theorem acz (x0):aj [4] (kp x0)=[(4,.v .bool x0)]:=by kernel_rfl
theorem acA (x0 x1 x2):aj [4] (l9 x0 x1 x2)=[(4,.dead)]:=by kernel_rfl
def w0 (N:Nat) (dz:aR→aR→Option (Int)) (k0:Bool→Option R) (k1:Option R) (x0 x1:aA) (x2:Int):Option R:=
tj dz k0 (fun y0 y1 y2=>k1) N x0 x1 x2
theorem aoH (dz) (h59:(rR dz).holds cl) (x0 x1 x2):exec cl N FX (l9 x0 x1 x2) K=(w0 N dz (fun y0=>K .ret [(4,.v .bool y0)]) (K (.exit 0) [(4,.dead)]) x0 x1 x2):=by
 simp only [FX,aT,bX,UF,afr dz h59,acz,acA]
 rfl
theorem acB (x0):aj [4] [(4,.v .bool x0)]=[(4,.v .bool x0)]:=by kernel_rfl
theorem acC:aj [4] [(4,.dead)]=[(4,.dead)]:=by kernel_rfl
def w3 (k0:Bool→Option R):Option R:=
k0 true
theorem aoI:exec cl N Ow [(4,.dead)] K=(w3 (fun y0=>K .ret [(4,.v .bool y0)])):=by
 kernel_rfl
def w7 (N:Nat) (dz:aR→aR→Option (Int)) (k0:Bool→Option R) (k1:Bool→Option R) (x0 x1:aA):Option R:=
(w4 k0 (wY (w0 N dz k1 (w3 k1))) x0 x1)
theorem aoK (dz) (h59:(rR dz).holds cl) (x0 x1):exec cl N AW (r7 x0 x1) K=(w7 N dz (fun y0=>K .ret (iT y0)) (fun y0=>K .ret [(4,.v .bool y0)]) x0 x1):=by
 simp only [bY,b9,b8,ca,aoJ,AV,Ov,aoF,Ou,aT,cx,aoH dz h59,ct,cw,cq,acB,acC,aoI]
 rfl
theorem ai8 (y0):ag d28 .ret (iT y0)=some [.v .bool y0]:=by kernel_rfl
theorem ai9 (y0):ag d28 .ret [(4,.v .bool y0)]=some [.v .bool y0]:=by kernel_rfl
def sz (N:Nat) (dz:aR→aR→Option (Int)) (x0 x1:aA) (k:Bool→Option R):Option R:=
(w7 N dz k k x0 x1)
theorem YT (dz) (h59:(rR dz).holds cl) (x0 x1) (k:List E→Option R):exec cl N FV (r7 x0 x1) (fun e env=>(ag d28 e env).bind k)=sz N dz x0 x1 (fun r0=>k [.v .bool r0]):=by
 simp only [FV,aoK dz h59,ai8,ai9,ar]
 rfl
def na (S:aA→aA→Option (Bool)):aQ:=eA 28 bt bt S fun b=> [.v .bool b]
def bM (N:Nat) (x0:aA) (x1:aA):Option (Bool):=sz N (dz N) x0 x1 (fun (r0:Bool)=>some (r0))
def qf (fq:V4→Option (Bool)) (k0:Int→Int→Option R) (k1:ae→Option R) (x0:ae):Option R:=
(fq x0.1).bind fun r715=>
ad (!r715) (k0 (-1:Int) (2:Int)) (ad ((x0.2.1.length:Int)==(0:Int)) (k0 (-1:Int) (7:Int)) (ad (decide ((x0.2.1.length:Int) > (120:Int))) (k0 (-1:Int) (3:Int)) (k1 x0)))
theorem aqr (fq) (h90:(B3 fq).holds cl) (x0):exec cl N Bk [(0,.v ak x0)] K=(qf fq (fun y0 y1=>K .ret (r8 y0 y1)) (fun y0=>exec cl N Bj (Ce y0) K) x0):=by
 rw [←aN h90]
 delta Bk
 generalize Bj=q
 revert q
 refine id ?_
 intro q
 kernel_rfl
def qc (k0:ae→Int→Option R) (x0:ae):Option R:=
k0 x0 (0:Int)
theorem aqo (x0):exec cl N PQ (Ce x0) K=(qc (fun y0 y1=>K .normal (iU y0 y1)) x0):=by
 kernel_rfl
theorem UU (x0 x1):aj [1,4] (iU x0 x1)=(iU x0 x1):=by kernel_rfl
def qk (k0:ae→Int→Option R) (k1:ae→Int→Option R) (x0:ae) (x1:Int):Option R:=
ad (decide (x1 < (x0.2.1.length:Int))) (k0 x0 x1) (k1 x0 x1)
theorem aqw (x0 x1):exec cl N uM (iU x0 x1) K=(qk (fun y0 y1=>exec cl N Bm (iU y0 y1) K) (fun y0 y1=>K (.exit 0) (iU y0 y1)) x0 x1):=by
 delta uM
 generalize Bm=q
 revert q
 refine id ?_
 intro q
 kernel_rfl
def qi (cK:aS→Option (Int)) (k0:Int→Int→Option R) (k1:ae→Int→Int→Option R) (x0:ae) (x1:Int):Option R:=
if 0≤x1∧x1 < (x0.2.1.length:Int) then
(cK (x0.2.1.getD x1.toNat ([],([],((0:Int),((0:Int),())))))).bind fun r719=>
ad (r719 != (0:Int)) (k0 x1 r719) (k1 x0 x1 (0:Int))
else none
theorem aqu (cK) (h91:(pd cK).holds cl) (x0 x1):exec cl N G4 (iU x0 x1) K=(qi cK (fun y0 y1=>K .ret (nW y0 y1)) (fun y0 y1 y2=>exec cl N Bl (ma y0 y1 y2) K) x0 x1):=by
 rw [←aN h91]
 delta G4
 generalize Bl=q
 revert q
 refine id ?_
 intro q
 kernel_rfl
theorem UW (x0 x1 x2):aj [1,4,6] (ma x0 x1 x2)=(ma x0 x1 x2):=by kernel_rfl
def qd (bM:aA→aA→Option (Bool)) (k0:Int→Int→Option R) (k1:ae→Int→Int→Option R) (k2:ae→Int→Int→Option R) (x0:ae) (x1 x2:Int):Option R:=
ad (decide (x2 < x1)) (if 0≤x1∧x1 < (x0.2.1.length:Int) then
if 0≤x2∧x2 < (x0.2.1.length:Int) then
ad ((x0.2.1.getD x1.toNat ([],([],((0:Int),((0:Int),()))))).1==(x0.2.1.getD x2.toNat ([],([],((0:Int),((0:Int),()))))).1) (ad ((x0.2.1.getD x1.toNat ([],([],((0:Int),((0:Int),()))))).2.2.2.1==(x0.2.1.getD x2.toNat ([],([],((0:Int),((0:Int),()))))).2.2.2.1) ((bM ((x0.2.1.getD x1.toNat ([],([],((0:Int),((0:Int),()))))).2.1) ((x0.2.1.getD x2.toNat ([],([],((0:Int),((0:Int),()))))).2.1)).bind fun r724=>
ad r724 (k0 x1 (5:Int)) (k1 x0 x1 (IntKind.i64.wrap (x2+(1:Int))))) (k1 x0 x1 (IntKind.i64.wrap (x2+(1:Int))))) (k1 x0 x1 (IntKind.i64.wrap (x2+(1:Int))))
else none
else none) (k2 x0 x1 x2)
theorem aqp (bM) (h28:(na bM).holds cl) (x0 x1 x2):exec cl N GZ (ma x0 x1 x2) K=(qd bM (fun y0 y1=>K .ret (IZ y0 y1)) (fun y0 y1 y2=>K .normal (ma y0 y1 y2)) (fun y0 y1 y2=>K (.exit 2) (ma y0 y1 y2)) x0 x1 x2):=by
 rw [←aN h28]
 kernel_rfl
def qA {R:Type} (bM:aA→aA→Option (Bool)) (k0:Int→Int→Option R) (k1:ae→Int→Int→Option R):Nat→ae→Int→Int→Option R
 | 0,_,_,_=>none
 | m+1,x0,x1,x2=>(qd bM k0 (qA bM k0 k1 m) k1 x0 x1 x2)
theorem afI (bM) (h28:(na bM).holds cl):∀ (m) (x0 x1 x2),iter [1,4,6] (fun env K=>exec cl N GZ env K) K m (ma x0 x1 x2)=qA bM (fun y0 y1=>K .ret (IZ y0 y1)) (fun y0 y1 y2=>K (.exit 2) (ma y0 y1 y2)) m x0 x1 x2:=by
 intro m
 induction m with
 | zero=>intros; rfl
 | succ m ih=>
   intro x0 x1 x2
   simp only [bZ,aqp bM h28,b6,b5,b7,UW,ih]
   rfl
theorem adn (x0 x1):aj [1,2,3,4] (IZ x0 x1)=(nW x0 x1):=by kernel_rfl
theorem ado (x0 x1 x2):aj [1,2,3,4] (ma x0 x1 x2)=(vl x0 x1):=by kernel_rfl
def qh (N:Nat) (bM:aA→aA→Option (Bool)) (k0:Int→Int→Option R) (k1:ae→Int→Option R) (x0:ae) (x1 x2:Int):Option R:=
qA bM k0 (fun y0 y1 y2=>k1 y0 y1) N x0 x1 x2
theorem aqt (bM) (h28:(na bM).holds cl) (x0 x1 x2):exec cl N G3 (ma x0 x1 x2) K=(qh N bM (fun y0 y1=>K .ret (nW y0 y1)) (fun y0 y1=>K (.exit 2) (vl y0 y1)) x0 x1 x2):=by
 simp only [G3,aT,bX,UW,afI bM h28,adn,ado]
 rfl
theorem adp (x0 x1):aj [1,2,3,4] (nW x0 x1)=(nW x0 x1):=by kernel_rfl
theorem adq (x0 x1):aj [1,2,3,4] (vl x0 x1)=(vl x0 x1):=by kernel_rfl
def qj (k0:ae→Int→Option R) (x0:ae) (x1:Int):Option R:=
k0 x0 (IntKind.i64.wrap (x1+(1:Int)))
theorem aqv (x0 x1):exec cl N PV (vl x0 x1) K=(qj (fun y0 y1=>K .normal (iU y0 y1)) x0 x1):=by
 kernel_rfl
def ql (N:Nat) (bM:aA→aA→Option (Bool)) (cK:aS→Option (Int)) (k0:Int→Int→Option R) (k1:ae→Int→Option R) (k2:ae→Int→Option R) (x0:ae) (x1:Int):Option R:=
(qk (qi cK k0 (qh N bM k0 (((qj k1))))) k2 x0 x1)
theorem aqx (bM) (cK) (h28:(na bM).holds cl) (h91:(pd cK).holds cl) (x0 x1):exec cl N uM (iU x0 x1) K=(ql N bM cK (fun y0 y1=>K .ret (nW y0 y1)) (fun y0 y1=>K .normal (iU y0 y1)) (fun y0 y1=>K (.exit 0) (iU y0 y1)) x0 x1):=by
 simp only [bY,b9,b8,ca,aqw,Bm,PU,aT,cx,aqu cK h91,Bl,aqt bM h28,ct,cw,cq,adp,adq,aqv]
 rfl
def ox {R:Type} (N:Nat) (bM:aA→aA→Option (Bool)) (cK:aS→Option (Int)) (k0:Int→Int→Option R) (k1:ae→Int→Option R):Nat→ae→Int→Option R
 | 0,_,_=>none
 | m+1,x0,x1=>(ql N bM cK k0 (ox N bM cK k0 k1 m) k1 x0 x1)
theorem afJ (bM) (cK) (h28:(na bM).holds cl) (h91:(pd cK).holds cl):∀ (m) (x0 x1),iter [1,4] (fun env K=>exec cl N uM env K) K m (iU x0 x1)=ox N bM cK (fun y0 y1=>K .ret (nW y0 y1)) (fun y0 y1=>K (.exit 0) (iU y0 y1)) m x0 x1:=by
 intro m
 induction m with
 | zero=>intros; rfl
 | succ m ih=>
   intro x0 x1
   simp only [bZ,aqx bM cK h28 h91,b6,b5,b7,UU,ih]
   rfl
theorem adr (x0 x1):aj [2,3] (nW x0 x1)=(jo x0 x1):=by kernel_rfl
theorem ads (x0 x1):aj [2,3] (iU x0 x1)=[(2,.dead),(3,.dead)]:=by kernel_rfl
def qm (N:Nat) (bM:aA→aA→Option (Bool)) (cK:aS→Option (Int)) (k0:Int→Int→Option R) (k1:Option R) (x0:ae) (x1:Int):Option R:=
ox N bM cK k0 (fun y0 y1=>k1) N x0 x1
theorem aqy (bM) (cK) (h28:(na bM).holds cl) (h91:(pd cK).holds cl) (x0 x1):exec cl N G5 (iU x0 x1) K=(qm N bM cK (fun y0 y1=>K .ret (jo y0 y1)) (K (.exit 0) [(2,.dead),(3,.dead)]) x0 x1):=by
 simp only [G5,aT,bX,UU,afJ bM cK h28 h91,adr,ads]
 rfl
theorem adt (x0 x1):aj [2,3] (jo x0 x1)=(jo x0 x1):=by kernel_rfl
theorem adu:aj [2,3] [(2,.dead),(3,.dead)]=[(2,.dead),(3,.dead)]:=by kernel_rfl
def qe (k0:Int→Int→Option R):Option R:=
k0 (-1:Int) (0:Int)
theorem aqq:exec cl N PT [(2,.dead),(3,.dead)] K=(qe (fun y0 y1=>K .ret (jo y0 y1))):=by
 kernel_rfl
def qg (N:Nat) (bM:aA→aA→Option (Bool)) (fq:V4→Option (Bool)) (cK:aS→Option (Int)) (k0:Int→Int→Option R) (k1:Int→Int→Option R) (x0:ae):Option R:=
(qf fq k0 (qc (qm N bM cK k1 (qe k1))) x0)
theorem aqs (bM) (fq) (cK) (h28:(na bM).holds cl) (h90:(B3 fq).holds cl) (h91:(pd cK).holds cl) (x0):exec cl N Bk [(0,.v ak x0)] K=(qg N bM fq cK (fun y0 y1=>K .ret (r8 y0 y1)) (fun y0 y1=>K .ret (jo y0 y1)) x0):=by
 simp only [bY,b9,b8,ca,aqr fq h90,Bj,PS,aqo,PR,aT,cx,aqy bM cK h28 h91,ct,cw,cq,adt,adu,aqq]
 rfl
theorem ajL (y0 y1):ag d67 .ret (r8 y0 y1)=some [.v U2 y0,.v U2 y1]:=by kernel_rfl
theorem ajM (y0 y1):ag d67 .ret (jo y0 y1)=some [.v U2 y0,.v U2 y1]:=by kernel_rfl
def ou (N:Nat) (bM:aA→aA→Option (Bool)) (fq:V4→Option (Bool)) (cK:aS→Option (Int)) (x0:ae) (k:Int→Int→Option R):Option R:=
(qg N bM fq cK k k x0)
theorem Ze (bM) (fq) (cK) (h28:(na bM).holds cl) (h90:(B3 fq).holds cl) (h91:(pd cK).holds cl) (x0) (k:List E→Option R):exec cl N GY [(0,.v ak x0)] (fun e env=>(ag d67 e env).bind k)=ou N bM fq cK x0 (fun r0 r1=>k [.v U2 r0,.v U2 r1]):=by
 simp only [GY,aqs bM fq cK h28 h90 h91,ajL,ajM,ar]
 rfl
def rT (S:ae→Option V1):aQ:=cG 67 ak S fun b=> [.v U2 b.1,.v U2 b.2]
def dM (N:Nat) (x0:ae):Option V1:=ou N (bM N) (fq N) (cK N) x0 (fun (r0:Int) (r1:Int)=>some (r0,r1))
def S8 (gg:V4→Option fP) (k0:ae→Int→Int→Option R) (k1:ae→Int→Int→Option R) (k2:V4→ae→aG→ae→Option R) (x0:V4):Option R:=
ad (decide ((x0.length:Int) > (20000:Int))) (k0 ([],[],()) (0:Int) (3:Int)) ((gg x0).bind fun r734=>
ad ((r734.length:Int)==(0:Int)) (k1 ([],[],()) (1:Int) (2:Int)) (k2 x0 ([],([],())) r734 ([],([],()))))
theorem aqC (gg) (h92:(B4 gg).holds cl) (x0):exec cl N Bo [(0,.v .str x0)] K=(S8 gg (fun y0 y1 y2=>K .ret (I0 y0 y1 y2)) (fun y0 y1 y2=>K .ret (I1 y0 y1 y2)) (fun y0 y1 y2 y3=>exec cl N Bn (RE y0 y1 y2 y3) K) x0):=by
 rw [←aN h92]
 delta Bo
 generalize Bn=q
 revert q
 refine id ?_
 intro q
 kernel_rfl
def S5 (k0:V4→ae→aG→ae→Int→Option R) (x0:V4) (x1:ae) (x2:aG) (x3:ae):Option R:=
k0 x0 x1 x2 x3 (0:Int)
theorem aqz (x0 x1 x2 x3):exec cl N PW (RE x0 x1 x2 x3) K=(S5 (fun y0 y1 y2 y3 y4=>K .normal (gS y0 y1 y2 y3 y4)) x0 x1 x2 x3):=by
 kernel_rfl
theorem UX (x0 x1 x2 x3 x4):aj [0,2,5,6,7] (gS x0 x1 x2 x3 x4)=(gS x0 x1 x2 x3 x4):=by kernel_rfl
def S6 (k0:V4→ae→aG→ae→Int→Option R) (k1:V4→ae→aG→ae→Int→Option R) (x0:V4) (x1:ae) (x2:aG) (x3:ae) (x4:Int):Option R:=
ad (decide (x4 < (x2.length:Int))) (k0 x0 x1 x2 x3 x4) (k1 x0 x1 x2 x3 x4)
theorem aqA (x0 x1 x2 x3 x4):exec cl N PX (gS x0 x1 x2 x3 x4) K=(S6 (fun y0 y1 y2 y3 y4=>K .normal (gS y0 y1 y2 y3 y4)) (fun y0 y1 y2 y3 y4=>K (.exit 0) (gS y0 y1 y2 y3 y4)) x0 x1 x2 x3 x4):=by
 kernel_rfl
def Tb (k0:V4→ae→aG→ae→Int→Bool→Option R) (x0:V4) (x1:ae) (x2:aG) (x3:ae) (x4:Int):Option R:=
ad (x4==(IntKind.i64.wrap ((x2.length:Int) - (1:Int)))) (let v738:Int:=(IntKind.i64.wrap ((x0.length:Int) - (1:Int)))
if 0≤v738∧v738 < (x0.length:Int) then
k0 x0 x1 x2 x3 x4 (((x0.getD v738.toNat 0).toNat:Int) != (10:Int))
else none) (k0 x0 x1 x2 x3 x4 false)
theorem aqE (x0 x1 x2 x3 x4):exec cl N P1 (gS x0 x1 x2 x3 x4) K=(Tb (fun y0 y1 y2 y3 y4 y5=>K .normal (RF y0 y1 y2 y3 y4 y5)) x0 x1 x2 x3 x4):=by
 kernel_rfl
def Tc (bR:V4→Option fP) (cY:V4→Option nK) (k0:ae→Int→Int→Option R) (k1:V4→ae→aG→ae→Int→Option R) (x0:V4) (x1:ae) (x2:aG) (x3:ae) (x4:Int) (x5:Bool):Option R:=
if 0≤x4∧x4 < (x2.length:Int) then
if x4.toNat < x2.length then
(bR (x2.getD x4.toNat [])).bind fun r742=>
if 0≤x4∧x4 < (x2.length:Int) then
if x4.toNat < x2.length then
(cY (x2.getD x4.toNat [])).bind fun r744=>
ad (x4==(0:Int)) (ad ((r742.length:Int)==(2:Int)) (if 0≤(0:Int)∧(0:Int) < (r742.length:Int) then
if ((0:Int).toNat) < r742.length then
ad x5 (k0 ([],[],()) (IntKind.i64.wrap (x4+(1:Int))) (2:Int)) (ad (!((r742.getD ((0:Int).toNat) [])==([111,114,116,104,111,103,114,97,112,104,121]:List UInt8))) (k0 ([],[],()) (IntKind.i64.wrap (x4+(1:Int))) (2:Int)) (ad (x4==(0:Int)) (if 0≤(1:Int)∧(1:Int) < (r742.length:Int) then
if ((1:Int).toNat) < r742.length then
k1 x0 x1 x2 ((r742.getD ((1:Int).toNat) []),x3.2) x4
else none
else none) (if x3.2.1.length+[r744.1].length≤2513169434916 then
k1 x0 x1 x2 (x3.1,((x3.2.1++[r744.1]),x3.2.2)) x4
else none)))
else none
else none) (ad x5 (k0 ([],[],()) (IntKind.i64.wrap (x4+(1:Int))) (2:Int)) (k0 ([],[],()) (IntKind.i64.wrap (x4+(1:Int))) (2:Int)))) (ad x5 (k0 ([],[],()) (IntKind.i64.wrap (x4+(1:Int))) (2:Int)) (ad (!r744.2) (k0 ([],[],()) (IntKind.i64.wrap (x4+(1:Int))) (2:Int)) (ad (x4==(0:Int)) (if 0≤(1:Int)∧(1:Int) < (r742.length:Int) then
if ((1:Int).toNat) < r742.length then
k1 x0 x1 x2 ((r742.getD ((1:Int).toNat) []),x3.2) x4
else none
else none) (if x3.2.1.length+[r744.1].length≤2513169434916 then
k1 x0 x1 x2 (x3.1,((x3.2.1++[r744.1]),x3.2.2)) x4
else none))))
else none
else none
else none
else none
theorem aqF (bR) (cY) (h93:(lx bR).holds cl) (h94:(pe cY).holds cl) (x0 x1 x2 x3 x4 x5):exec cl N P2 (RF x0 x1 x2 x3 x4 x5) K=(Tc bR cY (fun y0 y1 y2=>K .ret (RG y0 y1 y2)) (fun y0 y1 y2 y3 y4=>K .normal (gS y0 y1 y2 y3 y4)) x0 x1 x2 x3 x4 x5):=by
 rw [←aN h93]
 rw [←aN h94]
 kernel_rfl
theorem adv (x0 x1 x2):aj [0,2,3,4,5,6,7] (RG x0 x1 x2)=(Cf x0 x1 x2):=by kernel_rfl
theorem adw (x0 x1 x2 x3 x4):aj [0,2,3,4,5,6,7] (gS x0 x1 x2 x3 x4)=(RH x0 x1 x2 x3 x4):=by kernel_rfl
def Td (k0:V4→ae→aG→ae→Int→Option R) (x0:V4) (x1:ae) (x2:aG) (x3:ae) (x4:Int):Option R:=
k0 x0 x1 x2 x3 (IntKind.i64.wrap (x4+(1:Int)))
theorem aqG (x0 x1 x2 x3 x4):exec cl N P5 (RH x0 x1 x2 x3 x4) K=(Td (fun y0 y1 y2 y3 y4=>K .normal (gS y0 y1 y2 y3 y4)) x0 x1 x2 x3 x4):=by
 kernel_rfl
def Te (bR:V4→Option fP) (cY:V4→Option nK) (k0:ae→Int→Int→Option R) (k1:V4→ae→aG→ae→Int→Option R) (k2:V4→ae→aG→ae→Int→Option R) (x0:V4) (x1:ae) (x2:aG) (x3:ae) (x4:Int):Option R:=
(S6 (Tb (Tc bR cY k0 ((Td k1)))) k2 x0 x1 x2 x3 x4)
theorem aqH (bR) (cY) (h93:(lx bR).holds cl) (h94:(pe cY).holds cl) (x0 x1 x2 x3 x4):exec cl N Bp (gS x0 x1 x2 x3 x4) K=(Te bR cY (fun y0 y1 y2=>K .ret (Cf y0 y1 y2)) (fun y0 y1 y2 y3 y4=>K .normal (gS y0 y1 y2 y3 y4)) (fun y0 y1 y2 y3 y4=>K (.exit 0) (gS y0 y1 y2 y3 y4)) x0 x1 x2 x3 x4):=by
 simp only [Bp,bY,b9,b8,ca,aqA,P6,P4,aT,cx,P3,aqE,aqF bR cY h93 h94,ct,cw,cq,adv,adw,aqG]
 rfl
def KS {R:Type} (bR:V4→Option fP) (cY:V4→Option nK) (k0:ae→Int→Int→Option R) (k1:V4→ae→aG→ae→Int→Option R):Nat→V4→ae→aG→ae→Int→Option R
 | 0,_,_,_,_,_=>none
 | m+1,x0,x1,x2,x3,x4=>(Te bR cY k0 (KS bR cY k0 k1 m) k1 x0 x1 x2 x3 x4)
theorem afK (bR) (cY) (h93:(lx bR).holds cl) (h94:(pe cY).holds cl):∀ (m) (x0 x1 x2 x3 x4),iter [0,2,5,6,7] (fun env K=>exec cl N Bp env K) K m (gS x0 x1 x2 x3 x4)=KS bR cY (fun y0 y1 y2=>K .ret (Cf y0 y1 y2)) (fun y0 y1 y2 y3 y4=>K (.exit 0) (gS y0 y1 y2 y3 y4)) m x0 x1 x2 x3 x4:=by
 intro m
 induction m with
 | zero=>intros; rfl
 | succ m ih=>
   intro x0 x1 x2 x3 x4
   simp only [bZ,aqH bR cY h93 h94,b6,b5,b7,UX,ih]
   rfl
theorem adx (x0 x1 x2):aj [2,3,4,6] (Cf x0 x1 x2)=(pw x0 x1 x2):=by kernel_rfl
theorem ady (x0 x1 x2 x3 x4):aj [2,3,4,6] (gS x0 x1 x2 x3 x4)=(vm x1 x3):=by kernel_rfl
def Tf (N:Nat) (bR:V4→Option fP) (cY:V4→Option nK) (k0:ae→Int→Int→Option R) (k1:ae→ae→Option R) (x0:V4) (x1:ae) (x2:aG) (x3:ae) (x4:Int):Option R:=
KS bR cY k0 (fun y0 y1 y2 y3 y4=>k1 y1 y3) N x0 x1 x2 x3 x4
theorem aqI (bR) (cY) (h93:(lx bR).holds cl) (h94:(pe cY).holds cl) (x0 x1 x2 x3 x4):exec cl N G7 (gS x0 x1 x2 x3 x4) K=(Tf N bR cY (fun y0 y1 y2=>K .ret (pw y0 y1 y2)) (fun y0 y1=>K (.exit 0) (vm y0 y1)) x0 x1 x2 x3 x4):=by
 simp only [G7,aT,bX,UX,afK bR cY h93 h94,adx,ady]
 rfl
theorem adz (x0 x1 x2):aj [2,3,4,6] (pw x0 x1 x2)=(pw x0 x1 x2):=by kernel_rfl
theorem adA (x0 x1):aj [2,3,4,6] (vm x0 x1)=(vm x0 x1):=by kernel_rfl
def S7 (dM:ae→Option V1) (k0:ae→Int→Int→Option R) (k1:ae→Int→Int→Option R) (x0 x1:ae):Option R:=
(dM x1).bind fun r760=>
ad (r760.2 != (0:Int)) (ad (decide (r760.1≥(0:Int))) (k0 ([],[],()) (IntKind.i64.wrap (r760.1+(2:Int))) r760.2) (k0 ([],[],()) (1:Int) r760.2)) (k1 x1 (0:Int) (0:Int))
theorem aqB (dM) (h67:(rT dM).holds cl) (x0 x1):exec cl N P0 (vm x0 x1) K=(S7 dM (fun y0 y1 y2=>K .ret (pw y0 y1 y2)) (fun y0 y1 y2=>K .ret (I2 y0 y1 y2)) x0 x1):=by
 rw [←aN h67]
 kernel_rfl
def Ta (N:Nat) (dM:ae→Option V1) (gg:V4→Option fP) (bR:V4→Option fP) (cY:V4→Option nK) (k0:ae→Int→Int→Option R) (k1:ae→Int→Int→Option R) (k2:ae→Int→Int→Option R) (k3:ae→Int→Int→Option R) (x0:V4):Option R:=
(S8 gg k0 k1 (S5 (Tf N bR cY k2 ((S7 dM k2 k3)))) x0)
theorem aqD (dM) (gg) (bR) (cY) (h67:(rT dM).holds cl) (h92:(B4 gg).holds cl) (h93:(lx bR).holds cl) (h94:(pe cY).holds cl) (x0):exec cl N Bo [(0,.v .str x0)] K=(Ta N dM gg bR cY (fun y0 y1 y2=>K .ret (I0 y0 y1 y2)) (fun y0 y1 y2=>K .ret (I1 y0 y1 y2)) (fun y0 y1 y2=>K .ret (pw y0 y1 y2)) (fun y0 y1 y2=>K .ret (I2 y0 y1 y2)) x0):=by
 simp only [bY,b9,b8,ca,aqC gg h92,Bn,PZ,aqz,PY,aT,cx,aqI bR cY h93 h94,ct,cw,cq,adz,adA,aqB dM h67]
 rfl
theorem ajN (y0 y1 y2):ag d69 .ret (I0 y0 y1 y2)=some [.v ak y0,.v U2 y1,.v U2 y2]:=by kernel_rfl
theorem ajO (y0 y1 y2):ag d69 .ret (I1 y0 y1 y2)=some [.v ak y0,.v U2 y1,.v U2 y2]:=by kernel_rfl
theorem ajP (y0 y1 y2):ag d69 .ret (pw y0 y1 y2)=some [.v ak y0,.v U2 y1,.v U2 y2]:=by kernel_rfl
theorem ajQ (y0 y1 y2):ag d69 .ret (I2 y0 y1 y2)=some [.v ak y0,.v U2 y1,.v U2 y2]:=by kernel_rfl
def J4 (N:Nat) (dM:ae→Option V1) (gg:V4→Option fP) (bR:V4→Option fP) (cY:V4→Option nK) (x0:V4) (k:ae→Int→Int→Option R):Option R:=
(Ta N dM gg bR cY k k k k x0)
theorem Zf (dM) (gg) (bR) (cY) (h67:(rT dM).holds cl) (h92:(B4 gg).holds cl) (h93:(lx bR).holds cl) (h94:(pe cY).holds cl) (x0) (k:List E→Option R):exec cl N G6 [(0,.v .str x0)] (fun e env=>(ag d69 e env).bind k)=J4 N dM gg bR cY x0 (fun r0 r1 r2=>k [.v ak r0,.v U2 r1,.v U2 r2]):=by
 simp only [G6,aqD dM gg bR cY h67 h92 h93 h94,ajN,ajO,ajP,ajQ,ar]
 rfl
def uY (S:V4→Option rn):aQ:=cG 69 .str S fun b=> [.v ak b.1,.v U2 b.2.1,.v U2 b.2.2]
def eO (N:Nat) (x0:V4):Option rn:=J4 N (dM N) (gg N) (bR N) (cY N) x0 (fun (r0:ae) (r1:Int) (r2:Int)=>some (r0,r1,r2))
def S3 (eO:V4→Option rn) (k0:ae→Option R):Option R:=
(eO ([111,114,116,104,111,103,114,97,112,104,121,32,108,97,116,105,110,10,97,32,97,47,118,51,32,49,32,97,110,121,119,104,101,114,101,10,101,32,101,47,118,51,32,49,32,97,110,121,119,104,101,114,101,10,105,32,105,47,118,51,32,49,32,97,110,121,119,104,101,114,101,10,111,32,111,47,118,51,32,49,32,97,110,121,119,104,101,114,101,10,117,32,117,47,118,51,32,49,32,97,110,121,119,104,101,114,101,10,121,32,121,47,118,51,32,49,32,97,110,121,119,104,101,114,101,10,97,95,32,97,95,47,118,50,32,49,32,97,110,121,119,104,101,114,101,10,101,95,32,101,95,47,118,50,32,49,32,97,110,121,119,104,101,114,101,10,105,95,32,105,95,47,118,50,32,49,32,97,110,121,119,104,101,114,101,10,111,95,32,111,95,47,118,50,32,49,32,97,110,121,119,104,101,114,101,10,117,95,32,117,95,47,118,50,32,49,32,97,110,121,119,104,101,114,101,10,121,95,32,121,95,47,118,50,32,49,32,97,110,121,119,104,101,114,101,10,97,94,32,97,94,47,118,49,32,49,32,97,110,121,119,104,101,114,101,10,101,94,32,101,94,47,118,49,32,49,32,97,110,121,119,104,101,114,101,10,105,94,32,105,94,47,118,49,32,49,32,97,110,121,119,104,101,114,101,10,111,94,32,111,94,47,118,49,32,49,32,97,110,121,119,104,101,114,101,10,117,94,32,117,94,47,118,49,32,49,32,97,110,121,119,104,101,114,101,10,121,94,32,121,94,47,118,49,32,49,32,97,110,121,119,104,101,114,101,10,97,101,32,97,101,47,100,50,32,49,32,97,110,121,119,104,101,114,101,10,97,117,32,97,117,47,100,50,32,49,32,97,110,121,119,104,101,114,101,10,111,101,32,111,101,47,100,50,32,49,32,97,110,121,119,104,101,114,101,10,101,117,32,101,117,47,100,50,32,51,32,97,110,121,119,104,101,114,101,10,105,32,105,47,103,32,48,32,115,116,97,114,116,10,105,32,105,47,103,32,105,47,103,32,48,32,98,101,116,119,101,101,110,10,117,32,117,47,103,32,48,32,115,116,97,114,116,10,117,32,117,47,103,32,48,32,98,101,116,119,101,101,110,10,106,32,106,47,103,32,48,32,97,110,121,119,104,101,114,101,10,118,32,118,47,103,32,48,32,97,110,121,119,104,101,114,101,10,113,117,32,113,117,47,109,32,48,32,98,101,102,111,114,101,10,103,117,32,103,117,47,109,32,50,32,98,101,102,111,114,101,10,115,117,32,115,47,115,32,117,47,103,32,51,32,98,101,102,111,114,101,10,98,32,98,47,109,32,48,32,97,110,121,119,104,101,114,101,10,99,32,99,47,109,32,48,32,97,110,121,119,104,101,114,101,10,100,32,100,47,109,32,48,32,97,110,121,119,104,101,114,101,10,102,32,102,47,109,32,48,32,97,110,121,119,104,101,114,101,10,103,32,103,47,109,32,48,32,97,110,121,119,104,101,114,101,10,107,32,107,47,109,32,48,32,97,110,121,119,104,101,114,101,10,112,32,112,47,109,32,48,32,97,110,121,119,104,101,114,101,10,116,32,116,47,109,32,48,32,97,110,121,119,104,101,114,101,10,108,32,108,47,108,32,48,32,97,110,121,119,104,101,114,101,10,114,32,114,47,108,32,48,32,97,110,121,119,104,101,114,101,10,109,32,109,47,110,32,48,32,97,110,121,119,104,101,114,101,10,110,32,110,47,110,32,48,32,97,110,121,119,104,101,114,101,10,115,32,115,47,115,32,48,32,97,110,121,119,104,101,114,101,10,120,32,120,47,120,32,48,32,97,110,121,119,104,101,114,101,10,122,32,122,47,120,32,48,32,97,110,121,119,104,101,114,101,10,104,32,104,47,98,32,48,32,97,110,121,119,104,101,114,101,10]:List UInt8)).bind fun r765=>
k0 r765.1
theorem aph (eO) (h69:(uY eO).holds cl):exec cl N O1 [] K=(S3 eO (fun y0=>K .ret [(0,.loc ak .no y0)])):=by
 rw [←aN h69]
 kernel_rfl
theorem ajh (y0):ag d37 .ret [(0,.loc ak .no y0)]=some [.v ak y0]:=by kernel_rfl
def JR (eO:V4→Option rn) (k:ae→Option R):Option R:=
(S3 eO k)
theorem YZ (eO) (h69:(uY eO).holds cl) (k:List E→Option R):exec cl N Gh [] (fun e env=>(ag d37 e env).bind k)=JR eO (fun r0=>k [.v ak r0]):=by
 simp only [Gh,aph eO h69,ajh,ar]
 rfl
def pb (S:Option gr):aQ:={A:=Unit,B:=ae,f:=37,enc:=fun a=> [],dec:=ck,S:=fun a=>S,av:=fun b=> [.v ak b],ok:=(fun es b h=>ir h)}
def dy (N:Nat):Option gr:=JR (eO N) (fun (r0:ae)=>some (r0))
def JI (k0:Bool→Option R) (x0:Int):Option R:=
ad (decide (x0≥(97:Int))) (k0 (decide (x0≤(122:Int)))) (k0 false)
theorem anE (x0):exec cl N NB [(0,.v U0 x0)] K=(JI (fun y0=>K .ret [(2,.v .bool y0)]) x0):=by
 kernel_rfl
theorem aiK (y0):ag d149 .ret [(2,.v .bool y0)]=some [.v .bool y0]:=by kernel_rfl
def CC (x0:Int) (k:Bool→Option R):Option R:=
(JI k x0)
theorem YE (x0) (k:List E→Option R):exec cl N Fh [(0,.v U0 x0)] (fun e env=>(ag d149 e env).bind k)=CC x0 (fun r0=>k [.v .bool r0]):=by
 simp only [Fh,anE,aiK,ar]
 rfl
def pa (S:Int→Option (Bool)):aQ:=cG 149 U0 S fun b=> [.v .bool b]
def cJ (N:Nat) (x0:Int):Option (Bool):=CC x0 (fun (r0:Bool)=>some (r0))
def JJ (k0:Bool→Option R) (x0:Int):Option R:=
ad (decide (x0≥(48:Int))) (k0 (decide (x0≤(57:Int)))) (k0 false)
theorem anF (x0):exec cl N NC [(0,.v U0 x0)] K=(JJ (fun y0=>K .ret [(2,.v .bool y0)]) x0):=by
 kernel_rfl
theorem aiL (y0):ag d150 .ret [(2,.v .bool y0)]=some [.v .bool y0]:=by kernel_rfl
def CD (x0:Int) (k:Bool→Option R):Option R:=
(JJ k x0)
theorem YG (x0) (k:List E→Option R):exec cl N Fj [(0,.v U0 x0)] (fun e env=>(ag d150 e env).bind k)=CD x0 (fun r0=>k [.v .bool r0]):=by
 simp only [Fj,anF,aiL,ar]
 rfl
def rO (S:Int→Option (Bool)):aQ:=cG 150 U0 S fun b=> [.v .bool b]
def dn (N:Nat) (x0:Int):Option (Bool):=CD x0 (fun (r0:Bool)=>some (r0))
def Cy (cJ:Int→Option (Bool)) (k0:Int→Option R) (k1:V4→Int→Option R) (x0:V4):Option R:=
ad (x0==([]:List UInt8)) (k0 (0:Int)) (if 0≤(0:Int)∧(0:Int) < (x0.length:Int) then
(cJ ((x0.getD (0:Int).toNat 0).toNat:Int)).bind fun r799=>
ad (!r799) (k0 (0:Int)) (k1 x0 (1:Int))
else none)
theorem ans (cJ) (h149:(pa cJ).holds cl) (x0):exec cl N AE [(0,.v .str x0)] K=(Cy cJ (fun y0=>K .ret (jm y0)) (fun y0 y1=>exec cl N AD (cV y0 y1) K) x0):=by
 rw [←aN h149]
 delta AE
 generalize AD=q
 revert q
 refine id ?_
 intro q
 kernel_rfl
theorem abU (x0 x1):aj [0,3] (cV x0 x1)=(cV x0 x1):=by kernel_rfl
def Cv (cJ:Int→Option (Bool)) (dn:Int→Option (Bool)) (k0:V4→Int→Option R) (k1:Int→Option R) (k2:V4→Int→Option R) (x0:V4) (x1:Int):Option R:=
ad (decide (x1 < (x0.length:Int))) (if 0≤x1∧x1 < (x0.length:Int) then
let v801:Int:=((x0.getD x1.toNat 0).toNat:Int)
(cJ v801).bind fun r802=>
ad r802 (k0 x0 (IntKind.i64.wrap (x1+(1:Int)))) ((dn v801).bind fun r804=>
ad r804 (k0 x0 (IntKind.i64.wrap (x1+(1:Int)))) (ad (v801==(45:Int)) (ad (decide ((IntKind.i64.wrap (x1+(1:Int))) < (x0.length:Int))) (let v809:Int:=(IntKind.i64.wrap (x1+(1:Int)))
if 0≤v809∧v809 < (x0.length:Int) then
(cJ ((x0.getD v809.toNat 0).toNat:Int)).bind fun r811=>
ad r811 (k0 x0 (IntKind.i64.wrap (x1+(2:Int)))) (let v813:Int:=(IntKind.i64.wrap (x1+(1:Int)))
if 0≤v813∧v813 < (x0.length:Int) then
(dn ((x0.getD v813.toNat 0).toNat:Int)).bind fun r815=>
ad r815 (k0 x0 (IntKind.i64.wrap (x1+(2:Int)))) (k1 x1)
else none)
else none) (k1 x1)) (k1 x1)))
else none) (k2 x0 x1)
theorem anp (cJ) (dn) (h149:(pa cJ).holds cl) (h150:(rO dn).holds cl) (x0 x1):exec cl N E7 (cV x0 x1) K=(Cv cJ dn (fun y0 y1=>K .normal [(0,.v .str y0),(2,.dead),(3,.v U2 y1)]) (fun y0=>K .ret (r6 y0)) (fun y0 y1=>K (.exit 0) (cV y0 y1)) x0 x1):=by
 rw [←aN h149]
 rw [←aN h150]
 kernel_rfl
theorem abV (x0 x1):aj [0,3] [(0,.v .str x0),(2,.dead),(3,.v U2 x1)]=(cV x0 x1):=by kernel_rfl
def yS {R:Type} (cJ:Int→Option (Bool)) (dn:Int→Option (Bool)) (k0:Int→Option R) (k1:V4→Int→Option R):Nat→V4→Int→Option R
 | 0,_,_=>none
 | m+1,x0,x1=>(Cv cJ dn (yS cJ dn k0 k1 m) k0 k1 x0 x1)
theorem afg (cJ) (dn) (h149:(pa cJ).holds cl) (h150:(rO dn).holds cl):∀ (m) (x0 x1),iter [0,3] (fun env K=>exec cl N E7 env K) K m (cV x0 x1)=yS cJ dn (fun y0=>K .ret (r6 y0)) (fun y0 y1=>K (.exit 0) (cV y0 y1)) m x0 x1:=by
 intro m
 induction m with
 | zero=>intros; rfl
 | succ m ih=>
   intro x0 x1
   simp only [bZ,anp cJ dn h149 h150,b6,b5,b7,abV,ih]
   rfl
theorem abW (x0):aj [2,3] (r6 x0)=(kq x0):=by kernel_rfl
theorem abX (x0 x1):aj [2,3] (cV x0 x1)=(iV x1):=by kernel_rfl
def Cw (N:Nat) (cJ:Int→Option (Bool)) (dn:Int→Option (Bool)) (k0:Int→Option R) (k1:Int→Option R) (x0:V4) (x1:Int):Option R:=
yS cJ dn k0 (fun y0 y1=>k1 y1) N x0 x1
theorem anq (cJ) (dn) (h149:(pa cJ).holds cl) (h150:(rO dn).holds cl) (x0 x1):exec cl N E8 (cV x0 x1) K=(Cw N cJ dn (fun y0=>K .ret (kq y0)) (fun y0=>K (.exit 0) (iV y0)) x0 x1):=by
 simp only [E8,aT,bX,abU,afg cJ dn h149 h150,abW,abX]
 rfl
theorem abY (x0):aj [2,3] (kq x0)=(kq x0):=by kernel_rfl
theorem abZ (x0):aj [2,3] (iV x0)=(iV x0):=by kernel_rfl
def Cx (k0:Int→Option R) (x0:Int):Option R:=
k0 x0
theorem anr (x0):exec cl N Nr (iV x0) K=(Cx (fun y0=>K .ret [(2,.v U2 y0)]) x0):=by
 kernel_rfl
def Cz (N:Nat) (cJ:Int→Option (Bool)) (dn:Int→Option (Bool)) (k0:Int→Option R) (k1:Int→Option R) (k2:Int→Option R) (x0:V4):Option R:=
(Cy cJ k0 (Cw N cJ dn k1 ((Cx k2))) x0)
theorem ant (cJ) (dn) (h149:(pa cJ).holds cl) (h150:(rO dn).holds cl) (x0):exec cl N AE [(0,.v .str x0)] K=(Cz N cJ dn (fun y0=>K .ret (jm y0)) (fun y0=>K .ret (kq y0)) (fun y0=>K .ret [(2,.v U2 y0)]) x0):=by
 simp only [bY,b9,b8,ca,ans cJ h149,AD,Nq,aT,cx,anq cJ dn h149 h150,ct,cw,cq,abY,abZ,anr]
 rfl
theorem aiC (y0):ag d141 .ret (jm y0)=some [.v U2 y0]:=by kernel_rfl
theorem aiD (y0):ag d141 .ret (kq y0)=some [.v U2 y0]:=by kernel_rfl
theorem aiE (y0):ag d141 .ret [(2,.v U2 y0)]=some [.v U2 y0]:=by kernel_rfl
def wk (N:Nat) (cJ:Int→Option (Bool)) (dn:Int→Option (Bool)) (x0:V4) (k:Int→Option R):Option R:=
(Cz N cJ dn k k k x0)
theorem Yz (cJ) (dn) (h149:(pa cJ).holds cl) (h150:(rO dn).holds cl) (x0) (k:List E→Option R):exec cl N E6 [(0,.v .str x0)] (fun e env=>(ag d141 e env).bind k)=wk N cJ dn x0 (fun r0=>k [.v U2 r0]):=by
 simp only [E6,ant cJ dn h149 h150,aiC,aiD,aiE,ar]
 rfl
def HX (S:V4→Option (Int)):aQ:=cG 141 .str S fun b=> [.v U2 b]
def hP (N:Nat) (x0:V4):Option (Int):=wk N (cJ N) (dn N) x0 (fun (r0:Int)=>some (r0))
def Jt (hP:V4→Option (Int)) (k0:Bool→Option R) (x0:V4):Option R:=
ad (x0 != ([]:List UInt8)) (ad (decide ((x0.length:Int)≤(20:Int))) ((hP x0).bind fun r821=>
k0 (r821==(x0.length:Int))) (k0 false)) (k0 false)
theorem amE (hP) (h141:(HX hP).holds cl) (x0):exec cl N MP [(0,.v .str x0)] K=(Jt hP (fun y0=>K .ret [(2,.v .bool y0)]) x0):=by
 rw [←aN h141]
 kernel_rfl
theorem aik (y0):ag d121 .ret [(2,.v .bool y0)]=some [.v .bool y0]:=by kernel_rfl
def Cp (hP:V4→Option (Int)) (x0:V4) (k:Bool→Option R):Option R:=
(Jt hP k x0)
theorem Yl (hP) (h141:(HX hP).holds cl) (x0) (k:List E→Option R):exec cl N EB [(0,.v .str x0)] (fun e env=>(ag d121 e env).bind k)=Cp hP x0 (fun r0=>k [.v .bool r0]):=by
 simp only [EB,amE hP h141,aik,ar]
 rfl
def BT (S:V4→Option (Bool)):aQ:=cG 121 .str S fun b=> [.v .bool b]
def fu (N:Nat) (x0:V4):Option (Bool):=Cp (hP N) x0 (fun (r0:Bool)=>some (r0))
def yf (k0:V0→Option R) (x0:V4):Option R:=
k0 (x0.map fun b=>(b.toNat:Int))
theorem aqU (x0):exec cl N Br [(0,.v .str x0)] K=(yf (fun y0=>exec cl N Bq (px y0) K) x0):=by
 delta Br
 generalize Bq=q
 revert q
 refine id ?_
 intro q
 kernel_rfl
def yb (k0:V0→Int→Int→Option R) (x0:V0):Option R:=
k0 x0 (x0.length:Int) (0:Int)
theorem aqQ (x0):exec cl N Qe (px x0) K=(yb (fun y0 y1 y2=>K .normal (mb y0 y1 y2)) x0):=by
 kernel_rfl
theorem UZ (x0 x1 x2):aj [3,8,9,10] (mb x0 x1 x2)=(mb x0 x1 x2):=by kernel_rfl
def yc (k0:V0→Int→Int→Option R) (k1:V0→Int→Int→Option R) (x0:V0) (x1 x2:Int):Option R:=
ad (decide (x2 < x1)) (if 0≤x2∧x2 < (x0.length:Int) then
if x2.toNat < x0.length then
let v840:Int:=(x0.getD x2.toNat (0:Int))
ad (decide (v840≥(65:Int))) (ad (decide (v840≤(90:Int))) (if 0≤x2∧x2 < (x0.length:Int) then
if x2.toNat < x0.length then
k0 (x0.set x2.toNat (IntKind.u8.wrap ((IntKind.u8.wrap (v840 - (65:Int)))+(97:Int)))) x1 (IntKind.i64.wrap (x2+(1:Int)))
else none
else none) (k0 x0 x1 (IntKind.i64.wrap (x2+(1:Int))))) (k0 x0 x1 (IntKind.i64.wrap (x2+(1:Int))))
else none
else none) (k1 x0 x1 x2)
theorem aqR (x0 x1 x2):exec cl N He (mb x0 x1 x2) K=(yc (fun y0 y1 y2=>K .normal (mb y0 y1 y2)) (fun y0 y1 y2=>K (.exit 0) (mb y0 y1 y2)) x0 x1 x2):=by
 kernel_rfl
def tw {R:Type} (k0:V0→Int→Int→Option R):Nat→V0→Int→Int→Option R
 | 0,_,_,_=>none
 | m+1,x0,x1,x2=>(yc (tw k0 m) k0 x0 x1 x2)
theorem afM:∀ (m) (x0 x1 x2),iter [3,8,9,10] (fun env K=>exec cl N He env K) K m (mb x0 x1 x2)=tw (fun y0 y1 y2=>K (.exit 0) (mb y0 y1 y2)) m x0 x1 x2:=by
 intro m
 induction m with
 | zero=>intros; rfl
 | succ m ih=>
   intro x0 x1 x2
   simp only [bZ,aqR,b6,b5,b7,UZ,ih]
   rfl
theorem adF (x0 x1 x2):aj [3] (mb x0 x1 x2)=(px x0):=by kernel_rfl
def yd (N:Nat) (k0:V0→Option R) (x0:V0) (x1 x2:Int):Option R:=
tw (fun y0 y1 y2=>k0 y0) N x0 x1 x2
theorem aqS (x0 x1 x2):exec cl N Hf (mb x0 x1 x2) K=(yd N (fun y0=>K (.exit 0) (px y0)) x0 x1 x2):=by
 simp only [Hf,aT,bX,UZ,afM,adF]
 rfl
theorem adG (x0):aj [3] (px x0)=(px x0):=by kernel_rfl
def ye (k0:V4→Option R) (x0:V0):Option R:=
k0 (x0.map fun n=>UInt8.ofNat n.toNat)
theorem aqT (x0):exec cl N Qh (px x0) K=(ye (fun y0=>K .ret [(2,.v .str y0)]) x0):=by
 kernel_rfl
def yg (N:Nat) (k0:V4→Option R) (x0:V4):Option R:=
(yf (yb (yd N ((ye k0)))) x0)
theorem aqV (x0):exec cl N Br [(0,.v .str x0)] K=(yg N (fun y0=>K .ret [(2,.v .str y0)]) x0):=by
 simp only [bY,b9,b8,ca,aqU,Bq,Qg,aqQ,Qf,aT,cx,aqS,ct,cw,cq,adG,aqT]
 rfl
theorem ajV (y0):ag d72 .ret [(2,.v .str y0)]=some [.v .str y0]:=by kernel_rfl
def sW (N:Nat) (x0:V4) (k:V4→Option R):Option R:=
(yg N k x0)
theorem Zi (x0) (k:List E→Option R):exec cl N Hd [(0,.v .str x0)] (fun e env=>(ag d72 e env).bind k)=sW N x0 (fun r0=>k [.v .str r0]):=by
 simp only [Hd,aqV,ajV,ar]
 rfl
def u0 (S:V4→Option V6):aQ:=cG 72 .str S fun b=> [.v .str b]
def ez (N:Nat) (x0:V4):Option V6:=sW N x0 (fun (r0:V4)=>some (r0))
def wK (k0:Int→Option R) (k1:V4→Option R) (x0:V4):Option R:=
ad (decide ((x0.length:Int) > (120:Int))) (k0 (3:Int)) (k1 x0)
theorem anU (x0):exec cl N AJ [(0,.v .str x0)] K=(wK (fun y0=>K .ret (jm y0)) (fun y0=>exec cl N AH (Cb y0) K) x0):=by
 delta AJ
 generalize AH=q
 revert q
 refine id ?_
 intro q
 kernel_rfl
def wG (k0:V0→Int→Int→Option R) (x0:V4):Option R:=
k0 (x0.map fun b=>(b.toNat:Int)) ((x0.map fun b=>(b.toNat:Int)).length:Int) (0:Int)
theorem anQ (x0):exec cl N NM (Cb x0) K=(wG (fun y0 y1 y2=>K .normal (mc y0 y1 y2)) x0):=by
 kernel_rfl
theorem UA (x0 x1 x2):aj [9,10,11] (mc x0 x1 x2)=(mc x0 x1 x2):=by kernel_rfl
def wH (k0:Int→Option R) (k1:V0→Int→Int→Option R) (k2:V0→Int→Int→Option R) (x0:V0) (x1 x2:Int):Option R:=
ad (decide (x2 < x1)) (if 0≤x2∧x2 < (x0.length:Int) then
if x2.toNat < x0.length then
let v858:Int:=(x0.getD x2.toNat (0:Int))
ad (decide (v858 < (32:Int))) (k0 (2:Int)) (ad (decide (v858 > (126:Int))) (k0 (2:Int)) (k1 x0 x1 (IntKind.i64.wrap (x2+(1:Int)))))
else none
else none) (k2 x0 x1 x2)
theorem anR (x0 x1 x2):exec cl N Fu (mc x0 x1 x2) K=(wH (fun y0=>K .ret (I3 y0)) (fun y0 y1 y2=>K .normal (mc y0 y1 y2)) (fun y0 y1 y2=>K (.exit 0) (mc y0 y1 y2)) x0 x1 x2):=by
 kernel_rfl
def tf {R:Type} (k0:Int→Option R) (k1:V0→Int→Int→Option R):Nat→V0→Int→Int→Option R
 | 0,_,_,_=>none
 | m+1,x0,x1,x2=>(wH k0 (tf k0 k1 m) k1 x0 x1 x2)
theorem afj:∀ (m) (x0 x1 x2),iter [9,10,11] (fun env K=>exec cl N Fu env K) K m (mc x0 x1 x2)=tf (fun y0=>K .ret (I3 y0)) (fun y0 y1 y2=>K (.exit 0) (mc y0 y1 y2)) m x0 x1 x2:=by
 intro m
 induction m with
 | zero=>intros; rfl
 | succ m ih=>
   intro x0 x1 x2
   simp only [bZ,anR,b6,b5,b7,UA,ih]
   rfl
theorem ab6 (x0):aj [2] (I3 x0)=[(2,.v U2 x0)]:=by kernel_rfl
theorem ab7 (x0 x1 x2):aj [2] (mc x0 x1 x2)=[(2,.dead)]:=by kernel_rfl
def wI (N:Nat) (k0:Int→Option R) (k1:Option R) (x0:V0) (x1 x2:Int):Option R:=
tf k0 (fun y0 y1 y2=>k1) N x0 x1 x2
theorem anS (x0 x1 x2):exec cl N Fv (mc x0 x1 x2) K=(wI N (fun y0=>K .ret [(2,.v U2 y0)]) (K (.exit 0) [(2,.dead)]) x0 x1 x2):=by
 simp only [Fv,aT,bX,UA,afj,ab6,ab7]
 rfl
theorem ab8 (x0):aj [2] [(2,.v U2 x0)]=[(2,.v U2 x0)]:=by kernel_rfl
theorem ab9:aj [2] [(2,.dead)]=[(2,.dead)]:=by kernel_rfl
def wJ (k0:Int→Option R):Option R:=
k0 (0:Int)
theorem anT:exec cl N NP [(2,.dead)] K=(wJ (fun y0=>K .ret [(2,.v U2 y0)])):=by
 kernel_rfl
def wL (N:Nat) (k0:Int→Option R) (k1:Int→Option R) (x0:V4):Option R:=
(wK k0 (wG (wI N k1 (wJ k1))) x0)
theorem anV (x0):exec cl N AJ [(0,.v .str x0)] K=(wL N (fun y0=>K .ret (jm y0)) (fun y0=>K .ret [(2,.v U2 y0)]) x0):=by
 simp only [bY,b9,b8,ca,anU,AH,NO,anQ,NN,aT,cx,anS,ct,cw,cq,ab8,ab9,anT]
 rfl
theorem aiT (y0):ag d158 .ret (jm y0)=some [.v U2 y0]:=by kernel_rfl
theorem aiU (y0):ag d158 .ret [(2,.v U2 y0)]=some [.v U2 y0]:=by kernel_rfl
def sw (N:Nat) (x0:V4) (k:Int→Option R):Option R:=
(wL N k k x0)
theorem YM (x0) (k:List E→Option R):exec cl N Ft [(0,.v .str x0)] (fun e env=>(ag d158 e env).bind k)=sw N x0 (fun r0=>k [.v U2 r0]):=by
 simp only [Ft,anV,aiT,aiU,ar]
 rfl
def BX (S:V4→Option (Int)):aQ:=cG 158 .str S fun b=> [.v U2 b]
def fH (N:Nat) (x0:V4):Option (Int):=sw N x0 (fun (r0:Int)=>some (r0))
def Sl (fv:V4→Int→Option (Int)) (k0:Int→Option R) (x0:V4) (x1:Int):Option R:=
(fv x0 x1).bind fun r869=>
k0 r869
theorem amZ (fv) (h145:(ko fv).holds cl) (x0 x1):exec cl N M7 [(0,.v .str x0),(1,.v U0 x1)] K=(Sl fv (fun y0=>K .ret [(4,.v U2 y0)]) x0 x1):=by
 rw [←aN h145]
 kernel_rfl
theorem ais (y0):ag d127 .ret [(4,.v U2 y0)]=some [.v U2 y0]:=by kernel_rfl
def Jx (fv:V4→Int→Option (Int)) (x0:V4) (x1:Int) (k:Int→Option R):Option R:=
(Sl fv k x0 x1)
theorem Yr (fv) (h145:(ko fv).holds cl) (x0 x1) (k:List E→Option R):exec cl N EO [(0,.v .str x0),(1,.v U0 x1)] (fun e env=>(ag d127 e env).bind k)=Jx fv x0 x1 (fun r0=>k [.v U2 r0]):=by
 simp only [EO,amZ fv h145,ais,ar]
 rfl
def HW (S:V4→Int→Option (Int)):aQ:=eA 127 .str U0 S fun b=> [.v U2 b]
def ji (N:Nat) (x0:V4) (x1:Int):Option (Int):=Jx (fv N) x0 x1 (fun (r0:Int)=>some (r0))
def TF (ji:V4→Int→Option (Int)) (k0:Bool→Option R) (x0:Int):Option R:=
ad (decide (x0≥(32:Int))) (ad (decide (x0≤(126:Int))) ((ji ([32,46,44,59,58,33,63,34,45,91,93,60,62,123,125]:List UInt8) x0).bind fun r874=>
k0 (decide (r874 < (0:Int)))) (k0 false)) (k0 false)
theorem arM (ji) (h127:(HW ji).holds cl) (x0):exec cl N QR [(0,.v U0 x0)] K=(TF ji (fun y0=>K .ret [(2,.v .bool y0)]) x0):=by
 rw [←aN h127]
 kernel_rfl
theorem aki (y0):ag d98 .ret [(2,.v .bool y0)]=some [.v .bool y0]:=by kernel_rfl
def Kh (ji:V4→Int→Option (Int)) (x0:Int) (k:Bool→Option R):Option R:=
(TF ji k x0)
theorem Zu (ji) (h127:(HW ji).holds cl) (x0) (k:List E→Option R):exec cl N HJ [(0,.v U0 x0)] (fun e env=>(ag d98 e env).bind k)=Kh ji x0 (fun r0=>k [.v .bool r0]):=by
 simp only [HJ,arM ji h127,aki,ar]
 rfl
def nV (S:Int→Option (Bool)):aQ:=cG 98 U0 S fun b=> [.v .bool b]
def cj (N:Nat) (x0:Int):Option (Bool):=Kh (ji N) x0 (fun (r0:Bool)=>some (r0))
def wD (fH:V4→Option (Int)) (k0:gq→Int→Option R) (k1:V4→gq→Option R) (x0:V4):Option R:=
(fH x0).bind fun r891=>
ad (r891 != (0:Int)) (k0 [] r891) (k1 x0 [])
theorem anK (fH) (h158:(BX fH).holds cl) (x0):exec cl N AG [(0,.v .str x0)] K=(wD fH (fun y0 y1=>K .ret (I4 y0 y1)) (fun y0 y1=>exec cl N AF [(0,.v .str y0),(5,.own true 179 ef .no y1)] K) x0):=by
 rw [←aN h158]
 delta AG
 generalize AF=q
 revert q
 refine id ?_
 intro q
 kernel_rfl
def wz (k0:gq→V0→Int→Int→Option R) (x0:V4) (x1:gq):Option R:=
k0 x1 (x0.map fun b=>(b.toNat:Int)) ((x0.map fun b=>(b.toNat:Int)).length:Int) (0:Int)
theorem anG (x0 x1):exec cl N ND [(0,.v .str x0),(5,.own true 179 ef .no x1)] K=(wz (fun y0 y1 y2 y3=>K .normal (me y0 y1 y2 y3)) x0 x1):=by
 kernel_rfl
theorem Uz (x0 x1 x2 x3):aj [5,15,16,17] (me x0 x1 x2 x3)=(me x0 x1 x2 x3):=by kernel_rfl
def wA (cj:Int→Option (Bool)) (k0:gq→V0→Int→Int→Option R) (k1:gq→V0→Int→Int→Option R) (x0:gq) (x1:V0) (x2 x3:Int):Option R:=
ad (decide (x3 < x2)) (if 0≤x3∧x3 < (x1.length:Int) then
if x3.toNat < x1.length then
(cj (x1.getD x3.toNat (0:Int))).bind fun r895=>
ad (!r895) (k0 x0 x1 x2 (IntKind.i64.wrap (x3+(1:Int)))) (ad (decide ((x0.length:Int) > (0:Int))) (let v898:Int:=(IntKind.i64.wrap ((x0.length:Int) - (1:Int)))
if 0≤v898∧v898 < (x0.length:Int) then
if v898.toNat < x0.length then
ad (((x0.getD v898.toNat ((0:Int),((0:Int),()))).2.1)==x3) (let v900:Int:=(IntKind.i64.wrap ((x0.length:Int) - (1:Int)))
if 0≤v900∧v900 < (x0.length:Int) then
if v900.toNat < x0.length then
if 0≤v900∧v900 < (x0.length:Int) then
if v900.toNat < x0.length then
k0 (x0.set v900.toNat ((x0.getD v900.toNat ((0:Int),((0:Int),()))).1,((IntKind.i64.wrap (((x0.getD v900.toNat ((0:Int),((0:Int),()))).2.1)+(1:Int))),(x0.getD v900.toNat ((0:Int),((0:Int),()))).2.2))) x1 x2 (IntKind.i64.wrap (x3+(1:Int)))
else none
else none
else none
else none) (let v905:uu:=(x3,(IntKind.i64.wrap (x3+(1:Int))),())
if x0.length+[v905].length≤8796093022208 then
k0 (x0++[v905]) x1 x2 (IntKind.i64.wrap (x3+(1:Int)))
else none)
else none
else none) (let v908:uu:=(x3,(IntKind.i64.wrap (x3+(1:Int))),())
if x0.length+[v908].length≤8796093022208 then
k0 (x0++[v908]) x1 x2 (IntKind.i64.wrap (x3+(1:Int)))
else none))
else none
else none) (k1 x0 x1 x2 x3)
theorem anH (cj) (h98:(nV cj).holds cl) (x0 x1 x2 x3):exec cl N Fl (me x0 x1 x2 x3) K=(wA cj (fun y0 y1 y2 y3=>K .normal (me y0 y1 y2 y3)) (fun y0 y1 y2 y3=>K (.exit 0) (me y0 y1 y2 y3)) x0 x1 x2 x3):=by
 rw [←aN h98]
 kernel_rfl
def qw {R:Type} (cj:Int→Option (Bool)) (k0:gq→V0→Int→Int→Option R):Nat→gq→V0→Int→Int→Option R
 | 0,_,_,_,_=>none
 | m+1,x0,x1,x2,x3=>(wA cj (qw cj k0 m) k0 x0 x1 x2 x3)
theorem afi (cj) (h98:(nV cj).holds cl):∀ (m) (x0 x1 x2 x3),iter [5,15,16,17] (fun env K=>exec cl N Fl env K) K m (me x0 x1 x2 x3)=qw cj (fun y0 y1 y2 y3=>K (.exit 0) (me y0 y1 y2 y3)) m x0 x1 x2 x3:=by
 intro m
 induction m with
 | zero=>intros; rfl
 | succ m ih=>
   intro x0 x1 x2 x3
   simp only [bZ,anH cj h98,b6,b5,b7,Uz,ih]
   rfl
theorem ab4 (x0 x1 x2 x3):aj [5] (me x0 x1 x2 x3)=(vn x0):=by kernel_rfl
def wB (N:Nat) (cj:Int→Option (Bool)) (k0:gq→Option R) (x0:gq) (x1:V0) (x2 x3:Int):Option R:=
qw cj (fun y0 y1 y2 y3=>k0 y0) N x0 x1 x2 x3
theorem anI (cj) (h98:(nV cj).holds cl) (x0 x1 x2 x3):exec cl N Fm (me x0 x1 x2 x3) K=(wB N cj (fun y0=>K (.exit 0) (vn y0)) x0 x1 x2 x3):=by
 simp only [Fm,aT,bX,Uz,afi cj h98,ab4]
 rfl
theorem ab5 (x0):aj [5] (vn x0)=(vn x0):=by kernel_rfl
def wC (k0:Int→gq→Option R) (x0:gq):Option R:=
k0 (0:Int) x0
theorem anJ (x0):exec cl N NH (vn x0) K=(wC (fun y0 y1=>K .ret (I5 y0 y1)) x0):=by
 kernel_rfl
def wF (N:Nat) (cj:Int→Option (Bool)) (fH:V4→Option (Int)) (k0:gq→Int→Option R) (k1:Int→gq→Option R) (x0:V4):Option R:=
(wD fH k0 (wz (wB N cj ((wC k1)))) x0)
theorem anL (cj) (fH) (h98:(nV cj).holds cl) (h158:(BX fH).holds cl) (x0):exec cl N AG [(0,.v .str x0)] K=(wF N cj fH (fun y0 y1=>K .ret (I4 y0 y1)) (fun y0 y1=>K .ret (I5 y0 y1)) x0):=by
 simp only [bY,b9,b8,ca,anK fH h158,AF,NG,anG,NF,aT,cx,anI cj h98,ct,cw,cq,ab5,anJ]
 rfl
theorem aiM (y0 y1):ag d151 .ret (I4 y0 y1)=some [.own true 179 ef .no y0,.v U2 y1]:=by kernel_rfl
theorem aiN (y0 y1):ag d151 .ret (I5 y0 y1)=some [.own true 179 ef .no y1,.v U2 y0]:=by kernel_rfl
def sv (N:Nat) (cj:Int→Option (Bool)) (fH:V4→Option (Int)) (x0:V4) (k:gq→Int→Option R):Option R:=
(wF N cj fH k (fun y0 y1=>k y1 y0) x0)
theorem YH (cj) (fH) (h98:(nV cj).holds cl) (h158:(BX fH).holds cl) (x0) (k:List E→Option R):exec cl N Fk [(0,.v .str x0)] (fun e env=>(ag d151 e env).bind k)=sv N cj fH x0 (fun r0 r1=>k [.own true 179 ef .no r0,.v U2 r1]):=by
 simp only [Fk,anL cj fH h98 h158,aiM,aiN,ar]
 rfl
def H0 (S:V4→Option zR):aQ:=cG 151 .str S fun b=> [.own true 179 ef .no b.1,.v U2 b.2]
def iO (N:Nat) (x0:V4):Option zR:=sv N (cj N) (fH N) x0 (fun (r0:gq) (r1:Int)=>some (r0,r1))
def JF (ez:V4→Option V6) (iO:V4→Option zR) (k0:Int→Option R) (k1:Int→Option R) (x0:V4):Option R:=
ad (x0==([]:List UInt8)) (k0 (7:Int)) (ad (decide ((x0.length:Int) > (4:Int))) (k0 (3:Int)) ((ez x0).bind fun r919=>
ad (r919 != x0) (k0 (2:Int)) ((iO x0).bind fun r920=>
ad (r920.2 != (0:Int)) (k1 (2:Int)) (ad ((r920.1.length:Int) != (1:Int)) (k1 (2:Int)) (if 0≤(0:Int)∧(0:Int) < (r920.1.length:Int) then
if ((0:Int).toNat) < r920.1.length then
if 0≤(0:Int)∧(0:Int) < (r920.1.length:Int) then
if ((0:Int).toNat) < r920.1.length then
ad ((IntKind.i64.wrap (((r920.1.getD ((0:Int).toNat) ((0:Int),((0:Int),()))).2.1) - ((r920.1.getD ((0:Int).toNat) ((0:Int),((0:Int),()))).1))) != (x0.length:Int)) (k1 (2:Int)) (k1 (0:Int))
else none
else none
else none
else none)))))
theorem anu (ez) (iO) (h72:(u0 ez).holds cl) (h151:(H0 iO).holds cl) (x0):exec cl N Ns [(0,.v .str x0)] K=(JF ez iO (fun y0=>K .ret (jm y0)) (fun y0=>K .ret [(2,.v U2 y0)]) x0):=by
 rw [←aN h72]
 rw [←aN h151]
 kernel_rfl
theorem aiF (y0):ag d142 .ret (jm y0)=some [.v U2 y0]:=by kernel_rfl
theorem aiG (y0):ag d142 .ret [(2,.v U2 y0)]=some [.v U2 y0]:=by kernel_rfl
def CA (ez:V4→Option V6) (iO:V4→Option zR) (x0:V4) (k:Int→Option R):Option R:=
(JF ez iO k k x0)
theorem YA (ez) (iO) (h72:(u0 ez).holds cl) (h151:(H0 iO).holds cl) (x0) (k:List E→Option R):exec cl N E9 [(0,.v .str x0)] (fun e env=>(ag d142 e env).bind k)=CA ez iO x0 (fun r0=>k [.v U2 r0]):=by
 simp only [E9,anu ez iO h72 h151,aiF,aiG,ar]
 rfl
def BW (S:V4→Option (Int)):aQ:=cG 142 .str S fun b=> [.v U2 b]
def fG (N:Nat) (x0:V4):Option (Int):=CA (ez N) (iO N) x0 (fun (r0:Int)=>some (r0))
def JK (k0:Bool→Option R) (k1:Bool→Option R) (x0:aR):Option R:=
ad (x0.1==(1:Int)) (ad (decide (x0.2.1≥(1:Int))) (k0 (decide (x0.2.1≤(3:Int)))) (k0 false)) (ad (x0.1==(2:Int)) (k0 (x0.2.1==(2:Int))) (k1 (x0.2.1==(0:Int))))
theorem anM (x0):exec cl N NI [(0,.v aD x0)] K=(JK (fun y0=>K .ret (vo y0)) (fun y0=>K .ret [(2,.v .bool y0)]) x0):=by
 kernel_rfl
theorem aiO (y0):ag d152 .ret (vo y0)=some [.v .bool y0]:=by kernel_rfl
theorem aiP (y0):ag d152 .ret [(2,.v .bool y0)]=some [.v .bool y0]:=by kernel_rfl
def CE (x0:aR) (k:Bool→Option R):Option R:=
(JK k k x0)
theorem YI (x0) (k:List E→Option R):exec cl N Fo [(0,.v aD x0)] (fun e env=>(ag d152 e env).bind k)=CE x0 (fun r0=>k [.v .bool r0]):=by
 simp only [Fo,anM,aiO,aiP,ar]
 rfl
def H2 (S:aR→Option (Bool)):aQ:=cG 152 aD S fun b=> [.v .bool b]
def hQ (N:Nat) (x0:aR):Option (Bool):=CE x0 (fun (r0:Bool)=>some (r0))
def JN (k0:Bool→Option R) (x0:Int):Option R:=
ad (decide (x0≥(97:Int))) (ad (decide (x0≤(122:Int))) (k0 true) (ad (decide (x0≥(48:Int))) (ad (decide (x0≤(57:Int))) (k0 true) (ad (x0==(95:Int)) (k0 true) (ad (x0==(94:Int)) (k0 true) (k0 (x0==(39:Int)))))) (ad (x0==(95:Int)) (k0 true) (ad (x0==(94:Int)) (k0 true) (k0 (x0==(39:Int))))))) (ad (decide (x0≥(48:Int))) (ad (decide (x0≤(57:Int))) (k0 true) (ad (x0==(95:Int)) (k0 true) (ad (x0==(94:Int)) (k0 true) (k0 (x0==(39:Int)))))) (ad (x0==(95:Int)) (k0 true) (ad (x0==(94:Int)) (k0 true) (k0 (x0==(39:Int))))))
theorem anP (x0):exec cl N NL [(0,.v U3 x0)] K=(JN (fun y0=>K .ret [(2,.v .bool y0)]) x0):=by
 kernel_rfl
theorem aiS (y0):ag d155 .ret [(2,.v .bool y0)]=some [.v .bool y0]:=by kernel_rfl
def CH (x0:Int) (k:Bool→Option R):Option R:=
(JN k x0)
theorem YL (x0) (k:List E→Option R):exec cl N Fs [(0,.v U3 x0)] (fun e env=>(ag d155 e env).bind k)=CH x0 (fun r0=>k [.v .bool r0]):=by
 simp only [Fs,anP,aiS,ar]
 rfl
def H5 (S:Int→Option (Bool)):aQ:=cG 155 U3 S fun b=> [.v .bool b]
def hY (N:Nat) (x0:Int):Option (Bool):=CH x0 (fun (r0:Bool)=>some (r0))
def JM (hY:Int→Option (Bool)) (k0:Bool→Option R) (x0:Int):Option R:=
(hY x0).bind fun r986=>
k0 (!r986)
theorem anO (hY) (h155:(H5 hY).holds cl) (x0):exec cl N NK [(0,.v U3 x0)] K=(JM hY (fun y0=>K .ret [(2,.v .bool y0)]) x0):=by
 rw [←aN h155]
 kernel_rfl
theorem aiR (y0):ag d154 .ret [(2,.v .bool y0)]=some [.v .bool y0]:=by kernel_rfl
def CG (hY:Int→Option (Bool)) (x0:Int) (k:Bool→Option R):Option R:=
(JM hY k x0)
theorem YK (hY) (h155:(H5 hY).holds cl) (x0) (k:List E→Option R):exec cl N Fq [(0,.v U3 x0)] (fun e env=>(ag d154 e env).bind k)=CG hY x0 (fun r0=>k [.v .bool r0]):=by
 simp only [Fq,anO hY h155,aiR,ar]
 rfl
def H4 (S:Int→Option (Bool)):aQ:=cG 154 U3 S fun b=> [.v .bool b]
def hX (N:Nat) (x0:Int):Option (Bool):=CG (hY N) x0 (fun (r0:Bool)=>some (r0))
def wS (k0:V4→cb→Bool→Option R) (x0:V4) (x1:cb) (x2:Bool):Option R:=
k0 x0 x1 x2
theorem an3 (x0 x1 x2):exec cl N NV (vp x0 x1 x2) K=(wS (fun y0 y1 y2=>K .normal (vp y0 y1 y2)) x0 x1 x2):=by
 kernel_rfl
def wT (k0:cb→Bool→V4→Nat→Option R) (x0:V4) (x1:cb) (x2:Bool):Option R:=
k0 x1 x2 x0 (0:Nat)
theorem an4 (x0 x1 x2):exec cl N NW (vp x0 x1 x2) K=(wT (fun y0 y1 y2 y3=>K .normal (py y0 y1 y2 y3)) x0 x1 x2):=by
 kernel_rfl
theorem acf (x0 x1 x2 x3):aj [1,2,10] (py x0 x1 x2 x3)=(py x0 x1 x2 x3):=by kernel_rfl
def wU (k0:Int→Option R) (k1:cb→Bool→V4→Nat→Option R) (k2:cb→Bool→V4→Nat→Bool→Option R) (x0:cb) (x1:Bool) (x2:V4) (x3:Nat):Option R:=
ad (decide (x3 < x2.length)) ((x0 ((((Utf8.decode ⟨⟨x2⟩⟩ x3).1:Nat):Int),())).bind fun r992=>
ad (r992==x1) (k0 ((x3:Nat):Int)) (k1 x0 x1 x2 (x3+(Utf8.decode ⟨⟨x2⟩⟩ x3).2))) (k2 x0 x1 x2 x3 false)
theorem an5 (x0 x1 x2 x3):exec cl N FE (py x0 x1 x2 x3) K=(wU (fun y0=>K .ret (I6 y0)) (fun y0 y1 y2 y3=>K .normal [(1,.v mR y0),(2,.v .bool y1),(6,.dead),(10,.it y2 y3)]) (fun y0 y1 y2 y3 y4=>K (.exit 0) (I7 y0 y1 y2 y3 y4)) x0 x1 x2 x3):=by
 kernel_rfl
theorem acg (x0 x1 x2 x3):aj [1,2,10] [(1,.v mR x0),(2,.v .bool x1),(6,.dead),(10,.it x2 x3)]=(py x0 x1 x2 x3):=by kernel_rfl
def th {R:Type} (k0:Int→Option R) (k1:cb→Bool→V4→Nat→Bool→Option R):Nat→cb→Bool→V4→Nat→Option R
 | 0,_,_,_,_=>none
 | m+1,x0,x1,x2,x3=>(wU k0 (th k0 k1 m) k1 x0 x1 x2 x3)
theorem afl:∀ (m) (x0 x1 x2 x3),iter [1,2,10] (fun env K=>exec cl N FE env K) K m (py x0 x1 x2 x3)=th (fun y0=>K .ret (I6 y0)) (fun y0 y1 y2 y3 y4=>K (.exit 0) (I7 y0 y1 y2 y3 y4)) m x0 x1 x2 x3:=by
 intro m
 induction m with
 | zero=>intros; rfl
 | succ m ih=>
   intro x0 x1 x2 x3
   simp only [bZ,an5,b6,b5,b7,acg,ih]
   rfl
theorem ach (x0):aj [6] (I6 x0)=[(6,.v U2 x0)]:=by kernel_rfl
theorem aci (x0 x1 x2 x3 x4):aj [6] (I7 x0 x1 x2 x3 x4)=[(6,.dead)]:=by kernel_rfl
def wV (N:Nat) (k0:Int→Option R) (k1:Option R) (x0:cb) (x1:Bool) (x2:V4) (x3:Nat):Option R:=
th k0 (fun y0 y1 y2 y3 y4=>k1) N x0 x1 x2 x3
theorem an6 (x0 x1 x2 x3):exec cl N FF (py x0 x1 x2 x3) K=(wV N (fun y0=>K .ret [(6,.v U2 y0)]) (K (.exit 0) [(6,.dead)]) x0 x1 x2 x3):=by
 simp only [FF,aT,bX,acf,afl,ach,aci]
 rfl
theorem acj (x0):aj [6] [(6,.v U2 x0)]=[(6,.v U2 x0)]:=by kernel_rfl
theorem ack:aj [6] [(6,.dead)]=[(6,.dead)]:=by kernel_rfl
def wW (k0:Int→Option R):Option R:=
k0 (-1:Int)
theorem an7:exec cl N NZ [(6,.dead)] K=(wW (fun y0=>K .ret [(6,.v U2 y0)])):=by
 kernel_rfl
def wX (N:Nat) (k0:Int→Option R) (x0:V4) (x1:cb) (x2:Bool):Option R:=
(wS (wT (wV N k0 (wW k0))) x0 x1 x2)
theorem an8 (x0 x1 x2):exec cl N FG (vp x0 x1 x2) K=(wX N (fun y0=>K .ret [(6,.v U2 y0)]) x0 x1 x2):=by
 simp only [FG,bY,b9,b8,ca,an3,N0,NY,an4,NX,aT,cx,an6,ct,cw,cq,acj,ack,an7]
 rfl
theorem aiY (y0):ag d160 .ret [(6,.v U2 y0)]=some [.v U2 y0]:=by kernel_rfl
def sx (N:Nat) (x0:V4) (x1:cb) (x2:Bool) (k:Int→Option R):Option R:=
(wX N k x0 x1 x2)
theorem YP (x0 x1 x2) (k:List E→Option R):exec cl N FC (vp x0 x1 x2) (fun e env=>(ag d160 e env).bind k)=sx N x0 x1 x2 (fun r0=>k [.v U2 r0]):=by
 simp only [FC,an8,aiY,ar]
 rfl
def H7 (S:V4→cb→Bool→Option (Int)):aQ:=Ri 160 .str mR .bool S fun b=> [.v U2 b]
def ia (N:Nat) (x0:V4) (x1:cb) (x2:Bool):Option (Int):=sx N x0 x1 x2 (fun (r0:Int)=>some (r0))
def JO (ia:V4→cb→Bool→Option (Int)) (k0:Int→Option R) (x0:V4) (x1:cb):Option R:=
(ia x0 x1 true).bind fun r994=>
k0 r994
theorem anW (ia) (h160:(H7 ia).holds cl) (x0 x1):exec cl N NQ (Cg x0 x1) K=(JO ia (fun y0=>K .ret [(4,.v U2 y0)]) x0 x1):=by
 rw [←aN h160]
 kernel_rfl
theorem aiV (y0):ag d159 .ret [(4,.v U2 y0)]=some [.v U2 y0]:=by kernel_rfl
def CI (ia:V4→cb→Bool→Option (Int)) (x0:V4) (x1:cb) (k:Int→Option R):Option R:=
(JO ia k x0 x1)
theorem YN (ia) (h160:(H7 ia).holds cl) (x0 x1) (k:List E→Option R):exec cl N Fx (Cg x0 x1) (fun e env=>(ag d159 e env).bind k)=CI ia x0 x1 (fun r0=>k [.v U2 r0]):=by
 simp only [Fx,anW ia h160,aiV,ar]
 rfl
def H6 (S:V4→cb→Option (Int)):aQ:=eA 159 .str mR S fun b=> [.v U2 b]
def hZ (N:Nat) (x0:V4) (x1:cb):Option (Int):=CI (ia N) x0 x1 (fun (r0:Int)=>some (r0))
def JL (hZ:V4→cb→Option (Int)) (k0:Bool→Option R) (x0:V4) (x1:cb):Option R:=
(hZ x0 x1).bind fun r997=>
k0 (decide (r997≥(0:Int)))
theorem anN (hZ) (h159:(H6 hZ).holds cl) (x0 x1):exec cl N NJ (Cg x0 x1) K=(JL hZ (fun y0=>K .ret [(4,.v .bool y0)]) x0 x1):=by
 rw [←aN h159]
 kernel_rfl
theorem aiQ (y0):ag d153 .ret [(4,.v .bool y0)]=some [.v .bool y0]:=by kernel_rfl
def CF (hZ:V4→cb→Option (Int)) (x0:V4) (x1:cb) (k:Bool→Option R):Option R:=
(JL hZ k x0 x1)
theorem YJ (hZ) (h159:(H6 hZ).holds cl) (x0 x1) (k:List E→Option R):exec cl N Fp (Cg x0 x1) (fun e env=>(ag d153 e env).bind k)=CF hZ x0 x1 (fun r0=>k [.v .bool r0]):=by
 simp only [Fp,anN hZ h159,aiQ,ar]
 rfl
def H3 (S:V4→cb→Option (Bool)):aQ:=eA 153 .str mR S fun b=> [.v .bool b]
def hR (N:Nat) (x0:V4) (x1:cb):Option (Bool):=CF (hZ N) x0 x1 (fun (r0:Bool)=>some (r0))
def JG (hQ:aR→Option (Bool)) (hR:V4→cb→Option (Bool)) (hX:Int→Option (Bool)) (k0:Int→Option R) (x0:aR):Option R:=
ad (decide (x0.1 < (1:Int))) (k0 (1:Int)) (ad (decide (x0.1 > (9:Int))) (k0 (1:Int)) ((hQ x0).bind fun r1002=>
ad (!r1002) (k0 (6:Int)) (ad (x0.2.2.1==([]:List UInt8)) (k0 (7:Int)) (ad (decide ((x0.2.2.1.length:Int) > (8:Int))) (k0 (3:Int)) ((hR x0.2.2.1 (fun (x1005:V3)=>((hX x1005.1).bind fun b1006=>some [.v .bool b1006]).bind (j7 .bool))).bind fun r1007=>
ad r1007 (k0 (2:Int)) (k0 (0:Int)))))))
theorem anv (hQ) (hR) (hX) (h152:(H2 hQ).holds cl) (h153:(H3 hR).holds cl) (h154:(H4 hX).holds cl) (x0):exec cl N Nt [(0,.v aD x0)] K=(JG hQ hR hX (fun y0=>K .ret [(2,.v U2 y0)]) x0):=by
 rw [←aN h152]
 rw [←aN h153]
 rw [←aN h154]
 kernel_rfl
theorem aiH (y0):ag d143 .ret [(2,.v U2 y0)]=some [.v U2 y0]:=by kernel_rfl
def CB (hQ:aR→Option (Bool)) (hR:V4→cb→Option (Bool)) (hX:Int→Option (Bool)) (x0:aR) (k:Int→Option R):Option R:=
(JG hQ hR hX k x0)
theorem YB (hQ) (hR) (hX) (h152:(H2 hQ).holds cl) (h153:(H3 hR).holds cl) (h154:(H4 hX).holds cl) (x0) (k:List E→Option R):exec cl N Fa [(0,.v aD x0)] (fun e env=>(ag d143 e env).bind k)=CB hQ hR hX x0 (fun r0=>k [.v U2 r0]):=by
 simp only [Fa,anv hQ hR hX h152 h153 h154,aiH,ar]
 rfl
def rN (S:aR→Option (Int)):aQ:=cG 143 aD S fun b=> [.v U2 b]
def dw (N:Nat) (x0:aR):Option (Int):=CB (hQ N) (hR N) (hX N) x0 (fun (r0:Int)=>some (r0))
def vW (fG:V4→Option (Int)) (k0:Int→Option R) (k1:aS→Option R) (x0:aS):Option R:=
(fG x0.1).bind fun r1015=>
ad (r1015 != (0:Int)) (k0 r1015) (ad ((x0.2.1.length:Int)==(0:Int)) (k0 (7:Int)) (ad (decide ((x0.2.1.length:Int) > (2:Int))) (k0 (3:Int)) (k1 x0)))
theorem amJ (fG) (h142:(BW fG).holds cl) (x0):exec cl N Ar [(0,.v aC x0)] K=(vW fG (fun y0=>K .ret (e7 y0)) (fun y0=>exec cl N Aq (jn y0) K) x0):=by
 rw [←aN h142]
 delta Ar
 generalize Aq=q
 revert q
 refine id ?_
 intro q
 kernel_rfl
def vS (k0:aS→aA→Int→Int→Option R) (x0:aS):Option R:=
k0 x0 x0.2.1 (x0.2.1.length:Int) (0:Int)
theorem amF (x0):exec cl N MQ (jn x0) K=(vS (fun y0 y1 y2 y3=>K .normal (mf y0 y1 y2 y3)) x0):=by
 kernel_rfl
theorem Us (x0 x1 x2 x3):aj [1,22,23,24] (mf x0 x1 x2 x3)=(mf x0 x1 x2 x3):=by kernel_rfl
def vT (dw:aR→Option (Int)) (k0:Int→Option R) (k1:aS→aA→Int→Int→Option R) (k2:aS→aA→Int→Int→Option R) (x0:aS) (x1:aA) (x2 x3:Int):Option R:=
ad (decide (x3 < x2)) (if 0≤x3∧x3 < (x1.length:Int) then
(dw (x1.getD x3.toNat ((0:Int),((0:Int),([],()))))).bind fun r1020=>
ad (r1020 != (0:Int)) (k0 r1020) (k1 x0 x1 x2 (IntKind.i64.wrap (x3+(1:Int))))
else none) (k2 x0 x1 x2 x3)
theorem amG (dw) (h143:(rN dw).holds cl) (x0 x1 x2 x3):exec cl N ED (mf x0 x1 x2 x3) K=(vT dw (fun y0=>K .ret (I8 y0)) (fun y0 y1 y2 y3=>K .normal (mf y0 y1 y2 y3)) (fun y0 y1 y2 y3=>K (.exit 0) (mf y0 y1 y2 y3)) x0 x1 x2 x3):=by
 rw [←aN h143]
 kernel_rfl
def td {R:Type} (dw:aR→Option (Int)) (k0:Int→Option R) (k1:aS→aA→Int→Int→Option R):Nat→aS→aA→Int→Int→Option R
 | 0,_,_,_,_=>none
 | m+1,x0,x1,x2,x3=>(vT dw k0 (td dw k0 k1 m) k1 x0 x1 x2 x3)
theorem ae9 (dw) (h143:(rN dw).holds cl):∀ (m) (x0 x1 x2 x3),iter [1,22,23,24] (fun env K=>exec cl N ED env K) K m (mf x0 x1 x2 x3)=td dw (fun y0=>K .ret (I8 y0)) (fun y0 y1 y2 y3=>K (.exit 0) (mf y0 y1 y2 y3)) m x0 x1 x2 x3:=by
 intro m
 induction m with
 | zero=>intros; rfl
 | succ m ih=>
   intro x0 x1 x2 x3
   simp only [bZ,amG dw h143,b6,b5,b7,Us,ih]
   rfl
theorem abC (x0):aj [1,2] (I8 x0)=(e7 x0):=by kernel_rfl
theorem abD (x0 x1 x2 x3):aj [1,2] (mf x0 x1 x2 x3)=(jn x0):=by kernel_rfl
def vU (N:Nat) (dw:aR→Option (Int)) (k0:Int→Option R) (k1:aS→Option R) (x0:aS) (x1:aA) (x2 x3:Int):Option R:=
td dw k0 (fun y0 y1 y2 y3=>k1 y0) N x0 x1 x2 x3
theorem amH (dw) (h143:(rN dw).holds cl) (x0 x1 x2 x3):exec cl N EE (mf x0 x1 x2 x3) K=(vU N dw (fun y0=>K .ret (e7 y0)) (fun y0=>K (.exit 0) (jn y0)) x0 x1 x2 x3):=by
 simp only [EE,aT,bX,Us,ae9 dw h143,abC,abD]
 rfl
theorem abE (x0):aj [1,2] (e7 x0)=(e7 x0):=by kernel_rfl
theorem abF (x0):aj [1,2] (jn x0)=(jn x0):=by kernel_rfl
def vV (k0:Int→Option R) (x0:aS):Option R:=
ad (decide (x0.2.2.1 < (0:Int))) (k0 (6:Int)) (ad (decide (x0.2.2.1 > (99:Int))) (k0 (6:Int)) (ad (decide (x0.2.2.2.1 < (0:Int))) (k0 (6:Int)) (ad (decide (x0.2.2.2.1 > (4:Int))) (k0 (6:Int)) (k0 (0:Int)))))
theorem amI (x0):exec cl N MT (jn x0) K=(vV (fun y0=>K .ret [(2,.v U2 y0)]) x0):=by
 kernel_rfl
def vX (N:Nat) (fG:V4→Option (Int)) (dw:aR→Option (Int)) (k0:Int→Option R) (k1:Int→Option R) (x0:aS):Option R:=
(vW fG k0 (vS (vU N dw k0 ((vV k1)))) x0)
theorem amK (fG) (dw) (h142:(BW fG).holds cl) (h143:(rN dw).holds cl) (x0):exec cl N Ar [(0,.v aC x0)] K=(vX N fG dw (fun y0=>K .ret (e7 y0)) (fun y0=>K .ret [(2,.v U2 y0)]) x0):=by
 simp only [bY,b9,b8,ca,amJ fG h142,Aq,MS,amF,MR,aT,cx,amH dw h143,ct,cw,cq,abE,abF,amI]
 rfl
theorem ail (y0):ag d122 .ret (e7 y0)=some [.v U2 y0]:=by kernel_rfl
theorem aim (y0):ag d122 .ret [(2,.v U2 y0)]=some [.v U2 y0]:=by kernel_rfl
def sq (N:Nat) (fG:V4→Option (Int)) (dw:aR→Option (Int)) (x0:aS) (k:Int→Option R):Option R:=
(vX N fG dw k k x0)
theorem Ym (fG) (dw) (h142:(BW fG).holds cl) (h143:(rN dw).holds cl) (x0) (k:List E→Option R):exec cl N EC [(0,.v aC x0)] (fun e env=>(ag d122 e env).bind k)=sq N fG dw x0 (fun r0=>k [.v U2 r0]):=by
 simp only [EC,amK fG dw h142 h143,ail,aim,ar]
 rfl
def rI (S:aS→Option (Int)):aQ:=cG 122 aC S fun b=> [.v U2 b]
def df (N:Nat) (x0:aS):Option (Int):=sq N (fG N) (dw N) x0 (fun (r0:Int)=>some (r0))
def wa (k0:Bool→Option R) (k1:aA→aA→Option R) (x0 x1:aA):Option R:=
ad ((x0.length:Int) != (x1.length:Int)) (k0 false) (k1 x0 x1)
theorem amR (x0 x1):exec cl N Au (r7 x0 x1) K=(wa (fun y0=>K .ret (iT y0)) (fun y0 y1=>exec cl N As (Cd y0 y1) K) x0 x1):=by
 delta Au
 generalize As=q
 revert q
 refine id ?_
 intro q
 kernel_rfl
def vY (k0:aA→aA→Int→Int→Option R) (x0 x1:aA):Option R:=
k0 x0 x1 (x0.length:Int) (0:Int)
theorem amN (x0 x1):exec cl N MW (Cd x0 x1) K=(vY (fun y0 y1 y2 y3=>K .normal (mg y0 y1 y2 y3)) x0 x1):=by
 kernel_rfl
theorem Ut (x0 x1 x2 x3):aj [0,1,12,13] (mg x0 x1 x2 x3)=(mg x0 x1 x2 x3):=by kernel_rfl
def vZ (k0:Bool→Option R) (k1:aA→aA→Int→Int→Option R) (k2:aA→aA→Int→Int→Option R) (x0 x1:aA) (x2 x3:Int):Option R:=
ad (decide (x3 < x2)) (if 0≤x3∧x3 < (x0.length:Int) then
if 0≤x3∧x3 < (x1.length:Int) then
ad (!(((x0.getD x3.toNat ((0:Int),((0:Int),([],())))).1==(x1.getD x3.toNat ((0:Int),((0:Int),([],())))).1)&&(((x0.getD x3.toNat ((0:Int),((0:Int),([],())))).2.1==(x1.getD x3.toNat ((0:Int),((0:Int),([],())))).2.1)&&(((x0.getD x3.toNat ((0:Int),((0:Int),([],())))).2.2.1==(x1.getD x3.toNat ((0:Int),((0:Int),([],())))).2.2.1)&&true)))) (k0 false) (k1 x0 x1 x2 (IntKind.i64.wrap (x3+(1:Int))))
else none
else none) (k2 x0 x1 x2 x3)
theorem amO (x0 x1 x2 x3):exec cl N EI (mg x0 x1 x2 x3) K=(vZ (fun y0=>K .ret (r9 y0)) (fun y0 y1 y2 y3=>K .normal (mg y0 y1 y2 y3)) (fun y0 y1 y2 y3=>K (.exit 0) (mg y0 y1 y2 y3)) x0 x1 x2 x3):=by
 kernel_rfl
def te {R:Type} (k0:Bool→Option R) (k1:aA→aA→Int→Int→Option R):Nat→aA→aA→Int→Int→Option R
 | 0,_,_,_,_=>none
 | m+1,x0,x1,x2,x3=>(vZ k0 (te k0 k1 m) k1 x0 x1 x2 x3)
theorem afa:∀ (m) (x0 x1 x2 x3),iter [0,1,12,13] (fun env K=>exec cl N EI env K) K m (mg x0 x1 x2 x3)=te (fun y0=>K .ret (r9 y0)) (fun y0 y1 y2 y3=>K (.exit 0) (mg y0 y1 y2 y3)) m x0 x1 x2 x3:=by
 intro m
 induction m with
 | zero=>intros; rfl
 | succ m ih=>
   intro x0 x1 x2 x3
   simp only [bZ,amO,b6,b5,b7,Ut,ih]
   rfl
theorem abG (x0):aj [4] (r9 x0)=[(4,.v .bool x0)]:=by kernel_rfl
theorem abH (x0 x1 x2 x3):aj [4] (mg x0 x1 x2 x3)=[(4,.dead)]:=by kernel_rfl
def v7 (N:Nat) (k0:Bool→Option R) (k1:Option R) (x0 x1:aA) (x2 x3:Int):Option R:=
te k0 (fun y0 y1 y2 y3=>k1) N x0 x1 x2 x3
theorem amP (x0 x1 x2 x3):exec cl N EJ (mg x0 x1 x2 x3) K=(v7 N (fun y0=>K .ret [(4,.v .bool y0)]) (K (.exit 0) [(4,.dead)]) x0 x1 x2 x3):=by
 simp only [EJ,aT,bX,Ut,afa,abG,abH]
 rfl
theorem abI (x0):aj [4] [(4,.v .bool x0)]=[(4,.v .bool x0)]:=by kernel_rfl
theorem abJ:aj [4] [(4,.dead)]=[(4,.dead)]:=by kernel_rfl
def v8 (k0:Bool→Option R):Option R:=
k0 true
theorem amQ:exec cl N MZ [(4,.dead)] K=(v8 (fun y0=>K .ret [(4,.v .bool y0)])):=by
 kernel_rfl
def wb (N:Nat) (k0:Bool→Option R) (k1:Bool→Option R) (x0 x1:aA):Option R:=
(wa k0 (vY (v7 N k1 (v8 k1))) x0 x1)
theorem amS (x0 x1):exec cl N Au (r7 x0 x1) K=(wb N (fun y0=>K .ret (iT y0)) (fun y0=>K .ret [(4,.v .bool y0)]) x0 x1):=by
 simp only [bY,b9,b8,ca,amR,As,MY,amN,MX,aT,cx,amP,ct,cw,cq,abI,abJ,amQ]
 rfl
theorem aip (y0):ag d125 .ret (iT y0)=some [.v .bool y0]:=by kernel_rfl
theorem aiq (y0):ag d125 .ret [(4,.v .bool y0)]=some [.v .bool y0]:=by kernel_rfl
def sr (N:Nat) (x0 x1:aA) (k:Bool→Option R):Option R:=
(wb N k k x0 x1)
theorem Yp (x0 x1) (k:List E→Option R):exec cl N EH (r7 x0 x1) (fun e env=>(ag d125 e env).bind k)=sr N x0 x1 (fun r0=>k [.v .bool r0]):=by
 simp only [EH,amS,aip,aiq,ar]
 rfl
def HU (S:aA→aA→Option (Bool)):aQ:=eA 125 bt bt S fun b=> [.v .bool b]
def gZ (N:Nat) (x0:aA) (x1:aA):Option (Bool):=sr N x0 x1 (fun (r0:Bool)=>some (r0))
def Jv (gZ:aA→aA→Option (Bool)) (k0:Bool→Option R) (x0 x1:aS):Option R:=
ad (x0.1==x1.1) (ad (x0.2.2.2.1==x1.2.2.2.1) ((gZ x0.2.1 x1.2.1).bind fun r1043=>
k0 r1043) (k0 false)) (k0 false)
theorem amM (gZ) (h125:(HU gZ).holds cl) (x0 x1):exec cl N MV [(0,.v aC x0),(1,.at aC x1)] K=(Jv gZ (fun y0=>K .ret [(3,.v .bool y0)]) x0 x1):=by
 rw [←aN h125]
 kernel_rfl
theorem aio (y0):ag d124 .ret [(3,.v .bool y0)]=some [.v .bool y0]:=by kernel_rfl
def Cr (gZ:aA→aA→Option (Bool)) (x0 x1:aS) (k:Bool→Option R):Option R:=
(Jv gZ k x0 x1)
theorem Yo (gZ) (h125:(HU gZ).holds cl) (x0 x1) (k:List E→Option R):exec cl N EG [(0,.v aC x0),(1,.at aC x1)] (fun e env=>(ag d124 e env).bind k)=Cr gZ x0 x1 (fun r0=>k [.v .bool r0]):=by
 simp only [EG,amM gZ h125,aio,ar]
 rfl
def rK (S:aS→aS→Option (Bool)):aQ:={A:=aS×aS×Unit,B:=Bool,f:=124,enc:=fun a=> [.v aC a.1,.at aC a.2.1],dec:=(ba (bL aC) (ba (pg aC) ck)),S:=fun a=>S a.1 a.2.1,av:=fun b=> [.v .bool b],ok:=(gi (T:=aC) (B6 (T:=aC) (fun es b h=>ir h)))}
def dh (N:Nat) (x0:aS) (x1:aS):Option (Bool):=Cr (gZ N) x0 x1 (fun (r0:Bool)=>some (r0))
def wm (k0:bm→ff→Option R) (x0:bm) (x1:ff):Option R:=
k0 x0 x1
theorem anw (x0 x1):exec cl N Nu (pz x0 x1) K=(wm (fun y0 y1=>K .normal (pz y0 y1)) x0 x1):=by
 kernel_rfl
def wo (k0:bm→ff→Int→Int→Option R) (x0:bm) (x1:ff):Option R:=
k0 x0 x1 (x0.length:Int) (0:Int)
theorem anx (x0 x1):exec cl N Nv (pz x0 x1) K=(wo (fun y0 y1 y2 y3=>K .normal (mh y0 y1 y2 y3)) x0 x1):=by
 kernel_rfl
theorem Uy (x0 x1 x2 x3):aj [0,1,7,8] (mh x0 x1 x2 x3)=(mh x0 x1 x2 x3):=by kernel_rfl
def wq (k0:Int→Option R) (k1:bm→ff→Int→Int→Option R) (k2:bm→ff→Int→Int→Option R) (x0:bm) (x1:ff) (x2 x3:Int):Option R:=
ad (decide (x3 < x2)) (if 0≤x3∧x3 < (x0.length:Int) then
(x1 ((x0.getD x3.toNat ([],([],((0:Int),((0:Int),()))))),())).bind fun r1050=>
ad r1050 (k0 x3) (k1 x0 x1 x2 (IntKind.i64.wrap (x3+(1:Int))))
else none) (k2 x0 x1 x2 x3)
theorem anz (x0 x1 x2 x3):exec cl N Fc (mh x0 x1 x2 x3) K=(wq (fun y0=>K .ret (sa y0)) (fun y0 y1 y2 y3=>K .normal (mh y0 y1 y2 y3)) (fun y0 y1 y2 y3=>K (.exit 0) (mh y0 y1 y2 y3)) x0 x1 x2 x3):=by
 kernel_rfl
def qv {R:Type} (k0:Int→Option R) (k1:bm→ff→Int→Int→Option R):Nat→bm→ff→Int→Int→Option R
 | 0,_,_,_,_=>none
 | m+1,x0,x1,x2,x3=>(wq k0 (qv k0 k1 m) k1 x0 x1 x2 x3)
theorem afh:∀ (m) (x0 x1 x2 x3),iter [0,1,7,8] (fun env K=>exec cl N Fc env K) K m (mh x0 x1 x2 x3)=qv (fun y0=>K .ret (sa y0)) (fun y0 y1 y2 y3=>K (.exit 0) (mh y0 y1 y2 y3)) m x0 x1 x2 x3:=by
 intro m
 induction m with
 | zero=>intros; rfl
 | succ m ih=>
   intro x0 x1 x2 x3
   simp only [bZ,anz,b6,b5,b7,Uy,ih]
   rfl
theorem ab0 (x0):aj [4] (sa x0)=[(4,.v U2 x0)]:=by kernel_rfl
theorem ab1 (x0 x1 x2 x3):aj [4] (mh x0 x1 x2 x3)=[(4,.dead)]:=by kernel_rfl
def wu (N:Nat) (k0:Int→Option R) (k1:Option R) (x0:bm) (x1:ff) (x2 x3:Int):Option R:=
qv k0 (fun y0 y1 y2 y3=>k1) N x0 x1 x2 x3
theorem anA (x0 x1 x2 x3):exec cl N Fe (mh x0 x1 x2 x3) K=(wu N (fun y0=>K .ret [(4,.v U2 y0)]) (K (.exit 0) [(4,.dead)]) x0 x1 x2 x3):=by
 simp only [Fe,aT,bX,Uy,afh,ab0,ab1]
 rfl
theorem ab2 (x0):aj [4] [(4,.v U2 x0)]=[(4,.v U2 x0)]:=by kernel_rfl
theorem ab3:aj [4] [(4,.dead)]=[(4,.dead)]:=by kernel_rfl
def wv (k0:Int→Option R):Option R:=
k0 (-1:Int)
theorem anB:exec cl N Ny [(4,.dead)] K=(wv (fun y0=>K .ret [(4,.v U2 y0)])):=by
 kernel_rfl
def wx (N:Nat) (k0:Int→Option R) (x0:bm) (x1:ff):Option R:=
(wm (wo (wu N k0 (wv k0))) x0 x1)
theorem anC (x0 x1):exec cl N Ff (pz x0 x1) K=(wx N (fun y0=>K .ret [(4,.v U2 y0)]) x0 x1):=by
 simp only [Ff,bY,b9,b8,ca,anw,Nz,Nx,anx,Nw,aT,cx,anA,ct,cw,cq,ab2,ab3,anB]
 rfl
theorem aiI (y0):ag d144 .ret [(4,.v U2 y0)]=some [.v U2 y0]:=by kernel_rfl
def su (N:Nat) (x0:bm) (x1:ff) (k:Int→Option R):Option R:=
(wx N k x0 x1)
theorem YC (x0 x1) (k:List E→Option R):exec cl N Fb (pz x0 x1) (fun e env=>(ag d144 e env).bind k)=su N x0 x1 (fun r0=>k [.v U2 r0]):=by
 simp only [Fb,anC,aiI,ar]
 rfl
def HY (S:bm→ff→Option (Int)):aQ:=eA 144 bW zN S fun b=> [.v U2 b]
def iN (N:Nat) (x0:bm) (x1:ff):Option (Int):=su N x0 x1 (fun (r0:Int)=>some (r0))
def Ju (iN:bm→ff→Option (Int)) (k0:Bool→Option R) (x0:bm) (x1:ff):Option R:=
(iN x0 x1).bind fun r1054=>
k0 (decide (r1054≥(0:Int)))
theorem amL (iN) (h144:(HY iN).holds cl) (x0 x1):exec cl N MU (pz x0 x1) K=(Ju iN (fun y0=>K .ret [(4,.v .bool y0)]) x0 x1):=by
 rw [←aN h144]
 kernel_rfl
theorem ain (y0):ag d123 .ret [(4,.v .bool y0)]=some [.v .bool y0]:=by kernel_rfl
def Cq (iN:bm→ff→Option (Int)) (x0:bm) (x1:ff) (k:Bool→Option R):Option R:=
(Ju iN k x0 x1)
theorem Yn (iN) (h144:(HY iN).holds cl) (x0 x1) (k:List E→Option R):exec cl N EF (pz x0 x1) (fun e env=>(ag d123 e env).bind k)=Cq iN x0 x1 (fun r0=>k [.v .bool r0]):=by
 simp only [EF,amL iN h144,ain,ar]
 rfl
def rJ (S:bm→ff→Option (Bool)):aQ:=eA 123 bW zN S fun b=> [.v .bool b]
def da (N:Nat) (x0:bm) (x1:ff):Option (Bool):=Cq (iN N) x0 x1 (fun (r0:Bool)=>some (r0))
def yB (fu:V4→Option (Bool)) (k0:Int→Int→Option R) (k1:ae→Option R) (x0:ae):Option R:=
(fu x0.1).bind fun r1058=>
ad (!r1058) (k0 (-1:Int) (2:Int)) (ad ((x0.2.1.length:Int)==(0:Int)) (k0 (-1:Int) (7:Int)) (ad (decide ((x0.2.1.length:Int) > (120:Int))) (k0 (-1:Int) (3:Int)) (k1 x0)))
theorem arI (fu) (h121:(BT fu).holds cl) (x0):exec cl N BE [(0,.v ak x0)] K=(yB fu (fun y0 y1=>K .ret (r8 y0 y1)) (fun y0=>exec cl N BD (Ce y0) K) x0):=by
 rw [←aN h121]
 delta BE
 generalize BD=q
 revert q
 refine id ?_
 intro q
 kernel_rfl
def yx (k0:ae→bm→Int→Int→Option R) (x0:ae):Option R:=
k0 x0 x0.2.1 (x0.2.1.length:Int) (0:Int)
theorem arE (x0):exec cl N QL (Ce x0) K=(yx (fun y0 y1 y2 y3=>K .normal (mi y0 y1 y2 y3)) x0):=by
 kernel_rfl
theorem Vg (x0 x1 x2 x3):aj [1,24,25,26] (mi x0 x1 x2 x3)=(mi x0 x1 x2 x3):=by kernel_rfl
def yy (df:aS→Option (Int)) (da:bm→ff→Option (Bool)) (dh:aS→aS→Option (Bool)) (k0:Int→Int→Option R) (k1:ae→bm→Int→Int→Option R) (k2:ae→bm→Int→Int→Option R) (x0:ae) (x1:bm) (x2 x3:Int):Option R:=
ad (decide (x3 < x2)) (if 0≤x3∧x3 < (x1.length:Int) then
(df (x1.getD x3.toNat ([],([],((0:Int),((0:Int),())))))).bind fun r1062=>
ad (r1062 != (0:Int)) (k0 x3 r1062) (if 0≤(0:Int)∧(0:Int)≤x3∧x3≤(x0.2.1.length:Int)∧(x0.2.1.length:Int)≤(x0.2.1.length:Int) then
(da ((x0.2.1.drop (0:Int).toNat).take (x3.toNat - (0:Int).toNat)) (fun (x1065:(aS×Unit))=>((dh x1065.1 (x1.getD x3.toNat ([],([],((0:Int),((0:Int),())))))).bind fun b1066=>some [.v .bool b1066]).bind (j7 .bool))).bind fun r1067=>
ad r1067 (k0 x3 (5:Int)) (k1 x0 x1 x2 (IntKind.i64.wrap (x3+(1:Int))))
else none)
else none) (k2 x0 x1 x2 x3)
theorem arF (df) (da) (dh) (h122:(rI df).holds cl) (h123:(rJ da).holds cl) (h124:(rK dh).holds cl) (x0 x1 x2 x3):exec cl N HF (mi x0 x1 x2 x3) K=(yy df da dh (fun y0 y1=>K .ret (I9 y0 y1)) (fun y0 y1 y2 y3=>K .normal (mi y0 y1 y2 y3)) (fun y0 y1 y2 y3=>K (.exit 1) (mi y0 y1 y2 y3)) x0 x1 x2 x3):=by
 rw [←aN h122]
 rw [←aN h123]
 rw [←aN h124]
 kernel_rfl
def qD {R:Type} (df:aS→Option (Int)) (da:bm→ff→Option (Bool)) (dh:aS→aS→Option (Bool)) (k0:Int→Int→Option R) (k1:ae→bm→Int→Int→Option R):Nat→ae→bm→Int→Int→Option R
 | 0,_,_,_,_=>none
 | m+1,x0,x1,x2,x3=>(yy df da dh k0 (qD df da dh k0 k1 m) k1 x0 x1 x2 x3)
theorem afT (df) (da) (dh) (h122:(rI df).holds cl) (h123:(rJ da).holds cl) (h124:(rK dh).holds cl):∀ (m) (x0 x1 x2 x3),iter [1,24,25,26] (fun env K=>exec cl N HF env K) K m (mi x0 x1 x2 x3)=qD df da dh (fun y0 y1=>K .ret (I9 y0 y1)) (fun y0 y1 y2 y3=>K (.exit 1) (mi y0 y1 y2 y3)) m x0 x1 x2 x3:=by
 intro m
 induction m with
 | zero=>intros; rfl
 | succ m ih=>
   intro x0 x1 x2 x3
   simp only [bZ,arF df da dh h122 h123 h124,b6,b5,b7,Vg,ih]
   rfl
theorem adZ (x0 x1):aj [2,3] (I9 x0 x1)=(jo x0 x1):=by kernel_rfl
theorem ad0 (x0 x1 x2 x3):aj [2,3] (mi x0 x1 x2 x3)=[(2,.dead),(3,.dead)]:=by kernel_rfl
def yz (N:Nat) (df:aS→Option (Int)) (da:bm→ff→Option (Bool)) (dh:aS→aS→Option (Bool)) (k0:Int→Int→Option R) (k1:Option R) (x0:ae) (x1:bm) (x2 x3:Int):Option R:=
qD df da dh k0 (fun y0 y1 y2 y3=>k1) N x0 x1 x2 x3
theorem arG (df) (da) (dh) (h122:(rI df).holds cl) (h123:(rJ da).holds cl) (h124:(rK dh).holds cl) (x0 x1 x2 x3):exec cl N HG (mi x0 x1 x2 x3) K=(yz N df da dh (fun y0 y1=>K .ret (jo y0 y1)) (K (.exit 1) [(2,.dead),(3,.dead)]) x0 x1 x2 x3):=by
 simp only [HG,aT,bX,Vg,afT df da dh h122 h123 h124,adZ,ad0]
 rfl
theorem ad1 (x0 x1):aj [2,3] (jo x0 x1)=(jo x0 x1):=by kernel_rfl
theorem ad2:aj [2,3] [(2,.dead),(3,.dead)]=[(2,.dead),(3,.dead)]:=by kernel_rfl
def yA (k0:Int→Int→Option R):Option R:=
k0 (-1:Int) (0:Int)
theorem arH:exec cl N QO [(2,.dead),(3,.dead)] K=(yA (fun y0 y1=>K .ret (jo y0 y1))):=by
 kernel_rfl
def yC (N:Nat) (fu:V4→Option (Bool)) (df:aS→Option (Int)) (da:bm→ff→Option (Bool)) (dh:aS→aS→Option (Bool)) (k0:Int→Int→Option R) (k1:Int→Int→Option R) (x0:ae):Option R:=
(yB fu k0 (yx (yz N df da dh k1 (yA k1))) x0)
theorem arJ (fu) (df) (da) (dh) (h121:(BT fu).holds cl) (h122:(rI df).holds cl) (h123:(rJ da).holds cl) (h124:(rK dh).holds cl) (x0):exec cl N BE [(0,.v ak x0)] K=(yC N fu df da dh (fun y0 y1=>K .ret (r8 y0 y1)) (fun y0 y1=>K .ret (jo y0 y1)) x0):=by
 simp only [bY,b9,b8,ca,arI fu h121,BD,QN,arE,QM,aT,cx,arG df da dh h122 h123 h124,ct,cw,cq,ad1,ad2,arH]
 rfl
theorem ake (y0 y1):ag d95 .ret (r8 y0 y1)=some [.v U2 y0,.v U2 y1]:=by kernel_rfl
theorem akf (y0 y1):ag d95 .ret (jo y0 y1)=some [.v U2 y0,.v U2 y1]:=by kernel_rfl
def s4 (N:Nat) (fu:V4→Option (Bool)) (df:aS→Option (Int)) (da:bm→ff→Option (Bool)) (dh:aS→aS→Option (Bool)) (x0:ae) (k:Int→Int→Option R):Option R:=
(yC N fu df da dh k k x0)
theorem Zr (fu) (df) (da) (dh) (h121:(BT fu).holds cl) (h122:(rI df).holds cl) (h123:(rJ da).holds cl) (h124:(rK dh).holds cl) (x0) (k:List E→Option R):exec cl N HE [(0,.v ak x0)] (fun e env=>(ag d95 e env).bind k)=s4 N fu df da dh x0 (fun r0 r1=>k [.v U2 r0,.v U2 r1]):=by
 simp only [HE,arJ fu df da dh h121 h122 h123 h124,ake,akf,ar]
 rfl
def Ik (S:ae→Option V1):aQ:=cG 95 ak S fun b=> [.v U2 b.1,.v U2 b.2]
def iR (N:Nat) (x0:ae):Option V1:=s4 N (fu N) (df N) (da N) (dh N) x0 (fun (r0:Int) (r1:Int)=>some (r0,r1))
def J5 (iR:ae→Option V1) (k0:Int→Option R) (x0:ae):Option R:=
(iR x0).bind fun r1070=>
k0 r1070.2
theorem aqJ (iR) (h95:(Ik iR).holds cl) (x0):exec cl N P7 [(0,.v ak x0)] K=(J5 iR (fun y0=>K .ret [(2,.v U2 y0)]) x0):=by
 rw [←aN h95]
 kernel_rfl
theorem ajR (y0):ag d70 .ret [(2,.v U2 y0)]=some [.v U2 y0]:=by kernel_rfl
def CP (iR:ae→Option V1) (x0:ae) (k:Int→Option R):Option R:=
(J5 iR k x0)
theorem Zg (iR) (h95:(Ik iR).holds cl) (x0) (k:List E→Option R):exec cl N G8 [(0,.v ak x0)] (fun e env=>(ag d70 e env).bind k)=CP iR x0 (fun r0=>k [.v U2 r0]):=by
 simp only [G8,aqJ iR h95,ajR,ar]
 rfl
def uZ (S:ae→Option (Int)):aQ:=cG 70 ak S fun b=> [.v U2 b]
def ey (N:Nat) (x0:ae):Option (Int):=CP (iR N) x0 (fun (r0:Int)=>some (r0))
def Kg (cj:Int→Option (Bool)) (k0:Bool→Option R) (x0:Int):Option R:=
(cj x0).bind fun r1078=>
k0 (!r1078)
theorem arL (cj) (h98:(nV cj).holds cl) (x0):exec cl N QQ [(0,.v U0 x0)] K=(Kg cj (fun y0=>K .ret [(2,.v .bool y0)]) x0):=by
 rw [←aN h98]
 kernel_rfl
theorem akh (y0):ag d97 .ret [(2,.v .bool y0)]=some [.v .bool y0]:=by kernel_rfl
def CU (cj:Int→Option (Bool)) (x0:Int) (k:Bool→Option R):Option R:=
(Kg cj k x0)
theorem Zt (cj) (h98:(nV cj).holds cl) (x0) (k:List E→Option R):exec cl N HI [(0,.v U0 x0)] (fun e env=>(ag d97 e env).bind k)=CU cj x0 (fun r0=>k [.v .bool r0]):=by
 simp only [HI,arL cj h98,akh,ar]
 rfl
def rV (S:Int→Option (Bool)):aQ:=cG 97 U0 S fun b=> [.v .bool b]
def dq (N:Nat) (x0:Int):Option (Bool):=CU (cj N) x0 (fun (r0:Bool)=>some (r0))
def wc (k0:V0→cb→Option R) (x0:V0) (x1:cb):Option R:=
k0 x0 x1
theorem amT (x0 x1):exec cl N M0 (pA x0 x1) K=(wc (fun y0 y1=>K .normal (pA y0 y1)) x0 x1):=by
 kernel_rfl
def we (k0:V0→cb→Int→Int→Option R) (x0:V0) (x1:cb):Option R:=
k0 x0 x1 (x0.length:Int) (0:Int)
theorem amU (x0 x1):exec cl N M1 (pA x0 x1) K=(we (fun y0 y1 y2 y3=>K .normal (mj y0 y1 y2 y3)) x0 x1):=by
 kernel_rfl
theorem Uu (x0 x1 x2 x3):aj [0,1,7,8] (mj x0 x1 x2 x3)=(mj x0 x1 x2 x3):=by kernel_rfl
def wg (k0:Int→Option R) (k1:V0→cb→Int→Int→Option R) (k2:V0→cb→Int→Int→Option R) (x0:V0) (x1:cb) (x2 x3:Int):Option R:=
ad (decide (x3 < x2)) (if 0≤x3∧x3 < (x0.length:Int) then
(x1 ((x0.getD x3.toNat (0:Int)),())).bind fun r1085=>
ad r1085 (k0 x3) (k1 x0 x1 x2 (IntKind.i64.wrap (x3+(1:Int))))
else none) (k2 x0 x1 x2 x3)
theorem amV (x0 x1 x2 x3):exec cl N EL (mj x0 x1 x2 x3) K=(wg (fun y0=>K .ret (sa y0)) (fun y0 y1 y2 y3=>K .normal (mj y0 y1 y2 y3)) (fun y0 y1 y2 y3=>K (.exit 0) (mj y0 y1 y2 y3)) x0 x1 x2 x3):=by
 kernel_rfl
def qu {R:Type} (k0:Int→Option R) (k1:V0→cb→Int→Int→Option R):Nat→V0→cb→Int→Int→Option R
 | 0,_,_,_,_=>none
 | m+1,x0,x1,x2,x3=>(wg k0 (qu k0 k1 m) k1 x0 x1 x2 x3)
theorem afb:∀ (m) (x0 x1 x2 x3),iter [0,1,7,8] (fun env K=>exec cl N EL env K) K m (mj x0 x1 x2 x3)=qu (fun y0=>K .ret (sa y0)) (fun y0 y1 y2 y3=>K (.exit 0) (mj y0 y1 y2 y3)) m x0 x1 x2 x3:=by
 intro m
 induction m with
 | zero=>intros; rfl
 | succ m ih=>
   intro x0 x1 x2 x3
   simp only [bZ,amV,b6,b5,b7,Uu,ih]
   rfl
theorem abK (x0):aj [4] (sa x0)=[(4,.v U2 x0)]:=by kernel_rfl
theorem abL (x0 x1 x2 x3):aj [4] (mj x0 x1 x2 x3)=[(4,.dead)]:=by kernel_rfl
def wh (N:Nat) (k0:Int→Option R) (k1:Option R) (x0:V0) (x1:cb) (x2 x3:Int):Option R:=
qu k0 (fun y0 y1 y2 y3=>k1) N x0 x1 x2 x3
theorem amW (x0 x1 x2 x3):exec cl N EM (mj x0 x1 x2 x3) K=(wh N (fun y0=>K .ret [(4,.v U2 y0)]) (K (.exit 0) [(4,.dead)]) x0 x1 x2 x3):=by
 simp only [EM,aT,bX,Uu,afb,abK,abL]
 rfl
theorem abM (x0):aj [4] [(4,.v U2 x0)]=[(4,.v U2 x0)]:=by kernel_rfl
theorem abN:aj [4] [(4,.dead)]=[(4,.dead)]:=by kernel_rfl
def wi (k0:Int→Option R):Option R:=
k0 (-1:Int)
theorem amX:exec cl N M5 [(4,.dead)] K=(wi (fun y0=>K .ret [(4,.v U2 y0)])):=by
 kernel_rfl
def wj (N:Nat) (k0:Int→Option R) (x0:V0) (x1:cb):Option R:=
(wc (we (wh N k0 (wi k0))) x0 x1)
theorem amY (x0 x1):exec cl N EN (pA x0 x1) K=(wj N (fun y0=>K .ret [(4,.v U2 y0)]) x0 x1):=by
 simp only [EN,bY,b9,b8,ca,amT,M6,M4,amU,M3,aT,cx,amW,ct,cw,cq,abM,abN,amX]
 rfl
theorem air (y0):ag d126 .ret [(4,.v U2 y0)]=some [.v U2 y0]:=by kernel_rfl
def ss (N:Nat) (x0:V0) (x1:cb) (k:Int→Option R):Option R:=
(wj N k x0 x1)
theorem Yq (x0 x1) (k:List E→Option R):exec cl N EK (pA x0 x1) (fun e env=>(ag d126 e env).bind k)=ss N x0 x1 (fun r0=>k [.v U2 r0]):=by
 simp only [EK,amY,air,ar]
 rfl
def HV (S:V0→cb→Option (Int)):aQ:=eA 126 U4 zL S fun b=> [.v U2 b]
def iM (N:Nat) (x0:V0) (x1:cb):Option (Int):=ss N x0 x1 (fun (r0:Int)=>some (r0))
def Kf (iM:V0→cb→Option (Int)) (k0:Bool→Option R) (x0:V0) (x1:cb):Option R:=
(iM x0 x1).bind fun r1089=>
k0 (decide (r1089≥(0:Int)))
theorem arK (iM) (h126:(HV iM).holds cl) (x0 x1):exec cl N QP (pA x0 x1) K=(Kf iM (fun y0=>K .ret [(4,.v .bool y0)]) x0 x1):=by
 rw [←aN h126]
 kernel_rfl
theorem akg (y0):ag d96 .ret [(4,.v .bool y0)]=some [.v .bool y0]:=by kernel_rfl
def CT (iM:V0→cb→Option (Int)) (x0:V0) (x1:cb) (k:Bool→Option R):Option R:=
(Kf iM k x0 x1)
theorem Zs (iM) (h126:(HV iM).holds cl) (x0 x1) (k:List E→Option R):exec cl N HH (pA x0 x1) (fun e env=>(ag d96 e env).bind k)=CT iM x0 x1 (fun r0=>k [.v .bool r0]):=by
 simp only [HH,arK iM h126,akg,ar]
 rfl
def rU (S:V0→cb→Option (Bool)):aQ:=eA 96 U4 zL S fun b=> [.v .bool b]
def db (N:Nat) (x0:V0) (x1:cb):Option (Bool):=CT (iM N) x0 x1 (fun (r0:Bool)=>some (r0))
end Go.Fw.L19
