/- Own work. -/
import Derived.Test.YtooiookccchmeaaGreatFwYs13
import Derived.Test.YtooiookccchmeaaGreatFwB4
set_option linter.unusedVariables false
set_option linter.unusedSimpArgs false
open Option renaming bind_some → al
namespace Go.Fw.L19
open Go Go.Fw
set_option maxRecDepth 100000
abbrev cA (f:FuncId) (T0:Ty) {B:Type} (S:den T0→Option B) (aq:B→List E):aJ:={A:=den T0×Unit,B:=B,f:=f,enc:=fun a=> [.v T0 a.1],dec:=(a7 (bC T0) b9),S:=fun a=>S a.1,aq:=aq,ok:=(fP (T:=T0) (fun es b h=>iJ h))}
abbrev c4 (f:FuncId) (T0 T1:Ty) {B:Type} (S:den T0→den T1→Option B) (aq:B→List E):aJ:={A:=den T0×den T1×Unit,B:=B,f:=f,enc:=fun a=> [.v T0 a.1,.v T1 a.2.1],dec:=(a7 (bC T0) (a7 (bC T1) b9)),S:=fun a=>S a.1 a.2.1,aq:=aq,ok:=(fP (T:=T0) (fP (T:=T1) (fun es b h=>iJ h)))}
abbrev OW (f:FuncId) (T0 T1 T2:Ty) {B:Type} (S:den T0→den T1→den T2→Option B) (aq:B→List E):aJ:={A:=den T0×den T1×den T2×Unit,B:=B,f:=f,enc:=fun a=> [.v T0 a.1,.v T1 a.2.1,.v T2 a.2.2.1],dec:=(a7 (bC T0) (a7 (bC T1) (a7 (bC T2) b9))),S:=fun a=>S a.1 a.2.1 a.2.2.1,aq:=aq,ok:=(fP (T:=T0) (fP (T:=T1) (fP (T:=T2) (fun es b h=>iJ h))))}
abbrev Wm (f:FuncId) (T0 T1 T2 T3:Ty) {B:Type} (S:den T0→den T1→den T2→den T3→Option B) (aq:B→List E):aJ:={A:=den T0×den T1×den T2×den T3×Unit,B:=B,f:=f,enc:=fun a=> [.v T0 a.1,.v T1 a.2.1,.v T2 a.2.2.1,.v T3 a.2.2.2.1],dec:=(a7 (bC T0) (a7 (bC T1) (a7 (bC T2) (a7 (bC T3) b9)))),S:=fun a=>S a.1 a.2.1 a.2.2.1 a.2.2.2.1,aq:=aq,ok:=(fP (T:=T0) (fP (T:=T1) (fP (T:=T2) (fP (T:=T3) (fun es b h=>iJ h)))))}
abbrev e0:=fun x0 x1 x2=>([(0,.v .str x0),(3,.own true 9 .str .no x1),(4,.v U2 x2)]:Env)
abbrev e1:=fun x0 x1 x2 x3=>([(0,.v .str x0),(3,.own true 9 .str .no x1),(4,.v U2 x2),(5,.v U2 x3)]:Env)
abbrev e2:=fun x0=>([(3,.own true 9 .str .no x0)]:Env)
abbrev e3:=fun x0=>([(2,.ref 3 []),(3,.own true 9 .str .no x0)]:Env)
abbrev e4:=fun x0=>([(0,.dead),(2,.own true 9 .str .no x0),(3,.dead),(4,.dead),(5,.dead)]:Env)
abbrev e5:=fun x0=>([(2,.own true 9 .str .no x0),(3,.dead)]:Env)
abbrev e6:=fun x0=>([(2,.dead),(3,.own true 9 .str .no x0)]:Env)
abbrev e7:=fun x0=>([(1,.dead),(2,.v U2 x0)]:Env)
abbrev e8:=fun x0 x1=>([(1,.loc ay .no x0),(4,.v U2 x1)]:Env)
abbrev e9:=fun x0=>([(1,.dead),(2,.v U2 x0),(4,.dead)]:Env)
abbrev jW:=fun x0 x1 x2=>([(0,.v .str x0),(2,.loc ay .no x1),(4,.v U2 x2)]:Env)
abbrev Ge:=fun x0 x1=>([(0,.dead),(2,.loc ay .no x0),(3,.v .bool x1),(4,.dead),(5,.dead)]:Env)
abbrev nE:=fun x0 x1 x2=>([(2,.loc ay .no x0),(5,.v .str x1),(6,.loc ay .no x2)]:Env)
abbrev kB:=fun x0 x1 x2 x3=>([(2,.loc ay .no x0),(5,.v .str x1),(6,.loc ay .no x2),(7,.v U2 x3)]:Env)
abbrev Gp:=fun x0 x1=>([(2,.loc ay .no x0),(3,.v .bool x1)]:Env)
abbrev Gs:=fun x0 x1=>([(0,.dead),(2,.own true 40 ay .no x0),(3,.v U2 x1)]:Env)
abbrev kM:=fun x0 x1 x2=>([(4,.own true 40 ay .no x0),(5,.own true 9 .str .no x1),(6,.v U2 x2)]:Env)
abbrev Gw:=fun x0 x1=>([(2,.own true 40 ay .no x0),(3,.v U2 x1),(4,.dead),(5,.dead),(6,.dead)]:Env)
abbrev nH:=fun x0 x1=>([(2,.own true 40 ay .no x0),(3,.v U2 x1),(4,.dead)]:Env)
abbrev s5:=fun x0=>([(2,.dead),(3,.dead),(4,.own true 40 ay .no x0)]:Env)
abbrev Gx:=fun x0 x1=>([(2,.ref 4 []),(3,.v U2 x0),(4,.own true 40 ay .no x1)]:Env)
abbrev cL:=fun x0 x1=>([(0,.v .str x0),(3,.v U2 x1)]:Env)
abbrev Gy:=fun x0 x1=>([(0,.dead),(2,.v U2 x0),(3,.v .bool x1)]:Env)
abbrev kS:=fun x0 x1 x2=>([(0,.v .str x0),(4,.v U2 x1),(5,.v U2 x2)]:Env)
abbrev Gz:=fun x0 x1=>([(2,.loc aB (.pair .no (.pair (.own true 40 .no) (.pair .no (.pair .no .no)))) x0),(3,.v .bool x1),(4,.dead)]:Env)
abbrev nI:=fun x0 x1 x2=>([(2,.loc aB (.pair .no (.pair (.own true 40 .no) (.pair .no (.pair .no .no)))) x0),(4,.own true 9 .str .no x1),(5,.v .str x2)]:Env)
abbrev kT:=fun x0 x1 x2 x3=>([(2,.loc aB (.pair .no (.pair (.own true 40 .no) (.pair .no (.pair .no .no)))) x0),(4,.own true 9 .str .no x1),(5,.v .str x2),(6,.v U2 x3)]:Env)
abbrev GA:=fun x0 x1=>([(2,.loc aB (.pair .no (.pair (.own true 40 .no) (.pair .no (.pair .no .no)))) x0),(3,.v .bool x1),(4,.dead),(7,.dead),(9,.dead)]:Env)
abbrev Pd:=fun x0 x1 x2 x3=>([(2,.loc aB (.pair .no (.pair (.own true 40 .no) (.pair .no (.pair .no .no)))) x0),(3,.dead),(4,.own true 9 .str .no x1),(7,.own true 40 ay .no x2),(9,.v U2 x3)]:Env)
abbrev kU:=fun x0 x1 x2 x3 x4=>([(2,.loc aB (.pair .no (.pair (.own true 40 .no) (.pair .no (.pair .no .no)))) x0),(4,.own true 9 .str .no x1),(7,.own true 40 ay .no x2),(9,.v U2 x3),(11,.v U2 x4)]:Env)
abbrev GB:=fun x0 x1=>([(2,.loc aB .no x0),(3,.v .bool x1),(4,.dead),(7,.dead),(9,.dead),(11,.dead)]:Env)
abbrev qk:=fun x0 x1=>([(2,.loc aB .no x0),(3,.v .bool x1)]:Env)
abbrev s6:=fun x0=>([(2,.loc aB (.pair .no (.pair (.own true 40 .no) (.pair .no (.pair .no .no)))) x0),(3,.dead)]:Env)
abbrev GC:=fun x0 x1=>([(2,.loc aB (.pair .no (.pair (.own true 40 .no) (.pair .no (.pair .no .no)))) x0),(3,.v .bool x1)]:Env)
abbrev iK:=fun x0=>([(0,.dead),(2,.v U2 x0)]:Env)
abbrev kV:=fun x0 x1=>([(0,.v U0 x0),(3,.v U2 x1)]:Env)
abbrev GD:=fun x0=>([(0,.dead),(2,.v .bool x0),(3,.dead)]:Env)
abbrev zM:=fun x0=>([(0,.v .str x0),(2,.dead)]:Env)
abbrev ql:=fun x0=>([(0,.dead),(2,.v U2 x0),(3,.dead)]:Env)
abbrev iL:=fun x0=>([(1,.loc aB .no x0),(2,.dead)]:Env)
abbrev kW:=fun x0 x1=>([(1,.loc aB .no x0),(4,.v U2 x1)]:Env)
abbrev zN:=fun x0 x1=>([(0,.v U2 x0),(1,.v U2 x1)]:Env)
abbrev kX:=fun x0=>([(0,.dead),(1,.dead),(4,.v U2 x0)]:Env)
abbrev qm:=fun x0 x1=>([(0,.v bh x0),(1,.v bh x1)]:Env)
abbrev hY:=fun x0=>([(0,.dead),(1,.dead),(4,.v .bool x0)]:Env)
abbrev zO:=fun x0 x1=>([(0,.v bh x0),(1,.v bh x1),(4,.dead)]:Env)
abbrev kY:=fun x0 x1 x2=>([(0,.v bh x0),(1,.v bh x1),(5,.v U2 x2)]:Env)
abbrev mg:=fun x0=>([(0,.dead),(1,.dead),(4,.v .bool x0),(5,.dead)]:Env)
abbrev qn:=fun x0 x1=>([(1,.dead),(2,.v U2 x0),(3,.v U2 x1)]:Env)
abbrev zP:=fun x0=>([(1,.loc ak .no x0),(2,.dead),(3,.dead)]:Env)
abbrev hZ:=fun x0 x1=>([(1,.loc ak .no x0),(4,.v U2 x1)]:Env)
abbrev mM:=fun x0 x1=>([(1,.dead),(2,.v U2 x0),(3,.v U2 x1),(4,.dead)]:Env)
abbrev kZ:=fun x0 x1 x2=>([(1,.loc ak .no x0),(4,.v U2 x1),(6,.v U2 x2)]:Env)
abbrev GF:=fun x0 x1=>([(1,.dead),(2,.v U2 x0),(3,.v U2 x1),(4,.dead),(6,.dead)]:Env)
abbrev s7:=fun x0 x1=>([(1,.loc ak .no x0),(2,.dead),(3,.dead),(4,.v U2 x1)]:Env)
abbrev iM:=fun x0 x1=>([(2,.v U2 x0),(3,.v U2 x1)]:Env)
abbrev GG:=fun x0 x1 x2=>([(0,.dead),(2,.loc ak (.pair .no (.pair (.own true 43 .no) .no)) x0),(3,.v U2 x1),(4,.v U2 x2)]:Env)
abbrev GH:=fun x0 x1 x2=>([(0,.dead),(2,.loc ak (.pair .no (.pair (.own true 43 .no) .no)) x0),(3,.v U2 x1),(4,.v U2 x2),(5,.dead)]:Env)
abbrev Pe:=fun x0 x1 x2 x3=>([(0,.v .str x0),(2,.loc ak (.pair .no (.pair (.own true 43 .no) .no)) x1),(5,.own true 9 .str .no x2),(6,.loc ak (.pair .no (.pair (.own true 43 .no) .no)) x3)]:Env)
abbrev gg:=fun x0 x1 x2 x3 x4=>([(0,.v .str x0),(2,.loc ak (.pair .no (.pair (.own true 43 .no) .no)) x1),(5,.own true 9 .str .no x2),(6,.loc ak (.pair .no (.pair (.own true 43 .no) .no)) x3),(7,.v U2 x4)]:Env)
abbrev Pf:=fun x0 x1 x2 x3 x4 x5=>([(0,.v .str x0),(2,.loc ak (.pair .no (.pair (.own true 43 .no) .no)) x1),(5,.own true 9 .str .no x2),(6,.loc ak (.pair .no (.pair (.own true 43 .no) .no)) x3),(7,.v U2 x4),(8,.v .bool x5)]:Env)
abbrev Pg:=fun x0 x1 x2=>([(0,.dead),(2,.loc ak (.pair .no (.pair (.own true 43 .no) .no)) x0),(3,.v U2 x1),(4,.v U2 x2),(5,.dead),(6,.dead),(7,.dead),(9,.dead),(10,.dead)]:Env)
abbrev zQ:=fun x0 x1 x2=>([(0,.dead),(2,.loc ak (.pair .no (.pair (.own true 43 .no) .no)) x0),(3,.v U2 x1),(4,.v U2 x2),(5,.dead),(6,.dead),(7,.dead)]:Env)
abbrev Ph:=fun x0 x1 x2 x3 x4=>([(0,.v .str x0),(2,.loc ak (.pair .no (.pair (.own true 43 .no) .no)) x1),(3,.dead),(4,.dead),(5,.own true 9 .str .no x2),(6,.loc ak (.pair .no (.pair (.own true 43 .no) .no)) x3),(7,.v U2 x4)]:Env)
abbrev nJ:=fun x0 x1 x2=>([(2,.loc ak (.pair .no (.pair (.own true 43 .no) .no)) x0),(3,.v U2 x1),(4,.v U2 x2),(6,.dead)]:Env)
abbrev s8:=fun x0 x1=>([(2,.loc ak (.pair .no (.pair (.own true 43 .no) .no)) x0),(3,.dead),(4,.dead),(6,.loc ak (.pair .no (.pair (.own true 43 .no) .no)) x1)]:Env)
abbrev GI:=fun x0 x1 x2=>([(2,.loc ak .no x0),(3,.v U2 x1),(4,.v U2 x2)]:Env)
abbrev jD:=fun x0=>([(2,.v U2 x0),(3,.dead)]:Env)
abbrev ia:=fun x0=>([(2,.dead),(3,.v U2 x0)]:Env)
abbrev nK:=fun x0=>([(3,.own true 4294967295 U0 .no x0)]:Env)
abbrev k9:=fun x0 x1 x2=>([(3,.own true 4294967295 U0 .no x0),(8,.ref 3 []),(9,.v U2 x1),(10,.v U2 x2)]:Env)
abbrev la:=fun x0 x1 x2=>([(9,.own true 4294967295 U0 .no x0),(10,.v U2 x1),(11,.v U2 x2)]:Env)
abbrev GJ:=fun x0=>([(2,.v U2 x0),(9,.dead),(10,.dead),(11,.dead)]:Env)
abbrev GK:=fun x0 x1=>([(0,.dead),(2,.own true 179 dJ .no x0),(3,.v U2 x1)]:Env)
abbrev lb:=fun x0 x1 x2 x3=>([(5,.own true 179 dJ .no x0),(15,.own true 4294967295 U0 .no x1),(16,.v U2 x2),(17,.v U2 x3)]:Env)
abbrev s9:=fun x0=>([(5,.own true 179 dJ .no x0)]:Env)
abbrev GL:=fun x0 x1=>([(2,.ref 5 []),(3,.v U2 x0),(5,.own true 179 dJ .no x1)]:Env)
abbrev ta:=fun x0=>([(1,.dead),(2,.v .bool x0)]:Env)
abbrev tc:=fun x0 x1 x2=>([(0,.v .str x0),(1,.v lW x1),(2,.v .bool x2)]:Env)
abbrev nL:=fun x0 x1 x2 x3=>([(1,.v lW x0),(2,.v .bool x1),(10,.it x2 x3)]:Env)
abbrev GM:=fun x0=>([(1,.dead),(2,.dead),(6,.v U2 x0),(10,.dead)]:Env)
abbrev GN:=fun x0 x1 x2 x3 x4=>([(1,.v lW x0),(2,.v .bool x1),(10,.it x2 x3),(11,.cx [.v .bool x4])]:Env)
abbrev zR:=fun x0 x1=>([(0,.v .str x0),(1,.v lW x1)]:Env)
abbrev ld:=fun x0 x1 x2 x3=>([(1,.loc aB .no x0),(22,.v bh x1),(23,.v U2 x2),(24,.v U2 x3)]:Env)
abbrev GO:=fun x0=>([(1,.dead),(2,.v U2 x0),(22,.dead),(23,.dead),(24,.dead)]:Env)
abbrev lf:=fun x0 x1 x2 x3=>([(0,.v bh x0),(1,.v bh x1),(12,.v U2 x2),(13,.v U2 x3)]:Env)
abbrev qo:=fun x0=>([(0,.dead),(1,.dead),(4,.v .bool x0),(12,.dead),(13,.dead)]:Env)
abbrev nM:=fun x0 x1=>([(0,.v cO x0),(1,.v wU x1)]:Env)
abbrev lg:=fun x0 x1 x2 x3=>([(0,.v cO x0),(1,.v wU x1),(7,.v U2 x2),(8,.v U2 x3)]:Env)
abbrev qp:=fun x0=>([(0,.dead),(1,.dead),(4,.v U2 x0),(7,.dead),(8,.dead)]:Env)
abbrev lh:=fun x0 x1 x2 x3=>([(1,.loc ak .no x0),(24,.v cO x1),(25,.v U2 x2),(26,.v U2 x3)]:Env)
abbrev GP:=fun x0 x1=>([(1,.dead),(2,.v U2 x0),(3,.v U2 x1),(24,.dead),(25,.dead),(26,.dead)]:Env)
abbrev nN:=fun x0 x1=>([(0,.v U4 x0),(1,.v wS x1)]:Env)
abbrev lj:=fun x0 x1 x2 x3=>([(0,.v U4 x0),(1,.v wS x1),(7,.v U2 x2),(8,.v U2 x3)]:Env)
abbrev GQ:=fun x0=>([(0,.dead),(1,.dead),(4,.v .str x0)]:Env)
abbrev nO:=fun x0 x1 x2=>([(0,.v U1 x0),(1,.v .str x1),(5,.v U2 x2)]:Env)
abbrev ll:=fun x0 x1 x2 x3 x4 x5=>([(0,.v U1 x0),(1,.v .str x1),(5,.v U2 x2),(39,.v U1 x3),(40,.v U2 x4),(41,.v U2 x5)]:Env)
abbrev ln:=fun x0 x1 x2 x3=>([(0,.v U1 x0),(7,.v U1 x1),(8,.v U2 x2),(9,.v U2 x3)]:Env)
abbrev GR:=fun x0 x1=>([(0,.dead),(2,.v .str x0),(3,.v U2 x1),(7,.dead),(8,.dead),(9,.dead)]:Env)
abbrev qq:=fun x0 x1=>([(0,.dead),(2,.v .str x0),(3,.v U2 x1)]:Env)
abbrev sY:=fun x0=>([(0,.v U1 x0),(2,.dead),(3,.dead)]:Env)
abbrev Ga:=fun x0 x1=>([(2,.v .str x0),(3,.v U2 x1),(6,.dead)]:Env)
abbrev me:=fun x0 x1=>([(0,.v ak x0),(1,.v .str x1)]:Env)
abbrev O2:=fun x0=>([(0,.dead),(1,.dead),(4,.own true 40 ay .no x0)]:Env)
abbrev Gb:=fun x0 x1 x2 x3=>([(0,.v ak x0),(1,.v U2 x1),(2,.v bh x2),(3,.v bh x3)]:Env)
abbrev Gc:=fun x0=>([(1,.dead),(2,.dead),(3,.dead),(4,.dead),(8,.v .bool x0)]:Env)
abbrev O3:=fun x0 x1 x2 x3=>([(1,.v U2 x0),(2,.v bh x1),(3,.v bh x2),(4,.loc ak .no x3),(8,.dead)]:Env)
abbrev zG:=fun x0 x1=>([(0,.v .str x0),(1,.v .str x1)]:Env)
abbrev kr:=fun x0 x1 x2 x3 x4 x5=>([(0,.at bw x0),(3,.loc aU .no x1),(5,.own true 73 aU .no x2),(12,.v cO x3),(13,.v U2 x4),(14,.v U2 x5)]:Env)
abbrev sZ:=fun x0=>([(5,.own true 73 aU .no x0)]:Env)
abbrev Gf:=fun x0=>([(4,.ref 5 []),(5,.own true 73 aU .no x0)]:Env)
abbrev qd:=fun x0 x1=>([(0,.loc bw (.pair .no (.pair .no (.pair .mp .no))) x0),(1,.v aU x1)]:Env)
abbrev Gg:=fun x0 x1=>([(0,.loc bw (.pair .no (.pair .no (.pair .mp .no))) x0),(3,.dead),(4,.v U2 x1)]:Env)
abbrev nD:=fun x0 x1 x2=>([(0,.loc bw (.pair .no (.pair .no (.pair .mp .no))) x0),(3,.loc aU .no x1),(7,.v U2 x2)]:Env)
abbrev kx:=fun x0 x1 x2 x3 x4 x5=>([(0,.loc bw (.pair .no (.pair .no (.pair .mp .no))) x0),(3,.loc aU .no x1),(7,.v U2 x2),(47,.own true 73 aU .no x3),(48,.v U2 x4),(49,.v U2 x5)]:Env)
abbrev Gh:=fun x0 x1=>([(0,.loc bw (.pair .no (.pair .no (.pair .mp .no))) x0),(4,.v U2 x1)]:Env)
abbrev Gi:=fun x0 x1=>([(0,.loc bw (.pair .no (.pair .no (.pair .mp .no))) x0),(3,.dead),(4,.own true 27 U5 .no x1)]:Env)
abbrev O4:=fun x0 x1 x2=>([(0,.loc bw (.pair .no (.pair .no (.pair .mp .no))) x0),(3,.loc aU .no x1),(5,.own true 27 U5 .no x2)]:Env)
abbrev fq:=fun x0 x1 x2 x3 x4=>([(0,.loc bw (.pair .no (.pair .no (.pair .mp .no))) x0),(5,.own true 27 U5 .no x1),(21,.own true 73 aU .no x2),(22,.v U2 x3),(23,.v U2 x4)]:Env)
abbrev O5:=fun x0 x1 x2 x3 x4 x5=>([(0,.loc bw (.pair .no (.pair .no (.pair .mp .no))) x0),(5,.own true 27 U5 .no x1),(7,.loc aU .no x2),(21,.own true 73 aU .no x3),(22,.v U2 x4),(23,.v U2 x5)]:Env)
abbrev ky:=fun x0 x1 x2 x3 x4 x5 x6 x7 x8=>([(0,.loc bw (.pair .no (.pair .no (.pair .mp .no))) x0),(5,.own true 27 U5 .no x1),(7,.loc aU .no x2),(21,.own true 73 aU .no x3),(22,.v U2 x4),(23,.v U2 x5),(33,.own true 27 U5 .no x6),(34,.v U2 x7),(35,.v U2 x8)]:Env)
abbrev s3:=fun x0 x1=>([(0,.loc bw (.pair .no (.pair .no (.pair .mp .no))) x0),(5,.own true 27 U5 .no x1)]:Env)
abbrev Gj:=fun x0 x1=>([(0,.loc bw (.pair .no (.pair .no (.pair .mp .no))) x0),(4,.ref 5 []),(5,.own true 27 U5 .no x1)]:Env)
abbrev de:=fun x0 x1=>([(0,.v ak x0),(1,.v U5 x1)]:Env)
abbrev jC:=fun x0 x1 x2=>([(1,.v U5 x0),(2,.loc ak .no x1),(5,.v U2 x2)]:Env)
abbrev kz:=fun x0 x1 x2 x3 x4=>([(2,.loc ak .no x0),(5,.v U2 x1),(8,.v U5 x2),(9,.v U2 x3),(10,.v U2 x4)]:Env)
abbrev jX:=fun x0 x1=>([(0,.v U5 x0),(1,.v U5 x1)]:Env)
abbrev kA:=fun x0 x1 x2 x3 x4=>([(0,.v U5 x0),(1,.v U5 x1),(9,.v U5 x2),(10,.v U2 x3),(11,.v U2 x4)]:Env)
abbrev Gk:=fun x0=>([(0,.dead),(1,.dead),(4,.v U2 x0),(9,.dead),(10,.dead),(11,.dead)]:Env)
abbrev mf:=fun x0 x1=>([(0,.v U5 x0),(1,.v U5 x1),(4,.dead)]:Env)
abbrev kC:=fun x0 x1 x2 x3=>([(3,.v U2 x0),(6,.v U5 x1),(7,.v U2 x2),(8,.v U2 x3)]:Env)
abbrev Gm:=fun x0=>([(2,.v U2 x0),(3,.dead),(6,.dead),(7,.dead),(8,.dead)]:Env)
abbrev O6:=fun x0 x1=>([(1,.dead),(2,.dead),(4,.own true 27 U5 .no x0),(5,.v U2 x1)]:Env)
abbrev O7:=fun x0 x1=>([(2,.dead),(4,.own true 27 U5 .no x0),(5,.v U2 x1),(7,.dead),(8,.dead),(21,.dead)]:Env)
abbrev O8:=fun x0 x1=>([(4,.ref 10 []),(5,.v U2 x0),(10,.own true 27 U5 .no x1)]:Env)
abbrev O9:=fun x0 x1 x2=>([(2,.dead),(4,.own true 3 U2 .no x0),(5,.v U2 x1),(6,.v U2 x2),(7,.dead)]:Env)
abbrev kD:=fun x0 x1 x2 x3 x4=>([(2,.loc ak .no x0),(6,.sb 123 5 x1),(9,.v U5 x2),(10,.v U2 x3),(11,.v U2 x4)]:Env)
abbrev Gn:=fun x0 x1=>([(2,.dead),(4,.v .str x0),(5,.v .bool x1),(6,.dead),(9,.dead),(10,.dead),(11,.dead)]:Env)
abbrev qe:=fun x0 x1=>([(4,.v .str x0),(5,.v .bool x1),(6,.dead)]:Env)
abbrev s4:=fun x0=>([(4,.dead),(5,.dead),(6,.sb 123 5 x0)]:Env)
abbrev zH:=fun x0=>([(1,.dead),(2,.dead),(4,.v U2 x0)]:Env)
abbrev qf:=fun x0 x1=>([(1,.dead),(2,.dead),(4,.own true 3 U2 .no x0),(5,.v U2 x1)]:Env)
abbrev zI:=fun x0 x1 x2 x3=>([(1,.v U5 x0),(2,.loc ak .no x1),(7,.own true 3 U2 .no x2),(8,.v U2 x3)]:Env)
abbrev ga:=fun x0 x1 x2 x3 x4 x5=>([(2,.loc ak .no x0),(7,.own true 3 U2 .no x1),(8,.v U2 x2),(17,.v U5 x3),(18,.v U2 x4),(19,.v U2 x5)]:Env)
abbrev nF:=fun x0 x1 x2 x3 x4 x5 x6=>([(2,.loc ak .no x0),(7,.own true 3 U2 .no x1),(8,.v U2 x2),(10,.v U2 x3),(17,.v U5 x4),(18,.v U2 x5),(19,.v U2 x6)]:Env)
abbrev kE:=fun x0 x1 x2 x3 x4 x5 x6 x7 x8=>([(2,.loc ak .no x0),(7,.own true 3 U2 .no x1),(8,.v U2 x2),(10,.v U2 x3),(17,.v U5 x4),(18,.v U2 x5),(19,.v U2 x6),(29,.v U2 x7),(30,.v U2 x8)]:Env)
abbrev kF:=fun x0=>([(7,.own true 3 U2 .no x0)]:Env)
abbrev qg:=fun x0 x1=>([(4,.ref 7 []),(5,.v U2 x0),(7,.own true 3 U2 .no x1)]:Env)
abbrev Gq:=fun x0 x1=>([(1,.dead),(2,.dead),(4,.v U2 x0),(5,.v U2 x1)]:Env)
abbrev Pa:=fun x0 x1 x2 x3=>([(1,.v .str x0),(2,.loc ak .no x1),(7,.own true 4 .bool .no x2),(8,.v U2 x3)]:Env)
abbrev fr:=fun x0 x1 x2 x3 x4 x5=>([(1,.v .str x0),(2,.loc ak .no x1),(7,.own true 4 .bool .no x2),(8,.v U2 x3),(25,.ref 7 []),(26,.v U2 x4),(27,.v U2 x5)]:Env)
abbrev Pb:=fun x0 x1 x2 x3 x4 x5 x6=>([(1,.v .str x0),(2,.loc ak .no x1),(7,.own true 4 .bool .no x2),(8,.v U2 x3),(9,.v U2 x4),(25,.ref 7 []),(26,.v U2 x5),(27,.v U2 x6)]:Env)
abbrev kG:=fun x0 x1 x2 x3 x4 x5 x6 x7 x8 x9=>([(1,.v .str x0),(2,.loc ak .no x1),(7,.own true 4 .bool .no x2),(8,.v U2 x3),(9,.v U2 x4),(25,.ref 7 []),(26,.v U2 x5),(27,.v U2 x6),(36,.v cO x7),(37,.v U2 x8),(38,.v U2 x9)]:Env)
abbrev kH:=fun x0 x1 x2=>([(0,.v U5 x0),(1,.v U5 x1),(5,.v U2 x2)]:Env)
abbrev kI:=fun x0 x1 x2=>([(0,.v U7 x0),(1,.v U7 x1),(5,.v U2 x2)]:Env)
abbrev kJ:=fun x0 x1 x2 x3=>([(0,.v U5 x0),(1,.v U5 x1),(12,.v U2 x2),(13,.v U2 x3)]:Env)
abbrev Pc:=fun x0=>([(0,.v .bool x0),(2,.dead),(4,.dead),(6,.dead),(9,.dead)]:Env)
abbrev kK:=fun x0 x1=>([(0,.v bh x0),(5,.v U2 x1)]:Env)
abbrev Gt:=fun x0=>([(0,.dead),(4,.v .bool x0),(5,.dead)]:Env)
abbrev kL:=fun x0 x1 x2=>([(1,.loc ak .no x0),(3,.v U2 x1),(4,.v U2 x2)]:Env)
abbrev Gu:=fun x0=>([(1,.dead),(2,.v .bool x0),(3,.dead),(4,.dead)]:Env)
abbrev qh:=fun x0=>([(2,.v .bool x0),(3,.dead)]:Env)
abbrev qi:=fun x0 x1=>([(1,.dead),(2,.dead),(4,.own true 40 ay .no x0),(5,.v U2 x1)]:Env)
abbrev zJ:=fun x0 x1 x2=>([(1,.v U5 x0),(2,.loc ak .no x1),(7,.own true 40 ay .no x2)]:Env)
abbrev kN:=fun x0 x1 x2 x3 x4=>([(2,.loc ak .no x0),(7,.own true 40 ay .no x1),(16,.v U5 x2),(17,.v U2 x3),(18,.v U2 x4)]:Env)
abbrev kO:=fun x0=>([(7,.own true 40 ay .no x0)]:Env)
abbrev qj:=fun x0 x1=>([(4,.ref 7 []),(5,.v U2 x0),(7,.own true 40 ay .no x1)]:Env)
abbrev Gv:=fun x0=>([(1,.dead),(2,.dead),(4,.v U2 x0),(5,.dead)]:Env)
abbrev kP:=fun x0 x1 x2 x3=>([(1,.v U5 x0),(2,.loc ak .no x1),(7,.own true 40 ay .no x2),(8,.v U2 x3)]:Env)
abbrev gd:=fun x0 x1 x2 x3 x4=>([(1,.v U5 x0),(2,.loc ak .no x1),(7,.own true 3 U2 .no x2),(8,.v U2 x3),(9,.v U2 x4)]:Env)
abbrev nG:=fun x0 x1 x2 x3 x4 x5=>([(1,.v U5 x0),(2,.loc ak .no x1),(7,.own true 3 U2 .no x2),(8,.v U2 x3),(9,.v U2 x4),(10,.loc aB .no x5)]:Env)
abbrev kQ:=fun x0 x1 x2 x3 x4 x5 x6=>([(1,.v U5 x0),(2,.loc ak .no x1),(7,.own true 3 U2 .no x2),(8,.v U2 x3),(9,.v U2 x4),(10,.loc aB .no x5),(11,.v U2 x6)]:Env)
abbrev zK:=fun x0 x1=>([(1,.dead),(2,.dead),(4,.v .str x0),(5,.v U2 x1)]:Env)
abbrev zL:=fun x0 x1=>([(4,.v .str x0),(5,.v U2 x1)]:Env)
abbrev kR:=fun x0 x1 x2 x3=>([(1,.v U5 x0),(2,.loc ak .no x1),(5,.v .str x2),(6,.v U2 x3)]:Env)
variable {N:Nat} {cl:az} {R:Type} {K:KE R}
def R4 (k0:V3→aC→Int→Option R) (x0:V3):Option R:=
k0 x0 [] (0:Int)
theorem apS (x0):exec cl N yU [(0,.v .str x0)] K=(R4 (fun y0 y1 y2=>exec cl N yT (e0 y0 y1 y2) K) x0):=by
 delta yU
 generalize yT=q
 revert q
 refine id ?_
 intro q
 kernel_rfl
def R0 (k0:V3→aC→Int→Int→Option R) (x0:V3) (x1:aC) (x2:Int):Option R:=
k0 x0 x1 x2 (0:Int)
theorem apO (x0 x1 x2):exec cl N Of (e0 x0 x1 x2) K=(R0 (fun y0 y1 y2 y3=>K .normal (e1 y0 y1 y2 y3)) x0 x1 x2):=by
 kernel_rfl
theorem TO (x0 x1 x2 x3):ah [0,3,4,5] (e1 x0 x1 x2 x3)=(e1 x0 x1 x2 x3):=by kernel_rfl
def R1 (k0:V3→aC→Int→Int→Option R) (k1:V3→aC→Int→Int→Option R) (x0:V3) (x1:aC) (x2 x3:Int):Option R:=
ae (decide (x3≤(x0.length:Int))) (ae (x3==(x0.length:Int)) (ae (x2==x3) (k0 x0 x1 x2 x3) (ae (x3==(x0.length:Int)) (if 0≤x2∧x2≤x3∧x3≤(x0.length:Int) then
let Bf:V3:=((x0.drop x2.toNat).take (x3.toNat - x2.toNat))
if x1.length+[Bf].length≤8796093022208 then
k1 x0 (x1++[Bf]) (IntKind.i64.wrap (x3+(1:Int))) (IntKind.i64.wrap (x3+(1:Int)))
else none
else none) (if 0≤x3∧x3 < (x0.length:Int) then
ae (((x0.getD x3.toNat 0).toNat:Int)==(10:Int)) (if 0≤x2∧x2≤x3∧x3≤(x0.length:Int) then
let v32:V3:=((x0.drop x2.toNat).take (x3.toNat - x2.toNat))
if x1.length+[v32].length≤8796093022208 then
k1 x0 (x1++[v32]) (IntKind.i64.wrap (x3+(1:Int))) (IntKind.i64.wrap (x3+(1:Int)))
else none
else none) (k1 x0 x1 x2 (IntKind.i64.wrap (x3+(1:Int))))
else none))) (ae (x3==(x0.length:Int)) (if 0≤x2∧x2≤x3∧x3≤(x0.length:Int) then
let v37:V3:=((x0.drop x2.toNat).take (x3.toNat - x2.toNat))
if x1.length+[v37].length≤8796093022208 then
k1 x0 (x1++[v37]) (IntKind.i64.wrap (x3+(1:Int))) (IntKind.i64.wrap (x3+(1:Int)))
else none
else none) (if 0≤x3∧x3 < (x0.length:Int) then
ae (((x0.getD x3.toNat 0).toNat:Int)==(10:Int)) (if 0≤x2∧x2≤x3∧x3≤(x0.length:Int) then
let v42:V3:=((x0.drop x2.toNat).take (x3.toNat - x2.toNat))
if x1.length+[v42].length≤8796093022208 then
k1 x0 (x1++[v42]) (IntKind.i64.wrap (x3+(1:Int))) (IntKind.i64.wrap (x3+(1:Int)))
else none
else none) (k1 x0 x1 x2 (IntKind.i64.wrap (x3+(1:Int))))
else none))) (k0 x0 x1 x2 x3)
theorem apP (x0 x1 x2 x3):exec cl N E3 (e1 x0 x1 x2 x3) K=(R1 (fun y0 y1 y2 y3=>K (.exit 0) (e1 y0 y1 y2 y3)) (fun y0 y1 y2 y3=>K .normal (e1 y0 y1 y2 y3)) x0 x1 x2 x3):=by
 kernel_rfl
def IL {R:Type} (k0:V3→aC→Int→Int→Option R):Nat→V3→aC→Int→Int→Option R
 | 0,_,_,_,_=>none
 | m+1,x0,x1,x2,x3=>(R1 k0 (IL k0 m) x0 x1 x2 x3)
theorem ad4:∀ (m) (x0 x1 x2 x3),iter [0,3,4,5] (fun env K=>exec cl N E3 env K) K m (e1 x0 x1 x2 x3)=IL (fun y0 y1 y2 y3=>K (.exit 0) (e1 y0 y1 y2 y3)) m x0 x1 x2 x3:=by
 intro m
 induction m with
 | zero=>intros; rfl
 | succ m ih=>
   intro x0 x1 x2 x3
   simp only [bS,apP,bU,bT,bV,TO,ih]
   rfl
theorem ach (x0 x1 x2 x3):ah [3] (e1 x0 x1 x2 x3)=(e2 x1):=by kernel_rfl
def R2 (N:Nat) (k0:aC→Option R) (x0:V3) (x1:aC) (x2 x3:Int):Option R:=
IL (fun y0 y1 y2 y3=>k0 y1) N x0 x1 x2 x3
theorem apQ (x0 x1 x2 x3):exec cl N E4 (e1 x0 x1 x2 x3) K=(R2 N (fun y0=>K (.exit 0) (e2 y0)) x0 x1 x2 x3):=by
 simp only [E4,aP,bR,TO,ad4,ach]
 rfl
theorem aci (x0):ah [3] (e2 x0)=(e2 x0):=by kernel_rfl
def R3 (k0:aC→Option R) (x0:aC):Option R:=
k0 x0
theorem apR (x0):exec cl N Oi (e2 x0) K=(R3 (fun y0=>K .ret (e3 y0)) x0):=by
 kernel_rfl
def R5 (N:Nat) (k0:aC→Option R) (x0:V3):Option R:=
(R4 (R0 (R2 N ((R3 k0)))) x0)
theorem apT (x0):exec cl N yU [(0,.v .str x0)] K=(R5 N (fun y0=>K .ret (e3 y0)) x0):=by
 simp only [bJ,bL,bK,bM,apS,yT,Oh,apO,Og,aP,b6,apQ,bZ,b5,bY,aci,apR]
 rfl
theorem aiy (y0):af d92 .ret (e3 y0)=some [.own true 9 .str .no y0]:=by kernel_rfl
def HW (N:Nat) (x0:V3) (k:aC→Option R):Option R:=
(R5 N k x0)
theorem X1 (x0) (k:List E→Option R):exec cl N E2 [(0,.v .str x0)] (fun e env=>(af d92 e env).bind k)=HW N x0 (fun r0=>k [.own true 9 .str .no r0]):=by
 simp only [E2,apT,aiy,al]
 rfl
def zA (S:V3→Option fo):aJ:=cA 92 .str S fun b=> [.own true 9 .str .no b]
def fE (N:Nat) (x0:V3):Option fo:=HW N x0 (fun (r0:aC)=>some (r0))
def Sa (k0:V3→aC→Int→Option R) (x0:V3):Option R:=
k0 x0 [] (0:Int)
theorem apY (x0):exec cl N yW [(0,.v .str x0)] K=(Sa (fun y0 y1 y2=>exec cl N yV (e0 y0 y1 y2) K) x0):=by
 delta yW
 generalize yV=q
 revert q
 refine id ?_
 intro q
 kernel_rfl
def R6 (k0:V3→aC→Int→Int→Option R) (x0:V3) (x1:aC) (x2:Int):Option R:=
k0 x0 x1 x2 (0:Int)
theorem apU (x0 x1 x2):exec cl N Oj (e0 x0 x1 x2) K=(R6 (fun y0 y1 y2 y3=>K .normal (e1 y0 y1 y2 y3)) x0 x1 x2):=by
 kernel_rfl
theorem TP (x0 x1 x2 x3):ah [0,3,4,5] (e1 x0 x1 x2 x3)=(e1 x0 x1 x2 x3):=by kernel_rfl
def R7 (k0:aC→Option R) (k1:V3→aC→Int→Int→Option R) (k2:V3→aC→Int→Int→Option R) (x0:V3) (x1:aC) (x2 x3:Int):Option R:=
ae (decide (x3≤(x0.length:Int))) (ae (x3==(x0.length:Int)) (ae (x3==x2) (k0 []) (if 0≤x2∧x2≤x3∧x3≤(x0.length:Int) then
let v67:V3:=((x0.drop x2.toNat).take (x3.toNat - x2.toNat))
if x1.length+[v67].length≤8796093022208 then
k1 x0 (x1++[v67]) (IntKind.i64.wrap (x3+(1:Int))) (IntKind.i64.wrap (x3+(1:Int)))
else none
else none)) (if 0≤x3∧x3 < (x0.length:Int) then
ae (((x0.getD x3.toNat 0).toNat:Int)==(32:Int)) (ae (x3==x2) (k0 []) (if 0≤x2∧x2≤x3∧x3≤(x0.length:Int) then
let v72:V3:=((x0.drop x2.toNat).take (x3.toNat - x2.toNat))
if x1.length+[v72].length≤8796093022208 then
k1 x0 (x1++[v72]) (IntKind.i64.wrap (x3+(1:Int))) (IntKind.i64.wrap (x3+(1:Int)))
else none
else none)) (k1 x0 x1 x2 (IntKind.i64.wrap (x3+(1:Int))))
else none)) (k2 x0 x1 x2 x3)
theorem apV (x0 x1 x2 x3):exec cl N E6 (e1 x0 x1 x2 x3) K=(R7 (fun y0=>K .ret (e4 y0)) (fun y0 y1 y2 y3=>K .normal (e1 y0 y1 y2 y3)) (fun y0 y1 y2 y3=>K (.exit 0) (e1 y0 y1 y2 y3)) x0 x1 x2 x3):=by
 kernel_rfl
def IM {R:Type} (k0:aC→Option R) (k1:V3→aC→Int→Int→Option R):Nat→V3→aC→Int→Int→Option R
 | 0,_,_,_,_=>none
 | m+1,x0,x1,x2,x3=>(R7 k0 (IM k0 k1 m) k1 x0 x1 x2 x3)
theorem ad5:∀ (m) (x0 x1 x2 x3),iter [0,3,4,5] (fun env K=>exec cl N E6 env K) K m (e1 x0 x1 x2 x3)=IM (fun y0=>K .ret (e4 y0)) (fun y0 y1 y2 y3=>K (.exit 0) (e1 y0 y1 y2 y3)) m x0 x1 x2 x3:=by
 intro m
 induction m with
 | zero=>intros; rfl
 | succ m ih=>
   intro x0 x1 x2 x3
   simp only [bS,apV,bU,bT,bV,TP,ih]
   rfl
theorem acj (x0):ah [2,3] (e4 x0)=(e5 x0):=by kernel_rfl
theorem ack (x0 x1 x2 x3):ah [2,3] (e1 x0 x1 x2 x3)=(e6 x1):=by kernel_rfl
def R8 (N:Nat) (k0:aC→Option R) (k1:aC→Option R) (x0:V3) (x1:aC) (x2 x3:Int):Option R:=
IM k0 (fun y0 y1 y2 y3=>k1 y1) N x0 x1 x2 x3
theorem apW (x0 x1 x2 x3):exec cl N E7 (e1 x0 x1 x2 x3) K=(R8 N (fun y0=>K .ret (e5 y0)) (fun y0=>K (.exit 0) (e6 y0)) x0 x1 x2 x3):=by
 simp only [E7,aP,bR,TP,ad5,acj,ack]
 rfl
theorem acm (x0):ah [2,3] (e5 x0)=(e5 x0):=by kernel_rfl
theorem acn (x0):ah [2,3] (e6 x0)=(e6 x0):=by kernel_rfl
def R9 (k0:aC→Option R) (x0:aC):Option R:=
k0 x0
theorem apX (x0):exec cl N On (e6 x0) K=(R9 (fun y0=>K .ret (e3 y0)) x0):=by
 kernel_rfl
def Sb (N:Nat) (k0:aC→Option R) (k1:aC→Option R) (x0:V3):Option R:=
(Sa (R6 (R8 N k0 ((R9 k1)))) x0)
theorem apZ (x0):exec cl N yW [(0,.v .str x0)] K=(Sb N (fun y0=>K .ret (e5 y0)) (fun y0=>K .ret (e3 y0)) x0):=by
 simp only [bJ,bL,bK,bM,apY,yV,Om,apU,Ol,aP,b6,apW,bZ,b5,bY,acm,acn,apX]
 rfl
theorem aiz (y0):af d93 .ret (e5 y0)=some [.own true 9 .str .no y0]:=by kernel_rfl
theorem aiA (y0):af d93 .ret (e3 y0)=some [.own true 9 .str .no y0]:=by kernel_rfl
def HX (N:Nat) (x0:V3) (k:aC→Option R):Option R:=
(Sb N k k x0)
theorem X2 (x0) (k:List E→Option R):exec cl N E5 [(0,.v .str x0)] (fun e env=>(af d93 e env).bind k)=HX N x0 (fun r0=>k [.own true 9 .str .no r0]):=by
 simp only [E5,apZ,aiz,aiA,al]
 rfl
def kp (S:V3→Option fo):aJ:=cA 93 .str S fun b=> [.own true 9 .str .no b]
def bG (N:Nat) (x0:V3):Option fo:=HX N x0 (fun (r0:aC)=>some (r0))
def P7 (k0:V3→aC→Option R) (x0:V3):Option R:=
k0 x0 [([]:List UInt8)]
theorem aln (x0):exec cl N xC [(0,.v .str x0)] K=(P7 (fun y0 y1=>exec cl N xB [(0,.v .str y0),(3,.own true 9 .str .no y1)] K) x0):=by
 delta xC
 generalize xB=q
 revert q
 refine id ?_
 intro q
 kernel_rfl
def P3 (k0:V3→aC→Int→Option R) (x0:V3) (x1:aC):Option R:=
k0 x0 x1 (0:Int)
theorem ali (x0 x1):exec cl N KO [(0,.v .str x0),(3,.own true 9 .str .no x1)] K=(P3 (fun y0 y1 y2=>K .normal (e0 y0 y1 y2)) x0 x1):=by
 kernel_rfl
theorem Tf (x0 x1 x2):ah [0,3,4] (e0 x0 x1 x2)=(e0 x0 x1 x2):=by kernel_rfl
def P4 (k0:V3→aC→Int→Option R) (k1:V3→aC→Int→Option R) (x0:V3) (x1:aC) (x2:Int):Option R:=
ae (decide (x2 < (x0.length:Int))) (if 0≤x2∧x2 < (x0.length:Int) then
ae (((x0.getD x2.toNat 0).toNat:Int)==(32:Int)) (if x1.length+[([]:List UInt8)].length≤8796093022208 then
k0 x0 (x1++[([]:List UInt8)]) (IntKind.i64.wrap (x2+(1:Int)))
else none) (let v102:Int:=(IntKind.i64.wrap ((x1.length:Int) - (1:Int)))
let v103:Int:=(IntKind.i64.wrap ((x1.length:Int) - (1:Int)))
if 0≤v103∧v103 < (x1.length:Int) then
if v103.toNat < x1.length then
let v105:Int:=(IntKind.i64.wrap (x2+(1:Int)))
if 0≤x2∧x2≤v105∧v105≤(x0.length:Int) then
let v106:V3:=((x0.drop x2.toNat).take (v105.toNat - x2.toNat))
if (x1.getD v103.toNat []).length+v106.length≤140737488355328 then
if 0≤v102∧v102 < (x1.length:Int) then
if v102.toNat < x1.length then
k0 x0 (x1.set v102.toNat ((x1.getD v103.toNat [])++v106)) (IntKind.i64.wrap (x2+(1:Int)))
else none
else none
else none
else none
else none
else none)
else none) (k1 x0 x1 x2)
theorem alj (x0 x1 x2):exec cl N CB (e0 x0 x1 x2) K=(P4 (fun y0 y1 y2=>K .normal (e0 y0 y1 y2)) (fun y0 y1 y2=>K (.exit 0) (e0 y0 y1 y2)) x0 x1 x2):=by
 kernel_rfl
def Iu {R:Type} (k0:V3→aC→Int→Option R):Nat→V3→aC→Int→Option R
 | 0,_,_,_=>none
 | m+1,x0,x1,x2=>(P4 (Iu k0 m) k0 x0 x1 x2)
theorem adr:∀ (m) (x0 x1 x2),iter [0,3,4] (fun env K=>exec cl N CB env K) K m (e0 x0 x1 x2)=Iu (fun y0 y1 y2=>K (.exit 0) (e0 y0 y1 y2)) m x0 x1 x2:=by
 intro m
 induction m with
 | zero=>intros; rfl
 | succ m ih=>
   intro x0 x1 x2
   simp only [bS,alj,bU,bT,bV,Tf,ih]
   rfl
theorem aaj (x0 x1 x2):ah [3] (e0 x0 x1 x2)=(e2 x1):=by kernel_rfl
def P5 (N:Nat) (k0:aC→Option R) (x0:V3) (x1:aC) (x2:Int):Option R:=
Iu (fun y0 y1 y2=>k0 y1) N x0 x1 x2
theorem alk (x0 x1 x2):exec cl N CC (e0 x0 x1 x2) K=(P5 N (fun y0=>K (.exit 0) (e2 y0)) x0 x1 x2):=by
 simp only [CC,aP,bR,Tf,adr,aaj]
 rfl
theorem aak (x0):ah [3] (e2 x0)=(e2 x0):=by kernel_rfl
def P6 (k0:aC→Option R) (x0:aC):Option R:=
k0 x0
theorem alm (x0):exec cl N KR (e2 x0) K=(P6 (fun y0=>K .ret (e3 y0)) x0):=by
 kernel_rfl
def P8 (N:Nat) (k0:aC→Option R) (x0:V3):Option R:=
(P7 (P3 (P5 N ((P6 k0)))) x0)
theorem alo (x0):exec cl N xC [(0,.v .str x0)] K=(P8 N (fun y0=>K .ret (e3 y0)) x0):=by
 simp only [bJ,bL,bK,bM,aln,xB,KQ,ali,KP,aP,b6,alk,bZ,b5,bY,aak,alm]
 rfl
theorem agK (y0):af d138 .ret (e3 y0)=some [.own true 9 .str .no y0]:=by kernel_rfl
def Hl (N:Nat) (x0:V3) (k:aC→Option R):Option R:=
(P8 N k x0)
theorem W5 (x0) (k:List E→Option R):exec cl N CA [(0,.v .str x0)] (fun e env=>(af d138 e env).bind k)=Hl N x0 (fun r0=>k [.own true 9 .str .no r0]):=by
 simp only [CA,alo,agK,al]
 rfl
def zq (S:V3→Option fo):aJ:=cA 138 .str S fun b=> [.own true 9 .str .no b]
def fB (N:Nat) (x0:V3):Option fo:=Hl N x0 (fun (r0:aC)=>some (r0))
def Qo (k0:V3→Option R):Option R:=
k0 ([32,118,100,109,108,110,115,120,103,98]:List UInt8)
theorem alS:exec cl N Lb [] K=(Qo (fun y0=>K .ret [(0,.v .str y0)])):=by
 kernel_rfl
theorem agX (y0):af d148 .ret [(0,.v .str y0)]=some [.v .str y0]:=by kernel_rfl
def Hq (k:V3→Option R):Option R:=
(Qo k)
theorem Xc (k:List E→Option R):exec cl N CV [] (fun e env=>(af d148 e env).bind k)=Hq (fun r0=>k [.v .str r0]):=by
 simp only [CV,alS,agX,al]
 rfl
def nx (S:Option V6):aJ:={A:=Unit,B:=V3,f:=148,enc:=fun a=> [],dec:=b9,S:=fun a=>S,aq:=fun b=> [.v .str b],ok:=(fun es b h=>iJ h)}
def da (N:Nat):Option V6:=Hq (fun (r0:V3)=>some (r0))
def G7 (k0:Bool→Option R) (x0:aN):Option R:=
ae (x0.1==(1:Int)) (k0 true) (k0 (x0.1==(2:Int)))
theorem akl (x0):exec cl N J6 [(0,.v ay x0)] K=(G7 (fun y0=>K .ret [(2,.v .bool y0)]) x0):=by
 kernel_rfl
theorem agi (y0):af d114 .ret [(2,.v .bool y0)]=some [.v .bool y0]:=by kernel_rfl
def zY (x0:aN) (k:Bool→Option R):Option R:=
(G7 k x0)
theorem WK (x0) (k:List E→Option R):exec cl N BX [(0,.v ay x0)] (fun e env=>(af d114 e env).bind k)=zY x0 (fun r0=>k [.v .bool r0]):=by
 simp only [BX,akl,agi,al]
 rfl
def zk (S:aN→Option (Bool)):aJ:=cA 114 ay S fun b=> [.v .bool b]
def eY (N:Nat) (x0:aN):Option (Bool):=zY x0 (fun (r0:Bool)=>some (r0))
def Hk (k0:Bool→Option R) (x0:Int):Option R:=
ae (decide (x0≥(97:Int))) (ae (decide (x0≤(122:Int))) (k0 true) (ae (decide (x0≥(48:Int))) (ae (decide (x0≤(57:Int))) (k0 true) (ae (x0==(95:Int)) (k0 true) (ae (x0==(94:Int)) (k0 true) (k0 (x0==(39:Int)))))) (ae (x0==(95:Int)) (k0 true) (ae (x0==(94:Int)) (k0 true) (k0 (x0==(39:Int))))))) (ae (decide (x0≥(48:Int))) (ae (decide (x0≤(57:Int))) (k0 true) (ae (x0==(95:Int)) (k0 true) (ae (x0==(94:Int)) (k0 true) (k0 (x0==(39:Int)))))) (ae (x0==(95:Int)) (k0 true) (ae (x0==(94:Int)) (k0 true) (k0 (x0==(39:Int))))))
theorem alh (x0):exec cl N KN [(0,.v U0 x0)] K=(Hk (fun y0=>K .ret [(2,.v .bool y0)]) x0):=by
 kernel_rfl
theorem agJ (y0):af d137 .ret [(2,.v .bool y0)]=some [.v .bool y0]:=by kernel_rfl
def Ab (x0:Int) (k:Bool→Option R):Option R:=
(Hk k x0)
theorem W4 (x0) (k:List E→Option R):exec cl N Cz [(0,.v U0 x0)] (fun e env=>(af d137 e env).bind k)=Ab x0 (fun r0=>k [.v .bool r0]):=by
 simp only [Cz,alh,agJ,al]
 rfl
def pX (S:Int→Option (Bool)):aJ:=cA 137 U0 S fun b=> [.v .bool b]
def c5 (N:Nat) (x0:Int):Option (Bool):=Ab x0 (fun (r0:Bool)=>some (r0))
def tG (k0:Int→Option R) (k1:aN→Bool→Option R) (x0:aN):Option R:=
ae (decide (x0.1 < (1:Int))) (k0 (1:Int)) (ae (decide (x0.1 > (9:Int))) (k0 (1:Int)) (ae (x0.1==(1:Int)) (ae (decide (x0.2.1≥(1:Int))) (ae (x0.1==(2:Int)) (k1 x0 (x0.2.1==(2:Int))) (k1 x0 (decide (x0.2.1≤(3:Int))))) (ae (x0.1==(2:Int)) (k1 x0 (x0.2.1==(2:Int))) (k1 x0 false))) (ae (x0.1==(2:Int)) (k1 x0 (x0.2.1==(2:Int))) (k1 x0 (x0.2.1==(0:Int))))))
theorem akC (x0):exec cl N xn [(0,.v ay x0)] K=(tG (fun y0=>K .ret (e7 y0)) (fun y0 y1=>exec cl N sD [(1,.loc ay .no y0),(3,.v .bool y1)] K) x0):=by
 delta xn
 generalize sD=q
 revert q
 refine id ?_
 intro q
 kernel_rfl
def tF (k0:Int→Option R) (k1:aN→Option R) (x0:aN) (x1:Bool):Option R:=
ae (!x1) (k0 (6:Int)) (ae (x0.2.2.1==([]:List UInt8)) (k0 (7:Int)) (ae (decide ((x0.2.2.1.length:Int) > (8:Int))) (k0 (3:Int)) (k1 x0)))
theorem akB (x0 x1):exec cl N sD [(1,.loc ay .no x0),(3,.v .bool x1)] K=(tF (fun y0=>K .ret (e7 y0)) (fun y0=>exec cl N xm [(1,.loc ay .no y0),(2,.dead)] K) x0 x1):=by
 delta sD
 generalize xm=q
 revert q
 refine id ?_
 intro q
 kernel_rfl
def tA (k0:aN→Int→Option R) (x0:aN):Option R:=
k0 x0 (0:Int)
theorem akx (x0):exec cl N Kd [(1,.loc ay .no x0),(2,.dead)] K=(tA (fun y0 y1=>K .normal (e8 y0 y1)) x0):=by
 kernel_rfl
theorem S9 (x0 x1):ah [1,4] (e8 x0 x1)=(e8 x0 x1):=by kernel_rfl
def tB (c5:Int→Option (Bool)) (k0:Int→Option R) (k1:aN→Int→Option R) (k2:aN→Int→Option R) (x0:aN) (x1:Int):Option R:=
ae (decide (x1 < (x0.2.2.1.length:Int))) (if 0≤x1∧x1 < (x0.2.2.1.length:Int) then
(c5 ((x0.2.2.1.getD x1.toNat 0).toNat:Int)).bind fun r259=>
ae (!r259) (k0 (2:Int)) (k1 x0 (IntKind.i64.wrap (x1+(1:Int))))
else none) (k2 x0 x1)
theorem aky (c5) (h137:(pX c5).holds cl) (x0 x1):exec cl N B7 (e8 x0 x1) K=(tB c5 (fun y0=>K .ret (e9 y0)) (fun y0 y1=>K .normal (e8 y0 y1)) (fun y0 y1=>K (.exit 0) (e8 y0 y1)) x0 x1):=by
 rw [←aI h137]
 kernel_rfl
def ra {R:Type} (c5:Int→Option (Bool)) (k0:Int→Option R) (k1:aN→Int→Option R):Nat→aN→Int→Option R
 | 0,_,_=>none
 | m+1,x0,x1=>(tB c5 k0 (ra c5 k0 k1 m) k1 x0 x1)
theorem adl (c5) (h137:(pX c5).holds cl):∀ (m) (x0 x1),iter [1,4] (fun env K=>exec cl N B7 env K) K m (e8 x0 x1)=ra c5 (fun y0=>K .ret (e9 y0)) (fun y0 y1=>K (.exit 0) (e8 y0 y1)) m x0 x1:=by
 intro m
 induction m with
 | zero=>intros; rfl
 | succ m ih=>
   intro x0 x1
   simp only [bS,aky c5 h137,bU,bT,bV,S9,ih]
   rfl
theorem ZX (x0):ah [2] (e9 x0)=[(2,.v U2 x0)]:=by kernel_rfl
theorem ZY (x0 x1):ah [2] (e8 x0 x1)=[(2,.dead)]:=by kernel_rfl
def tC (N:Nat) (c5:Int→Option (Bool)) (k0:Int→Option R) (k1:Option R) (x0:aN) (x1:Int):Option R:=
ra c5 k0 (fun y0 y1=>k1) N x0 x1
theorem akz (c5) (h137:(pX c5).holds cl) (x0 x1):exec cl N B8 (e8 x0 x1) K=(tC N c5 (fun y0=>K .ret [(2,.v U2 y0)]) (K (.exit 0) [(2,.dead)]) x0 x1):=by
 simp only [B8,aP,bR,S9,adl c5 h137,ZX,ZY]
 rfl
theorem ZZ (x0):ah [2] [(2,.v U2 x0)]=[(2,.v U2 x0)]:=by kernel_rfl
theorem Z0:ah [2] [(2,.dead)]=[(2,.dead)]:=by kernel_rfl
def tD (k0:Int→Option R):Option R:=
k0 (0:Int)
theorem akA:exec cl N Kg [(2,.dead)] K=(tD (fun y0=>K .ret [(2,.v U2 y0)])):=by
 kernel_rfl
def tH (N:Nat) (c5:Int→Option (Bool)) (k0:Int→Option R) (k1:Int→Option R) (x0:aN):Option R:=
(tG k0 (tF k0 (tA (tC N c5 k1 (tD k1)))) x0)
theorem akD (c5) (h137:(pX c5).holds cl) (x0):exec cl N xn [(0,.v ay x0)] K=(tH N c5 (fun y0=>K .ret (e7 y0)) (fun y0=>K .ret [(2,.v U2 y0)]) x0):=by
 simp only [bJ,bL,bK,bM,akC,akB,xm,Kf,akx,Ke,aP,b6,akz c5 h137,bZ,b5,bY,ZZ,Z0,akA]
 rfl
theorem agn (y0):af d117 .ret (e7 y0)=some [.v U2 y0]:=by kernel_rfl
theorem ago (y0):af d117 .ret [(2,.v U2 y0)]=some [.v U2 y0]:=by kernel_rfl
def qz (N:Nat) (c5:Int→Option (Bool)) (x0:aN) (k:Int→Option R):Option R:=
(tH N c5 k k x0)
theorem WN (c5) (h137:(pX c5).holds cl) (x0) (k:List E→Option R):exec cl N B6 [(0,.v ay x0)] (fun e env=>(af d117 e env).bind k)=qz N c5 x0 (fun r0=>k [.v U2 r0]):=by
 simp only [B6,akD c5 h137,agn,ago,al]
 rfl
def l8 (S:aN→Option (Int)):aJ:=cA 117 ay S fun b=> [.v U2 b]
def bF (N:Nat) (x0:aN):Option (Int):=qz N (c5 N) x0 (fun (r0:Int)=>some (r0))
def Qc (k0:V3→aN→Int→Option R) (x0:V3):Option R:=
k0 x0 ((0:Int),((0:Int),([],()))) (0:Int)
theorem als (x0):exec cl N xE [(0,.v .str x0)] K=(Qc (fun y0 y1 y2=>exec cl N xD (jW y0 y1 y2) K) x0):=by
 delta xE
 generalize xD=q
 revert q
 refine id ?_
 intro q
 kernel_rfl
theorem AJ (x0 x1 x2):ah [0,2,4] (jW x0 x1 x2)=(jW x0 x1 x2):=by kernel_rfl
def P9 (k0:V3→aN→Int→Option R) (k1:V3→aN→Int→Option R) (x0:V3) (x1:aN) (x2:Int):Option R:=
ae (decide (x2 < (x0.length:Int))) (if 0≤x2∧x2 < (x0.length:Int) then
ae (((x0.getD x2.toNat 0).toNat:Int) != (47:Int)) (k0 x0 x1 (IntKind.i64.wrap (x2+(1:Int)))) (k1 x0 x1 x2)
else none) (k1 x0 x1 x2)
theorem alp (x0 x1 x2):exec cl N CE (jW x0 x1 x2) K=(P9 (fun y0 y1 y2=>K .normal (jW y0 y1 y2)) (fun y0 y1 y2=>K (.exit 0) (jW y0 y1 y2)) x0 x1 x2):=by
 kernel_rfl
def Iv {R:Type} (k0:V3→aN→Int→Option R):Nat→V3→aN→Int→Option R
 | 0,_,_,_=>none
 | m+1,x0,x1,x2=>(P9 (Iv k0 m) k0 x0 x1 x2)
theorem ads:∀ (m) (x0 x1 x2),iter [0,2,4] (fun env K=>exec cl N CE env K) K m (jW x0 x1 x2)=Iv (fun y0 y1 y2=>K (.exit 0) (jW y0 y1 y2)) m x0 x1 x2:=by
 intro m
 induction m with
 | zero=>intros; rfl
 | succ m ih=>
   intro x0 x1 x2
   simp only [bS,alp,bU,bT,bV,AJ,ih]
   rfl
def Qa (N:Nat) (k0:V3→aN→Int→Option R) (x0:V3) (x1:aN) (x2:Int):Option R:=
Iv k0 N x0 x1 x2
theorem alq (x0 x1 x2):exec cl N CF (jW x0 x1 x2) K=(Qa N (fun y0 y1 y2=>K (.exit 0) (jW y0 y1 y2)) x0 x1 x2):=by
 simp only [CF,aP,bR,AJ,ads,AJ]
 rfl
def Qb (k0:aN→Bool→Option R) (k1:aN→V3→aN→Option R) (x0:V3) (x1:aN) (x2:Int):Option R:=
ae (decide (x2 < (x0.length:Int))) (let v280:Int:=(IntKind.i64.wrap (x2+(1:Int)))
if 0≤v280∧v280≤(x0.length:Int)∧(x0.length:Int)≤(x0.length:Int) then
let v281:V3:=((x0.drop v280.toNat).take ((x0.length:Int).toNat - v280.toNat))
ae (v281==([]:List UInt8)) (k0 ((0:Int),(0:Int),[],()) false) (if 0≤(0:Int)∧(0:Int)≤x2∧x2≤(x0.length:Int) then
k1 x1 v281 ((0:Int),(0:Int),((x0.drop (0:Int).toNat).take (x2.toNat - (0:Int).toNat)),())
else none)
else none) (ae (([]:List UInt8)==([]:List UInt8)) (k0 ((0:Int),(0:Int),[],()) false) (if 0≤(0:Int)∧(0:Int)≤x2∧x2≤(x0.length:Int) then
k1 x1 ([]:List UInt8) ((0:Int),(0:Int),((x0.drop (0:Int).toNat).take (x2.toNat - (0:Int).toNat)),())
else none))
theorem alr (x0 x1 x2):exec cl N CG (jW x0 x1 x2) K=(Qb (fun y0 y1=>K .ret (Ge y0 y1)) (fun y0 y1 y2=>exec cl N xF (nE y0 y1 y2) K) x0 x1 x2):=by
 delta CG
 generalize xF=q
 revert q
 refine id ?_
 intro q
 kernel_rfl
def Qe (k0:aN→V3→aN→Int→Option R) (x0:aN) (x1:V3) (x2:aN):Option R:=
k0 x0 x1 x2 (1:Int)
theorem alv (x0 x1 x2):exec cl N KT (nE x0 x1 x2) K=(Qe (fun y0 y1 y2 y3=>K .normal (kB y0 y1 y2 y3)) x0 x1 x2):=by
 kernel_rfl
theorem Tg (x0 x1 x2 x3):ah [2,5,6,7] (kB x0 x1 x2 x3)=(kB x0 x1 x2 x3):=by kernel_rfl
def Qf (da:Option V6) (k0:aN→V3→aN→Int→Option R) (k1:aN→V3→aN→Int→Option R) (x0:aN) (x1:V3) (x2:aN) (x3:Int):Option R:=
(da).bind fun r290=>
ae (decide (x3 < (r290.length:Int))) ((da).bind fun r292=>
if 0≤x3∧x3 < (r292.length:Int) then
if 0≤(0:Int)∧(0:Int) < (x1.length:Int) then
ae (((r292.getD x3.toNat 0).toNat:Int)==((x1.getD (0:Int).toNat 0).toNat:Int)) (k0 x0 x1 (x3,x2.2) (IntKind.i64.wrap (x3+(1:Int)))) (k0 x0 x1 x2 (IntKind.i64.wrap (x3+(1:Int))))
else none
else none) (k1 x0 x1 x2 x3)
theorem alw (da) (h148:(nx da).holds cl) (x0 x1 x2 x3):exec cl N CH (kB x0 x1 x2 x3) K=(Qf da (fun y0 y1 y2 y3=>K .normal (kB y0 y1 y2 y3)) (fun y0 y1 y2 y3=>K (.exit 2) (kB y0 y1 y2 y3)) x0 x1 x2 x3):=by
 rw [←aI h148]
 kernel_rfl
def Iw {R:Type} (da:Option V6) (k0:aN→V3→aN→Int→Option R):Nat→aN→V3→aN→Int→Option R
 | 0,_,_,_,_=>none
 | m+1,x0,x1,x2,x3=>(Qf da (Iw da k0 m) k0 x0 x1 x2 x3)
theorem adt (da) (h148:(nx da).holds cl):∀ (m) (x0 x1 x2 x3),iter [2,5,6,7] (fun env K=>exec cl N CH env K) K m (kB x0 x1 x2 x3)=Iw da (fun y0 y1 y2 y3=>K (.exit 2) (kB y0 y1 y2 y3)) m x0 x1 x2 x3:=by
 intro m
 induction m with
 | zero=>intros; rfl
 | succ m ih=>
   intro x0 x1 x2 x3
   simp only [bS,alw da h148,bU,bT,bV,Tg,ih]
   rfl
theorem aal (x0 x1 x2 x3):ah [2,5,6] (kB x0 x1 x2 x3)=(nE x0 x1 x2):=by kernel_rfl
def Qg (N:Nat) (da:Option V6) (k0:aN→V3→aN→Option R) (x0:aN) (x1:V3) (x2:aN) (x3:Int):Option R:=
Iw da (fun y0 y1 y2 y3=>k0 y0 y1 y2) N x0 x1 x2 x3
theorem alx (da) (h148:(nx da).holds cl) (x0 x1 x2 x3):exec cl N CI (kB x0 x1 x2 x3) K=(Qg N da (fun y0 y1 y2=>K (.exit 2) (nE y0 y1 y2)) x0 x1 x2 x3):=by
 simp only [CI,aP,bR,Tg,adt da h148,aal]
 rfl
theorem aam (x0 x1 x2):ah [2,5,6] (nE x0 x1 x2)=(nE x0 x1 x2):=by kernel_rfl
def Qh (eY:aN→Option (Bool)) (bF:aN→Option (Int)) (k0:aN→Bool→Option R) (x0:aN) (x1:V3) (x2:aN):Option R:=
if 0≤(1:Int)∧(1:Int)≤(x1.length:Int)∧(x1.length:Int)≤(x1.length:Int) then
let v298:V3:=((x1.drop (1:Int).toNat).take ((x1.length:Int).toNat - (1:Int).toNat))
(eY x2).bind fun r299=>
ae r299 (ae ((v298.length:Int)==(1:Int)) (if 0≤(0:Int)∧(0:Int) < (v298.length:Int) then
ae (decide (((v298.getD (0:Int).toNat 0).toNat:Int)≥(49:Int))) (if 0≤(0:Int)∧(0:Int) < (v298.length:Int) then
ae (decide (((v298.getD (0:Int).toNat 0).toNat:Int)≤(51:Int))) (if 0≤(0:Int)∧(0:Int) < (v298.length:Int) then
let v307:Int:=(IntKind.i64.wrap ((IntKind.i64.wrap ((v298.getD (0:Int).toNat 0).toNat:Int)) - (48:Int)))
ae (([]:List UInt8)==([]:List UInt8)) ((bF (x2.1,(v307,x2.2.2))).bind fun r309=>
k0 (x2.1,(v307,x2.2.2)) (r309==(0:Int))) (k0 (x2.1,(v307,x2.2.2)) false)
else none) (ae (v298==([]:List UInt8)) ((bF x2).bind fun r312=>
k0 x2 (r312==(0:Int))) (k0 x2 false))
else none) (ae (v298==([]:List UInt8)) ((bF x2).bind fun r315=>
k0 x2 (r315==(0:Int))) (k0 x2 false))
else none) (ae (v298==([]:List UInt8)) ((bF x2).bind fun r318=>
k0 x2 (r318==(0:Int))) (k0 x2 false))) (ae (v298==([]:List UInt8)) ((bF x2).bind fun r321=>
k0 x2 (r321==(0:Int))) (k0 x2 false))
else none
theorem aly (eY) (bF) (h114:(zk eY).holds cl) (h117:(l8 bF).holds cl) (x0 x1 x2):exec cl N KW (nE x0 x1 x2) K=(Qh eY bF (fun y0 y1=>K .ret (Gp y0 y1)) x0 x1 x2):=by
 rw [←aI h114]
 rw [←aI h117]
 kernel_rfl
def Qd (N:Nat) (eY:aN→Option (Bool)) (bF:aN→Option (Int)) (da:Option V6) (k0:aN→Bool→Option R) (k1:aN→Bool→Option R) (x0:V3):Option R:=
(Qc (Qa N ((Qb k0 (Qe (Qg N da ((Qh eY bF k1))))))) x0)
theorem alu (eY) (bF) (da) (h114:(zk eY).holds cl) (h117:(l8 bF).holds cl) (h148:(nx da).holds cl) (x0):exec cl N xE [(0,.v .str x0)] K=(Qd N eY bF da (fun y0 y1=>K .ret (Ge y0 y1)) (fun y0 y1=>K .ret (Gp y0 y1)) x0):=by
 simp only [bJ,bL,bK,bM,als,xD,KS,aP,b6,alq,bZ,b5,bY,AJ,alr,xF,KV,alv,KU,alx da h148,aam,aly eY bF h114 h117]
 rfl
theorem agL (y0 y1):af d139 .ret (Ge y0 y1)=some [.v ay y0,.v .bool y1]:=by kernel_rfl
theorem agM (y0 y1):af d139 .ret (Gp y0 y1)=some [.v ay y0,.v .bool y1]:=by kernel_rfl
def Hm (N:Nat) (eY:aN→Option (Bool)) (bF:aN→Option (Int)) (da:Option V6) (x0:V3) (k:aN→Bool→Option R):Option R:=
(Qd N eY bF da k k x0)
theorem W6 (eY) (bF) (da) (h114:(zk eY).holds cl) (h117:(l8 bF).holds cl) (h148:(nx da).holds cl) (x0) (k:List E→Option R):exec cl N CD [(0,.v .str x0)] (fun e env=>(af d139 e env).bind k)=Hm N eY bF da x0 (fun r0 r1=>k [.v ay r0,.v .bool r1]):=by
 simp only [CD,alu eY bF da h114 h117 h148,agL,agM,al]
 rfl
def pY (S:V3→Option nq):aJ:=cA 139 .str S fun b=> [.v ay b.1,.v .bool b.2]
def dq (N:Nat) (x0:V3):Option nq:=Hm N (eY N) (bF N) (da N) x0 (fun (r0:aN) (r1:Bool)=>some (r0,r1))
def PM (fB:V3→Option fo) (k0:ar→Int→Option R) (k1:ar→aC→Option R) (x0:V3):Option R:=
ae (decide ((x0.length:Int) > (4000:Int))) (k0 [] (3:Int)) (ae (x0==([]:List UInt8)) (k0 [] (0:Int)) ((fB x0).bind fun r328=>
k1 [] r328))
theorem akI (fB) (h138:(zq fB).holds cl) (x0):exec cl N xr [(0,.v .str x0)] K=(PM fB (fun y0 y1=>K .ret (Gs y0 y1)) (fun y0 y1=>exec cl N xp [(4,.own true 40 ay .no y0),(5,.own true 9 .str .no y1)] K) x0):=by
 rw [←aI h138]
 delta xr
 generalize xp=q
 revert q
 refine id ?_
 intro q
 kernel_rfl
def PI (k0:ar→aC→Int→Option R) (x0:ar) (x1:aC):Option R:=
k0 x0 x1 (0:Int)
theorem akE (x0 x1):exec cl N Kh [(4,.own true 40 ay .no x0),(5,.own true 9 .str .no x1)] K=(PI (fun y0 y1 y2=>K .normal (kM y0 y1 y2)) x0 x1):=by
 kernel_rfl
theorem Ta (x0 x1 x2):ah [4,5,6] (kM x0 x1 x2)=(kM x0 x1 x2):=by kernel_rfl
def PJ (dq:V3→Option nq) (k0:ar→Int→Option R) (k1:ar→aC→Int→Option R) (k2:ar→aC→Int→Option R) (x0:ar) (x1:aC) (x2:Int):Option R:=
ae (decide (x2 < (x1.length:Int))) (if 0≤x2∧x2 < (x1.length:Int) then
if x2.toNat < x1.length then
(dq (x1.getD x2.toNat [])).bind fun r331=>
ae (!r331.2) (k0 [] (2:Int)) (if x0.length+[r331.1].length≤4398046511104 then
k1 (x0++[r331.1]) x1 (IntKind.i64.wrap (x2+(1:Int)))
else none)
else none
else none) (k2 x0 x1 x2)
theorem akF (dq) (h139:(pY dq).holds cl) (x0 x1 x2):exec cl N Ca (kM x0 x1 x2) K=(PJ dq (fun y0 y1=>K .ret (Gw y0 y1)) (fun y0 y1 y2=>K .normal (kM y0 y1 y2)) (fun y0 y1 y2=>K (.exit 0) (kM y0 y1 y2)) x0 x1 x2):=by
 rw [←aI h139]
 kernel_rfl
def Ir {R:Type} (dq:V3→Option nq) (k0:ar→Int→Option R) (k1:ar→aC→Int→Option R):Nat→ar→aC→Int→Option R
 | 0,_,_,_=>none
 | m+1,x0,x1,x2=>(PJ dq k0 (Ir dq k0 k1 m) k1 x0 x1 x2)
theorem adm (dq) (h139:(pY dq).holds cl):∀ (m) (x0 x1 x2),iter [4,5,6] (fun env K=>exec cl N Ca env K) K m (kM x0 x1 x2)=Ir dq (fun y0 y1=>K .ret (Gw y0 y1)) (fun y0 y1 y2=>K (.exit 0) (kM y0 y1 y2)) m x0 x1 x2:=by
 intro m
 induction m with
 | zero=>intros; rfl
 | succ m ih=>
   intro x0 x1 x2
   simp only [bS,akF dq h139,bU,bT,bV,Ta,ih]
   rfl
theorem Z1 (x0 x1):ah [2,3,4] (Gw x0 x1)=(nH x0 x1):=by kernel_rfl
theorem Z2 (x0 x1 x2):ah [2,3,4] (kM x0 x1 x2)=(s5 x0):=by kernel_rfl
def PK (N:Nat) (dq:V3→Option nq) (k0:ar→Int→Option R) (k1:ar→Option R) (x0:ar) (x1:aC) (x2:Int):Option R:=
Ir dq k0 (fun y0 y1 y2=>k1 y0) N x0 x1 x2
theorem akG (dq) (h139:(pY dq).holds cl) (x0 x1 x2):exec cl N Cb (kM x0 x1 x2) K=(PK N dq (fun y0 y1=>K .ret (nH y0 y1)) (fun y0=>K (.exit 0) (s5 y0)) x0 x1 x2):=by
 simp only [Cb,aP,bR,Ta,adm dq h139,Z1,Z2]
 rfl
theorem Z3 (x0 x1):ah [2,3,4] (nH x0 x1)=(nH x0 x1):=by kernel_rfl
theorem Z4 (x0):ah [2,3,4] (s5 x0)=(s5 x0):=by kernel_rfl
def PL (k0:ar→Int→Option R) (k1:Int→ar→Option R) (x0:ar):Option R:=
ae (decide ((x0.length:Int) > (200:Int))) (k0 [] (2:Int)) (k1 (0:Int) x0)
theorem akH (x0):exec cl N Kk (s5 x0) K=(PL (fun y0 y1=>K .ret (nH y0 y1)) (fun y0 y1=>K .ret (Gx y0 y1)) x0):=by
 kernel_rfl
def PN (N:Nat) (fB:V3→Option fo) (dq:V3→Option nq) (k0:ar→Int→Option R) (k1:ar→Int→Option R) (k2:Int→ar→Option R) (x0:V3):Option R:=
(PM fB k0 (PI (PK N dq k1 ((PL k1 k2)))) x0)
theorem akJ (fB) (dq) (h138:(zq fB).holds cl) (h139:(pY dq).holds cl) (x0):exec cl N xr [(0,.v .str x0)] K=(PN N fB dq (fun y0 y1=>K .ret (Gs y0 y1)) (fun y0 y1=>K .ret (nH y0 y1)) (fun y0 y1=>K .ret (Gx y0 y1)) x0):=by
 simp only [bJ,bL,bK,bM,akI fB h138,xp,Kj,akE,Ki,aP,b6,akG dq h139,bZ,b5,bY,Z3,Z4,akH]
 rfl
theorem agp (y0 y1):af d118 .ret (Gs y0 y1)=some [.own true 40 ay .no y0,.v U2 y1]:=by kernel_rfl
theorem agq (y0 y1):af d118 .ret (nH y0 y1)=some [.own true 40 ay .no y0,.v U2 y1]:=by kernel_rfl
theorem agr (y0 y1):af d118 .ret (Gx y0 y1)=some [.own true 40 ay .no y1,.v U2 y0]:=by kernel_rfl
def G8 (N:Nat) (fB:V3→Option fo) (dq:V3→Option nq) (x0:V3) (k:ar→Int→Option R):Option R:=
(PN N fB dq k k (fun y0 y1=>k y1 y0) x0)
theorem WO (fB) (dq) (h138:(zq fB).holds cl) (h139:(pY dq).holds cl) (x0) (k:List E→Option R):exec cl N B9 [(0,.v .str x0)] (fun e env=>(af d118 e env).bind k)=G8 N fB dq x0 (fun r0 r1=>k [.own true 40 ay .no r0,.v U2 r1]):=by
 simp only [B9,akJ fB dq h138 h139,agp,agq,agr,al]
 rfl
def zn (S:V3→Option je):aJ:=cA 118 .str S fun b=> [.own true 40 ay .no b.1,.v U2 b.2]
def fx (N:Nat) (x0:V3):Option je:=G8 N (fB N) (dq N) x0 (fun (r0:ar) (r1:Int)=>some (r0,r1))
def Hj (k0:Bool→Option R) (x0:Int):Option R:=
ae (decide (x0≥(48:Int))) (k0 (decide (x0≤(57:Int)))) (k0 false)
theorem alg (x0):exec cl N KM [(0,.v U0 x0)] K=(Hj (fun y0=>K .ret [(2,.v .bool y0)]) x0):=by
 kernel_rfl
theorem agI (y0):af d136 .ret [(2,.v .bool y0)]=some [.v .bool y0]:=by kernel_rfl
def Aa (x0:Int) (k:Bool→Option R):Option R:=
(Hj k x0)
theorem W3 (x0) (k:List E→Option R):exec cl N Cy [(0,.v U0 x0)] (fun e env=>(af d136 e env).bind k)=Aa x0 (fun r0=>k [.v .bool r0]):=by
 simp only [Cy,alg,agI,al]
 rfl
def jS (S:Int→Option (Bool)):aJ:=cA 136 U0 S fun b=> [.v .bool b]
def bo (N:Nat) (x0:Int):Option (Bool):=Aa x0 (fun (r0:Bool)=>some (r0))
def Qm (k0:V3→Int→Option R) (x0:V3):Option R:=
k0 x0 (0:Int)
theorem alD (x0):exec cl N xH [(0,.v .str x0)] K=(Qm (fun y0 y1=>exec cl N xG (cL y0 y1) K) x0):=by
 delta xH
 generalize xG=q
 revert q
 refine id ?_
 intro q
 kernel_rfl
theorem Ti (x0 x1):ah [0,3] (cL x0 x1)=(cL x0 x1):=by kernel_rfl
def Qj (bo:Int→Option (Bool)) (k0:V3→Int→Option R) (k1:V3→Int→Option R) (x0:V3) (x1:Int):Option R:=
ae (decide (x1 < (x0.length:Int))) (if 0≤x1∧x1 < (x0.length:Int) then
(bo ((x0.getD x1.toNat 0).toNat:Int)).bind fun r349=>
ae r349 (k0 x0 (IntKind.i64.wrap (x1+(1:Int)))) (k1 x0 x1)
else none) (k1 x0 x1)
theorem alA (bo) (h136:(jS bo).holds cl) (x0 x1):exec cl N CK (cL x0 x1) K=(Qj bo (fun y0 y1=>K .normal (cL y0 y1)) (fun y0 y1=>K (.exit 0) (cL y0 y1)) x0 x1):=by
 rw [←aI h136]
 kernel_rfl
def Ix {R:Type} (bo:Int→Option (Bool)) (k0:V3→Int→Option R):Nat→V3→Int→Option R
 | 0,_,_=>none
 | m+1,x0,x1=>(Qj bo (Ix bo k0 m) k0 x0 x1)
theorem adu (bo) (h136:(jS bo).holds cl):∀ (m) (x0 x1),iter [0,3] (fun env K=>exec cl N CK env K) K m (cL x0 x1)=Ix bo (fun y0 y1=>K (.exit 0) (cL y0 y1)) m x0 x1:=by
 intro m
 induction m with
 | zero=>intros; rfl
 | succ m ih=>
   intro x0 x1
   simp only [bS,alA bo h136,bU,bT,bV,Ti,ih]
   rfl
theorem aan (x0 x1):ah [3] (cL x0 x1)=[(3,.v U2 x1)]:=by kernel_rfl
def Qk (N:Nat) (bo:Int→Option (Bool)) (k0:Int→Option R) (x0:V3) (x1:Int):Option R:=
Ix bo (fun y0 y1=>k0 y1) N x0 x1
theorem alB (bo) (h136:(jS bo).holds cl) (x0 x1):exec cl N CL (cL x0 x1) K=(Qk N bo (fun y0=>K (.exit 0) [(3,.v U2 y0)]) x0 x1):=by
 simp only [CL,aP,bR,Ti,adu bo h136,aan]
 rfl
theorem aao (x0):ah [3] [(3,.v U2 x0)]=[(3,.v U2 x0)]:=by kernel_rfl
def Ql (k0:Int→Option R) (x0:Int):Option R:=
k0 x0
theorem alC (x0):exec cl N KZ [(3,.v U2 x0)] K=(Ql (fun y0=>K .ret [(2,.v U2 y0)]) x0):=by
 kernel_rfl
def Qn (N:Nat) (bo:Int→Option (Bool)) (k0:Int→Option R) (x0:V3):Option R:=
(Qm (Qk N bo ((Ql k0))) x0)
theorem alE (bo) (h136:(jS bo).holds cl) (x0):exec cl N xH [(0,.v .str x0)] K=(Qn N bo (fun y0=>K .ret [(2,.v U2 y0)]) x0):=by
 simp only [bJ,bL,bK,bM,alD,xG,KY,aP,b6,alB bo h136,bZ,b5,bY,aao,alC]
 rfl
theorem agP (y0):af d140 .ret [(2,.v U2 y0)]=some [.v U2 y0]:=by kernel_rfl
def Hn (N:Nat) (bo:Int→Option (Bool)) (x0:V3) (k:Int→Option R):Option R:=
(Qn N bo k x0)
theorem W7 (bo) (h136:(jS bo).holds cl) (x0) (k:List E→Option R):exec cl N CJ [(0,.v .str x0)] (fun e env=>(af d140 e env).bind k)=Hn N bo x0 (fun r0=>k [.v U2 r0]):=by
 simp only [CJ,alE bo h136,agP,al]
 rfl
def zr (S:V3→Option (Int)):aJ:=cA 140 .str S fun b=> [.v U2 b]
def fD (N:Nat) (x0:V3):Option (Int):=Hn N (bo N) x0 (fun (r0:Int)=>some (r0))
def PT (fD:V3→Option (Int)) (k0:Int→Bool→Option R) (k1:V3→Int→Option R) (x0:V3):Option R:=
ae (x0==([]:List UInt8)) (k0 (0:Int) false) (ae (decide ((x0.length:Int) > (6:Int))) (k0 (0:Int) false) ((fD x0).bind fun r365=>
ae (r365 != (x0.length:Int)) (k0 (0:Int) false) (if 0≤(0:Int)∧(0:Int) < (x0.length:Int) then
ae (((x0.getD (0:Int).toNat 0).toNat:Int)==(48:Int)) (ae (decide ((x0.length:Int) > (1:Int))) (k0 (0:Int) false) (k1 x0 (0:Int))) (k1 x0 (0:Int))
else none)))
theorem akO (fD) (h140:(zr fD).holds cl) (x0):exec cl N xw [(0,.v .str x0)] K=(PT fD (fun y0 y1=>K .ret (Gy y0 y1)) (fun y0 y1=>exec cl N xu [(0,.v .str y0),(4,.v U2 y1)] K) x0):=by
 rw [←aI h140]
 delta xw
 generalize xu=q
 revert q
 refine id ?_
 intro q
 kernel_rfl
def PO (k0:V3→Int→Int→Option R) (x0:V3) (x1:Int):Option R:=
k0 x0 x1 (0:Int)
theorem akK (x0 x1):exec cl N Kl [(0,.v .str x0),(4,.v U2 x1)] K=(PO (fun y0 y1 y2=>K .normal (kS y0 y1 y2)) x0 x1):=by
 kernel_rfl
theorem Tb (x0 x1 x2):ah [0,4,5] (kS x0 x1 x2)=(kS x0 x1 x2):=by kernel_rfl
def PQ (k0:V3→Int→Int→Option R) (k1:V3→Int→Int→Option R) (x0:V3) (x1 x2:Int):Option R:=
ae (decide (x2 < (x0.length:Int))) (if 0≤x2∧x2 < (x0.length:Int) then
k0 x0 (IntKind.i64.wrap ((IntKind.i64.wrap ((10:Int) * x1))+(IntKind.i64.wrap (IntKind.u8.wrap (((x0.getD x2.toNat 0).toNat:Int) - (48:Int)))))) (IntKind.i64.wrap (x2+(1:Int)))
else none) (k1 x0 x1 x2)
theorem akL (x0 x1 x2):exec cl N Cd (kS x0 x1 x2) K=(PQ (fun y0 y1 y2=>K .normal (kS y0 y1 y2)) (fun y0 y1 y2=>K (.exit 0) (kS y0 y1 y2)) x0 x1 x2):=by
 kernel_rfl
def Is {R:Type} (k0:V3→Int→Int→Option R):Nat→V3→Int→Int→Option R
 | 0,_,_,_=>none
 | m+1,x0,x1,x2=>(PQ (Is k0 m) k0 x0 x1 x2)
theorem adn:∀ (m) (x0 x1 x2),iter [0,4,5] (fun env K=>exec cl N Cd env K) K m (kS x0 x1 x2)=Is (fun y0 y1 y2=>K (.exit 0) (kS y0 y1 y2)) m x0 x1 x2:=by
 intro m
 induction m with
 | zero=>intros; rfl
 | succ m ih=>
   intro x0 x1 x2
   simp only [bS,akL,bU,bT,bV,Tb,ih]
   rfl
theorem Z5 (x0 x1 x2):ah [4] (kS x0 x1 x2)=[(4,.v U2 x1)]:=by kernel_rfl
def PR (N:Nat) (k0:Int→Option R) (x0:V3) (x1 x2:Int):Option R:=
Is (fun y0 y1 y2=>k0 y1) N x0 x1 x2
theorem akM (x0 x1 x2):exec cl N Ce (kS x0 x1 x2) K=(PR N (fun y0=>K (.exit 0) [(4,.v U2 y0)]) x0 x1 x2):=by
 simp only [Ce,aP,bR,Tb,adn,Z5]
 rfl
theorem Z6 (x0):ah [4] [(4,.v U2 x0)]=[(4,.v U2 x0)]:=by kernel_rfl
def PS (k0:Int→Bool→Option R) (x0:Int):Option R:=
k0 x0 true
theorem akN (x0):exec cl N Ko [(4,.v U2 x0)] K=(PS (fun y0 y1=>K .ret [(2,.v U2 y0),(3,.v .bool y1)]) x0):=by
 kernel_rfl
def PU (N:Nat) (fD:V3→Option (Int)) (k0:Int→Bool→Option R) (k1:Int→Bool→Option R) (x0:V3):Option R:=
(PT fD k0 (PO (PR N ((PS k1)))) x0)
theorem akP (fD) (h140:(zr fD).holds cl) (x0):exec cl N xw [(0,.v .str x0)] K=(PU N fD (fun y0 y1=>K .ret (Gy y0 y1)) (fun y0 y1=>K .ret [(2,.v U2 y0),(3,.v .bool y1)]) x0):=by
 simp only [bJ,bL,bK,bM,akO fD h140,xu,Kn,akK,Km,aP,b6,akM,bZ,b5,bY,Z6,akN]
 rfl
theorem ags (y0 y1):af d119 .ret (Gy y0 y1)=some [.v U2 y0,.v .bool y1]:=by kernel_rfl
theorem agt (y0 y1):af d119 .ret [(2,.v U2 y0),(3,.v .bool y1)]=some [.v U2 y0,.v .bool y1]:=by kernel_rfl
def G9 (N:Nat) (fD:V3→Option (Int)) (x0:V3) (k:Int→Bool→Option R):Option R:=
(PU N fD k k x0)
theorem WQ (fD) (h140:(zr fD).holds cl) (x0) (k:List E→Option R):exec cl N Cc [(0,.v .str x0)] (fun e env=>(af d119 e env).bind k)=G9 N fD x0 (fun r0 r1=>k [.v U2 r0,.v .bool r1]):=by
 simp only [Cc,akP fD h140,ags,agt,al]
 rfl
def zo (S:V3→Option V5):aJ:=cA 119 .str S fun b=> [.v U2 b.1,.v .bool b.2]
def fy (N:Nat) (x0:V3):Option V5:=G9 N (fD N) x0 (fun (r0:Int) (r1:Bool)=>some (r0,r1))
def PV (k0:V3→Option R) (x0:Int):Option R:=
if 0≤x0∧x0 < ([([97,110,121,119,104,101,114,101]:List UInt8),([98,101,102,111,114,101]:List UInt8),([115,116,97,114,116]:List UInt8),([98,101,116,119,101,101,110]:List UInt8),([110,111,116]:List UInt8)].length:Int) then
if x0.toNat < [([97,110,121,119,104,101,114,101]:List UInt8),([98,101,102,111,114,101]:List UInt8),([115,116,97,114,116]:List UInt8),([98,101,116,119,101,101,110]:List UInt8),([110,111,116]:List UInt8)].length then
k0 ([([97,110,121,119,104,101,114,101]:List UInt8),([98,101,102,111,114,101]:List UInt8),([115,116,97,114,116]:List UInt8),([98,101,116,119,101,101,110]:List UInt8),([110,111,116]:List UInt8)].getD x0.toNat [])
else none
else none
theorem akR (x0):exec cl N Kq [(0,.v U2 x0)] K=(PV (fun y0=>K .ret [(2,.v .str y0)]) x0):=by
 kernel_rfl
theorem agw (y0):af d120 .ret [(2,.v .str y0)]=some [.v .str y0]:=by kernel_rfl
def Hb (x0:Int) (k:V3→Option R):Option R:=
(PV k x0)
theorem WS (x0) (k:List E→Option R):exec cl N Cg [(0,.v U2 x0)] (fun e env=>(af d120 e env).bind k)=Hb x0 (fun r0=>k [.v .str r0]):=by
 simp only [Cg,akR,agw,al]
 rfl
def pT (S:Int→Option V6):aJ:=cA 120 U2 S fun b=> [.v .str b]
def dp (N:Nat) (x0:Int):Option V6:=Hb x0 (fun (r0:V3)=>some (r0))
def Sg (bG:V3→Option fo) (k0:aO→Bool→Option R) (k1:aO→aC→V3→Option R) (x0:V3):Option R:=
(bG x0).bind fun r389=>
ae (decide ((r389.length:Int) < (4:Int))) (k0 ([],[],(0:Int),(0:Int),()) false) (if 0≤(1:Int)∧(1:Int) < (r389.length:Int) then
if ((1:Int).toNat) < r389.length then
k1 ([],([],((0:Int),((0:Int),())))) r389 (r389.getD ((1:Int).toNat) [])
else none
else none)
theorem ap4 (bG) (h93:(kp bG).holds cl) (x0):exec cl N yZ [(0,.v .str x0)] K=(Sg bG (fun y0 y1=>K .ret (Gz y0 y1)) (fun y0 y1 y2=>exec cl N yY (nI y0 y1 y2) K) x0):=by
 rw [←aI h93]
 delta yZ
 generalize yY=q
 revert q
 refine id ?_
 intro q
 kernel_rfl
def Sc (k0:aO→aC→V3→Int→Option R) (x0:aO) (x1:aC) (x2:V3):Option R:=
k0 x0 x1 x2 (2:Int)
theorem ap0 (x0 x1 x2):exec cl N Oo (nI x0 x1 x2) K=(Sc (fun y0 y1 y2 y3=>K .normal (kT y0 y1 y2 y3)) x0 x1 x2):=by
 kernel_rfl
theorem TQ (x0 x1 x2 x3):ah [2,4,5,6] (kT x0 x1 x2 x3)=(kT x0 x1 x2 x3):=by kernel_rfl
def Sd (k0:aO→aC→V3→Int→Option R) (k1:aO→aC→V3→Int→Option R) (x0:aO) (x1:aC) (x2:V3) (x3:Int):Option R:=
ae (decide (x3 < (IntKind.i64.wrap ((x1.length:Int) - (2:Int))))) (if x2.length+([32]:List UInt8).length≤140737488355328 then
let v394:V3:=(x2++([32]:List UInt8))
if 0≤x3∧x3 < (x1.length:Int) then
if x3.toNat < x1.length then
if v394.length+(x1.getD x3.toNat []).length≤140737488355328 then
k0 x0 x1 (v394++(x1.getD x3.toNat [])) (IntKind.i64.wrap (x3+(1:Int)))
else none
else none
else none
else none) (k1 x0 x1 x2 x3)
theorem ap1 (x0 x1 x2 x3):exec cl N E9 (kT x0 x1 x2 x3) K=(Sd (fun y0 y1 y2 y3=>K .normal (kT y0 y1 y2 y3)) (fun y0 y1 y2 y3=>K (.exit 0) (kT y0 y1 y2 y3)) x0 x1 x2 x3):=by
 kernel_rfl
def IN {R:Type} (k0:aO→aC→V3→Int→Option R):Nat→aO→aC→V3→Int→Option R
 | 0,_,_,_,_=>none
 | m+1,x0,x1,x2,x3=>(Sd (IN k0 m) k0 x0 x1 x2 x3)
theorem ad6:∀ (m) (x0 x1 x2 x3),iter [2,4,5,6] (fun env K=>exec cl N E9 env K) K m (kT x0 x1 x2 x3)=IN (fun y0 y1 y2 y3=>K (.exit 0) (kT y0 y1 y2 y3)) m x0 x1 x2 x3:=by
 intro m
 induction m with
 | zero=>intros; rfl
 | succ m ih=>
   intro x0 x1 x2 x3
   simp only [bS,ap1,bU,bT,bV,TQ,ih]
   rfl
theorem aco (x0 x1 x2 x3):ah [2,4,5] (kT x0 x1 x2 x3)=(nI x0 x1 x2):=by kernel_rfl
def Si (N:Nat) (k0:aO→aC→V3→Option R) (x0:aO) (x1:aC) (x2:V3) (x3:Int):Option R:=
IN (fun y0 y1 y2 y3=>k0 y0 y1 y2) N x0 x1 x2 x3
theorem ap6 (x0 x1 x2 x3):exec cl N Fb (kT x0 x1 x2 x3) K=(Si N (fun y0 y1 y2=>K (.exit 0) (nI y0 y1 y2)) x0 x1 x2 x3):=by
 simp only [Fb,aP,bR,TQ,ad6,aco]
 rfl
theorem acp (x0 x1 x2):ah [2,4,5] (nI x0 x1 x2)=(nI x0 x1 x2):=by kernel_rfl
def Sf (fx:V3→Option je) (fy:V3→Option V5) (k0:aO→Bool→Option R) (k1:aO→aC→ar→Int→Option R) (x0:aO) (x1:aC) (x2:V3):Option R:=
(fx x2).bind fun r398=>
let v399:Int:=(IntKind.i64.wrap ((x1.length:Int) - (2:Int)))
if 0≤v399∧v399 < (x1.length:Int) then
if v399.toNat < x1.length then
(fy (x1.getD v399.toNat [])).bind fun r401=>
ae (r398.2 != (0:Int)) (k0 ([],[],(0:Int),(0:Int),()) false) (ae (!r401.2) (k0 ([],[],(0:Int),(0:Int),()) false) (k1 x0 x1 r398.1 r401.1))
else none
else none
theorem ap3 (fx) (fy) (h118:(zn fx).holds cl) (h119:(zo fy).holds cl) (x0 x1 x2):exec cl N Fa (nI x0 x1 x2) K=(Sf fx fy (fun y0 y1=>K .ret (GA y0 y1)) (fun y0 y1 y2 y3=>exec cl N yX (Pd y0 y1 y2 y3) K) x0 x1 x2):=by
 rw [←aI h118]
 rw [←aI h119]
 delta Fa
 generalize yX=q
 revert q
 refine id ?_
 intro q
 kernel_rfl
def Sj (k0:aO→aC→ar→Int→Int→Option R) (x0:aO) (x1:aC) (x2:ar) (x3:Int):Option R:=
k0 x0 x1 x2 x3 (0:Int)
theorem ap7 (x0 x1 x2 x3):exec cl N Ov (Pd x0 x1 x2 x3) K=(Sj (fun y0 y1 y2 y3 y4=>K .normal (kU y0 y1 y2 y3 y4)) x0 x1 x2 x3):=by
 kernel_rfl
theorem TR (x0 x1 x2 x3 x4):ah [2,4,7,9,11] (kU x0 x1 x2 x3 x4)=(kU x0 x1 x2 x3 x4):=by kernel_rfl
def Sk (dp:Int→Option V6) (k0:aO→Bool→Option R) (k1:aO→aC→ar→Int→Int→Option R) (k2:aO→aC→ar→Int→Int→Option R) (x0:aO) (x1:aC) (x2:ar) (x3 x4:Int):Option R:=
ae (decide (x4≤(4:Int))) (let v404:Int:=(IntKind.i64.wrap ((x1.length:Int) - (1:Int)))
if 0≤v404∧v404 < (x1.length:Int) then
if v404.toNat < x1.length then
(dp x4).bind fun r406=>
ae ((x1.getD v404.toNat [])==r406) (if 0≤(0:Int)∧(0:Int) < (x1.length:Int) then
if ((0:Int).toNat) < x1.length then
k0 ((x1.getD ((0:Int).toNat) []),x2,x3,x4,()) true
else none
else none) (k1 x0 x1 x2 x3 (IntKind.i64.wrap (x4+(1:Int))))
else none
else none) (k2 x0 x1 x2 x3 x4)
theorem ap8 (dp) (h120:(pT dp).holds cl) (x0 x1 x2 x3 x4):exec cl N Fc (kU x0 x1 x2 x3 x4) K=(Sk dp (fun y0 y1=>K .ret (GB y0 y1)) (fun y0 y1 y2 y3 y4=>K .normal (kU y0 y1 y2 y3 y4)) (fun y0 y1 y2 y3 y4=>K (.exit 2) (kU y0 y1 y2 y3 y4)) x0 x1 x2 x3 x4):=by
 rw [←aI h120]
 kernel_rfl
def IP {R:Type} (dp:Int→Option V6) (k0:aO→Bool→Option R) (k1:aO→aC→ar→Int→Int→Option R):Nat→aO→aC→ar→Int→Int→Option R
 | 0,_,_,_,_,_=>none
 | m+1,x0,x1,x2,x3,x4=>(Sk dp k0 (IP dp k0 k1 m) k1 x0 x1 x2 x3 x4)
theorem ad7 (dp) (h120:(pT dp).holds cl):∀ (m) (x0 x1 x2 x3 x4),iter [2,4,7,9,11] (fun env K=>exec cl N Fc env K) K m (kU x0 x1 x2 x3 x4)=IP dp (fun y0 y1=>K .ret (GB y0 y1)) (fun y0 y1 y2 y3 y4=>K (.exit 2) (kU y0 y1 y2 y3 y4)) m x0 x1 x2 x3 x4:=by
 intro m
 induction m with
 | zero=>intros; rfl
 | succ m ih=>
   intro x0 x1 x2 x3 x4
   simp only [bS,ap8 dp h120,bU,bT,bV,TR,ih]
   rfl
theorem acq (x0 x1):ah [2,3] (GB x0 x1)=(qk x0 x1):=by kernel_rfl
theorem acr (x0 x1 x2 x3 x4):ah [2,3] (kU x0 x1 x2 x3 x4)=(s6 x0):=by kernel_rfl
def Sl (N:Nat) (dp:Int→Option V6) (k0:aO→Bool→Option R) (k1:aO→Option R) (x0:aO) (x1:aC) (x2:ar) (x3 x4:Int):Option R:=
IP dp k0 (fun y0 y1 y2 y3 y4=>k1 y0) N x0 x1 x2 x3 x4
theorem ap9 (dp) (h120:(pT dp).holds cl) (x0 x1 x2 x3 x4):exec cl N Fe (kU x0 x1 x2 x3 x4) K=(Sl N dp (fun y0 y1=>K .ret (qk y0 y1)) (fun y0=>K (.exit 2) (s6 y0)) x0 x1 x2 x3 x4):=by
 simp only [Fe,aP,bR,TR,ad7 dp h120,acq,acr]
 rfl
theorem acs (x0 x1):ah [2,3] (qk x0 x1)=(qk x0 x1):=by kernel_rfl
theorem acu (x0):ah [2,3] (s6 x0)=(s6 x0):=by kernel_rfl
def Se (k0:aO→Bool→Option R) (x0:aO):Option R:=
k0 ([],[],(0:Int),(0:Int),()) false
theorem ap2 (x0):exec cl N Oq (s6 x0) K=(Se (fun y0 y1=>K .ret (GC y0 y1)) x0):=by
 kernel_rfl
def Sh (N:Nat) (bG:V3→Option fo) (fx:V3→Option je) (fy:V3→Option V5) (dp:Int→Option V6) (k0:aO→Bool→Option R) (k1:aO→Bool→Option R) (k2:aO→Bool→Option R) (k3:aO→Bool→Option R) (x0:V3):Option R:=
(Sg bG k0 (Sc (Si N ((Sf fx fy k1 (Sj (Sl N dp k2 ((Se k3)))))))) x0)
theorem ap5 (bG) (fx) (fy) (dp) (h93:(kp bG).holds cl) (h118:(zn fx).holds cl) (h119:(zo fy).holds cl) (h120:(pT dp).holds cl) (x0):exec cl N yZ [(0,.v .str x0)] K=(Sh N bG fx fy dp (fun y0 y1=>K .ret (Gz y0 y1)) (fun y0 y1=>K .ret (GA y0 y1)) (fun y0 y1=>K .ret (qk y0 y1)) (fun y0 y1=>K .ret (GC y0 y1)) x0):=by
 simp only [bJ,bL,bK,bM,ap4 bG h93,yY,Ou,ap0,Ot,aP,b6,ap6,bZ,b5,bY,acp,ap3 fx fy h118 h119,yX,Ox,ap7,Ow,ap9 dp h120,acs,acu,ap2]
 rfl
theorem aiB (y0 y1):af d94 .ret (Gz y0 y1)=some [.v aB y0,.v .bool y1]:=by kernel_rfl
theorem aiC (y0 y1):af d94 .ret (GA y0 y1)=some [.v aB y0,.v .bool y1]:=by kernel_rfl
theorem aiD (y0 y1):af d94 .ret (qk y0 y1)=some [.v aB y0,.v .bool y1]:=by kernel_rfl
theorem aiE (y0 y1):af d94 .ret (GC y0 y1)=some [.v aB y0,.v .bool y1]:=by kernel_rfl
def HY (N:Nat) (bG:V3→Option fo) (fx:V3→Option je) (fy:V3→Option V5) (dp:Int→Option V6) (x0:V3) (k:aO→Bool→Option R):Option R:=
(Sh N bG fx fy dp k k k k x0)
theorem X3 (bG) (fx) (fy) (dp) (h93:(kp bG).holds cl) (h118:(zn fx).holds cl) (h119:(zo fy).holds cl) (h120:(pT dp).holds cl) (x0) (k:List E→Option R):exec cl N E8 [(0,.v .str x0)] (fun e env=>(af d94 e env).bind k)=HY N bG fx fy dp x0 (fun r0 r1=>k [.v aB r0,.v .bool r1]):=by
 simp only [E8,ap5 bG fx fy dp h93 h118 h119 h120,aiB,aiC,aiD,aiE,al]
 rfl
def nB (S:V3→Option mC):aJ:=cA 94 .str S fun b=> [.v aB b.1,.v .bool b.2]
def cN (N:Nat) (x0:V3):Option mC:=HY N (bG N) (fx N) (fy N) (dp N) x0 (fun (r0:aO) (r1:Bool)=>some (r0,r1))
def Hi (k0:Bool→Option R) (x0:Int):Option R:=
ae (decide (x0≥(97:Int))) (k0 (decide (x0≤(122:Int)))) (k0 false)
theorem alf (x0):exec cl N KL [(0,.v U0 x0)] K=(Hi (fun y0=>K .ret [(2,.v .bool y0)]) x0):=by
 kernel_rfl
theorem agH (y0):af d135 .ret [(2,.v .bool y0)]=some [.v .bool y0]:=by kernel_rfl
def z8 (x0:Int) (k:Bool→Option R):Option R:=
(Hi k x0)
theorem W2 (x0) (k:List E→Option R):exec cl N Cx [(0,.v U0 x0)] (fun e env=>(af d135 e env).bind k)=z8 x0 (fun r0=>k [.v .bool r0]):=by
 simp only [Cx,alf,agH,al]
 rfl
def nv (S:Int→Option (Bool)):aJ:=cA 135 U0 S fun b=> [.v .bool b]
def cw (N:Nat) (x0:Int):Option (Bool):=z8 x0 (fun (r0:Bool)=>some (r0))
def tq (cw:Int→Option (Bool)) (k0:Int→Option R) (k1:V3→Int→Option R) (x0:V3):Option R:=
ae (x0==([]:List UInt8)) (k0 (0:Int)) (if 0≤(0:Int)∧(0:Int) < (x0.length:Int) then
(cw ((x0.getD (0:Int).toNat 0).toNat:Int)).bind fun r593=>
ae (!r593) (k0 (0:Int)) (k1 x0 (1:Int))
else none)
theorem akp (cw) (h135:(nv cw).holds cl) (x0):exec cl N xj [(0,.v .str x0)] K=(tq cw (fun y0=>K .ret (iK y0)) (fun y0 y1=>exec cl N xi (cL y0 y1) K) x0):=by
 rw [←aI h135]
 delta xj
 generalize xi=q
 revert q
 refine id ?_
 intro q
 kernel_rfl
theorem S6 (x0 x1):ah [0,3] (cL x0 x1)=(cL x0 x1):=by kernel_rfl
def tl (cw:Int→Option (Bool)) (bo:Int→Option (Bool)) (k0:V3→Int→Option R) (k1:V3→Int→Option R) (x0:V3) (x1:Int):Option R:=
ae (decide (x1 < (x0.length:Int))) (if 0≤x1∧x1 < (x0.length:Int) then
(cw ((x0.getD x1.toNat 0).toNat:Int)).bind fun r596=>
ae r596 (k0 x0 (IntKind.i64.wrap (x1+(1:Int)))) (if 0≤x1∧x1 < (x0.length:Int) then
(bo ((x0.getD x1.toNat 0).toNat:Int)).bind fun r599=>
ae r599 (k0 x0 (IntKind.i64.wrap (x1+(1:Int)))) (if 0≤x1∧x1 < (x0.length:Int) then
ae (((x0.getD x1.toNat 0).toNat:Int) != (45:Int)) (k1 x0 x1) (ae ((IntKind.i64.wrap (x1+(1:Int)))==(x0.length:Int)) (k1 x0 x1) (let v605:Int:=(IntKind.i64.wrap (x1+(1:Int)))
if 0≤v605∧v605 < (x0.length:Int) then
(cw ((x0.getD v605.toNat 0).toNat:Int)).bind fun r607=>
ae (!r607) (let v608:Int:=(IntKind.i64.wrap (x1+(1:Int)))
if 0≤v608∧v608 < (x0.length:Int) then
(bo ((x0.getD v608.toNat 0).toNat:Int)).bind fun r610=>
ae (!r610) (k1 x0 x1) (k0 x0 (IntKind.i64.wrap (x1+(2:Int))))
else none) (k0 x0 (IntKind.i64.wrap (x1+(2:Int))))
else none))
else none)
else none)
else none) (k1 x0 x1)
theorem akm (cw) (bo) (h135:(nv cw).holds cl) (h136:(jS bo).holds cl) (x0 x1):exec cl N BZ (cL x0 x1) K=(tl cw bo (fun y0 y1=>K .normal (cL y0 y1)) (fun y0 y1=>K (.exit 0) (cL y0 y1)) x0 x1):=by
 rw [←aI h135]
 rw [←aI h136]
 kernel_rfl
def oV {R:Type} (cw:Int→Option (Bool)) (bo:Int→Option (Bool)) (k0:V3→Int→Option R):Nat→V3→Int→Option R
 | 0,_,_=>none
 | m+1,x0,x1=>(tl cw bo (oV cw bo k0 m) k0 x0 x1)
theorem adj (cw) (bo) (h135:(nv cw).holds cl) (h136:(jS bo).holds cl):∀ (m) (x0 x1),iter [0,3] (fun env K=>exec cl N BZ env K) K m (cL x0 x1)=oV cw bo (fun y0 y1=>K (.exit 0) (cL y0 y1)) m x0 x1:=by
 intro m
 induction m with
 | zero=>intros; rfl
 | succ m ih=>
   intro x0 x1
   simp only [bS,akm cw bo h135 h136,bU,bT,bV,S6,ih]
   rfl
theorem ZR (x0 x1):ah [3] (cL x0 x1)=[(3,.v U2 x1)]:=by kernel_rfl
def tn (N:Nat) (cw:Int→Option (Bool)) (bo:Int→Option (Bool)) (k0:Int→Option R) (x0:V3) (x1:Int):Option R:=
oV cw bo (fun y0 y1=>k0 y1) N x0 x1
theorem akn (cw) (bo) (h135:(nv cw).holds cl) (h136:(jS bo).holds cl) (x0 x1):exec cl N B0 (cL x0 x1) K=(tn N cw bo (fun y0=>K (.exit 0) [(3,.v U2 y0)]) x0 x1):=by
 simp only [B0,aP,bR,S6,adj cw bo h135 h136,ZR]
 rfl
theorem ZS (x0):ah [3] [(3,.v U2 x0)]=[(3,.v U2 x0)]:=by kernel_rfl
def tp (k0:Int→Option R) (x0:Int):Option R:=
k0 x0
theorem ako (x0):exec cl N J8 [(3,.v U2 x0)] K=(tp (fun y0=>K .ret [(2,.v U2 y0)]) x0):=by
 kernel_rfl
def tr (N:Nat) (cw:Int→Option (Bool)) (bo:Int→Option (Bool)) (k0:Int→Option R) (k1:Int→Option R) (x0:V3):Option R:=
(tq cw k0 (tn N cw bo ((tp k1))) x0)
theorem akq (cw) (bo) (h135:(nv cw).holds cl) (h136:(jS bo).holds cl) (x0):exec cl N xj [(0,.v .str x0)] K=(tr N cw bo (fun y0=>K .ret (iK y0)) (fun y0=>K .ret [(2,.v U2 y0)]) x0):=by
 simp only [bJ,bL,bK,bM,akp cw h135,xi,J7,aP,b6,akn cw bo h135 h136,bZ,b5,bY,ZS,ako]
 rfl
theorem agj (y0):af d115 .ret (iK y0)=some [.v U2 y0]:=by kernel_rfl
theorem agk (y0):af d115 .ret [(2,.v U2 y0)]=some [.v U2 y0]:=by kernel_rfl
def qx (N:Nat) (cw:Int→Option (Bool)) (bo:Int→Option (Bool)) (x0:V3) (k:Int→Option R):Option R:=
(tr N cw bo k k x0)
theorem WL (cw) (bo) (h135:(nv cw).holds cl) (h136:(jS bo).holds cl) (x0) (k:List E→Option R):exec cl N BY [(0,.v .str x0)] (fun e env=>(af d115 e env).bind k)=qx N cw bo x0 (fun r0=>k [.v U2 r0]):=by
 simp only [BY,akq cw bo h135 h136,agj,agk,al]
 rfl
def Fu (S:V3→Option (Int)):aJ:=cA 115 .str S fun b=> [.v U2 b]
def gm (N:Nat) (x0:V3):Option (Int):=qx N (cw N) (bo N) x0 (fun (r0:Int)=>some (r0))
def HV (gm:V3→Option (Int)) (k0:Bool→Option R) (x0:V3):Option R:=
ae (x0 != ([]:List UInt8)) (ae (decide ((x0.length:Int)≤(20:Int))) ((gm x0).bind fun r617=>
k0 (r617==(x0.length:Int))) (k0 false)) (k0 false)
theorem apH (gm) (h115:(Fu gm).holds cl) (x0):exec cl N N9 [(0,.v .str x0)] K=(HV gm (fun y0=>K .ret [(2,.v .bool y0)]) x0):=by
 rw [←aI h115]
 kernel_rfl
theorem aiv (y0):af d90 .ret [(2,.v .bool y0)]=some [.v .bool y0]:=by kernel_rfl
def AA (gm:V3→Option (Int)) (x0:V3) (k:Bool→Option R):Option R:=
(HV gm k x0)
theorem XZ (gm) (h115:(Fu gm).holds cl) (x0) (k:List E→Option R):exec cl N EY [(0,.v .str x0)] (fun e env=>(af d90 e env).bind k)=AA gm x0 (fun r0=>k [.v .bool r0]):=by
 simp only [EY,apH gm h115,aiv,al]
 rfl
def zy (S:V3→Option (Bool)):aJ:=cA 90 .str S fun b=> [.v .bool b]
def eL (N:Nat) (x0:V3):Option (Bool):=AA (gm N) x0 (fun (r0:Bool)=>some (r0))
def PG (k0:Bool→Option R) (k1:Int→Option R) (x0:Int):Option R:=
ae (decide (x0 < (32:Int))) (k0 false) (ae (decide (x0 > (126:Int))) (k0 false) (k1 x0))
theorem akj (x0):exec cl N xg [(0,.v U0 x0)] K=(PG (fun y0=>K .ret [(0,.dead),(2,.v .bool y0)]) (fun y0=>exec cl N xf [(0,.v U0 y0),(2,.dead)] K) x0):=by
 delta xg
 generalize xf=q
 revert q
 refine id ?_
 intro q
 kernel_rfl
def PC (k0:Int→Int→Option R) (x0:Int):Option R:=
k0 x0 (0:Int)
theorem akf (x0):exec cl N J2 [(0,.v U0 x0),(2,.dead)] K=(PC (fun y0 y1=>K .normal (kV y0 y1)) x0):=by
 kernel_rfl
theorem S5 (x0 x1):ah [0,3] (kV x0 x1)=(kV x0 x1):=by kernel_rfl
def PD (k0:Bool→Option R) (k1:Int→Int→Option R) (k2:Int→Int→Option R) (x0 x1:Int):Option R:=
ae (decide (x1 < (15:Int))) (if 0≤x1∧x1 < (([32,46,44,59,58,33,63,34,45,91,93,60,62,123,125]:List UInt8).length:Int) then
ae (((([32,46,44,59,58,33,63,34,45,91,93,60,62,123,125]:List UInt8).getD x1.toNat 0).toNat:Int)==x0) (k0 false) (k1 x0 (IntKind.i64.wrap (x1+(1:Int))))
else none) (k2 x0 x1)
theorem akg (x0 x1):exec cl N BV (kV x0 x1) K=(PD (fun y0=>K .ret (GD y0)) (fun y0 y1=>K .normal (kV y0 y1)) (fun y0 y1=>K (.exit 0) (kV y0 y1)) x0 x1):=by
 kernel_rfl
def Iq {R:Type} (k0:Bool→Option R) (k1:Int→Int→Option R):Nat→Int→Int→Option R
 | 0,_,_=>none
 | m+1,x0,x1=>(PD k0 (Iq k0 k1 m) k1 x0 x1)
theorem adi:∀ (m) (x0 x1),iter [0,3] (fun env K=>exec cl N BV env K) K m (kV x0 x1)=Iq (fun y0=>K .ret (GD y0)) (fun y0 y1=>K (.exit 0) (kV y0 y1)) m x0 x1:=by
 intro m
 induction m with
 | zero=>intros; rfl
 | succ m ih=>
   intro x0 x1
   simp only [bS,akg,bU,bT,bV,S5,ih]
   rfl
theorem ZN (x0):ah [2] (GD x0)=[(2,.v .bool x0)]:=by kernel_rfl
theorem ZO (x0 x1):ah [2] (kV x0 x1)=[(2,.dead)]:=by kernel_rfl
def PE (N:Nat) (k0:Bool→Option R) (k1:Option R) (x0 x1:Int):Option R:=
Iq k0 (fun y0 y1=>k1) N x0 x1
theorem akh (x0 x1):exec cl N BW (kV x0 x1) K=(PE N (fun y0=>K .ret [(2,.v .bool y0)]) (K (.exit 0) [(2,.dead)]) x0 x1):=by
 simp only [BW,aP,bR,S5,adi,ZN,ZO]
 rfl
theorem ZP (x0):ah [2] [(2,.v .bool x0)]=[(2,.v .bool x0)]:=by kernel_rfl
theorem ZQ:ah [2] [(2,.dead)]=[(2,.dead)]:=by kernel_rfl
def PF (k0:Bool→Option R):Option R:=
k0 true
theorem aki:exec cl N J5 [(2,.dead)] K=(PF (fun y0=>K .ret [(2,.v .bool y0)])):=by
 kernel_rfl
def PH (N:Nat) (k0:Bool→Option R) (k1:Bool→Option R) (x0:Int):Option R:=
(PG k0 (PC (PE N k1 (PF k1))) x0)
theorem akk (x0):exec cl N xg [(0,.v U0 x0)] K=(PH N (fun y0=>K .ret [(0,.dead),(2,.v .bool y0)]) (fun y0=>K .ret [(2,.v .bool y0)]) x0):=by
 simp only [bJ,bL,bK,bM,akj,xf,J4,akf,J3,aP,b6,akh,bZ,b5,bY,ZP,ZQ,aki]
 rfl
theorem agf (y0):af d111 .ret [(0,.dead),(2,.v .bool y0)]=some [.v .bool y0]:=by kernel_rfl
theorem agh (y0):af d111 .ret [(2,.v .bool y0)]=some [.v .bool y0]:=by kernel_rfl
def G6 (N:Nat) (x0:Int) (k:Bool→Option R):Option R:=
(PH N k k x0)
theorem WJ (x0) (k:List E→Option R):exec cl N BU [(0,.v U0 x0)] (fun e env=>(af d111 e env).bind k)=G6 N x0 (fun r0=>k [.v .bool r0]):=by
 simp only [BU,akk,agf,agh,al]
 rfl
def pS (S:Int→Option (Bool)):aJ:=cA 111 U0 S fun b=> [.v .bool b]
def cV (N:Nat) (x0:Int):Option (Bool):=G6 N x0 (fun (r0:Bool)=>some (r0))
def tx (k0:Int→Option R) (k1:V3→Option R) (x0:V3):Option R:=
ae (x0==([]:List UInt8)) (k0 (7:Int)) (ae (decide ((x0.length:Int) > (4:Int))) (k0 (3:Int)) (k1 x0))
theorem akv (x0):exec cl N xl [(0,.v .str x0)] K=(tx (fun y0=>K .ret (iK y0)) (fun y0=>exec cl N xk (zM y0) K) x0):=by
 delta xl
 generalize xk=q
 revert q
 refine id ?_
 intro q
 kernel_rfl
def tt (k0:V3→Int→Option R) (x0:V3):Option R:=
k0 x0 (0:Int)
theorem akr (x0):exec cl N J9 (zM x0) K=(tt (fun y0 y1=>K .normal (cL y0 y1)) x0):=by
 kernel_rfl
theorem S8 (x0 x1):ah [0,3] (cL x0 x1)=(cL x0 x1):=by kernel_rfl
def tu (cV:Int→Option (Bool)) (k0:Int→Option R) (k1:V3→Int→Option R) (k2:V3→Int→Option R) (x0:V3) (x1:Int):Option R:=
ae (decide (x1 < (x0.length:Int))) (if 0≤x1∧x1 < (x0.length:Int) then
(cV ((x0.getD x1.toNat 0).toNat:Int)).bind fun r648=>
ae (!r648) (k0 (2:Int)) (if 0≤x1∧x1 < (x0.length:Int) then
ae (decide (((x0.getD x1.toNat 0).toNat:Int)≥(65:Int))) (if 0≤x1∧x1 < (x0.length:Int) then
ae (decide (((x0.getD x1.toNat 0).toNat:Int)≤(90:Int))) (k0 (2:Int)) (k1 x0 (IntKind.i64.wrap (x1+(1:Int))))
else none) (k1 x0 (IntKind.i64.wrap (x1+(1:Int))))
else none)
else none) (k2 x0 x1)
theorem aks (cV) (h111:(pS cV).holds cl) (x0 x1):exec cl N B4 (cL x0 x1) K=(tu cV (fun y0=>K .ret (ql y0)) (fun y0 y1=>K .normal (cL y0 y1)) (fun y0 y1=>K (.exit 0) (cL y0 y1)) x0 x1):=by
 rw [←aI h111]
 kernel_rfl
def qZ {R:Type} (cV:Int→Option (Bool)) (k0:Int→Option R) (k1:V3→Int→Option R):Nat→V3→Int→Option R
 | 0,_,_=>none
 | m+1,x0,x1=>(tu cV k0 (qZ cV k0 k1 m) k1 x0 x1)
theorem adk (cV) (h111:(pS cV).holds cl):∀ (m) (x0 x1),iter [0,3] (fun env K=>exec cl N B4 env K) K m (cL x0 x1)=qZ cV (fun y0=>K .ret (ql y0)) (fun y0 y1=>K (.exit 0) (cL y0 y1)) m x0 x1:=by
 intro m
 induction m with
 | zero=>intros; rfl
 | succ m ih=>
   intro x0 x1
   simp only [bS,aks cV h111,bU,bT,bV,S8,ih]
   rfl
theorem ZT (x0):ah [2] (ql x0)=[(2,.v U2 x0)]:=by kernel_rfl
theorem ZU (x0 x1):ah [2] (cL x0 x1)=[(2,.dead)]:=by kernel_rfl
def tv (N:Nat) (cV:Int→Option (Bool)) (k0:Int→Option R) (k1:Option R) (x0:V3) (x1:Int):Option R:=
qZ cV k0 (fun y0 y1=>k1) N x0 x1
theorem akt (cV) (h111:(pS cV).holds cl) (x0 x1):exec cl N B5 (cL x0 x1) K=(tv N cV (fun y0=>K .ret [(2,.v U2 y0)]) (K (.exit 0) [(2,.dead)]) x0 x1):=by
 simp only [B5,aP,bR,S8,adk cV h111,ZT,ZU]
 rfl
theorem ZV (x0):ah [2] [(2,.v U2 x0)]=[(2,.v U2 x0)]:=by kernel_rfl
theorem ZW:ah [2] [(2,.dead)]=[(2,.dead)]:=by kernel_rfl
def tw (k0:Int→Option R):Option R:=
k0 (0:Int)
theorem aku:exec cl N Kc [(2,.dead)] K=(tw (fun y0=>K .ret [(2,.v U2 y0)])):=by
 kernel_rfl
def tz (N:Nat) (cV:Int→Option (Bool)) (k0:Int→Option R) (k1:Int→Option R) (x0:V3):Option R:=
(tx k0 (tt (tv N cV k1 (tw k1))) x0)
theorem akw (cV) (h111:(pS cV).holds cl) (x0):exec cl N xl [(0,.v .str x0)] K=(tz N cV (fun y0=>K .ret (iK y0)) (fun y0=>K .ret [(2,.v U2 y0)]) x0):=by
 simp only [bJ,bL,bK,bM,akv,xk,Kb,akr,Ka,aP,b6,akt cV h111,bZ,b5,bY,ZV,ZW,aku]
 rfl
theorem agl (y0):af d116 .ret (iK y0)=some [.v U2 y0]:=by kernel_rfl
theorem agm (y0):af d116 .ret [(2,.v U2 y0)]=some [.v U2 y0]:=by kernel_rfl
def qy (N:Nat) (cV:Int→Option (Bool)) (x0:V3) (k:Int→Option R):Option R:=
(tz N cV k k x0)
theorem WM (cV) (h111:(pS cV).holds cl) (x0) (k:List E→Option R):exec cl N B3 [(0,.v .str x0)] (fun e env=>(af d116 e env).bind k)=qy N cV x0 (fun r0=>k [.v U2 r0]):=by
 simp only [B3,akw cV h111,agl,agm,al]
 rfl
def zl (S:V3→Option (Int)):aJ:=cA 116 .str S fun b=> [.v U2 b]
def eZ (N:Nat) (x0:V3):Option (Int):=qy N (cV N) x0 (fun (r0:Int)=>some (r0))
def vL (eZ:V3→Option (Int)) (k0:Int→Option R) (k1:aO→Option R) (x0:aO):Option R:=
(eZ x0.1).bind fun r667=>
ae (r667 != (0:Int)) (k0 r667) (ae ((x0.2.1.length:Int)==(0:Int)) (k0 (7:Int)) (ae (decide ((x0.2.1.length:Int) > (2:Int))) (k0 (3:Int)) (k1 x0)))
theorem apM (eZ) (h116:(zl eZ).holds cl) (x0):exec cl N yS [(0,.v aB x0)] K=(vL eZ (fun y0=>K .ret (e7 y0)) (fun y0=>exec cl N yR (iL y0) K) x0):=by
 rw [←aI h116]
 delta yS
 generalize yR=q
 revert q
 refine id ?_
 intro q
 kernel_rfl
def vH (k0:aO→Int→Option R) (x0:aO):Option R:=
k0 x0 (0:Int)
theorem apI (x0):exec cl N Oa (iL x0) K=(vH (fun y0 y1=>K .normal (kW y0 y1)) x0):=by
 kernel_rfl
theorem TN (x0 x1):ah [1,4] (kW x0 x1)=(kW x0 x1):=by kernel_rfl
def vI (bF:aN→Option (Int)) (k0:Int→Option R) (k1:aO→Int→Option R) (k2:aO→Int→Option R) (x0:aO) (x1:Int):Option R:=
ae (decide (x1 < (x0.2.1.length:Int))) (if 0≤x1∧x1 < (x0.2.1.length:Int) then
(bF (x0.2.1.getD x1.toNat ((0:Int),((0:Int),([],()))))).bind fun r672=>
ae (r672 != (0:Int)) (k0 r672) (k1 x0 (IntKind.i64.wrap (x1+(1:Int))))
else none) (k2 x0 x1)
theorem apJ (bF) (h117:(l8 bF).holds cl) (x0 x1):exec cl N E0 (kW x0 x1) K=(vI bF (fun y0=>K .ret (e9 y0)) (fun y0 y1=>K .normal (kW y0 y1)) (fun y0 y1=>K (.exit 0) (kW y0 y1)) x0 x1):=by
 rw [←aI h117]
 kernel_rfl
def rC {R:Type} (bF:aN→Option (Int)) (k0:Int→Option R) (k1:aO→Int→Option R):Nat→aO→Int→Option R
 | 0,_,_=>none
 | m+1,x0,x1=>(vI bF k0 (rC bF k0 k1 m) k1 x0 x1)
theorem ad3 (bF) (h117:(l8 bF).holds cl):∀ (m) (x0 x1),iter [1,4] (fun env K=>exec cl N E0 env K) K m (kW x0 x1)=rC bF (fun y0=>K .ret (e9 y0)) (fun y0 y1=>K (.exit 0) (kW y0 y1)) m x0 x1:=by
 intro m
 induction m with
 | zero=>intros; rfl
 | succ m ih=>
   intro x0 x1
   simp only [bS,apJ bF h117,bU,bT,bV,TN,ih]
   rfl
theorem acd (x0):ah [1,2] (e9 x0)=(e7 x0):=by kernel_rfl
theorem ace (x0 x1):ah [1,2] (kW x0 x1)=(iL x0):=by kernel_rfl
def vJ (N:Nat) (bF:aN→Option (Int)) (k0:Int→Option R) (k1:aO→Option R) (x0:aO) (x1:Int):Option R:=
rC bF k0 (fun y0 y1=>k1 y0) N x0 x1
theorem apK (bF) (h117:(l8 bF).holds cl) (x0 x1):exec cl N E1 (kW x0 x1) K=(vJ N bF (fun y0=>K .ret (e7 y0)) (fun y0=>K (.exit 0) (iL y0)) x0 x1):=by
 simp only [E1,aP,bR,TN,ad3 bF h117,acd,ace]
 rfl
theorem acf (x0):ah [1,2] (e7 x0)=(e7 x0):=by kernel_rfl
theorem acg (x0):ah [1,2] (iL x0)=(iL x0):=by kernel_rfl
def vK (k0:Int→Option R) (x0:aO):Option R:=
ae (decide (x0.2.2.1 < (0:Int))) (k0 (6:Int)) (ae (decide (x0.2.2.1 > (99:Int))) (k0 (6:Int)) (ae (decide (x0.2.2.2.1 < (0:Int))) (k0 (6:Int)) (ae (decide (x0.2.2.2.1 > (4:Int))) (k0 (6:Int)) (k0 (0:Int)))))
theorem apL (x0):exec cl N Oe (iL x0) K=(vK (fun y0=>K .ret [(2,.v U2 y0)]) x0):=by
 kernel_rfl
def vM (N:Nat) (eZ:V3→Option (Int)) (bF:aN→Option (Int)) (k0:Int→Option R) (k1:Int→Option R) (x0:aO):Option R:=
(vL eZ k0 (vH (vJ N bF k0 ((vK k1)))) x0)
theorem apN (eZ) (bF) (h116:(zl eZ).holds cl) (h117:(l8 bF).holds cl) (x0):exec cl N yS [(0,.v aB x0)] K=(vM N eZ bF (fun y0=>K .ret (e7 y0)) (fun y0=>K .ret [(2,.v U2 y0)]) x0):=by
 simp only [bJ,bL,bK,bM,apM eZ h116,yR,Oc,apI,Ob,aP,b6,apK bF h117,bZ,b5,bY,acf,acg,apL]
 rfl
theorem aiw (y0):af d91 .ret (e7 y0)=some [.v U2 y0]:=by kernel_rfl
theorem aix (y0):af d91 .ret [(2,.v U2 y0)]=some [.v U2 y0]:=by kernel_rfl
def qT (N:Nat) (eZ:V3→Option (Int)) (bF:aN→Option (Int)) (x0:aO) (k:Int→Option R):Option R:=
(vM N eZ bF k k x0)
theorem X0 (eZ) (bF) (h116:(zl eZ).holds cl) (h117:(l8 bF).holds cl) (x0) (k:List E→Option R):exec cl N EZ [(0,.v aB x0)] (fun e env=>(af d91 e env).bind k)=qT N eZ bF x0 (fun r0=>k [.v U2 r0]):=by
 simp only [EZ,apN eZ bF h116 h117,aiw,aix,al]
 rfl
def nA (S:aO→Option (Int)):aJ:=cA 91 aB S fun b=> [.v U2 b]
def cz (N:Nat) (x0:aO):Option (Int):=qT N (eZ N) (bF N) x0 (fun (r0:Int)=>some (r0))
def HT (k0:Int→Option R) (k1:Int→Option R) (x0 x1:Int):Option R:=
ae (decide (x0 < x1)) (k0 (-1:Int)) (ae (decide (x0 > x1)) (k1 (1:Int)) (k1 (0:Int)))
theorem apF (x0 x1):exec cl N N7 (zN x0 x1) K=(HT (fun y0=>K .ret (kX y0)) (fun y0=>K .ret [(4,.v U2 y0)]) x0 x1):=by
 kernel_rfl
theorem ais (y0):af d86 .ret (kX y0)=some [.v U2 y0]:=by kernel_rfl
theorem ait (y0):af d86 .ret [(4,.v U2 y0)]=some [.v U2 y0]:=by kernel_rfl
def Az (x0 x1:Int) (k:Int→Option R):Option R:=
(HT k k x0 x1)
theorem XY (x0 x1) (k:List E→Option R):exec cl N EW (zN x0 x1) (fun e env=>(af d86 e env).bind k)=Az x0 x1 (fun r0=>k [.v U2 r0]):=by
 simp only [EW,apF,ais,ait,al]
 rfl
def F4 (S:Int→Int→Option (Int)):aJ:=c4 86 U2 U2 S fun b=> [.v U2 b]
def fY (N:Nat) (x0:Int) (x1:Int):Option (Int):=Az x0 x1 (fun (r0:Int)=>some (r0))
def HN (fY:Int→Int→Option (Int)) (k0:Int→Option R) (k1:Int→Option R) (x0 x1:aN):Option R:=
(fY x0.1 x1.1).bind fun r696=>
ae (r696 != (0:Int)) (k0 r696) ((fY x0.2.1 x1.2.1).bind fun r698=>
ae (r698 != (0:Int)) (k0 r698) (ae (Op.bytesLess x0.2.2.1 x1.2.2.1) (k0 (-1:Int)) (ae (!((Op.bytesLess x0.2.2.1 x1.2.2.1) || x0.2.2.1==x1.2.2.1)) (k1 (1:Int)) (k1 (0:Int)))))
theorem aoE (fY) (h86:(F4 fY).holds cl) (x0 x1):exec cl N Nd [(0,.v ay x0),(1,.v ay x1)] K=(HN fY (fun y0=>K .ret [(2,.dead),(3,.dead),(4,.v U2 y0)]) (fun y0=>K .ret [(4,.v U2 y0)]) x0 x1):=by
 rw [←aI h86]
 kernel_rfl
theorem ah2 (y0):af d59 .ret [(2,.dead),(3,.dead),(4,.v U2 y0)]=some [.v U2 y0]:=by kernel_rfl
theorem ah3 (y0):af d59 .ret [(4,.v U2 y0)]=some [.v U2 y0]:=by kernel_rfl
def Ax (fY:Int→Int→Option (Int)) (x0 x1:aN) (k:Int→Option R):Option R:=
(HN fY k k x0 x1)
theorem XO (fY) (h86:(F4 fY).holds cl) (x0 x1) (k:List E→Option R):exec cl N Eo [(0,.v ay x0),(1,.v ay x1)] (fun e env=>(af d59 e env).bind k)=Ax fY x0 x1 (fun r0=>k [.v U2 r0]):=by
 simp only [Eo,aoE fY h86,ah2,ah3,al]
 rfl
def p8 (S:aN→aN→Option (Int)):aJ:=c4 59 ay ay S fun b=> [.v U2 b]
def c8 (N:Nat) (x0:aN) (x1:aN):Option (Int):=Ax (fY N) x0 x1 (fun (r0:Int)=>some (r0))
def uX (k0:Bool→Option R) (k1:ar→ar→Option R) (x0 x1:ar):Option R:=
ae ((x0.length:Int) != (x1.length:Int)) (k0 false) (k1 x0 x1)
theorem anv (x0 x1):exec cl N yh (qm x0 x1) K=(uX (fun y0=>K .ret (hY y0)) (fun y0 y1=>exec cl N yg (zO y0 y1) K) x0 x1):=by
 delta yh
 generalize yg=q
 revert q
 refine id ?_
 intro q
 kernel_rfl
def uT (k0:ar→ar→Int→Option R) (x0 x1:ar):Option R:=
k0 x0 x1 (0:Int)
theorem anr (x0 x1):exec cl N Mn (zO x0 x1) K=(uT (fun y0 y1 y2=>K .normal (kY y0 y1 y2)) x0 x1):=by
 kernel_rfl
theorem Tu (x0 x1 x2):ah [0,1,5] (kY x0 x1 x2)=(kY x0 x1 x2):=by kernel_rfl
def uU (c8:aN→aN→Option (Int)) (k0:Bool→Option R) (k1:ar→ar→Int→Option R) (k2:ar→ar→Int→Option R) (x0 x1:ar) (x2:Int):Option R:=
ae (decide (x2 < (x0.length:Int))) (if 0≤x2∧x2 < (x0.length:Int) then
if 0≤x2∧x2 < (x1.length:Int) then
(c8 (x0.getD x2.toNat ((0:Int),((0:Int),([],())))) (x1.getD x2.toNat ((0:Int),((0:Int),([],()))))).bind fun r707=>
ae (r707 != (0:Int)) (k0 false) (k1 x0 x1 (IntKind.i64.wrap (x2+(1:Int))))
else none
else none) (k2 x0 x1 x2)
theorem ans (c8) (h59:(p8 c8).holds cl) (x0 x1 x2):exec cl N DJ (kY x0 x1 x2) K=(uU c8 (fun y0=>K .ret (mg y0)) (fun y0 y1 y2=>K .normal (kY y0 y1 y2)) (fun y0 y1 y2=>K (.exit 0) (kY y0 y1 y2)) x0 x1 x2):=by
 rw [←aI h59]
 kernel_rfl
def rq {R:Type} (c8:aN→aN→Option (Int)) (k0:Bool→Option R) (k1:ar→ar→Int→Option R):Nat→ar→ar→Int→Option R
 | 0,_,_,_=>none
 | m+1,x0,x1,x2=>(uU c8 k0 (rq c8 k0 k1 m) k1 x0 x1 x2)
theorem adK (c8) (h59:(p8 c8).holds cl):∀ (m) (x0 x1 x2),iter [0,1,5] (fun env K=>exec cl N DJ env K) K m (kY x0 x1 x2)=rq c8 (fun y0=>K .ret (mg y0)) (fun y0 y1 y2=>K (.exit 0) (kY y0 y1 y2)) m x0 x1 x2:=by
 intro m
 induction m with
 | zero=>intros; rfl
 | succ m ih=>
   intro x0 x1 x2
   simp only [bS,ans c8 h59,bU,bT,bV,Tu,ih]
   rfl
theorem aa9 (x0):ah [4] (mg x0)=[(4,.v .bool x0)]:=by kernel_rfl
theorem aba (x0 x1 x2):ah [4] (kY x0 x1 x2)=[(4,.dead)]:=by kernel_rfl
def uV (N:Nat) (c8:aN→aN→Option (Int)) (k0:Bool→Option R) (k1:Option R) (x0 x1:ar) (x2:Int):Option R:=
rq c8 k0 (fun y0 y1 y2=>k1) N x0 x1 x2
theorem ant (c8) (h59:(p8 c8).holds cl) (x0 x1 x2):exec cl N DK (kY x0 x1 x2) K=(uV N c8 (fun y0=>K .ret [(4,.v .bool y0)]) (K (.exit 0) [(4,.dead)]) x0 x1 x2):=by
 simp only [DK,aP,bR,Tu,adK c8 h59,aa9,aba]
 rfl
theorem abb (x0):ah [4] [(4,.v .bool x0)]=[(4,.v .bool x0)]:=by kernel_rfl
theorem abc:ah [4] [(4,.dead)]=[(4,.dead)]:=by kernel_rfl
def uW (k0:Bool→Option R):Option R:=
k0 true
theorem anu:exec cl N Mq [(4,.dead)] K=(uW (fun y0=>K .ret [(4,.v .bool y0)])):=by
 kernel_rfl
def uY (N:Nat) (c8:aN→aN→Option (Int)) (k0:Bool→Option R) (k1:Bool→Option R) (x0 x1:ar):Option R:=
(uX k0 (uT (uV N c8 k1 (uW k1))) x0 x1)
theorem anw (c8) (h59:(p8 c8).holds cl) (x0 x1):exec cl N yh (qm x0 x1) K=(uY N c8 (fun y0=>K .ret (hY y0)) (fun y0=>K .ret [(4,.v .bool y0)]) x0 x1):=by
 simp only [bJ,bL,bK,bM,anv,yg,Mp,anr,Mo,aP,b6,ant c8 h59,bZ,b5,bY,abb,abc,anu]
 rfl
theorem ahw (y0):af d28 .ret (hY y0)=some [.v .bool y0]:=by kernel_rfl
theorem ahx (y0):af d28 .ret [(4,.v .bool y0)]=some [.v .bool y0]:=by kernel_rfl
def qG (N:Nat) (c8:aN→aN→Option (Int)) (x0 x1:ar) (k:Bool→Option R):Option R:=
(uY N c8 k k x0 x1)
theorem Xx (c8) (h59:(p8 c8).holds cl) (x0 x1) (k:List E→Option R):exec cl N DH (qm x0 x1) (fun e env=>(af d28 e env).bind k)=qG N c8 x0 x1 (fun r0=>k [.v .bool r0]):=by
 simp only [DH,anw c8 h59,ahw,ahx,al]
 rfl
def jT (S:ar→ar→Option (Bool)):aJ:=c4 28 bh bh S fun b=> [.v .bool b]
def bl (N:Nat) (x0:ar) (x1:ar):Option (Bool):=qG N (c8 N) x0 x1 (fun (r0:Bool)=>some (r0))
def oJ (eL:V3→Option (Bool)) (k0:Int→Int→Option R) (k1:ad→Option R) (x0:ad):Option R:=
(eL x0.1).bind fun r715=>
ae (!r715) (k0 (-1:Int) (2:Int)) (ae ((x0.2.1.length:Int)==(0:Int)) (k0 (-1:Int) (7:Int)) (ae (decide ((x0.2.1.length:Int) > (120:Int))) (k0 (-1:Int) (3:Int)) (k1 x0)))
theorem aoZ (eL) (h90:(zy eL).holds cl) (x0):exec cl N yH [(0,.v ak x0)] K=(oJ eL (fun y0 y1=>K .ret (qn y0 y1)) (fun y0=>exec cl N yG (zP y0) K) x0):=by
 rw [←aI h90]
 delta yH
 generalize yG=q
 revert q
 refine id ?_
 intro q
 kernel_rfl
def oG (k0:ad→Int→Option R) (x0:ad):Option R:=
k0 x0 (0:Int)
theorem aoW (x0):exec cl N Nw (zP x0) K=(oG (fun y0 y1=>K .normal (hZ y0 y1)) x0):=by
 kernel_rfl
theorem TH (x0 x1):ah [1,4] (hZ x0 x1)=(hZ x0 x1):=by kernel_rfl
def oO (k0:ad→Int→Option R) (k1:ad→Int→Option R) (x0:ad) (x1:Int):Option R:=
ae (decide (x1 < (x0.2.1.length:Int))) (k0 x0 x1) (k1 x0 x1)
theorem ao4 (x0 x1):exec cl N sI (hZ x0 x1) K=(oO (fun y0 y1=>exec cl N yJ (hZ y0 y1) K) (fun y0 y1=>K (.exit 0) (hZ y0 y1)) x0 x1):=by
 delta sI
 generalize yJ=q
 revert q
 refine id ?_
 intro q
 kernel_rfl
def oM (cz:aO→Option (Int)) (k0:Int→Int→Option R) (k1:ad→Int→Int→Option R) (x0:ad) (x1:Int):Option R:=
if 0≤x1∧x1 < (x0.2.1.length:Int) then
(cz (x0.2.1.getD x1.toNat ([],([],((0:Int),((0:Int),())))))).bind fun r719=>
ae (r719 != (0:Int)) (k0 x1 r719) (k1 x0 x1 (0:Int))
else none
theorem ao2 (cz) (h91:(nA cz).holds cl) (x0 x1):exec cl N ED (hZ x0 x1) K=(oM cz (fun y0 y1=>K .ret (mM y0 y1)) (fun y0 y1 y2=>exec cl N yI (kZ y0 y1 y2) K) x0 x1):=by
 rw [←aI h91]
 delta ED
 generalize yI=q
 revert q
 refine id ?_
 intro q
 kernel_rfl
theorem TI (x0 x1 x2):ah [1,4,6] (kZ x0 x1 x2)=(kZ x0 x1 x2):=by kernel_rfl
def oH (bl:ar→ar→Option (Bool)) (k0:Int→Int→Option R) (k1:ad→Int→Int→Option R) (k2:ad→Int→Int→Option R) (x0:ad) (x1 x2:Int):Option R:=
ae (decide (x2 < x1)) (if 0≤x1∧x1 < (x0.2.1.length:Int) then
if 0≤x2∧x2 < (x0.2.1.length:Int) then
ae ((x0.2.1.getD x1.toNat ([],([],((0:Int),((0:Int),()))))).1==(x0.2.1.getD x2.toNat ([],([],((0:Int),((0:Int),()))))).1) (ae ((x0.2.1.getD x1.toNat ([],([],((0:Int),((0:Int),()))))).2.2.2.1==(x0.2.1.getD x2.toNat ([],([],((0:Int),((0:Int),()))))).2.2.2.1) ((bl ((x0.2.1.getD x1.toNat ([],([],((0:Int),((0:Int),()))))).2.1) ((x0.2.1.getD x2.toNat ([],([],((0:Int),((0:Int),()))))).2.1)).bind fun r724=>
ae r724 (k0 x1 (5:Int)) (k1 x0 x1 (IntKind.i64.wrap (x2+(1:Int))))) (k1 x0 x1 (IntKind.i64.wrap (x2+(1:Int))))) (k1 x0 x1 (IntKind.i64.wrap (x2+(1:Int))))
else none
else none) (k2 x0 x1 x2)
theorem aoX (bl) (h28:(jT bl).holds cl) (x0 x1 x2):exec cl N EB (kZ x0 x1 x2) K=(oH bl (fun y0 y1=>K .ret (GF y0 y1)) (fun y0 y1 y2=>K .normal (kZ y0 y1 y2)) (fun y0 y1 y2=>K (.exit 2) (kZ y0 y1 y2)) x0 x1 x2):=by
 rw [←aI h28]
 kernel_rfl
def o5 {R:Type} (bl:ar→ar→Option (Bool)) (k0:Int→Int→Option R) (k1:ad→Int→Int→Option R):Nat→ad→Int→Int→Option R
 | 0,_,_,_=>none
 | m+1,x0,x1,x2=>(oH bl k0 (o5 bl k0 k1 m) k1 x0 x1 x2)
theorem adX (bl) (h28:(jT bl).holds cl):∀ (m) (x0 x1 x2),iter [1,4,6] (fun env K=>exec cl N EB env K) K m (kZ x0 x1 x2)=o5 bl (fun y0 y1=>K .ret (GF y0 y1)) (fun y0 y1 y2=>K (.exit 2) (kZ y0 y1 y2)) m x0 x1 x2:=by
 intro m
 induction m with
 | zero=>intros; rfl
 | succ m ih=>
   intro x0 x1 x2
   simp only [bS,aoX bl h28,bU,bT,bV,TI,ih]
   rfl
theorem abQ (x0 x1):ah [1,2,3,4] (GF x0 x1)=(mM x0 x1):=by kernel_rfl
theorem abR (x0 x1 x2):ah [1,2,3,4] (kZ x0 x1 x2)=(s7 x0 x1):=by kernel_rfl
def oL (N:Nat) (bl:ar→ar→Option (Bool)) (k0:Int→Int→Option R) (k1:ad→Int→Option R) (x0:ad) (x1 x2:Int):Option R:=
o5 bl k0 (fun y0 y1 y2=>k1 y0 y1) N x0 x1 x2
theorem ao1 (bl) (h28:(jT bl).holds cl) (x0 x1 x2):exec cl N EC (kZ x0 x1 x2) K=(oL N bl (fun y0 y1=>K .ret (mM y0 y1)) (fun y0 y1=>K (.exit 2) (s7 y0 y1)) x0 x1 x2):=by
 simp only [EC,aP,bR,TI,adX bl h28,abQ,abR]
 rfl
theorem abS (x0 x1):ah [1,2,3,4] (mM x0 x1)=(mM x0 x1):=by kernel_rfl
theorem abT (x0 x1):ah [1,2,3,4] (s7 x0 x1)=(s7 x0 x1):=by kernel_rfl
def oN (k0:ad→Int→Option R) (x0:ad) (x1:Int):Option R:=
k0 x0 (IntKind.i64.wrap (x1+(1:Int)))
theorem ao3 (x0 x1):exec cl N NB (s7 x0 x1) K=(oN (fun y0 y1=>K .normal (hZ y0 y1)) x0 x1):=by
 kernel_rfl
def oP (N:Nat) (bl:ar→ar→Option (Bool)) (cz:aO→Option (Int)) (k0:Int→Int→Option R) (k1:ad→Int→Option R) (k2:ad→Int→Option R) (x0:ad) (x1:Int):Option R:=
(oO (oM cz k0 (oL N bl k0 (((oN k1))))) k2 x0 x1)
theorem ao5 (bl) (cz) (h28:(jT bl).holds cl) (h91:(nA cz).holds cl) (x0 x1):exec cl N sI (hZ x0 x1) K=(oP N bl cz (fun y0 y1=>K .ret (mM y0 y1)) (fun y0 y1=>K .normal (hZ y0 y1)) (fun y0 y1=>K (.exit 0) (hZ y0 y1)) x0 x1):=by
 simp only [bJ,bL,bK,bM,ao4,yJ,NA,aP,b6,ao2 cz h91,yI,ao1 bl h28,bZ,b5,bY,abS,abT,ao3]
 rfl
def mQ {R:Type} (N:Nat) (bl:ar→ar→Option (Bool)) (cz:aO→Option (Int)) (k0:Int→Int→Option R) (k1:ad→Int→Option R):Nat→ad→Int→Option R
 | 0,_,_=>none
 | m+1,x0,x1=>(oP N bl cz k0 (mQ N bl cz k0 k1 m) k1 x0 x1)
theorem adY (bl) (cz) (h28:(jT bl).holds cl) (h91:(nA cz).holds cl):∀ (m) (x0 x1),iter [1,4] (fun env K=>exec cl N sI env K) K m (hZ x0 x1)=mQ N bl cz (fun y0 y1=>K .ret (mM y0 y1)) (fun y0 y1=>K (.exit 0) (hZ y0 y1)) m x0 x1:=by
 intro m
 induction m with
 | zero=>intros; rfl
 | succ m ih=>
   intro x0 x1
   simp only [bS,ao5 bl cz h28 h91,bU,bT,bV,TH,ih]
   rfl
theorem abU (x0 x1):ah [2,3] (mM x0 x1)=(iM x0 x1):=by kernel_rfl
theorem abV (x0 x1):ah [2,3] (hZ x0 x1)=[(2,.dead),(3,.dead)]:=by kernel_rfl
def oQ (N:Nat) (bl:ar→ar→Option (Bool)) (cz:aO→Option (Int)) (k0:Int→Int→Option R) (k1:Option R) (x0:ad) (x1:Int):Option R:=
mQ N bl cz k0 (fun y0 y1=>k1) N x0 x1
theorem ao6 (bl) (cz) (h28:(jT bl).holds cl) (h91:(nA cz).holds cl) (x0 x1):exec cl N EE (hZ x0 x1) K=(oQ N bl cz (fun y0 y1=>K .ret (iM y0 y1)) (K (.exit 0) [(2,.dead),(3,.dead)]) x0 x1):=by
 simp only [EE,aP,bR,TH,adY bl cz h28 h91,abU,abV]
 rfl
theorem abW (x0 x1):ah [2,3] (iM x0 x1)=(iM x0 x1):=by kernel_rfl
theorem abX:ah [2,3] [(2,.dead),(3,.dead)]=[(2,.dead),(3,.dead)]:=by kernel_rfl
def oI (k0:Int→Int→Option R):Option R:=
k0 (-1:Int) (0:Int)
theorem aoY:exec cl N Nz [(2,.dead),(3,.dead)] K=(oI (fun y0 y1=>K .ret (iM y0 y1))):=by
 kernel_rfl
def oK (N:Nat) (bl:ar→ar→Option (Bool)) (eL:V3→Option (Bool)) (cz:aO→Option (Int)) (k0:Int→Int→Option R) (k1:Int→Int→Option R) (x0:ad):Option R:=
(oJ eL k0 (oG (oQ N bl cz k1 (oI k1))) x0)
theorem ao0 (bl) (eL) (cz) (h28:(jT bl).holds cl) (h90:(zy eL).holds cl) (h91:(nA cz).holds cl) (x0):exec cl N yH [(0,.v ak x0)] K=(oK N bl eL cz (fun y0 y1=>K .ret (qn y0 y1)) (fun y0 y1=>K .ret (iM y0 y1)) x0):=by
 simp only [bJ,bL,bK,bM,aoZ eL h90,yG,Ny,aoW,Nx,aP,b6,ao6 bl cz h28 h91,bZ,b5,bY,abW,abX,aoY]
 rfl
theorem ah9 (y0 y1):af d67 .ret (qn y0 y1)=some [.v U2 y0,.v U2 y1]:=by kernel_rfl
theorem aia (y0 y1):af d67 .ret (iM y0 y1)=some [.v U2 y0,.v U2 y1]:=by kernel_rfl
def mP (N:Nat) (bl:ar→ar→Option (Bool)) (eL:V3→Option (Bool)) (cz:aO→Option (Int)) (x0:ad) (k:Int→Int→Option R):Option R:=
(oK N bl eL cz k k x0)
theorem XR (bl) (eL) (cz) (h28:(jT bl).holds cl) (h90:(zy eL).holds cl) (h91:(nA cz).holds cl) (x0) (k:List E→Option R):exec cl N EA [(0,.v ak x0)] (fun e env=>(af d67 e env).bind k)=mP N bl eL cz x0 (fun r0 r1=>k [.v U2 r0,.v U2 r1]):=by
 simp only [EA,ao0 bl eL cz h28 h90 h91,ah9,aia,al]
 rfl
def qa (S:ad→Option V1):aJ:=cA 67 ak S fun b=> [.v U2 b.1,.v U2 b.2]
def dd (N:Nat) (x0:ad):Option V1:=mP N (bl N) (eL N) (cz N) x0 (fun (r0:Int) (r1:Int)=>some (r0,r1))
def RD (fE:V3→Option fo) (k0:ad→Int→Int→Option R) (k1:ad→Int→Int→Option R) (k2:V3→ad→aC→ad→Option R) (x0:V3):Option R:=
ae (decide ((x0.length:Int) > (20000:Int))) (k0 ([],[],()) (0:Int) (3:Int)) ((fE x0).bind fun r734=>
ae ((r734.length:Int)==(0:Int)) (k1 ([],[],()) (1:Int) (2:Int)) (k2 x0 ([],([],())) r734 ([],([],()))))
theorem apa (fE) (h92:(zA fE).holds cl) (x0):exec cl N yL [(0,.v .str x0)] K=(RD fE (fun y0 y1 y2=>K .ret (GG y0 y1 y2)) (fun y0 y1 y2=>K .ret (GH y0 y1 y2)) (fun y0 y1 y2 y3=>exec cl N yK (Pe y0 y1 y2 y3) K) x0):=by
 rw [←aI h92]
 delta yL
 generalize yK=q
 revert q
 refine id ?_
 intro q
 kernel_rfl
def RA (k0:V3→ad→aC→ad→Int→Option R) (x0:V3) (x1:ad) (x2:aC) (x3:ad):Option R:=
k0 x0 x1 x2 x3 (0:Int)
theorem ao7 (x0 x1 x2 x3):exec cl N NC (Pe x0 x1 x2 x3) K=(RA (fun y0 y1 y2 y3 y4=>K .normal (gg y0 y1 y2 y3 y4)) x0 x1 x2 x3):=by
 kernel_rfl
theorem TJ (x0 x1 x2 x3 x4):ah [0,2,5,6,7] (gg x0 x1 x2 x3 x4)=(gg x0 x1 x2 x3 x4):=by kernel_rfl
def RB (k0:V3→ad→aC→ad→Int→Option R) (k1:V3→ad→aC→ad→Int→Option R) (x0:V3) (x1:ad) (x2:aC) (x3:ad) (x4:Int):Option R:=
ae (decide (x4 < (x2.length:Int))) (k0 x0 x1 x2 x3 x4) (k1 x0 x1 x2 x3 x4)
theorem ao8 (x0 x1 x2 x3 x4):exec cl N ND (gg x0 x1 x2 x3 x4) K=(RB (fun y0 y1 y2 y3 y4=>K .normal (gg y0 y1 y2 y3 y4)) (fun y0 y1 y2 y3 y4=>K (.exit 0) (gg y0 y1 y2 y3 y4)) x0 x1 x2 x3 x4):=by
 kernel_rfl
def RF (k0:V3→ad→aC→ad→Int→Bool→Option R) (x0:V3) (x1:ad) (x2:aC) (x3:ad) (x4:Int):Option R:=
ae (x4==(IntKind.i64.wrap ((x2.length:Int) - (1:Int)))) (let v738:Int:=(IntKind.i64.wrap ((x0.length:Int) - (1:Int)))
if 0≤v738∧v738 < (x0.length:Int) then
k0 x0 x1 x2 x3 x4 (((x0.getD v738.toNat 0).toNat:Int) != (10:Int))
else none) (k0 x0 x1 x2 x3 x4 false)
theorem apc (x0 x1 x2 x3 x4):exec cl N NI (gg x0 x1 x2 x3 x4) K=(RF (fun y0 y1 y2 y3 y4 y5=>K .normal (Pf y0 y1 y2 y3 y4 y5)) x0 x1 x2 x3 x4):=by
 kernel_rfl
def RG (bG:V3→Option fo) (cN:V3→Option mC) (k0:ad→Int→Int→Option R) (k1:V3→ad→aC→ad→Int→Option R) (x0:V3) (x1:ad) (x2:aC) (x3:ad) (x4:Int) (x5:Bool):Option R:=
if 0≤x4∧x4 < (x2.length:Int) then
if x4.toNat < x2.length then
(bG (x2.getD x4.toNat [])).bind fun r742=>
if 0≤x4∧x4 < (x2.length:Int) then
if x4.toNat < x2.length then
(cN (x2.getD x4.toNat [])).bind fun r744=>
ae (x4==(0:Int)) (ae ((r742.length:Int)==(2:Int)) (if 0≤(0:Int)∧(0:Int) < (r742.length:Int) then
if ((0:Int).toNat) < r742.length then
ae x5 (k0 ([],[],()) (IntKind.i64.wrap (x4+(1:Int))) (2:Int)) (ae (!((r742.getD ((0:Int).toNat) [])==([111,114,116,104,111,103,114,97,112,104,121]:List UInt8))) (k0 ([],[],()) (IntKind.i64.wrap (x4+(1:Int))) (2:Int)) (ae (x4==(0:Int)) (if 0≤(1:Int)∧(1:Int) < (r742.length:Int) then
if ((1:Int).toNat) < r742.length then
k1 x0 x1 x2 ((r742.getD ((1:Int).toNat) []),x3.2) x4
else none
else none) (if x3.2.1.length+[r744.1].length≤2513169434916 then
k1 x0 x1 x2 (x3.1,((x3.2.1++[r744.1]),x3.2.2)) x4
else none)))
else none
else none) (ae x5 (k0 ([],[],()) (IntKind.i64.wrap (x4+(1:Int))) (2:Int)) (k0 ([],[],()) (IntKind.i64.wrap (x4+(1:Int))) (2:Int)))) (ae x5 (k0 ([],[],()) (IntKind.i64.wrap (x4+(1:Int))) (2:Int)) (ae (!r744.2) (k0 ([],[],()) (IntKind.i64.wrap (x4+(1:Int))) (2:Int)) (ae (x4==(0:Int)) (if 0≤(1:Int)∧(1:Int) < (r742.length:Int) then
if ((1:Int).toNat) < r742.length then
k1 x0 x1 x2 ((r742.getD ((1:Int).toNat) []),x3.2) x4
else none
else none) (if x3.2.1.length+[r744.1].length≤2513169434916 then
k1 x0 x1 x2 (x3.1,((x3.2.1++[r744.1]),x3.2.2)) x4
else none))))
else none
else none
else none
else none
theorem apd (bG) (cN) (h93:(kp bG).holds cl) (h94:(nB cN).holds cl) (x0 x1 x2 x3 x4 x5):exec cl N NJ (Pf x0 x1 x2 x3 x4 x5) K=(RG bG cN (fun y0 y1 y2=>K .ret (Pg y0 y1 y2)) (fun y0 y1 y2 y3 y4=>K .normal (gg y0 y1 y2 y3 y4)) x0 x1 x2 x3 x4 x5):=by
 rw [←aI h93]
 rw [←aI h94]
 kernel_rfl
theorem abY (x0 x1 x2):ah [0,2,3,4,5,6,7] (Pg x0 x1 x2)=(zQ x0 x1 x2):=by kernel_rfl
theorem abZ (x0 x1 x2 x3 x4):ah [0,2,3,4,5,6,7] (gg x0 x1 x2 x3 x4)=(Ph x0 x1 x2 x3 x4):=by kernel_rfl
def RH (k0:V3→ad→aC→ad→Int→Option R) (x0:V3) (x1:ad) (x2:aC) (x3:ad) (x4:Int):Option R:=
k0 x0 x1 x2 x3 (IntKind.i64.wrap (x4+(1:Int)))
theorem ape (x0 x1 x2 x3 x4):exec cl N NM (Ph x0 x1 x2 x3 x4) K=(RH (fun y0 y1 y2 y3 y4=>K .normal (gg y0 y1 y2 y3 y4)) x0 x1 x2 x3 x4):=by
 kernel_rfl
def RI (bG:V3→Option fo) (cN:V3→Option mC) (k0:ad→Int→Int→Option R) (k1:V3→ad→aC→ad→Int→Option R) (k2:V3→ad→aC→ad→Int→Option R) (x0:V3) (x1:ad) (x2:aC) (x3:ad) (x4:Int):Option R:=
(RB (RF (RG bG cN k0 ((RH k1)))) k2 x0 x1 x2 x3 x4)
theorem apf (bG) (cN) (h93:(kp bG).holds cl) (h94:(nB cN).holds cl) (x0 x1 x2 x3 x4):exec cl N yM (gg x0 x1 x2 x3 x4) K=(RI bG cN (fun y0 y1 y2=>K .ret (zQ y0 y1 y2)) (fun y0 y1 y2 y3 y4=>K .normal (gg y0 y1 y2 y3 y4)) (fun y0 y1 y2 y3 y4=>K (.exit 0) (gg y0 y1 y2 y3 y4)) x0 x1 x2 x3 x4):=by
 simp only [yM,bJ,bL,bK,bM,ao8,NN,NL,aP,b6,NK,apc,apd bG cN h93 h94,bZ,b5,bY,abY,abZ,ape]
 rfl
def II {R:Type} (bG:V3→Option fo) (cN:V3→Option mC) (k0:ad→Int→Int→Option R) (k1:V3→ad→aC→ad→Int→Option R):Nat→V3→ad→aC→ad→Int→Option R
 | 0,_,_,_,_,_=>none
 | m+1,x0,x1,x2,x3,x4=>(RI bG cN k0 (II bG cN k0 k1 m) k1 x0 x1 x2 x3 x4)
theorem adZ (bG) (cN) (h93:(kp bG).holds cl) (h94:(nB cN).holds cl):∀ (m) (x0 x1 x2 x3 x4),iter [0,2,5,6,7] (fun env K=>exec cl N yM env K) K m (gg x0 x1 x2 x3 x4)=II bG cN (fun y0 y1 y2=>K .ret (zQ y0 y1 y2)) (fun y0 y1 y2 y3 y4=>K (.exit 0) (gg y0 y1 y2 y3 y4)) m x0 x1 x2 x3 x4:=by
 intro m
 induction m with
 | zero=>intros; rfl
 | succ m ih=>
   intro x0 x1 x2 x3 x4
   simp only [bS,apf bG cN h93 h94,bU,bT,bV,TJ,ih]
   rfl
theorem ab0 (x0 x1 x2):ah [2,3,4,6] (zQ x0 x1 x2)=(nJ x0 x1 x2):=by kernel_rfl
theorem ab1 (x0 x1 x2 x3 x4):ah [2,3,4,6] (gg x0 x1 x2 x3 x4)=(s8 x1 x3):=by kernel_rfl
def RJ (N:Nat) (bG:V3→Option fo) (cN:V3→Option mC) (k0:ad→Int→Int→Option R) (k1:ad→ad→Option R) (x0:V3) (x1:ad) (x2:aC) (x3:ad) (x4:Int):Option R:=
II bG cN k0 (fun y0 y1 y2 y3 y4=>k1 y1 y3) N x0 x1 x2 x3 x4
theorem apg (bG) (cN) (h93:(kp bG).holds cl) (h94:(nB cN).holds cl) (x0 x1 x2 x3 x4):exec cl N EG (gg x0 x1 x2 x3 x4) K=(RJ N bG cN (fun y0 y1 y2=>K .ret (nJ y0 y1 y2)) (fun y0 y1=>K (.exit 0) (s8 y0 y1)) x0 x1 x2 x3 x4):=by
 simp only [EG,aP,bR,TJ,adZ bG cN h93 h94,ab0,ab1]
 rfl
theorem ab2 (x0 x1 x2):ah [2,3,4,6] (nJ x0 x1 x2)=(nJ x0 x1 x2):=by kernel_rfl
theorem ab3 (x0 x1):ah [2,3,4,6] (s8 x0 x1)=(s8 x0 x1):=by kernel_rfl
def RC (dd:ad→Option V1) (k0:ad→Int→Int→Option R) (k1:ad→Int→Int→Option R) (x0 x1:ad):Option R:=
(dd x1).bind fun r760=>
ae (r760.2 != (0:Int)) (ae (decide (r760.1≥(0:Int))) (k0 ([],[],()) (IntKind.i64.wrap (r760.1+(2:Int))) r760.2) (k0 ([],[],()) (1:Int) r760.2)) (k1 x1 (0:Int) (0:Int))
theorem ao9 (dd) (h67:(qa dd).holds cl) (x0 x1):exec cl N NH (s8 x0 x1) K=(RC dd (fun y0 y1 y2=>K .ret (nJ y0 y1 y2)) (fun y0 y1 y2=>K .ret (GI y0 y1 y2)) x0 x1):=by
 rw [←aI h67]
 kernel_rfl
def RE (N:Nat) (dd:ad→Option V1) (fE:V3→Option fo) (bG:V3→Option fo) (cN:V3→Option mC) (k0:ad→Int→Int→Option R) (k1:ad→Int→Int→Option R) (k2:ad→Int→Int→Option R) (k3:ad→Int→Int→Option R) (x0:V3):Option R:=
(RD fE k0 k1 (RA (RJ N bG cN k2 ((RC dd k2 k3)))) x0)
theorem apb (dd) (fE) (bG) (cN) (h67:(qa dd).holds cl) (h92:(zA fE).holds cl) (h93:(kp bG).holds cl) (h94:(nB cN).holds cl) (x0):exec cl N yL [(0,.v .str x0)] K=(RE N dd fE bG cN (fun y0 y1 y2=>K .ret (GG y0 y1 y2)) (fun y0 y1 y2=>K .ret (GH y0 y1 y2)) (fun y0 y1 y2=>K .ret (nJ y0 y1 y2)) (fun y0 y1 y2=>K .ret (GI y0 y1 y2)) x0):=by
 simp only [bJ,bL,bK,bM,apa fE h92,yK,NG,ao7,NF,aP,b6,apg bG cN h93 h94,bZ,b5,bY,ab2,ab3,ao9 dd h67]
 rfl
theorem aib (y0 y1 y2):af d69 .ret (GG y0 y1 y2)=some [.v ak y0,.v U2 y1,.v U2 y2]:=by kernel_rfl
theorem aic (y0 y1 y2):af d69 .ret (GH y0 y1 y2)=some [.v ak y0,.v U2 y1,.v U2 y2]:=by kernel_rfl
theorem aid (y0 y1 y2):af d69 .ret (nJ y0 y1 y2)=some [.v ak y0,.v U2 y1,.v U2 y2]:=by kernel_rfl
theorem aie (y0 y1 y2):af d69 .ret (GI y0 y1 y2)=some [.v ak y0,.v U2 y1,.v U2 y2]:=by kernel_rfl
def HO (N:Nat) (dd:ad→Option V1) (fE:V3→Option fo) (bG:V3→Option fo) (cN:V3→Option mC) (x0:V3) (k:ad→Int→Int→Option R):Option R:=
(RE N dd fE bG cN k k k k x0)
theorem XS (dd) (fE) (bG) (cN) (h67:(qa dd).holds cl) (h92:(zA fE).holds cl) (h93:(kp bG).holds cl) (h94:(nB cN).holds cl) (x0) (k:List E→Option R):exec cl N EF [(0,.v .str x0)] (fun e env=>(af d69 e env).bind k)=HO N dd fE bG cN x0 (fun r0 r1 r2=>k [.v ak r0,.v U2 r1,.v U2 r2]):=by
 simp only [EF,apb dd fE bG cN h67 h92 h93 h94,aib,aic,aid,aie,al]
 rfl
def F1 (S:V3→Option wY):aJ:=cA 69 .str S fun b=> [.v ak b.1,.v U2 b.2.1,.v U2 b.2.2]
def iE (N:Nat) (x0:V3):Option wY:=HO N (dd N) (fE N) (bG N) (cN N) x0 (fun (r0:ad) (r1:Int) (r2:Int)=>some (r0,r1,r2))
def QI (iE:V3→Option wY) (k0:ad→Option R):Option R:=
(iE ([111,114,116,104,111,103,114,97,112,104,121,32,108,97,116,105,110,10,97,32,97,47,118,51,32,49,32,97,110,121,119,104,101,114,101,10,101,32,101,47,118,51,32,49,32,97,110,121,119,104,101,114,101,10,105,32,105,47,118,51,32,49,32,97,110,121,119,104,101,114,101,10,111,32,111,47,118,51,32,49,32,97,110,121,119,104,101,114,101,10,117,32,117,47,118,51,32,49,32,97,110,121,119,104,101,114,101,10,121,32,121,47,118,51,32,49,32,97,110,121,119,104,101,114,101,10,97,95,32,97,95,47,118,50,32,49,32,97,110,121,119,104,101,114,101,10,101,95,32,101,95,47,118,50,32,49,32,97,110,121,119,104,101,114,101,10,105,95,32,105,95,47,118,50,32,49,32,97,110,121,119,104,101,114,101,10,111,95,32,111,95,47,118,50,32,49,32,97,110,121,119,104,101,114,101,10,117,95,32,117,95,47,118,50,32,49,32,97,110,121,119,104,101,114,101,10,121,95,32,121,95,47,118,50,32,49,32,97,110,121,119,104,101,114,101,10,97,94,32,97,94,47,118,49,32,49,32,97,110,121,119,104,101,114,101,10,101,94,32,101,94,47,118,49,32,49,32,97,110,121,119,104,101,114,101,10,105,94,32,105,94,47,118,49,32,49,32,97,110,121,119,104,101,114,101,10,111,94,32,111,94,47,118,49,32,49,32,97,110,121,119,104,101,114,101,10,117,94,32,117,94,47,118,49,32,49,32,97,110,121,119,104,101,114,101,10,121,94,32,121,94,47,118,49,32,49,32,97,110,121,119,104,101,114,101,10,97,101,32,97,101,47,100,50,32,49,32,97,110,121,119,104,101,114,101,10,97,117,32,97,117,47,100,50,32,49,32,97,110,121,119,104,101,114,101,10,111,101,32,111,101,47,100,50,32,49,32,97,110,121,119,104,101,114,101,10,101,117,32,101,117,47,100,50,32,51,32,97,110,121,119,104,101,114,101,10,105,32,105,47,103,32,48,32,115,116,97,114,116,10,105,32,105,47,103,32,105,47,103,32,48,32,98,101,116,119,101,101,110,10,117,32,117,47,103,32,48,32,115,116,97,114,116,10,117,32,117,47,103,32,48,32,98,101,116,119,101,101,110,10,106,32,106,47,103,32,48,32,97,110,121,119,104,101,114,101,10,118,32,118,47,103,32,48,32,97,110,121,119,104,101,114,101,10,113,117,32,113,117,47,109,32,48,32,98,101,102,111,114,101,10,103,117,32,103,117,47,109,32,50,32,98,101,102,111,114,101,10,115,117,32,115,47,115,32,117,47,103,32,51,32,98,101,102,111,114,101,10,98,32,98,47,109,32,48,32,97,110,121,119,104,101,114,101,10,99,32,99,47,109,32,48,32,97,110,121,119,104,101,114,101,10,100,32,100,47,109,32,48,32,97,110,121,119,104,101,114,101,10,102,32,102,47,109,32,48,32,97,110,121,119,104,101,114,101,10,103,32,103,47,109,32,48,32,97,110,121,119,104,101,114,101,10,107,32,107,47,109,32,48,32,97,110,121,119,104,101,114,101,10,112,32,112,47,109,32,48,32,97,110,121,119,104,101,114,101,10,116,32,116,47,109,32,48,32,97,110,121,119,104,101,114,101,10,108,32,108,47,108,32,48,32,97,110,121,119,104,101,114,101,10,114,32,114,47,108,32,48,32,97,110,121,119,104,101,114,101,10,109,32,109,47,110,32,48,32,97,110,121,119,104,101,114,101,10,110,32,110,47,110,32,48,32,97,110,121,119,104,101,114,101,10,115,32,115,47,115,32,48,32,97,110,121,119,104,101,114,101,10,120,32,120,47,120,32,48,32,97,110,121,119,104,101,114,101,10,122,32,122,47,120,32,48,32,97,110,121,119,104,101,114,101,10,104,32,104,47,98,32,48,32,97,110,121,119,104,101,114,101,10]:List UInt8)).bind fun r765=>
k0 r765.1
theorem anF (iE) (h69:(F1 iE).holds cl):exec cl N Mw [] K=(QI iE (fun y0=>K .ret [(0,.loc ak .no y0)])):=by
 rw [←aI h69]
 kernel_rfl
theorem ahC (y0):af d37 .ret [(0,.loc ak .no y0)]=some [.v ak y0]:=by kernel_rfl
def HB (iE:V3→Option wY) (k:ad→Option R):Option R:=
(QI iE k)
theorem XA (iE) (h69:(F1 iE).holds cl) (k:List E→Option R):exec cl N DP [] (fun e env=>(af d37 e env).bind k)=HB iE (fun r0=>k [.v ak r0]):=by
 simp only [DP,anF iE h69,ahC,al]
 rfl
def zx (S:Option sq):aJ:={A:=Unit,B:=ad,f:=37,enc:=fun a=> [],dec:=b9,S:=fun a=>S,aq:=fun b=> [.v ak b],ok:=(fun es b h=>iJ h)}
def gI (N:Nat):Option sq:=HB (iE N) (fun (r0:ad)=>some (r0))
def Hr (k0:Bool→Option R) (x0:Int):Option R:=
ae (decide (x0≥(97:Int))) (k0 (decide (x0≤(122:Int)))) (k0 false)
theorem alT (x0):exec cl N Lc [(0,.v U0 x0)] K=(Hr (fun y0=>K .ret [(2,.v .bool y0)]) x0):=by
 kernel_rfl
theorem agY (y0):af d149 .ret [(2,.v .bool y0)]=some [.v .bool y0]:=by kernel_rfl
def Aj (x0:Int) (k:Bool→Option R):Option R:=
(Hr k x0)
theorem Xd (x0) (k:List E→Option R):exec cl N CW [(0,.v U0 x0)] (fun e env=>(af d149 e env).bind k)=Aj x0 (fun r0=>k [.v .bool r0]):=by
 simp only [CW,alT,agY,al]
 rfl
def ny (S:Int→Option (Bool)):aJ:=cA 149 U0 S fun b=> [.v .bool b]
def cy (N:Nat) (x0:Int):Option (Bool):=Aj x0 (fun (r0:Bool)=>some (r0))
def Hs (k0:Bool→Option R) (x0:Int):Option R:=
ae (decide (x0≥(48:Int))) (k0 (decide (x0≤(57:Int)))) (k0 false)
theorem alU (x0):exec cl N Ld [(0,.v U0 x0)] K=(Hs (fun y0=>K .ret [(2,.v .bool y0)]) x0):=by
 kernel_rfl
theorem agZ (y0):af d150 .ret [(2,.v .bool y0)]=some [.v .bool y0]:=by kernel_rfl
def Ak (x0:Int) (k:Bool→Option R):Option R:=
(Hs k x0)
theorem Xf (x0) (k:List E→Option R):exec cl N CY [(0,.v U0 x0)] (fun e env=>(af d150 e env).bind k)=Ak x0 (fun r0=>k [.v .bool r0]):=by
 simp only [CY,alU,agZ,al]
 rfl
def p5 (S:Int→Option (Bool)):aJ:=cA 150 U0 S fun b=> [.v .bool b]
def cY (N:Nat) (x0:Int):Option (Bool):=Ak x0 (fun (r0:Bool)=>some (r0))
def Af (cy:Int→Option (Bool)) (k0:Int→Option R) (k1:V3→Int→Option R) (x0:V3):Option R:=
ae (x0==([]:List UInt8)) (k0 (0:Int)) (if 0≤(0:Int)∧(0:Int) < (x0.length:Int) then
(cy ((x0.getD (0:Int).toNat 0).toNat:Int)).bind fun r799=>
ae (!r799) (k0 (0:Int)) (k1 x0 (1:Int))
else none)
theorem alI (cy) (h149:(ny cy).holds cl) (x0):exec cl N xJ [(0,.v .str x0)] K=(Af cy (fun y0=>K .ret (iK y0)) (fun y0 y1=>exec cl N xI (cL y0 y1) K) x0):=by
 rw [←aI h149]
 delta xJ
 generalize xI=q
 revert q
 refine id ?_
 intro q
 kernel_rfl
theorem aap (x0 x1):ah [0,3] (cL x0 x1)=(cL x0 x1):=by kernel_rfl
def Ac (cy:Int→Option (Bool)) (cY:Int→Option (Bool)) (k0:V3→Int→Option R) (k1:Int→Option R) (k2:V3→Int→Option R) (x0:V3) (x1:Int):Option R:=
ae (decide (x1 < (x0.length:Int))) (if 0≤x1∧x1 < (x0.length:Int) then
let v801:Int:=((x0.getD x1.toNat 0).toNat:Int)
(cy v801).bind fun r802=>
ae r802 (k0 x0 (IntKind.i64.wrap (x1+(1:Int)))) ((cY v801).bind fun r804=>
ae r804 (k0 x0 (IntKind.i64.wrap (x1+(1:Int)))) (ae (v801==(45:Int)) (ae (decide ((IntKind.i64.wrap (x1+(1:Int))) < (x0.length:Int))) (let v809:Int:=(IntKind.i64.wrap (x1+(1:Int)))
if 0≤v809∧v809 < (x0.length:Int) then
(cy ((x0.getD v809.toNat 0).toNat:Int)).bind fun r811=>
ae r811 (k0 x0 (IntKind.i64.wrap (x1+(2:Int)))) (let v813:Int:=(IntKind.i64.wrap (x1+(1:Int)))
if 0≤v813∧v813 < (x0.length:Int) then
(cY ((x0.getD v813.toNat 0).toNat:Int)).bind fun r815=>
ae r815 (k0 x0 (IntKind.i64.wrap (x1+(2:Int)))) (k1 x1)
else none)
else none) (k1 x1)) (k1 x1)))
else none) (k2 x0 x1)
theorem alF (cy) (cY) (h149:(ny cy).holds cl) (h150:(p5 cY).holds cl) (x0 x1):exec cl N CN (cL x0 x1) K=(Ac cy cY (fun y0 y1=>K .normal [(0,.v .str y0),(2,.dead),(3,.v U2 y1)]) (fun y0=>K .ret (ql y0)) (fun y0 y1=>K (.exit 0) (cL y0 y1)) x0 x1):=by
 rw [←aI h149]
 rw [←aI h150]
 kernel_rfl
theorem aaq (x0 x1):ah [0,3] [(0,.v .str x0),(2,.dead),(3,.v U2 x1)]=(cL x0 x1):=by kernel_rfl
def wb {R:Type} (cy:Int→Option (Bool)) (cY:Int→Option (Bool)) (k0:Int→Option R) (k1:V3→Int→Option R):Nat→V3→Int→Option R
 | 0,_,_=>none
 | m+1,x0,x1=>(Ac cy cY (wb cy cY k0 k1 m) k0 k1 x0 x1)
theorem adv (cy) (cY) (h149:(ny cy).holds cl) (h150:(p5 cY).holds cl):∀ (m) (x0 x1),iter [0,3] (fun env K=>exec cl N CN env K) K m (cL x0 x1)=wb cy cY (fun y0=>K .ret (ql y0)) (fun y0 y1=>K (.exit 0) (cL y0 y1)) m x0 x1:=by
 intro m
 induction m with
 | zero=>intros; rfl
 | succ m ih=>
   intro x0 x1
   simp only [bS,alF cy cY h149 h150,bU,bT,bV,aaq,ih]
   rfl
theorem aar (x0):ah [2,3] (ql x0)=(jD x0):=by kernel_rfl
theorem aas (x0 x1):ah [2,3] (cL x0 x1)=(ia x1):=by kernel_rfl
def Ad (N:Nat) (cy:Int→Option (Bool)) (cY:Int→Option (Bool)) (k0:Int→Option R) (k1:Int→Option R) (x0:V3) (x1:Int):Option R:=
wb cy cY k0 (fun y0 y1=>k1 y1) N x0 x1
theorem alG (cy) (cY) (h149:(ny cy).holds cl) (h150:(p5 cY).holds cl) (x0 x1):exec cl N CO (cL x0 x1) K=(Ad N cy cY (fun y0=>K .ret (jD y0)) (fun y0=>K (.exit 0) (ia y0)) x0 x1):=by
 simp only [CO,aP,bR,aap,adv cy cY h149 h150,aar,aas]
 rfl
theorem aat (x0):ah [2,3] (jD x0)=(jD x0):=by kernel_rfl
theorem aau (x0):ah [2,3] (ia x0)=(ia x0):=by kernel_rfl
def Ae (k0:Int→Option R) (x0:Int):Option R:=
k0 x0
theorem alH (x0):exec cl N K2 (ia x0) K=(Ae (fun y0=>K .ret [(2,.v U2 y0)]) x0):=by
 kernel_rfl
def Ag (N:Nat) (cy:Int→Option (Bool)) (cY:Int→Option (Bool)) (k0:Int→Option R) (k1:Int→Option R) (k2:Int→Option R) (x0:V3):Option R:=
(Af cy k0 (Ad N cy cY k1 ((Ae k2))) x0)
theorem alJ (cy) (cY) (h149:(ny cy).holds cl) (h150:(p5 cY).holds cl) (x0):exec cl N xJ [(0,.v .str x0)] K=(Ag N cy cY (fun y0=>K .ret (iK y0)) (fun y0=>K .ret (jD y0)) (fun y0=>K .ret [(2,.v U2 y0)]) x0):=by
 simp only [bJ,bL,bK,bM,alI cy h149,xI,K1,aP,b6,alG cy cY h149 h150,bZ,b5,bY,aat,aau,alH]
 rfl
theorem agQ (y0):af d141 .ret (iK y0)=some [.v U2 y0]:=by kernel_rfl
theorem agR (y0):af d141 .ret (jD y0)=some [.v U2 y0]:=by kernel_rfl
theorem agS (y0):af d141 .ret [(2,.v U2 y0)]=some [.v U2 y0]:=by kernel_rfl
def tU (N:Nat) (cy:Int→Option (Bool)) (cY:Int→Option (Bool)) (x0:V3) (k:Int→Option R):Option R:=
(Ag N cy cY k k k x0)
theorem W8 (cy) (cY) (h149:(ny cy).holds cl) (h150:(p5 cY).holds cl) (x0) (k:List E→Option R):exec cl N CM [(0,.v .str x0)] (fun e env=>(af d141 e env).bind k)=tU N cy cY x0 (fun r0=>k [.v U2 r0]):=by
 simp only [CM,alJ cy cY h149 h150,agQ,agR,agS,al]
 rfl
def FC (S:V3→Option (Int)):aJ:=cA 141 .str S fun b=> [.v U2 b]
def gq (N:Nat) (x0:V3):Option (Int):=tU N (cy N) (cY N) x0 (fun (r0:Int)=>some (r0))
def Hc (gq:V3→Option (Int)) (k0:Bool→Option R) (x0:V3):Option R:=
ae (x0 != ([]:List UInt8)) (ae (decide ((x0.length:Int)≤(20:Int))) ((gq x0).bind fun r821=>
k0 (r821==(x0.length:Int))) (k0 false)) (k0 false)
theorem akS (gq) (h141:(FC gq).holds cl) (x0):exec cl N Kr [(0,.v .str x0)] K=(Hc gq (fun y0=>K .ret [(2,.v .bool y0)]) x0):=by
 rw [←aI h141]
 kernel_rfl
theorem agx (y0):af d121 .ret [(2,.v .bool y0)]=some [.v .bool y0]:=by kernel_rfl
def zZ (gq:V3→Option (Int)) (x0:V3) (k:Bool→Option R):Option R:=
(Hc gq k x0)
theorem WT (gq) (h141:(FC gq).holds cl) (x0) (k:List E→Option R):exec cl N Ci [(0,.v .str x0)] (fun e env=>(af d121 e env).bind k)=zZ gq x0 (fun r0=>k [.v .bool r0]):=by
 simp only [Ci,akS gq h141,agx,al]
 rfl
def zp (S:V3→Option (Bool)):aJ:=cA 121 .str S fun b=> [.v .bool b]
def eQ (N:Nat) (x0:V3):Option (Bool):=zZ (gq N) x0 (fun (r0:Bool)=>some (r0))
def vC (k0:V0→Option R) (x0:V3):Option R:=
k0 (x0.map fun b=>(b.toNat:Int))
theorem apt (x0):exec cl N yO [(0,.v .str x0)] K=(vC (fun y0=>exec cl N yN (nK y0) K) x0):=by
 delta yO
 generalize yN=q
 revert q
 refine id ?_
 intro q
 kernel_rfl
def vy (k0:V0→Int→Int→Option R) (x0:V0):Option R:=
k0 x0 (x0.length:Int) (0:Int)
theorem apo (x0):exec cl N NV (nK x0) K=(vy (fun y0 y1 y2=>K .normal (k9 y0 y1 y2)) x0):=by
 kernel_rfl
theorem TL (x0 x1 x2):ah [3,8,9,10] (k9 x0 x1 x2)=(k9 x0 x1 x2):=by kernel_rfl
def vz (k0:V0→Int→Int→Option R) (k1:V0→Int→Int→Option R) (x0:V0) (x1 x2:Int):Option R:=
ae (decide (x2 < x1)) (if 0≤x2∧x2 < (x0.length:Int) then
if x2.toNat < x0.length then
let v840:Int:=(x0.getD x2.toNat (0:Int))
ae (decide (v840≥(65:Int))) (ae (decide (v840≤(90:Int))) (if 0≤x2∧x2 < (x0.length:Int) then
if x2.toNat < x0.length then
k0 (x0.set x2.toNat (IntKind.u8.wrap ((IntKind.u8.wrap (v840 - (65:Int)))+(97:Int)))) x1 (IntKind.i64.wrap (x2+(1:Int)))
else none
else none) (k0 x0 x1 (IntKind.i64.wrap (x2+(1:Int))))) (k0 x0 x1 (IntKind.i64.wrap (x2+(1:Int))))
else none
else none) (k1 x0 x1 x2)
theorem apq (x0 x1 x2):exec cl N EN (k9 x0 x1 x2) K=(vz (fun y0 y1 y2=>K .normal (k9 y0 y1 y2)) (fun y0 y1 y2=>K (.exit 0) (k9 y0 y1 y2)) x0 x1 x2):=by
 kernel_rfl
def rB {R:Type} (k0:V0→Int→Int→Option R):Nat→V0→Int→Int→Option R
 | 0,_,_,_=>none
 | m+1,x0,x1,x2=>(vz (rB k0 m) k0 x0 x1 x2)
theorem ad1:∀ (m) (x0 x1 x2),iter [3,8,9,10] (fun env K=>exec cl N EN env K) K m (k9 x0 x1 x2)=rB (fun y0 y1 y2=>K (.exit 0) (k9 y0 y1 y2)) m x0 x1 x2:=by
 intro m
 induction m with
 | zero=>intros; rfl
 | succ m ih=>
   intro x0 x1 x2
   simp only [bS,apq,bU,bT,bV,TL,ih]
   rfl
theorem ab8 (x0 x1 x2):ah [3] (k9 x0 x1 x2)=(nK x0):=by kernel_rfl
def vA (N:Nat) (k0:V0→Option R) (x0:V0) (x1 x2:Int):Option R:=
rB (fun y0 y1 y2=>k0 y0) N x0 x1 x2
theorem apr (x0 x1 x2):exec cl N EO (k9 x0 x1 x2) K=(vA N (fun y0=>K (.exit 0) (nK y0)) x0 x1 x2):=by
 simp only [EO,aP,bR,TL,ad1,ab8]
 rfl
theorem ab9 (x0):ah [3] (nK x0)=(nK x0):=by kernel_rfl
def vB (k0:V3→Option R) (x0:V0):Option R:=
k0 (x0.map fun n=>UInt8.ofNat n.toNat)
theorem aps (x0):exec cl N NY (nK x0) K=(vB (fun y0=>K .ret [(2,.v .str y0)]) x0):=by
 kernel_rfl
def vD (N:Nat) (k0:V3→Option R) (x0:V3):Option R:=
(vC (vy (vA N ((vB k0)))) x0)
theorem apu (x0):exec cl N yO [(0,.v .str x0)] K=(vD N (fun y0=>K .ret [(2,.v .str y0)]) x0):=by
 simp only [bJ,bL,bK,bM,apt,yN,NX,apo,NW,aP,b6,apr,bZ,b5,bY,ab9,aps]
 rfl
theorem aik (y0):af d72 .ret [(2,.v .str y0)]=some [.v .str y0]:=by kernel_rfl
def qR (N:Nat) (x0:V3) (k:V3→Option R):Option R:=
(vD N k x0)
theorem XW (x0) (k:List E→Option R):exec cl N EM [(0,.v .str x0)] (fun e env=>(af d72 e env).bind k)=qR N x0 (fun r0=>k [.v .str r0]):=by
 simp only [EM,apu,aik,al]
 rfl
def sW (S:V3→Option V6):aJ:=cA 72 .str S fun b=> [.v .str b]
def dV (N:Nat) (x0:V3):Option V6:=qR N x0 (fun (r0:V3)=>some (r0))
def ur (k0:Int→Option R) (k1:V3→Option R) (x0:V3):Option R:=
ae (decide ((x0.length:Int) > (120:Int))) (k0 (3:Int)) (k1 x0)
theorem ame (x0):exec cl N xN [(0,.v .str x0)] K=(ur (fun y0=>K .ret (iK y0)) (fun y0=>exec cl N xM (zM y0) K) x0):=by
 delta xN
 generalize xM=q
 revert q
 refine id ?_
 intro q
 kernel_rfl
def ui (k0:V0→Int→Int→Option R) (x0:V3):Option R:=
k0 (x0.map fun b=>(b.toNat:Int)) ((x0.map fun b=>(b.toNat:Int)).length:Int) (0:Int)
theorem ama (x0):exec cl N Lm (zM x0) K=(ui (fun y0 y1 y2=>K .normal (la y0 y1 y2)) x0):=by
 kernel_rfl
theorem Tl (x0 x1 x2):ah [9,10,11] (la x0 x1 x2)=(la x0 x1 x2):=by kernel_rfl
def uj (k0:Int→Option R) (k1:V0→Int→Int→Option R) (k2:V0→Int→Int→Option R) (x0:V0) (x1 x2:Int):Option R:=
ae (decide (x2 < x1)) (if 0≤x2∧x2 < (x0.length:Int) then
if x2.toNat < x0.length then
let v858:Int:=(x0.getD x2.toNat (0:Int))
ae (decide (v858 < (32:Int))) (k0 (2:Int)) (ae (decide (v858 > (126:Int))) (k0 (2:Int)) (k1 x0 x1 (IntKind.i64.wrap (x2+(1:Int)))))
else none
else none) (k2 x0 x1 x2)
theorem amb (x0 x1 x2):exec cl N C7 (la x0 x1 x2) K=(uj (fun y0=>K .ret (GJ y0)) (fun y0 y1 y2=>K .normal (la y0 y1 y2)) (fun y0 y1 y2=>K (.exit 0) (la y0 y1 y2)) x0 x1 x2):=by
 kernel_rfl
def ri {R:Type} (k0:Int→Option R) (k1:V0→Int→Int→Option R):Nat→V0→Int→Int→Option R
 | 0,_,_,_=>none
 | m+1,x0,x1,x2=>(uj k0 (ri k0 k1 m) k1 x0 x1 x2)
theorem ady:∀ (m) (x0 x1 x2),iter [9,10,11] (fun env K=>exec cl N C7 env K) K m (la x0 x1 x2)=ri (fun y0=>K .ret (GJ y0)) (fun y0 y1 y2=>K (.exit 0) (la y0 y1 y2)) m x0 x1 x2:=by
 intro m
 induction m with
 | zero=>intros; rfl
 | succ m ih=>
   intro x0 x1 x2
   simp only [bS,amb,bU,bT,bV,Tl,ih]
   rfl
theorem aaB (x0):ah [2] (GJ x0)=[(2,.v U2 x0)]:=by kernel_rfl
theorem aaC (x0 x1 x2):ah [2] (la x0 x1 x2)=[(2,.dead)]:=by kernel_rfl
def uk (N:Nat) (k0:Int→Option R) (k1:Option R) (x0:V0) (x1 x2:Int):Option R:=
ri k0 (fun y0 y1 y2=>k1) N x0 x1 x2
theorem amc (x0 x1 x2):exec cl N C8 (la x0 x1 x2) K=(uk N (fun y0=>K .ret [(2,.v U2 y0)]) (K (.exit 0) [(2,.dead)]) x0 x1 x2):=by
 simp only [C8,aP,bR,Tl,ady,aaB,aaC]
 rfl
theorem aaD (x0):ah [2] [(2,.v U2 x0)]=[(2,.v U2 x0)]:=by kernel_rfl
theorem aaE:ah [2] [(2,.dead)]=[(2,.dead)]:=by kernel_rfl
def uq (k0:Int→Option R):Option R:=
k0 (0:Int)
theorem amd:exec cl N Lp [(2,.dead)] K=(uq (fun y0=>K .ret [(2,.v U2 y0)])):=by
 kernel_rfl
def uu (N:Nat) (k0:Int→Option R) (k1:Int→Option R) (x0:V3):Option R:=
(ur k0 (ui (uk N k1 (uq k1))) x0)
theorem amf (x0):exec cl N xN [(0,.v .str x0)] K=(uu N (fun y0=>K .ret (iK y0)) (fun y0=>K .ret [(2,.v U2 y0)]) x0):=by
 simp only [bJ,bL,bK,bM,ame,xM,Lo,ama,Ln,aP,b6,amc,bZ,b5,bY,aaD,aaE,amd]
 rfl
theorem ag7 (y0):af d158 .ret (iK y0)=some [.v U2 y0]:=by kernel_rfl
theorem ag8 (y0):af d158 .ret [(2,.v U2 y0)]=some [.v U2 y0]:=by kernel_rfl
def qE (N:Nat) (x0:V3) (k:Int→Option R):Option R:=
(uu N k k x0)
theorem Xl (x0) (k:List E→Option R):exec cl N C6 [(0,.v .str x0)] (fun e env=>(af d158 e env).bind k)=qE N x0 (fun r0=>k [.v U2 r0]):=by
 simp only [C6,amf,ag7,ag8,al]
 rfl
def zw (S:V3→Option (Int)):aJ:=cA 158 .str S fun b=> [.v U2 b]
def fb (N:Nat) (x0:V3):Option (Int):=qE N x0 (fun (r0:Int)=>some (r0))
def P2 (eR:V3→Int→Option (Int)) (k0:Int→Option R) (x0:V3) (x1:Int):Option R:=
(eR x0 x1).bind fun r869=>
k0 r869
theorem ald (eR) (h145:(jB eR).holds cl) (x0 x1):exec cl N KJ [(0,.v .str x0),(1,.v U0 x1)] K=(P2 eR (fun y0=>K .ret [(4,.v U2 y0)]) x0 x1):=by
 rw [←aI h145]
 kernel_rfl
theorem agF (y0):af d127 .ret [(4,.v U2 y0)]=some [.v U2 y0]:=by kernel_rfl
def Hg (eR:V3→Int→Option (Int)) (x0:V3) (x1:Int) (k:Int→Option R):Option R:=
(P2 eR k x0 x1)
theorem WZ (eR) (h145:(jB eR).holds cl) (x0 x1) (k:List E→Option R):exec cl N Cv [(0,.v .str x0),(1,.v U0 x1)] (fun e env=>(af d127 e env).bind k)=Hg eR x0 x1 (fun r0=>k [.v U2 r0]):=by
 simp only [Cv,ald eR h145,agF,al]
 rfl
def FA (S:V3→Int→Option (Int)):aJ:=c4 127 .str U0 S fun b=> [.v U2 b]
def iA (N:Nat) (x0:V3) (x1:Int):Option (Int):=Hg (eR N) x0 x1 (fun (r0:Int)=>some (r0))
def Sp (iA:V3→Int→Option (Int)) (k0:Bool→Option R) (x0:Int):Option R:=
ae (decide (x0≥(32:Int))) (ae (decide (x0≤(126:Int))) ((iA ([32,46,44,59,58,33,63,34,45,91,93,60,62,123,125]:List UInt8) x0).bind fun r874=>
k0 (decide (r874 < (0:Int)))) (k0 false)) (k0 false)
theorem aqi (iA) (h127:(FA iA).holds cl) (x0):exec cl N OF [(0,.v U0 x0)] K=(Sp iA (fun y0=>K .ret [(2,.v .bool y0)]) x0):=by
 rw [←aI h127]
 kernel_rfl
theorem aiJ (y0):af d98 .ret [(2,.v .bool y0)]=some [.v .bool y0]:=by kernel_rfl
def H2 (iA:V3→Int→Option (Int)) (x0:Int) (k:Bool→Option R):Option R:=
(Sp iA k x0)
theorem X7 (iA) (h127:(FA iA).holds cl) (x0) (k:List E→Option R):exec cl N Fk [(0,.v U0 x0)] (fun e env=>(af d98 e env).bind k)=H2 iA x0 (fun r0=>k [.v .bool r0]):=by
 simp only [Fk,aqi iA h127,aiJ,al]
 rfl
def mL (S:Int→Option (Bool)):aJ:=cA 98 U0 S fun b=> [.v .bool b]
def b8 (N:Nat) (x0:Int):Option (Bool):=H2 (iA N) x0 (fun (r0:Bool)=>some (r0))
def ug (fb:V3→Option (Int)) (k0:fM→Int→Option R) (k1:V3→fM→Option R) (x0:V3):Option R:=
(fb x0).bind fun r891=>
ae (r891 != (0:Int)) (k0 [] r891) (k1 x0 [])
theorem alZ (fb) (h158:(zw fb).holds cl) (x0):exec cl N xL [(0,.v .str x0)] K=(ug fb (fun y0 y1=>K .ret (GK y0 y1)) (fun y0 y1=>exec cl N xK [(0,.v .str y0),(5,.own true 179 dJ .no y1)] K) x0):=by
 rw [←aI h158]
 delta xL
 generalize xK=q
 revert q
 refine id ?_
 intro q
 kernel_rfl
def uc (k0:fM→V0→Int→Int→Option R) (x0:V3) (x1:fM):Option R:=
k0 x1 (x0.map fun b=>(b.toNat:Int)) ((x0.map fun b=>(b.toNat:Int)).length:Int) (0:Int)
theorem alV (x0 x1):exec cl N Le [(0,.v .str x0),(5,.own true 179 dJ .no x1)] K=(uc (fun y0 y1 y2 y3=>K .normal (lb y0 y1 y2 y3)) x0 x1):=by
 kernel_rfl
theorem Tk (x0 x1 x2 x3):ah [5,15,16,17] (lb x0 x1 x2 x3)=(lb x0 x1 x2 x3):=by kernel_rfl
def ud (b8:Int→Option (Bool)) (k0:fM→V0→Int→Int→Option R) (k1:fM→V0→Int→Int→Option R) (x0:fM) (x1:V0) (x2 x3:Int):Option R:=
ae (decide (x3 < x2)) (if 0≤x3∧x3 < (x1.length:Int) then
if x3.toNat < x1.length then
(b8 (x1.getD x3.toNat (0:Int))).bind fun r895=>
ae (!r895) (k0 x0 x1 x2 (IntKind.i64.wrap (x3+(1:Int)))) (ae (decide ((x0.length:Int) > (0:Int))) (let v898:Int:=(IntKind.i64.wrap ((x0.length:Int) - (1:Int)))
if 0≤v898∧v898 < (x0.length:Int) then
if v898.toNat < x0.length then
ae (((x0.getD v898.toNat ((0:Int),((0:Int),()))).2.1)==x3) (let v900:Int:=(IntKind.i64.wrap ((x0.length:Int) - (1:Int)))
if 0≤v900∧v900 < (x0.length:Int) then
if v900.toNat < x0.length then
if 0≤v900∧v900 < (x0.length:Int) then
if v900.toNat < x0.length then
k0 (x0.set v900.toNat ((x0.getD v900.toNat ((0:Int),((0:Int),()))).1,((IntKind.i64.wrap (((x0.getD v900.toNat ((0:Int),((0:Int),()))).2.1)+(1:Int))),(x0.getD v900.toNat ((0:Int),((0:Int),()))).2.2))) x1 x2 (IntKind.i64.wrap (x3+(1:Int)))
else none
else none
else none
else none) (let v905:sn:=(x3,(IntKind.i64.wrap (x3+(1:Int))),())
if x0.length+[v905].length≤8796093022208 then
k0 (x0++[v905]) x1 x2 (IntKind.i64.wrap (x3+(1:Int)))
else none)
else none
else none) (let v908:sn:=(x3,(IntKind.i64.wrap (x3+(1:Int))),())
if x0.length+[v908].length≤8796093022208 then
k0 (x0++[v908]) x1 x2 (IntKind.i64.wrap (x3+(1:Int)))
else none))
else none
else none) (k1 x0 x1 x2 x3)
theorem alW (b8) (h98:(mL b8).holds cl) (x0 x1 x2 x3):exec cl N C0 (lb x0 x1 x2 x3) K=(ud b8 (fun y0 y1 y2 y3=>K .normal (lb y0 y1 y2 y3)) (fun y0 y1 y2 y3=>K (.exit 0) (lb y0 y1 y2 y3)) x0 x1 x2 x3):=by
 rw [←aI h98]
 kernel_rfl
def oX {R:Type} (b8:Int→Option (Bool)) (k0:fM→V0→Int→Int→Option R):Nat→fM→V0→Int→Int→Option R
 | 0,_,_,_,_=>none
 | m+1,x0,x1,x2,x3=>(ud b8 (oX b8 k0 m) k0 x0 x1 x2 x3)
theorem adx (b8) (h98:(mL b8).holds cl):∀ (m) (x0 x1 x2 x3),iter [5,15,16,17] (fun env K=>exec cl N C0 env K) K m (lb x0 x1 x2 x3)=oX b8 (fun y0 y1 y2 y3=>K (.exit 0) (lb y0 y1 y2 y3)) m x0 x1 x2 x3:=by
 intro m
 induction m with
 | zero=>intros; rfl
 | succ m ih=>
   intro x0 x1 x2 x3
   simp only [bS,alW b8 h98,bU,bT,bV,Tk,ih]
   rfl
theorem aaz (x0 x1 x2 x3):ah [5] (lb x0 x1 x2 x3)=(s9 x0):=by kernel_rfl
def ue (N:Nat) (b8:Int→Option (Bool)) (k0:fM→Option R) (x0:fM) (x1:V0) (x2 x3:Int):Option R:=
oX b8 (fun y0 y1 y2 y3=>k0 y0) N x0 x1 x2 x3
theorem alX (b8) (h98:(mL b8).holds cl) (x0 x1 x2 x3):exec cl N C1 (lb x0 x1 x2 x3) K=(ue N b8 (fun y0=>K (.exit 0) (s9 y0)) x0 x1 x2 x3):=by
 simp only [C1,aP,bR,Tk,adx b8 h98,aaz]
 rfl
theorem aaA (x0):ah [5] (s9 x0)=(s9 x0):=by kernel_rfl
def uf (k0:Int→fM→Option R) (x0:fM):Option R:=
k0 (0:Int) x0
theorem alY (x0):exec cl N Lh (s9 x0) K=(uf (fun y0 y1=>K .ret (GL y0 y1)) x0):=by
 kernel_rfl
def uh (N:Nat) (b8:Int→Option (Bool)) (fb:V3→Option (Int)) (k0:fM→Int→Option R) (k1:Int→fM→Option R) (x0:V3):Option R:=
(ug fb k0 (uc (ue N b8 ((uf k1)))) x0)
theorem al0 (b8) (fb) (h98:(mL b8).holds cl) (h158:(zw fb).holds cl) (x0):exec cl N xL [(0,.v .str x0)] K=(uh N b8 fb (fun y0 y1=>K .ret (GK y0 y1)) (fun y0 y1=>K .ret (GL y0 y1)) x0):=by
 simp only [bJ,bL,bK,bM,alZ fb h158,xK,Lg,alV,Lf,aP,b6,alX b8 h98,bZ,b5,bY,aaA,alY]
 rfl
theorem ag0 (y0 y1):af d151 .ret (GK y0 y1)=some [.own true 179 dJ .no y0,.v U2 y1]:=by kernel_rfl
theorem ag1 (y0 y1):af d151 .ret (GL y0 y1)=some [.own true 179 dJ .no y1,.v U2 y0]:=by kernel_rfl
def qD (N:Nat) (b8:Int→Option (Bool)) (fb:V3→Option (Int)) (x0:V3) (k:fM→Int→Option R):Option R:=
(uh N b8 fb k (fun y0 y1=>k y1 y0) x0)
theorem Xg (b8) (fb) (h98:(mL b8).holds cl) (h158:(zw fb).holds cl) (x0) (k:List E→Option R):exec cl N CZ [(0,.v .str x0)] (fun e env=>(af d151 e env).bind k)=qD N b8 fb x0 (fun r0 r1=>k [.own true 179 dJ .no r0,.v U2 r1]):=by
 simp only [CZ,al0 b8 fb h98 h158,ag0,ag1,al]
 rfl
def FF (S:V3→Option wW):aJ:=cA 151 .str S fun b=> [.own true 179 dJ .no b.1,.v U2 b.2]
def hM (N:Nat) (x0:V3):Option wW:=qD N (b8 N) (fb N) x0 (fun (r0:fM) (r1:Int)=>some (r0,r1))
def Ho (dV:V3→Option V6) (hM:V3→Option wW) (k0:Int→Option R) (k1:Int→Option R) (x0:V3):Option R:=
ae (x0==([]:List UInt8)) (k0 (7:Int)) (ae (decide ((x0.length:Int) > (4:Int))) (k0 (3:Int)) ((dV x0).bind fun r919=>
ae (r919 != x0) (k0 (2:Int)) ((hM x0).bind fun r920=>
ae (r920.2 != (0:Int)) (k1 (2:Int)) (ae ((r920.1.length:Int) != (1:Int)) (k1 (2:Int)) (if 0≤(0:Int)∧(0:Int) < (r920.1.length:Int) then
if ((0:Int).toNat) < r920.1.length then
if 0≤(0:Int)∧(0:Int) < (r920.1.length:Int) then
if ((0:Int).toNat) < r920.1.length then
ae ((IntKind.i64.wrap (((r920.1.getD ((0:Int).toNat) ((0:Int),((0:Int),()))).2.1) - ((r920.1.getD ((0:Int).toNat) ((0:Int),((0:Int),()))).1))) != (x0.length:Int)) (k1 (2:Int)) (k1 (0:Int))
else none
else none
else none
else none)))))
theorem alK (dV) (hM) (h72:(sW dV).holds cl) (h151:(FF hM).holds cl) (x0):exec cl N K3 [(0,.v .str x0)] K=(Ho dV hM (fun y0=>K .ret (iK y0)) (fun y0=>K .ret [(2,.v U2 y0)]) x0):=by
 rw [←aI h72]
 rw [←aI h151]
 kernel_rfl
theorem agT (y0):af d142 .ret (iK y0)=some [.v U2 y0]:=by kernel_rfl
theorem agU (y0):af d142 .ret [(2,.v U2 y0)]=some [.v U2 y0]:=by kernel_rfl
def Ah (dV:V3→Option V6) (hM:V3→Option wW) (x0:V3) (k:Int→Option R):Option R:=
(Ho dV hM k k x0)
theorem W9 (dV) (hM) (h72:(sW dV).holds cl) (h151:(FF hM).holds cl) (x0) (k:List E→Option R):exec cl N CP [(0,.v .str x0)] (fun e env=>(af d142 e env).bind k)=Ah dV hM x0 (fun r0=>k [.v U2 r0]):=by
 simp only [CP,alK dV hM h72 h151,agT,agU,al]
 rfl
def zt (S:V3→Option (Int)):aJ:=cA 142 .str S fun b=> [.v U2 b]
def fa (N:Nat) (x0:V3):Option (Int):=Ah (dV N) (hM N) x0 (fun (r0:Int)=>some (r0))
def Ht (k0:Bool→Option R) (k1:Bool→Option R) (x0:aN):Option R:=
ae (x0.1==(1:Int)) (ae (decide (x0.2.1≥(1:Int))) (k0 (decide (x0.2.1≤(3:Int)))) (k0 false)) (ae (x0.1==(2:Int)) (k0 (x0.2.1==(2:Int))) (k1 (x0.2.1==(0:Int))))
theorem al6 (x0):exec cl N Li [(0,.v ay x0)] K=(Ht (fun y0=>K .ret (ta y0)) (fun y0=>K .ret [(2,.v .bool y0)]) x0):=by
 kernel_rfl
theorem ag2 (y0):af d152 .ret (ta y0)=some [.v .bool y0]:=by kernel_rfl
theorem ag3 (y0):af d152 .ret [(2,.v .bool y0)]=some [.v .bool y0]:=by kernel_rfl
def Al (x0:aN) (k:Bool→Option R):Option R:=
(Ht k k x0)
theorem Xh (x0) (k:List E→Option R):exec cl N C2 [(0,.v ay x0)] (fun e env=>(af d152 e env).bind k)=Al x0 (fun r0=>k [.v .bool r0]):=by
 simp only [C2,al6,ag2,ag3,al]
 rfl
def FG (S:aN→Option (Bool)):aJ:=cA 152 ay S fun b=> [.v .bool b]
def gr (N:Nat) (x0:aN):Option (Bool):=Al x0 (fun (r0:Bool)=>some (r0))
def Hw (k0:Bool→Option R) (x0:Int):Option R:=
ae (decide (x0≥(97:Int))) (ae (decide (x0≤(122:Int))) (k0 true) (ae (decide (x0≥(48:Int))) (ae (decide (x0≤(57:Int))) (k0 true) (ae (x0==(95:Int)) (k0 true) (ae (x0==(94:Int)) (k0 true) (k0 (x0==(39:Int)))))) (ae (x0==(95:Int)) (k0 true) (ae (x0==(94:Int)) (k0 true) (k0 (x0==(39:Int))))))) (ae (decide (x0≥(48:Int))) (ae (decide (x0≤(57:Int))) (k0 true) (ae (x0==(95:Int)) (k0 true) (ae (x0==(94:Int)) (k0 true) (k0 (x0==(39:Int)))))) (ae (x0==(95:Int)) (k0 true) (ae (x0==(94:Int)) (k0 true) (k0 (x0==(39:Int))))))
theorem al9 (x0):exec cl N Ll [(0,.v U3 x0)] K=(Hw (fun y0=>K .ret [(2,.v .bool y0)]) x0):=by
 kernel_rfl
theorem ag6 (y0):af d155 .ret [(2,.v .bool y0)]=some [.v .bool y0]:=by kernel_rfl
def Ap (x0:Int) (k:Bool→Option R):Option R:=
(Hw k x0)
theorem Xk (x0) (k:List E→Option R):exec cl N C5 [(0,.v U3 x0)] (fun e env=>(af d155 e env).bind k)=Ap x0 (fun r0=>k [.v .bool r0]):=by
 simp only [C5,al9,ag6,al]
 rfl
def FJ (S:Int→Option (Bool)):aJ:=cA 155 U3 S fun b=> [.v .bool b]
def gx (N:Nat) (x0:Int):Option (Bool):=Ap x0 (fun (r0:Bool)=>some (r0))
def Hv (gx:Int→Option (Bool)) (k0:Bool→Option R) (x0:Int):Option R:=
(gx x0).bind fun r986=>
k0 (!r986)
theorem al8 (gx) (h155:(FJ gx).holds cl) (x0):exec cl N Lk [(0,.v U3 x0)] K=(Hv gx (fun y0=>K .ret [(2,.v .bool y0)]) x0):=by
 rw [←aI h155]
 kernel_rfl
theorem ag5 (y0):af d154 .ret [(2,.v .bool y0)]=some [.v .bool y0]:=by kernel_rfl
def Ao (gx:Int→Option (Bool)) (x0:Int) (k:Bool→Option R):Option R:=
(Hv gx k x0)
theorem Xj (gx) (h155:(FJ gx).holds cl) (x0) (k:List E→Option R):exec cl N C4 [(0,.v U3 x0)] (fun e env=>(af d154 e env).bind k)=Ao gx x0 (fun r0=>k [.v .bool r0]):=by
 simp only [C4,al8 gx h155,ag5,al]
 rfl
def FI (S:Int→Option (Bool)):aJ:=cA 154 U3 S fun b=> [.v .bool b]
def gw (N:Nat) (x0:Int):Option (Bool):=Ao (gx N) x0 (fun (r0:Bool)=>some (r0))
def uB (k0:V3→bW→Bool→Option R) (x0:V3) (x1:bW) (x2:Bool):Option R:=
k0 x0 x1 x2
theorem amn (x0 x1 x2):exec cl N Lv (tc x0 x1 x2) K=(uB (fun y0 y1 y2=>K .normal (tc y0 y1 y2)) x0 x1 x2):=by
 kernel_rfl
def uC (k0:bW→Bool→V3→Nat→Option R) (x0:V3) (x1:bW) (x2:Bool):Option R:=
k0 x1 x2 x0 (0:Nat)
theorem amo (x0 x1 x2):exec cl N Lw (tc x0 x1 x2) K=(uC (fun y0 y1 y2 y3=>K .normal (nL y0 y1 y2 y3)) x0 x1 x2):=by
 kernel_rfl
theorem aaJ (x0 x1 x2 x3):ah [1,2,10] (nL x0 x1 x2 x3)=(nL x0 x1 x2 x3):=by kernel_rfl
def uD (k0:Int→Option R) (k1:bW→Bool→V3→Nat→Option R) (k2:bW→Bool→V3→Nat→Bool→Option R) (x0:bW) (x1:Bool) (x2:V3) (x3:Nat):Option R:=
ae (decide (x3 < x2.length)) ((x0 ((((Utf8.decode ⟨⟨x2⟩⟩ x3).1:Nat):Int),())).bind fun r992=>
ae (r992==x1) (k0 ((x3:Nat):Int)) (k1 x0 x1 x2 (x3+(Utf8.decode ⟨⟨x2⟩⟩ x3).2))) (k2 x0 x1 x2 x3 false)
theorem amp (x0 x1 x2 x3):exec cl N De (nL x0 x1 x2 x3) K=(uD (fun y0=>K .ret (GM y0)) (fun y0 y1 y2 y3=>K .normal [(1,.v lW y0),(2,.v .bool y1),(6,.dead),(10,.it y2 y3)]) (fun y0 y1 y2 y3 y4=>K (.exit 0) (GN y0 y1 y2 y3 y4)) x0 x1 x2 x3):=by
 kernel_rfl
theorem aaK (x0 x1 x2 x3):ah [1,2,10] [(1,.v lW x0),(2,.v .bool x1),(6,.dead),(10,.it x2 x3)]=(nL x0 x1 x2 x3):=by kernel_rfl
def rk {R:Type} (k0:Int→Option R) (k1:bW→Bool→V3→Nat→Bool→Option R):Nat→bW→Bool→V3→Nat→Option R
 | 0,_,_,_,_=>none
 | m+1,x0,x1,x2,x3=>(uD k0 (rk k0 k1 m) k1 x0 x1 x2 x3)
theorem adA:∀ (m) (x0 x1 x2 x3),iter [1,2,10] (fun env K=>exec cl N De env K) K m (nL x0 x1 x2 x3)=rk (fun y0=>K .ret (GM y0)) (fun y0 y1 y2 y3 y4=>K (.exit 0) (GN y0 y1 y2 y3 y4)) m x0 x1 x2 x3:=by
 intro m
 induction m with
 | zero=>intros; rfl
 | succ m ih=>
   intro x0 x1 x2 x3
   simp only [bS,amp,bU,bT,bV,aaK,ih]
   rfl
theorem aaL (x0):ah [6] (GM x0)=[(6,.v U2 x0)]:=by kernel_rfl
theorem aaM (x0 x1 x2 x3 x4):ah [6] (GN x0 x1 x2 x3 x4)=[(6,.dead)]:=by kernel_rfl
def uE (N:Nat) (k0:Int→Option R) (k1:Option R) (x0:bW) (x1:Bool) (x2:V3) (x3:Nat):Option R:=
rk k0 (fun y0 y1 y2 y3 y4=>k1) N x0 x1 x2 x3
theorem amq (x0 x1 x2 x3):exec cl N Df (nL x0 x1 x2 x3) K=(uE N (fun y0=>K .ret [(6,.v U2 y0)]) (K (.exit 0) [(6,.dead)]) x0 x1 x2 x3):=by
 simp only [Df,aP,bR,aaJ,adA,aaL,aaM]
 rfl
theorem aaN (x0):ah [6] [(6,.v U2 x0)]=[(6,.v U2 x0)]:=by kernel_rfl
theorem aaO:ah [6] [(6,.dead)]=[(6,.dead)]:=by kernel_rfl
def uF (k0:Int→Option R):Option R:=
k0 (-1:Int)
theorem amr:exec cl N Lz [(6,.dead)] K=(uF (fun y0=>K .ret [(6,.v U2 y0)])):=by
 kernel_rfl
def uG (N:Nat) (k0:Int→Option R) (x0:V3) (x1:bW) (x2:Bool):Option R:=
(uB (uC (uE N k0 (uF k0))) x0 x1 x2)
theorem ams (x0 x1 x2):exec cl N Dg (tc x0 x1 x2) K=(uG N (fun y0=>K .ret [(6,.v U2 y0)]) x0 x1 x2):=by
 simp only [Dg,bJ,bL,bK,bM,amn,LA,Ly,amo,Lx,aP,b6,amq,bZ,b5,bY,aaN,aaO,amr]
 rfl
theorem ahc (y0):af d160 .ret [(6,.v U2 y0)]=some [.v U2 y0]:=by kernel_rfl
def qF (N:Nat) (x0:V3) (x1:bW) (x2:Bool) (k:Int→Option R):Option R:=
(uG N k x0 x1 x2)
theorem Xo (x0 x1 x2) (k:List E→Option R):exec cl N Dd (tc x0 x1 x2) (fun e env=>(af d160 e env).bind k)=qF N x0 x1 x2 (fun r0=>k [.v U2 r0]):=by
 simp only [Dd,ams,ahc,al]
 rfl
def FL (S:V3→bW→Bool→Option (Int)):aJ:=OW 160 .str lW .bool S fun b=> [.v U2 b]
def gz (N:Nat) (x0:V3) (x1:bW) (x2:Bool):Option (Int):=qF N x0 x1 x2 (fun (r0:Int)=>some (r0))
def Hx (gz:V3→bW→Bool→Option (Int)) (k0:Int→Option R) (x0:V3) (x1:bW):Option R:=
(gz x0 x1 true).bind fun r994=>
k0 r994
theorem amg (gz) (h160:(FL gz).holds cl) (x0 x1):exec cl N Lq (zR x0 x1) K=(Hx gz (fun y0=>K .ret [(4,.v U2 y0)]) x0 x1):=by
 rw [←aI h160]
 kernel_rfl
theorem ag9 (y0):af d159 .ret [(4,.v U2 y0)]=some [.v U2 y0]:=by kernel_rfl
def Aq (gz:V3→bW→Bool→Option (Int)) (x0:V3) (x1:bW) (k:Int→Option R):Option R:=
(Hx gz k x0 x1)
theorem Xm (gz) (h160:(FL gz).holds cl) (x0 x1) (k:List E→Option R):exec cl N C9 (zR x0 x1) (fun e env=>(af d159 e env).bind k)=Aq gz x0 x1 (fun r0=>k [.v U2 r0]):=by
 simp only [C9,amg gz h160,ag9,al]
 rfl
def FK (S:V3→bW→Option (Int)):aJ:=c4 159 .str lW S fun b=> [.v U2 b]
def gy (N:Nat) (x0:V3) (x1:bW):Option (Int):=Aq (gz N) x0 x1 (fun (r0:Int)=>some (r0))
def Hu (gy:V3→bW→Option (Int)) (k0:Bool→Option R) (x0:V3) (x1:bW):Option R:=
(gy x0 x1).bind fun r997=>
k0 (decide (r997≥(0:Int)))
theorem al7 (gy) (h159:(FK gy).holds cl) (x0 x1):exec cl N Lj (zR x0 x1) K=(Hu gy (fun y0=>K .ret [(4,.v .bool y0)]) x0 x1):=by
 rw [←aI h159]
 kernel_rfl
theorem ag4 (y0):af d153 .ret [(4,.v .bool y0)]=some [.v .bool y0]:=by kernel_rfl
def Am (gy:V3→bW→Option (Int)) (x0:V3) (x1:bW) (k:Bool→Option R):Option R:=
(Hu gy k x0 x1)
theorem Xi (gy) (h159:(FK gy).holds cl) (x0 x1) (k:List E→Option R):exec cl N C3 (zR x0 x1) (fun e env=>(af d153 e env).bind k)=Am gy x0 x1 (fun r0=>k [.v .bool r0]):=by
 simp only [C3,al7 gy h159,ag4,al]
 rfl
def FH (S:V3→bW→Option (Bool)):aJ:=c4 153 .str lW S fun b=> [.v .bool b]
def gu (N:Nat) (x0:V3) (x1:bW):Option (Bool):=Am (gy N) x0 x1 (fun (r0:Bool)=>some (r0))
def Hp (gr:aN→Option (Bool)) (gu:V3→bW→Option (Bool)) (gw:Int→Option (Bool)) (k0:Int→Option R) (x0:aN):Option R:=
ae (decide (x0.1 < (1:Int))) (k0 (1:Int)) (ae (decide (x0.1 > (9:Int))) (k0 (1:Int)) ((gr x0).bind fun r1002=>
ae (!r1002) (k0 (6:Int)) (ae (x0.2.2.1==([]:List UInt8)) (k0 (7:Int)) (ae (decide ((x0.2.2.1.length:Int) > (8:Int))) (k0 (3:Int)) ((gu x0.2.2.1 (fun (x1005:V4)=>((gw x1005.1).bind fun b1006=>some [.v .bool b1006]).bind (lN .bool))).bind fun r1007=>
ae r1007 (k0 (2:Int)) (k0 (0:Int)))))))
theorem alL (gr) (gu) (gw) (h152:(FG gr).holds cl) (h153:(FH gu).holds cl) (h154:(FI gw).holds cl) (x0):exec cl N K4 [(0,.v ay x0)] K=(Hp gr gu gw (fun y0=>K .ret [(2,.v U2 y0)]) x0):=by
 rw [←aI h152]
 rw [←aI h153]
 rw [←aI h154]
 kernel_rfl
theorem agV (y0):af d143 .ret [(2,.v U2 y0)]=some [.v U2 y0]:=by kernel_rfl
def Ai (gr:aN→Option (Bool)) (gu:V3→bW→Option (Bool)) (gw:Int→Option (Bool)) (x0:aN) (k:Int→Option R):Option R:=
(Hp gr gu gw k x0)
theorem Xa (gr) (gu) (gw) (h152:(FG gr).holds cl) (h153:(FH gu).holds cl) (h154:(FI gw).holds cl) (x0) (k:List E→Option R):exec cl N CQ [(0,.v ay x0)] (fun e env=>(af d143 e env).bind k)=Ai gr gu gw x0 (fun r0=>k [.v U2 r0]):=by
 simp only [CQ,alL gr gu gw h152 h153 h154,agV,al]
 rfl
def pZ (S:aN→Option (Int)):aJ:=cA 143 ay S fun b=> [.v U2 b]
def c6 (N:Nat) (x0:aN):Option (Int):=Ai (gr N) (gu N) (gw N) x0 (fun (r0:Int)=>some (r0))
def tM (fa:V3→Option (Int)) (k0:Int→Option R) (k1:aO→Option R) (x0:aO):Option R:=
(fa x0.1).bind fun r1015=>
ae (r1015 != (0:Int)) (k0 r1015) (ae ((x0.2.1.length:Int)==(0:Int)) (k0 (7:Int)) (ae (decide ((x0.2.1.length:Int) > (2:Int))) (k0 (3:Int)) (k1 x0)))
theorem akX (fa) (h142:(zt fa).holds cl) (x0):exec cl N xy [(0,.v aB x0)] K=(tM fa (fun y0=>K .ret (e7 y0)) (fun y0=>exec cl N xx (iL y0) K) x0):=by
 rw [←aI h142]
 delta xy
 generalize xx=q
 revert q
 refine id ?_
 intro q
 kernel_rfl
def tI (k0:aO→ar→Int→Int→Option R) (x0:aO):Option R:=
k0 x0 x0.2.1 (x0.2.1.length:Int) (0:Int)
theorem akT (x0):exec cl N Ks (iL x0) K=(tI (fun y0 y1 y2 y3=>K .normal (ld y0 y1 y2 y3)) x0):=by
 kernel_rfl
theorem Tc (x0 x1 x2 x3):ah [1,22,23,24] (ld x0 x1 x2 x3)=(ld x0 x1 x2 x3):=by kernel_rfl
def tJ (c6:aN→Option (Int)) (k0:Int→Option R) (k1:aO→ar→Int→Int→Option R) (k2:aO→ar→Int→Int→Option R) (x0:aO) (x1:ar) (x2 x3:Int):Option R:=
ae (decide (x3 < x2)) (if 0≤x3∧x3 < (x1.length:Int) then
(c6 (x1.getD x3.toNat ((0:Int),((0:Int),([],()))))).bind fun r1020=>
ae (r1020 != (0:Int)) (k0 r1020) (k1 x0 x1 x2 (IntKind.i64.wrap (x3+(1:Int))))
else none) (k2 x0 x1 x2 x3)
theorem akU (c6) (h143:(pZ c6).holds cl) (x0 x1 x2 x3):exec cl N Ck (ld x0 x1 x2 x3) K=(tJ c6 (fun y0=>K .ret (GO y0)) (fun y0 y1 y2 y3=>K .normal (ld y0 y1 y2 y3)) (fun y0 y1 y2 y3=>K (.exit 0) (ld y0 y1 y2 y3)) x0 x1 x2 x3):=by
 rw [←aI h143]
 kernel_rfl
def rb {R:Type} (c6:aN→Option (Int)) (k0:Int→Option R) (k1:aO→ar→Int→Int→Option R):Nat→aO→ar→Int→Int→Option R
 | 0,_,_,_,_=>none
 | m+1,x0,x1,x2,x3=>(tJ c6 k0 (rb c6 k0 k1 m) k1 x0 x1 x2 x3)
theorem ado (c6) (h143:(pZ c6).holds cl):∀ (m) (x0 x1 x2 x3),iter [1,22,23,24] (fun env K=>exec cl N Ck env K) K m (ld x0 x1 x2 x3)=rb c6 (fun y0=>K .ret (GO y0)) (fun y0 y1 y2 y3=>K (.exit 0) (ld y0 y1 y2 y3)) m x0 x1 x2 x3:=by
 intro m
 induction m with
 | zero=>intros; rfl
 | succ m ih=>
   intro x0 x1 x2 x3
   simp only [bS,akU c6 h143,bU,bT,bV,Tc,ih]
   rfl
theorem Z7 (x0):ah [1,2] (GO x0)=(e7 x0):=by kernel_rfl
theorem Z8 (x0 x1 x2 x3):ah [1,2] (ld x0 x1 x2 x3)=(iL x0):=by kernel_rfl
def tK (N:Nat) (c6:aN→Option (Int)) (k0:Int→Option R) (k1:aO→Option R) (x0:aO) (x1:ar) (x2 x3:Int):Option R:=
rb c6 k0 (fun y0 y1 y2 y3=>k1 y0) N x0 x1 x2 x3
theorem akV (c6) (h143:(pZ c6).holds cl) (x0 x1 x2 x3):exec cl N Cl (ld x0 x1 x2 x3) K=(tK N c6 (fun y0=>K .ret (e7 y0)) (fun y0=>K (.exit 0) (iL y0)) x0 x1 x2 x3):=by
 simp only [Cl,aP,bR,Tc,ado c6 h143,Z7,Z8]
 rfl
theorem Z9 (x0):ah [1,2] (e7 x0)=(e7 x0):=by kernel_rfl
theorem aaa (x0):ah [1,2] (iL x0)=(iL x0):=by kernel_rfl
def tL (k0:Int→Option R) (x0:aO):Option R:=
ae (decide (x0.2.2.1 < (0:Int))) (k0 (6:Int)) (ae (decide (x0.2.2.1 > (99:Int))) (k0 (6:Int)) (ae (decide (x0.2.2.2.1 < (0:Int))) (k0 (6:Int)) (ae (decide (x0.2.2.2.1 > (4:Int))) (k0 (6:Int)) (k0 (0:Int)))))
theorem akW (x0):exec cl N Kv (iL x0) K=(tL (fun y0=>K .ret [(2,.v U2 y0)]) x0):=by
 kernel_rfl
def tN (N:Nat) (fa:V3→Option (Int)) (c6:aN→Option (Int)) (k0:Int→Option R) (k1:Int→Option R) (x0:aO):Option R:=
(tM fa k0 (tI (tK N c6 k0 ((tL k1)))) x0)
theorem akY (fa) (c6) (h142:(zt fa).holds cl) (h143:(pZ c6).holds cl) (x0):exec cl N xy [(0,.v aB x0)] K=(tN N fa c6 (fun y0=>K .ret (e7 y0)) (fun y0=>K .ret [(2,.v U2 y0)]) x0):=by
 simp only [bJ,bL,bK,bM,akX fa h142,xx,Ku,akT,Kt,aP,b6,akV c6 h143,bZ,b5,bY,Z9,aaa,akW]
 rfl
theorem agy (y0):af d122 .ret (e7 y0)=some [.v U2 y0]:=by kernel_rfl
theorem agz (y0):af d122 .ret [(2,.v U2 y0)]=some [.v U2 y0]:=by kernel_rfl
def qA (N:Nat) (fa:V3→Option (Int)) (c6:aN→Option (Int)) (x0:aO) (k:Int→Option R):Option R:=
(tN N fa c6 k k x0)
theorem WU (fa) (c6) (h142:(zt fa).holds cl) (h143:(pZ c6).holds cl) (x0) (k:List E→Option R):exec cl N Cj [(0,.v aB x0)] (fun e env=>(af d122 e env).bind k)=qA N fa c6 x0 (fun r0=>k [.v U2 r0]):=by
 simp only [Cj,akY fa c6 h142 h143,agy,agz,al]
 rfl
def pU (S:aO→Option (Int)):aJ:=cA 122 aB S fun b=> [.v U2 b]
def cW (N:Nat) (x0:aO):Option (Int):=qA N (fa N) (c6 N) x0 (fun (r0:Int)=>some (r0))
def tS (k0:Bool→Option R) (k1:ar→ar→Option R) (x0 x1:ar):Option R:=
ae ((x0.length:Int) != (x1.length:Int)) (k0 false) (k1 x0 x1)
theorem ak5 (x0 x1):exec cl N xA (qm x0 x1) K=(tS (fun y0=>K .ret (hY y0)) (fun y0 y1=>exec cl N xz (zO y0 y1) K) x0 x1):=by
 delta xA
 generalize xz=q
 revert q
 refine id ?_
 intro q
 kernel_rfl
def tO (k0:ar→ar→Int→Int→Option R) (x0 x1:ar):Option R:=
k0 x0 x1 (x0.length:Int) (0:Int)
theorem ak1 (x0 x1):exec cl N Ky (zO x0 x1) K=(tO (fun y0 y1 y2 y3=>K .normal (lf y0 y1 y2 y3)) x0 x1):=by
 kernel_rfl
theorem Td (x0 x1 x2 x3):ah [0,1,12,13] (lf x0 x1 x2 x3)=(lf x0 x1 x2 x3):=by kernel_rfl
def tP (k0:Bool→Option R) (k1:ar→ar→Int→Int→Option R) (k2:ar→ar→Int→Int→Option R) (x0 x1:ar) (x2 x3:Int):Option R:=
ae (decide (x3 < x2)) (if 0≤x3∧x3 < (x0.length:Int) then
if 0≤x3∧x3 < (x1.length:Int) then
ae (!(((x0.getD x3.toNat ((0:Int),((0:Int),([],())))).1==(x1.getD x3.toNat ((0:Int),((0:Int),([],())))).1)&&(((x0.getD x3.toNat ((0:Int),((0:Int),([],())))).2.1==(x1.getD x3.toNat ((0:Int),((0:Int),([],())))).2.1)&&(((x0.getD x3.toNat ((0:Int),((0:Int),([],())))).2.2.1==(x1.getD x3.toNat ((0:Int),((0:Int),([],())))).2.2.1)&&true)))) (k0 false) (k1 x0 x1 x2 (IntKind.i64.wrap (x3+(1:Int))))
else none
else none) (k2 x0 x1 x2 x3)
theorem ak2 (x0 x1 x2 x3):exec cl N Cp (lf x0 x1 x2 x3) K=(tP (fun y0=>K .ret (qo y0)) (fun y0 y1 y2 y3=>K .normal (lf y0 y1 y2 y3)) (fun y0 y1 y2 y3=>K (.exit 0) (lf y0 y1 y2 y3)) x0 x1 x2 x3):=by
 kernel_rfl
def rh {R:Type} (k0:Bool→Option R) (k1:ar→ar→Int→Int→Option R):Nat→ar→ar→Int→Int→Option R
 | 0,_,_,_,_=>none
 | m+1,x0,x1,x2,x3=>(tP k0 (rh k0 k1 m) k1 x0 x1 x2 x3)
theorem adp:∀ (m) (x0 x1 x2 x3),iter [0,1,12,13] (fun env K=>exec cl N Cp env K) K m (lf x0 x1 x2 x3)=rh (fun y0=>K .ret (qo y0)) (fun y0 y1 y2 y3=>K (.exit 0) (lf y0 y1 y2 y3)) m x0 x1 x2 x3:=by
 intro m
 induction m with
 | zero=>intros; rfl
 | succ m ih=>
   intro x0 x1 x2 x3
   simp only [bS,ak2,bU,bT,bV,Td,ih]
   rfl
theorem aab (x0):ah [4] (qo x0)=[(4,.v .bool x0)]:=by kernel_rfl
theorem aac (x0 x1 x2 x3):ah [4] (lf x0 x1 x2 x3)=[(4,.dead)]:=by kernel_rfl
def tQ (N:Nat) (k0:Bool→Option R) (k1:Option R) (x0 x1:ar) (x2 x3:Int):Option R:=
rh k0 (fun y0 y1 y2 y3=>k1) N x0 x1 x2 x3
theorem ak3 (x0 x1 x2 x3):exec cl N Cq (lf x0 x1 x2 x3) K=(tQ N (fun y0=>K .ret [(4,.v .bool y0)]) (K (.exit 0) [(4,.dead)]) x0 x1 x2 x3):=by
 simp only [Cq,aP,bR,Td,adp,aab,aac]
 rfl
theorem aad (x0):ah [4] [(4,.v .bool x0)]=[(4,.v .bool x0)]:=by kernel_rfl
theorem aae:ah [4] [(4,.dead)]=[(4,.dead)]:=by kernel_rfl
def tR (k0:Bool→Option R):Option R:=
k0 true
theorem ak4:exec cl N KB [(4,.dead)] K=(tR (fun y0=>K .ret [(4,.v .bool y0)])):=by
 kernel_rfl
def tT (N:Nat) (k0:Bool→Option R) (k1:Bool→Option R) (x0 x1:ar):Option R:=
(tS k0 (tO (tQ N k1 (tR k1))) x0 x1)
theorem ak6 (x0 x1):exec cl N xA (qm x0 x1) K=(tT N (fun y0=>K .ret (hY y0)) (fun y0=>K .ret [(4,.v .bool y0)]) x0 x1):=by
 simp only [bJ,bL,bK,bM,ak5,xz,KA,ak1,Kz,aP,b6,ak3,bZ,b5,bY,aad,aae,ak4]
 rfl
theorem agC (y0):af d125 .ret (hY y0)=some [.v .bool y0]:=by kernel_rfl
theorem agD (y0):af d125 .ret [(4,.v .bool y0)]=some [.v .bool y0]:=by kernel_rfl
def qB (N:Nat) (x0 x1:ar) (k:Bool→Option R):Option R:=
(tT N k k x0 x1)
theorem WX (x0 x1) (k:List E→Option R):exec cl N Co (qm x0 x1) (fun e env=>(af d125 e env).bind k)=qB N x0 x1 (fun r0=>k [.v .bool r0]):=by
 simp only [Co,ak6,agC,agD,al]
 rfl
def Fx (S:ar→ar→Option (Bool)):aJ:=c4 125 bh bh S fun b=> [.v .bool b]
def gp (N:Nat) (x0:ar) (x1:ar):Option (Bool):=qB N x0 x1 (fun (r0:Bool)=>some (r0))
def He (gp:ar→ar→Option (Bool)) (k0:Bool→Option R) (x0 x1:aO):Option R:=
ae (x0.1==x1.1) (ae (x0.2.2.2.1==x1.2.2.2.1) ((gp x0.2.1 x1.2.1).bind fun r1043=>
k0 r1043) (k0 false)) (k0 false)
theorem ak0 (gp) (h125:(Fx gp).holds cl) (x0 x1):exec cl N Kx [(0,.v aB x0),(1,.at aB x1)] K=(He gp (fun y0=>K .ret [(3,.v .bool y0)]) x0 x1):=by
 rw [←aI h125]
 kernel_rfl
theorem agB (y0):af d124 .ret [(3,.v .bool y0)]=some [.v .bool y0]:=by kernel_rfl
def z7 (gp:ar→ar→Option (Bool)) (x0 x1:aO) (k:Bool→Option R):Option R:=
(He gp k x0 x1)
theorem WW (gp) (h125:(Fx gp).holds cl) (x0 x1) (k:List E→Option R):exec cl N Cn [(0,.v aB x0),(1,.at aB x1)] (fun e env=>(af d124 e env).bind k)=z7 gp x0 x1 (fun r0=>k [.v .bool r0]):=by
 simp only [Cn,ak0 gp h125,agB,al]
 rfl
def pW (S:aO→aO→Option (Bool)):aJ:={A:=aO×aO×Unit,B:=Bool,f:=124,enc:=fun a=> [.v aB a.1,.at aB a.2.1],dec:=(a7 (bC aB) (a7 (nC aB) b9)),S:=fun a=>S a.1 a.2.1,aq:=fun b=> [.v .bool b],ok:=(fP (T:=aB) (zC (T:=aB) (fun es b h=>iJ h)))}
def cX (N:Nat) (x0:aO) (x1:aO):Option (Bool):=z7 (gp N) x0 x1 (fun (r0:Bool)=>some (r0))
def tV (k0:cj→eE→Option R) (x0:cj) (x1:eE):Option R:=
k0 x0 x1
theorem alM (x0 x1):exec cl N K5 (nM x0 x1) K=(tV (fun y0 y1=>K .normal (nM y0 y1)) x0 x1):=by
 kernel_rfl
def tW (k0:cj→eE→Int→Int→Option R) (x0:cj) (x1:eE):Option R:=
k0 x0 x1 (x0.length:Int) (0:Int)
theorem alN (x0 x1):exec cl N K6 (nM x0 x1) K=(tW (fun y0 y1 y2 y3=>K .normal (lg y0 y1 y2 y3)) x0 x1):=by
 kernel_rfl
theorem Tj (x0 x1 x2 x3):ah [0,1,7,8] (lg x0 x1 x2 x3)=(lg x0 x1 x2 x3):=by kernel_rfl
def tX (k0:Int→Option R) (k1:cj→eE→Int→Int→Option R) (k2:cj→eE→Int→Int→Option R) (x0:cj) (x1:eE) (x2 x3:Int):Option R:=
ae (decide (x3 < x2)) (if 0≤x3∧x3 < (x0.length:Int) then
(x1 ((x0.getD x3.toNat ([],([],((0:Int),((0:Int),()))))),())).bind fun r1050=>
ae r1050 (k0 x3) (k1 x0 x1 x2 (IntKind.i64.wrap (x3+(1:Int))))
else none) (k2 x0 x1 x2 x3)
theorem alO (x0 x1 x2 x3):exec cl N CS (lg x0 x1 x2 x3) K=(tX (fun y0=>K .ret (qp y0)) (fun y0 y1 y2 y3=>K .normal (lg y0 y1 y2 y3)) (fun y0 y1 y2 y3=>K (.exit 0) (lg y0 y1 y2 y3)) x0 x1 x2 x3):=by
 kernel_rfl
def oW {R:Type} (k0:Int→Option R) (k1:cj→eE→Int→Int→Option R):Nat→cj→eE→Int→Int→Option R
 | 0,_,_,_,_=>none
 | m+1,x0,x1,x2,x3=>(tX k0 (oW k0 k1 m) k1 x0 x1 x2 x3)
theorem adw:∀ (m) (x0 x1 x2 x3),iter [0,1,7,8] (fun env K=>exec cl N CS env K) K m (lg x0 x1 x2 x3)=oW (fun y0=>K .ret (qp y0)) (fun y0 y1 y2 y3=>K (.exit 0) (lg y0 y1 y2 y3)) m x0 x1 x2 x3:=by
 intro m
 induction m with
 | zero=>intros; rfl
 | succ m ih=>
   intro x0 x1 x2 x3
   simp only [bS,alO,bU,bT,bV,Tj,ih]
   rfl
theorem aav (x0):ah [4] (qp x0)=[(4,.v U2 x0)]:=by kernel_rfl
theorem aaw (x0 x1 x2 x3):ah [4] (lg x0 x1 x2 x3)=[(4,.dead)]:=by kernel_rfl
def tY (N:Nat) (k0:Int→Option R) (k1:Option R) (x0:cj) (x1:eE) (x2 x3:Int):Option R:=
oW k0 (fun y0 y1 y2 y3=>k1) N x0 x1 x2 x3
theorem alP (x0 x1 x2 x3):exec cl N CT (lg x0 x1 x2 x3) K=(tY N (fun y0=>K .ret [(4,.v U2 y0)]) (K (.exit 0) [(4,.dead)]) x0 x1 x2 x3):=by
 simp only [CT,aP,bR,Tj,adw,aav,aaw]
 rfl
theorem aax (x0):ah [4] [(4,.v U2 x0)]=[(4,.v U2 x0)]:=by kernel_rfl
theorem aay:ah [4] [(4,.dead)]=[(4,.dead)]:=by kernel_rfl
def tZ (k0:Int→Option R):Option R:=
k0 (-1:Int)
theorem alQ:exec cl N K9 [(4,.dead)] K=(tZ (fun y0=>K .ret [(4,.v U2 y0)])):=by
 kernel_rfl
def ua (N:Nat) (k0:Int→Option R) (x0:cj) (x1:eE):Option R:=
(tV (tW (tY N k0 (tZ k0))) x0 x1)
theorem alR (x0 x1):exec cl N CU (nM x0 x1) K=(ua N (fun y0=>K .ret [(4,.v U2 y0)]) x0 x1):=by
 simp only [CU,bJ,bL,bK,bM,alM,La,K8,alN,K7,aP,b6,alP,bZ,b5,bY,aax,aay,alQ]
 rfl
theorem agW (y0):af d144 .ret [(4,.v U2 y0)]=some [.v U2 y0]:=by kernel_rfl
def qC (N:Nat) (x0:cj) (x1:eE) (k:Int→Option R):Option R:=
(ua N k x0 x1)
theorem Xb (x0 x1) (k:List E→Option R):exec cl N CR (nM x0 x1) (fun e env=>(af d144 e env).bind k)=qC N x0 x1 (fun r0=>k [.v U2 r0]):=by
 simp only [CR,alR,agW,al]
 rfl
def FE (S:cj→eE→Option (Int)):aJ:=c4 144 cO wU S fun b=> [.v U2 b]
def gZ (N:Nat) (x0:cj) (x1:eE):Option (Int):=qC N x0 x1 (fun (r0:Int)=>some (r0))
def Hd (gZ:cj→eE→Option (Int)) (k0:Bool→Option R) (x0:cj) (x1:eE):Option R:=
(gZ x0 x1).bind fun r1054=>
k0 (decide (r1054≥(0:Int)))
theorem akZ (gZ) (h144:(FE gZ).holds cl) (x0 x1):exec cl N Kw (nM x0 x1) K=(Hd gZ (fun y0=>K .ret [(4,.v .bool y0)]) x0 x1):=by
 rw [←aI h144]
 kernel_rfl
theorem agA (y0):af d123 .ret [(4,.v .bool y0)]=some [.v .bool y0]:=by kernel_rfl
def z6 (gZ:cj→eE→Option (Int)) (x0:cj) (x1:eE) (k:Bool→Option R):Option R:=
(Hd gZ k x0 x1)
theorem WV (gZ) (h144:(FE gZ).holds cl) (x0 x1) (k:List E→Option R):exec cl N Cm (nM x0 x1) (fun e env=>(af d123 e env).bind k)=z6 gZ x0 x1 (fun r0=>k [.v .bool r0]):=by
 simp only [Cm,akZ gZ h144,agA,al]
 rfl
def pV (S:cj→eE→Option (Bool)):aJ:=c4 123 cO wU S fun b=> [.v .bool b]
def cT (N:Nat) (x0:cj) (x1:eE):Option (Bool):=z6 (gZ N) x0 x1 (fun (r0:Bool)=>some (r0))
def vR (eQ:V3→Option (Bool)) (k0:Int→Int→Option R) (k1:ad→Option R) (x0:ad):Option R:=
(eQ x0.1).bind fun r1058=>
ae (!r1058) (k0 (-1:Int) (2:Int)) (ae ((x0.2.1.length:Int)==(0:Int)) (k0 (-1:Int) (7:Int)) (ae (decide ((x0.2.1.length:Int) > (120:Int))) (k0 (-1:Int) (3:Int)) (k1 x0)))
theorem aqe (eQ) (h121:(zp eQ).holds cl) (x0):exec cl N zb [(0,.v ak x0)] K=(vR eQ (fun y0 y1=>K .ret (qn y0 y1)) (fun y0=>exec cl N za (zP y0) K) x0):=by
 rw [←aI h121]
 delta zb
 generalize za=q
 revert q
 refine id ?_
 intro q
 kernel_rfl
def vN (k0:ad→cj→Int→Int→Option R) (x0:ad):Option R:=
k0 x0 x0.2.1 (x0.2.1.length:Int) (0:Int)
theorem aqa (x0):exec cl N Oy (zP x0) K=(vN (fun y0 y1 y2 y3=>K .normal (lh y0 y1 y2 y3)) x0):=by
 kernel_rfl
theorem TS (x0 x1 x2 x3):ah [1,24,25,26] (lh x0 x1 x2 x3)=(lh x0 x1 x2 x3):=by kernel_rfl
def vO (cW:aO→Option (Int)) (cT:cj→eE→Option (Bool)) (cX:aO→aO→Option (Bool)) (k0:Int→Int→Option R) (k1:ad→cj→Int→Int→Option R) (k2:ad→cj→Int→Int→Option R) (x0:ad) (x1:cj) (x2 x3:Int):Option R:=
ae (decide (x3 < x2)) (if 0≤x3∧x3 < (x1.length:Int) then
(cW (x1.getD x3.toNat ([],([],((0:Int),((0:Int),())))))).bind fun r1062=>
ae (r1062 != (0:Int)) (k0 x3 r1062) (if 0≤(0:Int)∧(0:Int)≤x3∧x3≤(x0.2.1.length:Int)∧(x0.2.1.length:Int)≤(x0.2.1.length:Int) then
(cT ((x0.2.1.drop (0:Int).toNat).take (x3.toNat - (0:Int).toNat)) (fun (x1065:(aO×Unit))=>((cX x1065.1 (x1.getD x3.toNat ([],([],((0:Int),((0:Int),())))))).bind fun b1066=>some [.v .bool b1066]).bind (lN .bool))).bind fun r1067=>
ae r1067 (k0 x3 (5:Int)) (k1 x0 x1 x2 (IntKind.i64.wrap (x3+(1:Int))))
else none)
else none) (k2 x0 x1 x2 x3)
theorem aqb (cW) (cT) (cX) (h122:(pU cW).holds cl) (h123:(pV cT).holds cl) (h124:(pW cX).holds cl) (x0 x1 x2 x3):exec cl N Fg (lh x0 x1 x2 x3) K=(vO cW cT cX (fun y0 y1=>K .ret (GP y0 y1)) (fun y0 y1 y2 y3=>K .normal (lh y0 y1 y2 y3)) (fun y0 y1 y2 y3=>K (.exit 1) (lh y0 y1 y2 y3)) x0 x1 x2 x3):=by
 rw [←aI h122]
 rw [←aI h123]
 rw [←aI h124]
 kernel_rfl
def o6 {R:Type} (cW:aO→Option (Int)) (cT:cj→eE→Option (Bool)) (cX:aO→aO→Option (Bool)) (k0:Int→Int→Option R) (k1:ad→cj→Int→Int→Option R):Nat→ad→cj→Int→Int→Option R
 | 0,_,_,_,_=>none
 | m+1,x0,x1,x2,x3=>(vO cW cT cX k0 (o6 cW cT cX k0 k1 m) k1 x0 x1 x2 x3)
theorem ad8 (cW) (cT) (cX) (h122:(pU cW).holds cl) (h123:(pV cT).holds cl) (h124:(pW cX).holds cl):∀ (m) (x0 x1 x2 x3),iter [1,24,25,26] (fun env K=>exec cl N Fg env K) K m (lh x0 x1 x2 x3)=o6 cW cT cX (fun y0 y1=>K .ret (GP y0 y1)) (fun y0 y1 y2 y3=>K (.exit 1) (lh y0 y1 y2 y3)) m x0 x1 x2 x3:=by
 intro m
 induction m with
 | zero=>intros; rfl
 | succ m ih=>
   intro x0 x1 x2 x3
   simp only [bS,aqb cW cT cX h122 h123 h124,bU,bT,bV,TS,ih]
   rfl
theorem acv (x0 x1):ah [2,3] (GP x0 x1)=(iM x0 x1):=by kernel_rfl
theorem acw (x0 x1 x2 x3):ah [2,3] (lh x0 x1 x2 x3)=[(2,.dead),(3,.dead)]:=by kernel_rfl
def vP (N:Nat) (cW:aO→Option (Int)) (cT:cj→eE→Option (Bool)) (cX:aO→aO→Option (Bool)) (k0:Int→Int→Option R) (k1:Option R) (x0:ad) (x1:cj) (x2 x3:Int):Option R:=
o6 cW cT cX k0 (fun y0 y1 y2 y3=>k1) N x0 x1 x2 x3
theorem aqc (cW) (cT) (cX) (h122:(pU cW).holds cl) (h123:(pV cT).holds cl) (h124:(pW cX).holds cl) (x0 x1 x2 x3):exec cl N Fh (lh x0 x1 x2 x3) K=(vP N cW cT cX (fun y0 y1=>K .ret (iM y0 y1)) (K (.exit 1) [(2,.dead),(3,.dead)]) x0 x1 x2 x3):=by
 simp only [Fh,aP,bR,TS,ad8 cW cT cX h122 h123 h124,acv,acw]
 rfl
theorem acx (x0 x1):ah [2,3] (iM x0 x1)=(iM x0 x1):=by kernel_rfl
theorem acy:ah [2,3] [(2,.dead),(3,.dead)]=[(2,.dead),(3,.dead)]:=by kernel_rfl
def vQ (k0:Int→Int→Option R):Option R:=
k0 (-1:Int) (0:Int)
theorem aqd:exec cl N OC [(2,.dead),(3,.dead)] K=(vQ (fun y0 y1=>K .ret (iM y0 y1))):=by
 kernel_rfl
def vS (N:Nat) (eQ:V3→Option (Bool)) (cW:aO→Option (Int)) (cT:cj→eE→Option (Bool)) (cX:aO→aO→Option (Bool)) (k0:Int→Int→Option R) (k1:Int→Int→Option R) (x0:ad):Option R:=
(vR eQ k0 (vN (vP N cW cT cX k1 (vQ k1))) x0)
theorem aqf (eQ) (cW) (cT) (cX) (h121:(zp eQ).holds cl) (h122:(pU cW).holds cl) (h123:(pV cT).holds cl) (h124:(pW cX).holds cl) (x0):exec cl N zb [(0,.v ak x0)] K=(vS N eQ cW cT cX (fun y0 y1=>K .ret (qn y0 y1)) (fun y0 y1=>K .ret (iM y0 y1)) x0):=by
 simp only [bJ,bL,bK,bM,aqe eQ h121,za,OA,aqa,Oz,aP,b6,aqc cW cT cX h122 h123 h124,bZ,b5,bY,acx,acy,aqd]
 rfl
theorem aiF (y0 y1):af d95 .ret (qn y0 y1)=some [.v U2 y0,.v U2 y1]:=by kernel_rfl
theorem aiG (y0 y1):af d95 .ret (iM y0 y1)=some [.v U2 y0,.v U2 y1]:=by kernel_rfl
def qU (N:Nat) (eQ:V3→Option (Bool)) (cW:aO→Option (Int)) (cT:cj→eE→Option (Bool)) (cX:aO→aO→Option (Bool)) (x0:ad) (k:Int→Int→Option R):Option R:=
(vS N eQ cW cT cX k k x0)
theorem X4 (eQ) (cW) (cT) (cX) (h121:(zp eQ).holds cl) (h122:(pU cW).holds cl) (h123:(pV cT).holds cl) (h124:(pW cX).holds cl) (x0) (k:List E→Option R):exec cl N Ff [(0,.v ak x0)] (fun e env=>(af d95 e env).bind k)=qU N eQ cW cT cX x0 (fun r0 r1=>k [.v U2 r0,.v U2 r1]):=by
 simp only [Ff,aqf eQ cW cT cX h121 h122 h123 h124,aiF,aiG,al]
 rfl
def F5 (S:ad→Option V1):aJ:=cA 95 ak S fun b=> [.v U2 b.1,.v U2 b.2]
def hR (N:Nat) (x0:ad):Option V1:=qU N (eQ N) (cW N) (cT N) (cX N) x0 (fun (r0:Int) (r1:Int)=>some (r0,r1))
def HP (hR:ad→Option V1) (k0:Int→Option R) (x0:ad):Option R:=
(hR x0).bind fun r1070=>
k0 r1070.2
theorem aph (hR) (h95:(F5 hR).holds cl) (x0):exec cl N NO [(0,.v ak x0)] K=(HP hR (fun y0=>K .ret [(2,.v U2 y0)]) x0):=by
 rw [←aI h95]
 kernel_rfl
theorem aif (y0):af d70 .ret [(2,.v U2 y0)]=some [.v U2 y0]:=by kernel_rfl
def Ay (hR:ad→Option V1) (x0:ad) (k:Int→Option R):Option R:=
(HP hR k x0)
theorem XU (hR) (h95:(F5 hR).holds cl) (x0) (k:List E→Option R):exec cl N EH [(0,.v ak x0)] (fun e env=>(af d70 e env).bind k)=Ay hR x0 (fun r0=>k [.v U2 r0]):=by
 simp only [EH,aph hR h95,aif,al]
 rfl
def sV (S:ad→Option (Int)):aJ:=cA 70 ak S fun b=> [.v U2 b]
def dU (N:Nat) (x0:ad):Option (Int):=Ay (hR N) x0 (fun (r0:Int)=>some (r0))
def Sn (b8:Int→Option (Bool)) (k0:Bool→Option R) (x0:Int):Option R:=
(b8 x0).bind fun r1078=>
k0 (!r1078)
theorem aqh (b8) (h98:(mL b8).holds cl) (x0):exec cl N OE [(0,.v U0 x0)] K=(Sn b8 (fun y0=>K .ret [(2,.v .bool y0)]) x0):=by
 rw [←aI h98]
 kernel_rfl
theorem aiI (y0):af d97 .ret [(2,.v .bool y0)]=some [.v .bool y0]:=by kernel_rfl
def H0 (b8:Int→Option (Bool)) (x0:Int) (k:Bool→Option R):Option R:=
(Sn b8 k x0)
theorem X6 (b8) (h98:(mL b8).holds cl) (x0) (k:List E→Option R):exec cl N Fj [(0,.v U0 x0)] (fun e env=>(af d97 e env).bind k)=H0 b8 x0 (fun r0=>k [.v .bool r0]):=by
 simp only [Fj,aqh b8 h98,aiI,al]
 rfl
def qc (S:Int→Option (Bool)):aJ:=cA 97 U0 S fun b=> [.v .bool b]
def dw (N:Nat) (x0:Int):Option (Bool):=H0 (b8 N) x0 (fun (r0:Bool)=>some (r0))
def PW (k0:V0→bW→Option R) (x0:V0) (x1:bW):Option R:=
k0 x0 x1
theorem ak7 (x0 x1):exec cl N KC (nN x0 x1) K=(PW (fun y0 y1=>K .normal (nN y0 y1)) x0 x1):=by
 kernel_rfl
def PX (k0:V0→bW→Int→Int→Option R) (x0:V0) (x1:bW):Option R:=
k0 x0 x1 (x0.length:Int) (0:Int)
theorem ak8 (x0 x1):exec cl N KD (nN x0 x1) K=(PX (fun y0 y1 y2 y3=>K .normal (lj y0 y1 y2 y3)) x0 x1):=by
 kernel_rfl
theorem Te (x0 x1 x2 x3):ah [0,1,7,8] (lj x0 x1 x2 x3)=(lj x0 x1 x2 x3):=by kernel_rfl
def PY (k0:Int→Option R) (k1:V0→bW→Int→Int→Option R) (k2:V0→bW→Int→Int→Option R) (x0:V0) (x1:bW) (x2 x3:Int):Option R:=
ae (decide (x3 < x2)) (if 0≤x3∧x3 < (x0.length:Int) then
(x1 ((x0.getD x3.toNat (0:Int)),())).bind fun r1085=>
ae r1085 (k0 x3) (k1 x0 x1 x2 (IntKind.i64.wrap (x3+(1:Int))))
else none) (k2 x0 x1 x2 x3)
theorem ak9 (x0 x1 x2 x3):exec cl N Cs (lj x0 x1 x2 x3) K=(PY (fun y0=>K .ret (qp y0)) (fun y0 y1 y2 y3=>K .normal (lj y0 y1 y2 y3)) (fun y0 y1 y2 y3=>K (.exit 0) (lj y0 y1 y2 y3)) x0 x1 x2 x3):=by
 kernel_rfl
def It {R:Type} (k0:Int→Option R) (k1:V0→bW→Int→Int→Option R):Nat→V0→bW→Int→Int→Option R
 | 0,_,_,_,_=>none
 | m+1,x0,x1,x2,x3=>(PY k0 (It k0 k1 m) k1 x0 x1 x2 x3)
theorem adq:∀ (m) (x0 x1 x2 x3),iter [0,1,7,8] (fun env K=>exec cl N Cs env K) K m (lj x0 x1 x2 x3)=It (fun y0=>K .ret (qp y0)) (fun y0 y1 y2 y3=>K (.exit 0) (lj y0 y1 y2 y3)) m x0 x1 x2 x3:=by
 intro m
 induction m with
 | zero=>intros; rfl
 | succ m ih=>
   intro x0 x1 x2 x3
   simp only [bS,ak9,bU,bT,bV,Te,ih]
   rfl
theorem aaf (x0):ah [4] (qp x0)=[(4,.v U2 x0)]:=by kernel_rfl
theorem aag (x0 x1 x2 x3):ah [4] (lj x0 x1 x2 x3)=[(4,.dead)]:=by kernel_rfl
def PZ (N:Nat) (k0:Int→Option R) (k1:Option R) (x0:V0) (x1:bW) (x2 x3:Int):Option R:=
It k0 (fun y0 y1 y2 y3=>k1) N x0 x1 x2 x3
theorem ala (x0 x1 x2 x3):exec cl N Ct (lj x0 x1 x2 x3) K=(PZ N (fun y0=>K .ret [(4,.v U2 y0)]) (K (.exit 0) [(4,.dead)]) x0 x1 x2 x3):=by
 simp only [Ct,aP,bR,Te,adq,aaf,aag]
 rfl
theorem aah (x0):ah [4] [(4,.v U2 x0)]=[(4,.v U2 x0)]:=by kernel_rfl
theorem aai:ah [4] [(4,.dead)]=[(4,.dead)]:=by kernel_rfl
def P0 (k0:Int→Option R):Option R:=
k0 (-1:Int)
theorem alb:exec cl N KH [(4,.dead)] K=(P0 (fun y0=>K .ret [(4,.v U2 y0)])):=by
 kernel_rfl
def P1 (N:Nat) (k0:Int→Option R) (x0:V0) (x1:bW):Option R:=
(PW (PX (PZ N k0 (P0 k0))) x0 x1)
theorem alc (x0 x1):exec cl N Cu (nN x0 x1) K=(P1 N (fun y0=>K .ret [(4,.v U2 y0)]) x0 x1):=by
 simp only [Cu,bJ,bL,bK,bM,ak7,KI,KG,ak8,KF,aP,b6,ala,bZ,b5,bY,aah,aai,alb]
 rfl
theorem agE (y0):af d126 .ret [(4,.v U2 y0)]=some [.v U2 y0]:=by kernel_rfl
def Hf (N:Nat) (x0:V0) (x1:bW) (k:Int→Option R):Option R:=
(P1 N k x0 x1)
theorem WY (x0 x1) (k:List E→Option R):exec cl N Cr (nN x0 x1) (fun e env=>(af d126 e env).bind k)=Hf N x0 x1 (fun r0=>k [.v U2 r0]):=by
 simp only [Cr,alc,agE,al]
 rfl
def Fy (S:V0→bW→Option (Int)):aJ:=c4 126 U4 wS S fun b=> [.v U2 b]
def iz (N:Nat) (x0:V0) (x1:bW):Option (Int):=Hf N x0 x1 (fun (r0:Int)=>some (r0))
def Sm (iz:V0→bW→Option (Int)) (k0:Bool→Option R) (x0:V0) (x1:bW):Option R:=
(iz x0 x1).bind fun r1089=>
k0 (decide (r1089≥(0:Int)))
theorem aqg (iz) (h126:(Fy iz).holds cl) (x0 x1):exec cl N OD (nN x0 x1) K=(Sm iz (fun y0=>K .ret [(4,.v .bool y0)]) x0 x1):=by
 rw [←aI h126]
 kernel_rfl
theorem aiH (y0):af d96 .ret [(4,.v .bool y0)]=some [.v .bool y0]:=by kernel_rfl
def HZ (iz:V0→bW→Option (Int)) (x0:V0) (x1:bW) (k:Bool→Option R):Option R:=
(Sm iz k x0 x1)
theorem X5 (iz) (h126:(Fy iz).holds cl) (x0 x1) (k:List E→Option R):exec cl N Fi (nN x0 x1) (fun e env=>(af d96 e env).bind k)=HZ iz x0 x1 (fun r0=>k [.v .bool r0]):=by
 simp only [Fi,aqg iz h126,aiH,al]
 rfl
def qb (S:V0→bW→Option (Bool)):aJ:=c4 96 U4 wS S fun b=> [.v .bool b]
def dv (N:Nat) (x0:V0) (x1:bW):Option (Bool):=HZ (iz N) x0 x1 (fun (r0:Bool)=>some (r0))
end Go.Fw.L19
