/- Own work. -/
import Derived.Test.YtbdlccajpcomjaaDoorFwMk17b
import Derived.Test.YtbdlccajpcomjaaDoorFwB4
set_option linter.unusedVariables false
set_option linter.unusedSimpArgs false
namespace Go.Fw.L19
open Go Go.Fw
set_option maxRecDepth 100000
variable {N:Nat} {cl:Cal} {R:Type} {K:KE R}
def g7_63 (S24:V1→Option V19) (k0:V23→V16→Int→Int→Option R) (x0:V1):Option R:=
(S24 x0).bind fun r944=>
k0 ([],([],())) r944.1 r944.2.1 r944.2.2
theorem t7_63 (S24) (h24:(ctr24 S24).holds cl) (x0):exec cl N c7_63 [(0,.v .str x0)] K=(g7_63 S24 (fun y0 y1 y2 y3=>exec cl N (.seq (.seq c7_2 c7_4) (.seq (.seq c7_5 c7_7) (.seq (.seq c7_8 c7_10) (.seq (.seq c7_11 c7_13) c7_62)))) [(2,.loc U17 .no y0),(5,.v U13 y1),(6,.v U2 y2),(7,.v U2 y3)] K) x0):=by
 rw [←put_eq h24]
 kernel_rfl
def g7_2 (k0:V23→V16→Int→Int→Bool→Option R) (x0:V23) (x1:V16) (x2 x3:Int):Option R:=
k0 x0 x1 x2 x3 (x3 != (0:Int))
theorem t7_2 (x0 x1 x2 x3):exec cl N c7_2 [(2,.loc U17 .no x0),(5,.v U13 x1),(6,.v U2 x2),(7,.v U2 x3)] K=(g7_2 (fun y0 y1 y2 y3 y4=>K .normal (e243 y0 y1 y2 y3 y4)) x0 x1 x2 x3):=by
 kernel_rfl
def g7_3 (k0:V23→Int→Int→Option R) (x0:V23) (x1:V16) (x2 x3:Int) (x4:Bool):Option R:=
k0 ([],[],()) x2 x3
theorem t7_3 (x0 x1 x2 x3 x4):exec cl N c7_3 (e243 x0 x1 x2 x3 x4) K=(g7_3 (fun y0 y1 y2=>K .normal (e136 y0 y1 y2)) x0 x1 x2 x3 x4):=by
 kernel_rfl
theorem kp7_0 (x0 x1 x2):keep [2,3,4,5] (e136 x0 x1 x2)=(e137 x0 x1 x2):=by kernel_rfl
theorem kp7_1 (x0 x1 x2 x3 x4):keep [2,3,4,5] (e243 x0 x1 x2 x3 x4)=(e244 x0 x1):=by kernel_rfl
theorem hb7_0 (x0 x1 x2 x3 x4):boolOf? (ent (e243 x0 x1 x2 x3 x4) (.t 24))=some x4:=by kernel_rfl
def g7_5 (S25:V16→Int→Int→V1→Option (Bool)) (k0:V23→V16→Bool→Option R) (x0:V23) (x1:V16):Option R:=
(S25 x1 (0:Int) (1:Int) ([108,105,99,101,110,99,101]:List UInt8)).bind fun r946=>
k0 x0 x1 (!r946)
theorem t7_5 (S25) (h25:(ctr25 S25).holds cl) (x0 x1):exec cl N c7_5 (e244 x0 x1) K=(g7_5 S25 (fun y0 y1 y2=>K .normal (e245 y0 y1 y2)) x0 x1):=by
 rw [←put_eq h25]
 kernel_rfl
def g7_6 (S26:V16→Int→Option V25) (k0:V23→Int→Int→Option R) (x0:V23) (x1:V16) (x2:Bool):Option R:=
(S26 x1 (0:Int)).bind fun r947=>
k0 r947.1 r947.2.1 r947.2.2
theorem t7_6 (S26) (h26:(ctr26 S26).holds cl) (x0 x1 x2):exec cl N c7_6 (e245 x0 x1 x2) K=(g7_6 S26 (fun y0 y1 y2=>K .normal (e147 y0 y1 y2)) x0 x1 x2):=by
 rw [←put_eq h26]
 kernel_rfl
theorem kp7_2 (x0 x1 x2):keep [2,3,4,5] (e147 x0 x1 x2)=(e246 x0 x1 x2):=by kernel_rfl
theorem kp7_3 (x0 x1 x2):keep [2,3,4,5] (e245 x0 x1 x2)=(e244 x0 x1):=by kernel_rfl
theorem hb7_1 (x0 x1 x2):boolOf? (ent (e245 x0 x1 x2) (.t 30))=some x2:=by kernel_rfl
def g7_8 (S25:V16→Int→Int→V1→Option (Bool)) (k0:V23→V16→Bool→Option R) (x0:V23) (x1:V16):Option R:=
(S25 x1 (1:Int) (1:Int) ([]:List UInt8)).bind fun r948=>
k0 x0 x1 (!r948)
theorem t7_8 (S25) (h25:(ctr25 S25).holds cl) (x0 x1):exec cl N c7_8 (e244 x0 x1) K=(g7_8 S25 (fun y0 y1 y2=>K .normal (e247 y0 y1 y2)) x0 x1):=by
 rw [←put_eq h25]
 kernel_rfl
def g7_9 (S26:V16→Int→Option V25) (k0:V23→Int→Int→Option R) (x0:V23) (x1:V16) (x2:Bool):Option R:=
(S26 x1 (1:Int)).bind fun r949=>
k0 r949.1 r949.2.1 r949.2.2
theorem t7_9 (S26) (h26:(ctr26 S26).holds cl) (x0 x1 x2):exec cl N c7_9 (e247 x0 x1 x2) K=(g7_9 S26 (fun y0 y1 y2=>K .normal (e147 y0 y1 y2)) x0 x1 x2):=by
 rw [←put_eq h26]
 kernel_rfl
theorem kp7_4 (x0 x1 x2):keep [2,3,4,5] (e247 x0 x1 x2)=(e244 x0 x1):=by kernel_rfl
theorem hb7_2 (x0 x1 x2):boolOf? (ent (e247 x0 x1 x2) (.t 38))=some x2:=by kernel_rfl
def g7_11 (S25:V16→Int→Int→V1→Option (Bool)) (k0:V23→V16→Bool→Option R) (x0:V23) (x1:V16):Option R:=
(S25 x1 (2:Int) (4:Int) ([123]:List UInt8)).bind fun r950=>
k0 x0 x1 (!r950)
theorem t7_11 (S25) (h25:(ctr25 S25).holds cl) (x0 x1):exec cl N c7_11 (e244 x0 x1) K=(g7_11 S25 (fun y0 y1 y2=>K .normal (e248 y0 y1 y2)) x0 x1):=by
 rw [←put_eq h25]
 kernel_rfl
def g7_12 (S26:V16→Int→Option V25) (k0:V23→Int→Int→Option R) (x0:V23) (x1:V16) (x2:Bool):Option R:=
(S26 x1 (2:Int)).bind fun r951=>
k0 r951.1 r951.2.1 r951.2.2
theorem t7_12 (S26) (h26:(ctr26 S26).holds cl) (x0 x1 x2):exec cl N c7_12 (e248 x0 x1 x2) K=(g7_12 S26 (fun y0 y1 y2=>K .normal (e147 y0 y1 y2)) x0 x1 x2):=by
 rw [←put_eq h26]
 kernel_rfl
theorem kp7_5 (x0 x1 x2):keep [2,3,4,5] (e248 x0 x1 x2)=(e244 x0 x1):=by kernel_rfl
theorem hb7_3 (x0 x1 x2):boolOf? (ent (e248 x0 x1 x2) (.t 46))=some x2:=by kernel_rfl
def g7_62 (k0:V23→V16→V23→V0→Int→Option R) (x0:V23) (x1:V16):Option R:=
if 0≤(1:Int)∧(1:Int) < (x1.length:Int) then
k0 x0 x1 ((x1.getD (1:Int).toNat ((0:Int),([],((0:Int),())))).2.1,[],()) [] (3:Int)
else none
theorem t7_62 (x0 x1):exec cl N c7_62 (e244 x0 x1) K=(g7_62 (fun y0 y1 y2 y3 y4=>exec cl N (.seq c7_30 (.seq (.seq c7_31 c7_33) (.seq (.seq c7_34 c7_55) (.seq c7_60 (.seq c7_61 .ret))))) (e249 y0 y1 y2 y3 y4) K) x0 x1):=by
 kernel_rfl
theorem kp7_6 (x0 x1 x2 x3 x4):keep [2,5,8,9,10] (e249 x0 x1 x2 x3 x4)=(e249 x0 x1 x2 x3 x4):=by kernel_rfl
def g7_17 (S25:V16→Int→Int→V1→Option (Bool)) (k0:V23→V16→V23→V0→Int→Bool→Option R) (x0:V23) (x1:V16) (x2:V23) (x3:V0) (x4:Int):Option R:=
(S25 x1 x4 (4:Int) ([125]:List UInt8)).bind fun r952=>
k0 x0 x1 x2 x3 x4 (!r952)
theorem t7_17 (S25) (h25:(ctr25 S25).holds cl) (x0 x1 x2 x3 x4):exec cl N c7_17 (e249 x0 x1 x2 x3 x4) K=(g7_17 S25 (fun y0 y1 y2 y3 y4 y5=>K .normal (e250 y0 y1 y2 y3 y4 y5)) x0 x1 x2 x3 x4):=by
 rw [←put_eq h25]
 kernel_rfl
theorem kp7_7 (x0 x1 x2 x3 x4 x5):keep [2,5,8,9,10] (e250 x0 x1 x2 x3 x4 x5)=(e249 x0 x1 x2 x3 x4):=by kernel_rfl
theorem hb7_4 (x0 x1 x2 x3 x4 x5):boolOf? (ent (e250 x0 x1 x2 x3 x4 x5) (.t 60))=some x5:=by kernel_rfl
def g7_19 (S27:V16→Int→Option V20) (k0:V23→V16→V23→V0→Int→V15→Int→Bool→Option R) (x0:V23) (x1:V16) (x2:V23) (x3:V0) (x4:Int):Option R:=
(S27 x1 x4).bind fun r953=>
k0 x0 x1 x2 x3 x4 r953.1 r953.2.1 r953.2.2
theorem t7_19 (S27) (h27:(ctr27 S27).holds cl) (x0 x1 x2 x3 x4):exec cl N c7_19 (e249 x0 x1 x2 x3 x4) K=(g7_19 S27 (fun y0 y1 y2 y3 y4 y5 y6 y7=>K .normal (e251 y0 y1 y2 y3 y4 y5 y6 y7)) x0 x1 x2 x3 x4):=by
 rw [←put_eq h27]
 kernel_rfl
def g7_20 (k0:V23→V16→V23→V0→Int→V15→Int→Bool→Option R) (x0:V23) (x1:V16) (x2:V23) (x3:V0) (x4:Int) (x5:V15) (x6:Int) (x7:Bool):Option R:=
k0 x0 x1 x2 x3 x4 x5 x6 (!x7)
theorem t7_20 (x0 x1 x2 x3 x4 x5 x6 x7):exec cl N c7_20 (e251 x0 x1 x2 x3 x4 x5 x6 x7) K=(g7_20 (fun y0 y1 y2 y3 y4 y5 y6 y7=>K .normal (e252 y0 y1 y2 y3 y4 y5 y6 y7)) x0 x1 x2 x3 x4 x5 x6 x7):=by
 kernel_rfl
def g7_21 (S26:V16→Int→Option V25) (k0:V23→Int→Int→Option R) (x0:V23) (x1:V16) (x2:V23) (x3:V0) (x4:Int) (x5:V15) (x6:Int) (x7:Bool):Option R:=
(S26 x1 x6).bind fun r954=>
k0 r954.1 r954.2.1 r954.2.2
theorem t7_21 (S26) (h26:(ctr26 S26).holds cl) (x0 x1 x2 x3 x4 x5 x6 x7):exec cl N c7_21 (e252 x0 x1 x2 x3 x4 x5 x6 x7) K=(g7_21 S26 (fun y0 y1 y2=>K .normal (e147 y0 y1 y2)) x0 x1 x2 x3 x4 x5 x6 x7):=by
 rw [←put_eq h26]
 kernel_rfl
theorem kp7_8 (x0 x1 x2):keep [2,3,4,5,8,9,10,11,12] (e147 x0 x1 x2)=(e253 x0 x1 x2):=by kernel_rfl
theorem kp7_9 (x0 x1 x2 x3 x4 x5 x6 x7):keep [2,3,4,5,8,9,10,11,12] (e252 x0 x1 x2 x3 x4 x5 x6 x7)=(e254 x0 x1 x2 x3 x4 x5 x6):=by kernel_rfl
theorem hb7_5 (x0 x1 x2 x3 x4 x5 x6 x7):boolOf? (ent (e252 x0 x1 x2 x3 x4 x5 x6 x7) (.t 69))=some x7:=by kernel_rfl
def g7_26 (k0:V23→V16→V23→V0→Int→Option R) (x0:V23) (x1:V16) (x2:V23) (x3:V0) (x4:Int) (x5:V15) (x6:Int):Option R:=
if x2.2.1.length+[x5].length≤3518437208883 then
if x3.length+[x4].length≤17592186044416 then
k0 x0 x1 (x2.1,((x2.2.1++[x5]),x2.2.2)) (x3++[x4]) x6
else none
else none
theorem t7_26 (x0 x1 x2 x3 x4 x5 x6):exec cl N c7_26 (e254 x0 x1 x2 x3 x4 x5 x6) K=(g7_26 (fun y0 y1 y2 y3 y4=>K .normal (e249 y0 y1 y2 y3 y4)) x0 x1 x2 x3 x4 x5 x6):=by
 kernel_rfl
theorem kp7_10 (x0 x1 x2):keep [2,3,4,5,8,9,10] (e253 x0 x1 x2)=(e255 x0 x1 x2):=by kernel_rfl
theorem kp7_11 (x0 x1 x2 x3 x4):keep [2,3,4,5,8,9,10] (e249 x0 x1 x2 x3 x4)=(e256 x0 x1 x2 x3 x4):=by kernel_rfl
def g7_28 (S25:V16→Int→Int→V1→Option (Bool)) (S26:V16→Int→Option V25) (S27:V16→Int→Option V20) (k0:V23→Int→Int→Option R) (k1:V23→V16→V23→V0→Int→Option R) (k2:V23→V16→V23→V0→Int→Option R) (x0:V23) (x1:V16) (x2:V23) (x3:V0) (x4:Int):Option R:=
(g7_17 S25 (fun y0 y1 y2 y3 y4 y5=>brB y5 ((g7_19 S27 (g7_20 (fun y0 y1 y2 y3 y4 y5 y6 y7=>brB y7 (g7_21 S26 k0 y0 y1 y2 y3 y4 y5 y6 y7) ((g7_26 k1) y0 y1 y2 y3 y4 y5 y6)))) y0 y1 y2 y3 y4) (k2 y0 y1 y2 y3 y4)) x0 x1 x2 x3 x4)
theorem t7_28 (S25) (S26) (S27) (h25:(ctr25 S25).holds cl) (h26:(ctr26 S26).holds cl) (h27:(ctr27 S27).holds cl) (x0 x1 x2 x3 x4):exec cl N c7_28 (e249 x0 x1 x2 x3 x4) K=(g7_28 S25 S26 S27 (fun y0 y1 y2=>K .ret (e255 y0 y1 y2)) (fun y0 y1 y2 y3 y4=>K .normal (e256 y0 y1 y2 y3 y4)) (fun y0 y1 y2 y3 y4=>K (.exit 0) (e249 y0 y1 y2 y3 y4)) x0 x1 x2 x3 x4):=by
 simp only [c7_28,xS,sN,sE,sR,t7_17 S25 h25,c7_18,exec_out,exec_cond',hb7_4,Option.bind_some,bT,bF,exec_skip,exec_exit,kp7_7,c7_27,xB,t7_19 S27 h27,t7_20,c7_22,hb7_5,t7_21 S26 h26,exec_ret,kp7_8,kp7_9,t7_26,blockK_normal,blockK_ret,blockK_eq,kp7_10,kp7_11]
 rfl
theorem kp7_12 (x0 x1 x2 x3 x4):keep [2,5,8,9,10] (e256 x0 x1 x2 x3 x4)=(e249 x0 x1 x2 x3 x4):=by kernel_rfl
def l7_29 {R:Type} (S25:V16→Int→Int→V1→Option (Bool)) (S26:V16→Int→Option V25) (S27:V16→Int→Option V20) (k0:V23→Int→Int→Option R) (k1:V23→V16→V23→V0→Int→Option R):Nat→V23→V16→V23→V0→Int→Option R
 | 0,_,_,_,_,_=>none
 | m+1,x0,x1,x2,x3,x4=>(g7_28 S25 S26 S27 k0 (l7_29 S25 S26 S27 k0 k1 m) k1 x0 x1 x2 x3 x4)
theorem lt7_29 (S25) (S26) (S27) (h25:(ctr25 S25).holds cl) (h26:(ctr26 S26).holds cl) (h27:(ctr27 S27).holds cl):∀ (m) (x0 x1 x2 x3 x4),iter [2,5,8,9,10] (fun env K=>exec cl N c7_28 env K) K m (e249 x0 x1 x2 x3 x4)=l7_29 S25 S26 S27 (fun y0 y1 y2=>K .ret (e255 y0 y1 y2)) (fun y0 y1 y2 y3 y4=>K (.exit 0) (e249 y0 y1 y2 y3 y4)) m x0 x1 x2 x3 x4:=by
 intro m
 induction m with
 | zero=>intros; rfl
 | succ m ih=>
   intro x0 x1 x2 x3 x4
   simp only [iter_succ,t7_28 S25 S26 S27 h25 h26 h27,loopK_normal,loopK_exit,loopK_ret,kp7_12,ih]
   rfl
theorem kp7_13 (x0 x1 x2):keep [2,3,4,5,8,9,10] (e255 x0 x1 x2)=(e255 x0 x1 x2):=by kernel_rfl
def g7_29 (N:Nat) (S25:V16→Int→Int→V1→Option (Bool)) (S26:V16→Int→Option V25) (S27:V16→Int→Option V20) (k0:V23→Int→Int→Option R) (k1:V23→V16→V23→V0→Int→Option R) (x0:V23) (x1:V16) (x2:V23) (x3:V0) (x4:Int):Option R:=
l7_29 S25 S26 S27 k0 k1 N x0 x1 x2 x3 x4
theorem t7_29 (S25) (S26) (S27) (h25:(ctr25 S25).holds cl) (h26:(ctr26 S26).holds cl) (h27:(ctr27 S27).holds cl) (x0 x1 x2 x3 x4):exec cl N c7_29 (e249 x0 x1 x2 x3 x4) K=(g7_29 N S25 S26 S27 (fun y0 y1 y2=>K .ret (e255 y0 y1 y2)) (fun y0 y1 y2 y3 y4=>K (.exit 0) (e256 y0 y1 y2 y3 y4)) x0 x1 x2 x3 x4):=by
 simp only [c7_29,exec_out,exec_loop,kp7_6,lt7_29 S25 S26 S27 h25 h26 h27,kp7_11,kp7_13]
 rfl
theorem kp7_14 (x0 x1 x2 x3 x4):keep [2,3,4,5,8,9,10] (e256 x0 x1 x2 x3 x4)=(e256 x0 x1 x2 x3 x4):=by kernel_rfl
def g7_31 (k0:V23→V16→V23→V0→Int→Bool→Option R) (x0:V23) (x1:V16) (x2:V23) (x3:V0) (x4:Int):Option R:=
k0 x0 x1 x2 x3 x4 ((IntKind.i64.wrap (x4+(1:Int))) != (x1.length:Int))
theorem t7_31 (x0 x1 x2 x3 x4):exec cl N c7_31 (e256 x0 x1 x2 x3 x4) K=(g7_31 (fun y0 y1 y2 y3 y4 y5=>K .normal (e257 y0 y1 y2 y3 y4 y5)) x0 x1 x2 x3 x4):=by
 kernel_rfl
def g7_32 (S26:V16→Int→Option V25) (k0:V23→Int→Int→Option R) (x0:V23) (x1:V16) (x2:V23) (x3:V0) (x4:Int) (x5:Bool):Option R:=
(S26 x1 (IntKind.i64.wrap (x4+(1:Int)))).bind fun r958=>
k0 r958.1 r958.2.1 r958.2.2
theorem t7_32 (S26) (h26:(ctr26 S26).holds cl) (x0 x1 x2 x3 x4 x5):exec cl N c7_32 (e257 x0 x1 x2 x3 x4 x5) K=(g7_32 S26 (fun y0 y1 y2=>K .normal (e147 y0 y1 y2)) x0 x1 x2 x3 x4 x5):=by
 rw [←put_eq h26]
 kernel_rfl
theorem kp7_15 (x0 x1 x2):keep [2,3,4,5,8,9] (e147 x0 x1 x2)=(e258 x0 x1 x2):=by kernel_rfl
theorem kp7_16 (x0 x1 x2 x3 x4 x5):keep [2,3,4,5,8,9] (e257 x0 x1 x2 x3 x4 x5)=(e259 x0 x1 x2 x3):=by kernel_rfl
theorem hb7_6 (x0 x1 x2 x3 x4 x5):boolOf? (ent (e257 x0 x1 x2 x3 x4 x5) (.t 91))=some x5:=by kernel_rfl
def g7_34 (k0:V23→V16→V23→V0→Int→Option R) (x0:V23) (x1:V16) (x2:V23) (x3:V0):Option R:=
k0 x0 x1 x2 x3 (0:Int)
theorem t7_34 (x0 x1 x2 x3):exec cl N c7_34 (e259 x0 x1 x2 x3) K=(g7_34 (fun y0 y1 y2 y3 y4=>K .normal (e260 y0 y1 y2 y3 y4)) x0 x1 x2 x3):=by
 kernel_rfl
theorem kp7_17 (x0 x1 x2 x3 x4):keep [2,5,8,9,14] (e260 x0 x1 x2 x3 x4)=(e260 x0 x1 x2 x3 x4):=by kernel_rfl
def g7_35 (k0:V23→V16→V23→V0→Int→Bool→Option R) (x0:V23) (x1:V16) (x2:V23) (x3:V0) (x4:Int):Option R:=
k0 x0 x1 x2 x3 x4 (decide (x4 < (x3.length:Int)))
theorem t7_35 (x0 x1 x2 x3 x4):exec cl N c7_35 (e260 x0 x1 x2 x3 x4) K=(g7_35 (fun y0 y1 y2 y3 y4 y5=>K .normal (e261 y0 y1 y2 y3 y4 y5)) x0 x1 x2 x3 x4):=by
 kernel_rfl
theorem kp7_18 (x0 x1 x2 x3 x4 x5):keep [2,5,8,9,14] (e261 x0 x1 x2 x3 x4 x5)=(e260 x0 x1 x2 x3 x4):=by kernel_rfl
theorem hb7_7 (x0 x1 x2 x3 x4 x5):boolOf? (ent (e261 x0 x1 x2 x3 x4 x5) (.t 102))=some x5:=by kernel_rfl
def g7_37 (k0:V23→V16→V23→V0→Int→Int→Option R) (x0:V23) (x1:V16) (x2:V23) (x3:V0) (x4:Int):Option R:=
k0 x0 x1 x2 x3 x4 (1:Int)
theorem t7_37 (x0 x1 x2 x3 x4):exec cl N c7_37 (e260 x0 x1 x2 x3 x4) K=(g7_37 (fun y0 y1 y2 y3 y4 y5=>K .normal (e262 y0 y1 y2 y3 y4 y5)) x0 x1 x2 x3 x4):=by
 kernel_rfl
theorem kp7_19 (x0 x1 x2 x3 x4 x5):keep [2,5,8,9,14,15] (e262 x0 x1 x2 x3 x4 x5)=(e262 x0 x1 x2 x3 x4 x5):=by kernel_rfl
def g7_38 (k0:V23→V16→V23→V0→Int→Int→Bool→Option R) (x0:V23) (x1:V16) (x2:V23) (x3:V0) (x4 x5:Int):Option R:=
k0 x0 x1 x2 x3 x4 x5 (decide (x5≤(12:Int)))
theorem t7_38 (x0 x1 x2 x3 x4 x5):exec cl N c7_38 (e262 x0 x1 x2 x3 x4 x5) K=(g7_38 (fun y0 y1 y2 y3 y4 y5 y6=>K .normal (e263 y0 y1 y2 y3 y4 y5 y6)) x0 x1 x2 x3 x4 x5):=by
 kernel_rfl
theorem kp7_20 (x0 x1 x2 x3 x4 x5 x6):keep [2,5,8,9,14,15] (e263 x0 x1 x2 x3 x4 x5 x6)=(e262 x0 x1 x2 x3 x4 x5):=by kernel_rfl
theorem hb7_8 (x0 x1 x2 x3 x4 x5 x6):boolOf? (ent (e263 x0 x1 x2 x3 x4 x5 x6) (.t 106))=some x6:=by kernel_rfl
def g7_40 (S28:Int→Option V5) (k0:V23→V16→V23→V0→Int→Int→Bool→Option R) (x0:V23) (x1:V16) (x2:V23) (x3:V0) (x4 x5:Int):Option R:=
(S28 x5).bind fun r961=>
if 0≤x4∧x4 < (x3.length:Int) then
if x4.toNat < x3.length then
let v962:Int:=(x3.getD x4.toNat (0:Int))
if 0≤v962∧v962 < (x1.length:Int) then
k0 x0 x1 x2 x3 x4 x5 (r961==(x1.getD v962.toNat ((0:Int),([],((0:Int),())))).2.1)
else none
else none
else none
theorem t7_40 (S28) (h28:(ctr28 S28).holds cl) (x0 x1 x2 x3 x4 x5):exec cl N c7_40 (e262 x0 x1 x2 x3 x4 x5) K=(g7_40 S28 (fun y0 y1 y2 y3 y4 y5 y6=>K .normal (e264 y0 y1 y2 y3 y4 y5 y6)) x0 x1 x2 x3 x4 x5):=by
 rw [←put_eq h28]
 kernel_rfl
def g7_41 (k0:V23→V16→V23→V0→Int→Int→Option R) (x0:V23) (x1:V16) (x2:V23) (x3:V0) (x4 x5:Int) (x6:Bool):Option R:=
if 0≤x4∧x4 < (x2.2.1.length:Int) then
if x4.toNat < x2.2.1.length then
k0 x0 x1 (x2.1,((x2.2.1.set x4.toNat (x5,(x2.2.1.getD x4.toNat ((0:Int),((0:Int),([],())))).2)),x2.2.2)) x3 x4 x5
else none
else none
theorem t7_41 (x0 x1 x2 x3 x4 x5 x6):exec cl N c7_41 (e264 x0 x1 x2 x3 x4 x5 x6) K=(g7_41 (fun y0 y1 y2 y3 y4 y5=>K .normal (e262 y0 y1 y2 y3 y4 y5)) x0 x1 x2 x3 x4 x5 x6):=by
 kernel_rfl
theorem kp7_21 (x0 x1 x2 x3 x4 x5 x6):keep [2,5,8,9,14,15] (e264 x0 x1 x2 x3 x4 x5 x6)=(e262 x0 x1 x2 x3 x4 x5):=by kernel_rfl
theorem hb7_9 (x0 x1 x2 x3 x4 x5 x6):boolOf? (ent (e264 x0 x1 x2 x3 x4 x5 x6) (.t 119))=some x6:=by kernel_rfl
def g7_43 (S28:Int→Option V5) (k0:V23→V16→V23→V0→Int→Int→Option R) (x0:V23) (x1:V16) (x2:V23) (x3:V0) (x4 x5:Int):Option R:=
(g7_40 S28 (fun y0 y1 y2 y3 y4 y5 y6=>brB y6 (g7_41 k0 y0 y1 y2 y3 y4 y5 y6) (k0 y0 y1 y2 y3 y4 y5)) x0 x1 x2 x3 x4 x5)
theorem t7_43 (S28) (h28:(ctr28 S28).holds cl) (x0 x1 x2 x3 x4 x5):exec cl N c7_43 (e262 x0 x1 x2 x3 x4 x5) K=(g7_43 S28 (fun y0 y1 y2 y3 y4 y5=>K .normal (e262 y0 y1 y2 y3 y4 y5)) x0 x1 x2 x3 x4 x5):=by
 simp only [c7_43,exec_out,xB,xS,sN,sE,sR,t7_40 S28 h28,c7_42,exec_cond',hb7_9,Option.bind_some,bT,bF,t7_41,exec_skip,kp7_19,kp7_21,blockK_normal,blockK_ret,blockK_eq]
 rfl
def g7_44 (k0:V23→V16→V23→V0→Int→Int→Option R) (x0:V23) (x1:V16) (x2:V23) (x3:V0) (x4 x5:Int):Option R:=
k0 x0 x1 x2 x3 x4 (IntKind.i64.wrap (x5+(1:Int)))
theorem t7_44 (x0 x1 x2 x3 x4 x5):exec cl N c7_44 (e262 x0 x1 x2 x3 x4 x5) K=(g7_44 (fun y0 y1 y2 y3 y4 y5=>K .normal (e262 y0 y1 y2 y3 y4 y5)) x0 x1 x2 x3 x4 x5):=by
 kernel_rfl
def g7_45 (S28:Int→Option V5) (k0:V23→V16→V23→V0→Int→Int→Option R) (k1:V23→V16→V23→V0→Int→Int→Option R) (x0:V23) (x1:V16) (x2:V23) (x3:V0) (x4 x5:Int):Option R:=
(g7_38 (fun y0 y1 y2 y3 y4 y5 y6=>brB y6 ((g7_43 S28 (g7_44 k0)) y0 y1 y2 y3 y4 y5) (k1 y0 y1 y2 y3 y4 y5)) x0 x1 x2 x3 x4 x5)
theorem t7_45 (S28) (h28:(ctr28 S28).holds cl) (x0 x1 x2 x3 x4 x5):exec cl N c7_45 (e262 x0 x1 x2 x3 x4 x5) K=(g7_45 S28 (fun y0 y1 y2 y3 y4 y5=>K .normal (e262 y0 y1 y2 y3 y4 y5)) (fun y0 y1 y2 y3 y4 y5=>K (.exit 4) (e262 y0 y1 y2 y3 y4 y5)) x0 x1 x2 x3 x4 x5):=by
 simp only [c7_45,xS,sN,sE,sR,t7_38,c7_39,exec_out,exec_cond',hb7_8,Option.bind_some,bT,bF,exec_skip,exec_exit,kp7_20,t7_43 S28 h28,t7_44]
 rfl
def l7_46 {R:Type} (S28:Int→Option V5) (k0:V23→V16→V23→V0→Int→Int→Option R):Nat→V23→V16→V23→V0→Int→Int→Option R
 | 0,_,_,_,_,_,_=>none
 | m+1,x0,x1,x2,x3,x4,x5=>(g7_45 S28 (l7_46 S28 k0 m) k0 x0 x1 x2 x3 x4 x5)
theorem lt7_46 (S28) (h28:(ctr28 S28).holds cl):∀ (m) (x0 x1 x2 x3 x4 x5),iter [2,5,8,9,14,15] (fun env K=>exec cl N c7_45 env K) K m (e262 x0 x1 x2 x3 x4 x5)=l7_46 S28 (fun y0 y1 y2 y3 y4 y5=>K (.exit 4) (e262 y0 y1 y2 y3 y4 y5)) m x0 x1 x2 x3 x4 x5:=by
 intro m
 induction m with
 | zero=>intros; rfl
 | succ m ih=>
   intro x0 x1 x2 x3 x4 x5
   simp only [iter_succ,t7_45 S28 h28,loopK_normal,loopK_exit,loopK_ret,kp7_19,ih]
   rfl
theorem kp7_22 (x0 x1 x2 x3 x4 x5):keep [2,5,8,9,14] (e262 x0 x1 x2 x3 x4 x5)=(e260 x0 x1 x2 x3 x4):=by kernel_rfl
def g7_46 (N:Nat) (S28:Int→Option V5) (k0:V23→V16→V23→V0→Int→Option R) (x0:V23) (x1:V16) (x2:V23) (x3:V0) (x4 x5:Int):Option R:=
l7_46 S28 (fun y0 y1 y2 y3 y4 y5=>k0 y0 y1 y2 y3 y4) N x0 x1 x2 x3 x4 x5
theorem t7_46 (S28) (h28:(ctr28 S28).holds cl) (x0 x1 x2 x3 x4 x5):exec cl N c7_46 (e262 x0 x1 x2 x3 x4 x5) K=(g7_46 N S28 (fun y0 y1 y2 y3 y4=>K (.exit 4) (e260 y0 y1 y2 y3 y4)) x0 x1 x2 x3 x4 x5):=by
 simp only [c7_46,exec_out,exec_loop,kp7_19,lt7_46 S28 h28,kp7_22]
 rfl
def g7_48 (k0:V23→V16→V23→V0→Int→Bool→Option R) (x0:V23) (x1:V16) (x2:V23) (x3:V0) (x4:Int):Option R:=
if 0≤x4∧x4 < (x2.2.1.length:Int) then
if x4.toNat < x2.2.1.length then
k0 x0 x1 x2 x3 x4 (((x2.2.1.getD x4.toNat ((0:Int),((0:Int),([],())))).1)==(0:Int))
else none
else none
theorem t7_48 (x0 x1 x2 x3 x4):exec cl N c7_48 (e260 x0 x1 x2 x3 x4) K=(g7_48 (fun y0 y1 y2 y3 y4 y5=>K .normal (e265 y0 y1 y2 y3 y4 y5)) x0 x1 x2 x3 x4):=by
 kernel_rfl
def g7_49 (k0:V23→Int→Int→Option R) (x0:V23) (x1:V16) (x2:V23) (x3:V0) (x4:Int) (x5:Bool):Option R:=
if 0≤x4∧x4 < (x3.length:Int) then
if x4.toNat < x3.length then
let v967:Int:=(x3.getD x4.toNat (0:Int))
if 0≤v967∧v967 < (x1.length:Int) then
k0 ([],[],()) ((x1.getD v967.toNat ((0:Int),([],((0:Int),())))).2.2.1) (9:Int)
else none
else none
else none
theorem t7_49 (x0 x1 x2 x3 x4 x5):exec cl N c7_49 (e265 x0 x1 x2 x3 x4 x5) K=(g7_49 (fun y0 y1 y2=>K .normal (e147 y0 y1 y2)) x0 x1 x2 x3 x4 x5):=by
 kernel_rfl
theorem kp7_23 (x0 x1 x2):keep [2,3,4,5,8,9,14] (e147 x0 x1 x2)=(e266 x0 x1 x2):=by kernel_rfl
theorem kp7_24 (x0 x1 x2 x3 x4 x5):keep [2,3,4,5,8,9,14] (e265 x0 x1 x2 x3 x4 x5)=(e267 x0 x1 x2 x3 x4):=by kernel_rfl
theorem hb7_10 (x0 x1 x2 x3 x4 x5):boolOf? (ent (e265 x0 x1 x2 x3 x4 x5) (.t 132))=some x5:=by kernel_rfl
theorem kp7_25 (x0 x1 x2):keep [2,3,4,5,8,9,14] (e266 x0 x1 x2)=(e266 x0 x1 x2):=by kernel_rfl
theorem kp7_26 (x0 x1 x2 x3 x4):keep [2,3,4,5,8,9,14] (e267 x0 x1 x2 x3 x4)=(e267 x0 x1 x2 x3 x4):=by kernel_rfl
def g7_52 (k0:V23→V16→V23→V0→Int→Option R) (x0:V23) (x1:V16) (x2:V23) (x3:V0) (x4:Int):Option R:=
k0 x0 x1 x2 x3 (IntKind.i64.wrap (x4+(1:Int)))
theorem t7_52 (x0 x1 x2 x3 x4):exec cl N c7_52 (e267 x0 x1 x2 x3 x4) K=(g7_52 (fun y0 y1 y2 y3 y4=>K .normal (e260 y0 y1 y2 y3 y4)) x0 x1 x2 x3 x4):=by
 kernel_rfl
def g7_53 (N:Nat) (S28:Int→Option V5) (k0:V23→Int→Int→Option R) (k1:V23→V16→V23→V0→Int→Option R) (k2:V23→V16→V23→V0→Int→Option R) (x0:V23) (x1:V16) (x2:V23) (x3:V0) (x4:Int):Option R:=
(g7_35 (fun y0 y1 y2 y3 y4 y5=>brB y5 ((g7_37 (g7_46 N S28 ((g7_48 (fun y0 y1 y2 y3 y4 y5=>brB y5 (g7_49 k0 y0 y1 y2 y3 y4 y5) (((g7_52 k1)) y0 y1 y2 y3 y4)))))) y0 y1 y2 y3 y4) (k2 y0 y1 y2 y3 y4)) x0 x1 x2 x3 x4)
theorem t7_53 (S28) (h28:(ctr28 S28).holds cl) (x0 x1 x2 x3 x4):exec cl N c7_53 (e260 x0 x1 x2 x3 x4) K=(g7_53 N S28 (fun y0 y1 y2=>K .ret (e266 y0 y1 y2)) (fun y0 y1 y2 y3 y4=>K .normal (e260 y0 y1 y2 y3 y4)) (fun y0 y1 y2 y3 y4=>K (.exit 2) (e260 y0 y1 y2 y3 y4)) x0 x1 x2 x3 x4):=by
 simp only [c7_53,xS,sN,sE,sR,t7_35,c7_36,exec_out,exec_cond',hb7_7,Option.bind_some,bT,bF,exec_skip,exec_exit,kp7_18,c7_51,xB,t7_37,c7_47,t7_46 S28 h28,blockK_normal,blockK_ret,blockK_eq,kp7_17,t7_48,c7_50,hb7_10,t7_49,exec_ret,kp7_23,kp7_24,kp7_25,kp7_26,t7_52]
 rfl
def l7_54 {R:Type} (N:Nat) (S28:Int→Option V5) (k0:V23→Int→Int→Option R) (k1:V23→V16→V23→V0→Int→Option R):Nat→V23→V16→V23→V0→Int→Option R
 | 0,_,_,_,_,_=>none
 | m+1,x0,x1,x2,x3,x4=>(g7_53 N S28 k0 (l7_54 N S28 k0 k1 m) k1 x0 x1 x2 x3 x4)
theorem lt7_54 (S28) (h28:(ctr28 S28).holds cl):∀ (m) (x0 x1 x2 x3 x4),iter [2,5,8,9,14] (fun env K=>exec cl N c7_53 env K) K m (e260 x0 x1 x2 x3 x4)=l7_54 N S28 (fun y0 y1 y2=>K .ret (e266 y0 y1 y2)) (fun y0 y1 y2 y3 y4=>K (.exit 2) (e260 y0 y1 y2 y3 y4)) m x0 x1 x2 x3 x4:=by
 intro m
 induction m with
 | zero=>intros; rfl
 | succ m ih=>
   intro x0 x1 x2 x3 x4
   simp only [iter_succ,t7_53 S28 h28,loopK_normal,loopK_exit,loopK_ret,kp7_17,ih]
   rfl
theorem kp7_27 (x0 x1 x2):keep [2,3,4,8] (e266 x0 x1 x2)=(e268 x0 x1 x2):=by kernel_rfl
theorem kp7_28 (x0 x1 x2 x3 x4):keep [2,3,4,8] (e260 x0 x1 x2 x3 x4)=(e269 x0 x2):=by kernel_rfl
def g7_54 (N:Nat) (S28:Int→Option V5) (k0:V23→Int→Int→Option R) (k1:V23→V23→Option R) (x0:V23) (x1:V16) (x2:V23) (x3:V0) (x4:Int):Option R:=
l7_54 N S28 k0 (fun y0 y1 y2 y3 y4=>k1 y0 y2) N x0 x1 x2 x3 x4
theorem t7_54 (S28) (h28:(ctr28 S28).holds cl) (x0 x1 x2 x3 x4):exec cl N c7_54 (e260 x0 x1 x2 x3 x4) K=(g7_54 N S28 (fun y0 y1 y2=>K .ret (e268 y0 y1 y2)) (fun y0 y1=>K (.exit 2) (e269 y0 y1)) x0 x1 x2 x3 x4):=by
 simp only [c7_54,exec_out,exec_loop,kp7_17,lt7_54 S28 h28,kp7_27,kp7_28]
 rfl
theorem kp7_29 (x0 x1 x2):keep [2,3,4,8] (e268 x0 x1 x2)=(e268 x0 x1 x2):=by kernel_rfl
theorem kp7_30 (x0 x1):keep [2,3,4,8] (e269 x0 x1)=(e269 x0 x1):=by kernel_rfl
def g7_60 (S14:V23→Option (Int)) (k0:V23→V23→Int→Bool→Option R) (x0 x1:V23):Option R:=
(S14 x1).bind fun r970=>
k0 x0 x1 r970 (r970 != (0:Int))
theorem t7_60 (S14) (h14:(ctr14 S14).holds cl) (x0 x1):exec cl N c7_60 (e269 x0 x1) K=(g7_60 S14 (fun y0 y1 y2 y3=>exec cl N c7_59 (e270 y0 y1 y2 y3) K) x0 x1):=by
 rw [←put_eq h14]
 kernel_rfl
def g7_58 (k0:V23→Int→Int→Option R) (x0 x1:V23) (x2:Int) (x3:Bool):Option R:=
k0 ([],[],()) (0:Int) x2
theorem t7_58 (x0 x1 x2 x3):exec cl N c7_58 (e270 x0 x1 x2 x3) K=(g7_58 (fun y0 y1 y2=>K .normal (e136 y0 y1 y2)) x0 x1 x2 x3):=by
 kernel_rfl
theorem kp7_31 (x0 x1 x2):keep [2,3,4,8] (e136 x0 x1 x2)=(e271 x0 x1 x2):=by kernel_rfl
theorem kp7_32 (x0 x1 x2 x3):keep [2,3,4,8] (e270 x0 x1 x2 x3)=(e272 x0 x1):=by kernel_rfl
theorem hb7_11 (x0 x1 x2 x3):boolOf? (ent (e270 x0 x1 x2 x3) (.t 145))=some x3:=by kernel_rfl
def g7_61 (k0:V23→Int→Int→Option R) (x0 x1:V23):Option R:=
k0 x1 (0:Int) (0:Int)
theorem t7_61 (x0 x1):exec cl N c7_61 (e272 x0 x1) K=(g7_61 (fun y0 y1 y2=>K .normal (e147 y0 y1 y2)) x0 x1):=by
 kernel_rfl
def g7_63b (N:Nat) (S14:V23→Option (Int)) (S24:V1→Option V19) (S25:V16→Int→Int→V1→Option (Bool)) (S26:V16→Int→Option V25) (S27:V16→Int→Option V20) (S28:Int→Option V5) (k0:V23→Int→Int→Option R) (k1:V23→Int→Int→Option R) (k2:V23→Int→Int→Option R) (k3:V23→Int→Int→Option R) (k4:V23→Int→Int→Option R) (k5:V23→Int→Int→Option R) (k6:V23→Int→Int→Option R) (x0:V1):Option R:=
(g7_63 S24 (g7_2 (fun y0 y1 y2 y3 y4=>brB y4 (g7_3 k0 y0 y1 y2 y3 y4) ((g7_5 S25 (fun y0 y1 y2=>brB y2 (g7_6 S26 k1 y0 y1 y2) ((g7_8 S25 (fun y0 y1 y2=>brB y2 (g7_9 S26 k1 y0 y1 y2) ((g7_11 S25 (fun y0 y1 y2=>brB y2 (g7_12 S26 k1 y0 y1 y2) ((g7_62 (g7_29 N S25 S26 S27 k2 ((g7_31 (fun y0 y1 y2 y3 y4 y5=>brB y5 (g7_32 S26 k3 y0 y1 y2 y3 y4 y5) ((g7_34 (g7_54 N S28 k4 ((g7_60 S14 (fun y0 y1 y2 y3=>brB y3 (g7_58 k5 y0 y1 y2 y3) ((g7_61 k6) y0 y1)))))) y0 y1 y2 y3)))))) y0 y1))) y0 y1))) y0 y1))) y0 y1))) x0)
theorem t7_63b (S14) (S24) (S25) (S26) (S27) (S28) (h14:(ctr14 S14).holds cl) (h24:(ctr24 S24).holds cl) (h25:(ctr25 S25).holds cl) (h26:(ctr26 S26).holds cl) (h27:(ctr27 S27).holds cl) (h28:(ctr28 S28).holds cl) (x0):exec cl N c7_63 [(0,.v .str x0)] K=(g7_63b N S14 S24 S25 S26 S27 S28 (fun y0 y1 y2=>K .ret (e137 y0 y1 y2)) (fun y0 y1 y2=>K .ret (e246 y0 y1 y2)) (fun y0 y1 y2=>K .ret (e255 y0 y1 y2)) (fun y0 y1 y2=>K .ret (e258 y0 y1 y2)) (fun y0 y1 y2=>K .ret (e268 y0 y1 y2)) (fun y0 y1 y2=>K .ret (e271 y0 y1 y2)) (fun y0 y1 y2=>K .ret (e147 y0 y1 y2)) x0):=by
 simp only [xS,sN,sE,sR,t7_63 S24 h24,t7_2,c7_4,exec_out,exec_cond',hb7_0,Option.bind_some,bT,bF,t7_3,exec_ret,exec_skip,kp7_0,kp7_1,t7_5 S25 h25,c7_7,hb7_1,t7_6 S26 h26,kp7_2,kp7_3,t7_8 S25 h25,c7_10,hb7_2,t7_9 S26 h26,kp7_4,t7_11 S25 h25,c7_13,hb7_3,t7_12 S26 h26,kp7_5,t7_62,c7_30,xB,t7_29 S25 S26 S27 h25 h26 h27,blockK_normal,blockK_ret,blockK_eq,kp7_13,kp7_14,t7_31,c7_33,hb7_6,t7_32 S26 h26,kp7_15,kp7_16,t7_34,c7_55,t7_54 S28 h28,kp7_29,kp7_30,t7_60 S14 h14,c7_59,hb7_11,t7_58,kp7_31,kp7_32,t7_61]
 rfl
theorem rk7_0 (y0 y1 y2):retK d7 .ret (e137 y0 y1 y2)=some [.v U17 y0,.v U2 y1,.v U2 y2]:=by kernel_rfl
theorem rk7_1 (y0 y1 y2):retK d7 .ret (e246 y0 y1 y2)=some [.v U17 y0,.v U2 y1,.v U2 y2]:=by kernel_rfl
theorem rk7_2 (y0 y1 y2):retK d7 .ret (e255 y0 y1 y2)=some [.v U17 y0,.v U2 y1,.v U2 y2]:=by kernel_rfl
theorem rk7_3 (y0 y1 y2):retK d7 .ret (e258 y0 y1 y2)=some [.v U17 y0,.v U2 y1,.v U2 y2]:=by kernel_rfl
theorem rk7_4 (y0 y1 y2):retK d7 .ret (e268 y0 y1 y2)=some [.v U17 y0,.v U2 y1,.v U2 y2]:=by kernel_rfl
theorem rk7_5 (y0 y1 y2):retK d7 .ret (e271 y0 y1 y2)=some [.v U17 y0,.v U2 y1,.v U2 y2]:=by kernel_rfl
theorem rk7_6 (y0 y1 y2):retK d7 .ret (e147 y0 y1 y2)=some [.v U17 y0,.v U2 y1,.v U2 y2]:=by kernel_rfl
def g7 (N:Nat) (S14:V23→Option (Int)) (S24:V1→Option V19) (S25:V16→Int→Int→V1→Option (Bool)) (S26:V16→Int→Option V25) (S27:V16→Int→Option V20) (S28:Int→Option V5) (x0:V1) (k:V23→Int→Int→Option R):Option R:=
(g7_63b N S14 S24 S25 S26 S27 S28 k k k k k k k x0)
theorem gen7 (S14) (S24) (S25) (S26) (S27) (S28) (h14:(ctr14 S14).holds cl) (h24:(ctr24 S24).holds cl) (h25:(ctr25 S25).holds cl) (h26:(ctr26 S26).holds cl) (h27:(ctr27 S27).holds cl) (h28:(ctr28 S28).holds cl) (x0) (k:List E→Option R):exec cl N c7 [(0,.v .str x0)] (fun e env=>(retK d7 e env).bind k)=g7 N S14 S24 S25 S26 S27 S28 x0 (fun r0 r1 r2=>k [.v U17 r0,.v U2 r1,.v U2 r2]):=by
 simp only [c7,t7_63b S14 S24 S25 S26 S27 S28 h14 h24 h25 h26 h27 h28,rk7_0,rk7_1,rk7_2,rk7_3,rk7_4,rk7_5,rk7_6,Option.bind_some]
 rfl
def ctr7 (S:V1→Option V25):Ctr:=cv1 7 .str S fun b=> [.v U17 b.1,.v U2 b.2.1,.v U2 b.2.2]
def S7 (N:Nat) (x0:V1):Option V25:=g7 N (S14 N) (S24 N) (S25 N) (S26 N) (S27 N) (S28 N) x0 (fun (r0:V23) (r1:Int) (r2:Int)=>some (r0,r1,r2))
def g29_0 (k0:V6→V6→Option R) (x0 x1:V6):Option R:=
k0 x0 x1
theorem t29_0 (x0 x1):exec cl N c29_0 (e273 x0 x1) K=(g29_0 (fun y0 y1=>K .normal (e273 y0 y1)) x0 x1):=by
 kernel_rfl
def g29_1 (k0:V6→V6→Bool→Option R) (x0 x1:V6):Option R:=
k0 x0 x1 ((x0.length:Int) != (x1.length:Int))
theorem t29_1 (x0 x1):exec cl N c29_1 (e273 x0 x1) K=(g29_1 (fun y0 y1 y2=>K .normal (e274 y0 y1 y2)) x0 x1):=by
 kernel_rfl
def g29_2 (k0:Bool→Option R) (x0 x1:V6) (x2:Bool):Option R:=
k0 false
theorem t29_2 (x0 x1 x2):exec cl N c29_2 (e274 x0 x1 x2) K=(g29_2 (fun y0=>K .normal [(4,.v .bool y0)]) x0 x1 x2):=by
 kernel_rfl
theorem kp29_0 (x0):keep [0,1,4] [(4,.v .bool x0)]=(e275 x0):=by kernel_rfl
theorem kp29_1 (x0 x1 x2):keep [0,1,4] (e274 x0 x1 x2)=[(0,.v U1 x0),(1,.v U1 x1),(4,.dead)]:=by kernel_rfl
theorem hb29_0 (x0 x1 x2):boolOf? (ent (e274 x0 x1 x2) (.t 10))=some x2:=by kernel_rfl
def g29_4 (k0:V6→V6→Int→Option R) (x0 x1:V6):Option R:=
k0 x0 x1 (0:Int)
theorem t29_4 (x0 x1):exec cl N c29_4 [(0,.v U1 x0),(1,.v U1 x1),(4,.dead)] K=(g29_4 (fun y0 y1 y2=>K .normal (e276 y0 y1 y2)) x0 x1):=by
 kernel_rfl
theorem kp29_2 (x0 x1 x2):keep [0,1,5] (e276 x0 x1 x2)=(e276 x0 x1 x2):=by kernel_rfl
def g29_5 (k0:V6→V6→Int→Bool→Option R) (x0 x1:V6) (x2:Int):Option R:=
k0 x0 x1 x2 (decide (x2 < (x0.length:Int)))
theorem t29_5 (x0 x1 x2):exec cl N c29_5 (e276 x0 x1 x2) K=(g29_5 (fun y0 y1 y2 y3=>K .normal (e277 y0 y1 y2 y3)) x0 x1 x2):=by
 kernel_rfl
theorem kp29_3 (x0 x1 x2 x3):keep [0,1,5] (e277 x0 x1 x2 x3)=(e276 x0 x1 x2):=by kernel_rfl
theorem hb29_1 (x0 x1 x2 x3):boolOf? (ent (e277 x0 x1 x2 x3) (.t 14))=some x3:=by kernel_rfl
def g29_7 (k0:V6→V6→Int→Bool→Option R) (x0 x1:V6) (x2:Int):Option R:=
if 0≤x2∧x2 < (x0.length:Int) then
if 0≤x2∧x2 < (x1.length:Int) then
k0 x0 x1 x2 ((x0.getD x2.toNat []) != (x1.getD x2.toNat []))
else none
else none
theorem t29_7 (x0 x1 x2):exec cl N c29_7 (e276 x0 x1 x2) K=(g29_7 (fun y0 y1 y2 y3=>K .normal (e278 y0 y1 y2 y3)) x0 x1 x2):=by
 kernel_rfl
def g29_8 (k0:Bool→Option R) (x0 x1:V6) (x2:Int) (x3:Bool):Option R:=
k0 false
theorem t29_8 (x0 x1 x2 x3):exec cl N c29_8 (e278 x0 x1 x2 x3) K=(g29_8 (fun y0=>K .normal [(4,.v .bool y0)]) x0 x1 x2 x3):=by
 kernel_rfl
theorem kp29_4 (x0):keep [0,1,4,5] [(4,.v .bool x0)]=(e227 x0):=by kernel_rfl
theorem kp29_5 (x0 x1 x2 x3):keep [0,1,4,5] (e278 x0 x1 x2 x3)=(e279 x0 x1 x2):=by kernel_rfl
theorem hb29_2 (x0 x1 x2 x3):boolOf? (ent (e278 x0 x1 x2 x3) (.t 25))=some x3:=by kernel_rfl
theorem kp29_6 (x0):keep [0,1,4,5] (e227 x0)=(e227 x0):=by kernel_rfl
theorem kp29_7 (x0 x1 x2):keep [0,1,4,5] (e279 x0 x1 x2)=(e279 x0 x1 x2):=by kernel_rfl
def g29_11 (k0:V6→V6→Int→Option R) (x0 x1:V6) (x2:Int):Option R:=
k0 x0 x1 (IntKind.i64.wrap (x2+(1:Int)))
theorem t29_11 (x0 x1 x2):exec cl N c29_11 (e279 x0 x1 x2) K=(g29_11 (fun y0 y1 y2=>K .normal (e276 y0 y1 y2)) x0 x1 x2):=by
 kernel_rfl
def g29_12 (k0:Bool→Option R) (k1:V6→V6→Int→Option R) (k2:V6→V6→Int→Option R) (x0 x1:V6) (x2:Int):Option R:=
(g29_5 (fun y0 y1 y2 y3=>brB y3 ((g29_7 (fun y0 y1 y2 y3=>brB y3 (g29_8 k0 y0 y1 y2 y3) (((g29_11 k1)) y0 y1 y2))) y0 y1 y2) (k2 y0 y1 y2)) x0 x1 x2)
theorem t29_12 (x0 x1 x2):exec cl N c29_12 (e276 x0 x1 x2) K=(g29_12 (fun y0=>K .ret (e227 y0)) (fun y0 y1 y2=>K .normal (e276 y0 y1 y2)) (fun y0 y1 y2=>K (.exit 0) (e276 y0 y1 y2)) x0 x1 x2):=by
 simp only [c29_12,xS,sN,sE,sR,t29_5,c29_6,exec_out,exec_cond',hb29_1,Option.bind_some,bT,bF,exec_skip,exec_exit,kp29_3,c29_10,xB,t29_7,c29_9,hb29_2,t29_8,exec_ret,kp29_4,kp29_5,blockK_normal,blockK_ret,blockK_eq,kp29_6,kp29_7,t29_11]
 rfl
def l29_13 {R:Type} (k0:Bool→Option R) (k1:V6→V6→Int→Option R):Nat→V6→V6→Int→Option R
 | 0,_,_,_=>none
 | m+1,x0,x1,x2=>(g29_12 k0 (l29_13 k0 k1 m) k1 x0 x1 x2)
theorem lt29_13:∀ (m) (x0 x1 x2),iter [0,1,5] (fun env K=>exec cl N c29_12 env K) K m (e276 x0 x1 x2)=l29_13 (fun y0=>K .ret (e227 y0)) (fun y0 y1 y2=>K (.exit 0) (e276 y0 y1 y2)) m x0 x1 x2:=by
 intro m
 induction m with
 | zero=>intros; rfl
 | succ m ih=>
   intro x0 x1 x2
   simp only [iter_succ,t29_12,loopK_normal,loopK_exit,loopK_ret,kp29_2,ih]
   rfl
theorem kp29_8 (x0):keep [4] (e227 x0)=[(4,.v .bool x0)]:=by kernel_rfl
theorem kp29_9 (x0 x1 x2):keep [4] (e276 x0 x1 x2)=[(4,.dead)]:=by kernel_rfl
def g29_13 (N:Nat) (k0:Bool→Option R) (k1:Option R) (x0 x1:V6) (x2:Int):Option R:=
l29_13 k0 (fun y0 y1 y2=>k1) N x0 x1 x2
theorem t29_13 (x0 x1 x2):exec cl N c29_13 (e276 x0 x1 x2) K=(g29_13 N (fun y0=>K .ret [(4,.v .bool y0)]) (K (.exit 0) [(4,.dead)]) x0 x1 x2):=by
 simp only [c29_13,exec_out,exec_loop,kp29_2,lt29_13,kp29_8,kp29_9]
 rfl
theorem kp29_10 (x0):keep [4] [(4,.v .bool x0)]=[(4,.v .bool x0)]:=by kernel_rfl
theorem kp29_11:keep [4] [(4,.dead)]=[(4,.dead)]:=by kernel_rfl
def g29_15 (k0:Bool→Option R):Option R:=
k0 true
theorem t29_15:exec cl N c29_15 [(4,.dead)] K=(g29_15 (fun y0=>K .normal [(4,.v .bool y0)])):=by
 kernel_rfl
def g29_16 (N:Nat) (k0:Bool→Option R) (k1:Bool→Option R) (x0 x1:V6):Option R:=
(g29_0 (g29_1 (fun y0 y1 y2=>brB y2 (g29_2 k0 y0 y1 y2) ((g29_4 (g29_13 N k1 (g29_15 k1))) y0 y1))) x0 x1)
theorem t29_16 (x0 x1):exec cl N c29_16 (e273 x0 x1) K=(g29_16 N (fun y0=>K .ret (e275 y0)) (fun y0=>K .ret [(4,.v .bool y0)]) x0 x1):=by
 simp only [c29_16,xS,sN,sE,sR,t29_0,t29_1,c29_3,exec_out,exec_cond',hb29_0,Option.bind_some,bT,bF,t29_2,exec_ret,exec_skip,kp29_0,kp29_1,t29_4,c29_14,xB,t29_13,blockK_normal,blockK_ret,blockK_eq,kp29_10,kp29_11,t29_15]
 rfl
theorem rk29_0 (y0):retK d29 .ret (e275 y0)=some [.v .bool y0]:=by kernel_rfl
theorem rk29_1 (y0):retK d29 .ret [(4,.v .bool y0)]=some [.v .bool y0]:=by kernel_rfl
def g29 (N:Nat) (x0 x1:V6) (k:Bool→Option R):Option R:=
(g29_16 N k k x0 x1)
theorem gen29 (x0 x1) (k:List E→Option R):exec cl N c29 (e273 x0 x1) (fun e env=>(retK d29 e env).bind k)=g29 N x0 x1 (fun r0=>k [.v .bool r0]):=by
 simp only [c29,t29_16,rk29_0,rk29_1,Option.bind_some]
 rfl
def ctr29 (S:V6→V6→Option (Bool)):Ctr:=cv2 29 U1 U1 S fun b=> [.v .bool b]
def S29 (N:Nat) (x0:V6) (x1:V6):Option (Bool):=g29 N x0 x1 (fun (r0:Bool)=>some (r0))
def g8_0 (k0:V23→V23→Option R) (x0 x1:V23):Option R:=
k0 x0 x1
theorem t8_0 (x0 x1):exec cl N c8_0 [(0,.v U17 x0),(1,.v U17 x1)] K=(g8_0 (fun y0 y1=>K .normal [(2,.loc U17 .no y0),(3,.loc U17 .no y1)]) x0 x1):=by
 kernel_rfl
def g8_1 (k0:V23→V23→Bool→Option R) (x0 x1:V23):Option R:=
brB (x0.1 != x1.1) (k0 x0 x1 true) (k0 x0 x1 ((x0.2.1.length:Int) != (x1.2.1.length:Int)))
theorem t8_1 (x0 x1):exec cl N c8_1 [(2,.loc U17 .no x0),(3,.loc U17 .no x1)] K=(g8_1 (fun y0 y1 y2=>K .normal (e280 y0 y1 y2)) x0 x1):=by
 kernel_rfl
def g8_2 (k0:Bool→Option R) (x0 x1:V23) (x2:Bool):Option R:=
k0 false
theorem t8_2 (x0 x1 x2):exec cl N c8_2 (e280 x0 x1 x2) K=(g8_2 (fun y0=>K .normal [(4,.v .bool y0)]) x0 x1 x2):=by
 kernel_rfl
theorem kp8_0 (x0):keep [2,3,4] [(4,.v .bool x0)]=(e281 x0):=by kernel_rfl
theorem kp8_1 (x0 x1 x2):keep [2,3,4] (e280 x0 x1 x2)=[(2,.loc U17 .no x0),(3,.loc U17 .no x1),(4,.dead)]:=by kernel_rfl
theorem hb8_0 (x0 x1 x2):boolOf? (ent (e280 x0 x1 x2) (.t 21))=some x2:=by kernel_rfl
def g8_4 (k0:V23→V23→Int→Option R) (x0 x1:V23):Option R:=
k0 x0 x1 (0:Int)
theorem t8_4 (x0 x1):exec cl N c8_4 [(2,.loc U17 .no x0),(3,.loc U17 .no x1),(4,.dead)] K=(g8_4 (fun y0 y1 y2=>K .normal (e282 y0 y1 y2)) x0 x1):=by
 kernel_rfl
theorem kp8_2 (x0 x1 x2):keep [2,3,5] (e282 x0 x1 x2)=(e282 x0 x1 x2):=by kernel_rfl
def g8_5 (k0:V23→V23→Int→Bool→Option R) (x0 x1:V23) (x2:Int):Option R:=
k0 x0 x1 x2 (decide (x2 < (x0.2.1.length:Int)))
theorem t8_5 (x0 x1 x2):exec cl N c8_5 (e282 x0 x1 x2) K=(g8_5 (fun y0 y1 y2 y3=>K .normal (e283 y0 y1 y2 y3)) x0 x1 x2):=by
 kernel_rfl
theorem kp8_3 (x0 x1 x2 x3):keep [2,3,5] (e283 x0 x1 x2 x3)=(e282 x0 x1 x2):=by kernel_rfl
theorem hb8_1 (x0 x1 x2 x3):boolOf? (ent (e283 x0 x1 x2 x3) (.t 26))=some x3:=by kernel_rfl
def g8_11 (S29:V6→V6→Option (Bool)) (k0:V23→V23→Int→Bool→Option R) (x0 x1:V23) (x2:Int):Option R:=
if 0≤x2∧x2 < (x0.2.1.length:Int) then
if 0≤x2∧x2 < (x1.2.1.length:Int) then
brB ((x0.2.1.getD x2.toNat ((0:Int),((0:Int),([],())))).1 != (x1.2.1.getD x2.toNat ((0:Int),((0:Int),([],())))).1) (k0 x0 x1 x2 true) (brB ((x0.2.1.getD x2.toNat ((0:Int),((0:Int),([],())))).2.1 != (x1.2.1.getD x2.toNat ((0:Int),((0:Int),([],())))).2.1) (k0 x0 x1 x2 true) ((S29 ((x0.2.1.getD x2.toNat ((0:Int),((0:Int),([],())))).2.2.1) ((x1.2.1.getD x2.toNat ((0:Int),((0:Int),([],())))).2.2.1)).bind fun r993=>
k0 x0 x1 x2 (!r993)))
else none
else none
theorem t8_11 (S29) (h29:(ctr29 S29).holds cl) (x0 x1 x2):exec cl N c8_11 (e282 x0 x1 x2) K=(g8_11 S29 (fun y0 y1 y2 y3=>exec cl N c8_10 (e284 y0 y1 y2 y3) K) x0 x1 x2):=by
 rw [←put_eq h29]
 kernel_rfl
def g8_9 (k0:Bool→Option R) (x0 x1:V23) (x2:Int) (x3:Bool):Option R:=
k0 false
theorem t8_9 (x0 x1 x2 x3):exec cl N c8_9 (e284 x0 x1 x2 x3) K=(g8_9 (fun y0=>K .normal [(4,.v .bool y0)]) x0 x1 x2 x3):=by
 kernel_rfl
theorem kp8_4 (x0):keep [2,3,4,5] [(4,.v .bool x0)]=(e285 x0):=by kernel_rfl
theorem kp8_5 (x0 x1 x2 x3):keep [2,3,4,5] (e284 x0 x1 x2 x3)=(e286 x0 x1 x2):=by kernel_rfl
theorem hb8_2 (x0 x1 x2 x3):boolOf? (ent (e284 x0 x1 x2 x3) (.t 58))=some x3:=by kernel_rfl
theorem kp8_6 (x0):keep [2,3,4,5] (e285 x0)=(e285 x0):=by kernel_rfl
theorem kp8_7 (x0 x1 x2):keep [2,3,4,5] (e286 x0 x1 x2)=(e286 x0 x1 x2):=by kernel_rfl
def g8_13 (k0:V23→V23→Int→Option R) (x0 x1:V23) (x2:Int):Option R:=
k0 x0 x1 (IntKind.i64.wrap (x2+(1:Int)))
theorem t8_13 (x0 x1 x2):exec cl N c8_13 (e286 x0 x1 x2) K=(g8_13 (fun y0 y1 y2=>K .normal (e282 y0 y1 y2)) x0 x1 x2):=by
 kernel_rfl
def g8_14 (S29:V6→V6→Option (Bool)) (k0:Bool→Option R) (k1:V23→V23→Int→Option R) (k2:V23→V23→Int→Option R) (x0 x1:V23) (x2:Int):Option R:=
(g8_5 (fun y0 y1 y2 y3=>brB y3 ((g8_11 S29 (fun y0 y1 y2 y3=>brB y3 (g8_9 k0 y0 y1 y2 y3) (((g8_13 k1)) y0 y1 y2))) y0 y1 y2) (k2 y0 y1 y2)) x0 x1 x2)
theorem t8_14 (S29) (h29:(ctr29 S29).holds cl) (x0 x1 x2):exec cl N c8_14 (e282 x0 x1 x2) K=(g8_14 S29 (fun y0=>K .ret (e285 y0)) (fun y0 y1 y2=>K .normal (e282 y0 y1 y2)) (fun y0 y1 y2=>K (.exit 0) (e282 y0 y1 y2)) x0 x1 x2):=by
 simp only [c8_14,xS,sN,sE,sR,t8_5,c8_6,exec_out,exec_cond',hb8_1,Option.bind_some,bT,bF,exec_skip,exec_exit,kp8_3,c8_12,xB,t8_11 S29 h29,c8_10,hb8_2,t8_9,exec_ret,kp8_4,kp8_5,blockK_normal,blockK_ret,blockK_eq,kp8_6,kp8_7,t8_13]
 rfl
def l8_15 {R:Type} (S29:V6→V6→Option (Bool)) (k0:Bool→Option R) (k1:V23→V23→Int→Option R):Nat→V23→V23→Int→Option R
 | 0,_,_,_=>none
 | m+1,x0,x1,x2=>(g8_14 S29 k0 (l8_15 S29 k0 k1 m) k1 x0 x1 x2)
theorem lt8_15 (S29) (h29:(ctr29 S29).holds cl):∀ (m) (x0 x1 x2),iter [2,3,5] (fun env K=>exec cl N c8_14 env K) K m (e282 x0 x1 x2)=l8_15 S29 (fun y0=>K .ret (e285 y0)) (fun y0 y1 y2=>K (.exit 0) (e282 y0 y1 y2)) m x0 x1 x2:=by
 intro m
 induction m with
 | zero=>intros; rfl
 | succ m ih=>
   intro x0 x1 x2
   simp only [iter_succ,t8_14 S29 h29,loopK_normal,loopK_exit,loopK_ret,kp8_2,ih]
   rfl
theorem kp8_8 (x0):keep [4] (e285 x0)=[(4,.v .bool x0)]:=by kernel_rfl
theorem kp8_9 (x0 x1 x2):keep [4] (e282 x0 x1 x2)=[(4,.dead)]:=by kernel_rfl
def g8_15 (N:Nat) (S29:V6→V6→Option (Bool)) (k0:Bool→Option R) (k1:Option R) (x0 x1:V23) (x2:Int):Option R:=
l8_15 S29 k0 (fun y0 y1 y2=>k1) N x0 x1 x2
theorem t8_15 (S29) (h29:(ctr29 S29).holds cl) (x0 x1 x2):exec cl N c8_15 (e282 x0 x1 x2) K=(g8_15 N S29 (fun y0=>K .ret [(4,.v .bool y0)]) (K (.exit 0) [(4,.dead)]) x0 x1 x2):=by
 simp only [c8_15,exec_out,exec_loop,kp8_2,lt8_15 S29 h29,kp8_8,kp8_9]
 rfl
theorem kp8_10 (x0):keep [4] [(4,.v .bool x0)]=[(4,.v .bool x0)]:=by kernel_rfl
theorem kp8_11:keep [4] [(4,.dead)]=[(4,.dead)]:=by kernel_rfl
def g8_17 (k0:Bool→Option R):Option R:=
k0 true
theorem t8_17:exec cl N c8_17 [(4,.dead)] K=(g8_17 (fun y0=>K .normal [(4,.v .bool y0)])):=by
 kernel_rfl
def g8_18 (N:Nat) (S29:V6→V6→Option (Bool)) (k0:Bool→Option R) (k1:Bool→Option R) (x0 x1:V23):Option R:=
(g8_0 (g8_1 (fun y0 y1 y2=>brB y2 (g8_2 k0 y0 y1 y2) ((g8_4 (g8_15 N S29 k1 (g8_17 k1))) y0 y1))) x0 x1)
theorem t8_18 (S29) (h29:(ctr29 S29).holds cl) (x0 x1):exec cl N c8_18 [(0,.v U17 x0),(1,.v U17 x1)] K=(g8_18 N S29 (fun y0=>K .ret (e281 y0)) (fun y0=>K .ret [(4,.v .bool y0)]) x0 x1):=by
 simp only [c8_18,xS,sN,sE,sR,t8_0,t8_1,c8_3,exec_out,exec_cond',hb8_0,Option.bind_some,bT,bF,t8_2,exec_ret,exec_skip,kp8_0,kp8_1,t8_4,c8_16,xB,t8_15 S29 h29,blockK_normal,blockK_ret,blockK_eq,kp8_10,kp8_11,t8_17]
 rfl
theorem rk8_0 (y0):retK d8 .ret (e281 y0)=some [.v .bool y0]:=by kernel_rfl
theorem rk8_1 (y0):retK d8 .ret [(4,.v .bool y0)]=some [.v .bool y0]:=by kernel_rfl
def g8 (N:Nat) (S29:V6→V6→Option (Bool)) (x0 x1:V23) (k:Bool→Option R):Option R:=
(g8_18 N S29 k k x0 x1)
theorem gen8 (S29) (h29:(ctr29 S29).holds cl) (x0 x1) (k:List E→Option R):exec cl N c8 [(0,.v U17 x0),(1,.v U17 x1)] (fun e env=>(retK d8 e env).bind k)=g8 N S29 x0 x1 (fun r0=>k [.v .bool r0]):=by
 simp only [c8,t8_18 S29 h29,rk8_0,rk8_1,Option.bind_some]
 rfl
def ctr8 (S:V23→V23→Option (Bool)):Ctr:=cv2 8 U17 U17 S fun b=> [.v .bool b]
def S8 (N:Nat) (x0:V23) (x1:V23):Option (Bool):=g8 N (S29 N) x0 x1 (fun (r0:Bool)=>some (r0))
def g9_0 (k0:V23→Option R) (x0:V23):Option R:=
k0 x0
theorem t9_0 (x0):exec cl N c9_0 [(0,.v U17 x0)] K=(g9_0 (fun y0=>K .normal [(1,.loc U17 .no y0)]) x0):=by
 kernel_rfl
def g9_5 (S13:V23→Option (Int)) (k0:V23→Int→Bool→Option R) (x0:V23):Option R:=
(S13 x0).bind fun r1025=>
k0 x0 r1025 (r1025 != (0:Int))
theorem t9_5 (S13) (h13:(ctr13 S13).holds cl) (x0):exec cl N c9_5 [(1,.loc U17 .no x0)] K=(g9_5 S13 (fun y0 y1 y2=>exec cl N c9_4 (e287 y0 y1 y2) K) x0):=by
 rw [←put_eq h13]
 kernel_rfl
def g9_3 (k0:V1→Int→Option R) (x0:V23) (x1:Int) (x2:Bool):Option R:=
k0 ([]:List UInt8) x1
theorem t9_3 (x0 x1 x2):exec cl N c9_3 (e287 x0 x1 x2) K=(g9_3 (fun y0 y1=>K .normal (e21 y0 y1)) x0 x1 x2):=by
 kernel_rfl
theorem kp9_0 (x0 x1):keep [1,2,3] (e21 x0 x1)=(e288 x0 x1):=by kernel_rfl
theorem kp9_1 (x0 x1 x2):keep [1,2,3] (e287 x0 x1 x2)=[(1,.loc U17 .no x0),(2,.dead),(3,.dead)]:=by kernel_rfl
theorem hb9_0 (x0 x1 x2):boolOf? (ent (e287 x0 x1 x2) (.t 13))=some x2:=by kernel_rfl
def g9_34 (S30:V1→V1→Option V5) (k0:V23→V1→Option R) (x0:V23):Option R:=
if ([108,105,99,101,110,99,101,32]:List UInt8).length+x0.1.length≤140737488355328 then
let v1027:V1:=(([108,105,99,101,110,99,101,32]:List UInt8)++x0.1)
if v1027.length+([32,123,10]:List UInt8).length≤140737488355328 then
(S30 ([]:List UInt8) (v1027++([32,123,10]:List UInt8))).bind fun r1029=>
k0 x0 r1029
else none
else none
theorem t9_34 (S30) (h30:(ctr30 S30).holds cl) (x0):exec cl N c9_34 [(1,.loc U17 .no x0),(2,.dead),(3,.dead)] K=(g9_34 S30 (fun y0 y1=>exec cl N (.seq (.seq c9_8 c9_30) c9_33) [(1,.loc U17 .no y0),(5,.sb 66 5 y1)] K) x0):=by
 rw [←put_eq h30]
 kernel_rfl
def g9_8 (k0:V1→V17→Int→Int→Option R) (x0:V23) (x1:V1):Option R:=
k0 x1 x0.2.1 (x0.2.1.length:Int) (0:Int)
theorem t9_8 (x0 x1):exec cl N c9_8 [(1,.loc U17 .no x0),(5,.sb 66 5 x1)] K=(g9_8 (fun y0 y1 y2 y3=>K .normal (e289 y0 y1 y2 y3)) x0 x1):=by
 kernel_rfl
theorem kp9_2 (x0 x1 x2 x3):keep [5,21,22,23] (e289 x0 x1 x2 x3)=(e289 x0 x1 x2 x3):=by kernel_rfl
def g9_9 (k0:V1→V17→Int→Int→Bool→Option R) (x0:V1) (x1:V17) (x2 x3:Int):Option R:=
k0 x0 x1 x2 x3 (decide (x3 < x2))
theorem t9_9 (x0 x1 x2 x3):exec cl N c9_9 (e289 x0 x1 x2 x3) K=(g9_9 (fun y0 y1 y2 y3 y4=>K .normal (e290 y0 y1 y2 y3 y4)) x0 x1 x2 x3):=by
 kernel_rfl
theorem kp9_3 (x0 x1 x2 x3 x4):keep [5,21,22,23] (e290 x0 x1 x2 x3 x4)=(e289 x0 x1 x2 x3):=by kernel_rfl
theorem hb9_1 (x0 x1 x2 x3 x4):boolOf? (ent (e290 x0 x1 x2 x3 x4) (.t 24))=some x4:=by kernel_rfl
def g9_25 (S30:V1→V1→Option V5) (S31:Int→Option V5) (S32:Int→Option V5) (k0:V1→V15→V17→Int→Int→Option R) (x0:V1) (x1:V17) (x2 x3:Int):Option R:=
if 0≤x3∧x3 < (x1.length:Int) then
(S31 ((x1.getD x3.toNat ((0:Int),((0:Int),([],())))).1)).bind fun r1031=>
if ([32,32]:List UInt8).length+r1031.length≤140737488355328 then
let v1032:V1:=(([32,32]:List UInt8)++r1031)
if v1032.length+([32]:List UInt8).length≤140737488355328 then
let v1033:V1:=(v1032++([32]:List UInt8))
(S32 ((x1.getD x3.toNat ((0:Int),((0:Int),([],())))).2.1)).bind fun r1034=>
if v1033.length+r1034.length≤140737488355328 then
(S30 x0 (v1033++r1034)).bind fun r1036=>
k0 r1036 (x1.getD x3.toNat ((0:Int),((0:Int),([],())))) x1 x2 x3
else none
else none
else none
else none
theorem t9_25 (S30) (S31) (S32) (h30:(ctr30 S30).holds cl) (h31:(ctr31 S31).holds cl) (h32:(ctr32 S32).holds cl) (x0 x1 x2 x3):exec cl N c9_25 (e289 x0 x1 x2 x3) K=(g9_25 S30 S31 S32 (fun y0 y1 y2 y3 y4=>exec cl N (.seq (.seq c9_13 c9_23) c9_24) (e291 y0 y1 y2 y3 y4) K) x0 x1 x2 x3):=by
 rw [←put_eq h30]
 rw [←put_eq h31]
 rw [←put_eq h32]
 kernel_rfl
def g9_13 (k0:V1→V17→Int→Int→V6→Int→Int→Option R) (x0:V1) (x1:V15) (x2:V17) (x3 x4:Int):Option R:=
k0 x0 x2 x3 x4 x1.2.2.1 (x1.2.2.1.length:Int) (0:Int)
theorem t9_13 (x0 x1 x2 x3 x4):exec cl N c9_13 (e291 x0 x1 x2 x3 x4) K=(g9_13 (fun y0 y1 y2 y3 y4 y5 y6=>K .normal (e292 y0 y1 y2 y3 y4 y5 y6)) x0 x1 x2 x3 x4):=by
 kernel_rfl
theorem kp9_4 (x0 x1 x2 x3 x4 x5 x6):keep [5,21,22,23,38,39,40] (e292 x0 x1 x2 x3 x4 x5 x6)=(e292 x0 x1 x2 x3 x4 x5 x6):=by kernel_rfl
def g9_14 (k0:V1→V17→Int→Int→V6→Int→Int→Bool→Option R) (x0:V1) (x1:V17) (x2 x3:Int) (x4:V6) (x5 x6:Int):Option R:=
k0 x0 x1 x2 x3 x4 x5 x6 (decide (x6 < x5))
theorem t9_14 (x0 x1 x2 x3 x4 x5 x6):exec cl N c9_14 (e292 x0 x1 x2 x3 x4 x5 x6) K=(g9_14 (fun y0 y1 y2 y3 y4 y5 y6 y7=>K .normal (e293 y0 y1 y2 y3 y4 y5 y6 y7)) x0 x1 x2 x3 x4 x5 x6):=by
 kernel_rfl
theorem kp9_5 (x0 x1 x2 x3 x4 x5 x6 x7):keep [5,21,22,23,38,39,40] (e293 x0 x1 x2 x3 x4 x5 x6 x7)=(e292 x0 x1 x2 x3 x4 x5 x6):=by kernel_rfl
theorem hb9_2 (x0 x1 x2 x3 x4 x5 x6 x7):boolOf? (ent (e293 x0 x1 x2 x3 x4 x5 x6 x7) (.t 41))=some x7:=by kernel_rfl
def g9_18 (S30:V1→V1→Option V5) (k0:V1→V17→Int→Int→V6→Int→Int→Option R) (x0:V1) (x1:V17) (x2 x3:Int) (x4:V6) (x5 x6:Int):Option R:=
if 0≤x6∧x6 < (x4.length:Int) then
let v1038:Int:=(if (1:Int) < x6 then (1:Int) else x6)
if 0≤v1038∧v1038 < ([([32,105,110,32]:List UInt8),([44,32]:List UInt8)].length:Int) then
if v1038.toNat < [([32,105,110,32]:List UInt8),([44,32]:List UInt8)].length then
let v1039:V1:=([([32,105,110,32]:List UInt8),([44,32]:List UInt8)].getD v1038.toNat [])
if v1039.length+([34]:List UInt8).length≤140737488355328 then
let v1040:V1:=(v1039++([34]:List UInt8))
if v1040.length+(x4.getD x6.toNat []).length≤140737488355328 then
let v1041:V1:=(v1040++(x4.getD x6.toNat []))
if v1041.length+([34]:List UInt8).length≤140737488355328 then
(S30 x0 (v1041++([34]:List UInt8))).bind fun r1043=>
k0 r1043 x1 x2 x3 x4 x5 x6
else none
else none
else none
else none
else none
else none
theorem t9_18 (S30) (h30:(ctr30 S30).holds cl) (x0 x1 x2 x3 x4 x5 x6):exec cl N c9_18 (e292 x0 x1 x2 x3 x4 x5 x6) K=(g9_18 S30 (fun y0 y1 y2 y3 y4 y5 y6=>K .normal (e292 y0 y1 y2 y3 y4 y5 y6)) x0 x1 x2 x3 x4 x5 x6):=by
 rw [←put_eq h30]
 kernel_rfl
def g9_20 (k0:V1→V17→Int→Int→V6→Int→Int→Option R) (x0:V1) (x1:V17) (x2 x3:Int) (x4:V6) (x5 x6:Int):Option R:=
k0 x0 x1 x2 x3 x4 x5 (IntKind.i64.wrap (x6+(1:Int)))
theorem t9_20 (x0 x1 x2 x3 x4 x5 x6):exec cl N c9_20 (e292 x0 x1 x2 x3 x4 x5 x6) K=(g9_20 (fun y0 y1 y2 y3 y4 y5 y6=>K .normal (e292 y0 y1 y2 y3 y4 y5 y6)) x0 x1 x2 x3 x4 x5 x6):=by
 kernel_rfl
def g9_21 (S30:V1→V1→Option V5) (k0:V1→V17→Int→Int→V6→Int→Int→Option R) (k1:V1→V17→Int→Int→V6→Int→Int→Option R) (x0:V1) (x1:V17) (x2 x3:Int) (x4:V6) (x5 x6:Int):Option R:=
(g9_14 (fun y0 y1 y2 y3 y4 y5 y6 y7=>brB y7 ((g9_18 S30 ((g9_20 k0))) y0 y1 y2 y3 y4 y5 y6) (k1 y0 y1 y2 y3 y4 y5 y6)) x0 x1 x2 x3 x4 x5 x6)
theorem t9_21 (S30) (h30:(ctr30 S30).holds cl) (x0 x1 x2 x3 x4 x5 x6):exec cl N c9_21 (e292 x0 x1 x2 x3 x4 x5 x6) K=(g9_21 S30 (fun y0 y1 y2 y3 y4 y5 y6=>K .normal (e292 y0 y1 y2 y3 y4 y5 y6)) (fun y0 y1 y2 y3 y4 y5 y6=>K (.exit 2) (e292 y0 y1 y2 y3 y4 y5 y6)) x0 x1 x2 x3 x4 x5 x6):=by
 simp only [c9_21,xS,sN,sE,sR,t9_14,c9_15,exec_out,exec_cond',hb9_2,Option.bind_some,bT,bF,exec_skip,exec_exit,kp9_5,c9_19,xB,t9_18 S30 h30,blockK_normal,blockK_ret,blockK_eq,kp9_4,t9_20]
 rfl
def l9_22 {R:Type} (S30:V1→V1→Option V5) (k0:V1→V17→Int→Int→V6→Int→Int→Option R):Nat→V1→V17→Int→Int→V6→Int→Int→Option R
 | 0,_,_,_,_,_,_,_=>none
 | m+1,x0,x1,x2,x3,x4,x5,x6=>(g9_21 S30 (l9_22 S30 k0 m) k0 x0 x1 x2 x3 x4 x5 x6)
theorem lt9_22 (S30) (h30:(ctr30 S30).holds cl):∀ (m) (x0 x1 x2 x3 x4 x5 x6),iter [5,21,22,23,38,39,40] (fun env K=>exec cl N c9_21 env K) K m (e292 x0 x1 x2 x3 x4 x5 x6)=l9_22 S30 (fun y0 y1 y2 y3 y4 y5 y6=>K (.exit 2) (e292 y0 y1 y2 y3 y4 y5 y6)) m x0 x1 x2 x3 x4 x5 x6:=by
 intro m
 induction m with
 | zero=>intros; rfl
 | succ m ih=>
   intro x0 x1 x2 x3 x4 x5 x6
   simp only [iter_succ,t9_21 S30 h30,loopK_normal,loopK_exit,loopK_ret,kp9_4,ih]
   rfl
theorem kp9_6 (x0 x1 x2 x3 x4 x5 x6):keep [5,21,22,23] (e292 x0 x1 x2 x3 x4 x5 x6)=(e289 x0 x1 x2 x3):=by kernel_rfl
def g9_22 (N:Nat) (S30:V1→V1→Option V5) (k0:V1→V17→Int→Int→Option R) (x0:V1) (x1:V17) (x2 x3:Int) (x4:V6) (x5 x6:Int):Option R:=
l9_22 S30 (fun y0 y1 y2 y3 y4 y5 y6=>k0 y0 y1 y2 y3) N x0 x1 x2 x3 x4 x5 x6
theorem t9_22 (S30) (h30:(ctr30 S30).holds cl) (x0 x1 x2 x3 x4 x5 x6):exec cl N c9_22 (e292 x0 x1 x2 x3 x4 x5 x6) K=(g9_22 N S30 (fun y0 y1 y2 y3=>K (.exit 2) (e289 y0 y1 y2 y3)) x0 x1 x2 x3 x4 x5 x6):=by
 simp only [c9_22,exec_out,exec_loop,kp9_4,lt9_22 S30 h30,kp9_6]
 rfl
def g9_24 (S30:V1→V1→Option V5) (k0:V1→V17→Int→Int→Option R) (x0:V1) (x1:V17) (x2 x3:Int):Option R:=
(S30 x0 ([59,10]:List UInt8)).bind fun r1045=>
k0 r1045 x1 x2 x3
theorem t9_24 (S30) (h30:(ctr30 S30).holds cl) (x0 x1 x2 x3):exec cl N c9_24 (e289 x0 x1 x2 x3) K=(g9_24 S30 (fun y0 y1 y2 y3=>K .normal (e289 y0 y1 y2 y3)) x0 x1 x2 x3):=by
 rw [←put_eq h30]
 kernel_rfl
def g9_27 (k0:V1→V17→Int→Int→Option R) (x0:V1) (x1:V17) (x2 x3:Int):Option R:=
k0 x0 x1 x2 (IntKind.i64.wrap (x3+(1:Int)))
theorem t9_27 (x0 x1 x2 x3):exec cl N c9_27 (e289 x0 x1 x2 x3) K=(g9_27 (fun y0 y1 y2 y3=>K .normal (e289 y0 y1 y2 y3)) x0 x1 x2 x3):=by
 kernel_rfl
def g9_28 (N:Nat) (S30:V1→V1→Option V5) (S31:Int→Option V5) (S32:Int→Option V5) (k0:V1→V17→Int→Int→Option R) (k1:V1→V17→Int→Int→Option R) (x0:V1) (x1:V17) (x2 x3:Int):Option R:=
(g9_9 (fun y0 y1 y2 y3 y4=>brB y4 ((g9_25 S30 S31 S32 (g9_13 (g9_22 N S30 ((g9_24 S30 ((g9_27 k0))))))) y0 y1 y2 y3) (k1 y0 y1 y2 y3)) x0 x1 x2 x3)
theorem t9_28 (S30) (S31) (S32) (h30:(ctr30 S30).holds cl) (h31:(ctr31 S31).holds cl) (h32:(ctr32 S32).holds cl) (x0 x1 x2 x3):exec cl N c9_28 (e289 x0 x1 x2 x3) K=(g9_28 N S30 S31 S32 (fun y0 y1 y2 y3=>K .normal (e289 y0 y1 y2 y3)) (fun y0 y1 y2 y3=>K (.exit 0) (e289 y0 y1 y2 y3)) x0 x1 x2 x3):=by
 simp only [c9_28,xS,sN,sE,sR,t9_9,c9_10,exec_out,exec_cond',hb9_1,Option.bind_some,bT,bF,exec_skip,exec_exit,kp9_3,c9_26,xB,t9_25 S30 S31 S32 h30 h31 h32,t9_13,c9_23,t9_22 S30 h30,blockK_normal,blockK_ret,blockK_eq,kp9_2,t9_24 S30 h30,t9_27]
 rfl
def l9_29 {R:Type} (N:Nat) (S30:V1→V1→Option V5) (S31:Int→Option V5) (S32:Int→Option V5) (k0:V1→V17→Int→Int→Option R):Nat→V1→V17→Int→Int→Option R
 | 0,_,_,_,_=>none
 | m+1,x0,x1,x2,x3=>(g9_28 N S30 S31 S32 (l9_29 N S30 S31 S32 k0 m) k0 x0 x1 x2 x3)
theorem lt9_29 (S30) (S31) (S32) (h30:(ctr30 S30).holds cl) (h31:(ctr31 S31).holds cl) (h32:(ctr32 S32).holds cl):∀ (m) (x0 x1 x2 x3),iter [5,21,22,23] (fun env K=>exec cl N c9_28 env K) K m (e289 x0 x1 x2 x3)=l9_29 N S30 S31 S32 (fun y0 y1 y2 y3=>K (.exit 0) (e289 y0 y1 y2 y3)) m x0 x1 x2 x3:=by
 intro m
 induction m with
 | zero=>intros; rfl
 | succ m ih=>
   intro x0 x1 x2 x3
   simp only [iter_succ,t9_28 S30 S31 S32 h30 h31 h32,loopK_normal,loopK_exit,loopK_ret,kp9_2,ih]
   rfl
theorem kp9_7 (x0 x1 x2 x3):keep [5] (e289 x0 x1 x2 x3)=[(5,.sb 66 5 x0)]:=by kernel_rfl
def g9_29 (N:Nat) (S30:V1→V1→Option V5) (S31:Int→Option V5) (S32:Int→Option V5) (k0:V1→Option R) (x0:V1) (x1:V17) (x2 x3:Int):Option R:=
l9_29 N S30 S31 S32 (fun y0 y1 y2 y3=>k0 y0) N x0 x1 x2 x3
theorem t9_29 (S30) (S31) (S32) (h30:(ctr30 S30).holds cl) (h31:(ctr31 S31).holds cl) (h32:(ctr32 S32).holds cl) (x0 x1 x2 x3):exec cl N c9_29 (e289 x0 x1 x2 x3) K=(g9_29 N S30 S31 S32 (fun y0=>K (.exit 0) [(5,.sb 66 5 y0)]) x0 x1 x2 x3):=by
 simp only [c9_29,exec_out,exec_loop,kp9_2,lt9_29 S30 S31 S32 h30 h31 h32,kp9_7]
 rfl
theorem kp9_8 (x0):keep [5] [(5,.sb 66 5 x0)]=[(5,.sb 66 5 x0)]:=by kernel_rfl
def g9_33 (S30:V1→V1→Option V5) (S33:V1→Option V5) (k0:V1→Int→Option R) (x0:V1):Option R:=
(S30 x0 ([125,10]:List UInt8)).bind fun r1048=>
(S33 r1048).bind fun r1049=>
k0 r1049 (0:Int)
theorem t9_33 (S30) (S33) (h30:(ctr30 S30).holds cl) (h33:(ctr33 S33).holds cl) (x0):exec cl N c9_33 [(5,.sb 66 5 x0)] K=(g9_33 S30 S33 (fun y0 y1=>exec cl N .ret (e21 y0 y1) K) x0):=by
 rw [←put_eq h30]
 rw [←put_eq h33]
 kernel_rfl
def g9_35 (N:Nat) (S13:V23→Option (Int)) (S30:V1→V1→Option V5) (S31:Int→Option V5) (S32:Int→Option V5) (S33:V1→Option V5) (k0:V1→Int→Option R) (k1:V1→Int→Option R) (x0:V23):Option R:=
(g9_0 (g9_5 S13 (fun y0 y1 y2=>brB y2 (g9_3 k0 y0 y1 y2) ((g9_34 S30 (g9_8 (g9_29 N S30 S31 S32 ((g9_33 S30 S33 k1))))) y0))) x0)
theorem t9_35 (S13) (S30) (S31) (S32) (S33) (h13:(ctr13 S13).holds cl) (h30:(ctr30 S30).holds cl) (h31:(ctr31 S31).holds cl) (h32:(ctr32 S32).holds cl) (h33:(ctr33 S33).holds cl) (x0):exec cl N c9_35 [(0,.v U17 x0)] K=(g9_35 N S13 S30 S31 S32 S33 (fun y0 y1=>K .ret (e288 y0 y1)) (fun y0 y1=>K .ret (e21 y0 y1)) x0):=by
 simp only [c9_35,xS,sN,sE,sR,t9_0,t9_5 S13 h13,c9_4,exec_out,exec_cond',hb9_0,Option.bind_some,bT,bF,t9_3,exec_ret,exec_skip,kp9_0,kp9_1,t9_34 S30 h30,t9_8,c9_30,xB,t9_29 S30 S31 S32 h30 h31 h32,blockK_normal,blockK_ret,blockK_eq,kp9_8,t9_33 S30 S33 h30 h33]
 rfl
theorem rk9_0 (y0 y1):retK d9 .ret (e288 y0 y1)=some [.v .str y0,.v U2 y1]:=by kernel_rfl
theorem rk9_1 (y0 y1):retK d9 .ret (e21 y0 y1)=some [.v .str y0,.v U2 y1]:=by kernel_rfl
def g9 (N:Nat) (S13:V23→Option (Int)) (S30:V1→V1→Option V5) (S31:Int→Option V5) (S32:Int→Option V5) (S33:V1→Option V5) (x0:V23) (k:V1→Int→Option R):Option R:=
(g9_35 N S13 S30 S31 S32 S33 k k x0)
theorem gen9 (S13) (S30) (S31) (S32) (S33) (h13:(ctr13 S13).holds cl) (h30:(ctr30 S30).holds cl) (h31:(ctr31 S31).holds cl) (h32:(ctr32 S32).holds cl) (h33:(ctr33 S33).holds cl) (x0) (k:List E→Option R):exec cl N c9 [(0,.v U17 x0)] (fun e env=>(retK d9 e env).bind k)=g9 N S13 S30 S31 S32 S33 x0 (fun r0 r1=>k [.v .str r0,.v U2 r1]):=by
 simp only [c9,t9_35 S13 S30 S31 S32 S33 h13 h30 h31 h32 h33,rk9_0,rk9_1,Option.bind_some]
 rfl
def ctr9 (S:V23→Option V7):Ctr:=cv1 9 U17 S fun b=> [.v .str b.1,.v U2 b.2]
def S9 (N:Nat) (x0:V23):Option V7:=g9 N (S13 N) (S30 N) (S31 N) (S32 N) (S33 N) x0 (fun (r0:V1) (r1:Int)=>some (r0,r1))
def g3_0 (k0:V1→Option R) (x0:V1):Option R:=
k0 x0
theorem t3_0 (x0):exec cl N c3_0 [(0,.v .str x0)] K=(g3_0 (fun y0=>K .normal [(0,.v .str y0)]) x0):=by
 kernel_rfl
def g3_1 (S5:Option (Bool)) (k0:V1→Bool→Option R) (x0:V1):Option R:=
(S5).bind fun r1058=>
brB (!r1058) (k0 x0 true) (k0 x0 (decide ((x0.length:Int) > (2000:Int))))
theorem t3_1 (S5) (h5:(ctr5 S5).holds cl) (x0):exec cl N c3_1 [(0,.v .str x0)] K=(g3_1 S5 (fun y0 y1=>K .normal (e294 y0 y1)) x0):=by
 rw [←put_eq h5]
 kernel_rfl
def g3_2 (S5:Option (Bool)) (k0:Bool→Option R) (x0:V1) (x1:Bool):Option R:=
(S5).bind fun r1060=>
k0 r1060
theorem t3_2 (S5) (h5:(ctr5 S5).holds cl) (x0 x1):exec cl N c3_2 (e294 x0 x1) K=(g3_2 S5 (fun y0=>K .normal [(2,.v .bool y0)]) x0 x1):=by
 rw [←put_eq h5]
 kernel_rfl
theorem kp3_0 (x0):keep [0,2] [(2,.v .bool x0)]=(e220 x0):=by kernel_rfl
theorem kp3_1 (x0 x1):keep [0,2] (e294 x0 x1)=(e2 x0):=by kernel_rfl
theorem hb3_0 (x0 x1):boolOf? (ent (e294 x0 x1) (.t 20))=some x1:=by kernel_rfl
def g3_13 (S6:V1→Option V25) (S7:V1→Option V25) (k0:V23→Int→Int→V23→Int→Int→Option R) (x0:V1):Option R:=
(S6 x0).bind fun r1062=>
(S7 x0).bind fun r1063=>
k0 r1062.1 r1062.2.1 r1062.2.2 r1063.1 r1063.2.1 r1063.2.2
theorem t3_13 (S6) (S7) (h6:(ctr6 S6).holds cl) (h7:(ctr7 S7).holds cl) (x0):exec cl N c3_13 (e2 x0) K=(g3_13 S6 S7 (fun y0 y1 y2 y3 y4 y5=>exec cl N (.seq (.seq c3_6 c3_8) c3_12) (e295 y0 y1 y2 y3 y4 y5) K) x0):=by
 rw [←put_eq h6]
 rw [←put_eq h7]
 kernel_rfl
def g3_6 (S8:V23→V23→Option (Bool)) (k0:V23→Int→Int→V23→Int→Int→Bool→Option R) (x0:V23) (x1 x2:Int) (x3:V23) (x4 x5:Int):Option R:=
brB (x2 != x5) (k0 x0 x1 x2 x3 x4 x5 true) (brB (x1 != x4) (k0 x0 x1 x2 x3 x4 x5 true) ((S8 x0 x3).bind fun r1064=>
brB (!r1064) (k0 x0 x1 x2 x3 x4 x5 true) (k0 x0 x1 x2 x3 x4 x5 (x2 != (0:Int)))))
theorem t3_6 (S8) (h8:(ctr8 S8).holds cl) (x0 x1 x2 x3 x4 x5):exec cl N c3_6 (e295 x0 x1 x2 x3 x4 x5) K=(g3_6 S8 (fun y0 y1 y2 y3 y4 y5 y6=>K .normal (e296 y0 y1 y2 y3 y4 y5 y6)) x0 x1 x2 x3 x4 x5):=by
 rw [←put_eq h8]
 kernel_rfl
def g3_7 (S8:V23→V23→Option (Bool)) (k0:Bool→Option R) (x0:V23) (x1 x2:Int) (x3:V23) (x4 x5:Int) (x6:Bool):Option R:=
brB (x2==x5) (brB (x1==x4) ((S8 x0 x3).bind fun r1066=>
k0 r1066) (k0 false)) (k0 false)
theorem t3_7 (S8) (h8:(ctr8 S8).holds cl) (x0 x1 x2 x3 x4 x5 x6):exec cl N c3_7 (e296 x0 x1 x2 x3 x4 x5 x6) K=(g3_7 S8 (fun y0=>K .normal [(2,.v .bool y0)]) x0 x1 x2 x3 x4 x5 x6):=by
 rw [←put_eq h8]
 kernel_rfl
theorem kp3_2 (x0):keep [2,3] [(2,.v .bool x0)]=[(2,.v .bool x0),(3,.dead)]:=by kernel_rfl
theorem kp3_3 (x0 x1 x2 x3 x4 x5 x6):keep [2,3] (e296 x0 x1 x2 x3 x4 x5 x6)=[(2,.dead),(3,.loc U17 .no x0)]:=by kernel_rfl
theorem hb3_1 (x0 x1 x2 x3 x4 x5 x6):boolOf? (ent (e296 x0 x1 x2 x3 x4 x5 x6) (.t 51))=some x6:=by kernel_rfl
def g3_12 (S6:V1→Option V25) (S8:V23→V23→Option (Bool)) (S9:V23→Option V7) (k0:Bool→Option R) (x0:V23):Option R:=
(S9 x0).bind fun r1070=>
(S6 r1070.1).bind fun r1071=>
brB (r1070.2==(0:Int)) (brB (r1071.2.2==(0:Int)) ((S8 r1071.1 x0).bind fun r1074=>
k0 r1074) (k0 false)) (k0 false)
theorem t3_12 (S6) (S8) (S9) (h6:(ctr6 S6).holds cl) (h8:(ctr8 S8).holds cl) (h9:(ctr9 S9).holds cl) (x0):exec cl N c3_12 [(2,.dead),(3,.loc U17 .no x0)] K=(g3_12 S6 S8 S9 (fun y0=>exec cl N .ret [(2,.v .bool y0)] K) x0):=by
 rw [←put_eq h6]
 rw [←put_eq h8]
 rw [←put_eq h9]
 kernel_rfl
def g3_14 (S5:Option (Bool)) (S6:V1→Option V25) (S7:V1→Option V25) (S8:V23→V23→Option (Bool)) (S9:V23→Option V7) (k0:Bool→Option R) (k1:Bool→Option R) (k2:Bool→Option R) (x0:V1):Option R:=
(g3_0 (g3_1 S5 (fun y0 y1=>brB y1 (g3_2 S5 k0 y0 y1) ((g3_13 S6 S7 (g3_6 S8 (fun y0 y1 y2 y3 y4 y5 y6=>brB y6 (g3_7 S8 k1 y0 y1 y2 y3 y4 y5 y6) ((g3_12 S6 S8 S9 k2) y0)))) y0))) x0)
theorem t3_14 (S5) (S6) (S7) (S8) (S9) (h5:(ctr5 S5).holds cl) (h6:(ctr6 S6).holds cl) (h7:(ctr7 S7).holds cl) (h8:(ctr8 S8).holds cl) (h9:(ctr9 S9).holds cl) (x0):exec cl N c3_14 [(0,.v .str x0)] K=(g3_14 S5 S6 S7 S8 S9 (fun y0=>K .ret (e220 y0)) (fun y0=>K .ret [(2,.v .bool y0),(3,.dead)]) (fun y0=>K .ret [(2,.v .bool y0)]) x0):=by
 simp only [c3_14,xS,sN,sE,sR,t3_0,t3_1 S5 h5,c3_3,exec_out,exec_cond',hb3_0,Option.bind_some,bT,bF,t3_2 S5 h5,exec_ret,exec_skip,kp3_0,kp3_1,t3_13 S6 S7 h6 h7,t3_6 S8 h8,c3_8,hb3_1,t3_7 S8 h8,kp3_2,kp3_3,t3_12 S6 S8 S9 h6 h8 h9]
 rfl
theorem rk3_0 (y0):retK d3 .ret (e220 y0)=some [.v .bool y0]:=by kernel_rfl
theorem rk3_1 (y0):retK d3 .ret [(2,.v .bool y0),(3,.dead)]=some [.v .bool y0]:=by kernel_rfl
theorem rk3_2 (y0):retK d3 .ret [(2,.v .bool y0)]=some [.v .bool y0]:=by kernel_rfl
def g3 (S5:Option (Bool)) (S6:V1→Option V25) (S7:V1→Option V25) (S8:V23→V23→Option (Bool)) (S9:V23→Option V7) (x0:V1) (k:Bool→Option R):Option R:=
(g3_14 S5 S6 S7 S8 S9 k k k x0)
theorem gen3 (S5) (S6) (S7) (S8) (S9) (h5:(ctr5 S5).holds cl) (h6:(ctr6 S6).holds cl) (h7:(ctr7 S7).holds cl) (h8:(ctr8 S8).holds cl) (h9:(ctr9 S9).holds cl) (x0) (k:List E→Option R):exec cl N c3 [(0,.v .str x0)] (fun e env=>(retK d3 e env).bind k)=g3 S5 S6 S7 S8 S9 x0 (fun r0=>k [.v .bool r0]):=by
 simp only [c3,t3_14 S5 S6 S7 S8 S9 h5 h6 h7 h8 h9,rk3_0,rk3_1,rk3_2,Option.bind_some]
 rfl
def ctr3 (S:V1→Option (Bool)):Ctr:=cv1 3 .str S fun b=> [.v .bool b]
def S3 (N:Nat) (x0:V1):Option (Bool):=g3 (S5 N) (S6 N) (S7 N) (S8 N) (S9 N) x0 (fun (r0:Bool)=>some (r0))
end Go.Fw.L19
