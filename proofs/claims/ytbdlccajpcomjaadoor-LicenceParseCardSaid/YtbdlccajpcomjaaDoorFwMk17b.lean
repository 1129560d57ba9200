/- Own work. -/
import Derived.Test.YtbdlccajpcomjaaDoorFwMk17a
import Derived.Test.YtbdlccajpcomjaaDoorFwB4
set_option linter.unusedVariables false
set_option linter.unusedSimpArgs false
namespace Go.Fw.L19
open Go Go.Fw
set_option maxRecDepth 100000
variable {N:Nat} {cl:Cal} {R:Type} {K:KE R}
def g6_47 (S18:V1→Option V19) (k0:V23→V16→Int→Int→Option R) (x0:V1):Option R:=
(S18 x0).bind fun r461=>
k0 ([],([],())) r461.1 r461.2.1 r461.2.2
theorem t6_47 (S18) (h18:(ctr18 S18).holds cl) (x0):exec cl N c6_47 [(0,.v .str x0)] K=(g6_47 S18 (fun y0 y1 y2 y3=>exec cl N (.seq (.seq c6_2 c6_4) c6_46) (e134 y0 y1 y2 y3) K) x0):=by
 rw [←put_eq h18]
 kernel_rfl
def g6_2 (k0:V23→V16→Int→Int→Bool→Option R) (x0:V23) (x1:V16) (x2 x3:Int):Option R:=
k0 x0 x1 x2 x3 (x3 != (0:Int))
theorem t6_2 (x0 x1 x2 x3):exec cl N c6_2 (e134 x0 x1 x2 x3) K=(g6_2 (fun y0 y1 y2 y3 y4=>K .normal (e135 y0 y1 y2 y3 y4)) x0 x1 x2 x3):=by
 kernel_rfl
def g6_3 (k0:V23→Int→Int→Option R) (x0:V23) (x1:V16) (x2 x3:Int) (x4:Bool):Option R:=
k0 ([],[],()) x2 x3
theorem t6_3 (x0 x1 x2 x3 x4):exec cl N c6_3 (e135 x0 x1 x2 x3 x4) K=(g6_3 (fun y0 y1 y2=>K .normal (e136 y0 y1 y2)) x0 x1 x2 x3 x4):=by
 kernel_rfl
theorem kp6_0 (x0 x1 x2):keep [2,3,4,5] (e136 x0 x1 x2)=(e137 x0 x1 x2):=by kernel_rfl
theorem kp6_1 (x0 x1 x2 x3 x4):keep [2,3,4,5] (e135 x0 x1 x2 x3 x4)=(e138 x0 x1):=by kernel_rfl
theorem hb6_0 (x0 x1 x2 x3 x4):boolOf? (ent (e135 x0 x1 x2 x3 x4) (.t 24))=some x4:=by kernel_rfl
def g6_46 (S19:V22→Int→V1→Option V24) (k0:V23→V16→V23→V6→V0→V22→Option R) (x0:V23) (x1:V16):Option R:=
(S19 (x1,(0:Int),false,()) (1:Int) ([108,105,99,101,110,99,101]:List UInt8)).bind fun r473=>
(S19 r473.1 (1:Int) ([]:List UInt8)).bind fun r474=>
(S19 r474.1 (4:Int) ([123]:List UInt8)).bind fun r475=>
k0 x0 x1 (r474.2,([],())) [] [] r475.1
theorem t6_46 (S19) (h19:(ctr19 S19).holds cl) (x0 x1):exec cl N c6_46 (e138 x0 x1) K=(g6_46 S19 (fun y0 y1 y2 y3 y4 y5=>exec cl N (.seq c6_21 (.seq c6_22 (.seq (.seq c6_23 c6_25) (.seq (.seq c6_26 c6_39) (.seq c6_44 (.seq c6_45 .ret)))))) (e139 y0 y1 y2 y3 y4 y5) K) x0 x1):=by
 rw [←put_eq h19]
 kernel_rfl
theorem kp6_2 (x0 x1 x2 x3 x4 x5):keep [2,5,8,9,10,11,30] (e139 x0 x1 x2 x3 x4 x5)=(e139 x0 x1 x2 x3 x4 x5):=by kernel_rfl
def g6_12 (S20:V22→Int→V1→Option (Bool)) (k0:V23→V16→V23→V6→V0→V22→Bool→Option R) (x0:V23) (x1:V16) (x2:V23) (x3:V6) (x4:V0) (x5:V22):Option R:=
brB (!x5.2.2.1) ((S20 x5 (4:Int) ([125]:List UInt8)).bind fun r476=>
k0 x0 x1 x2 x3 x4 x5 (!r476)) (k0 x0 x1 x2 x3 x4 x5 false)
theorem t6_12 (S20) (h20:(ctr20 S20).holds cl) (x0 x1 x2 x3 x4 x5):exec cl N c6_12 (e139 x0 x1 x2 x3 x4 x5) K=(g6_12 S20 (fun y0 y1 y2 y3 y4 y5 y6=>K .normal (e140 y0 y1 y2 y3 y4 y5 y6)) x0 x1 x2 x3 x4 x5):=by
 rw [←put_eq h20]
 kernel_rfl
theorem kp6_3 (x0 x1 x2 x3 x4 x5 x6):keep [2,5,8,9,10,11,30] (e140 x0 x1 x2 x3 x4 x5 x6)=(e139 x0 x1 x2 x3 x4 x5):=by kernel_rfl
theorem hb6_1 (x0 x1 x2 x3 x4 x5 x6):boolOf? (ent (e140 x0 x1 x2 x3 x4 x5 x6) (.t 47))=some x6:=by kernel_rfl
def g6_17 (S21:V22→Option (Int)) (S22:V22→Option V26) (k0:V23→V16→V23→V6→V0→V22→Option R) (x0:V23) (x1:V16) (x2:V23) (x3:V6) (x4:V0) (x5:V22):Option R:=
(S21 x5).bind fun r480=>
if x4.length+[r480].length≤17592186044416 then
(S22 x5).bind fun r481=>
if x2.2.1.length+[r481.2.1].length≤3518437208883 then
if x3.length+[r481.2.2].length≤8796093022208 then
k0 x0 x1 (x2.1,((x2.2.1++[r481.2.1]),x2.2.2)) (x3++[r481.2.2]) (x4++[r480]) r481.1
else none
else none
else none
theorem t6_17 (S21) (S22) (h21:(ctr21 S21).holds cl) (h22:(ctr22 S22).holds cl) (x0 x1 x2 x3 x4 x5):exec cl N c6_17 (e139 x0 x1 x2 x3 x4 x5) K=(g6_17 S21 S22 (fun y0 y1 y2 y3 y4 y5=>K .normal (e139 y0 y1 y2 y3 y4 y5)) x0 x1 x2 x3 x4 x5):=by
 rw [←put_eq h21]
 rw [←put_eq h22]
 kernel_rfl
def g6_19 (S20:V22→Int→V1→Option (Bool)) (S21:V22→Option (Int)) (S22:V22→Option V26) (k0:V23→V16→V23→V6→V0→V22→Option R) (k1:V23→V16→V23→V6→V0→V22→Option R) (x0:V23) (x1:V16) (x2:V23) (x3:V6) (x4:V0) (x5:V22):Option R:=
(g6_12 S20 (fun y0 y1 y2 y3 y4 y5 y6=>brB y6 ((g6_17 S21 S22 k0) y0 y1 y2 y3 y4 y5) (k1 y0 y1 y2 y3 y4 y5)) x0 x1 x2 x3 x4 x5)
theorem t6_19 (S20) (S21) (S22) (h20:(ctr20 S20).holds cl) (h21:(ctr21 S21).holds cl) (h22:(ctr22 S22).holds cl) (x0 x1 x2 x3 x4 x5):exec cl N c6_19 (e139 x0 x1 x2 x3 x4 x5) K=(g6_19 S20 S21 S22 (fun y0 y1 y2 y3 y4 y5=>K .normal (e139 y0 y1 y2 y3 y4 y5)) (fun y0 y1 y2 y3 y4 y5=>K (.exit 0) (e139 y0 y1 y2 y3 y4 y5)) x0 x1 x2 x3 x4 x5):=by
 simp only [c6_19,xS,sN,sE,sR,t6_12 S20 h20,c6_13,exec_out,exec_cond',hb6_1,Option.bind_some,bT,bF,exec_skip,exec_exit,kp6_3,c6_18,xB,t6_17 S21 S22 h21 h22,blockK_normal,blockK_ret,blockK_eq,kp6_2]
 rfl
def l6_20 {R:Type} (S20:V22→Int→V1→Option (Bool)) (S21:V22→Option (Int)) (S22:V22→Option V26) (k0:V23→V16→V23→V6→V0→V22→Option R):Nat→V23→V16→V23→V6→V0→V22→Option R
 | 0,_,_,_,_,_,_=>none
 | m+1,x0,x1,x2,x3,x4,x5=>(g6_19 S20 S21 S22 (l6_20 S20 S21 S22 k0 m) k0 x0 x1 x2 x3 x4 x5)
theorem lt6_20 (S20) (S21) (S22) (h20:(ctr20 S20).holds cl) (h21:(ctr21 S21).holds cl) (h22:(ctr22 S22).holds cl):∀ (m) (x0 x1 x2 x3 x4 x5),iter [2,5,8,9,10,11,30] (fun env K=>exec cl N c6_19 env K) K m (e139 x0 x1 x2 x3 x4 x5)=l6_20 S20 S21 S22 (fun y0 y1 y2 y3 y4 y5=>K (.exit 0) (e139 y0 y1 y2 y3 y4 y5)) m x0 x1 x2 x3 x4 x5:=by
 intro m
 induction m with
 | zero=>intros; rfl
 | succ m ih=>
   intro x0 x1 x2 x3 x4 x5
   simp only [iter_succ,t6_19 S20 S21 S22 h20 h21 h22,loopK_normal,loopK_exit,loopK_ret,kp6_2,ih]
   rfl
def g6_20 (N:Nat) (S20:V22→Int→V1→Option (Bool)) (S21:V22→Option (Int)) (S22:V22→Option V26) (k0:V23→V16→V23→V6→V0→V22→Option R) (x0:V23) (x1:V16) (x2:V23) (x3:V6) (x4:V0) (x5:V22):Option R:=
l6_20 S20 S21 S22 k0 N x0 x1 x2 x3 x4 x5
theorem t6_20 (S20) (S21) (S22) (h20:(ctr20 S20).holds cl) (h21:(ctr21 S21).holds cl) (h22:(ctr22 S22).holds cl) (x0 x1 x2 x3 x4 x5):exec cl N c6_20 (e139 x0 x1 x2 x3 x4 x5) K=(g6_20 N S20 S21 S22 (fun y0 y1 y2 y3 y4 y5=>K (.exit 0) (e139 y0 y1 y2 y3 y4 y5)) x0 x1 x2 x3 x4 x5):=by
 simp only [c6_20,exec_out,exec_loop,kp6_2,lt6_20 S20 S21 S22 h20 h21 h22,kp6_2]
 rfl
def g6_22 (S19:V22→Int→V1→Option V24) (k0:V23→V16→V23→V6→V0→V22→Option R) (x0:V23) (x1:V16) (x2:V23) (x3:V6) (x4:V0) (x5:V22):Option R:=
(S19 x5 (4:Int) ([125]:List UInt8)).bind fun r482=>
k0 x0 x1 x2 x3 x4 r482.1
theorem t6_22 (S19) (h19:(ctr19 S19).holds cl) (x0 x1 x2 x3 x4 x5):exec cl N c6_22 (e139 x0 x1 x2 x3 x4 x5) K=(g6_22 S19 (fun y0 y1 y2 y3 y4 y5=>K .normal (e139 y0 y1 y2 y3 y4 y5)) x0 x1 x2 x3 x4 x5):=by
 rw [←put_eq h19]
 kernel_rfl
def g6_23 (k0:V23→V23→V6→V0→V22→Bool→Option R) (x0:V23) (x1:V16) (x2:V23) (x3:V6) (x4:V0) (x5:V22):Option R:=
brB x5.2.2.1 (k0 x0 x2 x3 x4 x5 true) (k0 x0 x2 x3 x4 x5 (decide (x5.2.1 < (x1.length:Int))))
theorem t6_23 (x0 x1 x2 x3 x4 x5):exec cl N c6_23 (e139 x0 x1 x2 x3 x4 x5) K=(g6_23 (fun y0 y1 y2 y3 y4 y5=>K .normal (e141 y0 y1 y2 y3 y4 y5)) x0 x1 x2 x3 x4 x5):=by
 kernel_rfl
def g6_24 (S21:V22→Option (Int)) (k0:V23→Int→Int→Option R) (x0 x1:V23) (x2:V6) (x3:V0) (x4:V22) (x5:Bool):Option R:=
(S21 x4).bind fun r484=>
k0 ([],[],()) r484 (2:Int)
theorem t6_24 (S21) (h21:(ctr21 S21).holds cl) (x0 x1 x2 x3 x4 x5):exec cl N c6_24 (e141 x0 x1 x2 x3 x4 x5) K=(g6_24 S21 (fun y0 y1 y2=>K .normal (e136 y0 y1 y2)) x0 x1 x2 x3 x4 x5):=by
 rw [←put_eq h21]
 kernel_rfl
theorem kp6_4 (x0 x1 x2):keep [2,3,4,9,10,11] (e136 x0 x1 x2)=(e142 x0 x1 x2):=by kernel_rfl
theorem kp6_5 (x0 x1 x2 x3 x4 x5):keep [2,3,4,9,10,11] (e141 x0 x1 x2 x3 x4 x5)=(e143 x0 x1 x2 x3):=by kernel_rfl
theorem hb6_2 (x0 x1 x2 x3 x4 x5):boolOf? (ent (e141 x0 x1 x2 x3 x4 x5) (.t 82))=some x5:=by kernel_rfl
def g6_26 (k0:V23→V23→V6→V0→Int→Int→Option R) (x0 x1:V23) (x2:V6) (x3:V0):Option R:=
k0 x0 x1 x2 x3 (x2.length:Int) (0:Int)
theorem t6_26 (x0 x1 x2 x3):exec cl N c6_26 (e143 x0 x1 x2 x3) K=(g6_26 (fun y0 y1 y2 y3 y4 y5=>K .normal (e144 y0 y1 y2 y3 y4 y5)) x0 x1 x2 x3):=by
 kernel_rfl
theorem kp6_6 (x0 x1 x2 x3 x4 x5):keep [2,9,10,11,86,87,88] (e144 x0 x1 x2 x3 x4 x5)=(e144 x0 x1 x2 x3 x4 x5):=by kernel_rfl
def g6_27 (k0:V23→V23→V6→V0→Int→Int→Bool→Option R) (x0 x1:V23) (x2:V6) (x3:V0) (x4 x5:Int):Option R:=
k0 x0 x1 x2 x3 x4 x5 (decide (x5 < x4))
theorem t6_27 (x0 x1 x2 x3 x4 x5):exec cl N c6_27 (e144 x0 x1 x2 x3 x4 x5) K=(g6_27 (fun y0 y1 y2 y3 y4 y5 y6=>K .normal (e145 y0 y1 y2 y3 y4 y5 y6)) x0 x1 x2 x3 x4 x5):=by
 kernel_rfl
theorem kp6_7 (x0 x1 x2 x3 x4 x5 x6):keep [2,9,10,11,86,87,88] (e145 x0 x1 x2 x3 x4 x5 x6)=(e144 x0 x1 x2 x3 x4 x5):=by kernel_rfl
theorem hb6_3 (x0 x1 x2 x3 x4 x5 x6):boolOf? (ent (e145 x0 x1 x2 x3 x4 x5 x6) (.t 89))=some x6:=by kernel_rfl
def g6_34 (S23:V1→Option (Int)) (k0:V23→V23→V6→V0→Int→Int→Int→Bool→Option R) (x0 x1:V23) (x2:V6) (x3:V0) (x4 x5:Int):Option R:=
if 0≤x5∧x5 < (x2.length:Int) then
if x5.toNat < x2.length then
(S23 (x2.getD x5.toNat [])).bind fun r490=>
if 0≤x5∧x5 < (x1.2.1.length:Int) then
if x5.toNat < x1.2.1.length then
if 0≤x5∧x5 < ((x1.2.1.set x5.toNat (r490,(x1.2.1.getD x5.toNat ((0:Int),((0:Int),([],())))).2)).length:Int) then
if x5.toNat < (x1.2.1.set x5.toNat (r490,(x1.2.1.getD x5.toNat ((0:Int),((0:Int),([],())))).2)).length then
k0 x0 (x1.1,((x1.2.1.set x5.toNat (r490,(x1.2.1.getD x5.toNat ((0:Int),((0:Int),([],())))).2)),x1.2.2)) x2 x3 x5 x4 x5 ((((x1.2.1.set x5.toNat (r490,(x1.2.1.getD x5.toNat ((0:Int),((0:Int),([],())))).2)).getD x5.toNat ((0:Int),((0:Int),([],())))).1)==(0:Int))
else none
else none
else none
else none
else none
else none
theorem t6_34 (S23) (h23:(ctr23 S23).holds cl) (x0 x1 x2 x3 x4 x5):exec cl N c6_34 (e144 x0 x1 x2 x3 x4 x5) K=(g6_34 S23 (fun y0 y1 y2 y3 y4 y5 y6 y7=>exec cl N c6_33 (e146 y0 y1 y2 y3 y4 y5 y6 y7) K) x0 x1 x2 x3 x4 x5):=by
 rw [←put_eq h23]
 kernel_rfl
def g6_32 (k0:V23→Int→Int→Option R) (x0 x1:V23) (x2:V6) (x3:V0) (x4 x5 x6:Int) (x7:Bool):Option R:=
if 0≤x4∧x4 < (x3.length:Int) then
if x4.toNat < x3.length then
k0 ([],[],()) (x3.getD x4.toNat (0:Int)) (9:Int)
else none
else none
theorem t6_32 (x0 x1 x2 x3 x4 x5 x6 x7):exec cl N c6_32 (e146 x0 x1 x2 x3 x4 x5 x6 x7) K=(g6_32 (fun y0 y1 y2=>K .normal (e147 y0 y1 y2)) x0 x1 x2 x3 x4 x5 x6 x7):=by
 kernel_rfl
theorem kp6_8 (x0 x1 x2):keep [2,3,4,9,10,11,86,87,88] (e147 x0 x1 x2)=(e148 x0 x1 x2):=by kernel_rfl
theorem kp6_9 (x0 x1 x2 x3 x4 x5 x6 x7):keep [2,3,4,9,10,11,86,87,88] (e146 x0 x1 x2 x3 x4 x5 x6 x7)=(e149 x0 x1 x2 x3 x5 x6):=by kernel_rfl
theorem hb6_4 (x0 x1 x2 x3 x4 x5 x6 x7):boolOf? (ent (e146 x0 x1 x2 x3 x4 x5 x6 x7) (.t 106))=some x7:=by kernel_rfl
theorem kp6_10 (x0 x1 x2):keep [2,3,4,9,10,11,86,87,88] (e148 x0 x1 x2)=(e148 x0 x1 x2):=by kernel_rfl
theorem kp6_11 (x0 x1 x2 x3 x4 x5):keep [2,3,4,9,10,11,86,87,88] (e149 x0 x1 x2 x3 x4 x5)=(e149 x0 x1 x2 x3 x4 x5):=by kernel_rfl
def g6_36 (k0:V23→V23→V6→V0→Int→Int→Option R) (x0 x1:V23) (x2:V6) (x3:V0) (x4 x5:Int):Option R:=
k0 x0 x1 x2 x3 x4 (IntKind.i64.wrap (x5+(1:Int)))
theorem t6_36 (x0 x1 x2 x3 x4 x5):exec cl N c6_36 (e149 x0 x1 x2 x3 x4 x5) K=(g6_36 (fun y0 y1 y2 y3 y4 y5=>K .normal (e144 y0 y1 y2 y3 y4 y5)) x0 x1 x2 x3 x4 x5):=by
 kernel_rfl
def g6_37 (S23:V1→Option (Int)) (k0:V23→Int→Int→Option R) (k1:V23→V23→V6→V0→Int→Int→Option R) (k2:V23→V23→V6→V0→Int→Int→Option R) (x0 x1:V23) (x2:V6) (x3:V0) (x4 x5:Int):Option R:=
(g6_27 (fun y0 y1 y2 y3 y4 y5 y6=>brB y6 ((g6_34 S23 (fun y0 y1 y2 y3 y4 y5 y6 y7=>brB y7 (g6_32 k0 y0 y1 y2 y3 y4 y5 y6 y7) (((g6_36 k1)) y0 y1 y2 y3 y5 y6))) y0 y1 y2 y3 y4 y5) (k2 y0 y1 y2 y3 y4 y5)) x0 x1 x2 x3 x4 x5)
theorem t6_37 (S23) (h23:(ctr23 S23).holds cl) (x0 x1 x2 x3 x4 x5):exec cl N c6_37 (e144 x0 x1 x2 x3 x4 x5) K=(g6_37 S23 (fun y0 y1 y2=>K .ret (e148 y0 y1 y2)) (fun y0 y1 y2 y3 y4 y5=>K .normal (e144 y0 y1 y2 y3 y4 y5)) (fun y0 y1 y2 y3 y4 y5=>K (.exit 2) (e144 y0 y1 y2 y3 y4 y5)) x0 x1 x2 x3 x4 x5):=by
 simp only [c6_37,xS,sN,sE,sR,t6_27,c6_28,exec_out,exec_cond',hb6_3,Option.bind_some,bT,bF,exec_skip,exec_exit,kp6_7,c6_35,xB,t6_34 S23 h23,c6_33,hb6_4,t6_32,exec_ret,kp6_8,kp6_9,blockK_normal,blockK_ret,blockK_eq,kp6_10,kp6_11,t6_36]
 rfl
def l6_38 {R:Type} (S23:V1→Option (Int)) (k0:V23→Int→Int→Option R) (k1:V23→V23→V6→V0→Int→Int→Option R):Nat→V23→V23→V6→V0→Int→Int→Option R
 | 0,_,_,_,_,_,_=>none
 | m+1,x0,x1,x2,x3,x4,x5=>(g6_37 S23 k0 (l6_38 S23 k0 k1 m) k1 x0 x1 x2 x3 x4 x5)
theorem lt6_38 (S23) (h23:(ctr23 S23).holds cl):∀ (m) (x0 x1 x2 x3 x4 x5),iter [2,9,10,11,86,87,88] (fun env K=>exec cl N c6_37 env K) K m (e144 x0 x1 x2 x3 x4 x5)=l6_38 S23 (fun y0 y1 y2=>K .ret (e148 y0 y1 y2)) (fun y0 y1 y2 y3 y4 y5=>K (.exit 2) (e144 y0 y1 y2 y3 y4 y5)) m x0 x1 x2 x3 x4 x5:=by
 intro m
 induction m with
 | zero=>intros; rfl
 | succ m ih=>
   intro x0 x1 x2 x3 x4 x5
   simp only [iter_succ,t6_37 S23 h23,loopK_normal,loopK_exit,loopK_ret,kp6_6,ih]
   rfl
theorem kp6_12 (x0 x1 x2):keep [2,3,4,9] (e148 x0 x1 x2)=(e150 x0 x1 x2):=by kernel_rfl
theorem kp6_13 (x0 x1 x2 x3 x4 x5):keep [2,3,4,9] (e144 x0 x1 x2 x3 x4 x5)=(e151 x0 x1):=by kernel_rfl
def g6_38 (N:Nat) (S23:V1→Option (Int)) (k0:V23→Int→Int→Option R) (k1:V23→V23→Option R) (x0 x1:V23) (x2:V6) (x3:V0) (x4 x5:Int):Option R:=
l6_38 S23 k0 (fun y0 y1 y2 y3 y4 y5=>k1 y0 y1) N x0 x1 x2 x3 x4 x5
theorem t6_38 (S23) (h23:(ctr23 S23).holds cl) (x0 x1 x2 x3 x4 x5):exec cl N c6_38 (e144 x0 x1 x2 x3 x4 x5) K=(g6_38 N S23 (fun y0 y1 y2=>K .ret (e150 y0 y1 y2)) (fun y0 y1=>K (.exit 2) (e151 y0 y1)) x0 x1 x2 x3 x4 x5):=by
 simp only [c6_38,exec_out,exec_loop,kp6_6,lt6_38 S23 h23,kp6_12,kp6_13]
 rfl
theorem kp6_14 (x0 x1 x2):keep [2,3,4,9] (e150 x0 x1 x2)=(e150 x0 x1 x2):=by kernel_rfl
theorem kp6_15 (x0 x1):keep [2,3,4,9] (e151 x0 x1)=(e151 x0 x1):=by kernel_rfl
def g6_44 (S13:V23→Option (Int)) (k0:V23→V23→Int→Bool→Option R) (x0 x1:V23):Option R:=
(S13 x1).bind fun r496=>
k0 x0 x1 r496 (r496 != (0:Int))
theorem t6_44 (S13) (h13:(ctr13 S13).holds cl) (x0 x1):exec cl N c6_44 (e151 x0 x1) K=(g6_44 S13 (fun y0 y1 y2 y3=>exec cl N c6_43 (e152 y0 y1 y2 y3) K) x0 x1):=by
 rw [←put_eq h13]
 kernel_rfl
def g6_42 (k0:V23→Int→Int→Option R) (x0 x1:V23) (x2:Int) (x3:Bool):Option R:=
k0 ([],[],()) (0:Int) x2
theorem t6_42 (x0 x1 x2 x3):exec cl N c6_42 (e152 x0 x1 x2 x3) K=(g6_42 (fun y0 y1 y2=>K .normal (e136 y0 y1 y2)) x0 x1 x2 x3):=by
 kernel_rfl
theorem kp6_16 (x0 x1 x2):keep [2,3,4,9] (e136 x0 x1 x2)=(e153 x0 x1 x2):=by kernel_rfl
theorem kp6_17 (x0 x1 x2 x3):keep [2,3,4,9] (e152 x0 x1 x2 x3)=(e154 x0 x1):=by kernel_rfl
theorem hb6_5 (x0 x1 x2 x3):boolOf? (ent (e152 x0 x1 x2 x3) (.t 116))=some x3:=by kernel_rfl
def g6_45 (k0:V23→Int→Int→Option R) (x0 x1:V23):Option R:=
k0 x1 (0:Int) (0:Int)
theorem t6_45 (x0 x1):exec cl N c6_45 (e154 x0 x1) K=(g6_45 (fun y0 y1 y2=>K .normal (e147 y0 y1 y2)) x0 x1):=by
 kernel_rfl
def g6_47b (N:Nat) (S13:V23→Option (Int)) (S18:V1→Option V19) (S19:V22→Int→V1→Option V24) (S20:V22→Int→V1→Option (Bool)) (S21:V22→Option (Int)) (S22:V22→Option V26) (S23:V1→Option (Int)) (k0:V23→Int→Int→Option R) (k1:V23→Int→Int→Option R) (k2:V23→Int→Int→Option R) (k3:V23→Int→Int→Option R) (k4:V23→Int→Int→Option R) (x0:V1):Option R:=
(g6_47 S18 (g6_2 (fun y0 y1 y2 y3 y4=>brB y4 (g6_3 k0 y0 y1 y2 y3 y4) ((g6_46 S19 (g6_20 N S20 S21 S22 ((g6_22 S19 (g6_23 (fun y0 y1 y2 y3 y4 y5=>brB y5 (g6_24 S21 k1 y0 y1 y2 y3 y4 y5) ((g6_26 (g6_38 N S23 k2 ((g6_44 S13 (fun y0 y1 y2 y3=>brB y3 (g6_42 k3 y0 y1 y2 y3) ((g6_45 k4) y0 y1)))))) y0 y1 y2 y3))))))) y0 y1))) x0)
theorem t6_47b (S13) (S18) (S19) (S20) (S21) (S22) (S23) (h13:(ctr13 S13).holds cl) (h18:(ctr18 S18).holds cl) (h19:(ctr19 S19).holds cl) (h20:(ctr20 S20).holds cl) (h21:(ctr21 S21).holds cl) (h22:(ctr22 S22).holds cl) (h23:(ctr23 S23).holds cl) (x0):exec cl N c6_47 [(0,.v .str x0)] K=(g6_47b N S13 S18 S19 S20 S21 S22 S23 (fun y0 y1 y2=>K .ret (e137 y0 y1 y2)) (fun y0 y1 y2=>K .ret (e142 y0 y1 y2)) (fun y0 y1 y2=>K .ret (e150 y0 y1 y2)) (fun y0 y1 y2=>K .ret (e153 y0 y1 y2)) (fun y0 y1 y2=>K .ret (e147 y0 y1 y2)) x0):=by
 simp only [xS,sN,sE,sR,t6_47 S18 h18,t6_2,c6_4,exec_out,exec_cond',hb6_0,Option.bind_some,bT,bF,t6_3,exec_ret,exec_skip,kp6_0,kp6_1,t6_46 S19 h19,c6_21,xB,t6_20 S20 S21 S22 h20 h21 h22,blockK_normal,blockK_ret,blockK_eq,kp6_2,t6_22 S19 h19,t6_23,c6_25,hb6_2,t6_24 S21 h21,kp6_4,kp6_5,t6_26,c6_39,t6_38 S23 h23,kp6_14,kp6_15,t6_44 S13 h13,c6_43,hb6_5,t6_42,kp6_16,kp6_17,t6_45]
 rfl
theorem rk6_0 (y0 y1 y2):retK d6 .ret (e137 y0 y1 y2)=some [.v U17 y0,.v U2 y1,.v U2 y2]:=by kernel_rfl
theorem rk6_1 (y0 y1 y2):retK d6 .ret (e142 y0 y1 y2)=some [.v U17 y0,.v U2 y1,.v U2 y2]:=by kernel_rfl
theorem rk6_2 (y0 y1 y2):retK d6 .ret (e150 y0 y1 y2)=some [.v U17 y0,.v U2 y1,.v U2 y2]:=by kernel_rfl
theorem rk6_3 (y0 y1 y2):retK d6 .ret (e153 y0 y1 y2)=some [.v U17 y0,.v U2 y1,.v U2 y2]:=by kernel_rfl
theorem rk6_4 (y0 y1 y2):retK d6 .ret (e147 y0 y1 y2)=some [.v U17 y0,.v U2 y1,.v U2 y2]:=by kernel_rfl
def g6 (N:Nat) (S13:V23→Option (Int)) (S18:V1→Option V19) (S19:V22→Int→V1→Option V24) (S20:V22→Int→V1→Option (Bool)) (S21:V22→Option (Int)) (S22:V22→Option V26) (S23:V1→Option (Int)) (x0:V1) (k:V23→Int→Int→Option R):Option R:=
(g6_47b N S13 S18 S19 S20 S21 S22 S23 k k k k k x0)
theorem gen6 (S13) (S18) (S19) (S20) (S21) (S22) (S23) (h13:(ctr13 S13).holds cl) (h18:(ctr18 S18).holds cl) (h19:(ctr19 S19).holds cl) (h20:(ctr20 S20).holds cl) (h21:(ctr21 S21).holds cl) (h22:(ctr22 S22).holds cl) (h23:(ctr23 S23).holds cl) (x0) (k:List E→Option R):exec cl N c6 [(0,.v .str x0)] (fun e env=>(retK d6 e env).bind k)=g6 N S13 S18 S19 S20 S21 S22 S23 x0 (fun r0 r1 r2=>k [.v U17 r0,.v U2 r1,.v U2 r2]):=by
 simp only [c6,t6_47b S13 S18 S19 S20 S21 S22 S23 h13 h18 h19 h20 h21 h22 h23,rk6_0,rk6_1,rk6_2,rk6_3,rk6_4,Option.bind_some]
 rfl
def ctr6 (S:V1→Option V25):Ctr:=cv1 6 .str S fun b=> [.v U17 b.1,.v U2 b.2.1,.v U2 b.2.2]
def S6 (N:Nat) (x0:V1):Option V25:=g6 N (S13 N) (S18 N) (S19 N) (S20 N) (S21 N) (S22 N) (S23 N) x0 (fun (r0:V23) (r1:Int) (r2:Int)=>some (r0,r1,r2))
def g47_31 (k0:V1→Int→Option R) (x0:V1):Option R:=
k0 x0 (0:Int)
theorem t47_31 (x0):exec cl N c47_31 [(0,.v .str x0)] K=(g47_31 (fun y0 y1=>exec cl N (.seq c47_29 (.seq c47_30 .ret)) (e3 y0 y1) K) x0):=by
 kernel_rfl
theorem kp47_0 (x0 x1):keep [0,3] (e3 x0 x1)=(e3 x0 x1):=by kernel_rfl
def g47_2 (k0:V1→Int→Bool→Option R) (x0:V1) (x1:Int):Option R:=
k0 x0 x1 (decide (x1 < (x0.length:Int)))
theorem t47_2 (x0 x1):exec cl N c47_2 (e3 x0 x1) K=(g47_2 (fun y0 y1 y2=>K .normal (e155 y0 y1 y2)) x0 x1):=by
 kernel_rfl
theorem kp47_1 (x0 x1 x2):keep [0,3] (e155 x0 x1 x2)=(e3 x0 x1):=by kernel_rfl
theorem hb47_0 (x0 x1 x2):boolOf? (ent (e155 x0 x1 x2) (.t 7))=some x2:=by kernel_rfl
def g47_4 (k0:V1→Int→Int→Option R) (x0:V1) (x1:Int):Option R:=
if 0≤x1∧x1 < (x0.length:Int) then
k0 x0 x1 ((x0.getD x1.toNat 0).toNat:Int)
else none
theorem t47_4 (x0 x1):exec cl N c47_4 (e3 x0 x1) K=(g47_4 (fun y0 y1 y2=>K .normal (e156 y0 y1 y2)) x0 x1):=by
 kernel_rfl
def g47_5 (k0:V1→Int→Int→Bool→Option R) (x0:V1) (x1 x2:Int):Option R:=
k0 x0 x1 x2 (x2==(32:Int))
theorem t47_5 (x0 x1 x2):exec cl N c47_5 (e156 x0 x1 x2) K=(g47_5 (fun y0 y1 y2 y3=>K .normal (e157 y0 y1 y2 y3)) x0 x1 x2):=by
 kernel_rfl
theorem kp47_2 (x0 x1 x2 x3):keep [0,3,10,12] (e157 x0 x1 x2 x3)=(e157 x0 x1 x2 x3):=by kernel_rfl
def g47_6 (k0:V1→Int→Int→Bool→Option R) (x0:V1) (x1 x2:Int) (x3:Bool):Option R:=
k0 x0 x1 x2 (x2==(9:Int))
theorem t47_6 (x0 x1 x2 x3):exec cl N c47_6 (e157 x0 x1 x2 x3) K=(g47_6 (fun y0 y1 y2 y3=>K .normal (e157 y0 y1 y2 y3)) x0 x1 x2 x3):=by
 kernel_rfl
def g47_7 (k0:V1→Int→Int→Bool→Option R) (x0:V1) (x1 x2:Int) (x3:Bool):Option R:=
k0 x0 x1 x2 (x2==(10:Int))
theorem t47_7 (x0 x1 x2 x3):exec cl N c47_7 (e157 x0 x1 x2 x3) K=(g47_7 (fun y0 y1 y2 y3=>K .normal (e157 y0 y1 y2 y3)) x0 x1 x2 x3):=by
 kernel_rfl
def g47_8 (k0:V1→Int→Int→Bool→Option R) (x0:V1) (x1 x2:Int) (x3:Bool):Option R:=
k0 x0 x1 x2 (x2==(13:Int))
theorem t47_8 (x0 x1 x2 x3):exec cl N c47_8 (e157 x0 x1 x2 x3) K=(g47_8 (fun y0 y1 y2 y3=>K .normal (e157 y0 y1 y2 y3)) x0 x1 x2 x3):=by
 kernel_rfl
theorem hb47_1 (x0 x1 x2 x3):boolOf? (ent (e157 x0 x1 x2 x3) (.t 12))=some x3:=by kernel_rfl
theorem hb47_2 (x0 x1 x2 x3):boolOf? (ent (e157 x0 x1 x2 x3) (.t 12))=some x3:=by kernel_rfl
theorem hb47_3 (x0 x1 x2 x3):boolOf? (ent (e157 x0 x1 x2 x3) (.t 12))=some x3:=by kernel_rfl
def g47_12 (k0:V1→Int→Int→Bool→Option R) (x0:V1) (x1 x2:Int):Option R:=
(g47_5 (fun y0 y1 y2 y3=>brB y3 (k0 y0 y1 y2 y3) (g47_6 (fun y0 y1 y2 y3=>brB y3 (k0 y0 y1 y2 y3) (g47_7 (fun y0 y1 y2 y3=>brB y3 (k0 y0 y1 y2 y3) (g47_8 k0 y0 y1 y2 y3)) y0 y1 y2 y3)) y0 y1 y2 y3)) x0 x1 x2)
theorem t47_12 (x0 x1 x2):exec cl N c47_12 (e156 x0 x1 x2) K=(g47_12 (fun y0 y1 y2 y3=>K .normal (e157 y0 y1 y2 y3)) x0 x1 x2):=by
 simp only [c47_12,xS,sN,sE,sR,t47_5,c47_11,exec_out,exec_cond',hb47_3,Option.bind_some,bT,bF,exec_skip,t47_6,c47_10,hb47_2,t47_7,c47_9,hb47_1,t47_8,kp47_2]
 rfl
def g47_13 (k0:V1→Int→Option R) (x0:V1) (x1 x2:Int) (x3:Bool):Option R:=
k0 x0 (IntKind.i64.wrap (x1+(1:Int)))
theorem t47_13 (x0 x1 x2 x3):exec cl N c47_13 (e157 x0 x1 x2 x3) K=(g47_13 (fun y0 y1=>K .normal (e3 y0 y1)) x0 x1 x2 x3):=by
 kernel_rfl
theorem kp47_3 (x0 x1):keep [0,2,3] (e3 x0 x1)=(e6 x0 x1):=by kernel_rfl
def g47_14 (k0:V1→Int→Bool→Option R) (x0:V1) (x1 x2:Int) (x3:Bool):Option R:=
k0 x0 x1 (x2==(35:Int))
theorem t47_14 (x0 x1 x2 x3):exec cl N c47_14 (e157 x0 x1 x2 x3) K=(g47_14 (fun y0 y1 y2=>K .normal (e158 y0 y1 y2)) x0 x1 x2 x3):=by
 kernel_rfl
theorem kp47_4 (x0 x1 x2):keep [0,3] (e158 x0 x1 x2)=(e3 x0 x1):=by kernel_rfl
def g47_15 (k0:V1→Int→Bool→Option R) (x0:V1) (x1:Int):Option R:=
brB (decide (x1 < (x0.length:Int))) (if 0≤x1∧x1 < (x0.length:Int) then
k0 x0 x1 (((x0.getD x1.toNat 0).toNat:Int) != (10:Int))
else none) (k0 x0 x1 false)
theorem t47_15 (x0 x1):exec cl N c47_15 (e3 x0 x1) K=(g47_15 (fun y0 y1 y2=>K .normal (e7 y0 y1 y2)) x0 x1):=by
 kernel_rfl
theorem kp47_5 (x0 x1 x2):keep [0,3] (e7 x0 x1 x2)=(e3 x0 x1):=by kernel_rfl
theorem hb47_4 (x0 x1 x2):boolOf? (ent (e7 x0 x1 x2) (.t 30))=some x2:=by kernel_rfl
def g47_17 (k0:V1→Int→Option R) (x0:V1) (x1:Int):Option R:=
k0 x0 (IntKind.i64.wrap (x1+(1:Int)))
theorem t47_17 (x0 x1):exec cl N c47_17 (e3 x0 x1) K=(g47_17 (fun y0 y1=>K .normal (e3 y0 y1)) x0 x1):=by
 kernel_rfl
def g47_19 (k0:V1→Int→Option R) (k1:V1→Int→Option R) (x0:V1) (x1:Int):Option R:=
(g47_15 (fun y0 y1 y2=>brB y2 ((g47_17 k0) y0 y1) (k1 y0 y1)) x0 x1)
theorem t47_19 (x0 x1):exec cl N c47_19 (e3 x0 x1) K=(g47_19 (fun y0 y1=>K .normal (e3 y0 y1)) (fun y0 y1=>K (.exit 3) (e3 y0 y1)) x0 x1):=by
 simp only [c47_19,xS,sN,sE,sR,t47_15,c47_16,exec_out,exec_cond',hb47_4,Option.bind_some,bT,bF,exec_skip,exec_exit,kp47_5,c47_18,xB,t47_17,blockK_normal,blockK_ret,blockK_eq,kp47_0]
 rfl
def l47_20 {R:Type} (k0:V1→Int→Option R):Nat→V1→Int→Option R
 | 0,_,_=>none
 | m+1,x0,x1=>(g47_19 (l47_20 k0 m) k0 x0 x1)
theorem lt47_20:∀ (m) (x0 x1),iter [0,3] (fun env K=>exec cl N c47_19 env K) K m (e3 x0 x1)=l47_20 (fun y0 y1=>K (.exit 3) (e3 y0 y1)) m x0 x1:=by
 intro m
 induction m with
 | zero=>intros; rfl
 | succ m ih=>
   intro x0 x1
   simp only [iter_succ,t47_19,loopK_normal,loopK_exit,loopK_ret,kp47_0,ih]
   rfl
def g47_20 (N:Nat) (k0:V1→Int→Option R) (x0:V1) (x1:Int) (x2:Bool):Option R:=
l47_20 k0 N x0 x1
theorem t47_20 (x0 x1 x2):exec cl N c47_20 (e158 x0 x1 x2) K=(g47_20 N (fun y0 y1=>K (.exit 3) (e3 y0 y1)) x0 x1 x2):=by
 simp only [c47_20,exec_out,exec_loop,kp47_4,lt47_20,kp47_0]
 rfl
def g47_22 (k0:Int→Option R) (x0:V1) (x1:Int) (x2:Bool):Option R:=
k0 x1
theorem t47_22 (x0 x1 x2):exec cl N c47_22 (e158 x0 x1 x2) K=(g47_22 (fun y0=>K .normal [(2,.v U2 y0)]) x0 x1 x2):=by
 kernel_rfl
theorem kp47_6 (x0):keep [0,2,3] [(2,.v U2 x0)]=(e8 x0):=by kernel_rfl
theorem hb47_5 (x0 x1 x2):boolOf? (ent (e158 x0 x1 x2) (.t 19))=some x2:=by kernel_rfl
theorem kp47_7 (x0 x1):keep [0,2,3] (e6 x0 x1)=(e6 x0 x1):=by kernel_rfl
theorem kp47_8 (x0):keep [0,2,3] (e8 x0)=(e8 x0):=by kernel_rfl
theorem hb47_6 (x0 x1 x2 x3):boolOf? (ent (e157 x0 x1 x2 x3) (.t 12))=some x3:=by kernel_rfl
def g47_27 (N:Nat) (k0:V1→Int→Option R) (k1:Int→Option R) (k2:V1→Int→Option R) (x0:V1) (x1:Int):Option R:=
(g47_2 (fun y0 y1 y2=>brB y2 ((g47_4 (g47_12 (fun y0 y1 y2 y3=>brB y3 (g47_13 k0 y0 y1 y2 y3) (g47_14 (fun y0 y1 y2=>brB y2 (g47_20 N k0 y0 y1 y2) (g47_22 k1 y0 y1 y2)) y0 y1 y2 y3)))) y0 y1) (k2 y0 y1)) x0 x1)
theorem t47_27 (x0 x1):exec cl N c47_27 (e3 x0 x1) K=(g47_27 N (fun y0 y1=>K .normal (e6 y0 y1)) (fun y0=>K .ret (e8 y0)) (fun y0 y1=>K (.exit 0) (e3 y0 y1)) x0 x1):=by
 simp only [c47_27,xS,sN,sE,sR,t47_2,c47_3,exec_out,exec_cond',hb47_0,Option.bind_some,bT,bF,exec_skip,exec_exit,kp47_1,c47_26,xB,t47_4,c47_25,t47_12,c47_24,hb47_6,t47_13,t47_14,c47_23,hb47_5,c47_21,t47_20,blockK_normal,blockK_ret,blockK_eq,kp47_0,t47_22,exec_ret,kp47_3,kp47_6,kp47_7,kp47_8]
 rfl
theorem kp47_9 (x0 x1):keep [0,3] (e6 x0 x1)=(e3 x0 x1):=by kernel_rfl
def l47_28 {R:Type} (N:Nat) (k0:Int→Option R) (k1:V1→Int→Option R):Nat→V1→Int→Option R
 | 0,_,_=>none
 | m+1,x0,x1=>(g47_27 N (l47_28 N k0 k1 m) k0 k1 x0 x1)
theorem lt47_28:∀ (m) (x0 x1),iter [0,3] (fun env K=>exec cl N c47_27 env K) K m (e3 x0 x1)=l47_28 N (fun y0=>K .ret (e8 y0)) (fun y0 y1=>K (.exit 0) (e3 y0 y1)) m x0 x1:=by
 intro m
 induction m with
 | zero=>intros; rfl
 | succ m ih=>
   intro x0 x1
   simp only [iter_succ,t47_27,loopK_normal,loopK_exit,loopK_ret,kp47_9,ih]
   rfl
theorem kp47_10 (x0):keep [2,3] (e8 x0)=(e9 x0):=by kernel_rfl
theorem kp47_11 (x0 x1):keep [2,3] (e3 x0 x1)=(e10 x1):=by kernel_rfl
def g47_28 (N:Nat) (k0:Int→Option R) (k1:Int→Option R) (x0:V1) (x1:Int):Option R:=
l47_28 N k0 (fun y0 y1=>k1 y1) N x0 x1
theorem t47_28 (x0 x1):exec cl N c47_28 (e3 x0 x1) K=(g47_28 N (fun y0=>K .ret (e9 y0)) (fun y0=>K (.exit 0) (e10 y0)) x0 x1):=by
 simp only [c47_28,exec_out,exec_loop,kp47_0,lt47_28,kp47_10,kp47_11]
 rfl
theorem kp47_12 (x0):keep [2,3] (e9 x0)=(e9 x0):=by kernel_rfl
theorem kp47_13 (x0):keep [2,3] (e10 x0)=(e10 x0):=by kernel_rfl
def g47_30 (k0:Int→Option R) (x0:Int):Option R:=
k0 x0
theorem t47_30 (x0):exec cl N c47_30 (e10 x0) K=(g47_30 (fun y0=>K .normal [(2,.v U2 y0)]) x0):=by
 kernel_rfl
def g47_31b (N:Nat) (k0:Int→Option R) (k1:Int→Option R) (x0:V1):Option R:=
(g47_31 (g47_28 N k0 ((g47_30 k1))) x0)
theorem t47_31b (x0):exec cl N c47_31 [(0,.v .str x0)] K=(g47_31b N (fun y0=>K .ret (e9 y0)) (fun y0=>K .ret [(2,.v U2 y0)]) x0):=by
 simp only [xS,sN,sE,sR,t47_31,c47_29,exec_out,xB,t47_28,blockK_normal,blockK_ret,blockK_eq,kp47_12,kp47_13,t47_30,exec_ret]
 rfl
theorem rk47_0 (y0):retK d47 .ret (e9 y0)=some [.v U2 y0]:=by kernel_rfl
theorem rk47_1 (y0):retK d47 .ret [(2,.v U2 y0)]=some [.v U2 y0]:=by kernel_rfl
def g47 (N:Nat) (x0:V1) (k:Int→Option R):Option R:=
(g47_31b N k k x0)
theorem gen47 (x0) (k:List E→Option R):exec cl N c47 [(0,.v .str x0)] (fun e env=>(retK d47 e env).bind k)=g47 N x0 (fun r0=>k [.v U2 r0]):=by
 simp only [c47,t47_31b,rk47_0,rk47_1,Option.bind_some]
 rfl
def ctr47 (S:V1→Option (Int)):Ctr:=cv1 47 .str S fun b=> [.v U2 b]
def S47 (N:Nat) (x0:V1):Option (Int):=g47 N x0 (fun (r0:Int)=>some (r0))
def g48_14 (k0:V1→Int→Option R) (x0:V1):Option R:=
k0 x0 (0:Int)
theorem t48_14 (x0):exec cl N c48_14 [(0,.v .str x0)] K=(g48_14 (fun y0 y1=>exec cl N (.seq (.seq c48_2 c48_12) (.seq c48_13 .ret)) (e3 y0 y1) K) x0):=by
 kernel_rfl
def g48_2 (k0:V1→Int→Int→Option R) (x0:V1) (x1:Int):Option R:=
k0 x0 x1 (0:Int)
theorem t48_2 (x0 x1):exec cl N c48_2 (e3 x0 x1) K=(g48_2 (fun y0 y1 y2=>K .normal (e159 y0 y1 y2)) x0 x1):=by
 kernel_rfl
theorem kp48_0 (x0 x1 x2):keep [0,3,4] (e159 x0 x1 x2)=(e159 x0 x1 x2):=by kernel_rfl
def g48_3 (k0:V1→Int→Int→Bool→Option R) (x0:V1) (x1 x2:Int):Option R:=
k0 x0 x1 x2 (decide (x2 < (x0.length:Int)))
theorem t48_3 (x0 x1 x2):exec cl N c48_3 (e159 x0 x1 x2) K=(g48_3 (fun y0 y1 y2 y3=>K .normal (e160 y0 y1 y2 y3)) x0 x1 x2):=by
 kernel_rfl
theorem kp48_1 (x0 x1 x2 x3):keep [0,3,4] (e160 x0 x1 x2 x3)=(e159 x0 x1 x2):=by kernel_rfl
theorem hb48_0 (x0 x1 x2 x3):boolOf? (ent (e160 x0 x1 x2 x3) (.t 8))=some x3:=by kernel_rfl
def g48_5 (k0:V1→Int→Int→Bool→Option R) (x0:V1) (x1 x2:Int):Option R:=
if 0≤x2∧x2 < (x0.length:Int) then
k0 x0 x1 x2 (((x0.getD x2.toNat 0).toNat:Int)==(10:Int))
else none
theorem t48_5 (x0 x1 x2):exec cl N c48_5 (e159 x0 x1 x2) K=(g48_5 (fun y0 y1 y2 y3=>K .normal (e161 y0 y1 y2 y3)) x0 x1 x2):=by
 kernel_rfl
def g48_6 (k0:V1→Int→Int→Option R) (x0:V1) (x1 x2:Int) (x3:Bool):Option R:=
k0 x0 (IntKind.i64.wrap (x1+(1:Int))) x2
theorem t48_6 (x0 x1 x2 x3):exec cl N c48_6 (e161 x0 x1 x2 x3) K=(g48_6 (fun y0 y1 y2=>K .normal (e159 y0 y1 y2)) x0 x1 x2 x3):=by
 kernel_rfl
theorem kp48_2 (x0 x1 x2 x3):keep [0,3,4] (e161 x0 x1 x2 x3)=(e159 x0 x1 x2):=by kernel_rfl
theorem hb48_1 (x0 x1 x2 x3):boolOf? (ent (e161 x0 x1 x2 x3) (.t 14))=some x3:=by kernel_rfl
def g48_8 (k0:V1→Int→Int→Option R) (x0:V1) (x1 x2:Int):Option R:=
(g48_5 (fun y0 y1 y2 y3=>brB y3 (g48_6 k0 y0 y1 y2 y3) (k0 y0 y1 y2)) x0 x1 x2)
theorem t48_8 (x0 x1 x2):exec cl N c48_8 (e159 x0 x1 x2) K=(g48_8 (fun y0 y1 y2=>K .normal (e159 y0 y1 y2)) x0 x1 x2):=by
 simp only [c48_8,exec_out,xB,xS,sN,sE,sR,t48_5,c48_7,exec_cond',hb48_1,Option.bind_some,bT,bF,t48_6,exec_skip,kp48_0,kp48_2,blockK_normal,blockK_ret,blockK_eq]
 rfl
def g48_9 (k0:V1→Int→Int→Option R) (x0:V1) (x1 x2:Int):Option R:=
k0 x0 x1 (IntKind.i64.wrap (x2+(1:Int)))
theorem t48_9 (x0 x1 x2):exec cl N c48_9 (e159 x0 x1 x2) K=(g48_9 (fun y0 y1 y2=>K .normal (e159 y0 y1 y2)) x0 x1 x2):=by
 kernel_rfl
def g48_10 (k0:V1→Int→Int→Option R) (k1:V1→Int→Int→Option R) (x0:V1) (x1 x2:Int):Option R:=
(g48_3 (fun y0 y1 y2 y3=>brB y3 ((g48_8 (g48_9 k0)) y0 y1 y2) (k1 y0 y1 y2)) x0 x1 x2)
theorem t48_10 (x0 x1 x2):exec cl N c48_10 (e159 x0 x1 x2) K=(g48_10 (fun y0 y1 y2=>K .normal (e159 y0 y1 y2)) (fun y0 y1 y2=>K (.exit 0) (e159 y0 y1 y2)) x0 x1 x2):=by
 simp only [c48_10,xS,sN,sE,sR,t48_3,c48_4,exec_out,exec_cond',hb48_0,Option.bind_some,bT,bF,exec_skip,exec_exit,kp48_1,t48_8,t48_9]
 rfl
def l48_11 {R:Type} (k0:V1→Int→Int→Option R):Nat→V1→Int→Int→Option R
 | 0,_,_,_=>none
 | m+1,x0,x1,x2=>(g48_10 (l48_11 k0 m) k0 x0 x1 x2)
theorem lt48_11:∀ (m) (x0 x1 x2),iter [0,3,4] (fun env K=>exec cl N c48_10 env K) K m (e159 x0 x1 x2)=l48_11 (fun y0 y1 y2=>K (.exit 0) (e159 y0 y1 y2)) m x0 x1 x2:=by
 intro m
 induction m with
 | zero=>intros; rfl
 | succ m ih=>
   intro x0 x1 x2
   simp only [iter_succ,t48_10,loopK_normal,loopK_exit,loopK_ret,kp48_0,ih]
   rfl
theorem kp48_3 (x0 x1 x2):keep [3] (e159 x0 x1 x2)=[(3,.v U2 x1)]:=by kernel_rfl
def g48_11 (N:Nat) (k0:Int→Option R) (x0:V1) (x1 x2:Int):Option R:=
l48_11 (fun y0 y1 y2=>k0 y1) N x0 x1 x2
theorem t48_11 (x0 x1 x2):exec cl N c48_11 (e159 x0 x1 x2) K=(g48_11 N (fun y0=>K (.exit 0) [(3,.v U2 y0)]) x0 x1 x2):=by
 simp only [c48_11,exec_out,exec_loop,kp48_0,lt48_11,kp48_3]
 rfl
theorem kp48_4 (x0):keep [3] [(3,.v U2 x0)]=[(3,.v U2 x0)]:=by kernel_rfl
def g48_13 (k0:Int→Option R) (x0:Int):Option R:=
k0 x0
theorem t48_13 (x0):exec cl N c48_13 [(3,.v U2 x0)] K=(g48_13 (fun y0=>K .normal [(2,.v U2 y0)]) x0):=by
 kernel_rfl
def g48_14b (N:Nat) (k0:Int→Option R) (x0:V1):Option R:=
(g48_14 (g48_2 (g48_11 N ((g48_13 k0)))) x0)
theorem t48_14b (x0):exec cl N c48_14 [(0,.v .str x0)] K=(g48_14b N (fun y0=>K .ret [(2,.v U2 y0)]) x0):=by
 simp only [xS,sN,sE,sR,t48_14,t48_2,c48_12,exec_out,xB,t48_11,blockK_normal,blockK_ret,blockK_eq,kp48_4,t48_13,exec_ret]
 rfl
theorem rk48_0 (y0):retK d48 .ret [(2,.v U2 y0)]=some [.v U2 y0]:=by kernel_rfl
def g48 (N:Nat) (x0:V1) (k:Int→Option R):Option R:=
(g48_14b N k x0)
theorem gen48 (x0) (k:List E→Option R):exec cl N c48 [(0,.v .str x0)] (fun e env=>(retK d48 e env).bind k)=g48 N x0 (fun r0=>k [.v U2 r0]):=by
 simp only [c48,t48_14b,rk48_0,Option.bind_some]
 rfl
def ctr48 (S:V1→Option (Int)):Ctr:=cv1 48 .str S fun b=> [.v U2 b]
def S48 (N:Nat) (x0:V1):Option (Int):=g48 N x0 (fun (r0:Int)=>some (r0))
def g73_2 (k0:Bool→Option R) (x0:Int):Option R:=
brB (decide (x0≥(97:Int))) (k0 (decide (x0≤(122:Int)))) (k0 false)
theorem t73_2 (x0):exec cl N c73_2 [(0,.v U0 x0)] K=(g73_2 (fun y0=>exec cl N .ret [(2,.v .bool y0)] K) x0):=by
 kernel_rfl
def g73_2b (k0:Bool→Option R) (x0:Int):Option R:=
(g73_2 k0 x0)
theorem t73_2b (x0):exec cl N c73_2 [(0,.v U0 x0)] K=(g73_2b (fun y0=>K .ret [(2,.v .bool y0)]) x0):=by
 simp only [xS,sN,sE,sR,t73_2,exec_ret]
 rfl
theorem rk73_0 (y0):retK d73 .ret [(2,.v .bool y0)]=some [.v .bool y0]:=by kernel_rfl
def g73 (x0:Int) (k:Bool→Option R):Option R:=
(g73_2b k x0)
theorem gen73 (x0) (k:List E→Option R):exec cl N c73 [(0,.v U0 x0)] (fun e env=>(retK d73 e env).bind k)=g73 x0 (fun r0=>k [.v .bool r0]):=by
 simp only [c73,t73_2b,rk73_0,Option.bind_some]
 rfl
def ctr73 (S:Int→Option (Bool)):Ctr:=cv1 73 U0 S fun b=> [.v .bool b]
def S73 (N:Nat) (x0:Int):Option (Bool):=g73 x0 (fun (r0:Bool)=>some (r0))
def g74_2 (k0:Bool→Option R) (x0:Int):Option R:=
brB (decide (x0≥(48:Int))) (k0 (decide (x0≤(57:Int)))) (k0 false)
theorem t74_2 (x0):exec cl N c74_2 [(0,.v U0 x0)] K=(g74_2 (fun y0=>exec cl N .ret [(2,.v .bool y0)] K) x0):=by
 kernel_rfl
def g74_2b (k0:Bool→Option R) (x0:Int):Option R:=
(g74_2 k0 x0)
theorem t74_2b (x0):exec cl N c74_2 [(0,.v U0 x0)] K=(g74_2b (fun y0=>K .ret [(2,.v .bool y0)]) x0):=by
 simp only [xS,sN,sE,sR,t74_2,exec_ret]
 rfl
theorem rk74_0 (y0):retK d74 .ret [(2,.v .bool y0)]=some [.v .bool y0]:=by kernel_rfl
def g74 (x0:Int) (k:Bool→Option R):Option R:=
(g74_2b k x0)
theorem gen74 (x0) (k:List E→Option R):exec cl N c74 [(0,.v U0 x0)] (fun e env=>(retK d74 e env).bind k)=g74 x0 (fun r0=>k [.v .bool r0]):=by
 simp only [c74,t74_2b,rk74_0,Option.bind_some]
 rfl
def ctr74 (S:Int→Option (Bool)):Ctr:=cv1 74 U0 S fun b=> [.v .bool b]
def S74 (N:Nat) (x0:Int):Option (Bool):=g74 x0 (fun (r0:Bool)=>some (r0))
def g58_0 (k0:V1→Option R) (x0:V1):Option R:=
k0 x0
theorem t58_0 (x0):exec cl N c58_0 [(0,.v .str x0)] K=(g58_0 (fun y0=>K .normal [(0,.v .str y0)]) x0):=by
 kernel_rfl
def g58_1 (S73:Int→Option (Bool)) (k0:V1→Bool→Option R) (x0:V1):Option R:=
brB (x0==([]:List UInt8)) (k0 x0 true) (if 0≤(0:Int)∧(0:Int) < (x0.length:Int) then
(S73 ((x0.getD (0:Int).toNat 0).toNat:Int)).bind fun r582=>
k0 x0 (!r582)
else none)
theorem t58_1 (S73) (h73:(ctr73 S73).holds cl) (x0):exec cl N c58_1 [(0,.v .str x0)] K=(g58_1 S73 (fun y0 y1=>K .normal (e162 y0 y1)) x0):=by
 rw [←put_eq h73]
 kernel_rfl
def g58_2 (k0:Int→Option R) (x0:V1) (x1:Bool):Option R:=
k0 (0:Int)
theorem t58_2 (x0 x1):exec cl N c58_2 (e162 x0 x1) K=(g58_2 (fun y0=>K .normal [(2,.v U2 y0)]) x0 x1):=by
 kernel_rfl
theorem kp58_0 (x0):keep [0,2] [(2,.v U2 x0)]=(e1 x0):=by kernel_rfl
theorem kp58_1 (x0 x1):keep [0,2] (e162 x0 x1)=(e2 x0):=by kernel_rfl
theorem hb58_0 (x0 x1):boolOf? (ent (e162 x0 x1) (.t 11))=some x1:=by kernel_rfl
def g58_4 (k0:V1→Int→Option R) (x0:V1):Option R:=
k0 x0 (1:Int)
theorem t58_4 (x0):exec cl N c58_4 (e2 x0) K=(g58_4 (fun y0 y1=>K .normal (e3 y0 y1)) x0):=by
 kernel_rfl
theorem kp58_2 (x0 x1):keep [0,3] (e3 x0 x1)=(e3 x0 x1):=by kernel_rfl
def g58_5 (k0:V1→Int→Bool→Option R) (x0:V1) (x1:Int):Option R:=
k0 x0 x1 (decide (x1 < (x0.length:Int)))
theorem t58_5 (x0 x1):exec cl N c58_5 (e3 x0 x1) K=(g58_5 (fun y0 y1 y2=>K .normal (e163 y0 y1 y2)) x0 x1):=by
 kernel_rfl
theorem kp58_3 (x0 x1 x2):keep [0,3] (e163 x0 x1 x2)=(e3 x0 x1):=by kernel_rfl
theorem hb58_1 (x0 x1 x2):boolOf? (ent (e163 x0 x1 x2) (.t 15))=some x2:=by kernel_rfl
def g58_7 (S73:Int→Option (Bool)) (S74:Int→Option (Bool)) (k0:V1→Int→Bool→Option R) (x0:V1) (x1:Int):Option R:=
if 0≤x1∧x1 < (x0.length:Int) then
(S73 ((x0.getD x1.toNat 0).toNat:Int)).bind fun r585=>
brB r585 (k0 x0 x1 true) (if 0≤x1∧x1 < (x0.length:Int) then
(S74 ((x0.getD x1.toNat 0).toNat:Int)).bind fun r587=>
k0 x0 x1 r587
else none)
else none
theorem t58_7 (S73) (S74) (h73:(ctr73 S73).holds cl) (h74:(ctr74 S74).holds cl) (x0 x1):exec cl N c58_7 (e3 x0 x1) K=(g58_7 S73 S74 (fun y0 y1 y2=>K .normal (e164 y0 y1 y2)) x0 x1):=by
 rw [←put_eq h73]
 rw [←put_eq h74]
 kernel_rfl
def g58_8 (k0:V1→Int→Option R) (x0:V1) (x1:Int) (x2:Bool):Option R:=
k0 x0 (IntKind.i64.wrap (x1+(1:Int)))
theorem t58_8 (x0 x1 x2):exec cl N c58_8 (e164 x0 x1 x2) K=(g58_8 (fun y0 y1=>K .normal (e3 y0 y1)) x0 x1 x2):=by
 kernel_rfl
theorem kp58_4 (x0 x1 x2):keep [0,3] (e164 x0 x1 x2)=(e3 x0 x1):=by kernel_rfl
theorem hb58_2 (x0 x1 x2):boolOf? (ent (e164 x0 x1 x2) (.t 25))=some x2:=by kernel_rfl
def g58_10 (S73:Int→Option (Bool)) (S74:Int→Option (Bool)) (k0:V1→Int→Bool→Option R) (x0:V1) (x1:Int):Option R:=
if 0≤x1∧x1 < (x0.length:Int) then
brB (((x0.getD x1.toNat 0).toNat:Int) != (45:Int)) (k0 x0 x1 true) (brB ((IntKind.i64.wrap (x1+(1:Int)))==(x0.length:Int)) (k0 x0 x1 true) (let v593:Int:=(IntKind.i64.wrap (x1+(1:Int)))
if 0≤v593∧v593 < (x0.length:Int) then
(S73 ((x0.getD v593.toNat 0).toNat:Int)).bind fun r595=>
brB (!r595) (let v596:Int:=(IntKind.i64.wrap (x1+(1:Int)))
if 0≤v596∧v596 < (x0.length:Int) then
(S74 ((x0.getD v596.toNat 0).toNat:Int)).bind fun r598=>
k0 x0 x1 (!r598)
else none) (k0 x0 x1 false)
else none))
else none
theorem t58_10 (S73) (S74) (h73:(ctr73 S73).holds cl) (h74:(ctr74 S74).holds cl) (x0 x1):exec cl N c58_10 (e3 x0 x1) K=(g58_10 S73 S74 (fun y0 y1 y2=>K .normal (e165 y0 y1 y2)) x0 x1):=by
 rw [←put_eq h73]
 rw [←put_eq h74]
 kernel_rfl
theorem kp58_5 (x0 x1 x2):keep [0,3] (e165 x0 x1 x2)=(e3 x0 x1):=by kernel_rfl
theorem hb58_3 (x0 x1 x2):boolOf? (ent (e165 x0 x1 x2) (.t 54))=some x2:=by kernel_rfl
def g58_12 (k0:V1→Int→Option R) (x0:V1) (x1:Int):Option R:=
k0 x0 (IntKind.i64.wrap (x1+(2:Int)))
theorem t58_12 (x0 x1):exec cl N c58_12 (e3 x0 x1) K=(g58_12 (fun y0 y1=>K .normal (e3 y0 y1)) x0 x1):=by
 kernel_rfl
def g58_14 (S73:Int→Option (Bool)) (S74:Int→Option (Bool)) (k0:V1→Int→Option R) (k1:V1→Int→Option R) (x0:V1) (x1:Int):Option R:=
(g58_5 (fun y0 y1 y2=>brB y2 ((g58_7 S73 S74 (fun y0 y1 y2=>brB y2 (g58_8 k0 y0 y1 y2) ((g58_10 S73 S74 (fun y0 y1 y2=>brB y2 (k1 y0 y1) ((g58_12 k0) y0 y1))) y0 y1))) y0 y1) (k1 y0 y1)) x0 x1)
theorem t58_14 (S73) (S74) (h73:(ctr73 S73).holds cl) (h74:(ctr74 S74).holds cl) (x0 x1):exec cl N c58_14 (e3 x0 x1) K=(g58_14 S73 S74 (fun y0 y1=>K .normal (e3 y0 y1)) (fun y0 y1=>K (.exit 0) (e3 y0 y1)) x0 x1):=by
 simp only [c58_14,xS,sN,sE,sR,t58_5,c58_6,exec_out,exec_cond',hb58_1,Option.bind_some,bT,bF,exec_skip,exec_exit,kp58_3,c58_13,xB,t58_7 S73 S74 h73 h74,c58_9,hb58_2,t58_8,kp58_2,kp58_4,t58_10 S73 S74 h73 h74,c58_11,hb58_3,kp58_5,t58_12,blockK_normal,blockK_ret,blockK_eq,blockK_ne 1 0 rfl]
 rfl
def l58_15 {R:Type} (S73:Int→Option (Bool)) (S74:Int→Option (Bool)) (k0:V1→Int→Option R):Nat→V1→Int→Option R
 | 0,_,_=>none
 | m+1,x0,x1=>(g58_14 S73 S74 (l58_15 S73 S74 k0 m) k0 x0 x1)
theorem lt58_15 (S73) (S74) (h73:(ctr73 S73).holds cl) (h74:(ctr74 S74).holds cl):∀ (m) (x0 x1),iter [0,3] (fun env K=>exec cl N c58_14 env K) K m (e3 x0 x1)=l58_15 S73 S74 (fun y0 y1=>K (.exit 0) (e3 y0 y1)) m x0 x1:=by
 intro m
 induction m with
 | zero=>intros; rfl
 | succ m ih=>
   intro x0 x1
   simp only [iter_succ,t58_14 S73 S74 h73 h74,loopK_normal,loopK_exit,loopK_ret,kp58_2,ih]
   rfl
theorem kp58_6 (x0 x1):keep [3] (e3 x0 x1)=[(3,.v U2 x1)]:=by kernel_rfl
def g58_15 (N:Nat) (S73:Int→Option (Bool)) (S74:Int→Option (Bool)) (k0:Int→Option R) (x0:V1) (x1:Int):Option R:=
l58_15 S73 S74 (fun y0 y1=>k0 y1) N x0 x1
theorem t58_15 (S73) (S74) (h73:(ctr73 S73).holds cl) (h74:(ctr74 S74).holds cl) (x0 x1):exec cl N c58_15 (e3 x0 x1) K=(g58_15 N S73 S74 (fun y0=>K (.exit 0) [(3,.v U2 y0)]) x0 x1):=by
 simp only [c58_15,exec_out,exec_loop,kp58_2,lt58_15 S73 S74 h73 h74,kp58_6]
 rfl
theorem kp58_7 (x0):keep [3] [(3,.v U2 x0)]=[(3,.v U2 x0)]:=by kernel_rfl
def g58_17 (k0:Int→Option R) (x0:Int):Option R:=
k0 x0
theorem t58_17 (x0):exec cl N c58_17 [(3,.v U2 x0)] K=(g58_17 (fun y0=>K .normal [(2,.v U2 y0)]) x0):=by
 kernel_rfl
def g58_18 (N:Nat) (S73:Int→Option (Bool)) (S74:Int→Option (Bool)) (k0:Int→Option R) (k1:Int→Option R) (x0:V1):Option R:=
(g58_0 (g58_1 S73 (fun y0 y1=>brB y1 (g58_2 k0 y0 y1) ((g58_4 (g58_15 N S73 S74 ((g58_17 k1)))) y0))) x0)
theorem t58_18 (S73) (S74) (h73:(ctr73 S73).holds cl) (h74:(ctr74 S74).holds cl) (x0):exec cl N c58_18 [(0,.v .str x0)] K=(g58_18 N S73 S74 (fun y0=>K .ret (e1 y0)) (fun y0=>K .ret [(2,.v U2 y0)]) x0):=by
 simp only [c58_18,xS,sN,sE,sR,t58_0,t58_1 S73 h73,c58_3,exec_out,exec_cond',hb58_0,Option.bind_some,bT,bF,t58_2,exec_ret,exec_skip,kp58_0,kp58_1,t58_4,c58_16,xB,t58_15 S73 S74 h73 h74,blockK_normal,blockK_ret,blockK_eq,kp58_7,t58_17]
 rfl
theorem rk58_0 (y0):retK d58 .ret (e1 y0)=some [.v U2 y0]:=by kernel_rfl
theorem rk58_1 (y0):retK d58 .ret [(2,.v U2 y0)]=some [.v U2 y0]:=by kernel_rfl
def g58 (N:Nat) (S73:Int→Option (Bool)) (S74:Int→Option (Bool)) (x0:V1) (k:Int→Option R):Option R:=
(g58_18 N S73 S74 k k x0)
theorem gen58 (S73) (S74) (h73:(ctr73 S73).holds cl) (h74:(ctr74 S74).holds cl) (x0) (k:List E→Option R):exec cl N c58 [(0,.v .str x0)] (fun e env=>(retK d58 e env).bind k)=g58 N S73 S74 x0 (fun r0=>k [.v U2 r0]):=by
 simp only [c58,t58_18 S73 S74 h73 h74,rk58_0,rk58_1,Option.bind_some]
 rfl
def ctr58 (S:V1→Option (Int)):Ctr:=cv1 58 .str S fun b=> [.v U2 b]
def S58 (N:Nat) (x0:V1):Option (Int):=g58 N (S73 N) (S74 N) x0 (fun (r0:Int)=>some (r0))
def g66_10 (k0:V1→Int→Option R) (x0:V1):Option R:=
k0 x0 (0:Int)
theorem t66_10 (x0):exec cl N c66_10 [(0,.v .str x0)] K=(g66_10 (fun y0 y1=>exec cl N (.seq c66_8 (.seq c66_9 .ret)) (e3 y0 y1) K) x0):=by
 kernel_rfl
theorem kp66_0 (x0 x1):keep [0,3] (e3 x0 x1)=(e3 x0 x1):=by kernel_rfl
def g66_2 (S74:Int→Option (Bool)) (k0:V1→Int→Bool→Option R) (x0:V1) (x1:Int):Option R:=
brB (decide (x1 < (x0.length:Int))) (if 0≤x1∧x1 < (x0.length:Int) then
(S74 ((x0.getD x1.toNat 0).toNat:Int)).bind fun r613=>
k0 x0 x1 r613
else none) (k0 x0 x1 false)
theorem t66_2 (S74) (h74:(ctr74 S74).holds cl) (x0 x1):exec cl N c66_2 (e3 x0 x1) K=(g66_2 S74 (fun y0 y1 y2=>K .normal (e11 y0 y1 y2)) x0 x1):=by
 rw [←put_eq h74]
 kernel_rfl
theorem kp66_1 (x0 x1 x2):keep [0,3] (e11 x0 x1 x2)=(e3 x0 x1):=by kernel_rfl
theorem hb66_0 (x0 x1 x2):boolOf? (ent (e11 x0 x1 x2) (.t 13))=some x2:=by kernel_rfl
def g66_4 (k0:V1→Int→Option R) (x0:V1) (x1:Int):Option R:=
k0 x0 (IntKind.i64.wrap (x1+(1:Int)))
theorem t66_4 (x0 x1):exec cl N c66_4 (e3 x0 x1) K=(g66_4 (fun y0 y1=>K .normal (e3 y0 y1)) x0 x1):=by
 kernel_rfl
def g66_6 (S74:Int→Option (Bool)) (k0:V1→Int→Option R) (k1:V1→Int→Option R) (x0:V1) (x1:Int):Option R:=
(g66_2 S74 (fun y0 y1 y2=>brB y2 ((g66_4 k0) y0 y1) (k1 y0 y1)) x0 x1)
theorem t66_6 (S74) (h74:(ctr74 S74).holds cl) (x0 x1):exec cl N c66_6 (e3 x0 x1) K=(g66_6 S74 (fun y0 y1=>K .normal (e3 y0 y1)) (fun y0 y1=>K (.exit 0) (e3 y0 y1)) x0 x1):=by
 simp only [c66_6,xS,sN,sE,sR,t66_2 S74 h74,c66_3,exec_out,exec_cond',hb66_0,Option.bind_some,bT,bF,exec_skip,exec_exit,kp66_1,c66_5,xB,t66_4,blockK_normal,blockK_ret,blockK_eq,kp66_0]
 rfl
def l66_7 {R:Type} (S74:Int→Option (Bool)) (k0:V1→Int→Option R):Nat→V1→Int→Option R
 | 0,_,_=>none
 | m+1,x0,x1=>(g66_6 S74 (l66_7 S74 k0 m) k0 x0 x1)
theorem lt66_7 (S74) (h74:(ctr74 S74).holds cl):∀ (m) (x0 x1),iter [0,3] (fun env K=>exec cl N c66_6 env K) K m (e3 x0 x1)=l66_7 S74 (fun y0 y1=>K (.exit 0) (e3 y0 y1)) m x0 x1:=by
 intro m
 induction m with
 | zero=>intros; rfl
 | succ m ih=>
   intro x0 x1
   simp only [iter_succ,t66_6 S74 h74,loopK_normal,loopK_exit,loopK_ret,kp66_0,ih]
   rfl
theorem kp66_2 (x0 x1):keep [3] (e3 x0 x1)=[(3,.v U2 x1)]:=by kernel_rfl
def g66_7 (N:Nat) (S74:Int→Option (Bool)) (k0:Int→Option R) (x0:V1) (x1:Int):Option R:=
l66_7 S74 (fun y0 y1=>k0 y1) N x0 x1
theorem t66_7 (S74) (h74:(ctr74 S74).holds cl) (x0 x1):exec cl N c66_7 (e3 x0 x1) K=(g66_7 N S74 (fun y0=>K (.exit 0) [(3,.v U2 y0)]) x0 x1):=by
 simp only [c66_7,exec_out,exec_loop,kp66_0,lt66_7 S74 h74,kp66_2]
 rfl
theorem kp66_3 (x0):keep [3] [(3,.v U2 x0)]=[(3,.v U2 x0)]:=by kernel_rfl
def g66_9 (k0:Int→Option R) (x0:Int):Option R:=
k0 x0
theorem t66_9 (x0):exec cl N c66_9 [(3,.v U2 x0)] K=(g66_9 (fun y0=>K .normal [(2,.v U2 y0)]) x0):=by
 kernel_rfl
def g66_10b (N:Nat) (S74:Int→Option (Bool)) (k0:Int→Option R) (x0:V1):Option R:=
(g66_10 (g66_7 N S74 ((g66_9 k0))) x0)
theorem t66_10b (S74) (h74:(ctr74 S74).holds cl) (x0):exec cl N c66_10 [(0,.v .str x0)] K=(g66_10b N S74 (fun y0=>K .ret [(2,.v U2 y0)]) x0):=by
 simp only [xS,sN,sE,sR,t66_10,c66_8,exec_out,xB,t66_7 S74 h74,blockK_normal,blockK_ret,blockK_eq,kp66_3,t66_9,exec_ret]
 rfl
theorem rk66_0 (y0):retK d66 .ret [(2,.v U2 y0)]=some [.v U2 y0]:=by kernel_rfl
def g66 (N:Nat) (S74:Int→Option (Bool)) (x0:V1) (k:Int→Option R):Option R:=
(g66_10b N S74 k x0)
theorem gen66 (S74) (h74:(ctr74 S74).holds cl) (x0) (k:List E→Option R):exec cl N c66 [(0,.v .str x0)] (fun e env=>(retK d66 e env).bind k)=g66 N S74 x0 (fun r0=>k [.v U2 r0]):=by
 simp only [c66,t66_10b S74 h74,rk66_0,Option.bind_some]
 rfl
def ctr66 (S:V1→Option (Int)):Ctr:=cv1 66 .str S fun b=> [.v U2 b]
def S66 (N:Nat) (x0:V1):Option (Int):=g66 N (S74 N) x0 (fun (r0:Int)=>some (r0))
def g79_2 (k0:Bool→Option R) (x0:Int):Option R:=
brB (decide (x0≥(32:Int))) (brB (decide (x0≤(126:Int))) (k0 (x0 != (34:Int))) (k0 false)) (k0 false)
theorem t79_2 (x0):exec cl N c79_2 [(0,.v U0 x0)] K=(g79_2 (fun y0=>exec cl N .ret [(2,.v .bool y0)] K) x0):=by
 kernel_rfl
def g79_2b (k0:Bool→Option R) (x0:Int):Option R:=
(g79_2 k0 x0)
theorem t79_2b (x0):exec cl N c79_2 [(0,.v U0 x0)] K=(g79_2b (fun y0=>K .ret [(2,.v .bool y0)]) x0):=by
 simp only [xS,sN,sE,sR,t79_2,exec_ret]
 rfl
theorem rk79_0 (y0):retK d79 .ret [(2,.v .bool y0)]=some [.v .bool y0]:=by kernel_rfl
def g79 (x0:Int) (k:Bool→Option R):Option R:=
(g79_2b k x0)
theorem gen79 (x0) (k:List E→Option R):exec cl N c79 [(0,.v U0 x0)] (fun e env=>(retK d79 e env).bind k)=g79 x0 (fun r0=>k [.v .bool r0]):=by
 simp only [c79,t79_2b,rk79_0,Option.bind_some]
 rfl
def ctr79 (S:Int→Option (Bool)):Ctr:=cv1 79 U0 S fun b=> [.v .bool b]
def S79 (N:Nat) (x0:Int):Option (Bool):=g79 x0 (fun (r0:Bool)=>some (r0))
def g67_16 (k0:V1→V14→Int→Option R) (x0:V1):Option R:=
k0 x0 ((0:Int),([],((0:Int),()))) (1:Int)
theorem t67_16 (x0):exec cl N c67_16 [(0,.v .str x0)] K=(g67_16 (fun y0 y1 y2=>exec cl N (.seq c67_8 (.seq (.seq c67_9 c67_11) (.seq (.seq c67_12 c67_14) (.seq c67_15 .ret)))) (e166 y0 y1 y2) K) x0):=by
 kernel_rfl
theorem kp67_0 (x0 x1 x2):keep [0,2,5] (e166 x0 x1 x2)=(e166 x0 x1 x2):=by kernel_rfl
def g67_2 (S79:Int→Option (Bool)) (k0:V1→V14→Int→Bool→Option R) (x0:V1) (x1:V14) (x2:Int):Option R:=
brB (decide (x2 < (x0.length:Int))) (if 0≤x2∧x2 < (x0.length:Int) then
(S79 ((x0.getD x2.toNat 0).toNat:Int)).bind fun r650=>
k0 x0 x1 x2 r650
else none) (k0 x0 x1 x2 false)
theorem t67_2 (S79) (h79:(ctr79 S79).holds cl) (x0 x1 x2):exec cl N c67_2 (e166 x0 x1 x2) K=(g67_2 S79 (fun y0 y1 y2 y3=>K .normal (e167 y0 y1 y2 y3)) x0 x1 x2):=by
 rw [←put_eq h79]
 kernel_rfl
theorem kp67_1 (x0 x1 x2 x3):keep [0,2,5] (e167 x0 x1 x2 x3)=(e166 x0 x1 x2):=by kernel_rfl
theorem hb67_0 (x0 x1 x2 x3):boolOf? (ent (e167 x0 x1 x2 x3) (.t 15))=some x3:=by kernel_rfl
def g67_4 (k0:V1→V14→Int→Option R) (x0:V1) (x1:V14) (x2:Int):Option R:=
k0 x0 x1 (IntKind.i64.wrap (x2+(1:Int)))
theorem t67_4 (x0 x1 x2):exec cl N c67_4 (e166 x0 x1 x2) K=(g67_4 (fun y0 y1 y2=>K .normal (e166 y0 y1 y2)) x0 x1 x2):=by
 kernel_rfl
def g67_6 (S79:Int→Option (Bool)) (k0:V1→V14→Int→Option R) (k1:V1→V14→Int→Option R) (x0:V1) (x1:V14) (x2:Int):Option R:=
(g67_2 S79 (fun y0 y1 y2 y3=>brB y3 ((g67_4 k0) y0 y1 y2) (k1 y0 y1 y2)) x0 x1 x2)
theorem t67_6 (S79) (h79:(ctr79 S79).holds cl) (x0 x1 x2):exec cl N c67_6 (e166 x0 x1 x2) K=(g67_6 S79 (fun y0 y1 y2=>K .normal (e166 y0 y1 y2)) (fun y0 y1 y2=>K (.exit 0) (e166 y0 y1 y2)) x0 x1 x2):=by
 simp only [c67_6,xS,sN,sE,sR,t67_2 S79 h79,c67_3,exec_out,exec_cond',hb67_0,Option.bind_some,bT,bF,exec_skip,exec_exit,kp67_1,c67_5,xB,t67_4,blockK_normal,blockK_ret,blockK_eq,kp67_0]
 rfl
def l67_7 {R:Type} (S79:Int→Option (Bool)) (k0:V1→V14→Int→Option R):Nat→V1→V14→Int→Option R
 | 0,_,_,_=>none
 | m+1,x0,x1,x2=>(g67_6 S79 (l67_7 S79 k0 m) k0 x0 x1 x2)
theorem lt67_7 (S79) (h79:(ctr79 S79).holds cl):∀ (m) (x0 x1 x2),iter [0,2,5] (fun env K=>exec cl N c67_6 env K) K m (e166 x0 x1 x2)=l67_7 S79 (fun y0 y1 y2=>K (.exit 0) (e166 y0 y1 y2)) m x0 x1 x2:=by
 intro m
 induction m with
 | zero=>intros; rfl
 | succ m ih=>
   intro x0 x1 x2
   simp only [iter_succ,t67_6 S79 h79,loopK_normal,loopK_exit,loopK_ret,kp67_0,ih]
   rfl
def g67_7 (N:Nat) (S79:Int→Option (Bool)) (k0:V1→V14→Int→Option R) (x0:V1) (x1:V14) (x2:Int):Option R:=
l67_7 S79 k0 N x0 x1 x2
theorem t67_7 (S79) (h79:(ctr79 S79).holds cl) (x0 x1 x2):exec cl N c67_7 (e166 x0 x1 x2) K=(g67_7 N S79 (fun y0 y1 y2=>K (.exit 0) (e166 y0 y1 y2)) x0 x1 x2):=by
 simp only [c67_7,exec_out,exec_loop,kp67_0,lt67_7 S79 h79,kp67_0]
 rfl
def g67_9 (k0:V1→V14→Int→Bool→Option R) (x0:V1) (x1:V14) (x2:Int):Option R:=
brB (x2==(x0.length:Int)) (k0 x0 x1 x2 true) (if 0≤x2∧x2 < (x0.length:Int) then
k0 x0 x1 x2 (((x0.getD x2.toNat 0).toNat:Int) != (34:Int))
else none)
theorem t67_9 (x0 x1 x2):exec cl N c67_9 (e166 x0 x1 x2) K=(g67_9 (fun y0 y1 y2 y3=>K .normal (e168 y0 y1 y2 y3)) x0 x1 x2):=by
 kernel_rfl
def g67_10 (k0:V14→Int→Int→Option R) (x0:V1) (x1:V14) (x2:Int) (x3:Bool):Option R:=
k0 ((0:Int),[],(0:Int),()) (0:Int) (2:Int)
theorem t67_10 (x0 x1 x2 x3):exec cl N c67_10 (e168 x0 x1 x2 x3) K=(g67_10 (fun y0 y1 y2=>K .normal (e28 y0 y1 y2)) x0 x1 x2 x3):=by
 kernel_rfl
theorem kp67_2 (x0 x1 x2):keep [0,2,3,4,5] (e28 x0 x1 x2)=(e169 x0 x1 x2):=by kernel_rfl
theorem kp67_3 (x0 x1 x2 x3):keep [0,2,3,4,5] (e168 x0 x1 x2 x3)=(e170 x0 x1 x2):=by kernel_rfl
theorem hb67_1 (x0 x1 x2 x3):boolOf? (ent (e168 x0 x1 x2 x3) (.t 27))=some x3:=by kernel_rfl
def g67_12 (k0:V1→V14→Int→Bool→Option R) (x0:V1) (x1:V14) (x2:Int):Option R:=
k0 x0 x1 x2 (decide ((IntKind.i64.wrap (x2 - (1:Int))) > (60:Int)))
theorem t67_12 (x0 x1 x2):exec cl N c67_12 (e170 x0 x1 x2) K=(g67_12 (fun y0 y1 y2 y3=>K .normal (e171 y0 y1 y2 y3)) x0 x1 x2):=by
 kernel_rfl
def g67_13 (k0:V14→Int→Int→Option R) (x0:V1) (x1:V14) (x2:Int) (x3:Bool):Option R:=
k0 ((0:Int),[],(0:Int),()) (0:Int) (3:Int)
theorem t67_13 (x0 x1 x2 x3):exec cl N c67_13 (e171 x0 x1 x2 x3) K=(g67_13 (fun y0 y1 y2=>K .normal (e28 y0 y1 y2)) x0 x1 x2 x3):=by
 kernel_rfl
theorem kp67_4 (x0 x1 x2 x3):keep [0,2,3,4,5] (e171 x0 x1 x2 x3)=(e170 x0 x1 x2):=by kernel_rfl
theorem hb67_2 (x0 x1 x2 x3):boolOf? (ent (e171 x0 x1 x2 x3) (.t 31))=some x3:=by kernel_rfl
def g67_15 (k0:V14→Int→Int→Option R) (x0:V1) (x1:V14) (x2:Int):Option R:=
if 0≤(1:Int)∧(1:Int)≤x2∧x2≤(x0.length:Int) then
k0 ((3:Int),((x0.drop (1:Int).toNat).take (x2.toNat - (1:Int).toNat)),(0:Int),()) (IntKind.i64.wrap (x2+(1:Int))) (0:Int)
else none
theorem t67_15 (x0 x1 x2):exec cl N c67_15 (e170 x0 x1 x2) K=(g67_15 (fun y0 y1 y2=>K .normal (e28 y0 y1 y2)) x0 x1 x2):=by
 kernel_rfl
def g67_16b (N:Nat) (S79:Int→Option (Bool)) (k0:V14→Int→Int→Option R) (k1:V14→Int→Int→Option R) (x0:V1):Option R:=
(g67_16 (g67_7 N S79 ((g67_9 (fun y0 y1 y2 y3=>brB y3 (g67_10 k0 y0 y1 y2 y3) ((g67_12 (fun y0 y1 y2 y3=>brB y3 (g67_13 k0 y0 y1 y2 y3) ((g67_15 k1) y0 y1 y2))) y0 y1 y2))))) x0)
theorem t67_16b (S79) (h79:(ctr79 S79).holds cl) (x0):exec cl N c67_16 [(0,.v .str x0)] K=(g67_16b N S79 (fun y0 y1 y2=>K .ret (e169 y0 y1 y2)) (fun y0 y1 y2=>K .ret (e28 y0 y1 y2)) x0):=by
 simp only [xS,sN,sE,sR,t67_16,c67_8,exec_out,xB,t67_7 S79 h79,blockK_normal,blockK_ret,blockK_eq,kp67_0,t67_9,c67_11,exec_cond',hb67_1,Option.bind_some,bT,bF,t67_10,exec_ret,exec_skip,kp67_2,kp67_3,t67_12,c67_14,hb67_2,t67_13,kp67_4,t67_15]
 rfl
theorem rk67_0 (y0 y1 y2):retK d67 .ret (e169 y0 y1 y2)=some [.v U12 y0,.v U2 y1,.v U2 y2]:=by kernel_rfl
theorem rk67_1 (y0 y1 y2):retK d67 .ret (e28 y0 y1 y2)=some [.v U12 y0,.v U2 y1,.v U2 y2]:=by kernel_rfl
def g67 (N:Nat) (S79:Int→Option (Bool)) (x0:V1) (k:V14→Int→Int→Option R):Option R:=
(g67_16b N S79 k k x0)
theorem gen67 (S79) (h79:(ctr79 S79).holds cl) (x0) (k:List E→Option R):exec cl N c67 [(0,.v .str x0)] (fun e env=>(retK d67 e env).bind k)=g67 N S79 x0 (fun r0 r1 r2=>k [.v U12 r0,.v U2 r1,.v U2 r2]):=by
 simp only [c67,t67_16b S79 h79,rk67_0,rk67_1,Option.bind_some]
 rfl
def ctr67 (S:V1→Option V18):Ctr:=cv1 67 .str S fun b=> [.v U12 b.1,.v U2 b.2.1,.v U2 b.2.2]
def S67 (N:Nat) (x0:V1):Option V18:=g67 N (S79 N) x0 (fun (r0:V14) (r1:Int) (r2:Int)=>some (r0,r1,r2))
def g68_0 (k0:Int→Option R) (x0:Int):Option R:=
k0 x0
theorem t68_0 (x0):exec cl N c68_0 [(0,.v U0 x0)] K=(g68_0 (fun y0=>K .normal [(0,.v U0 y0)]) x0):=by
 kernel_rfl
def g68_1 (k0:Int→Int→Option R) (x0:Int):Option R:=
k0 x0 (0:Int)
theorem t68_1 (x0):exec cl N c68_1 [(0,.v U0 x0)] K=(g68_1 (fun y0 y1=>K .normal (e172 y0 y1)) x0):=by
 kernel_rfl
theorem kp68_0 (x0 x1):keep [0,3] (e172 x0 x1)=(e172 x0 x1):=by kernel_rfl
def g68_2 (k0:Int→Int→Bool→Option R) (x0 x1:Int):Option R:=
k0 x0 x1 (decide (x1 < (21:Int)))
theorem t68_2 (x0 x1):exec cl N c68_2 (e172 x0 x1) K=(g68_2 (fun y0 y1 y2=>K .normal (e173 y0 y1 y2)) x0 x1):=by
 kernel_rfl
theorem kp68_1 (x0 x1 x2):keep [0,3] (e173 x0 x1 x2)=(e172 x0 x1):=by kernel_rfl
theorem hb68_0 (x0 x1 x2):boolOf? (ent (e173 x0 x1 x2) (.t 5))=some x2:=by kernel_rfl
def g68_4 (k0:Int→Int→Bool→Option R) (x0 x1:Int):Option R:=
if 0≤x1∧x1 < (([123,125,40,41,91,93,47,59,58,126,64,61,94,44,46,124,43,42,60,62,45]:List UInt8).length:Int) then
k0 x0 x1 (((([123,125,40,41,91,93,47,59,58,126,64,61,94,44,46,124,43,42,60,62,45]:List UInt8).getD x1.toNat 0).toNat:Int)==x0)
else none
theorem t68_4 (x0 x1):exec cl N c68_4 (e172 x0 x1) K=(g68_4 (fun y0 y1 y2=>K .normal (e174 y0 y1 y2)) x0 x1):=by
 kernel_rfl
def g68_5 (k0:Bool→Option R) (x0 x1:Int) (x2:Bool):Option R:=
k0 true
theorem t68_5 (x0 x1 x2):exec cl N c68_5 (e174 x0 x1 x2) K=(g68_5 (fun y0=>K .normal [(2,.v .bool y0)]) x0 x1 x2):=by
 kernel_rfl
theorem kp68_2 (x0):keep [0,2,3] [(2,.v .bool x0)]=(e175 x0):=by kernel_rfl
theorem kp68_3 (x0 x1 x2):keep [0,2,3] (e174 x0 x1 x2)=(e176 x0 x1):=by kernel_rfl
theorem hb68_1 (x0 x1 x2):boolOf? (ent (e174 x0 x1 x2) (.t 11))=some x2:=by kernel_rfl
theorem kp68_4 (x0):keep [0,2,3] (e175 x0)=(e175 x0):=by kernel_rfl
theorem kp68_5 (x0 x1):keep [0,2,3] (e176 x0 x1)=(e176 x0 x1):=by kernel_rfl
def g68_8 (k0:Int→Int→Option R) (x0 x1:Int):Option R:=
k0 x0 (IntKind.i64.wrap (x1+(1:Int)))
theorem t68_8 (x0 x1):exec cl N c68_8 (e176 x0 x1) K=(g68_8 (fun y0 y1=>K .normal (e172 y0 y1)) x0 x1):=by
 kernel_rfl
def g68_9 (k0:Bool→Option R) (k1:Int→Int→Option R) (k2:Int→Int→Option R) (x0 x1:Int):Option R:=
(g68_2 (fun y0 y1 y2=>brB y2 ((g68_4 (fun y0 y1 y2=>brB y2 (g68_5 k0 y0 y1 y2) (((g68_8 k1)) y0 y1))) y0 y1) (k2 y0 y1)) x0 x1)
theorem t68_9 (x0 x1):exec cl N c68_9 (e172 x0 x1) K=(g68_9 (fun y0=>K .ret (e175 y0)) (fun y0 y1=>K .normal (e172 y0 y1)) (fun y0 y1=>K (.exit 0) (e172 y0 y1)) x0 x1):=by
 simp only [c68_9,xS,sN,sE,sR,t68_2,c68_3,exec_out,exec_cond',hb68_0,Option.bind_some,bT,bF,exec_skip,exec_exit,kp68_1,c68_7,xB,t68_4,c68_6,hb68_1,t68_5,exec_ret,kp68_2,kp68_3,blockK_normal,blockK_ret,blockK_eq,kp68_4,kp68_5,t68_8]
 rfl
def l68_10 {R:Type} (k0:Bool→Option R) (k1:Int→Int→Option R):Nat→Int→Int→Option R
 | 0,_,_=>none
 | m+1,x0,x1=>(g68_9 k0 (l68_10 k0 k1 m) k1 x0 x1)
theorem lt68_10:∀ (m) (x0 x1),iter [0,3] (fun env K=>exec cl N c68_9 env K) K m (e172 x0 x1)=l68_10 (fun y0=>K .ret (e175 y0)) (fun y0 y1=>K (.exit 0) (e172 y0 y1)) m x0 x1:=by
 intro m
 induction m with
 | zero=>intros; rfl
 | succ m ih=>
   intro x0 x1
   simp only [iter_succ,t68_9,loopK_normal,loopK_exit,loopK_ret,kp68_0,ih]
   rfl
theorem kp68_6 (x0):keep [2] (e175 x0)=[(2,.v .bool x0)]:=by kernel_rfl
theorem kp68_7 (x0 x1):keep [2] (e172 x0 x1)=[(2,.dead)]:=by kernel_rfl
def g68_10 (N:Nat) (k0:Bool→Option R) (k1:Option R) (x0 x1:Int):Option R:=
l68_10 k0 (fun y0 y1=>k1) N x0 x1
theorem t68_10 (x0 x1):exec cl N c68_10 (e172 x0 x1) K=(g68_10 N (fun y0=>K .ret [(2,.v .bool y0)]) (K (.exit 0) [(2,.dead)]) x0 x1):=by
 simp only [c68_10,exec_out,exec_loop,kp68_0,lt68_10,kp68_6,kp68_7]
 rfl
theorem kp68_8 (x0):keep [2] [(2,.v .bool x0)]=[(2,.v .bool x0)]:=by kernel_rfl
theorem kp68_9:keep [2] [(2,.dead)]=[(2,.dead)]:=by kernel_rfl
def g68_12 (k0:Bool→Option R):Option R:=
k0 false
theorem t68_12:exec cl N c68_12 [(2,.dead)] K=(g68_12 (fun y0=>K .normal [(2,.v .bool y0)])):=by
 kernel_rfl
def g68_13 (N:Nat) (k0:Bool→Option R) (x0:Int):Option R:=
(g68_0 (g68_1 (g68_10 N k0 (g68_12 k0))) x0)
theorem t68_13 (x0):exec cl N c68_13 [(0,.v U0 x0)] K=(g68_13 N (fun y0=>K .ret [(2,.v .bool y0)]) x0):=by
 simp only [c68_13,xS,sN,sE,sR,t68_0,t68_1,c68_11,exec_out,xB,t68_10,blockK_normal,blockK_ret,blockK_eq,kp68_8,kp68_9,t68_12,exec_ret]
 rfl
theorem rk68_0 (y0):retK d68 .ret [(2,.v .bool y0)]=some [.v .bool y0]:=by kernel_rfl
def g68 (N:Nat) (x0:Int) (k:Bool→Option R):Option R:=
(g68_13 N k x0)
theorem gen68 (x0) (k:List E→Option R):exec cl N c68 [(0,.v U0 x0)] (fun e env=>(retK d68 e env).bind k)=g68 N x0 (fun r0=>k [.v .bool r0]):=by
 simp only [c68,t68_13,rk68_0,Option.bind_some]
 rfl
def ctr68 (S:Int→Option (Bool)):Ctr:=cv1 68 U0 S fun b=> [.v .bool b]
def S68 (N:Nat) (x0:Int):Option (Bool):=g68 N x0 (fun (r0:Bool)=>some (r0))
def g49_0 (k0:V1→V14→Option R) (x0:V1):Option R:=
k0 x0 ((0:Int),([],((0:Int),())))
theorem t49_0 (x0):exec cl N c49_0 [(0,.v .str x0)] K=(g49_0 (fun y0 y1=>K .normal (e25 y0 y1)) x0):=by
 kernel_rfl
def g49_8 (S58:V1→Option (Int)) (k0:V1→V14→Int→Bool→Option R) (x0:V1) (x1:V14):Option R:=
(S58 x0).bind fun r675=>
k0 x0 x1 r675 (decide (r675 > (0:Int)))
theorem t49_8 (S58) (h58:(ctr58 S58).holds cl) (x0 x1):exec cl N c49_8 (e25 x0 x1) K=(g49_8 S58 (fun y0 y1 y2 y3=>exec cl N c49_7 (e177 y0 y1 y2 y3) K) x0 x1):=by
 rw [←put_eq h58]
 kernel_rfl
def g49_3 (k0:V1→V14→Int→Bool→Option R) (x0:V1) (x1:V14) (x2:Int) (x3:Bool):Option R:=
k0 x0 x1 x2 (decide (x2 > (20:Int)))
theorem t49_3 (x0 x1 x2 x3):exec cl N c49_3 (e177 x0 x1 x2 x3) K=(g49_3 (fun y0 y1 y2 y3=>K .normal (e178 y0 y1 y2 y3)) x0 x1 x2 x3):=by
 kernel_rfl
def g49_4 (k0:V14→Int→Int→Option R) (x0:V1) (x1:V14) (x2:Int) (x3:Bool):Option R:=
k0 ((0:Int),[],(0:Int),()) (0:Int) (3:Int)
theorem t49_4 (x0 x1 x2 x3):exec cl N c49_4 (e178 x0 x1 x2 x3) K=(g49_4 (fun y0 y1 y2=>K .normal (e28 y0 y1 y2)) x0 x1 x2 x3):=by
 kernel_rfl
theorem kp49_0 (x0 x1 x2):keep [0,2,3,4,5] (e28 x0 x1 x2)=(e169 x0 x1 x2):=by kernel_rfl
theorem kp49_1 (x0 x1 x2 x3):keep [0,2,3,4,5] (e178 x0 x1 x2 x3)=(e170 x0 x1 x2):=by kernel_rfl
theorem hb49_0 (x0 x1 x2 x3):boolOf? (ent (e178 x0 x1 x2 x3) (.t 12))=some x3:=by kernel_rfl
def g49_6 (k0:V14→Int→Int→Option R) (x0:V1) (x1:V14) (x2:Int):Option R:=
if 0≤(0:Int)∧(0:Int)≤x2∧x2≤(x0.length:Int) then
k0 ((1:Int),((x0.drop (0:Int).toNat).take (x2.toNat - (0:Int).toNat)),(0:Int),()) x2 (0:Int)
else none
theorem t49_6 (x0 x1 x2):exec cl N c49_6 (e170 x0 x1 x2) K=(g49_6 (fun y0 y1 y2=>K .normal (e28 y0 y1 y2)) x0 x1 x2):=by
 kernel_rfl
theorem kp49_2 (x0 x1 x2):keep [0,2,3,4] (e169 x0 x1 x2)=(e179 x0 x1 x2):=by kernel_rfl
theorem kp49_3 (x0 x1 x2):keep [0,2,3,4] (e28 x0 x1 x2)=(e179 x0 x1 x2):=by kernel_rfl
theorem kp49_4 (x0 x1 x2 x3):keep [0,2,3,4] (e177 x0 x1 x2 x3)=(e180 x0 x1):=by kernel_rfl
theorem hb49_1 (x0 x1 x2 x3):boolOf? (ent (e177 x0 x1 x2 x3) (.t 10))=some x3:=by kernel_rfl
def g49_19 (S66:V1→Option (Int)) (k0:V1→V14→Int→Bool→Option R) (x0:V1) (x1:V14):Option R:=
(S66 x0).bind fun r682=>
k0 x0 x1 r682 (decide (r682 > (0:Int)))
theorem t49_19 (S66) (h66:(ctr66 S66).holds cl) (x0 x1):exec cl N c49_19 (e180 x0 x1) K=(g49_19 S66 (fun y0 y1 y2 y3=>exec cl N c49_18 (e181 y0 y1 y2 y3) K) x0 x1):=by
 rw [←put_eq h66]
 kernel_rfl
def g49_11 (k0:V1→V14→Int→Bool→Option R) (x0:V1) (x1:V14) (x2:Int) (x3:Bool):Option R:=
k0 x0 x1 x2 (decide (x2 > (6:Int)))
theorem t49_11 (x0 x1 x2 x3):exec cl N c49_11 (e181 x0 x1 x2 x3) K=(g49_11 (fun y0 y1 y2 y3=>K .normal (e182 y0 y1 y2 y3)) x0 x1 x2 x3):=by
 kernel_rfl
def g49_12 (k0:V14→Int→Int→Option R) (x0:V1) (x1:V14) (x2:Int) (x3:Bool):Option R:=
k0 ((0:Int),[],(0:Int),()) (0:Int) (3:Int)
theorem t49_12 (x0 x1 x2 x3):exec cl N c49_12 (e182 x0 x1 x2 x3) K=(g49_12 (fun y0 y1 y2=>K .normal (e28 y0 y1 y2)) x0 x1 x2 x3):=by
 kernel_rfl
theorem kp49_5 (x0 x1 x2):keep [0,2,3,4,6] (e28 x0 x1 x2)=(e29 x0 x1 x2):=by kernel_rfl
theorem kp49_6 (x0 x1 x2 x3):keep [0,2,3,4,6] (e182 x0 x1 x2 x3)=(e30 x0 x1 x2):=by kernel_rfl
theorem hb49_2 (x0 x1 x2 x3):boolOf? (ent (e182 x0 x1 x2 x3) (.t 24))=some x3:=by kernel_rfl
def g49_14 (k0:V1→V14→Int→Bool→Option R) (x0:V1) (x1:V14) (x2:Int):Option R:=
if 0≤(0:Int)∧(0:Int) < (x0.length:Int) then
brB (((x0.getD (0:Int).toNat 0).toNat:Int)==(48:Int)) (k0 x0 x1 x2 (decide (x2 > (1:Int)))) (k0 x0 x1 x2 false)
else none
theorem t49_14 (x0 x1 x2):exec cl N c49_14 (e30 x0 x1 x2) K=(g49_14 (fun y0 y1 y2 y3=>K .normal (e183 y0 y1 y2 y3)) x0 x1 x2):=by
 kernel_rfl
def g49_15 (k0:V14→Int→Int→Option R) (x0:V1) (x1:V14) (x2:Int) (x3:Bool):Option R:=
k0 ((0:Int),[],(0:Int),()) (0:Int) (2:Int)
theorem t49_15 (x0 x1 x2 x3):exec cl N c49_15 (e183 x0 x1 x2 x3) K=(g49_15 (fun y0 y1 y2=>K .normal (e28 y0 y1 y2)) x0 x1 x2 x3):=by
 kernel_rfl
theorem kp49_7 (x0 x1 x2 x3):keep [0,2,3,4,6] (e183 x0 x1 x2 x3)=(e30 x0 x1 x2):=by kernel_rfl
theorem hb49_3 (x0 x1 x2 x3):boolOf? (ent (e183 x0 x1 x2 x3) (.t 32))=some x3:=by kernel_rfl
def g49_17 (k0:V14→Int→Int→Option R) (x0:V1) (x1:V14) (x2:Int):Option R:=
if 0≤(0:Int)∧(0:Int)≤x2∧x2≤(x0.length:Int) then
k0 ((2:Int),((x0.drop (0:Int).toNat).take (x2.toNat - (0:Int).toNat)),(0:Int),()) x2 (0:Int)
else none
theorem t49_17 (x0 x1 x2):exec cl N c49_17 (e30 x0 x1 x2) K=(g49_17 (fun y0 y1 y2=>K .normal (e28 y0 y1 y2)) x0 x1 x2):=by
 kernel_rfl
theorem kp49_8 (x0 x1 x2):keep [0,2,3,4] (e29 x0 x1 x2)=(e179 x0 x1 x2):=by kernel_rfl
theorem kp49_9 (x0 x1 x2 x3):keep [0,2,3,4] (e181 x0 x1 x2 x3)=(e180 x0 x1):=by kernel_rfl
theorem hb49_4 (x0 x1 x2 x3):boolOf? (ent (e181 x0 x1 x2 x3) (.t 22))=some x3:=by kernel_rfl
def g49_20 (k0:V1→V14→Bool→Option R) (x0:V1) (x1:V14):Option R:=
if 0≤(0:Int)∧(0:Int) < (x0.length:Int) then
k0 x0 x1 (((x0.getD (0:Int).toNat 0).toNat:Int)==(34:Int))
else none
theorem t49_20 (x0 x1):exec cl N c49_20 (e180 x0 x1) K=(g49_20 (fun y0 y1 y2=>K .normal (e184 y0 y1 y2)) x0 x1):=by
 kernel_rfl
def g49_21 (S67:V1→Option V18) (k0:V14→Int→Int→Option R) (x0:V1) (x1:V14) (x2:Bool):Option R:=
(S67 x0).bind fun r694=>
k0 r694.1 r694.2.1 r694.2.2
theorem t49_21 (S67) (h67:(ctr67 S67).holds cl) (x0 x1 x2):exec cl N c49_21 (e184 x0 x1 x2) K=(g49_21 S67 (fun y0 y1 y2=>K .normal (e28 y0 y1 y2)) x0 x1 x2):=by
 rw [←put_eq h67]
 kernel_rfl
theorem kp49_10 (x0 x1 x2):keep [0,2,3,4] (e184 x0 x1 x2)=(e180 x0 x1):=by kernel_rfl
theorem hb49_5 (x0 x1 x2):boolOf? (ent (e184 x0 x1 x2) (.t 41))=some x2:=by kernel_rfl
def g49_23 (S68:Int→Option (Bool)) (k0:V1→V14→Bool→Option R) (x0:V1) (x1:V14):Option R:=
if 0≤(0:Int)∧(0:Int) < (x0.length:Int) then
(S68 ((x0.getD (0:Int).toNat 0).toNat:Int)).bind fun r696=>
k0 x0 x1 r696
else none
theorem t49_23 (S68) (h68:(ctr68 S68).holds cl) (x0 x1):exec cl N c49_23 (e180 x0 x1) K=(g49_23 S68 (fun y0 y1 y2=>K .normal (e185 y0 y1 y2)) x0 x1):=by
 rw [←put_eq h68]
 kernel_rfl
def g49_24 (k0:V14→Int→Int→Option R) (x0:V1) (x1:V14) (x2:Bool):Option R:=
if 0≤(0:Int)∧(0:Int)≤(1:Int)∧(1:Int)≤(x0.length:Int) then
k0 ((4:Int),((x0.drop (0:Int).toNat).take ((1:Int).toNat - (0:Int).toNat)),(0:Int),()) (1:Int) (0:Int)
else none
theorem t49_24 (x0 x1 x2):exec cl N c49_24 (e185 x0 x1 x2) K=(g49_24 (fun y0 y1 y2=>K .normal (e28 y0 y1 y2)) x0 x1 x2):=by
 kernel_rfl
theorem kp49_11 (x0 x1 x2):keep [2,3,4] (e28 x0 x1 x2)=(e28 x0 x1 x2):=by kernel_rfl
theorem kp49_12 (x0 x1 x2):keep [2,3,4] (e185 x0 x1 x2)=(e38 x1):=by kernel_rfl
theorem hb49_6 (x0 x1 x2):boolOf? (ent (e185 x0 x1 x2) (.t 49))=some x2:=by kernel_rfl
def g49_26 (k0:V14→Int→Int→Option R) (x0:V14):Option R:=
k0 ((0:Int),[],(0:Int),()) (0:Int) (2:Int)
theorem t49_26 (x0):exec cl N c49_26 (e38 x0) K=(g49_26 (fun y0 y1 y2=>K .normal (e28 y0 y1 y2)) x0):=by
 kernel_rfl
def g49_27 (S58:V1→Option (Int)) (S66:V1→Option (Int)) (S67:V1→Option V18) (S68:Int→Option (Bool)) (k0:V14→Int→Int→Option R) (k1:V14→Int→Int→Option R) (x0:V1):Option R:=
(g49_0 (g49_8 S58 (fun y0 y1 y2 y3=>brB y3 (g49_3 (fun y0 y1 y2 y3=>brB y3 (g49_4 k0 y0 y1 y2 y3) ((g49_6 k0) y0 y1 y2)) y0 y1 y2 y3) ((g49_19 S66 (fun y0 y1 y2 y3=>brB y3 (g49_11 (fun y0 y1 y2 y3=>brB y3 (g49_12 k0 y0 y1 y2 y3) ((g49_14 (fun y0 y1 y2 y3=>brB y3 (g49_15 k0 y0 y1 y2 y3) ((g49_17 k0) y0 y1 y2))) y0 y1 y2)) y0 y1 y2 y3) ((g49_20 (fun y0 y1 y2=>brB y2 (g49_21 S67 k0 y0 y1 y2) ((g49_23 S68 (fun y0 y1 y2=>brB y2 (g49_24 k1 y0 y1 y2) ((g49_26 k1) y1))) y0 y1))) y0 y1))) y0 y1))) x0)
theorem t49_27 (S58) (S66) (S67) (S68) (h58:(ctr58 S58).holds cl) (h66:(ctr66 S66).holds cl) (h67:(ctr67 S67).holds cl) (h68:(ctr68 S68).holds cl) (x0):exec cl N c49_27 [(0,.v .str x0)] K=(g49_27 S58 S66 S67 S68 (fun y0 y1 y2=>K .ret (e179 y0 y1 y2)) (fun y0 y1 y2=>K .ret (e28 y0 y1 y2)) x0):=by
 simp only [c49_27,xS,sN,sE,sR,t49_0,t49_8 S58 h58,c49_7,exec_out,exec_cond',hb49_1,Option.bind_some,bT,bF,t49_3,c49_5,hb49_0,t49_4,exec_ret,exec_skip,kp49_0,kp49_1,t49_6,kp49_2,kp49_3,kp49_4,t49_19 S66 h66,c49_18,hb49_4,t49_11,c49_13,hb49_2,t49_12,kp49_5,kp49_6,t49_14,c49_16,hb49_3,t49_15,kp49_7,t49_17,kp49_8,kp49_9,t49_20,c49_22,hb49_5,t49_21 S67 h67,kp49_10,t49_23 S68 h68,c49_25,hb49_6,t49_24,kp49_11,kp49_12,t49_26]
 rfl
theorem rk49_0 (y0 y1 y2):retK d49 .ret (e179 y0 y1 y2)=some [.v U12 y0,.v U2 y1,.v U2 y2]:=by kernel_rfl
theorem rk49_1 (y0 y1 y2):retK d49 .ret (e28 y0 y1 y2)=some [.v U12 y0,.v U2 y1,.v U2 y2]:=by kernel_rfl
def g49 (S58:V1→Option (Int)) (S66:V1→Option (Int)) (S67:V1→Option V18) (S68:Int→Option (Bool)) (x0:V1) (k:V14→Int→Int→Option R):Option R:=
(g49_27 S58 S66 S67 S68 k k x0)
theorem gen49 (S58) (S66) (S67) (S68) (h58:(ctr58 S58).holds cl) (h66:(ctr66 S66).holds cl) (h67:(ctr67 S67).holds cl) (h68:(ctr68 S68).holds cl) (x0) (k:List E→Option R):exec cl N c49 [(0,.v .str x0)] (fun e env=>(retK d49 e env).bind k)=g49 S58 S66 S67 S68 x0 (fun r0 r1 r2=>k [.v U12 r0,.v U2 r1,.v U2 r2]):=by
 simp only [c49,t49_27 S58 S66 S67 S68 h58 h66 h67 h68,rk49_0,rk49_1,Option.bind_some]
 rfl
def ctr49 (S:V1→Option V18):Ctr:=cv1 49 .str S fun b=> [.v U12 b.1,.v U2 b.2.1,.v U2 b.2.2]
def S49 (N:Nat) (x0:V1):Option V18:=g49 (S58 N) (S66 N) (S67 N) (S68 N) x0 (fun (r0:V14) (r1:Int) (r2:Int)=>some (r0,r1,r2))
def g24_0 (k0:V1→Option R) (x0:V1):Option R:=
k0 x0
theorem t24_0 (x0):exec cl N c24_0 [(0,.v .str x0)] K=(g24_0 (fun y0=>K .normal [(0,.v .str y0)]) x0):=by
 kernel_rfl
def g24_1 (k0:V1→Bool→Option R) (x0:V1):Option R:=
k0 x0 (decide ((x0.length:Int) > (20000:Int)))
theorem t24_1 (x0):exec cl N c24_1 [(0,.v .str x0)] K=(g24_1 (fun y0 y1=>K .normal (e39 y0 y1)) x0):=by
 kernel_rfl
def g24_2 (k0:V16→Int→Int→Option R) (x0:V1) (x1:Bool):Option R:=
k0 [] (0:Int) (3:Int)
theorem t24_2 (x0 x1):exec cl N c24_2 (e39 x0 x1) K=(g24_2 (fun y0 y1 y2=>K .normal (e40 y0 y1 y2)) x0 x1):=by
 kernel_rfl
theorem kp24_0 (x0 x1 x2):keep [0,2,3,4] (e40 x0 x1 x2)=(e41 x0 x1 x2):=by kernel_rfl
theorem kp24_1 (x0 x1):keep [0,2,3,4] (e39 x0 x1)=(e42 x0):=by kernel_rfl
theorem hb24_0 (x0 x1):boolOf? (ent (e39 x0 x1) (.t 13))=some x1:=by kernel_rfl
def g24_25 (k0:V1→V16→Int→Int→Option R) (x0:V1):Option R:=
k0 x0 [] (1:Int) (0:Int)
theorem t24_25 (x0):exec cl N c24_25 (e42 x0) K=(g24_25 (fun y0 y1 y2 y3=>exec cl N c24_24 (e43 y0 y1 y2 y3) K) x0):=by
 kernel_rfl
theorem kp24_2 (x0 x1 x2 x3):keep [0,5,6,7] (e43 x0 x1 x2 x3)=(e43 x0 x1 x2 x3):=by kernel_rfl
def g24_21 (S47:V1→Option (Int)) (S48:V1→Option (Int)) (k0:V1→V16→Int→Int→Option R) (x0:V1) (x1:V16) (x2 x3:Int):Option R:=
if 0≤x3∧x3≤(x0.length:Int)∧(x0.length:Int)≤(x0.length:Int) then
(S47 ((x0.drop x3.toNat).take ((x0.length:Int).toNat - x3.toNat))).bind fun r713=>
let v714:Int:=(IntKind.i64.wrap (x3+r713))
if 0≤x3∧x3≤v714∧v714≤(x0.length:Int) then
(S48 ((x0.drop x3.toNat).take (v714.toNat - x3.toNat))).bind fun r716=>
k0 x0 x1 (IntKind.i64.wrap (x2+r716)) (IntKind.i64.wrap (x3+r713))
else none
else none
theorem t24_21 (S47) (S48) (h47:(ctr47 S47).holds cl) (h48:(ctr48 S48).holds cl) (x0 x1 x2 x3):exec cl N c24_21 (e43 x0 x1 x2 x3) K=(g24_21 S47 S48 (fun y0 y1 y2 y3=>exec cl N (.seq (.seq c24_10 c24_12) (.seq c24_13 (.seq (.seq c24_14 c24_16) c24_20))) (e43 y0 y1 y2 y3) K) x0 x1 x2 x3):=by
 rw [←put_eq h47]
 rw [←put_eq h48]
 kernel_rfl
def g24_10 (k0:V1→V16→Int→Int→Bool→Option R) (x0:V1) (x1:V16) (x2 x3:Int):Option R:=
k0 x0 x1 x2 x3 (x3==(x0.length:Int))
theorem t24_10 (x0 x1 x2 x3):exec cl N c24_10 (e43 x0 x1 x2 x3) K=(g24_10 (fun y0 y1 y2 y3 y4=>K .normal (e186 y0 y1 y2 y3 y4)) x0 x1 x2 x3):=by
 kernel_rfl
def g24_11 (k0:Int→Int→V16→Option R) (x0:V1) (x1:V16) (x2 x3:Int) (x4:Bool):Option R:=
k0 (0:Int) (0:Int) x1
theorem t24_11 (x0 x1 x2 x3 x4):exec cl N c24_11 (e186 x0 x1 x2 x3 x4) K=(g24_11 (fun y0 y1 y2=>K .normal (e58 y0 y1 y2)) x0 x1 x2 x3 x4):=by
 kernel_rfl
theorem kp24_3 (x0 x1 x2):keep [0,2,3,4,5,6,7] (e58 x0 x1 x2)=(e187 x0 x1 x2):=by kernel_rfl
theorem kp24_4 (x0 x1 x2 x3 x4):keep [0,2,3,4,5,6,7] (e186 x0 x1 x2 x3 x4)=(e47 x0 x1 x2 x3):=by kernel_rfl
theorem hb24_1 (x0 x1 x2 x3 x4):boolOf? (ent (e186 x0 x1 x2 x3 x4) (.t 33))=some x4:=by kernel_rfl
def g24_13 (S49:V1→Option V18) (k0:V1→V16→Int→Int→Int→V14→Int→Option R) (x0:V1) (x1:V16) (x2 x3:Int):Option R:=
if 0≤x3∧x3≤(x0.length:Int)∧(x0.length:Int)≤(x0.length:Int) then
(S49 ((x0.drop x3.toNat).take ((x0.length:Int).toNat - x3.toNat))).bind fun r721=>
k0 x0 x1 x2 x3 r721.2.1 r721.1 r721.2.2
else none
theorem t24_13 (S49) (h49:(ctr49 S49).holds cl) (x0 x1 x2 x3):exec cl N c24_13 (e47 x0 x1 x2 x3) K=(g24_13 S49 (fun y0 y1 y2 y3 y4 y5 y6=>K .normal (e188 y0 y1 y2 y3 y4 y5 y6)) x0 x1 x2 x3):=by
 rw [←put_eq h49]
 kernel_rfl
def g24_14 (k0:V1→V16→Int→Int→Int→V14→Int→Bool→Option R) (x0:V1) (x1:V16) (x2 x3 x4:Int) (x5:V14) (x6:Int):Option R:=
k0 x0 x1 x2 x3 x4 x5 x6 (x6 != (0:Int))
theorem t24_14 (x0 x1 x2 x3 x4 x5 x6):exec cl N c24_14 (e188 x0 x1 x2 x3 x4 x5 x6) K=(g24_14 (fun y0 y1 y2 y3 y4 y5 y6 y7=>K .normal (e189 y0 y1 y2 y3 y4 y5 y6 y7)) x0 x1 x2 x3 x4 x5 x6):=by
 kernel_rfl
def g24_15 (k0:V16→Int→Int→Option R) (x0:V1) (x1:V16) (x2 x3 x4:Int) (x5:V14) (x6:Int) (x7:Bool):Option R:=
k0 [] x2 x6
theorem t24_15 (x0 x1 x2 x3 x4 x5 x6 x7):exec cl N c24_15 (e189 x0 x1 x2 x3 x4 x5 x6 x7) K=(g24_15 (fun y0 y1 y2=>K .normal (e40 y0 y1 y2)) x0 x1 x2 x3 x4 x5 x6 x7):=by
 kernel_rfl
theorem kp24_5 (x0 x1 x2):keep [0,2,3,4,5,6,7,8,9] (e40 x0 x1 x2)=(e53 x0 x1 x2):=by kernel_rfl
theorem kp24_6 (x0 x1 x2 x3 x4 x5 x6 x7):keep [0,2,3,4,5,6,7,8,9] (e189 x0 x1 x2 x3 x4 x5 x6 x7)=(e190 x0 x1 x2 x3 x4 x5):=by kernel_rfl
theorem hb24_2 (x0 x1 x2 x3 x4 x5 x6 x7):boolOf? (ent (e189 x0 x1 x2 x3 x4 x5 x6 x7) (.t 44))=some x7:=by kernel_rfl
def g24_20 (k0:V1→V16→Int→Int→Option R) (x0:V1) (x1:V16) (x2 x3 x4:Int) (x5:V14):Option R:=
if x1.length+[(x5.1,(x5.2.1,(x2,x5.2.2.2)))].length≤4398046511104 then
k0 x0 (x1++[(x5.1,(x5.2.1,(x2,x5.2.2.2)))]) x2 (IntKind.i64.wrap (x3+x4))
else none
theorem t24_20 (x0 x1 x2 x3 x4 x5):exec cl N c24_20 (e190 x0 x1 x2 x3 x4 x5) K=(g24_20 (fun y0 y1 y2 y3=>K .normal (e43 y0 y1 y2 y3)) x0 x1 x2 x3 x4 x5):=by
 kernel_rfl
theorem kp24_7 (x0 x1 x2):keep [0,2,3,4,5,6,7] (e187 x0 x1 x2)=(e187 x0 x1 x2):=by kernel_rfl
theorem kp24_8 (x0 x1 x2):keep [0,2,3,4,5,6,7] (e53 x0 x1 x2)=(e55 x0 x1 x2):=by kernel_rfl
theorem kp24_9 (x0 x1 x2 x3):keep [0,2,3,4,5,6,7] (e43 x0 x1 x2 x3)=(e47 x0 x1 x2 x3):=by kernel_rfl
def g24_22 (S47:V1→Option (Int)) (S48:V1→Option (Int)) (S49:V1→Option V18) (k0:Int→Int→V16→Option R) (k1:V16→Int→Int→Option R) (k2:V1→V16→Int→Int→Option R) (x0:V1) (x1:V16) (x2 x3:Int):Option R:=
(g24_21 S47 S48 (g24_10 (fun y0 y1 y2 y3 y4=>brB y4 (g24_11 k0 y0 y1 y2 y3 y4) ((g24_13 S49 (g24_14 (fun y0 y1 y2 y3 y4 y5 y6 y7=>brB y7 (g24_15 k1 y0 y1 y2 y3 y4 y5 y6 y7) ((g24_20 k2) y0 y1 y2 y3 y4 y5)))) y0 y1 y2 y3))) x0 x1 x2 x3)
theorem t24_22 (S47) (S48) (S49) (h47:(ctr47 S47).holds cl) (h48:(ctr48 S48).holds cl) (h49:(ctr49 S49).holds cl) (x0 x1 x2 x3):exec cl N c24_22 (e43 x0 x1 x2 x3) K=(g24_22 S47 S48 S49 (fun y0 y1 y2=>K .ret (e187 y0 y1 y2)) (fun y0 y1 y2=>K .ret (e55 y0 y1 y2)) (fun y0 y1 y2 y3=>K .normal (e47 y0 y1 y2 y3)) x0 x1 x2 x3):=by
 simp only [c24_22,exec_out,xB,xS,sN,sE,sR,t24_21 S47 S48 h47 h48,t24_10,c24_12,exec_cond',hb24_1,Option.bind_some,bT,bF,t24_11,exec_ret,exec_skip,kp24_3,kp24_4,t24_13 S49 h49,t24_14,c24_16,hb24_2,t24_15,kp24_5,kp24_6,t24_20,blockK_normal,blockK_ret,blockK_eq,kp24_7,kp24_8,kp24_9]
 rfl
theorem kp24_10 (x0 x1 x2 x3):keep [0,5,6,7] (e47 x0 x1 x2 x3)=(e43 x0 x1 x2 x3):=by kernel_rfl
def l24_23 {R:Type} (S47:V1→Option (Int)) (S48:V1→Option (Int)) (S49:V1→Option V18) (k0:Int→Int→V16→Option R) (k1:V16→Int→Int→Option R):Nat→V1→V16→Int→Int→Option R
 | 0,_,_,_,_=>none
 | m+1,x0,x1,x2,x3=>(g24_22 S47 S48 S49 k0 k1 (l24_23 S47 S48 S49 k0 k1 m) x0 x1 x2 x3)
theorem lt24_23 (S47) (S48) (S49) (h47:(ctr47 S47).holds cl) (h48:(ctr48 S48).holds cl) (h49:(ctr49 S49).holds cl):∀ (m) (x0 x1 x2 x3),iter [0,5,6,7] (fun env K=>exec cl N c24_22 env K) K m (e43 x0 x1 x2 x3)=l24_23 S47 S48 S49 (fun y0 y1 y2=>K .ret (e187 y0 y1 y2)) (fun y0 y1 y2=>K .ret (e55 y0 y1 y2)) m x0 x1 x2 x3:=by
 intro m
 induction m with
 | zero=>intros; rfl
 | succ m ih=>
   intro x0 x1 x2 x3
   simp only [iter_succ,t24_22 S47 S48 S49 h47 h48 h49,loopK_normal,loopK_exit,loopK_ret,kp24_10,ih]
   rfl
theorem kp24_11 (x0 x1 x2):keep [2,3,4,5] (e187 x0 x1 x2)=(e58 x0 x1 x2):=by kernel_rfl
theorem kp24_12 (x0 x1 x2):keep [2,3,4,5] (e55 x0 x1 x2)=(e56 x0 x1 x2):=by kernel_rfl
def g24_23 (N:Nat) (S47:V1→Option (Int)) (S48:V1→Option (Int)) (S49:V1→Option V18) (k0:Int→Int→V16→Option R) (k1:V16→Int→Int→Option R) (x0:V1) (x1:V16) (x2 x3:Int):Option R:=
l24_23 S47 S48 S49 k0 k1 N x0 x1 x2 x3
theorem t24_23 (S47) (S48) (S49) (h47:(ctr47 S47).holds cl) (h48:(ctr48 S48).holds cl) (h49:(ctr49 S49).holds cl) (x0 x1 x2 x3):exec cl N c24_23 (e43 x0 x1 x2 x3) K=(g24_23 N S47 S48 S49 (fun y0 y1 y2=>K .ret (e58 y0 y1 y2)) (fun y0 y1 y2=>K .ret (e56 y0 y1 y2)) x0 x1 x2 x3):=by
 simp only [c24_23,exec_out,exec_loop,kp24_2,lt24_23 S47 S48 S49 h47 h48 h49,kp24_11,kp24_12]
 rfl
theorem kp24_13 (x0 x1 x2):keep [2,3,4,5] (e58 x0 x1 x2)=(e58 x0 x1 x2):=by kernel_rfl
theorem kp24_14 (x0 x1 x2):keep [2,3,4,5] (e56 x0 x1 x2)=(e56 x0 x1 x2):=by kernel_rfl
def g24_26 (N:Nat) (S47:V1→Option (Int)) (S48:V1→Option (Int)) (S49:V1→Option V18) (k0:V16→Int→Int→Option R) (k1:Int→Int→V16→Option R) (k2:V16→Int→Int→Option R) (x0:V1):Option R:=
(g24_0 (g24_1 (fun y0 y1=>brB y1 (g24_2 k0 y0 y1) ((g24_25 (g24_23 N S47 S48 S49 k1 k2)) y0))) x0)
theorem t24_26 (S47) (S48) (S49) (h47:(ctr47 S47).holds cl) (h48:(ctr48 S48).holds cl) (h49:(ctr49 S49).holds cl) (x0):exec cl N c24_26 [(0,.v .str x0)] K=(g24_26 N S47 S48 S49 (fun y0 y1 y2=>K .ret (e41 y0 y1 y2)) (fun y0 y1 y2=>K .ret (e58 y0 y1 y2)) (fun y0 y1 y2=>K .ret (e56 y0 y1 y2)) x0):=by
 simp only [c24_26,xS,sN,sE,sR,t24_0,t24_1,c24_3,exec_out,exec_cond',hb24_0,Option.bind_some,bT,bF,t24_2,exec_ret,exec_skip,kp24_0,kp24_1,t24_25,c24_24,xB,t24_23 S47 S48 S49 h47 h48 h49,blockK_normal,blockK_ret,blockK_eq,kp24_13,kp24_14]
 rfl
theorem rk24_0 (y0 y1 y2):retK d24 .ret (e41 y0 y1 y2)=some [.own true 58 U12 .no y0,.v U2 y1,.v U2 y2]:=by kernel_rfl
theorem rk24_1 (y0 y1 y2):retK d24 .ret (e58 y0 y1 y2)=some [.own true 58 U12 .no y2,.v U2 y0,.v U2 y1]:=by kernel_rfl
theorem rk24_2 (y0 y1 y2):retK d24 .ret (e56 y0 y1 y2)=some [.own true 58 U12 .no y0,.v U2 y1,.v U2 y2]:=by kernel_rfl
def g24 (N:Nat) (S47:V1→Option (Int)) (S48:V1→Option (Int)) (S49:V1→Option V18) (x0:V1) (k:V16→Int→Int→Option R):Option R:=
(g24_26 N S47 S48 S49 k (fun y0 y1 y2=>k y2 y0 y1) k x0)
theorem gen24 (S47) (S48) (S49) (h47:(ctr47 S47).holds cl) (h48:(ctr48 S48).holds cl) (h49:(ctr49 S49).holds cl) (x0) (k:List E→Option R):exec cl N c24 [(0,.v .str x0)] (fun e env=>(retK d24 e env).bind k)=g24 N S47 S48 S49 x0 (fun r0 r1 r2=>k [.own true 58 U12 .no r0,.v U2 r1,.v U2 r2]):=by
 simp only [c24,t24_26 S47 S48 S49 h47 h48 h49,rk24_0,rk24_1,rk24_2,Option.bind_some]
 rfl
def ctr24 (S:V1→Option V19):Ctr:=cv1 24 .str S fun b=> [.own true 58 U12 .no b.1,.v U2 b.2.1,.v U2 b.2.2]
def S24 (N:Nat) (x0:V1):Option V19:=g24 N (S47 N) (S48 N) (S49 N) x0 (fun (r0:V16) (r1:Int) (r2:Int)=>some (r0,r1,r2))
def g25_2 (k0:Bool→Option R) (x0:V16) (x1 x2:Int) (x3:V1):Option R:=
brB (decide (x1 < (x0.length:Int))) (if 0≤x1∧x1 < (x0.length:Int) then
brB ((x0.getD x1.toNat ((0:Int),([],((0:Int),())))).1==x2) (brB (x3==([]:List UInt8)) (k0 true) (if 0≤x1∧x1 < (x0.length:Int) then
k0 ((x0.getD x1.toNat ((0:Int),([],((0:Int),())))).2.1==x3)
else none)) (k0 false)
else none) (k0 false)
theorem t25_2 (x0 x1 x2 x3):exec cl N c25_2 (e191 x0 x1 x2 x3) K=(g25_2 (fun y0=>exec cl N .ret [(8,.v .bool y0)] K) x0 x1 x2 x3):=by
 kernel_rfl
def g25_2b (k0:Bool→Option R) (x0:V16) (x1 x2:Int) (x3:V1):Option R:=
(g25_2 k0 x0 x1 x2 x3)
theorem t25_2b (x0 x1 x2 x3):exec cl N c25_2 (e191 x0 x1 x2 x3) K=(g25_2b (fun y0=>K .ret [(8,.v .bool y0)]) x0 x1 x2 x3):=by
 simp only [xS,sN,sE,sR,t25_2,exec_ret]
 rfl
theorem rk25_0 (y0):retK d25 .ret [(8,.v .bool y0)]=some [.v .bool y0]:=by kernel_rfl
def g25 (x0:V16) (x1 x2:Int) (x3:V1) (k:Bool→Option R):Option R:=
(g25_2b k x0 x1 x2 x3)
theorem gen25 (x0 x1 x2 x3) (k:List E→Option R):exec cl N c25 (e191 x0 x1 x2 x3) (fun e env=>(retK d25 e env).bind k)=g25 x0 x1 x2 x3 (fun r0=>k [.v .bool r0]):=by
 simp only [c25,t25_2b,rk25_0,Option.bind_some]
 rfl
def ctr25 (S:V16→Int→Int→V1→Option (Bool)):Ctr:=cv4 25 U13 U2 U2 .str S fun b=> [.v .bool b]
def S25 (N:Nat) (x0:V16) (x1:Int) (x2:Int) (x3:V1):Option (Bool):=g25 x0 x1 x2 x3 (fun (r0:Bool)=>some (r0))
def g26_0 (k0:V16→Int→V23→Option R) (x0:V16) (x1:Int):Option R:=
k0 x0 x1 ([],([],()))
theorem t26_0 (x0 x1):exec cl N c26_0 (e192 x0 x1) K=(g26_0 (fun y0 y1 y2=>K .normal [(0,.v U13 y0),(1,.v U2 y1),(4,.loc U17 .no y2)]) x0 x1):=by
 kernel_rfl
def g26_1 (k0:V16→Int→V23→Bool→Option R) (x0:V16) (x1:Int) (x2:V23):Option R:=
k0 x0 x1 x2 (decide (x1 < (x0.length:Int)))
theorem t26_1 (x0 x1 x2):exec cl N c26_1 [(0,.v U13 x0),(1,.v U2 x1),(4,.loc U17 .no x2)] K=(g26_1 (fun y0 y1 y2 y3=>K .normal (e193 y0 y1 y2 y3)) x0 x1 x2):=by
 kernel_rfl
def g26_2 (k0:V23→Int→Int→Option R) (x0:V16) (x1:Int) (x2:V23) (x3:Bool):Option R:=
if 0≤x1∧x1 < (x0.length:Int) then
k0 ([],[],()) ((x0.getD x1.toNat ((0:Int),([],((0:Int),())))).2.2.1) (2:Int)
else none
theorem t26_2 (x0 x1 x2 x3):exec cl N c26_2 (e193 x0 x1 x2 x3) K=(g26_2 (fun y0 y1 y2=>K .normal (e194 y0 y1 y2)) x0 x1 x2 x3):=by
 kernel_rfl
theorem kp26_0 (x0 x1 x2):keep [0,4,5,6] (e194 x0 x1 x2)=(e195 x0 x1 x2):=by kernel_rfl
theorem kp26_1 (x0 x1 x2 x3):keep [0,4,5,6] (e193 x0 x1 x2 x3)=(e196 x0 x2):=by kernel_rfl
theorem hb26_0 (x0 x1 x2 x3):boolOf? (ent (e193 x0 x1 x2 x3) (.t 10))=some x3:=by kernel_rfl
def g26_4 (k0:V16→V23→Bool→Option R) (x0:V16) (x1:V23):Option R:=
k0 x0 x1 (decide ((x0.length:Int) > (0:Int)))
theorem t26_4 (x0 x1):exec cl N c26_4 (e196 x0 x1) K=(g26_4 (fun y0 y1 y2=>K .normal (e197 y0 y1 y2)) x0 x1):=by
 kernel_rfl
def g26_5 (k0:V23→Int→Int→Option R) (x0:V16) (x1:V23) (x2:Bool):Option R:=
let v740:Int:=(IntKind.i64.wrap ((x0.length:Int) - (1:Int)))
if 0≤v740∧v740 < (x0.length:Int) then
k0 ([],[],()) ((x0.getD v740.toNat ((0:Int),([],((0:Int),())))).2.2.1) (2:Int)
else none
theorem t26_5 (x0 x1 x2):exec cl N c26_5 (e197 x0 x1 x2) K=(g26_5 (fun y0 y1 y2=>K .normal (e194 y0 y1 y2)) x0 x1 x2):=by
 kernel_rfl
theorem kp26_2 (x0 x1 x2):keep [4,5,6] (e194 x0 x1 x2)=(e194 x0 x1 x2):=by kernel_rfl
theorem kp26_3 (x0 x1 x2):keep [4,5,6] (e197 x0 x1 x2)=[(4,.loc U17 .no x1),(5,.dead),(6,.dead)]:=by kernel_rfl
theorem hb26_1 (x0 x1 x2):boolOf? (ent (e197 x0 x1 x2) (.t 19))=some x2:=by kernel_rfl
def g26_7 (k0:V23→Int→Int→Option R) (x0:V23):Option R:=
k0 ([],[],()) (1:Int) (2:Int)
theorem t26_7 (x0):exec cl N c26_7 [(4,.loc U17 .no x0),(5,.dead),(6,.dead)] K=(g26_7 (fun y0 y1 y2=>K .normal (e198 y0 y1 y2)) x0):=by
 kernel_rfl
def g26_8 (k0:V23→Int→Int→Option R) (k1:V23→Int→Int→Option R) (k2:V23→Int→Int→Option R) (x0:V16) (x1:Int):Option R:=
(g26_0 (g26_1 (fun y0 y1 y2 y3=>brB y3 (g26_2 k0 y0 y1 y2 y3) ((g26_4 (fun y0 y1 y2=>brB y2 (g26_5 k1 y0 y1 y2) ((g26_7 k2) y1))) y0 y2))) x0 x1)
theorem t26_8 (x0 x1):exec cl N c26_8 (e192 x0 x1) K=(g26_8 (fun y0 y1 y2=>K .ret (e195 y0 y1 y2)) (fun y0 y1 y2=>K .ret (e194 y0 y1 y2)) (fun y0 y1 y2=>K .ret (e198 y0 y1 y2)) x0 x1):=by
 simp only [c26_8,xS,sN,sE,sR,t26_0,t26_1,c26_3,exec_out,exec_cond',hb26_0,Option.bind_some,bT,bF,t26_2,exec_ret,exec_skip,kp26_0,kp26_1,t26_4,c26_6,hb26_1,t26_5,kp26_2,kp26_3,t26_7]
 rfl
theorem rk26_0 (y0 y1 y2):retK d26 .ret (e195 y0 y1 y2)=some [.v U17 y0,.v U2 y1,.v U2 y2]:=by kernel_rfl
theorem rk26_1 (y0 y1 y2):retK d26 .ret (e194 y0 y1 y2)=some [.v U17 y0,.v U2 y1,.v U2 y2]:=by kernel_rfl
theorem rk26_2 (y0 y1 y2):retK d26 .ret (e198 y0 y1 y2)=some [.v U17 y0,.v U2 y1,.v U2 y2]:=by kernel_rfl
def g26 (x0:V16) (x1:Int) (k:V23→Int→Int→Option R):Option R:=
(g26_8 k k k x0 x1)
theorem gen26 (x0 x1) (k:List E→Option R):exec cl N c26 (e192 x0 x1) (fun e env=>(retK d26 e env).bind k)=g26 x0 x1 (fun r0 r1 r2=>k [.v U17 r0,.v U2 r1,.v U2 r2]):=by
 simp only [c26,t26_8,rk26_0,rk26_1,rk26_2,Option.bind_some]
 rfl
def ctr26 (S:V16→Int→Option V25):Ctr:=cv2 26 U13 U2 S fun b=> [.v U17 b.1,.v U2 b.2.1,.v U2 b.2.2]
def S26 (N:Nat) (x0:V16) (x1:Int):Option V25:=g26 x0 x1 (fun (r0:V23) (r1:Int) (r2:Int)=>some (r0,r1,r2))
def g50_0 (k0:V1→Option R) (x0:V1):Option R:=
k0 x0
theorem t50_0 (x0):exec cl N c50_0 [(0,.v .str x0)] K=(g50_0 (fun y0=>K .normal [(0,.v .str y0)]) x0):=by
 kernel_rfl
def g50_1 (S66:V1→Option (Int)) (k0:V1→Bool→Option R) (x0:V1):Option R:=
brB (x0==([]:List UInt8)) (k0 x0 true) (brB (decide ((x0.length:Int) > (6:Int))) (k0 x0 true) ((S66 x0).bind fun r768=>
brB (r768 != (x0.length:Int)) (k0 x0 true) (if 0≤(0:Int)∧(0:Int) < (x0.length:Int) then
brB (((x0.getD (0:Int).toNat 0).toNat:Int)==(48:Int)) (k0 x0 (decide ((x0.length:Int) > (1:Int)))) (k0 x0 false)
else none)))
theorem t50_1 (S66) (h66:(ctr66 S66).holds cl) (x0):exec cl N c50_1 [(0,.v .str x0)] K=(g50_1 S66 (fun y0 y1=>K .normal (e199 y0 y1)) x0):=by
 rw [←put_eq h66]
 kernel_rfl
def g50_2 (k0:Int→Bool→Option R) (x0:V1) (x1:Bool):Option R:=
k0 (0:Int) false
theorem t50_2 (x0 x1):exec cl N c50_2 (e199 x0 x1) K=(g50_2 (fun y0 y1=>K .normal (e13 y0 y1)) x0 x1):=by
 kernel_rfl
theorem kp50_0 (x0 x1):keep [0,2,3] (e13 x0 x1)=(e14 x0 x1):=by kernel_rfl
theorem kp50_1 (x0 x1):keep [0,2,3] (e199 x0 x1)=(e15 x0):=by kernel_rfl
theorem hb50_0 (x0 x1):boolOf? (ent (e199 x0 x1) (.t 29))=some x1:=by kernel_rfl
def g50_4 (k0:V1→Int→Option R) (x0:V1):Option R:=
k0 x0 (0:Int)
theorem t50_4 (x0):exec cl N c50_4 (e15 x0) K=(g50_4 (fun y0 y1=>K .normal (e16 y0 y1)) x0):=by
 kernel_rfl
def g50_5 (k0:V1→Int→Int→Option R) (x0:V1) (x1:Int):Option R:=
k0 x0 x1 (0:Int)
theorem t50_5 (x0 x1):exec cl N c50_5 (e16 x0 x1) K=(g50_5 (fun y0 y1 y2=>K .normal (e200 y0 y1 y2)) x0 x1):=by
 kernel_rfl
theorem kp50_2 (x0 x1 x2):keep [0,4,5] (e200 x0 x1 x2)=(e200 x0 x1 x2):=by kernel_rfl
def g50_6 (k0:V1→Int→Int→Bool→Option R) (x0:V1) (x1 x2:Int):Option R:=
k0 x0 x1 x2 (decide (x2 < (x0.length:Int)))
theorem t50_6 (x0 x1 x2):exec cl N c50_6 (e200 x0 x1 x2) K=(g50_6 (fun y0 y1 y2 y3=>K .normal (e201 y0 y1 y2 y3)) x0 x1 x2):=by
 kernel_rfl
theorem kp50_3 (x0 x1 x2 x3):keep [0,4,5] (e201 x0 x1 x2 x3)=(e200 x0 x1 x2):=by kernel_rfl
theorem hb50_1 (x0 x1 x2 x3):boolOf? (ent (e201 x0 x1 x2 x3) (.t 33))=some x3:=by kernel_rfl
def g50_8 (k0:V1→Int→Int→Option R) (x0:V1) (x1 x2:Int):Option R:=
if 0≤x2∧x2 < (x0.length:Int) then
k0 x0 (IntKind.i64.wrap ((IntKind.i64.wrap ((10:Int) * x1))+(IntKind.i64.wrap (IntKind.u8.wrap (((x0.getD x2.toNat 0).toNat:Int) - (48:Int)))))) x2
else none
theorem t50_8 (x0 x1 x2):exec cl N c50_8 (e200 x0 x1 x2) K=(g50_8 (fun y0 y1 y2=>K .normal (e200 y0 y1 y2)) x0 x1 x2):=by
 kernel_rfl
def g50_10 (k0:V1→Int→Int→Option R) (x0:V1) (x1 x2:Int):Option R:=
k0 x0 x1 (IntKind.i64.wrap (x2+(1:Int)))
theorem t50_10 (x0 x1 x2):exec cl N c50_10 (e200 x0 x1 x2) K=(g50_10 (fun y0 y1 y2=>K .normal (e200 y0 y1 y2)) x0 x1 x2):=by
 kernel_rfl
def g50_11 (k0:V1→Int→Int→Option R) (k1:V1→Int→Int→Option R) (x0:V1) (x1 x2:Int):Option R:=
(g50_6 (fun y0 y1 y2 y3=>brB y3 ((g50_8 ((g50_10 k0))) y0 y1 y2) (k1 y0 y1 y2)) x0 x1 x2)
theorem t50_11 (x0 x1 x2):exec cl N c50_11 (e200 x0 x1 x2) K=(g50_11 (fun y0 y1 y2=>K .normal (e200 y0 y1 y2)) (fun y0 y1 y2=>K (.exit 0) (e200 y0 y1 y2)) x0 x1 x2):=by
 simp only [c50_11,xS,sN,sE,sR,t50_6,c50_7,exec_out,exec_cond',hb50_1,Option.bind_some,bT,bF,exec_skip,exec_exit,kp50_3,c50_9,xB,t50_8,blockK_normal,blockK_ret,blockK_eq,kp50_2,t50_10]
 rfl
def l50_12 {R:Type} (k0:V1→Int→Int→Option R):Nat→V1→Int→Int→Option R
 | 0,_,_,_=>none
 | m+1,x0,x1,x2=>(g50_11 (l50_12 k0 m) k0 x0 x1 x2)
theorem lt50_12:∀ (m) (x0 x1 x2),iter [0,4,5] (fun env K=>exec cl N c50_11 env K) K m (e200 x0 x1 x2)=l50_12 (fun y0 y1 y2=>K (.exit 0) (e200 y0 y1 y2)) m x0 x1 x2:=by
 intro m
 induction m with
 | zero=>intros; rfl
 | succ m ih=>
   intro x0 x1 x2
   simp only [iter_succ,t50_11,loopK_normal,loopK_exit,loopK_ret,kp50_2,ih]
   rfl
theorem kp50_4 (x0 x1 x2):keep [4] (e200 x0 x1 x2)=[(4,.v U2 x1)]:=by kernel_rfl
def g50_12 (N:Nat) (k0:Int→Option R) (x0:V1) (x1 x2:Int):Option R:=
l50_12 (fun y0 y1 y2=>k0 y1) N x0 x1 x2
theorem t50_12 (x0 x1 x2):exec cl N c50_12 (e200 x0 x1 x2) K=(g50_12 N (fun y0=>K (.exit 0) [(4,.v U2 y0)]) x0 x1 x2):=by
 simp only [c50_12,exec_out,exec_loop,kp50_2,lt50_12,kp50_4]
 rfl
theorem kp50_5 (x0):keep [4] [(4,.v U2 x0)]=[(4,.v U2 x0)]:=by kernel_rfl
def g50_14 (k0:Int→Bool→Option R) (x0:Int):Option R:=
k0 x0 true
theorem t50_14 (x0):exec cl N c50_14 [(4,.v U2 x0)] K=(g50_14 (fun y0 y1=>K .normal (e13 y0 y1)) x0):=by
 kernel_rfl
def g50_15 (N:Nat) (S66:V1→Option (Int)) (k0:Int→Bool→Option R) (k1:Int→Bool→Option R) (x0:V1):Option R:=
(g50_0 (g50_1 S66 (fun y0 y1=>brB y1 (g50_2 k0 y0 y1) ((g50_4 (g50_5 (g50_12 N ((g50_14 k1))))) y0))) x0)
theorem t50_15 (S66) (h66:(ctr66 S66).holds cl) (x0):exec cl N c50_15 [(0,.v .str x0)] K=(g50_15 N S66 (fun y0 y1=>K .ret (e14 y0 y1)) (fun y0 y1=>K .ret (e13 y0 y1)) x0):=by
 simp only [c50_15,xS,sN,sE,sR,t50_0,t50_1 S66 h66,c50_3,exec_out,exec_cond',hb50_0,Option.bind_some,bT,bF,t50_2,exec_ret,exec_skip,kp50_0,kp50_1,t50_4,t50_5,c50_13,xB,t50_12,blockK_normal,blockK_ret,blockK_eq,kp50_5,t50_14]
 rfl
theorem rk50_0 (y0 y1):retK d50 .ret (e14 y0 y1)=some [.v U2 y0,.v .bool y1]:=by kernel_rfl
theorem rk50_1 (y0 y1):retK d50 .ret (e13 y0 y1)=some [.v U2 y0,.v .bool y1]:=by kernel_rfl
def g50 (N:Nat) (S66:V1→Option (Int)) (x0:V1) (k:Int→Bool→Option R):Option R:=
(g50_15 N S66 k k x0)
theorem gen50 (S66) (h66:(ctr66 S66).holds cl) (x0) (k:List E→Option R):exec cl N c50 [(0,.v .str x0)] (fun e env=>(retK d50 e env).bind k)=g50 N S66 x0 (fun r0 r1=>k [.v U2 r0,.v .bool r1]):=by
 simp only [c50,t50_15 S66 h66,rk50_0,rk50_1,Option.bind_some]
 rfl
def ctr50 (S:V1→Option V3):Ctr:=cv1 50 .str S fun b=> [.v U2 b.1,.v .bool b.2]
def S50 (N:Nat) (x0:V1):Option V3:=g50 N (S66 N) x0 (fun (r0:Int) (r1:Bool)=>some (r0,r1))
def g27_29 (k0:V16→Int→V15→V15→Option R) (x0:V16) (x1:Int):Option R:=
k0 x0 x1 ((0:Int),((0:Int),([],()))) ((0:Int),((0:Int),([],())))
theorem t27_29 (x0 x1):exec cl N c27_29 (e192 x0 x1) K=(g27_29 (fun y0 y1 y2 y3=>exec cl N (.seq (.seq c27_2 c27_4) (.seq (.seq c27_5 c27_7) c27_28)) (e202 y0 y1 y2 y3) K) x0 x1):=by
 kernel_rfl
def g27_2 (S25:V16→Int→Int→V1→Option (Bool)) (k0:V16→Int→V15→V15→Bool→Option R) (x0:V16) (x1:Int) (x2 x3:V15):Option R:=
(S25 x0 x1 (1:Int) ([]:List UInt8)).bind fun r796=>
k0 x0 x1 x2 x3 (!r796)
theorem t27_2 (S25) (h25:(ctr25 S25).holds cl) (x0 x1 x2 x3):exec cl N c27_2 (e202 x0 x1 x2 x3) K=(g27_2 S25 (fun y0 y1 y2 y3 y4=>K .normal (e203 y0 y1 y2 y3 y4)) x0 x1 x2 x3):=by
 rw [←put_eq h25]
 kernel_rfl
def g27_3 (k0:V15→Int→Bool→Option R) (x0:V16) (x1:Int) (x2 x3:V15) (x4:Bool):Option R:=
k0 x3 x1 false
theorem t27_3 (x0 x1 x2 x3 x4):exec cl N c27_3 (e203 x0 x1 x2 x3 x4) K=(g27_3 (fun y0 y1 y2=>K .normal (e204 y0 y1 y2)) x0 x1 x2 x3 x4):=by
 kernel_rfl
theorem kp27_0 (x0 x1 x2):keep [0,1,4,5,6,7] (e204 x0 x1 x2)=(e205 x0 x1 x2):=by kernel_rfl
theorem kp27_1 (x0 x1 x2 x3 x4):keep [0,1,4,5,6,7] (e203 x0 x1 x2 x3 x4)=(e206 x0 x1 x2 x3):=by kernel_rfl
theorem hb27_0 (x0 x1 x2 x3 x4):boolOf? (ent (e203 x0 x1 x2 x3 x4) (.t 11))=some x4:=by kernel_rfl
def g27_5 (S25:V16→Int→Int→V1→Option (Bool)) (k0:V16→Int→V15→V15→Bool→Option R) (x0:V16) (x1:Int) (x2 x3:V15):Option R:=
(S25 x0 (IntKind.i64.wrap (x1+(1:Int))) (2:Int) ([]:List UInt8)).bind fun r798=>
k0 x0 x1 x2 x3 (!r798)
theorem t27_5 (S25) (h25:(ctr25 S25).holds cl) (x0 x1 x2 x3):exec cl N c27_5 (e206 x0 x1 x2 x3) K=(g27_5 S25 (fun y0 y1 y2 y3 y4=>K .normal (e207 y0 y1 y2 y3 y4)) x0 x1 x2 x3):=by
 rw [←put_eq h25]
 kernel_rfl
def g27_6 (k0:V15→Int→Bool→Option R) (x0:V16) (x1:Int) (x2 x3:V15) (x4:Bool):Option R:=
k0 x3 (IntKind.i64.wrap (x1+(1:Int))) false
theorem t27_6 (x0 x1 x2 x3 x4):exec cl N c27_6 (e207 x0 x1 x2 x3 x4) K=(g27_6 (fun y0 y1 y2=>K .normal (e204 y0 y1 y2)) x0 x1 x2 x3 x4):=by
 kernel_rfl
theorem kp27_2 (x0 x1 x2 x3 x4):keep [0,1,4,5,6,7] (e207 x0 x1 x2 x3 x4)=(e206 x0 x1 x2 x3):=by kernel_rfl
theorem hb27_1 (x0 x1 x2 x3 x4):boolOf? (ent (e207 x0 x1 x2 x3 x4) (.t 18))=some x4:=by kernel_rfl
def g27_28 (S50:V1→Option V3) (k0:V16→Int→V15→V15→Option R) (x0:V16) (x1:Int) (x2 x3:V15):Option R:=
let v802:Int:=(IntKind.i64.wrap (x1+(1:Int)))
if 0≤v802∧v802 < (x0.length:Int) then
(S50 ((x0.getD v802.toNat ((0:Int),([],((0:Int),())))).2.1)).bind fun r803=>
k0 x0 (IntKind.i64.wrap (x1+(2:Int))) x2 (x3.1,(r803.1,x3.2.2))
else none
theorem t27_28 (S50) (h50:(ctr50 S50).holds cl) (x0 x1 x2 x3):exec cl N c27_28 (e206 x0 x1 x2 x3) K=(g27_28 S50 (fun y0 y1 y2 y3=>exec cl N (.seq c27_23 (.seq (.seq c27_24 c27_26) (.seq c27_27 .ret))) (e202 y0 y1 y2 y3) K) x0 x1 x2 x3):=by
 rw [←put_eq h50]
 kernel_rfl
def g27_10 (S25:V16→Int→Int→V1→Option (Bool)) (k0:V16→Int→V15→V15→Bool→Option R) (x0:V16) (x1:Int) (x2 x3:V15):Option R:=
(S25 x0 x1 (1:Int) ([105,110]:List UInt8)).bind fun r805=>
k0 x0 x1 x2 x3 r805
theorem t27_10 (S25) (h25:(ctr25 S25).holds cl) (x0 x1 x2 x3):exec cl N c27_10 (e202 x0 x1 x2 x3) K=(g27_10 S25 (fun y0 y1 y2 y3 y4=>K .normal (e208 y0 y1 y2 y3 y4)) x0 x1 x2 x3):=by
 rw [←put_eq h25]
 kernel_rfl
theorem kp27_3 (x0 x1 x2 x3 x4):keep [0,1,4,7] (e208 x0 x1 x2 x3 x4)=(e202 x0 x1 x2 x3):=by kernel_rfl
def g27_11 (S25:V16→Int→Int→V1→Option (Bool)) (k0:V16→Int→V15→V15→Bool→Option R) (x0:V16) (x1:Int) (x2 x3:V15):Option R:=
(S25 x0 (IntKind.i64.wrap (x1+(1:Int))) (3:Int) ([]:List UInt8)).bind fun r807=>
k0 x0 x1 x2 x3 (!r807)
theorem t27_11 (S25) (h25:(ctr25 S25).holds cl) (x0 x1 x2 x3):exec cl N c27_11 (e202 x0 x1 x2 x3) K=(g27_11 S25 (fun y0 y1 y2 y3 y4=>K .normal (e209 y0 y1 y2 y3 y4)) x0 x1 x2 x3):=by
 rw [←put_eq h25]
 kernel_rfl
def g27_12 (k0:V15→Int→Bool→Option R) (x0:V16) (x1:Int) (x2 x3:V15) (x4:Bool):Option R:=
k0 x3 (IntKind.i64.wrap (x1+(1:Int))) false
theorem t27_12 (x0 x1 x2 x3 x4):exec cl N c27_12 (e209 x0 x1 x2 x3 x4) K=(g27_12 (fun y0 y1 y2=>K .normal (e204 y0 y1 y2)) x0 x1 x2 x3 x4):=by
 kernel_rfl
theorem kp27_4 (x0 x1 x2 x3 x4):keep [0,1,4,5,6,7] (e209 x0 x1 x2 x3 x4)=(e206 x0 x1 x2 x3):=by kernel_rfl
theorem hb27_2 (x0 x1 x2 x3 x4):boolOf? (ent (e209 x0 x1 x2 x3 x4) (.t 42))=some x4:=by kernel_rfl
def g27_18 (S25:V16→Int→Int→V1→Option (Bool)) (k0:V16→Int→V15→V15→Bool→Option R) (x0:V16) (x1:Int) (x2 x3:V15):Option R:=
let v812:Int:=(IntKind.i64.wrap (x1+(1:Int)))
if 0≤v812∧v812 < (x0.length:Int) then
if x3.2.2.1.length+[(x0.getD v812.toNat ((0:Int),([],((0:Int),())))).2.1].length≤8796093022208 then
let v813:Int:=(IntKind.i64.wrap (x1+(2:Int)))
(S25 x0 v813 (4:Int) ([44]:List UInt8)).bind fun r814=>
k0 x0 v813 x2 (x3.1,(x3.2.1,((x3.2.2.1++[(x0.getD v812.toNat ((0:Int),([],((0:Int),())))).2.1]),x3.2.2.2))) (!r814)
else none
else none
theorem t27_18 (S25) (h25:(ctr25 S25).holds cl) (x0 x1 x2 x3):exec cl N c27_18 (e206 x0 x1 x2 x3) K=(g27_18 S25 (fun y0 y1 y2 y3 y4=>exec cl N c27_17 (e210 y0 y1 y2 y3 y4) K) x0 x1 x2 x3):=by
 rw [←put_eq h25]
 kernel_rfl
theorem kp27_5 (x0 x1 x2 x3 x4):keep [0,1,4,7] (e210 x0 x1 x2 x3 x4)=(e202 x0 x1 x2 x3):=by kernel_rfl
theorem hb27_3 (x0 x1 x2 x3 x4):boolOf? (ent (e210 x0 x1 x2 x3 x4) (.t 62))=some x4:=by kernel_rfl
theorem kp27_6 (x0 x1 x2):keep [0,1,4,5,6,7] (e205 x0 x1 x2)=(e205 x0 x1 x2):=by kernel_rfl
theorem kp27_7 (x0 x1 x2 x3):keep [0,1,4,5,6,7] (e202 x0 x1 x2 x3)=(e206 x0 x1 x2 x3):=by kernel_rfl
def g27_19 (S25:V16→Int→Int→V1→Option (Bool)) (k0:V15→Int→Bool→Option R) (k1:V16→Int→V15→V15→Option R) (k2:V16→Int→V15→V15→Option R) (x0:V16) (x1:Int) (x2 x3:V15):Option R:=
(g27_11 S25 (fun y0 y1 y2 y3 y4=>brB y4 (g27_12 k0 y0 y1 y2 y3 y4) ((g27_18 S25 (fun y0 y1 y2 y3 y4=>brB y4 (k1 y0 y1 y2 y3) (k2 y0 y1 y2 y3))) y0 y1 y2 y3)) x0 x1 x2 x3)
theorem t27_19 (S25) (h25:(ctr25 S25).holds cl) (x0 x1 x2 x3):exec cl N c27_19 (e202 x0 x1 x2 x3) K=(g27_19 S25 (fun y0 y1 y2=>K .ret (e205 y0 y1 y2)) (fun y0 y1 y2 y3=>K (.exit 0) (e206 y0 y1 y2 y3)) (fun y0 y1 y2 y3=>K .normal (e206 y0 y1 y2 y3)) x0 x1 x2 x3):=by
 simp only [c27_19,exec_out,xB,xS,sN,sE,sR,t27_11 S25 h25,c27_13,exec_cond',hb27_2,Option.bind_some,bT,bF,t27_12,exec_ret,exec_skip,kp27_0,kp27_4,t27_18 S25 h25,c27_17,hb27_3,exec_exit,kp27_5,blockK_normal,blockK_ret,blockK_eq,blockK_ne 1 0 rfl,kp27_6,kp27_7]
 rfl
theorem kp27_8 (x0 x1 x2 x3):keep [0,1,4,7] (e206 x0 x1 x2 x3)=(e202 x0 x1 x2 x3):=by kernel_rfl
def l27_20 {R:Type} (S25:V16→Int→Int→V1→Option (Bool)) (k0:V15→Int→Bool→Option R) (k1:V16→Int→V15→V15→Option R):Nat→V16→Int→V15→V15→Option R
 | 0,_,_,_,_=>none
 | m+1,x0,x1,x2,x3=>(g27_19 S25 k0 k1 (l27_20 S25 k0 k1 m) x0 x1 x2 x3)
theorem lt27_20 (S25) (h25:(ctr25 S25).holds cl):∀ (m) (x0 x1 x2 x3),iter [0,1,4,7] (fun env K=>exec cl N c27_19 env K) K m (e202 x0 x1 x2 x3)=l27_20 S25 (fun y0 y1 y2=>K .ret (e205 y0 y1 y2)) (fun y0 y1 y2 y3=>K (.exit 0) (e206 y0 y1 y2 y3)) m x0 x1 x2 x3:=by
 intro m
 induction m with
 | zero=>intros; rfl
 | succ m ih=>
   intro x0 x1 x2 x3
   simp only [iter_succ,t27_19 S25 h25,loopK_normal,loopK_exit,loopK_ret,kp27_8,ih]
   rfl
theorem kp27_9 (x0 x1 x2 x3):keep [0,1,4,5,6,7] (e206 x0 x1 x2 x3)=(e206 x0 x1 x2 x3):=by kernel_rfl
def g27_20 (N:Nat) (S25:V16→Int→Int→V1→Option (Bool)) (k0:V15→Int→Bool→Option R) (k1:V16→Int→V15→V15→Option R) (x0:V16) (x1:Int) (x2 x3:V15) (x4:Bool):Option R:=
l27_20 S25 k0 k1 N x0 x1 x2 x3
theorem t27_20 (S25) (h25:(ctr25 S25).holds cl) (x0 x1 x2 x3 x4):exec cl N c27_20 (e208 x0 x1 x2 x3 x4) K=(g27_20 N S25 (fun y0 y1 y2=>K .ret (e205 y0 y1 y2)) (fun y0 y1 y2 y3=>K (.exit 0) (e206 y0 y1 y2 y3)) x0 x1 x2 x3 x4):=by
 simp only [c27_20,exec_out,exec_loop,kp27_3,lt27_20 S25 h25,kp27_6,kp27_9]
 rfl
theorem kp27_10 (x0 x1 x2 x3 x4):keep [0,1,4,5,6,7] (e208 x0 x1 x2 x3 x4)=(e206 x0 x1 x2 x3):=by kernel_rfl
theorem hb27_4 (x0 x1 x2 x3 x4):boolOf? (ent (e208 x0 x1 x2 x3 x4) (.t 37))=some x4:=by kernel_rfl
def g27_23 (N:Nat) (S25:V16→Int→Int→V1→Option (Bool)) (k0:V15→Int→Bool→Option R) (k1:V16→Int→V15→V15→Option R) (x0:V16) (x1:Int) (x2 x3:V15):Option R:=
(g27_10 S25 (fun y0 y1 y2 y3 y4=>brB y4 (g27_20 N S25 k0 k1 y0 y1 y2 y3 y4) (k1 y0 y1 y2 y3)) x0 x1 x2 x3)
theorem t27_23 (S25) (h25:(ctr25 S25).holds cl) (x0 x1 x2 x3):exec cl N c27_23 (e202 x0 x1 x2 x3) K=(g27_23 N S25 (fun y0 y1 y2=>K .ret (e205 y0 y1 y2)) (fun y0 y1 y2 y3=>K .normal (e206 y0 y1 y2 y3)) x0 x1 x2 x3):=by
 simp only [c27_23,xS,sN,sE,sR,t27_10 S25 h25,c27_22,exec_out,exec_cond',hb27_4,Option.bind_some,bT,bF,c27_21,xB,t27_20 S25 h25,blockK_normal,blockK_ret,blockK_eq,kp27_6,kp27_9,exec_skip,kp27_10]
 rfl
def g27_24 (S25:V16→Int→Int→V1→Option (Bool)) (k0:Int→V15→V15→Bool→Option R) (x0:V16) (x1:Int) (x2 x3:V15):Option R:=
(S25 x0 x1 (4:Int) ([59]:List UInt8)).bind fun r815=>
k0 x1 x2 x3 (!r815)
theorem t27_24 (S25) (h25:(ctr25 S25).holds cl) (x0 x1 x2 x3):exec cl N c27_24 (e206 x0 x1 x2 x3) K=(g27_24 S25 (fun y0 y1 y2 y3=>K .normal (e211 y0 y1 y2 y3)) x0 x1 x2 x3):=by
 rw [←put_eq h25]
 kernel_rfl
def g27_25 (k0:V15→Int→Bool→Option R) (x0:Int) (x1 x2:V15) (x3:Bool):Option R:=
k0 x2 x0 false
theorem t27_25 (x0 x1 x2 x3):exec cl N c27_25 (e211 x0 x1 x2 x3) K=(g27_25 (fun y0 y1 y2=>K .normal (e204 y0 y1 y2)) x0 x1 x2 x3):=by
 kernel_rfl
theorem kp27_11 (x0 x1 x2):keep [1,4,5,6,7] (e204 x0 x1 x2)=(e212 x0 x1 x2):=by kernel_rfl
theorem kp27_12 (x0 x1 x2 x3):keep [1,4,5,6,7] (e211 x0 x1 x2 x3)=(e213 x0 x1 x2):=by kernel_rfl
theorem hb27_5 (x0 x1 x2 x3):boolOf? (ent (e211 x0 x1 x2 x3) (.t 66))=some x3:=by kernel_rfl
def g27_27 (k0:V15→Int→Bool→Option R) (x0:Int) (x1 x2:V15):Option R:=
k0 x2 (IntKind.i64.wrap (x0+(1:Int))) true
theorem t27_27 (x0 x1 x2):exec cl N c27_27 (e213 x0 x1 x2) K=(g27_27 (fun y0 y1 y2=>K .normal (e204 y0 y1 y2)) x0 x1 x2):=by
 kernel_rfl
def g27_29b (N:Nat) (S25:V16→Int→Int→V1→Option (Bool)) (S50:V1→Option V3) (k0:V15→Int→Bool→Option R) (k1:V15→Int→Bool→Option R) (k2:V15→Int→Bool→Option R) (x0:V16) (x1:Int):Option R:=
(g27_29 (g27_2 S25 (fun y0 y1 y2 y3 y4=>brB y4 (g27_3 k0 y0 y1 y2 y3 y4) ((g27_5 S25 (fun y0 y1 y2 y3 y4=>brB y4 (g27_6 k0 y0 y1 y2 y3 y4) ((g27_28 S50 (g27_23 N S25 k0 (g27_24 S25 (fun y0 y1 y2 y3=>brB y3 (g27_25 k1 y0 y1 y2 y3) ((g27_27 k2) y0 y1 y2))))) y0 y1 y2 y3))) y0 y1 y2 y3))) x0 x1)
theorem t27_29b (S25) (S50) (h25:(ctr25 S25).holds cl) (h50:(ctr50 S50).holds cl) (x0 x1):exec cl N c27_29 (e192 x0 x1) K=(g27_29b N S25 S50 (fun y0 y1 y2=>K .ret (e205 y0 y1 y2)) (fun y0 y1 y2=>K .ret (e212 y0 y1 y2)) (fun y0 y1 y2=>K .ret (e204 y0 y1 y2)) x0 x1):=by
 simp only [xS,sN,sE,sR,t27_29,t27_2 S25 h25,c27_4,exec_out,exec_cond',hb27_0,Option.bind_some,bT,bF,t27_3,exec_ret,exec_skip,kp27_0,kp27_1,t27_5 S25 h25,c27_7,hb27_1,t27_6,kp27_2,t27_28 S50 h50,t27_23 S25 h25,t27_24 S25 h25,c27_26,hb27_5,t27_25,kp27_11,kp27_12,t27_27]
 rfl
theorem rk27_0 (y0 y1 y2):retK d27 .ret (e205 y0 y1 y2)=some [.v U14 y0,.v U2 y1,.v .bool y2]:=by kernel_rfl
theorem rk27_1 (y0 y1 y2):retK d27 .ret (e212 y0 y1 y2)=some [.v U14 y0,.v U2 y1,.v .bool y2]:=by kernel_rfl
theorem rk27_2 (y0 y1 y2):retK d27 .ret (e204 y0 y1 y2)=some [.v U14 y0,.v U2 y1,.v .bool y2]:=by kernel_rfl
def g27 (N:Nat) (S25:V16→Int→Int→V1→Option (Bool)) (S50:V1→Option V3) (x0:V16) (x1:Int) (k:V15→Int→Bool→Option R):Option R:=
(g27_29b N S25 S50 k k k x0 x1)
theorem gen27 (S25) (S50) (h25:(ctr25 S25).holds cl) (h50:(ctr50 S50).holds cl) (x0 x1) (k:List E→Option R):exec cl N c27 (e192 x0 x1) (fun e env=>(retK d27 e env).bind k)=g27 N S25 S50 x0 x1 (fun r0 r1 r2=>k [.v U14 r0,.v U2 r1,.v .bool r2]):=by
 simp only [c27,t27_29b S25 S50 h25 h50,rk27_0,rk27_1,rk27_2,Option.bind_some]
 rfl
def ctr27 (S:V16→Int→Option V20):Ctr:=cv2 27 U13 U2 S fun b=> [.v U14 b.1,.v U2 b.2.1,.v .bool b.2.2]
def S27 (N:Nat) (x0:V16) (x1:Int):Option V20:=g27 N (S25 N) (S50 N) x0 x1 (fun (r0:V15) (r1:Int) (r2:Bool)=>some (r0,r1,r2))
def g28_0 (k0:Int→Option R) (x0:Int):Option R:=
k0 x0
theorem t28_0 (x0):exec cl N c28_0 [(0,.v U2 x0)] K=(g28_0 (fun y0=>K .normal [(0,.v U2 y0)]) x0):=by
 kernel_rfl
def g28_1 (k0:Int→Bool→Option R) (x0:Int):Option R:=
brB (decide (x0 < (1:Int))) (k0 x0 true) (k0 x0 (decide (x0 > (12:Int))))
theorem t28_1 (x0):exec cl N c28_1 [(0,.v U2 x0)] K=(g28_1 (fun y0 y1=>K .normal (e214 y0 y1)) x0):=by
 kernel_rfl
def g28_2 (k0:V1→Option R) (x0:Int) (x1:Bool):Option R:=
k0 ([]:List UInt8)
theorem t28_2 (x0 x1):exec cl N c28_2 (e214 x0 x1) K=(g28_2 (fun y0=>K .normal [(2,.v .str y0)]) x0 x1):=by
 kernel_rfl
theorem kp28_0 (x0):keep [0,2] [(2,.v .str x0)]=[(0,.dead),(2,.v .str x0)]:=by kernel_rfl
theorem kp28_1 (x0 x1):keep [0,2] (e214 x0 x1)=[(0,.v U2 x0),(2,.dead)]:=by kernel_rfl
theorem hb28_0 (x0 x1):boolOf? (ent (e214 x0 x1) (.t 8))=some x1:=by kernel_rfl
def g28_4 (k0:V1→Option R) (x0:Int):Option R:=
let v831:Int:=(IntKind.i64.wrap (x0 - (1:Int)))
if 0≤v831∧v831 < ([([109,117,116,101]:List UInt8),([110,101,120,116]:List UInt8),([98,114,101,118,105,115]:List UInt8),([105,110,100,105,102,102,101,114,101,110,116]:List UInt8),([108,101,110,103,116,104,101,110]:List UInt8),([115,104,111,114,116,101,110]:List UInt8),([115,121,110,105,122,101,115,105,115]:List UInt8),([101,108,105,115,105,111,110]:List UInt8),([101,99,116,104,108,105,112,115,105,115]:List UInt8),([112,114,111,100,101,108,105,115,105,111,110]:List UInt8),([104,105,97,116,117,115]:List UInt8),([99,111,114,114,101,112,116,105,111,110]:List UInt8)].length:Int) then
if v831.toNat < [([109,117,116,101]:List UInt8),([110,101,120,116]:List UInt8),([98,114,101,118,105,115]:List UInt8),([105,110,100,105,102,102,101,114,101,110,116]:List UInt8),([108,101,110,103,116,104,101,110]:List UInt8),([115,104,111,114,116,101,110]:List UInt8),([115,121,110,105,122,101,115,105,115]:List UInt8),([101,108,105,115,105,111,110]:List UInt8),([101,99,116,104,108,105,112,115,105,115]:List UInt8),([112,114,111,100,101,108,105,115,105,111,110]:List UInt8),([104,105,97,116,117,115]:List UInt8),([99,111,114,114,101,112,116,105,111,110]:List UInt8)].length then
k0 ([([109,117,116,101]:List UInt8),([110,101,120,116]:List UInt8),([98,114,101,118,105,115]:List UInt8),([105,110,100,105,102,102,101,114,101,110,116]:List UInt8),([108,101,110,103,116,104,101,110]:List UInt8),([115,104,111,114,116,101,110]:List UInt8),([115,121,110,105,122,101,115,105,115]:List UInt8),([101,108,105,115,105,111,110]:List UInt8),([101,99,116,104,108,105,112,115,105,115]:List UInt8),([112,114,111,100,101,108,105,115,105,111,110]:List UInt8),([104,105,97,116,117,115]:List UInt8),([99,111,114,114,101,112,116,105,111,110]:List UInt8)].getD v831.toNat [])
else none
else none
theorem t28_4 (x0):exec cl N c28_4 [(0,.v U2 x0),(2,.dead)] K=(g28_4 (fun y0=>K .normal [(2,.v .str y0)]) x0):=by
 kernel_rfl
def g28_5 (k0:V1→Option R) (k1:V1→Option R) (x0:Int):Option R:=
(g28_0 (g28_1 (fun y0 y1=>brB y1 (g28_2 k0 y0 y1) ((g28_4 k1) y0))) x0)
theorem t28_5 (x0):exec cl N c28_5 [(0,.v U2 x0)] K=(g28_5 (fun y0=>K .ret [(0,.dead),(2,.v .str y0)]) (fun y0=>K .ret [(2,.v .str y0)]) x0):=by
 simp only [c28_5,xS,sN,sE,sR,t28_0,t28_1,c28_3,exec_out,exec_cond',hb28_0,Option.bind_some,bT,bF,t28_2,exec_ret,exec_skip,kp28_0,kp28_1,t28_4]
 rfl
theorem rk28_0 (y0):retK d28 .ret [(0,.dead),(2,.v .str y0)]=some [.v .str y0]:=by kernel_rfl
theorem rk28_1 (y0):retK d28 .ret [(2,.v .str y0)]=some [.v .str y0]:=by kernel_rfl
def g28 (x0:Int) (k:V1→Option R):Option R:=
(g28_5 k k x0)
theorem gen28 (x0) (k:List E→Option R):exec cl N c28 [(0,.v U2 x0)] (fun e env=>(retK d28 e env).bind k)=g28 x0 (fun r0=>k [.v .str r0]):=by
 simp only [c28,t28_5,rk28_0,rk28_1,Option.bind_some]
 rfl
def ctr28 (S:Int→Option V5):Ctr:=cv1 28 U2 S fun b=> [.v .str b]
def S28 (N:Nat) (x0:Int):Option V5:=g28 x0 (fun (r0:V1)=>some (r0))
def g40_2 (S58:V1→Option (Int)) (k0:Bool→Option R) (x0:V1):Option R:=
brB (x0 != ([]:List UInt8)) (brB (decide ((x0.length:Int)≤(20:Int))) ((S58 x0).bind fun r847=>
k0 (r847==(x0.length:Int))) (k0 false)) (k0 false)
theorem t40_2 (S58) (h58:(ctr58 S58).holds cl) (x0):exec cl N c40_2 [(0,.v .str x0)] K=(g40_2 S58 (fun y0=>exec cl N .ret [(2,.v .bool y0)] K) x0):=by
 rw [←put_eq h58]
 kernel_rfl
def g40_2b (S58:V1→Option (Int)) (k0:Bool→Option R) (x0:V1):Option R:=
(g40_2 S58 k0 x0)
theorem t40_2b (S58) (h58:(ctr58 S58).holds cl) (x0):exec cl N c40_2 [(0,.v .str x0)] K=(g40_2b S58 (fun y0=>K .ret [(2,.v .bool y0)]) x0):=by
 simp only [xS,sN,sE,sR,t40_2 S58 h58,exec_ret]
 rfl
theorem rk40_0 (y0):retK d40 .ret [(2,.v .bool y0)]=some [.v .bool y0]:=by kernel_rfl
def g40 (S58:V1→Option (Int)) (x0:V1) (k:Bool→Option R):Option R:=
(g40_2b S58 k x0)
theorem gen40 (S58) (h58:(ctr58 S58).holds cl) (x0) (k:List E→Option R):exec cl N c40 [(0,.v .str x0)] (fun e env=>(retK d40 e env).bind k)=g40 S58 x0 (fun r0=>k [.v .bool r0]):=by
 simp only [c40,t40_2b S58 h58,rk40_0,Option.bind_some]
 rfl
def ctr40 (S:V1→Option (Bool)):Ctr:=cv1 40 .str S fun b=> [.v .bool b]
def S40 (N:Nat) (x0:V1):Option (Bool):=g40 (S58 N) x0 (fun (r0:Bool)=>some (r0))
def g75_16 (k0:V1→V0→Option R) (x0:V1):Option R:=
if 0≤(x0.length:Int)∧(x0.length:Int)≤(x0.length:Int)∧(x0.length:Int)≤((140737488355328:Nat):Int) then
k0 x0 (List.replicate (x0.length:Int).toNat (0:Int))
else none
theorem t75_16 (x0):exec cl N c75_16 [(0,.v .str x0)] K=(g75_16 (fun y0 y1=>exec cl N (.seq (.seq c75_2 c75_14) (.seq c75_15 .ret)) [(0,.v .str y0),(3,.own true 5 U0 .no y1)] K) x0):=by
 kernel_rfl
def g75_2 (k0:V1→V0→Int→Option R) (x0:V1) (x1:V0):Option R:=
k0 x0 x1 (0:Int)
theorem t75_2 (x0 x1):exec cl N c75_2 [(0,.v .str x0),(3,.own true 5 U0 .no x1)] K=(g75_2 (fun y0 y1 y2=>K .normal (e215 y0 y1 y2)) x0 x1):=by
 kernel_rfl
theorem kp75_0 (x0 x1 x2):keep [0,3,4] (e215 x0 x1 x2)=(e215 x0 x1 x2):=by kernel_rfl
def g75_3 (k0:V1→V0→Int→Bool→Option R) (x0:V1) (x1:V0) (x2:Int):Option R:=
k0 x0 x1 x2 (decide (x2 < (x0.length:Int)))
theorem t75_3 (x0 x1 x2):exec cl N c75_3 (e215 x0 x1 x2) K=(g75_3 (fun y0 y1 y2 y3=>K .normal (e216 y0 y1 y2 y3)) x0 x1 x2):=by
 kernel_rfl
theorem kp75_1 (x0 x1 x2 x3):keep [0,3,4] (e216 x0 x1 x2 x3)=(e215 x0 x1 x2):=by kernel_rfl
theorem hb75_0 (x0 x1 x2 x3):boolOf? (ent (e216 x0 x1 x2 x3) (.t 11))=some x3:=by kernel_rfl
def g75_9 (k0:V1→V0→Int→Bool→Option R) (x0:V1) (x1:V0) (x2:Int):Option R:=
if 0≤x2∧x2 < (x0.length:Int) then
let v874:Int:=((x0.getD x2.toNat 0).toNat:Int)
if 0≤x2∧x2 < (x1.length:Int) then
if x2.toNat < x1.length then
if 0≤x2∧x2 < (x0.length:Int) then
brB (decide (((x0.getD x2.toNat 0).toNat:Int)≥(65:Int))) (if 0≤x2∧x2 < (x0.length:Int) then
k0 x0 (x1.set x2.toNat v874) x2 (decide (((x0.getD x2.toNat 0).toNat:Int)≤(90:Int)))
else none) (k0 x0 (x1.set x2.toNat v874) x2 false)
else none
else none
else none
else none
theorem t75_9 (x0 x1 x2):exec cl N c75_9 (e215 x0 x1 x2) K=(g75_9 (fun y0 y1 y2 y3=>exec cl N c75_8 (e217 y0 y1 y2 y3) K) x0 x1 x2):=by
 kernel_rfl
def g75_7 (k0:V1→V0→Int→Option R) (x0:V1) (x1:V0) (x2:Int) (x3:Bool):Option R:=
if 0≤x2∧x2 < (x0.length:Int) then
if 0≤x2∧x2 < (x1.length:Int) then
if x2.toNat < x1.length then
k0 x0 (x1.set x2.toNat (IntKind.u8.wrap ((IntKind.u8.wrap (((x0.getD x2.toNat 0).toNat:Int) - (65:Int)))+(97:Int)))) x2
else none
else none
else none
theorem t75_7 (x0 x1 x2 x3):exec cl N c75_7 (e217 x0 x1 x2 x3) K=(g75_7 (fun y0 y1 y2=>K .normal (e215 y0 y1 y2)) x0 x1 x2 x3):=by
 kernel_rfl
theorem kp75_2 (x0 x1 x2 x3):keep [0,3,4] (e217 x0 x1 x2 x3)=(e215 x0 x1 x2):=by kernel_rfl
theorem hb75_1 (x0 x1 x2 x3):boolOf? (ent (e217 x0 x1 x2 x3) (.t 29))=some x3:=by kernel_rfl
def g75_10 (k0:V1→V0→Int→Option R) (x0:V1) (x1:V0) (x2:Int):Option R:=
(g75_9 (fun y0 y1 y2 y3=>brB y3 (g75_7 k0 y0 y1 y2 y3) (k0 y0 y1 y2)) x0 x1 x2)
theorem t75_10 (x0 x1 x2):exec cl N c75_10 (e215 x0 x1 x2) K=(g75_10 (fun y0 y1 y2=>K .normal (e215 y0 y1 y2)) x0 x1 x2):=by
 simp only [c75_10,exec_out,xB,xS,sN,sE,sR,t75_9,c75_8,exec_cond',hb75_1,Option.bind_some,bT,bF,t75_7,exec_skip,kp75_0,kp75_2,blockK_normal,blockK_ret,blockK_eq]
 rfl
def g75_11 (k0:V1→V0→Int→Option R) (x0:V1) (x1:V0) (x2:Int):Option R:=
k0 x0 x1 (IntKind.i64.wrap (x2+(1:Int)))
theorem t75_11 (x0 x1 x2):exec cl N c75_11 (e215 x0 x1 x2) K=(g75_11 (fun y0 y1 y2=>K .normal (e215 y0 y1 y2)) x0 x1 x2):=by
 kernel_rfl
def g75_12 (k0:V1→V0→Int→Option R) (k1:V1→V0→Int→Option R) (x0:V1) (x1:V0) (x2:Int):Option R:=
(g75_3 (fun y0 y1 y2 y3=>brB y3 ((g75_10 (g75_11 k0)) y0 y1 y2) (k1 y0 y1 y2)) x0 x1 x2)
theorem t75_12 (x0 x1 x2):exec cl N c75_12 (e215 x0 x1 x2) K=(g75_12 (fun y0 y1 y2=>K .normal (e215 y0 y1 y2)) (fun y0 y1 y2=>K (.exit 0) (e215 y0 y1 y2)) x0 x1 x2):=by
 simp only [c75_12,xS,sN,sE,sR,t75_3,c75_4,exec_out,exec_cond',hb75_0,Option.bind_some,bT,bF,exec_skip,exec_exit,kp75_1,t75_10,t75_11]
 rfl
def l75_13 {R:Type} (k0:V1→V0→Int→Option R):Nat→V1→V0→Int→Option R
 | 0,_,_,_=>none
 | m+1,x0,x1,x2=>(g75_12 (l75_13 k0 m) k0 x0 x1 x2)
theorem lt75_13:∀ (m) (x0 x1 x2),iter [0,3,4] (fun env K=>exec cl N c75_12 env K) K m (e215 x0 x1 x2)=l75_13 (fun y0 y1 y2=>K (.exit 0) (e215 y0 y1 y2)) m x0 x1 x2:=by
 intro m
 induction m with
 | zero=>intros; rfl
 | succ m ih=>
   intro x0 x1 x2
   simp only [iter_succ,t75_12,loopK_normal,loopK_exit,loopK_ret,kp75_0,ih]
   rfl
theorem kp75_3 (x0 x1 x2):keep [3] (e215 x0 x1 x2)=(e218 x1):=by kernel_rfl
def g75_13 (N:Nat) (k0:V0→Option R) (x0:V1) (x1:V0) (x2:Int):Option R:=
l75_13 (fun y0 y1 y2=>k0 y1) N x0 x1 x2
theorem t75_13 (x0 x1 x2):exec cl N c75_13 (e215 x0 x1 x2) K=(g75_13 N (fun y0=>K (.exit 0) (e218 y0)) x0 x1 x2):=by
 simp only [c75_13,exec_out,exec_loop,kp75_0,lt75_13,kp75_3]
 rfl
theorem kp75_4 (x0):keep [3] (e218 x0)=(e218 x0):=by kernel_rfl
def g75_15 (k0:V1→Option R) (x0:V0):Option R:=
k0 (x0.map fun n=>UInt8.ofNat n.toNat)
theorem t75_15 (x0):exec cl N c75_15 (e218 x0) K=(g75_15 (fun y0=>K .normal [(2,.v .str y0)]) x0):=by
 kernel_rfl
def g75_16b (N:Nat) (k0:V1→Option R) (x0:V1):Option R:=
(g75_16 (g75_2 (g75_13 N ((g75_15 k0)))) x0)
theorem t75_16b (x0):exec cl N c75_16 [(0,.v .str x0)] K=(g75_16b N (fun y0=>K .ret [(2,.v .str y0)]) x0):=by
 simp only [xS,sN,sE,sR,t75_16,t75_2,c75_14,exec_out,xB,t75_13,blockK_normal,blockK_ret,blockK_eq,kp75_4,t75_15,exec_ret]
 rfl
theorem rk75_0 (y0):retK d75 .ret [(2,.v .str y0)]=some [.v .str y0]:=by kernel_rfl
def g75 (N:Nat) (x0:V1) (k:V1→Option R):Option R:=
(g75_16b N k x0)
theorem gen75 (x0) (k:List E→Option R):exec cl N c75 [(0,.v .str x0)] (fun e env=>(retK d75 e env).bind k)=g75 N x0 (fun r0=>k [.v .str r0]):=by
 simp only [c75,t75_16b,rk75_0,Option.bind_some]
 rfl
def ctr75 (S:V1→Option V5):Ctr:=cv1 75 .str S fun b=> [.v .str b]
def S75 (N:Nat) (x0:V1):Option V5:=g75 N x0 (fun (r0:V1)=>some (r0))
def g76_0 (k0:Int→Option R) (x0:Int):Option R:=
k0 x0
theorem t76_0 (x0):exec cl N c76_0 [(0,.v U0 x0)] K=(g76_0 (fun y0=>K .normal [(0,.v U0 y0)]) x0):=by
 kernel_rfl
def g76_1 (k0:Int→Bool→Option R) (x0:Int):Option R:=
brB (decide (x0 < (32:Int))) (k0 x0 true) (k0 x0 (decide (x0 > (126:Int))))
theorem t76_1 (x0):exec cl N c76_1 [(0,.v U0 x0)] K=(g76_1 (fun y0 y1=>K .normal (e219 y0 y1)) x0):=by
 kernel_rfl
def g76_2 (k0:Bool→Option R) (x0:Int) (x1:Bool):Option R:=
k0 false
theorem t76_2 (x0 x1):exec cl N c76_2 (e219 x0 x1) K=(g76_2 (fun y0=>K .normal [(2,.v .bool y0)]) x0 x1):=by
 kernel_rfl
theorem kp76_0 (x0):keep [0,2] [(2,.v .bool x0)]=(e220 x0):=by kernel_rfl
theorem kp76_1 (x0 x1):keep [0,2] (e219 x0 x1)=[(0,.v U0 x0),(2,.dead)]:=by kernel_rfl
theorem hb76_0 (x0 x1):boolOf? (ent (e219 x0 x1) (.t 9))=some x1:=by kernel_rfl
def g76_4 (k0:Int→Int→Option R) (x0:Int):Option R:=
k0 x0 (0:Int)
theorem t76_4 (x0):exec cl N c76_4 [(0,.v U0 x0),(2,.dead)] K=(g76_4 (fun y0 y1=>K .normal (e172 y0 y1)) x0):=by
 kernel_rfl
theorem kp76_2 (x0 x1):keep [0,3] (e172 x0 x1)=(e172 x0 x1):=by kernel_rfl
def g76_5 (k0:Int→Int→Bool→Option R) (x0 x1:Int):Option R:=
k0 x0 x1 (decide (x1 < (15:Int)))
theorem t76_5 (x0 x1):exec cl N c76_5 (e172 x0 x1) K=(g76_5 (fun y0 y1 y2=>K .normal (e174 y0 y1 y2)) x0 x1):=by
 kernel_rfl
theorem kp76_3 (x0 x1 x2):keep [0,3] (e174 x0 x1 x2)=(e172 x0 x1):=by kernel_rfl
theorem hb76_1 (x0 x1 x2):boolOf? (ent (e174 x0 x1 x2) (.t 11))=some x2:=by kernel_rfl
def g76_7 (k0:Int→Int→Bool→Option R) (x0 x1:Int):Option R:=
if 0≤x1∧x1 < (([32,46,44,59,58,33,63,34,45,91,93,60,62,123,125]:List UInt8).length:Int) then
k0 x0 x1 (((([32,46,44,59,58,33,63,34,45,91,93,60,62,123,125]:List UInt8).getD x1.toNat 0).toNat:Int)==x0)
else none
theorem t76_7 (x0 x1):exec cl N c76_7 (e172 x0 x1) K=(g76_7 (fun y0 y1 y2=>K .normal (e221 y0 y1 y2)) x0 x1):=by
 kernel_rfl
def g76_8 (k0:Bool→Option R) (x0 x1:Int) (x2:Bool):Option R:=
k0 false
theorem t76_8 (x0 x1 x2):exec cl N c76_8 (e221 x0 x1 x2) K=(g76_8 (fun y0=>K .normal [(2,.v .bool y0)]) x0 x1 x2):=by
 kernel_rfl
theorem kp76_4 (x0):keep [0,2,3] [(2,.v .bool x0)]=(e175 x0):=by kernel_rfl
theorem kp76_5 (x0 x1 x2):keep [0,2,3] (e221 x0 x1 x2)=(e176 x0 x1):=by kernel_rfl
theorem hb76_2 (x0 x1 x2):boolOf? (ent (e221 x0 x1 x2) (.t 17))=some x2:=by kernel_rfl
theorem kp76_6 (x0):keep [0,2,3] (e175 x0)=(e175 x0):=by kernel_rfl
theorem kp76_7 (x0 x1):keep [0,2,3] (e176 x0 x1)=(e176 x0 x1):=by kernel_rfl
def g76_11 (k0:Int→Int→Option R) (x0 x1:Int):Option R:=
k0 x0 (IntKind.i64.wrap (x1+(1:Int)))
theorem t76_11 (x0 x1):exec cl N c76_11 (e176 x0 x1) K=(g76_11 (fun y0 y1=>K .normal (e172 y0 y1)) x0 x1):=by
 kernel_rfl
def g76_12 (k0:Bool→Option R) (k1:Int→Int→Option R) (k2:Int→Int→Option R) (x0 x1:Int):Option R:=
(g76_5 (fun y0 y1 y2=>brB y2 ((g76_7 (fun y0 y1 y2=>brB y2 (g76_8 k0 y0 y1 y2) (((g76_11 k1)) y0 y1))) y0 y1) (k2 y0 y1)) x0 x1)
theorem t76_12 (x0 x1):exec cl N c76_12 (e172 x0 x1) K=(g76_12 (fun y0=>K .ret (e175 y0)) (fun y0 y1=>K .normal (e172 y0 y1)) (fun y0 y1=>K (.exit 0) (e172 y0 y1)) x0 x1):=by
 simp only [c76_12,xS,sN,sE,sR,t76_5,c76_6,exec_out,exec_cond',hb76_1,Option.bind_some,bT,bF,exec_skip,exec_exit,kp76_3,c76_10,xB,t76_7,c76_9,hb76_2,t76_8,exec_ret,kp76_4,kp76_5,blockK_normal,blockK_ret,blockK_eq,kp76_6,kp76_7,t76_11]
 rfl
def l76_13 {R:Type} (k0:Bool→Option R) (k1:Int→Int→Option R):Nat→Int→Int→Option R
 | 0,_,_=>none
 | m+1,x0,x1=>(g76_12 k0 (l76_13 k0 k1 m) k1 x0 x1)
theorem lt76_13:∀ (m) (x0 x1),iter [0,3] (fun env K=>exec cl N c76_12 env K) K m (e172 x0 x1)=l76_13 (fun y0=>K .ret (e175 y0)) (fun y0 y1=>K (.exit 0) (e172 y0 y1)) m x0 x1:=by
 intro m
 induction m with
 | zero=>intros; rfl
 | succ m ih=>
   intro x0 x1
   simp only [iter_succ,t76_12,loopK_normal,loopK_exit,loopK_ret,kp76_2,ih]
   rfl
theorem kp76_8 (x0):keep [2] (e175 x0)=[(2,.v .bool x0)]:=by kernel_rfl
theorem kp76_9 (x0 x1):keep [2] (e172 x0 x1)=[(2,.dead)]:=by kernel_rfl
def g76_13 (N:Nat) (k0:Bool→Option R) (k1:Option R) (x0 x1:Int):Option R:=
l76_13 k0 (fun y0 y1=>k1) N x0 x1
theorem t76_13 (x0 x1):exec cl N c76_13 (e172 x0 x1) K=(g76_13 N (fun y0=>K .ret [(2,.v .bool y0)]) (K (.exit 0) [(2,.dead)]) x0 x1):=by
 simp only [c76_13,exec_out,exec_loop,kp76_2,lt76_13,kp76_8,kp76_9]
 rfl
theorem kp76_10 (x0):keep [2] [(2,.v .bool x0)]=[(2,.v .bool x0)]:=by kernel_rfl
theorem kp76_11:keep [2] [(2,.dead)]=[(2,.dead)]:=by kernel_rfl
def g76_15 (k0:Bool→Option R):Option R:=
k0 true
theorem t76_15:exec cl N c76_15 [(2,.dead)] K=(g76_15 (fun y0=>K .normal [(2,.v .bool y0)])):=by
 kernel_rfl
def g76_16 (N:Nat) (k0:Bool→Option R) (k1:Bool→Option R) (x0:Int):Option R:=
(g76_0 (g76_1 (fun y0 y1=>brB y1 (g76_2 k0 y0 y1) ((g76_4 (g76_13 N k1 (g76_15 k1))) y0))) x0)
theorem t76_16 (x0):exec cl N c76_16 [(0,.v U0 x0)] K=(g76_16 N (fun y0=>K .ret (e220 y0)) (fun y0=>K .ret [(2,.v .bool y0)]) x0):=by
 simp only [c76_16,xS,sN,sE,sR,t76_0,t76_1,c76_3,exec_out,exec_cond',hb76_0,Option.bind_some,bT,bF,t76_2,exec_ret,exec_skip,kp76_0,kp76_1,t76_4,c76_14,xB,t76_13,blockK_normal,blockK_ret,blockK_eq,kp76_10,kp76_11,t76_15]
 rfl
theorem rk76_0 (y0):retK d76 .ret (e220 y0)=some [.v .bool y0]:=by kernel_rfl
theorem rk76_1 (y0):retK d76 .ret [(2,.v .bool y0)]=some [.v .bool y0]:=by kernel_rfl
def g76 (N:Nat) (x0:Int) (k:Bool→Option R):Option R:=
(g76_16 N k k x0)
theorem gen76 (x0) (k:List E→Option R):exec cl N c76 [(0,.v U0 x0)] (fun e env=>(retK d76 e env).bind k)=g76 N x0 (fun r0=>k [.v .bool r0]):=by
 simp only [c76,t76_16,rk76_0,rk76_1,Option.bind_some]
 rfl
def ctr76 (S:Int→Option (Bool)):Ctr:=cv1 76 U0 S fun b=> [.v .bool b]
def S76 (N:Nat) (x0:Int):Option (Bool):=g76 N x0 (fun (r0:Bool)=>some (r0))
def g59_0 (k0:V1→Option R) (x0:V1):Option R:=
k0 x0
theorem t59_0 (x0):exec cl N c59_0 [(0,.v .str x0)] K=(g59_0 (fun y0=>K .normal [(0,.v .str y0)]) x0):=by
 kernel_rfl
def g59_1 (k0:V1→Bool→Option R) (x0:V1):Option R:=
k0 x0 (decide ((x0.length:Int) > (16:Int)))
theorem t59_1 (x0):exec cl N c59_1 [(0,.v .str x0)] K=(g59_1 (fun y0 y1=>K .normal (e222 y0 y1)) x0):=by
 kernel_rfl
def g59_2 (k0:Int→Option R) (x0:V1) (x1:Bool):Option R:=
k0 (3:Int)
theorem t59_2 (x0 x1):exec cl N c59_2 (e222 x0 x1) K=(g59_2 (fun y0=>K .normal [(2,.v U2 y0)]) x0 x1):=by
 kernel_rfl
theorem kp59_0 (x0):keep [0,2] [(2,.v U2 x0)]=(e1 x0):=by kernel_rfl
theorem kp59_1 (x0 x1):keep [0,2] (e222 x0 x1)=(e2 x0):=by kernel_rfl
theorem hb59_0 (x0 x1):boolOf? (ent (e222 x0 x1) (.t 6))=some x1:=by kernel_rfl
def g59_4 (S75:V1→Option V5) (k0:V1→Bool→Option R) (x0:V1):Option R:=
brB (x0==([]:List UInt8)) (k0 x0 true) ((S75 x0).bind fun r901=>
k0 x0 (r901 != x0))
theorem t59_4 (S75) (h75:(ctr75 S75).holds cl) (x0):exec cl N c59_4 (e2 x0) K=(g59_4 S75 (fun y0 y1=>K .normal (e223 y0 y1)) x0):=by
 rw [←put_eq h75]
 kernel_rfl
def g59_5 (k0:Int→Option R) (x0:V1) (x1:Bool):Option R:=
k0 (2:Int)
theorem t59_5 (x0 x1):exec cl N c59_5 (e223 x0 x1) K=(g59_5 (fun y0=>K .normal [(2,.v U2 y0)]) x0 x1):=by
 kernel_rfl
theorem kp59_2 (x0 x1):keep [0,2] (e223 x0 x1)=(e2 x0):=by kernel_rfl
theorem hb59_1 (x0 x1):boolOf? (ent (e223 x0 x1) (.t 14))=some x1:=by kernel_rfl
def g59_7 (k0:V1→Int→Option R) (x0:V1):Option R:=
k0 x0 (0:Int)
theorem t59_7 (x0):exec cl N c59_7 (e2 x0) K=(g59_7 (fun y0 y1=>K .normal (e3 y0 y1)) x0):=by
 kernel_rfl
theorem kp59_3 (x0 x1):keep [0,3] (e3 x0 x1)=(e3 x0 x1):=by kernel_rfl
def g59_8 (k0:V1→Int→Bool→Option R) (x0:V1) (x1:Int):Option R:=
k0 x0 x1 (decide (x1 < (x0.length:Int)))
theorem t59_8 (x0 x1):exec cl N c59_8 (e3 x0 x1) K=(g59_8 (fun y0 y1 y2=>K .normal (e224 y0 y1 y2)) x0 x1):=by
 kernel_rfl
theorem kp59_4 (x0 x1 x2):keep [0,3] (e224 x0 x1 x2)=(e3 x0 x1):=by kernel_rfl
theorem hb59_2 (x0 x1 x2):boolOf? (ent (e224 x0 x1 x2) (.t 18))=some x2:=by kernel_rfl
def g59_10 (S76:Int→Option (Bool)) (k0:V1→Int→Bool→Option R) (x0:V1) (x1:Int):Option R:=
if 0≤x1∧x1 < (x0.length:Int) then
(S76 ((x0.getD x1.toNat 0).toNat:Int)).bind fun r904=>
k0 x0 x1 (!r904)
else none
theorem t59_10 (S76) (h76:(ctr76 S76).holds cl) (x0 x1):exec cl N c59_10 (e3 x0 x1) K=(g59_10 S76 (fun y0 y1 y2=>K .normal (e164 y0 y1 y2)) x0 x1):=by
 rw [←put_eq h76]
 kernel_rfl
def g59_11 (k0:Int→Option R) (x0:V1) (x1:Int) (x2:Bool):Option R:=
k0 (2:Int)
theorem t59_11 (x0 x1 x2):exec cl N c59_11 (e164 x0 x1 x2) K=(g59_11 (fun y0=>K .normal [(2,.v U2 y0)]) x0 x1 x2):=by
 kernel_rfl
theorem kp59_5 (x0):keep [0,2,3] [(2,.v U2 x0)]=(e8 x0):=by kernel_rfl
theorem kp59_6 (x0 x1 x2):keep [0,2,3] (e164 x0 x1 x2)=(e6 x0 x1):=by kernel_rfl
theorem hb59_3 (x0 x1 x2):boolOf? (ent (e164 x0 x1 x2) (.t 25))=some x2:=by kernel_rfl
theorem kp59_7 (x0):keep [0,2,3] (e8 x0)=(e8 x0):=by kernel_rfl
theorem kp59_8 (x0 x1):keep [0,2,3] (e6 x0 x1)=(e6 x0 x1):=by kernel_rfl
def g59_14 (k0:V1→Int→Option R) (x0:V1) (x1:Int):Option R:=
k0 x0 (IntKind.i64.wrap (x1+(1:Int)))
theorem t59_14 (x0 x1):exec cl N c59_14 (e6 x0 x1) K=(g59_14 (fun y0 y1=>K .normal (e3 y0 y1)) x0 x1):=by
 kernel_rfl
def g59_15 (S76:Int→Option (Bool)) (k0:Int→Option R) (k1:V1→Int→Option R) (k2:V1→Int→Option R) (x0:V1) (x1:Int):Option R:=
(g59_8 (fun y0 y1 y2=>brB y2 ((g59_10 S76 (fun y0 y1 y2=>brB y2 (g59_11 k0 y0 y1 y2) (((g59_14 k1)) y0 y1))) y0 y1) (k2 y0 y1)) x0 x1)
theorem t59_15 (S76) (h76:(ctr76 S76).holds cl) (x0 x1):exec cl N c59_15 (e3 x0 x1) K=(g59_15 S76 (fun y0=>K .ret (e8 y0)) (fun y0 y1=>K .normal (e3 y0 y1)) (fun y0 y1=>K (.exit 0) (e3 y0 y1)) x0 x1):=by
 simp only [c59_15,xS,sN,sE,sR,t59_8,c59_9,exec_out,exec_cond',hb59_2,Option.bind_some,bT,bF,exec_skip,exec_exit,kp59_4,c59_13,xB,t59_10 S76 h76,c59_12,hb59_3,t59_11,exec_ret,kp59_5,kp59_6,blockK_normal,blockK_ret,blockK_eq,kp59_7,kp59_8,t59_14]
 rfl
def l59_16 {R:Type} (S76:Int→Option (Bool)) (k0:Int→Option R) (k1:V1→Int→Option R):Nat→V1→Int→Option R
 | 0,_,_=>none
 | m+1,x0,x1=>(g59_15 S76 k0 (l59_16 S76 k0 k1 m) k1 x0 x1)
theorem lt59_16 (S76) (h76:(ctr76 S76).holds cl):∀ (m) (x0 x1),iter [0,3] (fun env K=>exec cl N c59_15 env K) K m (e3 x0 x1)=l59_16 S76 (fun y0=>K .ret (e8 y0)) (fun y0 y1=>K (.exit 0) (e3 y0 y1)) m x0 x1:=by
 intro m
 induction m with
 | zero=>intros; rfl
 | succ m ih=>
   intro x0 x1
   simp only [iter_succ,t59_15 S76 h76,loopK_normal,loopK_exit,loopK_ret,kp59_3,ih]
   rfl
theorem kp59_9 (x0):keep [2] (e8 x0)=[(2,.v U2 x0)]:=by kernel_rfl
theorem kp59_10 (x0 x1):keep [2] (e3 x0 x1)=[(2,.dead)]:=by kernel_rfl
def g59_16 (N:Nat) (S76:Int→Option (Bool)) (k0:Int→Option R) (k1:Option R) (x0:V1) (x1:Int):Option R:=
l59_16 S76 k0 (fun y0 y1=>k1) N x0 x1
theorem t59_16 (S76) (h76:(ctr76 S76).holds cl) (x0 x1):exec cl N c59_16 (e3 x0 x1) K=(g59_16 N S76 (fun y0=>K .ret [(2,.v U2 y0)]) (K (.exit 0) [(2,.dead)]) x0 x1):=by
 simp only [c59_16,exec_out,exec_loop,kp59_3,lt59_16 S76 h76,kp59_10,kp59_9]
 rfl
theorem kp59_11 (x0):keep [2] [(2,.v U2 x0)]=[(2,.v U2 x0)]:=by kernel_rfl
theorem kp59_12:keep [2] [(2,.dead)]=[(2,.dead)]:=by kernel_rfl
def g59_18 (k0:Int→Option R):Option R:=
k0 (0:Int)
theorem t59_18:exec cl N c59_18 [(2,.dead)] K=(g59_18 (fun y0=>K .normal [(2,.v U2 y0)])):=by
 kernel_rfl
def g59_19 (N:Nat) (S75:V1→Option V5) (S76:Int→Option (Bool)) (k0:Int→Option R) (k1:Int→Option R) (x0:V1):Option R:=
(g59_0 (g59_1 (fun y0 y1=>brB y1 (g59_2 k0 y0 y1) ((g59_4 S75 (fun y0 y1=>brB y1 (g59_5 k0 y0 y1) ((g59_7 (g59_16 N S76 k1 (g59_18 k1))) y0))) y0))) x0)
theorem t59_19 (S75) (S76) (h75:(ctr75 S75).holds cl) (h76:(ctr76 S76).holds cl) (x0):exec cl N c59_19 [(0,.v .str x0)] K=(g59_19 N S75 S76 (fun y0=>K .ret (e1 y0)) (fun y0=>K .ret [(2,.v U2 y0)]) x0):=by
 simp only [c59_19,xS,sN,sE,sR,t59_0,t59_1,c59_3,exec_out,exec_cond',hb59_0,Option.bind_some,bT,bF,t59_2,exec_ret,exec_skip,kp59_0,kp59_1,t59_4 S75 h75,c59_6,hb59_1,t59_5,kp59_2,t59_7,c59_17,xB,t59_16 S76 h76,blockK_normal,blockK_ret,blockK_eq,kp59_11,kp59_12,t59_18]
 rfl
theorem rk59_0 (y0):retK d59 .ret (e1 y0)=some [.v U2 y0]:=by kernel_rfl
theorem rk59_1 (y0):retK d59 .ret [(2,.v U2 y0)]=some [.v U2 y0]:=by kernel_rfl
def g59 (N:Nat) (S75:V1→Option V5) (S76:Int→Option (Bool)) (x0:V1) (k:Int→Option R):Option R:=
(g59_19 N S75 S76 k k x0)
theorem gen59 (S75) (S76) (h75:(ctr75 S75).holds cl) (h76:(ctr76 S76).holds cl) (x0) (k:List E→Option R):exec cl N c59 [(0,.v .str x0)] (fun e env=>(retK d59 e env).bind k)=g59 N S75 S76 x0 (fun r0=>k [.v U2 r0]):=by
 simp only [c59,t59_19 S75 S76 h75 h76,rk59_0,rk59_1,Option.bind_some]
 rfl
def ctr59 (S:V1→Option (Int)):Ctr:=cv1 59 .str S fun b=> [.v U2 b]
def S59 (N:Nat) (x0:V1):Option (Int):=g59 N (S75 N) (S76 N) x0 (fun (r0:Int)=>some (r0))
def g60_0 (k0:V6→V1→Option R) (x0:V6) (x1:V1):Option R:=
k0 x0 x1
theorem t60_0 (x0 x1):exec cl N c60_0 (e81 x0 x1) K=(g60_0 (fun y0 y1=>K .normal (e81 y0 y1)) x0 x1):=by
 kernel_rfl
def g60_1 (k0:V6→V1→Int→Option R) (x0:V6) (x1:V1):Option R:=
k0 x0 x1 (0:Int)
theorem t60_1 (x0 x1):exec cl N c60_1 (e81 x0 x1) K=(g60_1 (fun y0 y1 y2=>K .normal (e85 y0 y1 y2)) x0 x1):=by
 kernel_rfl
theorem kp60_0 (x0 x1 x2):keep [0,1,5] (e85 x0 x1 x2)=(e85 x0 x1 x2):=by kernel_rfl
def g60_2 (k0:V6→V1→Int→Bool→Option R) (x0:V6) (x1:V1) (x2:Int):Option R:=
k0 x0 x1 x2 (decide (x2 < (x0.length:Int)))
theorem t60_2 (x0 x1 x2):exec cl N c60_2 (e85 x0 x1 x2) K=(g60_2 (fun y0 y1 y2 y3=>K .normal (e225 y0 y1 y2 y3)) x0 x1 x2):=by
 kernel_rfl
theorem kp60_1 (x0 x1 x2 x3):keep [0,1,5] (e225 x0 x1 x2 x3)=(e85 x0 x1 x2):=by kernel_rfl
theorem hb60_0 (x0 x1 x2 x3):boolOf? (ent (e225 x0 x1 x2 x3) (.t 9))=some x3:=by kernel_rfl
def g60_4 (k0:V6→V1→Int→Bool→Option R) (x0:V6) (x1:V1) (x2:Int):Option R:=
if 0≤x2∧x2 < (x0.length:Int) then
k0 x0 x1 x2 ((x0.getD x2.toNat [])==x1)
else none
theorem t60_4 (x0 x1 x2):exec cl N c60_4 (e85 x0 x1 x2) K=(g60_4 (fun y0 y1 y2 y3=>K .normal (e226 y0 y1 y2 y3)) x0 x1 x2):=by
 kernel_rfl
def g60_5 (k0:Bool→Option R) (x0:V6) (x1:V1) (x2:Int) (x3:Bool):Option R:=
k0 true
theorem t60_5 (x0 x1 x2 x3):exec cl N c60_5 (e226 x0 x1 x2 x3) K=(g60_5 (fun y0=>K .normal [(4,.v .bool y0)]) x0 x1 x2 x3):=by
 kernel_rfl
theorem kp60_2 (x0):keep [0,1,4,5] [(4,.v .bool x0)]=(e227 x0):=by kernel_rfl
theorem kp60_3 (x0 x1 x2 x3):keep [0,1,4,5] (e226 x0 x1 x2 x3)=(e228 x0 x1 x2):=by kernel_rfl
theorem hb60_1 (x0 x1 x2 x3):boolOf? (ent (e226 x0 x1 x2 x3) (.t 17))=some x3:=by kernel_rfl
theorem kp60_4 (x0):keep [0,1,4,5] (e227 x0)=(e227 x0):=by kernel_rfl
theorem kp60_5 (x0 x1 x2):keep [0,1,4,5] (e228 x0 x1 x2)=(e228 x0 x1 x2):=by kernel_rfl
def g60_8 (k0:V6→V1→Int→Option R) (x0:V6) (x1:V1) (x2:Int):Option R:=
k0 x0 x1 (IntKind.i64.wrap (x2+(1:Int)))
theorem t60_8 (x0 x1 x2):exec cl N c60_8 (e228 x0 x1 x2) K=(g60_8 (fun y0 y1 y2=>K .normal (e85 y0 y1 y2)) x0 x1 x2):=by
 kernel_rfl
def g60_9 (k0:Bool→Option R) (k1:V6→V1→Int→Option R) (k2:V6→V1→Int→Option R) (x0:V6) (x1:V1) (x2:Int):Option R:=
(g60_2 (fun y0 y1 y2 y3=>brB y3 ((g60_4 (fun y0 y1 y2 y3=>brB y3 (g60_5 k0 y0 y1 y2 y3) (((g60_8 k1)) y0 y1 y2))) y0 y1 y2) (k2 y0 y1 y2)) x0 x1 x2)
theorem t60_9 (x0 x1 x2):exec cl N c60_9 (e85 x0 x1 x2) K=(g60_9 (fun y0=>K .ret (e227 y0)) (fun y0 y1 y2=>K .normal (e85 y0 y1 y2)) (fun y0 y1 y2=>K (.exit 0) (e85 y0 y1 y2)) x0 x1 x2):=by
 simp only [c60_9,xS,sN,sE,sR,t60_2,c60_3,exec_out,exec_cond',hb60_0,Option.bind_some,bT,bF,exec_skip,exec_exit,kp60_1,c60_7,xB,t60_4,c60_6,hb60_1,t60_5,exec_ret,kp60_2,kp60_3,blockK_normal,blockK_ret,blockK_eq,kp60_4,kp60_5,t60_8]
 rfl
def l60_10 {R:Type} (k0:Bool→Option R) (k1:V6→V1→Int→Option R):Nat→V6→V1→Int→Option R
 | 0,_,_,_=>none
 | m+1,x0,x1,x2=>(g60_9 k0 (l60_10 k0 k1 m) k1 x0 x1 x2)
theorem lt60_10:∀ (m) (x0 x1 x2),iter [0,1,5] (fun env K=>exec cl N c60_9 env K) K m (e85 x0 x1 x2)=l60_10 (fun y0=>K .ret (e227 y0)) (fun y0 y1 y2=>K (.exit 0) (e85 y0 y1 y2)) m x0 x1 x2:=by
 intro m
 induction m with
 | zero=>intros; rfl
 | succ m ih=>
   intro x0 x1 x2
   simp only [iter_succ,t60_9,loopK_normal,loopK_exit,loopK_ret,kp60_0,ih]
   rfl
theorem kp60_6 (x0):keep [4] (e227 x0)=[(4,.v .bool x0)]:=by kernel_rfl
theorem kp60_7 (x0 x1 x2):keep [4] (e85 x0 x1 x2)=[(4,.dead)]:=by kernel_rfl
def g60_10 (N:Nat) (k0:Bool→Option R) (k1:Option R) (x0:V6) (x1:V1) (x2:Int):Option R:=
l60_10 k0 (fun y0 y1 y2=>k1) N x0 x1 x2
theorem t60_10 (x0 x1 x2):exec cl N c60_10 (e85 x0 x1 x2) K=(g60_10 N (fun y0=>K .ret [(4,.v .bool y0)]) (K (.exit 0) [(4,.dead)]) x0 x1 x2):=by
 simp only [c60_10,exec_out,exec_loop,kp60_0,lt60_10,kp60_6,kp60_7]
 rfl
theorem kp60_8 (x0):keep [4] [(4,.v .bool x0)]=[(4,.v .bool x0)]:=by kernel_rfl
theorem kp60_9:keep [4] [(4,.dead)]=[(4,.dead)]:=by kernel_rfl
def g60_12 (k0:Bool→Option R):Option R:=
k0 false
theorem t60_12:exec cl N c60_12 [(4,.dead)] K=(g60_12 (fun y0=>K .normal [(4,.v .bool y0)])):=by
 kernel_rfl
def g60_13 (N:Nat) (k0:Bool→Option R) (x0:V6) (x1:V1):Option R:=
(g60_0 (g60_1 (g60_10 N k0 (g60_12 k0))) x0 x1)
theorem t60_13 (x0 x1):exec cl N c60_13 (e81 x0 x1) K=(g60_13 N (fun y0=>K .ret [(4,.v .bool y0)]) x0 x1):=by
 simp only [c60_13,xS,sN,sE,sR,t60_0,t60_1,c60_11,exec_out,xB,t60_10,blockK_normal,blockK_ret,blockK_eq,kp60_8,kp60_9,t60_12,exec_ret]
 rfl
theorem rk60_0 (y0):retK d60 .ret [(4,.v .bool y0)]=some [.v .bool y0]:=by kernel_rfl
def g60 (N:Nat) (x0:V6) (x1:V1) (k:Bool→Option R):Option R:=
(g60_13 N k x0 x1)
theorem gen60 (x0 x1) (k:List E→Option R):exec cl N c60 (e81 x0 x1) (fun e env=>(retK d60 e env).bind k)=g60 N x0 x1 (fun r0=>k [.v .bool r0]):=by
 simp only [c60,t60_13,rk60_0,Option.bind_some]
 rfl
def ctr60 (S:V6→V1→Option (Bool)):Ctr:=cv2 60 U1 .str S fun b=> [.v .bool b]
def S60 (N:Nat) (x0:V6) (x1:V1):Option (Bool):=g60 N x0 x1 (fun (r0:Bool)=>some (r0))
def g41_0 (k0:V15→Option R) (x0:V15):Option R:=
k0 x0
theorem t41_0 (x0):exec cl N c41_0 [(0,.v U14 x0)] K=(g41_0 (fun y0=>K .normal [(1,.loc U14 .no y0)]) x0):=by
 kernel_rfl
def g41_1 (k0:V15→Bool→Option R) (x0:V15):Option R:=
brB (decide (x0.1 < (1:Int))) (k0 x0 true) (brB (decide (x0.1 > (12:Int))) (k0 x0 true) (brB (decide (x0.2.1 < (0:Int))) (k0 x0 true) (k0 x0 (decide (x0.2.1 > (999:Int))))))
theorem t41_1 (x0):exec cl N c41_1 [(1,.loc U14 .no x0)] K=(g41_1 (fun y0 y1=>K .normal (e229 y0 y1)) x0):=by
 kernel_rfl
def g41_2 (k0:Int→Option R) (x0:V15) (x1:Bool):Option R:=
k0 (6:Int)
theorem t41_2 (x0 x1):exec cl N c41_2 (e229 x0 x1) K=(g41_2 (fun y0=>K .normal [(2,.v U2 y0)]) x0 x1):=by
 kernel_rfl
theorem kp41_0 (x0):keep [1,2] [(2,.v U2 x0)]=(e114 x0):=by kernel_rfl
theorem kp41_1 (x0 x1):keep [1,2] (e229 x0 x1)=(e116 x0):=by kernel_rfl
theorem hb41_0 (x0 x1):boolOf? (ent (e229 x0 x1) (.t 22))=some x1:=by kernel_rfl
def g41_4 (k0:V15→Bool→Option R) (x0:V15):Option R:=
k0 x0 (decide ((x0.2.2.1.length:Int) > (20:Int)))
theorem t41_4 (x0):exec cl N c41_4 (e116 x0) K=(g41_4 (fun y0 y1=>K .normal (e230 y0 y1)) x0):=by
 kernel_rfl
def g41_5 (k0:Int→Option R) (x0:V15) (x1:Bool):Option R:=
k0 (3:Int)
theorem t41_5 (x0 x1):exec cl N c41_5 (e230 x0 x1) K=(g41_5 (fun y0=>K .normal [(2,.v U2 y0)]) x0 x1):=by
 kernel_rfl
theorem kp41_2 (x0 x1):keep [1,2] (e230 x0 x1)=(e116 x0):=by kernel_rfl
theorem hb41_1 (x0 x1):boolOf? (ent (e230 x0 x1) (.t 26))=some x1:=by kernel_rfl
def g41_7 (k0:V15→Int→Option R) (x0:V15):Option R:=
k0 x0 (0:Int)
theorem t41_7 (x0):exec cl N c41_7 (e116 x0) K=(g41_7 (fun y0 y1=>K .normal (e231 y0 y1)) x0):=by
 kernel_rfl
theorem kp41_3 (x0 x1):keep [1,3] (e231 x0 x1)=(e231 x0 x1):=by kernel_rfl
def g41_8 (k0:V15→Int→Bool→Option R) (x0:V15) (x1:Int):Option R:=
k0 x0 x1 (decide (x1 < (x0.2.2.1.length:Int)))
theorem t41_8 (x0 x1):exec cl N c41_8 (e231 x0 x1) K=(g41_8 (fun y0 y1 y2=>K .normal (e232 y0 y1 y2)) x0 x1):=by
 kernel_rfl
theorem kp41_4 (x0 x1 x2):keep [1,3] (e232 x0 x1 x2)=(e231 x0 x1):=by kernel_rfl
theorem hb41_2 (x0 x1 x2):boolOf? (ent (e232 x0 x1 x2) (.t 31))=some x2:=by kernel_rfl
def g41_14 (S59:V1→Option (Int)) (k0:V15→Int→Int→Bool→Option R) (x0:V15) (x1:Int):Option R:=
if 0≤x1∧x1 < (x0.2.2.1.length:Int) then
(S59 (x0.2.2.1.getD x1.toNat [])).bind fun r925=>
k0 x0 x1 r925 (r925 != (0:Int))
else none
theorem t41_14 (S59) (h59:(ctr59 S59).holds cl) (x0 x1):exec cl N c41_14 (e231 x0 x1) K=(g41_14 S59 (fun y0 y1 y2 y3=>exec cl N c41_13 (e233 y0 y1 y2 y3) K) x0 x1):=by
 rw [←put_eq h59]
 kernel_rfl
def g41_12 (k0:Int→Option R) (x0:V15) (x1 x2:Int) (x3:Bool):Option R:=
k0 x2
theorem t41_12 (x0 x1 x2 x3):exec cl N c41_12 (e233 x0 x1 x2 x3) K=(g41_12 (fun y0=>K .normal [(2,.v U2 y0)]) x0 x1 x2 x3):=by
 kernel_rfl
theorem kp41_5 (x0):keep [1,2,3] [(2,.v U2 x0)]=(e234 x0):=by kernel_rfl
theorem kp41_6 (x0 x1 x2 x3):keep [1,2,3] (e233 x0 x1 x2 x3)=(e235 x0 x1):=by kernel_rfl
theorem hb41_3 (x0 x1 x2 x3):boolOf? (ent (e233 x0 x1 x2 x3) (.t 41))=some x3:=by kernel_rfl
def g41_15 (S60:V6→V1→Option (Bool)) (k0:V15→Int→Bool→Option R) (x0:V15) (x1:Int):Option R:=
if 0≤(0:Int)∧(0:Int)≤x1∧x1≤(x0.2.2.1.length:Int)∧(x0.2.2.1.length:Int)≤(x0.2.2.1.length:Int) then
if 0≤x1∧x1 < (x0.2.2.1.length:Int) then
(S60 ((x0.2.2.1.drop (0:Int).toNat).take (x1.toNat - (0:Int).toNat)) (x0.2.2.1.getD x1.toNat [])).bind fun r928=>
k0 x0 x1 r928
else none
else none
theorem t41_15 (S60) (h60:(ctr60 S60).holds cl) (x0 x1):exec cl N c41_15 (e235 x0 x1) K=(g41_15 S60 (fun y0 y1 y2=>K .normal (e236 y0 y1 y2)) x0 x1):=by
 rw [←put_eq h60]
 kernel_rfl
def g41_16 (k0:Int→Option R) (x0:V15) (x1:Int) (x2:Bool):Option R:=
k0 (5:Int)
theorem t41_16 (x0 x1 x2):exec cl N c41_16 (e236 x0 x1 x2) K=(g41_16 (fun y0=>K .normal [(2,.v U2 y0)]) x0 x1 x2):=by
 kernel_rfl
theorem kp41_7 (x0 x1 x2):keep [1,2,3] (e236 x0 x1 x2)=(e235 x0 x1):=by kernel_rfl
theorem hb41_4 (x0 x1 x2):boolOf? (ent (e236 x0 x1 x2) (.t 52))=some x2:=by kernel_rfl
theorem kp41_8 (x0):keep [1,2,3] (e234 x0)=(e234 x0):=by kernel_rfl
theorem kp41_9 (x0 x1):keep [1,2,3] (e235 x0 x1)=(e235 x0 x1):=by kernel_rfl
def g41_19 (k0:V15→Int→Option R) (x0:V15) (x1:Int):Option R:=
k0 x0 (IntKind.i64.wrap (x1+(1:Int)))
theorem t41_19 (x0 x1):exec cl N c41_19 (e235 x0 x1) K=(g41_19 (fun y0 y1=>K .normal (e231 y0 y1)) x0 x1):=by
 kernel_rfl
def g41_20 (S59:V1→Option (Int)) (S60:V6→V1→Option (Bool)) (k0:Int→Option R) (k1:V15→Int→Option R) (k2:V15→Int→Option R) (x0:V15) (x1:Int):Option R:=
(g41_8 (fun y0 y1 y2=>brB y2 ((g41_14 S59 (fun y0 y1 y2 y3=>brB y3 (g41_12 k0 y0 y1 y2 y3) ((g41_15 S60 (fun y0 y1 y2=>brB y2 (g41_16 k0 y0 y1 y2) (((g41_19 k1)) y0 y1))) y0 y1))) y0 y1) (k2 y0 y1)) x0 x1)
theorem t41_20 (S59) (S60) (h59:(ctr59 S59).holds cl) (h60:(ctr60 S60).holds cl) (x0 x1):exec cl N c41_20 (e231 x0 x1) K=(g41_20 S59 S60 (fun y0=>K .ret (e234 y0)) (fun y0 y1=>K .normal (e231 y0 y1)) (fun y0 y1=>K (.exit 0) (e231 y0 y1)) x0 x1):=by
 simp only [c41_20,xS,sN,sE,sR,t41_8,c41_9,exec_out,exec_cond',hb41_2,Option.bind_some,bT,bF,exec_skip,exec_exit,kp41_4,c41_18,xB,t41_14 S59 h59,c41_13,hb41_3,t41_12,exec_ret,kp41_5,kp41_6,t41_15 S60 h60,c41_17,hb41_4,t41_16,kp41_7,blockK_normal,blockK_ret,blockK_eq,kp41_8,kp41_9,t41_19]
 rfl
def l41_21 {R:Type} (S59:V1→Option (Int)) (S60:V6→V1→Option (Bool)) (k0:Int→Option R) (k1:V15→Int→Option R):Nat→V15→Int→Option R
 | 0,_,_=>none
 | m+1,x0,x1=>(g41_20 S59 S60 k0 (l41_21 S59 S60 k0 k1 m) k1 x0 x1)
theorem lt41_21 (S59) (S60) (h59:(ctr59 S59).holds cl) (h60:(ctr60 S60).holds cl):∀ (m) (x0 x1),iter [1,3] (fun env K=>exec cl N c41_20 env K) K m (e231 x0 x1)=l41_21 S59 S60 (fun y0=>K .ret (e234 y0)) (fun y0 y1=>K (.exit 0) (e231 y0 y1)) m x0 x1:=by
 intro m
 induction m with
 | zero=>intros; rfl
 | succ m ih=>
   intro x0 x1
   simp only [iter_succ,t41_20 S59 S60 h59 h60,loopK_normal,loopK_exit,loopK_ret,kp41_3,ih]
   rfl
theorem kp41_10 (x0):keep [2] (e234 x0)=[(2,.v U2 x0)]:=by kernel_rfl
theorem kp41_11 (x0 x1):keep [2] (e231 x0 x1)=[(2,.dead)]:=by kernel_rfl
def g41_21 (N:Nat) (S59:V1→Option (Int)) (S60:V6→V1→Option (Bool)) (k0:Int→Option R) (k1:Option R) (x0:V15) (x1:Int):Option R:=
l41_21 S59 S60 k0 (fun y0 y1=>k1) N x0 x1
theorem t41_21 (S59) (S60) (h59:(ctr59 S59).holds cl) (h60:(ctr60 S60).holds cl) (x0 x1):exec cl N c41_21 (e231 x0 x1) K=(g41_21 N S59 S60 (fun y0=>K .ret [(2,.v U2 y0)]) (K (.exit 0) [(2,.dead)]) x0 x1):=by
 simp only [c41_21,exec_out,exec_loop,kp41_3,lt41_21 S59 S60 h59 h60,kp41_10,kp41_11]
 rfl
theorem kp41_12 (x0):keep [2] [(2,.v U2 x0)]=[(2,.v U2 x0)]:=by kernel_rfl
theorem kp41_13:keep [2] [(2,.dead)]=[(2,.dead)]:=by kernel_rfl
def g41_23 (k0:Int→Option R):Option R:=
k0 (0:Int)
theorem t41_23:exec cl N c41_23 [(2,.dead)] K=(g41_23 (fun y0=>K .normal [(2,.v U2 y0)])):=by
 kernel_rfl
def g41_24 (N:Nat) (S59:V1→Option (Int)) (S60:V6→V1→Option (Bool)) (k0:Int→Option R) (k1:Int→Option R) (x0:V15):Option R:=
(g41_0 (g41_1 (fun y0 y1=>brB y1 (g41_2 k0 y0 y1) ((g41_4 (fun y0 y1=>brB y1 (g41_5 k0 y0 y1) ((g41_7 (g41_21 N S59 S60 k1 (g41_23 k1))) y0))) y0))) x0)
theorem t41_24 (S59) (S60) (h59:(ctr59 S59).holds cl) (h60:(ctr60 S60).holds cl) (x0):exec cl N c41_24 [(0,.v U14 x0)] K=(g41_24 N S59 S60 (fun y0=>K .ret (e114 y0)) (fun y0=>K .ret [(2,.v U2 y0)]) x0):=by
 simp only [c41_24,xS,sN,sE,sR,t41_0,t41_1,c41_3,exec_out,exec_cond',hb41_0,Option.bind_some,bT,bF,t41_2,exec_ret,exec_skip,kp41_0,kp41_1,t41_4,c41_6,hb41_1,t41_5,kp41_2,t41_7,c41_22,xB,t41_21 S59 S60 h59 h60,blockK_normal,blockK_ret,blockK_eq,kp41_12,kp41_13,t41_23]
 rfl
theorem rk41_0 (y0):retK d41 .ret (e114 y0)=some [.v U2 y0]:=by kernel_rfl
theorem rk41_1 (y0):retK d41 .ret [(2,.v U2 y0)]=some [.v U2 y0]:=by kernel_rfl
def g41 (N:Nat) (S59:V1→Option (Int)) (S60:V6→V1→Option (Bool)) (x0:V15) (k:Int→Option R):Option R:=
(g41_24 N S59 S60 k k x0)
theorem gen41 (S59) (S60) (h59:(ctr59 S59).holds cl) (h60:(ctr60 S60).holds cl) (x0) (k:List E→Option R):exec cl N c41 [(0,.v U14 x0)] (fun e env=>(retK d41 e env).bind k)=g41 N S59 S60 x0 (fun r0=>k [.v U2 r0]):=by
 simp only [c41,t41_24 S59 S60 h59 h60,rk41_0,rk41_1,Option.bind_some]
 rfl
def ctr41 (S:V15→Option (Int)):Ctr:=cv1 41 U14 S fun b=> [.v U2 b]
def S41 (N:Nat) (x0:V15):Option (Int):=g41 N (S59 N) (S60 N) x0 (fun (r0:Int)=>some (r0))
def g14_0 (k0:V23→Option R) (x0:V23):Option R:=
k0 x0
theorem t14_0 (x0):exec cl N c14_0 [(0,.v U17 x0)] K=(g14_0 (fun y0=>K .normal [(1,.loc U17 .no y0)]) x0):=by
 kernel_rfl
def g14_1 (S40:V1→Option (Bool)) (k0:V23→Bool→Option R) (x0:V23):Option R:=
(S40 x0.1).bind fun r934=>
k0 x0 (!r934)
theorem t14_1 (S40) (h40:(ctr40 S40).holds cl) (x0):exec cl N c14_1 [(1,.loc U17 .no x0)] K=(g14_1 S40 (fun y0 y1=>K .normal (e237 y0 y1)) x0):=by
 rw [←put_eq h40]
 kernel_rfl
def g14_2 (k0:Int→Option R) (x0:V23) (x1:Bool):Option R:=
k0 (2:Int)
theorem t14_2 (x0 x1):exec cl N c14_2 (e237 x0 x1) K=(g14_2 (fun y0=>K .normal [(2,.v U2 y0)]) x0 x1):=by
 kernel_rfl
theorem kp14_0 (x0):keep [1,2] [(2,.v U2 x0)]=(e114 x0):=by kernel_rfl
theorem kp14_1 (x0 x1):keep [1,2] (e237 x0 x1)=(e128 x0):=by kernel_rfl
theorem hb14_0 (x0 x1):boolOf? (ent (e237 x0 x1) (.t 8))=some x1:=by kernel_rfl
def g14_4 (k0:V23→Bool→Option R) (x0:V23):Option R:=
k0 x0 (decide ((x0.2.1.length:Int) > (30:Int)))
theorem t14_4 (x0):exec cl N c14_4 (e128 x0) K=(g14_4 (fun y0 y1=>K .normal (e238 y0 y1)) x0):=by
 kernel_rfl
def g14_5 (k0:Int→Option R) (x0:V23) (x1:Bool):Option R:=
k0 (3:Int)
theorem t14_5 (x0 x1):exec cl N c14_5 (e238 x0 x1) K=(g14_5 (fun y0=>K .normal [(2,.v U2 y0)]) x0 x1):=by
 kernel_rfl
theorem kp14_2 (x0 x1):keep [1,2] (e238 x0 x1)=(e128 x0):=by kernel_rfl
theorem hb14_1 (x0 x1):boolOf? (ent (e238 x0 x1) (.t 12))=some x1:=by kernel_rfl
def g14_7 (k0:V23→Int→Option R) (x0:V23):Option R:=
k0 x0 (0:Int)
theorem t14_7 (x0):exec cl N c14_7 (e128 x0) K=(g14_7 (fun y0 y1=>K .normal (e239 y0 y1)) x0):=by
 kernel_rfl
theorem kp14_3 (x0 x1):keep [1,3] (e239 x0 x1)=(e239 x0 x1):=by kernel_rfl
def g14_8 (k0:V23→Int→Bool→Option R) (x0:V23) (x1:Int):Option R:=
k0 x0 x1 (decide (x1 < (x0.2.1.length:Int)))
theorem t14_8 (x0 x1):exec cl N c14_8 (e239 x0 x1) K=(g14_8 (fun y0 y1 y2=>K .normal (e240 y0 y1 y2)) x0 x1):=by
 kernel_rfl
theorem kp14_4 (x0 x1 x2):keep [1,3] (e240 x0 x1 x2)=(e239 x0 x1):=by kernel_rfl
theorem hb14_2 (x0 x1 x2):boolOf? (ent (e240 x0 x1 x2) (.t 17))=some x2:=by kernel_rfl
def g14_14 (S41:V15→Option (Int)) (k0:V23→Int→Int→Bool→Option R) (x0:V23) (x1:Int):Option R:=
if 0≤x1∧x1 < (x0.2.1.length:Int) then
(S41 (x0.2.1.getD x1.toNat ((0:Int),((0:Int),([],()))))).bind fun r938=>
k0 x0 x1 r938 (r938 != (0:Int))
else none
theorem t14_14 (S41) (h41:(ctr41 S41).holds cl) (x0 x1):exec cl N c14_14 (e239 x0 x1) K=(g14_14 S41 (fun y0 y1 y2 y3=>exec cl N c14_13 (e241 y0 y1 y2 y3) K) x0 x1):=by
 rw [←put_eq h41]
 kernel_rfl
def g14_12 (k0:Int→Option R) (x0:V23) (x1 x2:Int) (x3:Bool):Option R:=
k0 x2
theorem t14_12 (x0 x1 x2 x3):exec cl N c14_12 (e241 x0 x1 x2 x3) K=(g14_12 (fun y0=>K .normal [(2,.v U2 y0)]) x0 x1 x2 x3):=by
 kernel_rfl
theorem kp14_5 (x0):keep [1,2,3] [(2,.v U2 x0)]=(e234 x0):=by kernel_rfl
theorem kp14_6 (x0 x1 x2 x3):keep [1,2,3] (e241 x0 x1 x2 x3)=(e242 x0 x1):=by kernel_rfl
theorem hb14_3 (x0 x1 x2 x3):boolOf? (ent (e241 x0 x1 x2 x3) (.t 27))=some x3:=by kernel_rfl
theorem kp14_7 (x0):keep [1,2,3] (e234 x0)=(e234 x0):=by kernel_rfl
theorem kp14_8 (x0 x1):keep [1,2,3] (e242 x0 x1)=(e242 x0 x1):=by kernel_rfl
def g14_16 (k0:V23→Int→Option R) (x0:V23) (x1:Int):Option R:=
k0 x0 (IntKind.i64.wrap (x1+(1:Int)))
theorem t14_16 (x0 x1):exec cl N c14_16 (e242 x0 x1) K=(g14_16 (fun y0 y1=>K .normal (e239 y0 y1)) x0 x1):=by
 kernel_rfl
def g14_17 (S41:V15→Option (Int)) (k0:Int→Option R) (k1:V23→Int→Option R) (k2:V23→Int→Option R) (x0:V23) (x1:Int):Option R:=
(g14_8 (fun y0 y1 y2=>brB y2 ((g14_14 S41 (fun y0 y1 y2 y3=>brB y3 (g14_12 k0 y0 y1 y2 y3) (((g14_16 k1)) y0 y1))) y0 y1) (k2 y0 y1)) x0 x1)
theorem t14_17 (S41) (h41:(ctr41 S41).holds cl) (x0 x1):exec cl N c14_17 (e239 x0 x1) K=(g14_17 S41 (fun y0=>K .ret (e234 y0)) (fun y0 y1=>K .normal (e239 y0 y1)) (fun y0 y1=>K (.exit 0) (e239 y0 y1)) x0 x1):=by
 simp only [c14_17,xS,sN,sE,sR,t14_8,c14_9,exec_out,exec_cond',hb14_2,Option.bind_some,bT,bF,exec_skip,exec_exit,kp14_4,c14_15,xB,t14_14 S41 h41,c14_13,hb14_3,t14_12,exec_ret,kp14_5,kp14_6,blockK_normal,blockK_ret,blockK_eq,kp14_7,kp14_8,t14_16]
 rfl
def l14_18 {R:Type} (S41:V15→Option (Int)) (k0:Int→Option R) (k1:V23→Int→Option R):Nat→V23→Int→Option R
 | 0,_,_=>none
 | m+1,x0,x1=>(g14_17 S41 k0 (l14_18 S41 k0 k1 m) k1 x0 x1)
theorem lt14_18 (S41) (h41:(ctr41 S41).holds cl):∀ (m) (x0 x1),iter [1,3] (fun env K=>exec cl N c14_17 env K) K m (e239 x0 x1)=l14_18 S41 (fun y0=>K .ret (e234 y0)) (fun y0 y1=>K (.exit 0) (e239 y0 y1)) m x0 x1:=by
 intro m
 induction m with
 | zero=>intros; rfl
 | succ m ih=>
   intro x0 x1
   simp only [iter_succ,t14_17 S41 h41,loopK_normal,loopK_exit,loopK_ret,kp14_3,ih]
   rfl
theorem kp14_9 (x0):keep [2] (e234 x0)=[(2,.v U2 x0)]:=by kernel_rfl
theorem kp14_10 (x0 x1):keep [2] (e239 x0 x1)=[(2,.dead)]:=by kernel_rfl
def g14_18 (N:Nat) (S41:V15→Option (Int)) (k0:Int→Option R) (k1:Option R) (x0:V23) (x1:Int):Option R:=
l14_18 S41 k0 (fun y0 y1=>k1) N x0 x1
theorem t14_18 (S41) (h41:(ctr41 S41).holds cl) (x0 x1):exec cl N c14_18 (e239 x0 x1) K=(g14_18 N S41 (fun y0=>K .ret [(2,.v U2 y0)]) (K (.exit 0) [(2,.dead)]) x0 x1):=by
 simp only [c14_18,exec_out,exec_loop,kp14_3,lt14_18 S41 h41,kp14_10,kp14_9]
 rfl
theorem kp14_11 (x0):keep [2] [(2,.v U2 x0)]=[(2,.v U2 x0)]:=by kernel_rfl
theorem kp14_12:keep [2] [(2,.dead)]=[(2,.dead)]:=by kernel_rfl
def g14_20 (k0:Int→Option R):Option R:=
k0 (0:Int)
theorem t14_20:exec cl N c14_20 [(2,.dead)] K=(g14_20 (fun y0=>K .normal [(2,.v U2 y0)])):=by
 kernel_rfl
def g14_21 (N:Nat) (S40:V1→Option (Bool)) (S41:V15→Option (Int)) (k0:Int→Option R) (k1:Int→Option R) (x0:V23):Option R:=
(g14_0 (g14_1 S40 (fun y0 y1=>brB y1 (g14_2 k0 y0 y1) ((g14_4 (fun y0 y1=>brB y1 (g14_5 k0 y0 y1) ((g14_7 (g14_18 N S41 k1 (g14_20 k1))) y0))) y0))) x0)
theorem t14_21 (S40) (S41) (h40:(ctr40 S40).holds cl) (h41:(ctr41 S41).holds cl) (x0):exec cl N c14_21 [(0,.v U17 x0)] K=(g14_21 N S40 S41 (fun y0=>K .ret (e114 y0)) (fun y0=>K .ret [(2,.v U2 y0)]) x0):=by
 simp only [c14_21,xS,sN,sE,sR,t14_0,t14_1 S40 h40,c14_3,exec_out,exec_cond',hb14_0,Option.bind_some,bT,bF,t14_2,exec_ret,exec_skip,kp14_0,kp14_1,t14_4,c14_6,hb14_1,t14_5,kp14_2,t14_7,c14_19,xB,t14_18 S41 h41,blockK_normal,blockK_ret,blockK_eq,kp14_11,kp14_12,t14_20]
 rfl
theorem rk14_0 (y0):retK d14 .ret (e114 y0)=some [.v U2 y0]:=by kernel_rfl
theorem rk14_1 (y0):retK d14 .ret [(2,.v U2 y0)]=some [.v U2 y0]:=by kernel_rfl
def g14 (N:Nat) (S40:V1→Option (Bool)) (S41:V15→Option (Int)) (x0:V23) (k:Int→Option R):Option R:=
(g14_21 N S40 S41 k k x0)
theorem gen14 (S40) (S41) (h40:(ctr40 S40).holds cl) (h41:(ctr41 S41).holds cl) (x0) (k:List E→Option R):exec cl N c14 [(0,.v U17 x0)] (fun e env=>(retK d14 e env).bind k)=g14 N S40 S41 x0 (fun r0=>k [.v U2 r0]):=by
 simp only [c14,t14_21 S40 S41 h40 h41,rk14_0,rk14_1,Option.bind_some]
 rfl
def ctr14 (S:V23→Option (Int)):Ctr:=cv1 14 U17 S fun b=> [.v U2 b]
def S14 (N:Nat) (x0:V23):Option (Int):=g14 N (S40 N) (S41 N) x0 (fun (r0:Int)=>some (r0))
end Go.Fw.L19
