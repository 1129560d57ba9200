/- Printed by an own program for this claim: the machine's code of functions, or their typed forms with their equations; no conditions. -/
import Derived.Test.YtbdlccajpcomjaaFwMs17b
import Derived.Test.YtbdlccajpcomjaaFwB4
set_option linter.unusedVariables false
set_option linter.unusedSimpArgs false
namespace Go.Fw.L19
open Go Go.Fw
set_option maxRecDepth 100000
set_option linter.unusedVariables false
set_option linter.unusedSimpArgs false
variable {N:Nat} {cl:Cal} {R:Type} {K:KE R}
def g13_47 (S35:V1→Option V19) (k0:V22→V16→Int→Int→Option R) (x0:V1):Option R:=
(S35 x0).bind fun r995=>
k0 ([],([],())) r995.1 r995.2.1 r995.2.2
theorem t13_47 (S35) (h35:(ctr35 S35).holds cl) (x0):exec cl N c13_47 [(0,.v .str x0)] K=(g13_47 S35 (fun y0 y1 y2 y3=>exec cl N (.seq (.seq c13_2 c13_4) c13_46) (e232 y0 y1 y2 y3) K) x0):=by
 rw [←put_eq h35]
 kernel_rfl
def g13_2 (k0:V22→V16→Int→Int→Bool→Option R) (x0:V22) (x1:V16) (x2 x3:Int):Option R:=
k0 x0 x1 x2 x3 (x3 != (0:Int))
theorem t13_2 (x0 x1 x2 x3):exec cl N c13_2 (e232 x0 x1 x2 x3) K=(g13_2 (fun y0 y1 y2 y3 y4=>K .normal (e233 y0 y1 y2 y3 y4)) x0 x1 x2 x3):=by
 kernel_rfl
def g13_3 (k0:V22→Int→Int→Option R) (x0:V22) (x1:V16) (x2 x3:Int) (x4:Bool):Option R:=
k0 ([],[],()) x2 x3
theorem t13_3 (x0 x1 x2 x3 x4):exec cl N c13_3 (e233 x0 x1 x2 x3 x4) K=(g13_3 (fun y0 y1 y2=>K .normal (e234 y0 y1 y2)) x0 x1 x2 x3 x4):=by
 kernel_rfl
theorem kp13_0 (x0 x1 x2):keep [2,3,4,5] (e234 x0 x1 x2)=(e235 x0 x1 x2):=by kernel_rfl
theorem kp13_1 (x0 x1 x2 x3 x4):keep [2,3,4,5] (e233 x0 x1 x2 x3 x4)=(e236 x0 x1):=by kernel_rfl
theorem hb13_0 (x0 x1 x2 x3 x4):boolOf? (ent (e233 x0 x1 x2 x3 x4) (.t 24))=some x4:=by kernel_rfl
def g13_46 (S36:V21→Int→V1→Option V23) (k0:V22→V16→V22→V6→V0→V21→Option R) (x0:V22) (x1:V16):Option R:=
(S36 (x1,(0:Int),false,()) (1:Int) ([108,105,99,101,110,99,101]:List UInt8)).bind fun r1007=>
(S36 r1007.1 (1:Int) ([]:List UInt8)).bind fun r1008=>
(S36 r1008.1 (4:Int) ([123]:List UInt8)).bind fun r1009=>
k0 x0 x1 (r1008.2,([],())) [] [] r1009.1
theorem t13_46 (S36) (h36:(ctr36 S36).holds cl) (x0 x1):exec cl N c13_46 (e236 x0 x1) K=(g13_46 S36 (fun y0 y1 y2 y3 y4 y5=>exec cl N (.seq c13_21 (.seq c13_22 (.seq (.seq c13_23 c13_25) (.seq (.seq c13_26 c13_39) (.seq c13_44 (.seq c13_45 .ret)))))) (e237 y0 y1 y2 y3 y4 y5) K) x0 x1):=by
 rw [←put_eq h36]
 kernel_rfl
theorem kp13_2 (x0 x1 x2 x3 x4 x5):keep [2,5,8,9,10,11,30] (e237 x0 x1 x2 x3 x4 x5)=(e237 x0 x1 x2 x3 x4 x5):=by kernel_rfl
def g13_12 (S37:V21→Int→V1→Option (Bool)) (k0:V22→V16→V22→V6→V0→V21→Bool→Option R) (x0:V22) (x1:V16) (x2:V22) (x3:V6) (x4:V0) (x5:V21):Option R:=
brB (!x5.2.2.1) ((S37 x5 (4:Int) ([125]:List UInt8)).bind fun r1010=>
k0 x0 x1 x2 x3 x4 x5 (!r1010)) (k0 x0 x1 x2 x3 x4 x5 false)
theorem t13_12 (S37) (h37:(ctr37 S37).holds cl) (x0 x1 x2 x3 x4 x5):exec cl N c13_12 (e237 x0 x1 x2 x3 x4 x5) K=(g13_12 S37 (fun y0 y1 y2 y3 y4 y5 y6=>K .normal (e238 y0 y1 y2 y3 y4 y5 y6)) x0 x1 x2 x3 x4 x5):=by
 rw [←put_eq h37]
 kernel_rfl
theorem kp13_3 (x0 x1 x2 x3 x4 x5 x6):keep [2,5,8,9,10,11,30] (e238 x0 x1 x2 x3 x4 x5 x6)=(e237 x0 x1 x2 x3 x4 x5):=by kernel_rfl
theorem hb13_1 (x0 x1 x2 x3 x4 x5 x6):boolOf? (ent (e238 x0 x1 x2 x3 x4 x5 x6) (.t 47))=some x6:=by kernel_rfl
def g13_17 (S38:V21→Option (Int)) (S39:V21→Option V25) (k0:V22→V16→V22→V6→V0→V21→Option R) (x0:V22) (x1:V16) (x2:V22) (x3:V6) (x4:V0) (x5:V21):Option R:=
(S38 x5).bind fun r1014=>
if x4.length+[r1014].length≤17592186044416 then
(S39 x5).bind fun r1015=>
if x2.2.1.length+[r1015.2.1].length≤3518437208883 then
if x3.length+[r1015.2.2].length≤8796093022208 then
k0 x0 x1 (x2.1,((x2.2.1++[r1015.2.1]),x2.2.2)) (x3++[r1015.2.2]) (x4++[r1014]) r1015.1
else none
else none
else none
theorem t13_17 (S38) (S39) (h38:(ctr38 S38).holds cl) (h39:(ctr39 S39).holds cl) (x0 x1 x2 x3 x4 x5):exec cl N c13_17 (e237 x0 x1 x2 x3 x4 x5) K=(g13_17 S38 S39 (fun y0 y1 y2 y3 y4 y5=>K .normal (e237 y0 y1 y2 y3 y4 y5)) x0 x1 x2 x3 x4 x5):=by
 rw [←put_eq h38]
 rw [←put_eq h39]
 kernel_rfl
def g13_19 (S37:V21→Int→V1→Option (Bool)) (S38:V21→Option (Int)) (S39:V21→Option V25) (k0:V22→V16→V22→V6→V0→V21→Option R) (k1:V22→V16→V22→V6→V0→V21→Option R) (x0:V22) (x1:V16) (x2:V22) (x3:V6) (x4:V0) (x5:V21):Option R:=
(g13_12 S37 (fun y0 y1 y2 y3 y4 y5 y6=>brB y6 ((g13_17 S38 S39 k0) y0 y1 y2 y3 y4 y5) (k1 y0 y1 y2 y3 y4 y5)) x0 x1 x2 x3 x4 x5)
theorem t13_19 (S37) (S38) (S39) (h37:(ctr37 S37).holds cl) (h38:(ctr38 S38).holds cl) (h39:(ctr39 S39).holds cl) (x0 x1 x2 x3 x4 x5):exec cl N c13_19 (e237 x0 x1 x2 x3 x4 x5) K=(g13_19 S37 S38 S39 (fun y0 y1 y2 y3 y4 y5=>K .normal (e237 y0 y1 y2 y3 y4 y5)) (fun y0 y1 y2 y3 y4 y5=>K (.exit 0) (e237 y0 y1 y2 y3 y4 y5)) x0 x1 x2 x3 x4 x5):=by
 simp only [c13_19,exec_seq,seqK_normal,seqK_exit,seqK_ret,t13_12 S37 h37,c13_13,exec_out,exec_cond',hb13_1,Option.bind_some,brB_true,brB_false,exec_skip,exec_exit,kp13_3,c13_18,exec_block,t13_17 S38 S39 h38 h39,blockK_normal,blockK_ret,blockK_eq,kp13_2]
 rfl
def l13_20 {R:Type} (S37:V21→Int→V1→Option (Bool)) (S38:V21→Option (Int)) (S39:V21→Option V25) (k0:V22→V16→V22→V6→V0→V21→Option R):Nat→V22→V16→V22→V6→V0→V21→Option R
 | 0,_,_,_,_,_,_=>none
 | m+1,x0,x1,x2,x3,x4,x5=>(g13_19 S37 S38 S39 (l13_20 S37 S38 S39 k0 m) k0 x0 x1 x2 x3 x4 x5)
theorem lt13_20 (S37) (S38) (S39) (h37:(ctr37 S37).holds cl) (h38:(ctr38 S38).holds cl) (h39:(ctr39 S39).holds cl):∀ (m) (x0 x1 x2 x3 x4 x5),iter [2,5,8,9,10,11,30] (fun env K=>exec cl N c13_19 env K) K m (e237 x0 x1 x2 x3 x4 x5)=l13_20 S37 S38 S39 (fun y0 y1 y2 y3 y4 y5=>K (.exit 0) (e237 y0 y1 y2 y3 y4 y5)) m x0 x1 x2 x3 x4 x5:=by
 intro m
 induction m with
 | zero=>intros; rfl
 | succ m ih=>
   intro x0 x1 x2 x3 x4 x5
   simp only [iter_succ,t13_19 S37 S38 S39 h37 h38 h39,loopK_normal,loopK_exit,loopK_ret,kp13_2,ih]
   rfl
def g13_20 (N:Nat) (S37:V21→Int→V1→Option (Bool)) (S38:V21→Option (Int)) (S39:V21→Option V25) (k0:V22→V16→V22→V6→V0→V21→Option R) (x0:V22) (x1:V16) (x2:V22) (x3:V6) (x4:V0) (x5:V21):Option R:=
l13_20 S37 S38 S39 k0 N x0 x1 x2 x3 x4 x5
theorem t13_20 (S37) (S38) (S39) (h37:(ctr37 S37).holds cl) (h38:(ctr38 S38).holds cl) (h39:(ctr39 S39).holds cl) (x0 x1 x2 x3 x4 x5):exec cl N c13_20 (e237 x0 x1 x2 x3 x4 x5) K=(g13_20 N S37 S38 S39 (fun y0 y1 y2 y3 y4 y5=>K (.exit 0) (e237 y0 y1 y2 y3 y4 y5)) x0 x1 x2 x3 x4 x5):=by
 simp only [c13_20,exec_out,exec_loop,kp13_2,lt13_20 S37 S38 S39 h37 h38 h39,kp13_2]
 rfl
def g13_22 (S36:V21→Int→V1→Option V23) (k0:V22→V16→V22→V6→V0→V21→Option R) (x0:V22) (x1:V16) (x2:V22) (x3:V6) (x4:V0) (x5:V21):Option R:=
(S36 x5 (4:Int) ([125]:List UInt8)).bind fun r1016=>
k0 x0 x1 x2 x3 x4 r1016.1
theorem t13_22 (S36) (h36:(ctr36 S36).holds cl) (x0 x1 x2 x3 x4 x5):exec cl N c13_22 (e237 x0 x1 x2 x3 x4 x5) K=(g13_22 S36 (fun y0 y1 y2 y3 y4 y5=>K .normal (e237 y0 y1 y2 y3 y4 y5)) x0 x1 x2 x3 x4 x5):=by
 rw [←put_eq h36]
 kernel_rfl
def g13_23 (k0:V22→V22→V6→V0→V21→Bool→Option R) (x0:V22) (x1:V16) (x2:V22) (x3:V6) (x4:V0) (x5:V21):Option R:=
brB x5.2.2.1 (k0 x0 x2 x3 x4 x5 true) (k0 x0 x2 x3 x4 x5 (decide (x5.2.1 < (x1.length:Int))))
theorem t13_23 (x0 x1 x2 x3 x4 x5):exec cl N c13_23 (e237 x0 x1 x2 x3 x4 x5) K=(g13_23 (fun y0 y1 y2 y3 y4 y5=>K .normal (e239 y0 y1 y2 y3 y4 y5)) x0 x1 x2 x3 x4 x5):=by
 kernel_rfl
def g13_24 (S38:V21→Option (Int)) (k0:V22→Int→Int→Option R) (x0 x1:V22) (x2:V6) (x3:V0) (x4:V21) (x5:Bool):Option R:=
(S38 x4).bind fun r1018=>
k0 ([],[],()) r1018 (2:Int)
theorem t13_24 (S38) (h38:(ctr38 S38).holds cl) (x0 x1 x2 x3 x4 x5):exec cl N c13_24 (e239 x0 x1 x2 x3 x4 x5) K=(g13_24 S38 (fun y0 y1 y2=>K .normal (e234 y0 y1 y2)) x0 x1 x2 x3 x4 x5):=by
 rw [←put_eq h38]
 kernel_rfl
theorem kp13_4 (x0 x1 x2):keep [2,3,4,9,10,11] (e234 x0 x1 x2)=(e240 x0 x1 x2):=by kernel_rfl
theorem kp13_5 (x0 x1 x2 x3 x4 x5):keep [2,3,4,9,10,11] (e239 x0 x1 x2 x3 x4 x5)=(e241 x0 x1 x2 x3):=by kernel_rfl
theorem hb13_2 (x0 x1 x2 x3 x4 x5):boolOf? (ent (e239 x0 x1 x2 x3 x4 x5) (.t 82))=some x5:=by kernel_rfl
def g13_26 (k0:V22→V22→V6→V0→Int→Int→Option R) (x0 x1:V22) (x2:V6) (x3:V0):Option R:=
k0 x0 x1 x2 x3 (x2.length:Int) (0:Int)
theorem t13_26 (x0 x1 x2 x3):exec cl N c13_26 (e241 x0 x1 x2 x3) K=(g13_26 (fun y0 y1 y2 y3 y4 y5=>K .normal (e242 y0 y1 y2 y3 y4 y5)) x0 x1 x2 x3):=by
 kernel_rfl
theorem kp13_6 (x0 x1 x2 x3 x4 x5):keep [2,9,10,11,86,87,88] (e242 x0 x1 x2 x3 x4 x5)=(e242 x0 x1 x2 x3 x4 x5):=by kernel_rfl
def g13_27 (k0:V22→V22→V6→V0→Int→Int→Bool→Option R) (x0 x1:V22) (x2:V6) (x3:V0) (x4 x5:Int):Option R:=
k0 x0 x1 x2 x3 x4 x5 (decide (x5 < x4))
theorem t13_27 (x0 x1 x2 x3 x4 x5):exec cl N c13_27 (e242 x0 x1 x2 x3 x4 x5) K=(g13_27 (fun y0 y1 y2 y3 y4 y5 y6=>K .normal (e243 y0 y1 y2 y3 y4 y5 y6)) x0 x1 x2 x3 x4 x5):=by
 kernel_rfl
theorem kp13_7 (x0 x1 x2 x3 x4 x5 x6):keep [2,9,10,11,86,87,88] (e243 x0 x1 x2 x3 x4 x5 x6)=(e242 x0 x1 x2 x3 x4 x5):=by kernel_rfl
theorem hb13_3 (x0 x1 x2 x3 x4 x5 x6):boolOf? (ent (e243 x0 x1 x2 x3 x4 x5 x6) (.t 89))=some x6:=by kernel_rfl
def g13_34 (S40:V1→Option (Int)) (k0:V22→V22→V6→V0→Int→Int→Int→Bool→Option R) (x0 x1:V22) (x2:V6) (x3:V0) (x4 x5:Int):Option R:=
if 0≤x5∧x5 < (x2.length:Int) then
if x5.toNat < x2.length then
(S40 (x2.getD x5.toNat [])).bind fun r1024=>
if 0≤x5∧x5 < (x1.2.1.length:Int) then
if x5.toNat < x1.2.1.length then
if 0≤x5∧x5 < ((x1.2.1.set x5.toNat (r1024,(x1.2.1.getD x5.toNat ((0:Int),((0:Int),([],())))).2)).length:Int) then
if x5.toNat < (x1.2.1.set x5.toNat (r1024,(x1.2.1.getD x5.toNat ((0:Int),((0:Int),([],())))).2)).length then
k0 x0 (x1.1,((x1.2.1.set x5.toNat (r1024,(x1.2.1.getD x5.toNat ((0:Int),((0:Int),([],())))).2)),x1.2.2)) x2 x3 x5 x4 x5 ((((x1.2.1.set x5.toNat (r1024,(x1.2.1.getD x5.toNat ((0:Int),((0:Int),([],())))).2)).getD x5.toNat ((0:Int),((0:Int),([],())))).1)==(0:Int))
else none
else none
else none
else none
else none
else none
theorem t13_34 (S40) (h40:(ctr40 S40).holds cl) (x0 x1 x2 x3 x4 x5):exec cl N c13_34 (e242 x0 x1 x2 x3 x4 x5) K=(g13_34 S40 (fun y0 y1 y2 y3 y4 y5 y6 y7=>exec cl N c13_33 (e244 y0 y1 y2 y3 y4 y5 y6 y7) K) x0 x1 x2 x3 x4 x5):=by
 rw [←put_eq h40]
 kernel_rfl
def g13_32 (k0:V22→Int→Int→Option R) (x0 x1:V22) (x2:V6) (x3:V0) (x4 x5 x6:Int) (x7:Bool):Option R:=
if 0≤x4∧x4 < (x3.length:Int) then
if x4.toNat < x3.length then
k0 ([],[],()) (x3.getD x4.toNat (0:Int)) (9:Int)
else none
else none
theorem t13_32 (x0 x1 x2 x3 x4 x5 x6 x7):exec cl N c13_32 (e244 x0 x1 x2 x3 x4 x5 x6 x7) K=(g13_32 (fun y0 y1 y2=>K .normal (e245 y0 y1 y2)) x0 x1 x2 x3 x4 x5 x6 x7):=by
 kernel_rfl
theorem kp13_8 (x0 x1 x2):keep [2,3,4,9,10,11,86,87,88] (e245 x0 x1 x2)=(e246 x0 x1 x2):=by kernel_rfl
theorem kp13_9 (x0 x1 x2 x3 x4 x5 x6 x7):keep [2,3,4,9,10,11,86,87,88] (e244 x0 x1 x2 x3 x4 x5 x6 x7)=(e247 x0 x1 x2 x3 x5 x6):=by kernel_rfl
theorem hb13_4 (x0 x1 x2 x3 x4 x5 x6 x7):boolOf? (ent (e244 x0 x1 x2 x3 x4 x5 x6 x7) (.t 106))=some x7:=by kernel_rfl
theorem kp13_10 (x0 x1 x2):keep [2,3,4,9,10,11,86,87,88] (e246 x0 x1 x2)=(e246 x0 x1 x2):=by kernel_rfl
theorem kp13_11 (x0 x1 x2 x3 x4 x5):keep [2,3,4,9,10,11,86,87,88] (e247 x0 x1 x2 x3 x4 x5)=(e247 x0 x1 x2 x3 x4 x5):=by kernel_rfl
def g13_36 (k0:V22→V22→V6→V0→Int→Int→Option R) (x0 x1:V22) (x2:V6) (x3:V0) (x4 x5:Int):Option R:=
k0 x0 x1 x2 x3 x4 (IntKind.i64.wrap (x5+(1:Int)))
theorem t13_36 (x0 x1 x2 x3 x4 x5):exec cl N c13_36 (e247 x0 x1 x2 x3 x4 x5) K=(g13_36 (fun y0 y1 y2 y3 y4 y5=>K .normal (e242 y0 y1 y2 y3 y4 y5)) x0 x1 x2 x3 x4 x5):=by
 kernel_rfl
def g13_37 (S40:V1→Option (Int)) (k0:V22→Int→Int→Option R) (k1:V22→V22→V6→V0→Int→Int→Option R) (k2:V22→V22→V6→V0→Int→Int→Option R) (x0 x1:V22) (x2:V6) (x3:V0) (x4 x5:Int):Option R:=
(g13_27 (fun y0 y1 y2 y3 y4 y5 y6=>brB y6 ((g13_34 S40 (fun y0 y1 y2 y3 y4 y5 y6 y7=>brB y7 (g13_32 k0 y0 y1 y2 y3 y4 y5 y6 y7) (((g13_36 k1)) y0 y1 y2 y3 y5 y6))) y0 y1 y2 y3 y4 y5) (k2 y0 y1 y2 y3 y4 y5)) x0 x1 x2 x3 x4 x5)
theorem t13_37 (S40) (h40:(ctr40 S40).holds cl) (x0 x1 x2 x3 x4 x5):exec cl N c13_37 (e242 x0 x1 x2 x3 x4 x5) K=(g13_37 S40 (fun y0 y1 y2=>K .ret (e246 y0 y1 y2)) (fun y0 y1 y2 y3 y4 y5=>K .normal (e242 y0 y1 y2 y3 y4 y5)) (fun y0 y1 y2 y3 y4 y5=>K (.exit 2) (e242 y0 y1 y2 y3 y4 y5)) x0 x1 x2 x3 x4 x5):=by
 simp only [c13_37,exec_seq,seqK_normal,seqK_exit,seqK_ret,t13_27,c13_28,exec_out,exec_cond',hb13_3,Option.bind_some,brB_true,brB_false,exec_skip,exec_exit,kp13_7,c13_35,exec_block,t13_34 S40 h40,c13_33,hb13_4,t13_32,exec_ret,kp13_8,kp13_9,blockK_normal,blockK_ret,blockK_eq,kp13_10,kp13_11,t13_36]
 rfl
def l13_38 {R:Type} (S40:V1→Option (Int)) (k0:V22→Int→Int→Option R) (k1:V22→V22→V6→V0→Int→Int→Option R):Nat→V22→V22→V6→V0→Int→Int→Option R
 | 0,_,_,_,_,_,_=>none
 | m+1,x0,x1,x2,x3,x4,x5=>(g13_37 S40 k0 (l13_38 S40 k0 k1 m) k1 x0 x1 x2 x3 x4 x5)
theorem lt13_38 (S40) (h40:(ctr40 S40).holds cl):∀ (m) (x0 x1 x2 x3 x4 x5),iter [2,9,10,11,86,87,88] (fun env K=>exec cl N c13_37 env K) K m (e242 x0 x1 x2 x3 x4 x5)=l13_38 S40 (fun y0 y1 y2=>K .ret (e246 y0 y1 y2)) (fun y0 y1 y2 y3 y4 y5=>K (.exit 2) (e242 y0 y1 y2 y3 y4 y5)) m x0 x1 x2 x3 x4 x5:=by
 intro m
 induction m with
 | zero=>intros; rfl
 | succ m ih=>
   intro x0 x1 x2 x3 x4 x5
   simp only [iter_succ,t13_37 S40 h40,loopK_normal,loopK_exit,loopK_ret,kp13_6,ih]
   rfl
theorem kp13_12 (x0 x1 x2):keep [2,3,4,9] (e246 x0 x1 x2)=(e248 x0 x1 x2):=by kernel_rfl
theorem kp13_13 (x0 x1 x2 x3 x4 x5):keep [2,3,4,9] (e242 x0 x1 x2 x3 x4 x5)=(e249 x0 x1):=by kernel_rfl
def g13_38 (N:Nat) (S40:V1→Option (Int)) (k0:V22→Int→Int→Option R) (k1:V22→V22→Option R) (x0 x1:V22) (x2:V6) (x3:V0) (x4 x5:Int):Option R:=
l13_38 S40 k0 (fun y0 y1 y2 y3 y4 y5=>k1 y0 y1) N x0 x1 x2 x3 x4 x5
theorem t13_38 (S40) (h40:(ctr40 S40).holds cl) (x0 x1 x2 x3 x4 x5):exec cl N c13_38 (e242 x0 x1 x2 x3 x4 x5) K=(g13_38 N S40 (fun y0 y1 y2=>K .ret (e248 y0 y1 y2)) (fun y0 y1=>K (.exit 2) (e249 y0 y1)) x0 x1 x2 x3 x4 x5):=by
 simp only [c13_38,exec_out,exec_loop,kp13_6,lt13_38 S40 h40,kp13_12,kp13_13]
 rfl
theorem kp13_14 (x0 x1 x2):keep [2,3,4,9] (e248 x0 x1 x2)=(e248 x0 x1 x2):=by kernel_rfl
theorem kp13_15 (x0 x1):keep [2,3,4,9] (e249 x0 x1)=(e249 x0 x1):=by kernel_rfl
def g13_44 (S16:V22→Option (Int)) (k0:V22→V22→Int→Bool→Option R) (x0 x1:V22):Option R:=
(S16 x1).bind fun r1030=>
k0 x0 x1 r1030 (r1030 != (0:Int))
theorem t13_44 (S16) (h16:(ctr16 S16).holds cl) (x0 x1):exec cl N c13_44 (e249 x0 x1) K=(g13_44 S16 (fun y0 y1 y2 y3=>exec cl N c13_43 (e250 y0 y1 y2 y3) K) x0 x1):=by
 rw [←put_eq h16]
 kernel_rfl
def g13_42 (k0:V22→Int→Int→Option R) (x0 x1:V22) (x2:Int) (x3:Bool):Option R:=
k0 ([],[],()) (0:Int) x2
theorem t13_42 (x0 x1 x2 x3):exec cl N c13_42 (e250 x0 x1 x2 x3) K=(g13_42 (fun y0 y1 y2=>K .normal (e234 y0 y1 y2)) x0 x1 x2 x3):=by
 kernel_rfl
theorem kp13_16 (x0 x1 x2):keep [2,3,4,9] (e234 x0 x1 x2)=(e251 x0 x1 x2):=by kernel_rfl
theorem kp13_17 (x0 x1 x2 x3):keep [2,3,4,9] (e250 x0 x1 x2 x3)=(e252 x0 x1):=by kernel_rfl
theorem hb13_5 (x0 x1 x2 x3):boolOf? (ent (e250 x0 x1 x2 x3) (.t 116))=some x3:=by kernel_rfl
def g13_45 (k0:V22→Int→Int→Option R) (x0 x1:V22):Option R:=
k0 x1 (0:Int) (0:Int)
theorem t13_45 (x0 x1):exec cl N c13_45 (e252 x0 x1) K=(g13_45 (fun y0 y1 y2=>K .normal (e245 y0 y1 y2)) x0 x1):=by
 kernel_rfl
def g13_47b (N:Nat) (S16:V22→Option (Int)) (S35:V1→Option V19) (S36:V21→Int→V1→Option V23) (S37:V21→Int→V1→Option (Bool)) (S38:V21→Option (Int)) (S39:V21→Option V25) (S40:V1→Option (Int)) (k0:V22→Int→Int→Option R) (k1:V22→Int→Int→Option R) (k2:V22→Int→Int→Option R) (k3:V22→Int→Int→Option R) (k4:V22→Int→Int→Option R) (x0:V1):Option R:=
(g13_47 S35 (g13_2 (fun y0 y1 y2 y3 y4=>brB y4 (g13_3 k0 y0 y1 y2 y3 y4) ((g13_46 S36 (g13_20 N S37 S38 S39 ((g13_22 S36 (g13_23 (fun y0 y1 y2 y3 y4 y5=>brB y5 (g13_24 S38 k1 y0 y1 y2 y3 y4 y5) ((g13_26 (g13_38 N S40 k2 ((g13_44 S16 (fun y0 y1 y2 y3=>brB y3 (g13_42 k3 y0 y1 y2 y3) ((g13_45 k4) y0 y1)))))) y0 y1 y2 y3))))))) y0 y1))) x0)
theorem t13_47b (S16) (S35) (S36) (S37) (S38) (S39) (S40) (h16:(ctr16 S16).holds cl) (h35:(ctr35 S35).holds cl) (h36:(ctr36 S36).holds cl) (h37:(ctr37 S37).holds cl) (h38:(ctr38 S38).holds cl) (h39:(ctr39 S39).holds cl) (h40:(ctr40 S40).holds cl) (x0):exec cl N c13_47 [(0,.v .str x0)] K=(g13_47b N S16 S35 S36 S37 S38 S39 S40 (fun y0 y1 y2=>K .ret (e235 y0 y1 y2)) (fun y0 y1 y2=>K .ret (e240 y0 y1 y2)) (fun y0 y1 y2=>K .ret (e248 y0 y1 y2)) (fun y0 y1 y2=>K .ret (e251 y0 y1 y2)) (fun y0 y1 y2=>K .ret (e245 y0 y1 y2)) x0):=by
 simp only [exec_seq,seqK_normal,seqK_exit,seqK_ret,t13_47 S35 h35,t13_2,c13_4,exec_out,exec_cond',hb13_0,Option.bind_some,brB_true,brB_false,t13_3,exec_ret,exec_skip,kp13_0,kp13_1,t13_46 S36 h36,c13_21,exec_block,t13_20 S37 S38 S39 h37 h38 h39,blockK_normal,blockK_ret,blockK_eq,kp13_2,t13_22 S36 h36,t13_23,c13_25,hb13_2,t13_24 S38 h38,kp13_4,kp13_5,t13_26,c13_39,t13_38 S40 h40,kp13_14,kp13_15,t13_44 S16 h16,c13_43,hb13_5,t13_42,kp13_16,kp13_17,t13_45]
 rfl
theorem rk13_0 (y0 y1 y2):retK d13 .ret (e235 y0 y1 y2)=some [.v U17 y0,.v U2 y1,.v U2 y2]:=by kernel_rfl
theorem rk13_1 (y0 y1 y2):retK d13 .ret (e240 y0 y1 y2)=some [.v U17 y0,.v U2 y1,.v U2 y2]:=by kernel_rfl
theorem rk13_2 (y0 y1 y2):retK d13 .ret (e248 y0 y1 y2)=some [.v U17 y0,.v U2 y1,.v U2 y2]:=by kernel_rfl
theorem rk13_3 (y0 y1 y2):retK d13 .ret (e251 y0 y1 y2)=some [.v U17 y0,.v U2 y1,.v U2 y2]:=by kernel_rfl
theorem rk13_4 (y0 y1 y2):retK d13 .ret (e245 y0 y1 y2)=some [.v U17 y0,.v U2 y1,.v U2 y2]:=by kernel_rfl
def g13 (N:Nat) (S16:V22→Option (Int)) (S35:V1→Option V19) (S36:V21→Int→V1→Option V23) (S37:V21→Int→V1→Option (Bool)) (S38:V21→Option (Int)) (S39:V21→Option V25) (S40:V1→Option (Int)) (x0:V1) (k:V22→Int→Int→Option R):Option R:=
(g13_47b N S16 S35 S36 S37 S38 S39 S40 k k k k k x0)
theorem gen13 (S16) (S35) (S36) (S37) (S38) (S39) (S40) (h16:(ctr16 S16).holds cl) (h35:(ctr35 S35).holds cl) (h36:(ctr36 S36).holds cl) (h37:(ctr37 S37).holds cl) (h38:(ctr38 S38).holds cl) (h39:(ctr39 S39).holds cl) (h40:(ctr40 S40).holds cl) (x0) (k:List E→Option R):exec cl N c13 [(0,.v .str x0)] (fun e env=>(retK d13 e env).bind k)=g13 N S16 S35 S36 S37 S38 S39 S40 x0 (fun r0 r1 r2=>k [.v U17 r0,.v U2 r1,.v U2 r2]):=by
 simp only [c13,t13_47b S16 S35 S36 S37 S38 S39 S40 h16 h35 h36 h37 h38 h39 h40,rk13_0,rk13_1,rk13_2,rk13_3,rk13_4,Option.bind_some]
 rfl
def ctr13 (S:V1→Option V24):Ctr:=cv1 13 .str S fun b=> [.v U17 b.1,.v U2 b.2.1,.v U2 b.2.2]
def S13 (N:Nat) (x0:V1):Option V24:=g13 N (S16 N) (S35 N) (S36 N) (S37 N) (S38 N) (S39 N) (S40 N) x0 (fun (r0:V22) (r1:Int) (r2:Int)=>some (r0,r1,r2))
def g41_0 (k0:V6→V6→Option R) (x0 x1:V6):Option R:=
k0 x0 x1
theorem t41_0 (x0 x1):exec cl N c41_0 (e253 x0 x1) K=(g41_0 (fun y0 y1=>K .normal (e253 y0 y1)) x0 x1):=by
 kernel_rfl
def g41_1 (k0:V6→V6→Bool→Option R) (x0 x1:V6):Option R:=
k0 x0 x1 ((x0.length:Int) != (x1.length:Int))
theorem t41_1 (x0 x1):exec cl N c41_1 (e253 x0 x1) K=(g41_1 (fun y0 y1 y2=>K .normal (e254 y0 y1 y2)) x0 x1):=by
 kernel_rfl
def g41_2 (k0:Bool→Option R) (x0 x1:V6) (x2:Bool):Option R:=
k0 false
theorem t41_2 (x0 x1 x2):exec cl N c41_2 (e254 x0 x1 x2) K=(g41_2 (fun y0=>K .normal [(4,.v .bool y0)]) x0 x1 x2):=by
 kernel_rfl
theorem kp41_0 (x0):keep [0,1,4] [(4,.v .bool x0)]=(e255 x0):=by kernel_rfl
theorem kp41_1 (x0 x1 x2):keep [0,1,4] (e254 x0 x1 x2)=[(0,.v U0 x0),(1,.v U0 x1),(4,.dead)]:=by kernel_rfl
theorem hb41_0 (x0 x1 x2):boolOf? (ent (e254 x0 x1 x2) (.t 10))=some x2:=by kernel_rfl
def g41_4 (k0:V6→V6→Int→Option R) (x0 x1:V6):Option R:=
k0 x0 x1 (0:Int)
theorem t41_4 (x0 x1):exec cl N c41_4 [(0,.v U0 x0),(1,.v U0 x1),(4,.dead)] K=(g41_4 (fun y0 y1 y2=>K .normal (e256 y0 y1 y2)) x0 x1):=by
 kernel_rfl
theorem kp41_2 (x0 x1 x2):keep [0,1,5] (e256 x0 x1 x2)=(e256 x0 x1 x2):=by kernel_rfl
def g41_5 (k0:V6→V6→Int→Bool→Option R) (x0 x1:V6) (x2:Int):Option R:=
k0 x0 x1 x2 (decide (x2 < (x0.length:Int)))
theorem t41_5 (x0 x1 x2):exec cl N c41_5 (e256 x0 x1 x2) K=(g41_5 (fun y0 y1 y2 y3=>K .normal (e257 y0 y1 y2 y3)) x0 x1 x2):=by
 kernel_rfl
theorem kp41_3 (x0 x1 x2 x3):keep [0,1,5] (e257 x0 x1 x2 x3)=(e256 x0 x1 x2):=by kernel_rfl
theorem hb41_1 (x0 x1 x2 x3):boolOf? (ent (e257 x0 x1 x2 x3) (.t 14))=some x3:=by kernel_rfl
def g41_7 (k0:V6→V6→Int→Bool→Option R) (x0 x1:V6) (x2:Int):Option R:=
if 0≤x2∧x2 < (x0.length:Int) then
if 0≤x2∧x2 < (x1.length:Int) then
k0 x0 x1 x2 ((x0.getD x2.toNat []) != (x1.getD x2.toNat []))
else none
else none
theorem t41_7 (x0 x1 x2):exec cl N c41_7 (e256 x0 x1 x2) K=(g41_7 (fun y0 y1 y2 y3=>K .normal (e258 y0 y1 y2 y3)) x0 x1 x2):=by
 kernel_rfl
def g41_8 (k0:Bool→Option R) (x0 x1:V6) (x2:Int) (x3:Bool):Option R:=
k0 false
theorem t41_8 (x0 x1 x2 x3):exec cl N c41_8 (e258 x0 x1 x2 x3) K=(g41_8 (fun y0=>K .normal [(4,.v .bool y0)]) x0 x1 x2 x3):=by
 kernel_rfl
theorem kp41_4 (x0):keep [0,1,4,5] [(4,.v .bool x0)]=(e32 x0):=by kernel_rfl
theorem kp41_5 (x0 x1 x2 x3):keep [0,1,4,5] (e258 x0 x1 x2 x3)=(e259 x0 x1 x2):=by kernel_rfl
theorem hb41_2 (x0 x1 x2 x3):boolOf? (ent (e258 x0 x1 x2 x3) (.t 25))=some x3:=by kernel_rfl
theorem kp41_6 (x0):keep [0,1,4,5] (e32 x0)=(e32 x0):=by kernel_rfl
theorem kp41_7 (x0 x1 x2):keep [0,1,4,5] (e259 x0 x1 x2)=(e259 x0 x1 x2):=by kernel_rfl
def g41_11 (k0:V6→V6→Int→Option R) (x0 x1:V6) (x2:Int):Option R:=
k0 x0 x1 (IntKind.i64.wrap (x2+(1:Int)))
theorem t41_11 (x0 x1 x2):exec cl N c41_11 (e259 x0 x1 x2) K=(g41_11 (fun y0 y1 y2=>K .normal (e256 y0 y1 y2)) x0 x1 x2):=by
 kernel_rfl
def g41_12 (k0:Bool→Option R) (k1:V6→V6→Int→Option R) (k2:V6→V6→Int→Option R) (x0 x1:V6) (x2:Int):Option R:=
(g41_5 (fun y0 y1 y2 y3=>brB y3 ((g41_7 (fun y0 y1 y2 y3=>brB y3 (g41_8 k0 y0 y1 y2 y3) (((g41_11 k1)) y0 y1 y2))) y0 y1 y2) (k2 y0 y1 y2)) x0 x1 x2)
theorem t41_12 (x0 x1 x2):exec cl N c41_12 (e256 x0 x1 x2) K=(g41_12 (fun y0=>K .ret (e32 y0)) (fun y0 y1 y2=>K .normal (e256 y0 y1 y2)) (fun y0 y1 y2=>K (.exit 0) (e256 y0 y1 y2)) x0 x1 x2):=by
 simp only [c41_12,exec_seq,seqK_normal,seqK_exit,seqK_ret,t41_5,c41_6,exec_out,exec_cond',hb41_1,Option.bind_some,brB_true,brB_false,exec_skip,exec_exit,kp41_3,c41_10,exec_block,t41_7,c41_9,hb41_2,t41_8,exec_ret,kp41_4,kp41_5,blockK_normal,blockK_ret,blockK_eq,kp41_6,kp41_7,t41_11]
 rfl
def l41_13 {R:Type} (k0:Bool→Option R) (k1:V6→V6→Int→Option R):Nat→V6→V6→Int→Option R
 | 0,_,_,_=>none
 | m+1,x0,x1,x2=>(g41_12 k0 (l41_13 k0 k1 m) k1 x0 x1 x2)
theorem lt41_13:∀ (m) (x0 x1 x2),iter [0,1,5] (fun env K=>exec cl N c41_12 env K) K m (e256 x0 x1 x2)=l41_13 (fun y0=>K .ret (e32 y0)) (fun y0 y1 y2=>K (.exit 0) (e256 y0 y1 y2)) m x0 x1 x2:=by
 intro m
 induction m with
 | zero=>intros; rfl
 | succ m ih=>
   intro x0 x1 x2
   simp only [iter_succ,t41_12,loopK_normal,loopK_exit,loopK_ret,kp41_2,ih]
   rfl
theorem kp41_8 (x0):keep [4] (e32 x0)=[(4,.v .bool x0)]:=by kernel_rfl
theorem kp41_9 (x0 x1 x2):keep [4] (e256 x0 x1 x2)=[(4,.dead)]:=by kernel_rfl
def g41_13 (N:Nat) (k0:Bool→Option R) (k1:Option R) (x0 x1:V6) (x2:Int):Option R:=
l41_13 k0 (fun y0 y1 y2=>k1) N x0 x1 x2
theorem t41_13 (x0 x1 x2):exec cl N c41_13 (e256 x0 x1 x2) K=(g41_13 N (fun y0=>K .ret [(4,.v .bool y0)]) (K (.exit 0) [(4,.dead)]) x0 x1 x2):=by
 simp only [c41_13,exec_out,exec_loop,kp41_2,lt41_13,kp41_8,kp41_9]
 rfl
theorem kp41_10 (x0):keep [4] [(4,.v .bool x0)]=[(4,.v .bool x0)]:=by kernel_rfl
theorem kp41_11:keep [4] [(4,.dead)]=[(4,.dead)]:=by kernel_rfl
def g41_15 (k0:Bool→Option R):Option R:=
k0 true
theorem t41_15:exec cl N c41_15 [(4,.dead)] K=(g41_15 (fun y0=>K .normal [(4,.v .bool y0)])):=by
 kernel_rfl
def g41_16 (N:Nat) (k0:Bool→Option R) (k1:Bool→Option R) (x0 x1:V6):Option R:=
(g41_0 (g41_1 (fun y0 y1 y2=>brB y2 (g41_2 k0 y0 y1 y2) ((g41_4 (g41_13 N k1 (g41_15 k1))) y0 y1))) x0 x1)
theorem t41_16 (x0 x1):exec cl N c41_16 (e253 x0 x1) K=(g41_16 N (fun y0=>K .ret (e255 y0)) (fun y0=>K .ret [(4,.v .bool y0)]) x0 x1):=by
 simp only [c41_16,exec_seq,seqK_normal,seqK_exit,seqK_ret,t41_0,t41_1,c41_3,exec_out,exec_cond',hb41_0,Option.bind_some,brB_true,brB_false,t41_2,exec_ret,exec_skip,kp41_0,kp41_1,t41_4,c41_14,exec_block,t41_13,blockK_normal,blockK_ret,blockK_eq,kp41_10,kp41_11,t41_15]
 rfl
theorem rk41_0 (y0):retK d41 .ret (e255 y0)=some [.v .bool y0]:=by kernel_rfl
theorem rk41_1 (y0):retK d41 .ret [(4,.v .bool y0)]=some [.v .bool y0]:=by kernel_rfl
def g41 (N:Nat) (x0 x1:V6) (k:Bool→Option R):Option R:=
(g41_16 N k k x0 x1)
theorem gen41 (x0 x1) (k:List E→Option R):exec cl N c41 (e253 x0 x1) (fun e env=>(retK d41 e env).bind k)=g41 N x0 x1 (fun r0=>k [.v .bool r0]):=by
 simp only [c41,t41_16,rk41_0,rk41_1,Option.bind_some]
 rfl
def ctr41 (S:V6→V6→Option (Bool)):Ctr:=cv2 41 U0 U0 S fun b=> [.v .bool b]
def S41 (N:Nat) (x0:V6) (x1:V6):Option (Bool):=g41 N x0 x1 (fun (r0:Bool)=>some (r0))
def g14_0 (k0:V22→V22→Option R) (x0 x1:V22):Option R:=
k0 x0 x1
theorem t14_0 (x0 x1):exec cl N c14_0 [(0,.v U17 x0),(1,.v U17 x1)] K=(g14_0 (fun y0 y1=>K .normal [(2,.loc U17 .no y0),(3,.loc U17 .no y1)]) x0 x1):=by
 kernel_rfl
def g14_1 (k0:V22→V22→Bool→Option R) (x0 x1:V22):Option R:=
brB (x0.1 != x1.1) (k0 x0 x1 true) (k0 x0 x1 ((x0.2.1.length:Int) != (x1.2.1.length:Int)))
theorem t14_1 (x0 x1):exec cl N c14_1 [(2,.loc U17 .no x0),(3,.loc U17 .no x1)] K=(g14_1 (fun y0 y1 y2=>K .normal (e260 y0 y1 y2)) x0 x1):=by
 kernel_rfl
def g14_2 (k0:Bool→Option R) (x0 x1:V22) (x2:Bool):Option R:=
k0 false
theorem t14_2 (x0 x1 x2):exec cl N c14_2 (e260 x0 x1 x2) K=(g14_2 (fun y0=>K .normal [(4,.v .bool y0)]) x0 x1 x2):=by
 kernel_rfl
theorem kp14_0 (x0):keep [2,3,4] [(4,.v .bool x0)]=(e261 x0):=by kernel_rfl
theorem kp14_1 (x0 x1 x2):keep [2,3,4] (e260 x0 x1 x2)=[(2,.loc U17 .no x0),(3,.loc U17 .no x1),(4,.dead)]:=by kernel_rfl
theorem hb14_0 (x0 x1 x2):boolOf? (ent (e260 x0 x1 x2) (.t 21))=some x2:=by kernel_rfl
def g14_4 (k0:V22→V22→Int→Option R) (x0 x1:V22):Option R:=
k0 x0 x1 (0:Int)
theorem t14_4 (x0 x1):exec cl N c14_4 [(2,.loc U17 .no x0),(3,.loc U17 .no x1),(4,.dead)] K=(g14_4 (fun y0 y1 y2=>K .normal (e262 y0 y1 y2)) x0 x1):=by
 kernel_rfl
theorem kp14_2 (x0 x1 x2):keep [2,3,5] (e262 x0 x1 x2)=(e262 x0 x1 x2):=by kernel_rfl
def g14_5 (k0:V22→V22→Int→Bool→Option R) (x0 x1:V22) (x2:Int):Option R:=
k0 x0 x1 x2 (decide (x2 < (x0.2.1.length:Int)))
theorem t14_5 (x0 x1 x2):exec cl N c14_5 (e262 x0 x1 x2) K=(g14_5 (fun y0 y1 y2 y3=>K .normal (e263 y0 y1 y2 y3)) x0 x1 x2):=by
 kernel_rfl
theorem kp14_3 (x0 x1 x2 x3):keep [2,3,5] (e263 x0 x1 x2 x3)=(e262 x0 x1 x2):=by kernel_rfl
theorem hb14_1 (x0 x1 x2 x3):boolOf? (ent (e263 x0 x1 x2 x3) (.t 26))=some x3:=by kernel_rfl
def g14_11 (S41:V6→V6→Option (Bool)) (k0:V22→V22→Int→Bool→Option R) (x0 x1:V22) (x2:Int):Option R:=
if 0≤x2∧x2 < (x0.2.1.length:Int) then
if 0≤x2∧x2 < (x1.2.1.length:Int) then
brB ((x0.2.1.getD x2.toNat ((0:Int),((0:Int),([],())))).1 != (x1.2.1.getD x2.toNat ((0:Int),((0:Int),([],())))).1) (k0 x0 x1 x2 true) (brB ((x0.2.1.getD x2.toNat ((0:Int),((0:Int),([],())))).2.1 != (x1.2.1.getD x2.toNat ((0:Int),((0:Int),([],())))).2.1) (k0 x0 x1 x2 true) ((S41 ((x0.2.1.getD x2.toNat ((0:Int),((0:Int),([],())))).2.2.1) ((x1.2.1.getD x2.toNat ((0:Int),((0:Int),([],())))).2.2.1)).bind fun r1055=>
k0 x0 x1 x2 (!r1055)))
else none
else none
theorem t14_11 (S41) (h41:(ctr41 S41).holds cl) (x0 x1 x2):exec cl N c14_11 (e262 x0 x1 x2) K=(g14_11 S41 (fun y0 y1 y2 y3=>exec cl N c14_10 (e264 y0 y1 y2 y3) K) x0 x1 x2):=by
 rw [←put_eq h41]
 kernel_rfl
def g14_9 (k0:Bool→Option R) (x0 x1:V22) (x2:Int) (x3:Bool):Option R:=
k0 false
theorem t14_9 (x0 x1 x2 x3):exec cl N c14_9 (e264 x0 x1 x2 x3) K=(g14_9 (fun y0=>K .normal [(4,.v .bool y0)]) x0 x1 x2 x3):=by
 kernel_rfl
theorem kp14_4 (x0):keep [2,3,4,5] [(4,.v .bool x0)]=(e265 x0):=by kernel_rfl
theorem kp14_5 (x0 x1 x2 x3):keep [2,3,4,5] (e264 x0 x1 x2 x3)=(e266 x0 x1 x2):=by kernel_rfl
theorem hb14_2 (x0 x1 x2 x3):boolOf? (ent (e264 x0 x1 x2 x3) (.t 58))=some x3:=by kernel_rfl
theorem kp14_6 (x0):keep [2,3,4,5] (e265 x0)=(e265 x0):=by kernel_rfl
theorem kp14_7 (x0 x1 x2):keep [2,3,4,5] (e266 x0 x1 x2)=(e266 x0 x1 x2):=by kernel_rfl
def g14_13 (k0:V22→V22→Int→Option R) (x0 x1:V22) (x2:Int):Option R:=
k0 x0 x1 (IntKind.i64.wrap (x2+(1:Int)))
theorem t14_13 (x0 x1 x2):exec cl N c14_13 (e266 x0 x1 x2) K=(g14_13 (fun y0 y1 y2=>K .normal (e262 y0 y1 y2)) x0 x1 x2):=by
 kernel_rfl
def g14_14 (S41:V6→V6→Option (Bool)) (k0:Bool→Option R) (k1:V22→V22→Int→Option R) (k2:V22→V22→Int→Option R) (x0 x1:V22) (x2:Int):Option R:=
(g14_5 (fun y0 y1 y2 y3=>brB y3 ((g14_11 S41 (fun y0 y1 y2 y3=>brB y3 (g14_9 k0 y0 y1 y2 y3) (((g14_13 k1)) y0 y1 y2))) y0 y1 y2) (k2 y0 y1 y2)) x0 x1 x2)
theorem t14_14 (S41) (h41:(ctr41 S41).holds cl) (x0 x1 x2):exec cl N c14_14 (e262 x0 x1 x2) K=(g14_14 S41 (fun y0=>K .ret (e265 y0)) (fun y0 y1 y2=>K .normal (e262 y0 y1 y2)) (fun y0 y1 y2=>K (.exit 0) (e262 y0 y1 y2)) x0 x1 x2):=by
 simp only [c14_14,exec_seq,seqK_normal,seqK_exit,seqK_ret,t14_5,c14_6,exec_out,exec_cond',hb14_1,Option.bind_some,brB_true,brB_false,exec_skip,exec_exit,kp14_3,c14_12,exec_block,t14_11 S41 h41,c14_10,hb14_2,t14_9,exec_ret,kp14_4,kp14_5,blockK_normal,blockK_ret,blockK_eq,kp14_6,kp14_7,t14_13]
 rfl
def l14_15 {R:Type} (S41:V6→V6→Option (Bool)) (k0:Bool→Option R) (k1:V22→V22→Int→Option R):Nat→V22→V22→Int→Option R
 | 0,_,_,_=>none
 | m+1,x0,x1,x2=>(g14_14 S41 k0 (l14_15 S41 k0 k1 m) k1 x0 x1 x2)
theorem lt14_15 (S41) (h41:(ctr41 S41).holds cl):∀ (m) (x0 x1 x2),iter [2,3,5] (fun env K=>exec cl N c14_14 env K) K m (e262 x0 x1 x2)=l14_15 S41 (fun y0=>K .ret (e265 y0)) (fun y0 y1 y2=>K (.exit 0) (e262 y0 y1 y2)) m x0 x1 x2:=by
 intro m
 induction m with
 | zero=>intros; rfl
 | succ m ih=>
   intro x0 x1 x2
   simp only [iter_succ,t14_14 S41 h41,loopK_normal,loopK_exit,loopK_ret,kp14_2,ih]
   rfl
theorem kp14_8 (x0):keep [4] (e265 x0)=[(4,.v .bool x0)]:=by kernel_rfl
theorem kp14_9 (x0 x1 x2):keep [4] (e262 x0 x1 x2)=[(4,.dead)]:=by kernel_rfl
def g14_15 (N:Nat) (S41:V6→V6→Option (Bool)) (k0:Bool→Option R) (k1:Option R) (x0 x1:V22) (x2:Int):Option R:=
l14_15 S41 k0 (fun y0 y1 y2=>k1) N x0 x1 x2
theorem t14_15 (S41) (h41:(ctr41 S41).holds cl) (x0 x1 x2):exec cl N c14_15 (e262 x0 x1 x2) K=(g14_15 N S41 (fun y0=>K .ret [(4,.v .bool y0)]) (K (.exit 0) [(4,.dead)]) x0 x1 x2):=by
 simp only [c14_15,exec_out,exec_loop,kp14_2,lt14_15 S41 h41,kp14_8,kp14_9]
 rfl
theorem kp14_10 (x0):keep [4] [(4,.v .bool x0)]=[(4,.v .bool x0)]:=by kernel_rfl
theorem kp14_11:keep [4] [(4,.dead)]=[(4,.dead)]:=by kernel_rfl
def g14_17 (k0:Bool→Option R):Option R:=
k0 true
theorem t14_17:exec cl N c14_17 [(4,.dead)] K=(g14_17 (fun y0=>K .normal [(4,.v .bool y0)])):=by
 kernel_rfl
def g14_18 (N:Nat) (S41:V6→V6→Option (Bool)) (k0:Bool→Option R) (k1:Bool→Option R) (x0 x1:V22):Option R:=
(g14_0 (g14_1 (fun y0 y1 y2=>brB y2 (g14_2 k0 y0 y1 y2) ((g14_4 (g14_15 N S41 k1 (g14_17 k1))) y0 y1))) x0 x1)
theorem t14_18 (S41) (h41:(ctr41 S41).holds cl) (x0 x1):exec cl N c14_18 [(0,.v U17 x0),(1,.v U17 x1)] K=(g14_18 N S41 (fun y0=>K .ret (e261 y0)) (fun y0=>K .ret [(4,.v .bool y0)]) x0 x1):=by
 simp only [c14_18,exec_seq,seqK_normal,seqK_exit,seqK_ret,t14_0,t14_1,c14_3,exec_out,exec_cond',hb14_0,Option.bind_some,brB_true,brB_false,t14_2,exec_ret,exec_skip,kp14_0,kp14_1,t14_4,c14_16,exec_block,t14_15 S41 h41,blockK_normal,blockK_ret,blockK_eq,kp14_10,kp14_11,t14_17]
 rfl
theorem rk14_0 (y0):retK d14 .ret (e261 y0)=some [.v .bool y0]:=by kernel_rfl
theorem rk14_1 (y0):retK d14 .ret [(4,.v .bool y0)]=some [.v .bool y0]:=by kernel_rfl
def g14 (N:Nat) (S41:V6→V6→Option (Bool)) (x0 x1:V22) (k:Bool→Option R):Option R:=
(g14_18 N S41 k k x0 x1)
theorem gen14 (S41) (h41:(ctr41 S41).holds cl) (x0 x1) (k:List E→Option R):exec cl N c14 [(0,.v U17 x0),(1,.v U17 x1)] (fun e env=>(retK d14 e env).bind k)=g14 N S41 x0 x1 (fun r0=>k [.v .bool r0]):=by
 simp only [c14,t14_18 S41 h41,rk14_0,rk14_1,Option.bind_some]
 rfl
def ctr14 (S:V22→V22→Option (Bool)):Ctr:=cv2 14 U17 U17 S fun b=> [.v .bool b]
def S14 (N:Nat) (x0:V22) (x1:V22):Option (Bool):=g14 N (S41 N) x0 x1 (fun (r0:Bool)=>some (r0))
def g3_0 (k0:V0→V22→Option R) (x0:V22) (x1:V0):Option R:=
k0 x1 x0
theorem t3_0 (x0 x1):exec cl N c3_0 [(0,.v U17 x0),(1,.v U3 x1)] K=(g3_0 (fun y0 y1=>K .normal [(1,.v U3 y0),(2,.loc U17 .no y1)]) x0 x1):=by
 kernel_rfl
def g3_1 (S7:Option (Bool)) (S8:V22→Option (Bool)) (S9:V22→Option (Int)) (k0:V0→V22→Bool→Option R) (x0:V0) (x1:V22):Option R:=
(S7).bind fun r1058=>
brB (!r1058) (k0 x0 x1 true) ((S8 x1).bind fun r1059=>
brB (!r1059) (k0 x0 x1 true) (brB ((x0.length:Int)==(0:Int)) (k0 x0 x1 true) (brB (decide ((x0.length:Int) > (100:Int))) (k0 x0 x1 true) ((S9 x1).bind fun r1062=>
k0 x0 x1 (r1062 != (0:Int))))))
theorem t3_1 (S7) (S8) (S9) (h7:(ctr7 S7).holds cl) (h8:(ctr8 S8).holds cl) (h9:(ctr9 S9).holds cl) (x0 x1):exec cl N c3_1 [(1,.v U3 x0),(2,.loc U17 .no x1)] K=(g3_1 S7 S8 S9 (fun y0 y1 y2=>K .normal (e267 y0 y1 y2)) x0 x1):=by
 rw [←put_eq h7]
 rw [←put_eq h8]
 rw [←put_eq h9]
 kernel_rfl
def g3_2 (S7:Option (Bool)) (k0:Bool→Option R) (x0:V0) (x1:V22) (x2:Bool):Option R:=
(S7).bind fun r1064=>
k0 r1064
theorem t3_2 (S7) (h7:(ctr7 S7).holds cl) (x0 x1 x2):exec cl N c3_2 (e267 x0 x1 x2) K=(g3_2 S7 (fun y0=>K .normal [(4,.v .bool y0)]) x0 x1 x2):=by
 rw [←put_eq h7]
 kernel_rfl
theorem kp3_0 (x0):keep [1,2,4] [(4,.v .bool x0)]=(e268 x0):=by kernel_rfl
theorem kp3_1 (x0 x1 x2):keep [1,2,4] (e267 x0 x1 x2)=[(1,.v U3 x0),(2,.loc U17 .no x1),(4,.dead)]:=by kernel_rfl
theorem hb3_0 (x0 x1 x2):boolOf? (ent (e267 x0 x1 x2) (.t 39))=some x2:=by kernel_rfl
def g3_22 (S10:V22→Option V7) (S11:V1→Option V19) (k0:V0→V22→V16→V1→Option R) (x0:V0) (x1:V22):Option R:=
(S10 x1).bind fun r1068=>
(S11 r1068.1).bind fun r1069=>
k0 x0 x1 r1069.1 ([]:List UInt8)
theorem t3_22 (S10) (S11) (h10:(ctr10 S10).holds cl) (h11:(ctr11 S11).holds cl) (x0 x1):exec cl N c3_22 [(1,.v U3 x0),(2,.loc U17 .no x1),(4,.dead)] K=(g3_22 S10 S11 (fun y0 y1 y2 y3=>exec cl N (.seq (.seq c3_7 c3_18) c3_21) (e269 y0 y1 y2 y3) K) x0 x1):=by
 rw [←put_eq h10]
 rw [←put_eq h11]
 kernel_rfl
def g3_7 (k0:V0→V22→V16→V1→Int→Int→Option R) (x0:V0) (x1:V22) (x2:V16) (x3:V1):Option R:=
k0 x0 x1 x2 x3 (x2.length:Int) (0:Int)
theorem t3_7 (x0 x1 x2 x3):exec cl N c3_7 (e269 x0 x1 x2 x3) K=(g3_7 (fun y0 y1 y2 y3 y4 y5=>K .normal (e270 y0 y1 y2 y3 y4 y5)) x0 x1 x2 x3):=by
 kernel_rfl
theorem kp3_2 (x0 x1 x2 x3 x4 x5):keep [1,2,7,10,52,53,54] (e270 x0 x1 x2 x3 x4 x5)=(e270 x0 x1 x2 x3 x4 x5):=by kernel_rfl
def g3_8 (k0:V0→V22→V16→V1→Int→Int→Bool→Option R) (x0:V0) (x1:V22) (x2:V16) (x3:V1) (x4 x5:Int):Option R:=
k0 x0 x1 x2 x3 x4 x5 (decide (x5 < x4))
theorem t3_8 (x0 x1 x2 x3 x4 x5):exec cl N c3_8 (e270 x0 x1 x2 x3 x4 x5) K=(g3_8 (fun y0 y1 y2 y3 y4 y5 y6=>K .normal (e271 y0 y1 y2 y3 y4 y5 y6)) x0 x1 x2 x3 x4 x5):=by
 kernel_rfl
theorem kp3_3 (x0 x1 x2 x3 x4 x5 x6):keep [1,2,7,10,52,53,54] (e271 x0 x1 x2 x3 x4 x5 x6)=(e270 x0 x1 x2 x3 x4 x5):=by kernel_rfl
theorem hb3_1 (x0 x1 x2 x3 x4 x5 x6):boolOf? (ent (e271 x0 x1 x2 x3 x4 x5 x6) (.t 55))=some x6:=by kernel_rfl
def g3_13 (S12:V16→Option V7) (k0:V0→V22→V16→V1→Int→Int→Option R) (x0:V0) (x1:V22) (x2:V16) (x3:V1) (x4 x5:Int):Option R:=
if 0≤x5∧x5 < (x2.length:Int) then
if x5.toNat < x2.length then
(S12 [(x2.getD x5.toNat ((0:Int),([],((0:Int),()))))]).bind fun r1075=>
if (x0.length:Int)=0 then none else
let v1076:Int:=(Int.tmod x5 (x0.length:Int))
if 0≤v1076∧v1076 < (x0.length:Int) then
let v1077:Int:=(Int.tmod (x0.getD v1076.toNat (0:Int)) (4:Int))
if 0≤v1077∧v1077 < ([([32]:List UInt8),([10]:List UInt8),([32,35,32,99,10]:List UInt8),([9,32]:List UInt8)].length:Int) then
if v1077.toNat < [([32]:List UInt8),([10]:List UInt8),([32,35,32,99,10]:List UInt8),([9,32]:List UInt8)].length then
let v1078:V1:=([([32]:List UInt8),([10]:List UInt8),([32,35,32,99,10]:List UInt8),([9,32]:List UInt8)].getD v1077.toNat [])
if v1078.length+r1075.1.length≤140737488355328 then
if x3.length+(v1078++r1075.1).length≤140737488355328 then
k0 x0 x1 x2 (x3++(v1078++r1075.1)) x4 x5
else none
else none
else none
else none
else none
else none
else none
theorem t3_13 (S12) (h12:(ctr12 S12).holds cl) (x0 x1 x2 x3 x4 x5):exec cl N c3_13 (e270 x0 x1 x2 x3 x4 x5) K=(g3_13 S12 (fun y0 y1 y2 y3 y4 y5=>K .normal (e270 y0 y1 y2 y3 y4 y5)) x0 x1 x2 x3 x4 x5):=by
 rw [←put_eq h12]
 kernel_rfl
def g3_15 (k0:V0→V22→V16→V1→Int→Int→Option R) (x0:V0) (x1:V22) (x2:V16) (x3:V1) (x4 x5:Int):Option R:=
k0 x0 x1 x2 x3 x4 (IntKind.i64.wrap (x5+(1:Int)))
theorem t3_15 (x0 x1 x2 x3 x4 x5):exec cl N c3_15 (e270 x0 x1 x2 x3 x4 x5) K=(g3_15 (fun y0 y1 y2 y3 y4 y5=>K .normal (e270 y0 y1 y2 y3 y4 y5)) x0 x1 x2 x3 x4 x5):=by
 kernel_rfl
def g3_16 (S12:V16→Option V7) (k0:V0→V22→V16→V1→Int→Int→Option R) (k1:V0→V22→V16→V1→Int→Int→Option R) (x0:V0) (x1:V22) (x2:V16) (x3:V1) (x4 x5:Int):Option R:=
(g3_8 (fun y0 y1 y2 y3 y4 y5 y6=>brB y6 ((g3_13 S12 ((g3_15 k0))) y0 y1 y2 y3 y4 y5) (k1 y0 y1 y2 y3 y4 y5)) x0 x1 x2 x3 x4 x5)
theorem t3_16 (S12) (h12:(ctr12 S12).holds cl) (x0 x1 x2 x3 x4 x5):exec cl N c3_16 (e270 x0 x1 x2 x3 x4 x5) K=(g3_16 S12 (fun y0 y1 y2 y3 y4 y5=>K .normal (e270 y0 y1 y2 y3 y4 y5)) (fun y0 y1 y2 y3 y4 y5=>K (.exit 0) (e270 y0 y1 y2 y3 y4 y5)) x0 x1 x2 x3 x4 x5):=by
 simp only [c3_16,exec_seq,seqK_normal,seqK_exit,seqK_ret,t3_8,c3_9,exec_out,exec_cond',hb3_1,Option.bind_some,brB_true,brB_false,exec_skip,exec_exit,kp3_3,c3_14,exec_block,t3_13 S12 h12,blockK_normal,blockK_ret,blockK_eq,kp3_2,t3_15]
 rfl
def l3_17 {R:Type} (S12:V16→Option V7) (k0:V0→V22→V16→V1→Int→Int→Option R):Nat→V0→V22→V16→V1→Int→Int→Option R
 | 0,_,_,_,_,_,_=>none
 | m+1,x0,x1,x2,x3,x4,x5=>(g3_16 S12 (l3_17 S12 k0 m) k0 x0 x1 x2 x3 x4 x5)
theorem lt3_17 (S12) (h12:(ctr12 S12).holds cl):∀ (m) (x0 x1 x2 x3 x4 x5),iter [1,2,7,10,52,53,54] (fun env K=>exec cl N c3_16 env K) K m (e270 x0 x1 x2 x3 x4 x5)=l3_17 S12 (fun y0 y1 y2 y3 y4 y5=>K (.exit 0) (e270 y0 y1 y2 y3 y4 y5)) m x0 x1 x2 x3 x4 x5:=by
 intro m
 induction m with
 | zero=>intros; rfl
 | succ m ih=>
   intro x0 x1 x2 x3 x4 x5
   simp only [iter_succ,t3_16 S12 h12,loopK_normal,loopK_exit,loopK_ret,kp3_2,ih]
   rfl
theorem kp3_4 (x0 x1 x2 x3 x4 x5):keep [2,10] (e270 x0 x1 x2 x3 x4 x5)=(e272 x1 x3):=by kernel_rfl
def g3_17 (N:Nat) (S12:V16→Option V7) (k0:V22→V1→Option R) (x0:V0) (x1:V22) (x2:V16) (x3:V1) (x4 x5:Int):Option R:=
l3_17 S12 (fun y0 y1 y2 y3 y4 y5=>k0 y1 y3) N x0 x1 x2 x3 x4 x5
theorem t3_17 (S12) (h12:(ctr12 S12).holds cl) (x0 x1 x2 x3 x4 x5):exec cl N c3_17 (e270 x0 x1 x2 x3 x4 x5) K=(g3_17 N S12 (fun y0 y1=>K (.exit 0) (e272 y0 y1)) x0 x1 x2 x3 x4 x5):=by
 simp only [c3_17,exec_out,exec_loop,kp3_2,lt3_17 S12 h12,kp3_4]
 rfl
theorem kp3_5 (x0 x1):keep [2,10] (e272 x0 x1)=(e272 x0 x1):=by kernel_rfl
def g3_21 (S13:V1→Option V24) (S14:V22→V22→Option (Bool)) (k0:Bool→Option R) (x0:V22) (x1:V1):Option R:=
(S13 x1).bind fun r1082=>
brB (r1082.2.2==(0:Int)) ((S14 r1082.1 x0).bind fun r1084=>
k0 r1084) (k0 false)
theorem t3_21 (S13) (S14) (h13:(ctr13 S13).holds cl) (h14:(ctr14 S14).holds cl) (x0 x1):exec cl N c3_21 (e272 x0 x1) K=(g3_21 S13 S14 (fun y0=>exec cl N .ret [(4,.v .bool y0)] K) x0 x1):=by
 rw [←put_eq h13]
 rw [←put_eq h14]
 kernel_rfl
def g3_23 (N:Nat) (S7:Option (Bool)) (S8:V22→Option (Bool)) (S9:V22→Option (Int)) (S10:V22→Option V7) (S11:V1→Option V19) (S12:V16→Option V7) (S13:V1→Option V24) (S14:V22→V22→Option (Bool)) (k0:Bool→Option R) (k1:Bool→Option R) (x0:V22) (x1:V0):Option R:=
(g3_0 (g3_1 S7 S8 S9 (fun y0 y1 y2=>brB y2 (g3_2 S7 k0 y0 y1 y2) ((g3_22 S10 S11 (g3_7 (g3_17 N S12 ((g3_21 S13 S14 k1))))) y0 y1))) x0 x1)
theorem t3_23 (S7) (S8) (S9) (S10) (S11) (S12) (S13) (S14) (h7:(ctr7 S7).holds cl) (h8:(ctr8 S8).holds cl) (h9:(ctr9 S9).holds cl) (h10:(ctr10 S10).holds cl) (h11:(ctr11 S11).holds cl) (h12:(ctr12 S12).holds cl) (h13:(ctr13 S13).holds cl) (h14:(ctr14 S14).holds cl) (x0 x1):exec cl N c3_23 [(0,.v U17 x0),(1,.v U3 x1)] K=(g3_23 N S7 S8 S9 S10 S11 S12 S13 S14 (fun y0=>K .ret (e268 y0)) (fun y0=>K .ret [(4,.v .bool y0)]) x0 x1):=by
 simp only [c3_23,exec_seq,seqK_normal,seqK_exit,seqK_ret,t3_0,t3_1 S7 S8 S9 h7 h8 h9,c3_3,exec_out,exec_cond',hb3_0,Option.bind_some,brB_true,brB_false,t3_2 S7 h7,exec_ret,exec_skip,kp3_0,kp3_1,t3_22 S10 S11 h10 h11,t3_7,c3_18,exec_block,t3_17 S12 h12,blockK_normal,blockK_ret,blockK_eq,kp3_5,t3_21 S13 S14 h13 h14]
 rfl
theorem rk3_0 (y0):retK d3 .ret (e268 y0)=some [.v .bool y0]:=by kernel_rfl
theorem rk3_1 (y0):retK d3 .ret [(4,.v .bool y0)]=some [.v .bool y0]:=by kernel_rfl
def g3 (N:Nat) (S7:Option (Bool)) (S8:V22→Option (Bool)) (S9:V22→Option (Int)) (S10:V22→Option V7) (S11:V1→Option V19) (S12:V16→Option V7) (S13:V1→Option V24) (S14:V22→V22→Option (Bool)) (x0:V22) (x1:V0) (k:Bool→Option R):Option R:=
(g3_23 N S7 S8 S9 S10 S11 S12 S13 S14 k k x0 x1)
theorem gen3 (S7) (S8) (S9) (S10) (S11) (S12) (S13) (S14) (h7:(ctr7 S7).holds cl) (h8:(ctr8 S8).holds cl) (h9:(ctr9 S9).holds cl) (h10:(ctr10 S10).holds cl) (h11:(ctr11 S11).holds cl) (h12:(ctr12 S12).holds cl) (h13:(ctr13 S13).holds cl) (h14:(ctr14 S14).holds cl) (x0 x1) (k:List E→Option R):exec cl N c3 [(0,.v U17 x0),(1,.v U3 x1)] (fun e env=>(retK d3 e env).bind k)=g3 N S7 S8 S9 S10 S11 S12 S13 S14 x0 x1 (fun r0=>k [.v .bool r0]):=by
 simp only [c3,t3_23 S7 S8 S9 S10 S11 S12 S13 S14 h7 h8 h9 h10 h11 h12 h13 h14,rk3_0,rk3_1,Option.bind_some]
 rfl
def ctr3 (S:V22→V0→Option (Bool)):Ctr:=cv2 3 U17 U3 S fun b=> [.v .bool b]
def S3 (N:Nat) (x0:V22) (x1:V0):Option (Bool):=g3 N (S7 N) (S8 N) (S9 N) (S10 N) (S11 N) (S12 N) (S13 N) (S14 N) x0 x1 (fun (r0:Bool)=>some (r0))
end Go.Fw.L19
