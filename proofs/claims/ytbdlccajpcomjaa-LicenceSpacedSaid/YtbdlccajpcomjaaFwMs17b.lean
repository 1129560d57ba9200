/- Printed by an own program for this claim: the machine's code of functions, or their typed forms with their equations; no conditions. -/
import Derived.Test.YtbdlccajpcomjaaFwMs17a
import Derived.Test.YtbdlccajpcomjaaFwB4
set_option linter.unusedVariables false
set_option linter.unusedSimpArgs false
namespace Go.Fw.L19
open Go Go.Fw
set_option maxRecDepth 100000
set_option linter.unusedVariables false
set_option linter.unusedSimpArgs false
variable {N:Nat} {cl:Cal} {R:Type} {K:KE R}
def g65_0 (k0:V1→Option R) (x0:V1):Option R:=
k0 x0
theorem t65_0 (x0):exec cl N c65_0 [(0,.v .str x0)] K=(g65_0 (fun y0=>K .normal [(0,.v .str y0)]) x0):=by
 kernel_rfl
def g65_1 (S76:Int→Option (Bool)) (k0:V1→Bool→Option R) (x0:V1):Option R:=
brB (x0==([]:List UInt8)) (k0 x0 true) (if 0≤(0:Int)∧(0:Int) < (x0.length:Int) then
(S76 ((x0.getD (0:Int).toNat 0).toNat:Int)).bind fun r585=>
k0 x0 (!r585)
else none)
theorem t65_1 (S76) (h76:(ctr76 S76).holds cl) (x0):exec cl N c65_1 [(0,.v .str x0)] K=(g65_1 S76 (fun y0 y1=>K .normal (e137 y0 y1)) x0):=by
 rw [←put_eq h76]
 kernel_rfl
def g65_2 (k0:Int→Option R) (x0:V1) (x1:Bool):Option R:=
k0 (0:Int)
theorem t65_2 (x0 x1):exec cl N c65_2 (e137 x0 x1) K=(g65_2 (fun y0=>K .normal [(2,.v U2 y0)]) x0 x1):=by
 kernel_rfl
theorem kp65_0 (x0):keep [0,2] [(2,.v U2 x0)]=(e7 x0):=by kernel_rfl
theorem kp65_1 (x0 x1):keep [0,2] (e137 x0 x1)=(e8 x0):=by kernel_rfl
theorem hb65_0 (x0 x1):boolOf? (ent (e137 x0 x1) (.t 12))=some x1:=by kernel_rfl
def g65_4 (k0:V1→Int→Option R) (x0:V1):Option R:=
k0 x0 (1:Int)
theorem t65_4 (x0):exec cl N c65_4 (e8 x0) K=(g65_4 (fun y0 y1=>K .normal (e9 y0 y1)) x0):=by
 kernel_rfl
theorem kp65_2 (x0 x1):keep [0,3] (e9 x0 x1)=(e9 x0 x1):=by kernel_rfl
def g65_5 (k0:V1→Int→Bool→Option R) (x0:V1) (x1:Int):Option R:=
k0 x0 x1 (decide (x1 < (x0.length:Int)))
theorem t65_5 (x0 x1):exec cl N c65_5 (e9 x0 x1) K=(g65_5 (fun y0 y1 y2=>K .normal (e138 y0 y1 y2)) x0 x1):=by
 kernel_rfl
theorem kp65_3 (x0 x1 x2):keep [0,3] (e138 x0 x1 x2)=(e9 x0 x1):=by kernel_rfl
theorem hb65_1 (x0 x1 x2):boolOf? (ent (e138 x0 x1 x2) (.t 16))=some x2:=by kernel_rfl
def g65_7 (k0:V1→Int→Int→Option R) (x0:V1) (x1:Int):Option R:=
if 0≤x1∧x1 < (x0.length:Int) then
k0 x0 x1 ((x0.getD x1.toNat 0).toNat:Int)
else none
theorem t65_7 (x0 x1):exec cl N c65_7 (e9 x0 x1) K=(g65_7 (fun y0 y1 y2=>K .normal [(0,.v .str y0),(3,.v U2 y1),(4,.v U1 y2)]) x0 x1):=by
 kernel_rfl
def g65_8 (S76:Int→Option (Bool)) (S77:Int→Option (Bool)) (k0:V1→Int→Int→Bool→Option R) (x0:V1) (x1 x2:Int):Option R:=
(S76 x2).bind fun r588=>
brB r588 (k0 x0 x1 x2 true) ((S77 x2).bind fun r589=>
k0 x0 x1 x2 r589)
theorem t65_8 (S76) (S77) (h76:(ctr76 S76).holds cl) (h77:(ctr77 S77).holds cl) (x0 x1 x2):exec cl N c65_8 [(0,.v .str x0),(3,.v U2 x1),(4,.v U1 x2)] K=(g65_8 S76 S77 (fun y0 y1 y2 y3=>K .normal (e139 y0 y1 y2 y3)) x0 x1 x2):=by
 rw [←put_eq h76]
 rw [←put_eq h77]
 kernel_rfl
def g65_9 (k0:V1→Int→Option R) (x0:V1) (x1 x2:Int) (x3:Bool):Option R:=
k0 x0 (IntKind.i64.wrap (x1+(1:Int)))
theorem t65_9 (x0 x1 x2 x3):exec cl N c65_9 (e139 x0 x1 x2 x3) K=(g65_9 (fun y0 y1=>K .normal (e9 y0 y1)) x0 x1 x2 x3):=by
 kernel_rfl
theorem kp65_4 (x0 x1):keep [0,2,3] (e9 x0 x1)=(e27 x0 x1):=by kernel_rfl
def g65_10 (S76:Int→Option (Bool)) (S77:Int→Option (Bool)) (k0:V1→Int→Bool→Option R) (x0:V1) (x1 x2:Int) (x3:Bool):Option R:=
brB (x2==(45:Int)) (brB (decide ((IntKind.i64.wrap (x1+(1:Int))) < (x0.length:Int))) (let v594:Int:=(IntKind.i64.wrap (x1+(1:Int)))
if 0≤v594∧v594 < (x0.length:Int) then
(S76 ((x0.getD v594.toNat 0).toNat:Int)).bind fun r596=>
brB r596 (k0 x0 x1 true) (let v597:Int:=(IntKind.i64.wrap (x1+(1:Int)))
if 0≤v597∧v597 < (x0.length:Int) then
(S77 ((x0.getD v597.toNat 0).toNat:Int)).bind fun r599=>
k0 x0 x1 r599
else none)
else none) (k0 x0 x1 false)) (k0 x0 x1 false)
theorem t65_10 (S76) (S77) (h76:(ctr76 S76).holds cl) (h77:(ctr77 S77).holds cl) (x0 x1 x2 x3):exec cl N c65_10 (e139 x0 x1 x2 x3) K=(g65_10 S76 S77 (fun y0 y1 y2=>K .normal (e66 y0 y1 y2)) x0 x1 x2 x3):=by
 rw [←put_eq h76]
 rw [←put_eq h77]
 kernel_rfl
def g65_11 (k0:V1→Int→Option R) (x0:V1) (x1:Int) (x2:Bool):Option R:=
k0 x0 (IntKind.i64.wrap (x1+(2:Int)))
theorem t65_11 (x0 x1 x2):exec cl N c65_11 (e66 x0 x1 x2) K=(g65_11 (fun y0 y1=>K .normal (e9 y0 y1)) x0 x1 x2):=by
 kernel_rfl
def g65_12 (k0:Int→Option R) (x0:V1) (x1:Int) (x2:Bool):Option R:=
k0 x1
theorem t65_12 (x0 x1 x2):exec cl N c65_12 (e66 x0 x1 x2) K=(g65_12 (fun y0=>K .normal [(2,.v U2 y0)]) x0 x1 x2):=by
 kernel_rfl
theorem kp65_5 (x0):keep [0,2,3] [(2,.v U2 x0)]=(e26 x0):=by kernel_rfl
theorem hb65_2 (x0 x1 x2):boolOf? (ent (e66 x0 x1 x2) (.t 30))=some x2:=by kernel_rfl
theorem kp65_6 (x0 x1):keep [0,2,3] (e27 x0 x1)=(e27 x0 x1):=by kernel_rfl
theorem kp65_7 (x0):keep [0,2,3] (e26 x0)=(e26 x0):=by kernel_rfl
theorem hb65_3 (x0 x1 x2 x3):boolOf? (ent (e139 x0 x1 x2 x3) (.t 21))=some x3:=by kernel_rfl
def g65_17 (S76:Int→Option (Bool)) (S77:Int→Option (Bool)) (k0:V1→Int→Option R) (k1:Int→Option R) (k2:V1→Int→Option R) (x0:V1) (x1:Int):Option R:=
(g65_5 (fun y0 y1 y2=>brB y2 ((g65_7 (g65_8 S76 S77 (fun y0 y1 y2 y3=>brB y3 (g65_9 k0 y0 y1 y2 y3) (g65_10 S76 S77 (fun y0 y1 y2=>brB y2 (g65_11 k0 y0 y1 y2) (g65_12 k1 y0 y1 y2)) y0 y1 y2 y3)))) y0 y1) (k2 y0 y1)) x0 x1)
theorem t65_17 (S76) (S77) (h76:(ctr76 S76).holds cl) (h77:(ctr77 S77).holds cl) (x0 x1):exec cl N c65_17 (e9 x0 x1) K=(g65_17 S76 S77 (fun y0 y1=>K .normal (e27 y0 y1)) (fun y0=>K .ret (e26 y0)) (fun y0 y1=>K (.exit 0) (e9 y0 y1)) x0 x1):=by
 simp only [c65_17,exec_seq,seqK_normal,seqK_exit,seqK_ret,t65_5,c65_6,exec_out,exec_cond',hb65_1,Option.bind_some,brB_true,brB_false,exec_skip,exec_exit,kp65_3,c65_16,exec_block,t65_7,c65_15,t65_8 S76 S77 h76 h77,c65_14,hb65_3,t65_9,t65_10 S76 S77 h76 h77,c65_13,hb65_2,t65_11,t65_12,exec_ret,kp65_4,kp65_5,kp65_6,kp65_7,blockK_normal,blockK_ret,blockK_eq]
 rfl
theorem kp65_8 (x0 x1):keep [0,3] (e27 x0 x1)=(e9 x0 x1):=by kernel_rfl
def l65_18 {R:Type} (S76:Int→Option (Bool)) (S77:Int→Option (Bool)) (k0:Int→Option R) (k1:V1→Int→Option R):Nat→V1→Int→Option R
 | 0,_,_=>none
 | m+1,x0,x1=>(g65_17 S76 S77 (l65_18 S76 S77 k0 k1 m) k0 k1 x0 x1)
theorem lt65_18 (S76) (S77) (h76:(ctr76 S76).holds cl) (h77:(ctr77 S77).holds cl):∀ (m) (x0 x1),iter [0,3] (fun env K=>exec cl N c65_17 env K) K m (e9 x0 x1)=l65_18 S76 S77 (fun y0=>K .ret (e26 y0)) (fun y0 y1=>K (.exit 0) (e9 y0 y1)) m x0 x1:=by
 intro m
 induction m with
 | zero=>intros; rfl
 | succ m ih=>
   intro x0 x1
   simp only [iter_succ,t65_17 S76 S77 h76 h77,loopK_normal,loopK_exit,loopK_ret,kp65_8,ih]
   rfl
theorem kp65_9 (x0):keep [2,3] (e26 x0)=(e67 x0):=by kernel_rfl
theorem kp65_10 (x0 x1):keep [2,3] (e9 x0 x1)=(e68 x1):=by kernel_rfl
def g65_18 (N:Nat) (S76:Int→Option (Bool)) (S77:Int→Option (Bool)) (k0:Int→Option R) (k1:Int→Option R) (x0:V1) (x1:Int):Option R:=
l65_18 S76 S77 k0 (fun y0 y1=>k1 y1) N x0 x1
theorem t65_18 (S76) (S77) (h76:(ctr76 S76).holds cl) (h77:(ctr77 S77).holds cl) (x0 x1):exec cl N c65_18 (e9 x0 x1) K=(g65_18 N S76 S77 (fun y0=>K .ret (e67 y0)) (fun y0=>K (.exit 0) (e68 y0)) x0 x1):=by
 simp only [c65_18,exec_out,exec_loop,kp65_2,lt65_18 S76 S77 h76 h77,kp65_10,kp65_9]
 rfl
theorem kp65_11 (x0):keep [2,3] (e67 x0)=(e67 x0):=by kernel_rfl
theorem kp65_12 (x0):keep [2,3] (e68 x0)=(e68 x0):=by kernel_rfl
def g65_20 (k0:Int→Option R) (x0:Int):Option R:=
k0 x0
theorem t65_20 (x0):exec cl N c65_20 (e68 x0) K=(g65_20 (fun y0=>K .normal [(2,.v U2 y0)]) x0):=by
 kernel_rfl
def g65_21 (N:Nat) (S76:Int→Option (Bool)) (S77:Int→Option (Bool)) (k0:Int→Option R) (k1:Int→Option R) (k2:Int→Option R) (x0:V1):Option R:=
(g65_0 (g65_1 S76 (fun y0 y1=>brB y1 (g65_2 k0 y0 y1) ((g65_4 (g65_18 N S76 S77 k1 ((g65_20 k2)))) y0))) x0)
theorem t65_21 (S76) (S77) (h76:(ctr76 S76).holds cl) (h77:(ctr77 S77).holds cl) (x0):exec cl N c65_21 [(0,.v .str x0)] K=(g65_21 N S76 S77 (fun y0=>K .ret (e7 y0)) (fun y0=>K .ret (e67 y0)) (fun y0=>K .ret [(2,.v U2 y0)]) x0):=by
 simp only [c65_21,exec_seq,seqK_normal,seqK_exit,seqK_ret,t65_0,t65_1 S76 h76,c65_3,exec_out,exec_cond',hb65_0,Option.bind_some,brB_true,brB_false,t65_2,exec_ret,exec_skip,kp65_0,kp65_1,t65_4,c65_19,exec_block,t65_18 S76 S77 h76 h77,blockK_normal,blockK_ret,blockK_eq,kp65_11,kp65_12,t65_20]
 rfl
theorem rk65_0 (y0):retK d65 .ret (e7 y0)=some [.v U2 y0]:=by kernel_rfl
theorem rk65_1 (y0):retK d65 .ret (e67 y0)=some [.v U2 y0]:=by kernel_rfl
theorem rk65_2 (y0):retK d65 .ret [(2,.v U2 y0)]=some [.v U2 y0]:=by kernel_rfl
def g65 (N:Nat) (S76:Int→Option (Bool)) (S77:Int→Option (Bool)) (x0:V1) (k:Int→Option R):Option R:=
(g65_21 N S76 S77 k k k x0)
theorem gen65 (S76) (S77) (h76:(ctr76 S76).holds cl) (h77:(ctr77 S77).holds cl) (x0) (k:List E→Option R):exec cl N c65 [(0,.v .str x0)] (fun e env=>(retK d65 e env).bind k)=g65 N S76 S77 x0 (fun r0=>k [.v U2 r0]):=by
 simp only [c65,t65_21 S76 S77 h76 h77,rk65_0,rk65_1,rk65_2,Option.bind_some]
 rfl
def ctr65 (S:V1→Option (Int)):Ctr:=cv1 65 .str S fun b=> [.v U2 b]
def S65 (N:Nat) (x0:V1):Option (Int):=g65 N (S76 N) (S77 N) x0 (fun (r0:Int)=>some (r0))
def g78_10 (k0:V1→Int→Option R) (x0:V1):Option R:=
k0 x0 (0:Int)
theorem t78_10 (x0):exec cl N c78_10 [(0,.v .str x0)] K=(g78_10 (fun y0 y1=>exec cl N (.seq c78_8 (.seq c78_9 .ret)) (e9 y0 y1) K) x0):=by
 kernel_rfl
theorem kp78_0 (x0 x1):keep [0,3] (e9 x0 x1)=(e9 x0 x1):=by kernel_rfl
def g78_2 (S77:Int→Option (Bool)) (k0:V1→Int→Bool→Option R) (x0:V1) (x1:Int):Option R:=
brB (decide (x1 < (x0.length:Int))) (if 0≤x1∧x1 < (x0.length:Int) then
(S77 ((x0.getD x1.toNat 0).toNat:Int)).bind fun r613=>
k0 x0 x1 r613
else none) (k0 x0 x1 false)
theorem t78_2 (S77) (h77:(ctr77 S77).holds cl) (x0 x1):exec cl N c78_2 (e9 x0 x1) K=(g78_2 S77 (fun y0 y1 y2=>K .normal (e72 y0 y1 y2)) x0 x1):=by
 rw [←put_eq h77]
 kernel_rfl
theorem kp78_1 (x0 x1 x2):keep [0,3] (e72 x0 x1 x2)=(e9 x0 x1):=by kernel_rfl
theorem hb78_0 (x0 x1 x2):boolOf? (ent (e72 x0 x1 x2) (.t 13))=some x2:=by kernel_rfl
def g78_4 (k0:V1→Int→Option R) (x0:V1) (x1:Int):Option R:=
k0 x0 (IntKind.i64.wrap (x1+(1:Int)))
theorem t78_4 (x0 x1):exec cl N c78_4 (e9 x0 x1) K=(g78_4 (fun y0 y1=>K .normal (e9 y0 y1)) x0 x1):=by
 kernel_rfl
def g78_6 (S77:Int→Option (Bool)) (k0:V1→Int→Option R) (k1:V1→Int→Option R) (x0:V1) (x1:Int):Option R:=
(g78_2 S77 (fun y0 y1 y2=>brB y2 ((g78_4 k0) y0 y1) (k1 y0 y1)) x0 x1)
theorem t78_6 (S77) (h77:(ctr77 S77).holds cl) (x0 x1):exec cl N c78_6 (e9 x0 x1) K=(g78_6 S77 (fun y0 y1=>K .normal (e9 y0 y1)) (fun y0 y1=>K (.exit 0) (e9 y0 y1)) x0 x1):=by
 simp only [c78_6,exec_seq,seqK_normal,seqK_exit,seqK_ret,t78_2 S77 h77,c78_3,exec_out,exec_cond',hb78_0,Option.bind_some,brB_true,brB_false,exec_skip,exec_exit,kp78_1,c78_5,exec_block,t78_4,blockK_normal,blockK_ret,blockK_eq,kp78_0]
 rfl
def l78_7 {R:Type} (S77:Int→Option (Bool)) (k0:V1→Int→Option R):Nat→V1→Int→Option R
 | 0,_,_=>none
 | m+1,x0,x1=>(g78_6 S77 (l78_7 S77 k0 m) k0 x0 x1)
theorem lt78_7 (S77) (h77:(ctr77 S77).holds cl):∀ (m) (x0 x1),iter [0,3] (fun env K=>exec cl N c78_6 env K) K m (e9 x0 x1)=l78_7 S77 (fun y0 y1=>K (.exit 0) (e9 y0 y1)) m x0 x1:=by
 intro m
 induction m with
 | zero=>intros; rfl
 | succ m ih=>
   intro x0 x1
   simp only [iter_succ,t78_6 S77 h77,loopK_normal,loopK_exit,loopK_ret,kp78_0,ih]
   rfl
theorem kp78_2 (x0 x1):keep [3] (e9 x0 x1)=[(3,.v U2 x1)]:=by kernel_rfl
def g78_7 (N:Nat) (S77:Int→Option (Bool)) (k0:Int→Option R) (x0:V1) (x1:Int):Option R:=
l78_7 S77 (fun y0 y1=>k0 y1) N x0 x1
theorem t78_7 (S77) (h77:(ctr77 S77).holds cl) (x0 x1):exec cl N c78_7 (e9 x0 x1) K=(g78_7 N S77 (fun y0=>K (.exit 0) [(3,.v U2 y0)]) x0 x1):=by
 simp only [c78_7,exec_out,exec_loop,kp78_0,lt78_7 S77 h77,kp78_2]
 rfl
theorem kp78_3 (x0):keep [3] [(3,.v U2 x0)]=[(3,.v U2 x0)]:=by kernel_rfl
def g78_9 (k0:Int→Option R) (x0:Int):Option R:=
k0 x0
theorem t78_9 (x0):exec cl N c78_9 [(3,.v U2 x0)] K=(g78_9 (fun y0=>K .normal [(2,.v U2 y0)]) x0):=by
 kernel_rfl
def g78_10b (N:Nat) (S77:Int→Option (Bool)) (k0:Int→Option R) (x0:V1):Option R:=
(g78_10 (g78_7 N S77 ((g78_9 k0))) x0)
theorem t78_10b (S77) (h77:(ctr77 S77).holds cl) (x0):exec cl N c78_10 [(0,.v .str x0)] K=(g78_10b N S77 (fun y0=>K .ret [(2,.v U2 y0)]) x0):=by
 simp only [exec_seq,seqK_normal,seqK_exit,seqK_ret,t78_10,c78_8,exec_out,exec_block,t78_7 S77 h77,blockK_normal,blockK_ret,blockK_eq,kp78_3,t78_9,exec_ret]
 rfl
theorem rk78_0 (y0):retK d78 .ret [(2,.v U2 y0)]=some [.v U2 y0]:=by kernel_rfl
def g78 (N:Nat) (S77:Int→Option (Bool)) (x0:V1) (k:Int→Option R):Option R:=
(g78_10b N S77 k x0)
theorem gen78 (S77) (h77:(ctr77 S77).holds cl) (x0) (k:List E→Option R):exec cl N c78 [(0,.v .str x0)] (fun e env=>(retK d78 e env).bind k)=g78 N S77 x0 (fun r0=>k [.v U2 r0]):=by
 simp only [c78,t78_10b S77 h77,rk78_0,Option.bind_some]
 rfl
def ctr78 (S:V1→Option (Int)):Ctr:=cv1 78 .str S fun b=> [.v U2 b]
def S78 (N:Nat) (x0:V1):Option (Int):=g78 N (S77 N) x0 (fun (r0:Int)=>some (r0))
def g62_0 (k0:V1→Option R) (x0:V1):Option R:=
k0 x0
theorem t62_0 (x0):exec cl N c62_0 [(0,.v .str x0)] K=(g62_0 (fun y0=>K .normal [(0,.v .str y0)]) x0):=by
 kernel_rfl
def g62_1 (S78:V1→Option (Int)) (k0:V1→Bool→Option R) (x0:V1):Option R:=
brB (x0==([]:List UInt8)) (k0 x0 true) (brB (decide ((x0.length:Int) > (6:Int))) (k0 x0 true) ((S78 x0).bind fun r636=>
brB (r636 != (x0.length:Int)) (k0 x0 true) (brB (decide ((x0.length:Int) > (1:Int))) (if 0≤(0:Int)∧(0:Int) < (x0.length:Int) then
k0 x0 (((x0.getD (0:Int).toNat 0).toNat:Int)==(48:Int))
else none) (k0 x0 false))))
theorem t62_1 (S78) (h78:(ctr78 S78).holds cl) (x0):exec cl N c62_1 [(0,.v .str x0)] K=(g62_1 S78 (fun y0 y1=>K .normal (e140 y0 y1)) x0):=by
 rw [←put_eq h78]
 kernel_rfl
def g62_2 (k0:Int→Bool→Option R) (x0:V1) (x1:Bool):Option R:=
k0 (0:Int) false
theorem t62_2 (x0 x1):exec cl N c62_2 (e140 x0 x1) K=(g62_2 (fun y0 y1=>K .normal (e110 y0 y1)) x0 x1):=by
 kernel_rfl
theorem kp62_0 (x0 x1):keep [0,2,3] (e110 x0 x1)=(e111 x0 x1):=by kernel_rfl
theorem kp62_1 (x0 x1):keep [0,2,3] (e140 x0 x1)=(e112 x0):=by kernel_rfl
theorem hb62_0 (x0 x1):boolOf? (ent (e140 x0 x1) (.t 30))=some x1:=by kernel_rfl
def g62_4 (k0:V1→Int→Option R) (x0:V1):Option R:=
k0 x0 (0:Int)
theorem t62_4 (x0):exec cl N c62_4 (e112 x0) K=(g62_4 (fun y0 y1=>K .normal (e113 y0 y1)) x0):=by
 kernel_rfl
def g62_5 (k0:Int→V0→Int→Int→Option R) (x0:V1) (x1:Int):Option R:=
k0 x1 (x0.map fun b=>(b.toNat:Int)) ((x0.map fun b=>(b.toNat:Int)).length:Int) (0:Int)
theorem t62_5 (x0 x1):exec cl N c62_5 (e113 x0 x1) K=(g62_5 (fun y0 y1 y2 y3=>K .normal (e141 y0 y1 y2 y3)) x0 x1):=by
 kernel_rfl
theorem kp62_2 (x0 x1 x2 x3):keep [4,32,33,34] (e141 x0 x1 x2 x3)=(e141 x0 x1 x2 x3):=by kernel_rfl
def g62_6 (k0:Int→V0→Int→Int→Bool→Option R) (x0:Int) (x1:V0) (x2 x3:Int):Option R:=
k0 x0 x1 x2 x3 (decide (x3 < x2))
theorem t62_6 (x0 x1 x2 x3):exec cl N c62_6 (e141 x0 x1 x2 x3) K=(g62_6 (fun y0 y1 y2 y3 y4=>K .normal (e142 y0 y1 y2 y3 y4)) x0 x1 x2 x3):=by
 kernel_rfl
theorem kp62_3 (x0 x1 x2 x3 x4):keep [4,32,33,34] (e142 x0 x1 x2 x3 x4)=(e141 x0 x1 x2 x3):=by kernel_rfl
theorem hb62_1 (x0 x1 x2 x3 x4):boolOf? (ent (e142 x0 x1 x2 x3 x4) (.t 35))=some x4:=by kernel_rfl
def g62_10 (k0:Int→V0→Int→Int→Option R) (x0:Int) (x1:V0) (x2 x3:Int):Option R:=
if 0≤x3∧x3 < (x1.length:Int) then
if x3.toNat < x1.length then
k0 (IntKind.i64.wrap ((IntKind.i64.wrap ((10:Int) * x0))+(IntKind.i64.wrap (IntKind.u8.wrap ((x1.getD x3.toNat (0:Int)) - (48:Int)))))) x1 x2 x3
else none
else none
theorem t62_10 (x0 x1 x2 x3):exec cl N c62_10 (e141 x0 x1 x2 x3) K=(g62_10 (fun y0 y1 y2 y3=>K .normal (e141 y0 y1 y2 y3)) x0 x1 x2 x3):=by
 kernel_rfl
def g62_12 (k0:Int→V0→Int→Int→Option R) (x0:Int) (x1:V0) (x2 x3:Int):Option R:=
k0 x0 x1 x2 (IntKind.i64.wrap (x3+(1:Int)))
theorem t62_12 (x0 x1 x2 x3):exec cl N c62_12 (e141 x0 x1 x2 x3) K=(g62_12 (fun y0 y1 y2 y3=>K .normal (e141 y0 y1 y2 y3)) x0 x1 x2 x3):=by
 kernel_rfl
def g62_13 (k0:Int→V0→Int→Int→Option R) (k1:Int→V0→Int→Int→Option R) (x0:Int) (x1:V0) (x2 x3:Int):Option R:=
(g62_6 (fun y0 y1 y2 y3 y4=>brB y4 ((g62_10 ((g62_12 k0))) y0 y1 y2 y3) (k1 y0 y1 y2 y3)) x0 x1 x2 x3)
theorem t62_13 (x0 x1 x2 x3):exec cl N c62_13 (e141 x0 x1 x2 x3) K=(g62_13 (fun y0 y1 y2 y3=>K .normal (e141 y0 y1 y2 y3)) (fun y0 y1 y2 y3=>K (.exit 0) (e141 y0 y1 y2 y3)) x0 x1 x2 x3):=by
 simp only [c62_13,exec_seq,seqK_normal,seqK_exit,seqK_ret,t62_6,c62_7,exec_out,exec_cond',hb62_1,Option.bind_some,brB_true,brB_false,exec_skip,exec_exit,kp62_3,c62_11,exec_block,t62_10,blockK_normal,blockK_ret,blockK_eq,kp62_2,t62_12]
 rfl
def l62_14 {R:Type} (k0:Int→V0→Int→Int→Option R):Nat→Int→V0→Int→Int→Option R
 | 0,_,_,_,_=>none
 | m+1,x0,x1,x2,x3=>(g62_13 (l62_14 k0 m) k0 x0 x1 x2 x3)
theorem lt62_14:∀ (m) (x0 x1 x2 x3),iter [4,32,33,34] (fun env K=>exec cl N c62_13 env K) K m (e141 x0 x1 x2 x3)=l62_14 (fun y0 y1 y2 y3=>K (.exit 0) (e141 y0 y1 y2 y3)) m x0 x1 x2 x3:=by
 intro m
 induction m with
 | zero=>intros; rfl
 | succ m ih=>
   intro x0 x1 x2 x3
   simp only [iter_succ,t62_13,loopK_normal,loopK_exit,loopK_ret,kp62_2,ih]
   rfl
theorem kp62_4 (x0 x1 x2 x3):keep [4] (e141 x0 x1 x2 x3)=[(4,.v U2 x0)]:=by kernel_rfl
def g62_14 (N:Nat) (k0:Int→Option R) (x0:Int) (x1:V0) (x2 x3:Int):Option R:=
l62_14 (fun y0 y1 y2 y3=>k0 y0) N x0 x1 x2 x3
theorem t62_14 (x0 x1 x2 x3):exec cl N c62_14 (e141 x0 x1 x2 x3) K=(g62_14 N (fun y0=>K (.exit 0) [(4,.v U2 y0)]) x0 x1 x2 x3):=by
 simp only [c62_14,exec_out,exec_loop,kp62_2,lt62_14,kp62_4]
 rfl
theorem kp62_5 (x0):keep [4] [(4,.v U2 x0)]=[(4,.v U2 x0)]:=by kernel_rfl
def g62_16 (k0:Int→Bool→Option R) (x0:Int):Option R:=
k0 x0 true
theorem t62_16 (x0):exec cl N c62_16 [(4,.v U2 x0)] K=(g62_16 (fun y0 y1=>K .normal (e110 y0 y1)) x0):=by
 kernel_rfl
def g62_17 (N:Nat) (S78:V1→Option (Int)) (k0:Int→Bool→Option R) (k1:Int→Bool→Option R) (x0:V1):Option R:=
(g62_0 (g62_1 S78 (fun y0 y1=>brB y1 (g62_2 k0 y0 y1) ((g62_4 (g62_5 (g62_14 N ((g62_16 k1))))) y0))) x0)
theorem t62_17 (S78) (h78:(ctr78 S78).holds cl) (x0):exec cl N c62_17 [(0,.v .str x0)] K=(g62_17 N S78 (fun y0 y1=>K .ret (e111 y0 y1)) (fun y0 y1=>K .ret (e110 y0 y1)) x0):=by
 simp only [c62_17,exec_seq,seqK_normal,seqK_exit,seqK_ret,t62_0,t62_1 S78 h78,c62_3,exec_out,exec_cond',hb62_0,Option.bind_some,brB_true,brB_false,t62_2,exec_ret,exec_skip,kp62_0,kp62_1,t62_4,t62_5,c62_15,exec_block,t62_14,blockK_normal,blockK_ret,blockK_eq,kp62_5,t62_16]
 rfl
theorem rk62_0 (y0 y1):retK d62 .ret (e111 y0 y1)=some [.v U2 y0,.v .bool y1]:=by kernel_rfl
theorem rk62_1 (y0 y1):retK d62 .ret (e110 y0 y1)=some [.v U2 y0,.v .bool y1]:=by kernel_rfl
def g62 (N:Nat) (S78:V1→Option (Int)) (x0:V1) (k:Int→Bool→Option R):Option R:=
(g62_17 N S78 k k x0)
theorem gen62 (S78) (h78:(ctr78 S78).holds cl) (x0) (k:List E→Option R):exec cl N c62 [(0,.v .str x0)] (fun e env=>(retK d62 e env).bind k)=g62 N S78 x0 (fun r0 r1=>k [.v U2 r0,.v .bool r1]):=by
 simp only [c62,t62_17 S78 h78,rk62_0,rk62_1,Option.bind_some]
 rfl
def ctr62 (S:V1→Option V3):Ctr:=cv1 62 .str S fun b=> [.v U2 b.1,.v .bool b.2]
def S62 (N:Nat) (x0:V1):Option V3:=g62 N (S78 N) x0 (fun (r0:Int) (r1:Bool)=>some (r0,r1))
def g85_2 (k0:Bool→Option R) (x0:Int):Option R:=
brB (decide (x0≥(32:Int))) (brB (decide (x0≤(126:Int))) (k0 (x0 != (34:Int))) (k0 false)) (k0 false)
theorem t85_2 (x0):exec cl N c85_2 [(0,.v U1 x0)] K=(g85_2 (fun y0=>exec cl N .ret [(2,.v .bool y0)] K) x0):=by
 kernel_rfl
def g85_2b (k0:Bool→Option R) (x0:Int):Option R:=
(g85_2 k0 x0)
theorem t85_2b (x0):exec cl N c85_2 [(0,.v U1 x0)] K=(g85_2b (fun y0=>K .ret [(2,.v .bool y0)]) x0):=by
 simp only [exec_seq,seqK_normal,seqK_exit,seqK_ret,t85_2,exec_ret]
 rfl
theorem rk85_0 (y0):retK d85 .ret [(2,.v .bool y0)]=some [.v .bool y0]:=by kernel_rfl
def g85 (x0:Int) (k:Bool→Option R):Option R:=
(g85_2b k x0)
theorem gen85 (x0) (k:List E→Option R):exec cl N c85 [(0,.v U1 x0)] (fun e env=>(retK d85 e env).bind k)=g85 x0 (fun r0=>k [.v .bool r0]):=by
 simp only [c85,t85_2b,rk85_0,Option.bind_some]
 rfl
def ctr85 (S:Int→Option (Bool)):Ctr:=cv1 85 U1 S fun b=> [.v .bool b]
def S85 (N:Nat) (x0:Int):Option (Bool):=g85 x0 (fun (r0:Bool)=>some (r0))
def g79_17 (k0:V1→Int→Option R) (x0:V1):Option R:=
k0 x0 (1:Int)
theorem t79_17 (x0):exec cl N c79_17 [(0,.v .str x0)] K=(g79_17 (fun y0 y1=>exec cl N (.seq c79_8 (.seq c79_15 (.seq c79_16 .ret))) (e113 y0 y1) K) x0):=by
 kernel_rfl
theorem kp79_0 (x0 x1):keep [0,4] (e113 x0 x1)=(e113 x0 x1):=by kernel_rfl
def g79_2 (S85:Int→Option (Bool)) (k0:V1→Int→Bool→Option R) (x0:V1) (x1:Int):Option R:=
brB (decide (x1 < (x0.length:Int))) (if 0≤x1∧x1 < (x0.length:Int) then
(S85 ((x0.getD x1.toNat 0).toNat:Int)).bind fun r674=>
k0 x0 x1 r674
else none) (k0 x0 x1 false)
theorem t79_2 (S85) (h85:(ctr85 S85).holds cl) (x0 x1):exec cl N c79_2 (e113 x0 x1) K=(g79_2 S85 (fun y0 y1 y2=>K .normal (e143 y0 y1 y2)) x0 x1):=by
 rw [←put_eq h85]
 kernel_rfl
theorem kp79_1 (x0 x1 x2):keep [0,4] (e143 x0 x1 x2)=(e113 x0 x1):=by kernel_rfl
theorem hb79_0 (x0 x1 x2):boolOf? (ent (e143 x0 x1 x2) (.t 14))=some x2:=by kernel_rfl
def g79_4 (k0:V1→Int→Option R) (x0:V1) (x1:Int):Option R:=
k0 x0 (IntKind.i64.wrap (x1+(1:Int)))
theorem t79_4 (x0 x1):exec cl N c79_4 (e113 x0 x1) K=(g79_4 (fun y0 y1=>K .normal (e113 y0 y1)) x0 x1):=by
 kernel_rfl
def g79_6 (S85:Int→Option (Bool)) (k0:V1→Int→Option R) (k1:V1→Int→Option R) (x0:V1) (x1:Int):Option R:=
(g79_2 S85 (fun y0 y1 y2=>brB y2 ((g79_4 k0) y0 y1) (k1 y0 y1)) x0 x1)
theorem t79_6 (S85) (h85:(ctr85 S85).holds cl) (x0 x1):exec cl N c79_6 (e113 x0 x1) K=(g79_6 S85 (fun y0 y1=>K .normal (e113 y0 y1)) (fun y0 y1=>K (.exit 0) (e113 y0 y1)) x0 x1):=by
 simp only [c79_6,exec_seq,seqK_normal,seqK_exit,seqK_ret,t79_2 S85 h85,c79_3,exec_out,exec_cond',hb79_0,Option.bind_some,brB_true,brB_false,exec_skip,exec_exit,kp79_1,c79_5,exec_block,t79_4,blockK_normal,blockK_ret,blockK_eq,kp79_0]
 rfl
def l79_7 {R:Type} (S85:Int→Option (Bool)) (k0:V1→Int→Option R):Nat→V1→Int→Option R
 | 0,_,_=>none
 | m+1,x0,x1=>(g79_6 S85 (l79_7 S85 k0 m) k0 x0 x1)
theorem lt79_7 (S85) (h85:(ctr85 S85).holds cl):∀ (m) (x0 x1),iter [0,4] (fun env K=>exec cl N c79_6 env K) K m (e113 x0 x1)=l79_7 S85 (fun y0 y1=>K (.exit 0) (e113 y0 y1)) m x0 x1:=by
 intro m
 induction m with
 | zero=>intros; rfl
 | succ m ih=>
   intro x0 x1
   simp only [iter_succ,t79_6 S85 h85,loopK_normal,loopK_exit,loopK_ret,kp79_0,ih]
   rfl
def g79_7 (N:Nat) (S85:Int→Option (Bool)) (k0:V1→Int→Option R) (x0:V1) (x1:Int):Option R:=
l79_7 S85 k0 N x0 x1
theorem t79_7 (S85) (h85:(ctr85 S85).holds cl) (x0 x1):exec cl N c79_7 (e113 x0 x1) K=(g79_7 N S85 (fun y0 y1=>K (.exit 0) (e113 y0 y1)) x0 x1):=by
 simp only [c79_7,exec_out,exec_loop,kp79_0,lt79_7 S85 h85,kp79_0]
 rfl
def g79_9 (k0:V1→Int→Bool→Option R) (x0:V1) (x1:Int):Option R:=
brB (x1==(x0.length:Int)) (k0 x0 x1 true) (if 0≤x1∧x1 < (x0.length:Int) then
k0 x0 x1 (((x0.getD x1.toNat 0).toNat:Int) != (34:Int))
else none)
theorem t79_9 (x0 x1):exec cl N c79_9 (e113 x0 x1) K=(g79_9 (fun y0 y1 y2=>K .normal (e144 y0 y1 y2)) x0 x1):=by
 kernel_rfl
def g79_10 (k0:V1→Int→Option R) (x0:V1) (x1:Int) (x2:Bool):Option R:=
k0 ([]:List UInt8) (2:Int)
theorem t79_10 (x0 x1 x2):exec cl N c79_10 (e144 x0 x1 x2) K=(g79_10 (fun y0 y1=>K .normal (e55 y0 y1)) x0 x1 x2):=by
 kernel_rfl
theorem kp79_2 (x0 x1):keep [0,2,3,4] (e55 x0 x1)=(e120 x0 x1):=by kernel_rfl
def g79_11 (k0:V1→Int→Bool→Option R) (x0:V1) (x1:Int) (x2:Bool):Option R:=
k0 x0 x1 (decide ((IntKind.i64.wrap (x1 - (1:Int))) > (60:Int)))
theorem t79_11 (x0 x1 x2):exec cl N c79_11 (e144 x0 x1 x2) K=(g79_11 (fun y0 y1 y2=>K .normal (e145 y0 y1 y2)) x0 x1 x2):=by
 kernel_rfl
def g79_12 (k0:V1→Int→Option R) (x0:V1) (x1:Int) (x2:Bool):Option R:=
k0 ([]:List UInt8) (3:Int)
theorem t79_12 (x0 x1 x2):exec cl N c79_12 (e145 x0 x1 x2) K=(g79_12 (fun y0 y1=>K .normal (e55 y0 y1)) x0 x1 x2):=by
 kernel_rfl
theorem kp79_3 (x0 x1 x2):keep [0,2,3,4] (e145 x0 x1 x2)=(e121 x0 x1):=by kernel_rfl
theorem hb79_1 (x0 x1 x2):boolOf? (ent (e145 x0 x1 x2) (.t 28))=some x2:=by kernel_rfl
theorem kp79_4 (x0 x1):keep [0,2,3,4] (e120 x0 x1)=(e120 x0 x1):=by kernel_rfl
theorem kp79_5 (x0 x1):keep [0,2,3,4] (e121 x0 x1)=(e121 x0 x1):=by kernel_rfl
theorem hb79_2 (x0 x1 x2):boolOf? (ent (e144 x0 x1 x2) (.t 17))=some x2:=by kernel_rfl
def g79_16 (k0:V1→Int→Option R) (x0:V1) (x1:Int):Option R:=
if 0≤(1:Int)∧(1:Int)≤x1∧x1≤(x0.length:Int) then
k0 ((x0.drop (1:Int).toNat).take (x1.toNat - (1:Int).toNat)) (0:Int)
else none
theorem t79_16 (x0 x1):exec cl N c79_16 (e121 x0 x1) K=(g79_16 (fun y0 y1=>K .normal (e55 y0 y1)) x0 x1):=by
 kernel_rfl
def g79_17b (N:Nat) (S85:Int→Option (Bool)) (k0:V1→Int→Option R) (k1:V1→Int→Option R) (x0:V1):Option R:=
(g79_17 (g79_7 N S85 ((g79_9 (fun y0 y1 y2=>brB y2 (g79_10 k0 y0 y1 y2) (g79_11 (fun y0 y1 y2=>brB y2 (g79_12 k0 y0 y1 y2) ((((g79_16 k1))) y0 y1)) y0 y1 y2))))) x0)
theorem t79_17b (S85) (h85:(ctr85 S85).holds cl) (x0):exec cl N c79_17 [(0,.v .str x0)] K=(g79_17b N S85 (fun y0 y1=>K .ret (e120 y0 y1)) (fun y0 y1=>K .ret (e55 y0 y1)) x0):=by
 simp only [exec_seq,seqK_normal,seqK_exit,seqK_ret,t79_17,c79_8,exec_out,exec_block,t79_7 S85 h85,blockK_normal,blockK_ret,blockK_eq,kp79_0,c79_15,t79_9,c79_14,exec_cond',hb79_2,Option.bind_some,brB_true,brB_false,t79_10,exec_ret,t79_11,c79_13,hb79_1,t79_12,exec_skip,kp79_2,kp79_3,kp79_4,kp79_5,t79_16]
 rfl
theorem rk79_0 (y0 y1):retK d79 .ret (e120 y0 y1)=some [.v .str y0,.v U2 y1]:=by kernel_rfl
theorem rk79_1 (y0 y1):retK d79 .ret (e55 y0 y1)=some [.v .str y0,.v U2 y1]:=by kernel_rfl
def g79 (N:Nat) (S85:Int→Option (Bool)) (x0:V1) (k:V1→Int→Option R):Option R:=
(g79_17b N S85 k k x0)
theorem gen79 (S85) (h85:(ctr85 S85).holds cl) (x0) (k:List E→Option R):exec cl N c79 [(0,.v .str x0)] (fun e env=>(retK d79 e env).bind k)=g79 N S85 x0 (fun r0 r1=>k [.v .str r0,.v U2 r1]):=by
 simp only [c79,t79_17b S85 h85,rk79_0,rk79_1,Option.bind_some]
 rfl
def ctr79 (S:V1→Option V7):Ctr:=cv1 79 .str S fun b=> [.v .str b.1,.v U2 b.2]
def S79 (N:Nat) (x0:V1):Option V7:=g79 N (S85 N) x0 (fun (r0:V1) (r1:Int)=>some (r0,r1))
def g80_2 (S86:V1→Int→Option (Int)) (k0:Int→Option R) (x0:V1) (x1:Int):Option R:=
(S86 x0 x1).bind fun r687=>
k0 r687
theorem t80_2 (S86) (h86:(ctr86 S86).holds cl) (x0 x1):exec cl N c80_2 [(0,.v .str x0),(1,.v U1 x1)] K=(g80_2 S86 (fun y0=>exec cl N .ret [(4,.v U2 y0)] K) x0 x1):=by
 rw [←put_eq h86]
 kernel_rfl
def g80_2b (S86:V1→Int→Option (Int)) (k0:Int→Option R) (x0:V1) (x1:Int):Option R:=
(g80_2 S86 k0 x0 x1)
theorem t80_2b (S86) (h86:(ctr86 S86).holds cl) (x0 x1):exec cl N c80_2 [(0,.v .str x0),(1,.v U1 x1)] K=(g80_2b S86 (fun y0=>K .ret [(4,.v U2 y0)]) x0 x1):=by
 simp only [exec_seq,seqK_normal,seqK_exit,seqK_ret,t80_2 S86 h86,exec_ret]
 rfl
theorem rk80_0 (y0):retK d80 .ret [(4,.v U2 y0)]=some [.v U2 y0]:=by kernel_rfl
def g80 (S86:V1→Int→Option (Int)) (x0:V1) (x1:Int) (k:Int→Option R):Option R:=
(g80_2b S86 k x0 x1)
theorem gen80 (S86) (h86:(ctr86 S86).holds cl) (x0 x1) (k:List E→Option R):exec cl N c80 [(0,.v .str x0),(1,.v U1 x1)] (fun e env=>(retK d80 e env).bind k)=g80 S86 x0 x1 (fun r0=>k [.v U2 r0]):=by
 simp only [c80,t80_2b S86 h86,rk80_0,Option.bind_some]
 rfl
def ctr80 (S:V1→Int→Option (Int)):Ctr:=cv2 80 .str U1 S fun b=> [.v U2 b]
def S80 (N:Nat) (x0:V1) (x1:Int):Option (Int):=g80 (S86 N) x0 x1 (fun (r0:Int)=>some (r0))
def g61_0 (k0:V1→V14→Option R) (x0:V1):Option R:=
k0 x0 ((0:Int),([],((0:Int),())))
theorem t61_0 (x0):exec cl N c61_0 [(0,.v .str x0)] K=(g61_0 (fun y0 y1=>K .normal (e81 y0 y1)) x0):=by
 kernel_rfl
def g61_1 (k0:V1→V14→Int→Option R) (x0:V1) (x1:V14):Option R:=
if 0≤(0:Int)∧(0:Int) < (x0.length:Int) then
k0 x0 x1 ((x0.getD (0:Int).toNat 0).toNat:Int)
else none
theorem t61_1 (x0 x1):exec cl N c61_1 (e81 x0 x1) K=(g61_1 (fun y0 y1 y2=>K .normal [(0,.v .str y0),(2,.loc U12 .no y1),(5,.v U1 y2)]) x0 x1):=by
 kernel_rfl
def g61_2 (S76:Int→Option (Bool)) (k0:V1→V14→Int→Bool→Option R) (x0:V1) (x1:V14) (x2:Int):Option R:=
(S76 x2).bind fun r694=>
k0 x0 x1 x2 r694
theorem t61_2 (S76) (h76:(ctr76 S76).holds cl) (x0 x1 x2):exec cl N c61_2 [(0,.v .str x0),(2,.loc U12 .no x1),(5,.v U1 x2)] K=(g61_2 S76 (fun y0 y1 y2 y3=>K .normal (e146 y0 y1 y2 y3)) x0 x1 x2):=by
 rw [←put_eq h76]
 kernel_rfl
def g61_3 (S65:V1→Option (Int)) (k0:V1→V14→Int→Option R) (x0:V1) (x1:V14) (x2:Int) (x3:Bool):Option R:=
(S65 x0).bind fun r695=>
k0 x0 x1 r695
theorem t61_3 (S65) (h65:(ctr65 S65).holds cl) (x0 x1 x2 x3):exec cl N c61_3 (e146 x0 x1 x2 x3) K=(g61_3 S65 (fun y0 y1 y2=>K .normal [(0,.v .str y0),(2,.loc U12 .no y1),(6,.v U2 y2)]) x0 x1 x2 x3):=by
 rw [←put_eq h65]
 kernel_rfl
def g61_4 (k0:V1→V14→Int→Bool→Option R) (x0:V1) (x1:V14) (x2:Int):Option R:=
k0 x0 x1 x2 (decide (x2 > (20:Int)))
theorem t61_4 (x0 x1 x2):exec cl N c61_4 [(0,.v .str x0),(2,.loc U12 .no x1),(6,.v U2 x2)] K=(g61_4 (fun y0 y1 y2 y3=>K .normal (e147 y0 y1 y2 y3)) x0 x1 x2):=by
 kernel_rfl
def g61_5 (k0:V14→Int→Int→Option R) (x0:V1) (x1:V14) (x2:Int) (x3:Bool):Option R:=
k0 ((0:Int),[],(0:Int),()) (0:Int) (3:Int)
theorem t61_5 (x0 x1 x2 x3):exec cl N c61_5 (e147 x0 x1 x2 x3) K=(g61_5 (fun y0 y1 y2=>K .normal (e76 y0 y1 y2)) x0 x1 x2 x3):=by
 kernel_rfl
theorem kp61_0 (x0 x1 x2):keep [0,2,3,4,6] (e76 x0 x1 x2)=(e88 x0 x1 x2):=by kernel_rfl
theorem kp61_1 (x0 x1 x2 x3):keep [0,2,3,4,6] (e147 x0 x1 x2 x3)=(e89 x0 x1 x2):=by kernel_rfl
theorem hb61_0 (x0 x1 x2 x3):boolOf? (ent (e147 x0 x1 x2 x3) (.t 20))=some x3:=by kernel_rfl
def g61_7 (k0:V14→Int→Int→Option R) (x0:V1) (x1:V14) (x2:Int):Option R:=
if 0≤(0:Int)∧(0:Int)≤x2∧x2≤(x0.length:Int) then
k0 ((1:Int),((x0.drop (0:Int).toNat).take (x2.toNat - (0:Int).toNat)),(0:Int),()) x2 (0:Int)
else none
theorem t61_7 (x0 x1 x2):exec cl N c61_7 (e89 x0 x1 x2) K=(g61_7 (fun y0 y1 y2=>K .normal (e76 y0 y1 y2)) x0 x1 x2):=by
 kernel_rfl
theorem kp61_2 (x0 x1 x2):keep [2,3,4] (e88 x0 x1 x2)=(e76 x0 x1 x2):=by kernel_rfl
theorem kp61_3 (x0 x1 x2):keep [2,3,4] (e76 x0 x1 x2)=(e76 x0 x1 x2):=by kernel_rfl
def g61_8 (S77:Int→Option (Bool)) (k0:V1→V14→Int→Bool→Option R) (x0:V1) (x1:V14) (x2:Int) (x3:Bool):Option R:=
(S77 x2).bind fun r700=>
k0 x0 x1 x2 r700
theorem t61_8 (S77) (h77:(ctr77 S77).holds cl) (x0 x1 x2 x3):exec cl N c61_8 (e146 x0 x1 x2 x3) K=(g61_8 S77 (fun y0 y1 y2 y3=>K .normal (e148 y0 y1 y2 y3)) x0 x1 x2 x3):=by
 rw [←put_eq h77]
 kernel_rfl
def g61_9 (S78:V1→Option (Int)) (k0:V1→V14→Int→Option R) (x0:V1) (x1:V14) (x2:Int) (x3:Bool):Option R:=
(S78 x0).bind fun r701=>
k0 x0 x1 r701
theorem t61_9 (S78) (h78:(ctr78 S78).holds cl) (x0 x1 x2 x3):exec cl N c61_9 (e148 x0 x1 x2 x3) K=(g61_9 S78 (fun y0 y1 y2=>K .normal [(0,.v .str y0),(2,.loc U12 .no y1),(7,.v U2 y2)]) x0 x1 x2 x3):=by
 rw [←put_eq h78]
 kernel_rfl
def g61_10 (k0:V1→V14→Int→Bool→Option R) (x0:V1) (x1:V14) (x2:Int):Option R:=
k0 x0 x1 x2 (decide (x2 > (6:Int)))
theorem t61_10 (x0 x1 x2):exec cl N c61_10 [(0,.v .str x0),(2,.loc U12 .no x1),(7,.v U2 x2)] K=(g61_10 (fun y0 y1 y2 y3=>K .normal (e149 y0 y1 y2 y3)) x0 x1 x2):=by
 kernel_rfl
def g61_11 (k0:V14→Int→Int→Option R) (x0:V1) (x1:V14) (x2:Int) (x3:Bool):Option R:=
k0 ((0:Int),[],(0:Int),()) (0:Int) (3:Int)
theorem t61_11 (x0 x1 x2 x3):exec cl N c61_11 (e149 x0 x1 x2 x3) K=(g61_11 (fun y0 y1 y2=>K .normal (e76 y0 y1 y2)) x0 x1 x2 x3):=by
 kernel_rfl
theorem kp61_4 (x0 x1 x2):keep [0,2,3,4,7] (e76 x0 x1 x2)=(e150 x0 x1 x2):=by kernel_rfl
theorem kp61_5 (x0 x1 x2 x3):keep [0,2,3,4,7] (e149 x0 x1 x2 x3)=(e151 x0 x1 x2):=by kernel_rfl
theorem hb61_1 (x0 x1 x2 x3):boolOf? (ent (e149 x0 x1 x2 x3) (.t 33))=some x3:=by kernel_rfl
def g61_17 (S62:V1→Option V3) (k0:V1→V14→Int→Bool→Option R) (x0:V1) (x1:V14) (x2:Int):Option R:=
if 0≤(0:Int)∧(0:Int)≤x2∧x2≤(x0.length:Int) then
(S62 ((x0.drop (0:Int).toNat).take (x2.toNat - (0:Int).toNat))).bind fun r707=>
k0 x0 x1 x2 (!r707.2)
else none
theorem t61_17 (S62) (h62:(ctr62 S62).holds cl) (x0 x1 x2):exec cl N c61_17 (e151 x0 x1 x2) K=(g61_17 S62 (fun y0 y1 y2 y3=>exec cl N c61_16 (e152 y0 y1 y2 y3) K) x0 x1 x2):=by
 rw [←put_eq h62]
 kernel_rfl
def g61_15 (k0:V14→Int→Int→Option R) (x0:V1) (x1:V14) (x2:Int) (x3:Bool):Option R:=
k0 ((0:Int),[],(0:Int),()) (0:Int) (2:Int)
theorem t61_15 (x0 x1 x2 x3):exec cl N c61_15 (e152 x0 x1 x2 x3) K=(g61_15 (fun y0 y1 y2=>K .normal (e76 y0 y1 y2)) x0 x1 x2 x3):=by
 kernel_rfl
theorem kp61_6 (x0 x1 x2 x3):keep [0,2,3,4,7] (e152 x0 x1 x2 x3)=(e151 x0 x1 x2):=by kernel_rfl
theorem hb61_2 (x0 x1 x2 x3):boolOf? (ent (e152 x0 x1 x2 x3) (.t 43))=some x3:=by kernel_rfl
def g61_18 (k0:V14→Int→Int→Option R) (x0:V1) (x1:V14) (x2:Int):Option R:=
if 0≤(0:Int)∧(0:Int)≤x2∧x2≤(x0.length:Int) then
k0 ((2:Int),((x0.drop (0:Int).toNat).take (x2.toNat - (0:Int).toNat)),(0:Int),()) x2 (0:Int)
else none
theorem t61_18 (x0 x1 x2):exec cl N c61_18 (e151 x0 x1 x2) K=(g61_18 (fun y0 y1 y2=>K .normal (e76 y0 y1 y2)) x0 x1 x2):=by
 kernel_rfl
theorem kp61_7 (x0 x1 x2):keep [2,3,4] (e150 x0 x1 x2)=(e76 x0 x1 x2):=by kernel_rfl
def g61_19 (k0:V1→V14→Int→Bool→Option R) (x0:V1) (x1:V14) (x2:Int) (x3:Bool):Option R:=
k0 x0 x1 x2 (x2==(34:Int))
theorem t61_19 (x0 x1 x2 x3):exec cl N c61_19 (e148 x0 x1 x2 x3) K=(g61_19 (fun y0 y1 y2 y3=>K .normal (e153 y0 y1 y2 y3)) x0 x1 x2 x3):=by
 kernel_rfl
def g61_22 (S79:V1→Option V7) (k0:V14→Int→Int→Option R) (x0:V1) (x1:V14) (x2:Int) (x3:Bool):Option R:=
(S79 x0).bind fun r713=>
k0 ((3:Int),r713.1,(0:Int),()) (IntKind.i64.wrap ((r713.1.length:Int)+(2:Int))) r713.2
theorem t61_22 (S79) (h79:(ctr79 S79).holds cl) (x0 x1 x2 x3):exec cl N c61_22 (e153 x0 x1 x2 x3) K=(g61_22 S79 (fun y0 y1 y2=>exec cl N .ret (e76 y0 y1 y2) K) x0 x1 x2 x3):=by
 rw [←put_eq h79]
 kernel_rfl
def g61_23 (S80:V1→Int→Option (Int)) (k0:V1→V14→Bool→Option R) (x0:V1) (x1:V14) (x2:Int) (x3:Bool):Option R:=
(S80 ([123,125,40,41,91,93,47,59,58,126,64,61,94,44,46,124,43,42,60,62,45]:List UInt8) x2).bind fun r716=>
k0 x0 x1 (decide (r716≥(0:Int)))
theorem t61_23 (S80) (h80:(ctr80 S80).holds cl) (x0 x1 x2 x3):exec cl N c61_23 (e153 x0 x1 x2 x3) K=(g61_23 S80 (fun y0 y1 y2=>K .normal (e154 y0 y1 y2)) x0 x1 x2 x3):=by
 rw [←put_eq h80]
 kernel_rfl
def g61_24 (k0:V14→Int→Int→Option R) (x0:V1) (x1:V14) (x2:Bool):Option R:=
if 0≤(0:Int)∧(0:Int)≤(1:Int)∧(1:Int)≤(x0.length:Int) then
k0 ((4:Int),((x0.drop (0:Int).toNat).take ((1:Int).toNat - (0:Int).toNat)),(0:Int),()) (1:Int) (0:Int)
else none
theorem t61_24 (x0 x1 x2):exec cl N c61_24 (e154 x0 x1 x2) K=(g61_24 (fun y0 y1 y2=>K .normal (e76 y0 y1 y2)) x0 x1 x2):=by
 kernel_rfl
theorem kp61_8 (x0 x1 x2):keep [2,3,4] (e154 x0 x1 x2)=(e93 x1):=by kernel_rfl
theorem hb61_3 (x0 x1 x2):boolOf? (ent (e154 x0 x1 x2) (.t 64))=some x2:=by kernel_rfl
theorem kp61_9 (x0):keep [2,3,4] (e93 x0)=(e93 x0):=by kernel_rfl
theorem hb61_4 (x0 x1 x2 x3):boolOf? (ent (e153 x0 x1 x2 x3) (.t 50))=some x3:=by kernel_rfl
theorem hb61_5 (x0 x1 x2 x3):boolOf? (ent (e148 x0 x1 x2 x3) (.t 27))=some x3:=by kernel_rfl
theorem hb61_6 (x0 x1 x2 x3):boolOf? (ent (e146 x0 x1 x2 x3) (.t 14))=some x3:=by kernel_rfl
def g61_30 (k0:V14→Int→Int→Option R) (x0:V14):Option R:=
k0 ((0:Int),[],(0:Int),()) (0:Int) (2:Int)
theorem t61_30 (x0):exec cl N c61_30 (e93 x0) K=(g61_30 (fun y0 y1 y2=>K .normal (e76 y0 y1 y2)) x0):=by
 kernel_rfl
def g61_31 (S62:V1→Option V3) (S65:V1→Option (Int)) (S76:Int→Option (Bool)) (S77:Int→Option (Bool)) (S78:V1→Option (Int)) (S79:V1→Option V7) (S80:V1→Int→Option (Int)) (k0:V14→Int→Int→Option R) (x0:V1):Option R:=
(g61_0 (g61_1 (g61_2 S76 (fun y0 y1 y2 y3=>brB y3 (g61_3 S65 (g61_4 (fun y0 y1 y2 y3=>brB y3 (g61_5 k0 y0 y1 y2 y3) ((g61_7 k0) y0 y1 y2))) y0 y1 y2 y3) (g61_8 S77 (fun y0 y1 y2 y3=>brB y3 (g61_9 S78 (g61_10 (fun y0 y1 y2 y3=>brB y3 (g61_11 k0 y0 y1 y2 y3) ((g61_17 S62 (fun y0 y1 y2 y3=>brB y3 (g61_15 k0 y0 y1 y2 y3) ((g61_18 k0) y0 y1 y2))) y0 y1 y2))) y0 y1 y2 y3) (g61_19 (fun y0 y1 y2 y3=>brB y3 (g61_22 S79 k0 y0 y1 y2 y3) (g61_23 S80 (fun y0 y1 y2=>brB y2 (g61_24 k0 y0 y1 y2) ((((((g61_30 k0))))) y1)) y0 y1 y2 y3)) y0 y1 y2 y3)) y0 y1 y2 y3)))) x0)
theorem t61_31 (S62) (S65) (S76) (S77) (S78) (S79) (S80) (h62:(ctr62 S62).holds cl) (h65:(ctr65 S65).holds cl) (h76:(ctr76 S76).holds cl) (h77:(ctr77 S77).holds cl) (h78:(ctr78 S78).holds cl) (h79:(ctr79 S79).holds cl) (h80:(ctr80 S80).holds cl) (x0):exec cl N c61_31 [(0,.v .str x0)] K=(g61_31 S62 S65 S76 S77 S78 S79 S80 (fun y0 y1 y2=>K .ret (e76 y0 y1 y2)) x0):=by
 simp only [c61_31,exec_seq,seqK_normal,seqK_exit,seqK_ret,t61_0,t61_1,c61_29,exec_out,exec_block,t61_2 S76 h76,c61_28,exec_cond',hb61_6,Option.bind_some,brB_true,brB_false,t61_3 S65 h65,t61_4,c61_6,hb61_0,t61_5,exec_ret,exec_skip,kp61_0,kp61_1,t61_7,t61_8 S77 h77,c61_27,hb61_5,t61_9 S78 h78,t61_10,c61_12,hb61_1,t61_11,kp61_4,kp61_5,t61_17 S62 h62,c61_16,hb61_2,t61_15,kp61_6,t61_18,t61_19,c61_26,hb61_4,t61_22 S79 h79,t61_23 S80 h80,c61_25,hb61_3,t61_24,kp61_3,kp61_8,kp61_9,kp61_7,kp61_2,blockK_normal,blockK_ret,blockK_eq,t61_30]
 rfl
theorem rk61_0 (y0 y1 y2):retK d61 .ret (e76 y0 y1 y2)=some [.v U12 y0,.v U2 y1,.v U2 y2]:=by kernel_rfl
def g61 (S62:V1→Option V3) (S65:V1→Option (Int)) (S76:Int→Option (Bool)) (S77:Int→Option (Bool)) (S78:V1→Option (Int)) (S79:V1→Option V7) (S80:V1→Int→Option (Int)) (x0:V1) (k:V14→Int→Int→Option R):Option R:=
(g61_31 S62 S65 S76 S77 S78 S79 S80 k x0)
theorem gen61 (S62) (S65) (S76) (S77) (S78) (S79) (S80) (h62:(ctr62 S62).holds cl) (h65:(ctr65 S65).holds cl) (h76:(ctr76 S76).holds cl) (h77:(ctr77 S77).holds cl) (h78:(ctr78 S78).holds cl) (h79:(ctr79 S79).holds cl) (h80:(ctr80 S80).holds cl) (x0) (k:List E→Option R):exec cl N c61 [(0,.v .str x0)] (fun e env=>(retK d61 e env).bind k)=g61 S62 S65 S76 S77 S78 S79 S80 x0 (fun r0 r1 r2=>k [.v U12 r0,.v U2 r1,.v U2 r2]):=by
 simp only [c61,t61_31 S62 S65 S76 S77 S78 S79 S80 h62 h65 h76 h77 h78 h79 h80,rk61_0,Option.bind_some]
 rfl
def ctr61 (S:V1→Option V18):Ctr:=cv1 61 .str S fun b=> [.v U12 b.1,.v U2 b.2.1,.v U2 b.2.2]
def S61 (N:Nat) (x0:V1):Option V18:=g61 (S62 N) (S65 N) (S76 N) (S77 N) (S78 N) (S79 N) (S80 N) x0 (fun (r0:V14) (r1:Int) (r2:Int)=>some (r0,r1,r2))
def g35_0 (k0:V1→Option R) (x0:V1):Option R:=
k0 x0
theorem t35_0 (x0):exec cl N c35_0 [(0,.v .str x0)] K=(g35_0 (fun y0=>K .normal [(0,.v .str y0)]) x0):=by
 kernel_rfl
def g35_1 (k0:V1→Bool→Option R) (x0:V1):Option R:=
k0 x0 (decide ((x0.length:Int) > (20000:Int)))
theorem t35_1 (x0):exec cl N c35_1 [(0,.v .str x0)] K=(g35_1 (fun y0 y1=>K .normal (e94 y0 y1)) x0):=by
 kernel_rfl
def g35_2 (k0:V16→Int→Int→Option R) (x0:V1) (x1:Bool):Option R:=
k0 [] (0:Int) (3:Int)
theorem t35_2 (x0 x1):exec cl N c35_2 (e94 x0 x1) K=(g35_2 (fun y0 y1 y2=>K .normal (e95 y0 y1 y2)) x0 x1):=by
 kernel_rfl
theorem kp35_0 (x0 x1 x2):keep [0,2,3,4] (e95 x0 x1 x2)=(e96 x0 x1 x2):=by kernel_rfl
theorem kp35_1 (x0 x1):keep [0,2,3,4] (e94 x0 x1)=(e97 x0):=by kernel_rfl
theorem hb35_0 (x0 x1):boolOf? (ent (e94 x0 x1) (.t 13))=some x1:=by kernel_rfl
def g35_46 (k0:V1→V16→Int→Option R) (x0:V1):Option R:=
k0 x0 [] (1:Int)
theorem t35_46 (x0):exec cl N c35_46 (e97 x0) K=(g35_46 (fun y0 y1 y2=>exec cl N (.seq (.seq c35_6 c35_44) (.seq c35_45 .ret)) [(0,.v .str y0),(5,.own true 36 U12 .no y1),(6,.v U2 y2)] K) x0):=by
 kernel_rfl
def g35_6 (k0:V1→V16→Int→Int→Option R) (x0:V1) (x1:V16) (x2:Int):Option R:=
k0 x0 x1 x2 (0:Int)
theorem t35_6 (x0 x1 x2):exec cl N c35_6 [(0,.v .str x0),(5,.own true 36 U12 .no x1),(6,.v U2 x2)] K=(g35_6 (fun y0 y1 y2 y3=>K .normal (e98 y0 y1 y2 y3)) x0 x1 x2):=by
 kernel_rfl
theorem kp35_2 (x0 x1 x2 x3):keep [0,5,6,7] (e98 x0 x1 x2 x3)=(e98 x0 x1 x2 x3):=by kernel_rfl
def g35_7 (k0:V1→V16→Int→Int→Bool→Option R) (x0:V1) (x1:V16) (x2 x3:Int):Option R:=
k0 x0 x1 x2 x3 (decide (x3 < (x0.length:Int)))
theorem t35_7 (x0 x1 x2 x3):exec cl N c35_7 (e98 x0 x1 x2 x3) K=(g35_7 (fun y0 y1 y2 y3 y4=>K .normal (e155 y0 y1 y2 y3 y4)) x0 x1 x2 x3):=by
 kernel_rfl
theorem kp35_3 (x0 x1 x2 x3 x4):keep [0,5,6,7] (e155 x0 x1 x2 x3 x4)=(e98 x0 x1 x2 x3):=by kernel_rfl
theorem hb35_1 (x0 x1 x2 x3 x4):boolOf? (ent (e155 x0 x1 x2 x3 x4) (.t 17))=some x4:=by kernel_rfl
def g35_9 (k0:V1→V16→Int→Int→Int→Option R) (x0:V1) (x1:V16) (x2 x3:Int):Option R:=
if 0≤x3∧x3 < (x0.length:Int) then
k0 x0 x1 x2 x3 ((x0.getD x3.toNat 0).toNat:Int)
else none
theorem t35_9 (x0 x1 x2 x3):exec cl N c35_9 (e98 x0 x1 x2 x3) K=(g35_9 (fun y0 y1 y2 y3 y4=>K .normal (e156 y0 y1 y2 y3 y4)) x0 x1 x2 x3):=by
 kernel_rfl
def g35_10 (k0:V1→V16→Int→Int→Int→Bool→Option R) (x0:V1) (x1:V16) (x2 x3 x4:Int):Option R:=
k0 x0 x1 x2 x3 x4 (x4==(10:Int))
theorem t35_10 (x0 x1 x2 x3 x4):exec cl N c35_10 (e156 x0 x1 x2 x3 x4) K=(g35_10 (fun y0 y1 y2 y3 y4 y5=>K .normal (e157 y0 y1 y2 y3 y4 y5)) x0 x1 x2 x3 x4):=by
 kernel_rfl
def g35_13 (k0:V1→V16→Int→Int→Option R) (x0:V1) (x1:V16) (x2 x3 x4:Int) (x5:Bool):Option R:=
k0 x0 x1 (IntKind.i64.wrap (x2+(1:Int))) (IntKind.i64.wrap (x3+(1:Int)))
theorem t35_13 (x0 x1 x2 x3 x4 x5):exec cl N c35_13 (e157 x0 x1 x2 x3 x4 x5) K=(g35_13 (fun y0 y1 y2 y3=>K .normal (e98 y0 y1 y2 y3)) x0 x1 x2 x3 x4 x5):=by
 kernel_rfl
theorem kp35_4 (x0 x1 x2 x3):keep [0,2,3,4,5,6,7] (e98 x0 x1 x2 x3)=(e102 x0 x1 x2 x3):=by kernel_rfl
def g35_14 (k0:V1→V16→Int→Int→Int→Bool→Option R) (x0:V1) (x1:V16) (x2 x3 x4:Int) (x5:Bool):Option R:=
k0 x0 x1 x2 x3 x4 (x4==(32:Int))
theorem t35_14 (x0 x1 x2 x3 x4 x5):exec cl N c35_14 (e157 x0 x1 x2 x3 x4 x5) K=(g35_14 (fun y0 y1 y2 y3 y4 y5=>K .normal (e158 y0 y1 y2 y3 y4 y5)) x0 x1 x2 x3 x4 x5):=by
 kernel_rfl
theorem kp35_5 (x0 x1 x2 x3 x4 x5):keep [0,5,6,7,20,48] (e158 x0 x1 x2 x3 x4 x5)=(e158 x0 x1 x2 x3 x4 x5):=by kernel_rfl
def g35_15 (k0:V1→V16→Int→Int→Int→Bool→Option R) (x0:V1) (x1:V16) (x2 x3 x4:Int) (x5:Bool):Option R:=
k0 x0 x1 x2 x3 x4 (x4==(9:Int))
theorem t35_15 (x0 x1 x2 x3 x4 x5):exec cl N c35_15 (e158 x0 x1 x2 x3 x4 x5) K=(g35_15 (fun y0 y1 y2 y3 y4 y5=>K .normal (e158 y0 y1 y2 y3 y4 y5)) x0 x1 x2 x3 x4 x5):=by
 kernel_rfl
def g35_16 (k0:V1→V16→Int→Int→Int→Bool→Option R) (x0:V1) (x1:V16) (x2 x3 x4:Int) (x5:Bool):Option R:=
k0 x0 x1 x2 x3 x4 (x4==(13:Int))
theorem t35_16 (x0 x1 x2 x3 x4 x5):exec cl N c35_16 (e158 x0 x1 x2 x3 x4 x5) K=(g35_16 (fun y0 y1 y2 y3 y4 y5=>K .normal (e158 y0 y1 y2 y3 y4 y5)) x0 x1 x2 x3 x4 x5):=by
 kernel_rfl
theorem hb35_2 (x0 x1 x2 x3 x4 x5):boolOf? (ent (e158 x0 x1 x2 x3 x4 x5) (.t 48))=some x5:=by kernel_rfl
theorem hb35_3 (x0 x1 x2 x3 x4 x5):boolOf? (ent (e158 x0 x1 x2 x3 x4 x5) (.t 48))=some x5:=by kernel_rfl
def g35_19 (k0:V1→V16→Int→Int→Int→Bool→Option R) (x0:V1) (x1:V16) (x2 x3 x4:Int) (x5:Bool):Option R:=
(g35_14 (fun y0 y1 y2 y3 y4 y5=>brB y5 (k0 y0 y1 y2 y3 y4 y5) (g35_15 (fun y0 y1 y2 y3 y4 y5=>brB y5 (k0 y0 y1 y2 y3 y4 y5) (g35_16 k0 y0 y1 y2 y3 y4 y5)) y0 y1 y2 y3 y4 y5)) x0 x1 x2 x3 x4 x5)
theorem t35_19 (x0 x1 x2 x3 x4 x5):exec cl N c35_19 (e157 x0 x1 x2 x3 x4 x5) K=(g35_19 (fun y0 y1 y2 y3 y4 y5=>K .normal (e158 y0 y1 y2 y3 y4 y5)) x0 x1 x2 x3 x4 x5):=by
 simp only [c35_19,exec_seq,seqK_normal,seqK_exit,seqK_ret,t35_14,c35_18,exec_out,exec_cond',hb35_3,Option.bind_some,brB_true,brB_false,exec_skip,t35_15,c35_17,hb35_2,t35_16,kp35_5]
 rfl
def g35_20 (k0:V1→V16→Int→Int→Option R) (x0:V1) (x1:V16) (x2 x3 x4:Int) (x5:Bool):Option R:=
k0 x0 x1 x2 (IntKind.i64.wrap (x3+(1:Int)))
theorem t35_20 (x0 x1 x2 x3 x4 x5):exec cl N c35_20 (e158 x0 x1 x2 x3 x4 x5) K=(g35_20 (fun y0 y1 y2 y3=>K .normal (e98 y0 y1 y2 y3)) x0 x1 x2 x3 x4 x5):=by
 kernel_rfl
def g35_21 (k0:V1→V16→Int→Int→Bool→Option R) (x0:V1) (x1:V16) (x2 x3 x4:Int) (x5:Bool):Option R:=
k0 x0 x1 x2 x3 (x4==(35:Int))
theorem t35_21 (x0 x1 x2 x3 x4 x5):exec cl N c35_21 (e158 x0 x1 x2 x3 x4 x5) K=(g35_21 (fun y0 y1 y2 y3 y4=>K .normal (e159 y0 y1 y2 y3 y4)) x0 x1 x2 x3 x4 x5):=by
 kernel_rfl
theorem kp35_6 (x0 x1 x2 x3 x4):keep [0,5,6,7] (e159 x0 x1 x2 x3 x4)=(e98 x0 x1 x2 x3):=by kernel_rfl
def g35_22 (k0:V1→V16→Int→Int→Bool→Option R) (x0:V1) (x1:V16) (x2 x3:Int):Option R:=
brB (decide (x3 < (x0.length:Int))) (if 0≤x3∧x3 < (x0.length:Int) then
k0 x0 x1 x2 x3 (((x0.getD x3.toNat 0).toNat:Int) != (10:Int))
else none) (k0 x0 x1 x2 x3 false)
theorem t35_22 (x0 x1 x2 x3):exec cl N c35_22 (e98 x0 x1 x2 x3) K=(g35_22 (fun y0 y1 y2 y3 y4=>K .normal (e160 y0 y1 y2 y3 y4)) x0 x1 x2 x3):=by
 kernel_rfl
theorem kp35_7 (x0 x1 x2 x3 x4):keep [0,5,6,7] (e160 x0 x1 x2 x3 x4)=(e98 x0 x1 x2 x3):=by kernel_rfl
theorem hb35_4 (x0 x1 x2 x3 x4):boolOf? (ent (e160 x0 x1 x2 x3 x4) (.t 65))=some x4:=by kernel_rfl
def g35_24 (k0:V1→V16→Int→Int→Option R) (x0:V1) (x1:V16) (x2 x3:Int):Option R:=
k0 x0 x1 x2 (IntKind.i64.wrap (x3+(1:Int)))
theorem t35_24 (x0 x1 x2 x3):exec cl N c35_24 (e98 x0 x1 x2 x3) K=(g35_24 (fun y0 y1 y2 y3=>K .normal (e98 y0 y1 y2 y3)) x0 x1 x2 x3):=by
 kernel_rfl
def g35_26 (k0:V1→V16→Int→Int→Option R) (k1:V1→V16→Int→Int→Option R) (x0:V1) (x1:V16) (x2 x3:Int):Option R:=
(g35_22 (fun y0 y1 y2 y3 y4=>brB y4 ((g35_24 k0) y0 y1 y2 y3) (k1 y0 y1 y2 y3)) x0 x1 x2 x3)
theorem t35_26 (x0 x1 x2 x3):exec cl N c35_26 (e98 x0 x1 x2 x3) K=(g35_26 (fun y0 y1 y2 y3=>K .normal (e98 y0 y1 y2 y3)) (fun y0 y1 y2 y3=>K (.exit 3) (e98 y0 y1 y2 y3)) x0 x1 x2 x3):=by
 simp only [c35_26,exec_seq,seqK_normal,seqK_exit,seqK_ret,t35_22,c35_23,exec_out,exec_cond',hb35_4,Option.bind_some,brB_true,brB_false,exec_skip,exec_exit,kp35_7,c35_25,exec_block,t35_24,blockK_normal,blockK_ret,blockK_eq,kp35_2]
 rfl
def l35_27 {R:Type} (k0:V1→V16→Int→Int→Option R):Nat→V1→V16→Int→Int→Option R
 | 0,_,_,_,_=>none
 | m+1,x0,x1,x2,x3=>(g35_26 (l35_27 k0 m) k0 x0 x1 x2 x3)
theorem lt35_27:∀ (m) (x0 x1 x2 x3),iter [0,5,6,7] (fun env K=>exec cl N c35_26 env K) K m (e98 x0 x1 x2 x3)=l35_27 (fun y0 y1 y2 y3=>K (.exit 3) (e98 y0 y1 y2 y3)) m x0 x1 x2 x3:=by
 intro m
 induction m with
 | zero=>intros; rfl
 | succ m ih=>
   intro x0 x1 x2 x3
   simp only [iter_succ,t35_26,loopK_normal,loopK_exit,loopK_ret,kp35_2,ih]
   rfl
def g35_27 (N:Nat) (k0:V1→V16→Int→Int→Option R) (x0:V1) (x1:V16) (x2 x3:Int) (x4:Bool):Option R:=
l35_27 k0 N x0 x1 x2 x3
theorem t35_27 (x0 x1 x2 x3 x4):exec cl N c35_27 (e159 x0 x1 x2 x3 x4) K=(g35_27 N (fun y0 y1 y2 y3=>K (.exit 3) (e98 y0 y1 y2 y3)) x0 x1 x2 x3 x4):=by
 simp only [c35_27,exec_out,exec_loop,kp35_6,lt35_27,kp35_2]
 rfl
def g35_29 (S61:V1→Option V18) (k0:V1→V16→Int→Int→V14→Int→Int→Option R) (x0:V1) (x1:V16) (x2 x3:Int) (x4:Bool):Option R:=
if 0≤x3∧x3≤(x0.length:Int)∧(x0.length:Int)≤(x0.length:Int) then
(S61 ((x0.drop x3.toNat).take ((x0.length:Int).toNat - x3.toNat))).bind fun r741=>
k0 x0 x1 x2 x3 r741.1 r741.2.1 r741.2.2
else none
theorem t35_29 (S61) (h61:(ctr61 S61).holds cl) (x0 x1 x2 x3 x4):exec cl N c35_29 (e159 x0 x1 x2 x3 x4) K=(g35_29 S61 (fun y0 y1 y2 y3 y4 y5 y6=>K .normal (e161 y0 y1 y2 y3 y4 y5 y6)) x0 x1 x2 x3 x4):=by
 rw [←put_eq h61]
 kernel_rfl
def g35_30 (k0:V1→V16→Int→Int→V14→Int→Int→Bool→Option R) (x0:V1) (x1:V16) (x2 x3:Int) (x4:V14) (x5 x6:Int):Option R:=
k0 x0 x1 x2 x3 x4 x5 x6 (x6 != (0:Int))
theorem t35_30 (x0 x1 x2 x3 x4 x5 x6):exec cl N c35_30 (e161 x0 x1 x2 x3 x4 x5 x6) K=(g35_30 (fun y0 y1 y2 y3 y4 y5 y6 y7=>K .normal (e162 y0 y1 y2 y3 y4 y5 y6 y7)) x0 x1 x2 x3 x4 x5 x6):=by
 kernel_rfl
def g35_31 (k0:V16→Int→Int→Option R) (x0:V1) (x1:V16) (x2 x3:Int) (x4:V14) (x5 x6:Int) (x7:Bool):Option R:=
k0 [] x2 x6
theorem t35_31 (x0 x1 x2 x3 x4 x5 x6 x7):exec cl N c35_31 (e162 x0 x1 x2 x3 x4 x5 x6 x7) K=(g35_31 (fun y0 y1 y2=>K .normal (e95 y0 y1 y2)) x0 x1 x2 x3 x4 x5 x6 x7):=by
 kernel_rfl
theorem kp35_8 (x0 x1 x2):keep [0,2,3,4,5,6,7,8,9] (e95 x0 x1 x2)=(e105 x0 x1 x2):=by kernel_rfl
theorem kp35_9 (x0 x1 x2 x3 x4 x5 x6 x7):keep [0,2,3,4,5,6,7,8,9] (e162 x0 x1 x2 x3 x4 x5 x6 x7)=(e163 x0 x1 x2 x3 x4 x5):=by kernel_rfl
theorem hb35_5 (x0 x1 x2 x3 x4 x5 x6 x7):boolOf? (ent (e162 x0 x1 x2 x3 x4 x5 x6 x7) (.t 30))=some x7:=by kernel_rfl
def g35_36 (k0:V1→V16→Int→Int→Option R) (x0:V1) (x1:V16) (x2 x3:Int) (x4:V14) (x5:Int):Option R:=
if x1.length+[(x4.1,(x4.2.1,(x2,x4.2.2.2)))].length≤4398046511104 then
k0 x0 (x1++[(x4.1,(x4.2.1,(x2,x4.2.2.2)))]) x2 (IntKind.i64.wrap (x3+x5))
else none
theorem t35_36 (x0 x1 x2 x3 x4 x5):exec cl N c35_36 (e163 x0 x1 x2 x3 x4 x5) K=(g35_36 (fun y0 y1 y2 y3=>K .normal (e98 y0 y1 y2 y3)) x0 x1 x2 x3 x4 x5):=by
 kernel_rfl
theorem kp35_10 (x0 x1 x2):keep [0,2,3,4,5,6,7] (e105 x0 x1 x2)=(e107 x0 x1 x2):=by kernel_rfl
theorem hb35_6 (x0 x1 x2 x3 x4):boolOf? (ent (e159 x0 x1 x2 x3 x4) (.t 54))=some x4:=by kernel_rfl
theorem kp35_11 (x0 x1 x2 x3):keep [0,2,3,4,5,6,7] (e102 x0 x1 x2 x3)=(e102 x0 x1 x2 x3):=by kernel_rfl
theorem kp35_12 (x0 x1 x2):keep [0,2,3,4,5,6,7] (e107 x0 x1 x2)=(e107 x0 x1 x2):=by kernel_rfl
theorem hb35_7 (x0 x1 x2 x3 x4 x5):boolOf? (ent (e158 x0 x1 x2 x3 x4 x5) (.t 48))=some x5:=by kernel_rfl
theorem hb35_8 (x0 x1 x2 x3 x4 x5):boolOf? (ent (e157 x0 x1 x2 x3 x4 x5) (.t 42))=some x5:=by kernel_rfl
def g35_42 (N:Nat) (S61:V1→Option V18) (k0:V1→V16→Int→Int→Option R) (k1:V16→Int→Int→Option R) (k2:V1→V16→Int→Int→Option R) (x0:V1) (x1:V16) (x2 x3:Int):Option R:=
(g35_7 (fun y0 y1 y2 y3 y4=>brB y4 ((g35_9 (g35_10 (fun y0 y1 y2 y3 y4 y5=>brB y5 (g35_13 k0 y0 y1 y2 y3 y4 y5) (g35_19 (fun y0 y1 y2 y3 y4 y5=>brB y5 (g35_20 k0 y0 y1 y2 y3 y4 y5) (g35_21 (fun y0 y1 y2 y3 y4=>brB y4 (g35_27 N k0 y0 y1 y2 y3 y4) (g35_29 S61 (g35_30 (fun y0 y1 y2 y3 y4 y5 y6 y7=>brB y7 (g35_31 k1 y0 y1 y2 y3 y4 y5 y6 y7) ((g35_36 k0) y0 y1 y2 y3 y4 y5))) y0 y1 y2 y3 y4)) y0 y1 y2 y3 y4 y5)) y0 y1 y2 y3 y4 y5)))) y0 y1 y2 y3) (k2 y0 y1 y2 y3)) x0 x1 x2 x3)
theorem t35_42 (S61) (h61:(ctr61 S61).holds cl) (x0 x1 x2 x3):exec cl N c35_42 (e98 x0 x1 x2 x3) K=(g35_42 N S61 (fun y0 y1 y2 y3=>K .normal (e102 y0 y1 y2 y3)) (fun y0 y1 y2=>K .ret (e107 y0 y1 y2)) (fun y0 y1 y2 y3=>K (.exit 0) (e98 y0 y1 y2 y3)) x0 x1 x2 x3):=by
 simp only [c35_42,exec_seq,seqK_normal,seqK_exit,seqK_ret,t35_7,c35_8,exec_out,exec_cond',hb35_1,Option.bind_some,brB_true,brB_false,exec_skip,exec_exit,kp35_3,c35_41,exec_block,t35_9,c35_40,t35_10,c35_39,hb35_8,t35_13,t35_19,c35_38,hb35_7,t35_20,t35_21,c35_37,hb35_6,c35_28,t35_27,blockK_normal,blockK_ret,blockK_eq,kp35_2,t35_29 S61 h61,t35_30,c35_32,hb35_5,t35_31,exec_ret,kp35_8,kp35_9,t35_36,kp35_10,kp35_4,kp35_11,kp35_12]
 rfl
theorem kp35_13 (x0 x1 x2 x3):keep [0,5,6,7] (e102 x0 x1 x2 x3)=(e98 x0 x1 x2 x3):=by kernel_rfl
def l35_43 {R:Type} (N:Nat) (S61:V1→Option V18) (k0:V16→Int→Int→Option R) (k1:V1→V16→Int→Int→Option R):Nat→V1→V16→Int→Int→Option R
 | 0,_,_,_,_=>none
 | m+1,x0,x1,x2,x3=>(g35_42 N S61 (l35_43 N S61 k0 k1 m) k0 k1 x0 x1 x2 x3)
theorem lt35_43 (S61) (h61:(ctr61 S61).holds cl):∀ (m) (x0 x1 x2 x3),iter [0,5,6,7] (fun env K=>exec cl N c35_42 env K) K m (e98 x0 x1 x2 x3)=l35_43 N S61 (fun y0 y1 y2=>K .ret (e107 y0 y1 y2)) (fun y0 y1 y2 y3=>K (.exit 0) (e98 y0 y1 y2 y3)) m x0 x1 x2 x3:=by
 intro m
 induction m with
 | zero=>intros; rfl
 | succ m ih=>
   intro x0 x1 x2 x3
   simp only [iter_succ,t35_42 S61 h61,loopK_normal,loopK_exit,loopK_ret,kp35_13,ih]
   rfl
theorem kp35_14 (x0 x1 x2):keep [2,3,4,5] (e107 x0 x1 x2)=(e108 x0 x1 x2):=by kernel_rfl
theorem kp35_15 (x0 x1 x2 x3):keep [2,3,4,5] (e98 x0 x1 x2 x3)=(e164 x1):=by kernel_rfl
def g35_43 (N:Nat) (S61:V1→Option V18) (k0:V16→Int→Int→Option R) (k1:V16→Option R) (x0:V1) (x1:V16) (x2 x3:Int):Option R:=
l35_43 N S61 k0 (fun y0 y1 y2 y3=>k1 y1) N x0 x1 x2 x3
theorem t35_43 (S61) (h61:(ctr61 S61).holds cl) (x0 x1 x2 x3):exec cl N c35_43 (e98 x0 x1 x2 x3) K=(g35_43 N S61 (fun y0 y1 y2=>K .ret (e108 y0 y1 y2)) (fun y0=>K (.exit 0) (e164 y0)) x0 x1 x2 x3):=by
 simp only [c35_43,exec_out,exec_loop,kp35_2,lt35_43 S61 h61,kp35_14,kp35_15]
 rfl
theorem kp35_16 (x0 x1 x2):keep [2,3,4,5] (e108 x0 x1 x2)=(e108 x0 x1 x2):=by kernel_rfl
theorem kp35_17 (x0):keep [2,3,4,5] (e164 x0)=(e164 x0):=by kernel_rfl
def g35_45 (k0:Int→Int→V16→Option R) (x0:V16):Option R:=
k0 (0:Int) (0:Int) x0
theorem t35_45 (x0):exec cl N c35_45 (e164 x0) K=(g35_45 (fun y0 y1 y2=>K .normal (e100 y0 y1 y2)) x0):=by
 kernel_rfl
def g35_47 (N:Nat) (S61:V1→Option V18) (k0:V16→Int→Int→Option R) (k1:V16→Int→Int→Option R) (k2:Int→Int→V16→Option R) (x0:V1):Option R:=
(g35_0 (g35_1 (fun y0 y1=>brB y1 (g35_2 k0 y0 y1) ((g35_46 (g35_6 (g35_43 N S61 k1 ((g35_45 k2))))) y0))) x0)
theorem t35_47 (S61) (h61:(ctr61 S61).holds cl) (x0):exec cl N c35_47 [(0,.v .str x0)] K=(g35_47 N S61 (fun y0 y1 y2=>K .ret (e96 y0 y1 y2)) (fun y0 y1 y2=>K .ret (e108 y0 y1 y2)) (fun y0 y1 y2=>K .ret (e100 y0 y1 y2)) x0):=by
 simp only [c35_47,exec_seq,seqK_normal,seqK_exit,seqK_ret,t35_0,t35_1,c35_3,exec_out,exec_cond',hb35_0,Option.bind_some,brB_true,brB_false,t35_2,exec_ret,exec_skip,kp35_0,kp35_1,t35_46,t35_6,c35_44,exec_block,t35_43 S61 h61,blockK_normal,blockK_ret,blockK_eq,kp35_16,kp35_17,t35_45]
 rfl
theorem rk35_0 (y0 y1 y2):retK d35 .ret (e96 y0 y1 y2)=some [.own true 36 U12 .no y0,.v U2 y1,.v U2 y2]:=by kernel_rfl
theorem rk35_1 (y0 y1 y2):retK d35 .ret (e108 y0 y1 y2)=some [.own true 36 U12 .no y0,.v U2 y1,.v U2 y2]:=by kernel_rfl
theorem rk35_2 (y0 y1 y2):retK d35 .ret (e100 y0 y1 y2)=some [.own true 36 U12 .no y2,.v U2 y0,.v U2 y1]:=by kernel_rfl
def g35 (N:Nat) (S61:V1→Option V18) (x0:V1) (k:V16→Int→Int→Option R):Option R:=
(g35_47 N S61 k k (fun y0 y1 y2=>k y2 y0 y1) x0)
theorem gen35 (S61) (h61:(ctr61 S61).holds cl) (x0) (k:List E→Option R):exec cl N c35 [(0,.v .str x0)] (fun e env=>(retK d35 e env).bind k)=g35 N S61 x0 (fun r0 r1 r2=>k [.own true 36 U12 .no r0,.v U2 r1,.v U2 r2]):=by
 simp only [c35,t35_47 S61 h61,rk35_0,rk35_1,rk35_2,Option.bind_some]
 rfl
def ctr35 (S:V1→Option V19):Ctr:=cv1 35 .str S fun b=> [.own true 36 U12 .no b.1,.v U2 b.2.1,.v U2 b.2.2]
def S35 (N:Nat) (x0:V1):Option V19:=g35 N (S61 N) x0 (fun (r0:V16) (r1:Int) (r2:Int)=>some (r0,r1,r2))
def g37_2 (k0:Bool→Option R) (x0:V21) (x1:Int) (x2:V1):Option R:=
brB (decide (x0.2.1 < (x0.1.length:Int))) (if 0≤x0.2.1∧x0.2.1 < (x0.1.length:Int) then
brB ((x0.1.getD x0.2.1.toNat ((0:Int),([],((0:Int),())))).1==x1) (brB (x2==([]:List UInt8)) (k0 true) (if 0≤x0.2.1∧x0.2.1 < (x0.1.length:Int) then
k0 ((x0.1.getD x0.2.1.toNat ((0:Int),([],((0:Int),())))).2.1==x2)
else none)) (k0 false)
else none) (k0 false)
theorem t37_2 (x0 x1 x2):exec cl N c37_2 (e165 x0 x1 x2) K=(g37_2 (fun y0=>exec cl N .ret [(6,.v .bool y0)] K) x0 x1 x2):=by
 kernel_rfl
def g37_2b (k0:Bool→Option R) (x0:V21) (x1:Int) (x2:V1):Option R:=
(g37_2 k0 x0 x1 x2)
theorem t37_2b (x0 x1 x2):exec cl N c37_2 (e165 x0 x1 x2) K=(g37_2b (fun y0=>K .ret [(6,.v .bool y0)]) x0 x1 x2):=by
 simp only [exec_seq,seqK_normal,seqK_exit,seqK_ret,t37_2,exec_ret]
 rfl
theorem rk37_0 (y0):retK d37 .ret [(6,.v .bool y0)]=some [.v .bool y0]:=by kernel_rfl
def g37 (x0:V21) (x1:Int) (x2:V1) (k:Bool→Option R):Option R:=
(g37_2b k x0 x1 x2)
theorem gen37 (x0 x1 x2) (k:List E→Option R):exec cl N c37 (e165 x0 x1 x2) (fun e env=>(retK d37 e env).bind k)=g37 x0 x1 x2 (fun r0=>k [.v .bool r0]):=by
 simp only [c37,t37_2b,rk37_0,Option.bind_some]
 rfl
def ctr37 (S:V21→Int→V1→Option (Bool)):Ctr:={A:=V21×Int×V1×Unit,B:=Bool,f:=37,enc:=fun a=> [.at U18 a.1,.v U2 a.2.1,.v .str a.2.2.1],dec:=(decC (decA U18) (decC (decV U2) (decC (decV .str) dec0))),S:=fun a=>S a.1 a.2.1 a.2.2.1,ent:=fun b=> [.v .bool b],ok:=(decA_cons (T:=U18) (decV_cons (T:=U2) (decV_cons (T:=.str) (fun es b h=>dec0_some h))))}
def S37 (N:Nat) (x0:V21) (x1:Int) (x2:V1):Option (Bool):=g37 x0 x1 x2 (fun (r0:Bool)=>some (r0))
def g36_0 (k0:V21→Int→V1→Option R) (x0:V21) (x1:Int) (x2:V1):Option R:=
k0 x0 x1 x2
theorem t36_0 (x0 x1 x2):exec cl N c36_0 (e166 x0 x1 x2) K=(g36_0 (fun y0 y1 y2=>K .normal (e166 y0 y1 y2)) x0 x1 x2):=by
 kernel_rfl
def g36_1 (S37:V21→Int→V1→Option (Bool)) (k0:V21→Bool→Option R) (x0:V21) (x1:Int) (x2:V1):Option R:=
brB x0.2.2.1 (k0 x0 true) ((S37 x0 x1 x2).bind fun r763=>
k0 x0 (!r763))
theorem t36_1 (S37) (h37:(ctr37 S37).holds cl) (x0 x1 x2):exec cl N c36_1 (e166 x0 x1 x2) K=(g36_1 S37 (fun y0 y1=>K .normal (e167 y0 y1)) x0 x1 x2):=by
 rw [←put_eq h37]
 kernel_rfl
def g36_4 (k0:V21→V1→Option R) (x0:V21) (x1:Bool):Option R:=
k0 (x0.1,(x0.2.1,(true,x0.2.2.2))) ([]:List UInt8)
theorem t36_4 (x0 x1):exec cl N c36_4 (e167 x0 x1) K=(g36_4 (fun y0 y1=>exec cl N .ret (e168 y0 y1) K) x0 x1):=by
 kernel_rfl
theorem kp36_0 (x0 x1):keep [0,6] (e168 x0 x1)=(e168 x0 x1):=by kernel_rfl
theorem kp36_1 (x0 x1):keep [0,6] (e167 x0 x1)=[(0,.loc U18 .no x0),(6,.dead)]:=by kernel_rfl
theorem hb36_0 (x0 x1):boolOf? (ent (e167 x0 x1) (.t 17))=some x1:=by kernel_rfl
def g36_8 (k0:V21→V1→Option R) (x0:V21):Option R:=
let v765:Int:=(IntKind.i64.wrap (x0.2.1+(1:Int)))
let v766:Int:=(IntKind.i64.wrap (v765 - (1:Int)))
if 0≤v766∧v766 < (x0.1.length:Int) then
k0 (x0.1,(v765,x0.2.2)) ((x0.1.getD v766.toNat ((0:Int),([],((0:Int),())))).2.1)
else none
theorem t36_8 (x0):exec cl N c36_8 [(0,.loc U18 .no x0),(6,.dead)] K=(g36_8 (fun y0 y1=>exec cl N .ret (e168 y0 y1) K) x0):=by
 kernel_rfl
def g36_9 (S37:V21→Int→V1→Option (Bool)) (k0:V21→V1→Option R) (x0:V21) (x1:Int) (x2:V1):Option R:=
(g36_0 (g36_1 S37 (fun y0 y1=>brB y1 (g36_4 k0 y0 y1) ((g36_8 k0) y0))) x0 x1 x2)
theorem t36_9 (S37) (h37:(ctr37 S37).holds cl) (x0 x1 x2):exec cl N c36_9 (e166 x0 x1 x2) K=(g36_9 S37 (fun y0 y1=>K .ret (e168 y0 y1)) x0 x1 x2):=by
 simp only [c36_9,exec_seq,seqK_normal,seqK_exit,seqK_ret,t36_0,t36_1 S37 h37,c36_5,exec_out,exec_cond',hb36_0,Option.bind_some,brB_true,brB_false,t36_4,exec_ret,exec_skip,kp36_0,kp36_1,t36_8]
 rfl
theorem rk36_0 (y0 y1):retK d36 .ret (e168 y0 y1)=some [.loc U18 .no y0,.v .str y1]:=by kernel_rfl
def g36 (S37:V21→Int→V1→Option (Bool)) (x0:V21) (x1:Int) (x2:V1) (k:V21→V1→Option R):Option R:=
(g36_9 S37 k x0 x1 x2)
theorem gen36 (S37) (h37:(ctr37 S37).holds cl) (x0 x1 x2) (k:List E→Option R):exec cl N c36 (e166 x0 x1 x2) (fun e env=>(retK d36 e env).bind k)=g36 S37 x0 x1 x2 (fun r0 r1=>k [.loc U18 .no r0,.v .str r1]):=by
 simp only [c36,t36_9 S37 h37,rk36_0,Option.bind_some]
 rfl
def ctr36 (S:V21→Int→V1→Option V23):Ctr:={A:=V21×Int×V1×Unit,B:=V21×V1,f:=36,enc:=fun a=> [.loc U18 .no a.1,.v U2 a.2.1,.v .str a.2.2.1],dec:=(decC (decL .no U18) (decC (decV U2) (decC (decV .str) dec0))),S:=fun a=>S a.1 a.2.1 a.2.2.1,ent:=fun b=> [.loc U18 .no b.1,.v .str b.2],ok:=(decL_cons (o:=.no) (T:=U18) (decV_cons (T:=U2) (decV_cons (T:=.str) (fun es b h=>dec0_some h))))}
def S36 (N:Nat) (x0:V21) (x1:Int) (x2:V1):Option V23:=g36 (S37 N) x0 x1 x2 (fun (r0:V21) (r1:V1)=>some (r0,r1))
def g38_0 (k0:V21→Option R) (x0:V21):Option R:=
k0 x0
theorem t38_0 (x0):exec cl N c38_0 [(0,.at U18 x0)] K=(g38_0 (fun y0=>K .normal [(0,.at U18 y0)]) x0):=by
 kernel_rfl
def g38_1 (k0:V21→Bool→Option R) (x0:V21):Option R:=
k0 x0 (decide (x0.2.1 < (x0.1.length:Int)))
theorem t38_1 (x0):exec cl N c38_1 [(0,.at U18 x0)] K=(g38_1 (fun y0 y1=>K .normal (e169 y0 y1)) x0):=by
 kernel_rfl
def g38_2 (k0:Int→Option R) (x0:V21) (x1:Bool):Option R:=
if 0≤x0.2.1∧x0.2.1 < (x0.1.length:Int) then
k0 ((x0.1.getD x0.2.1.toNat ((0:Int),([],((0:Int),())))).2.2.1)
else none
theorem t38_2 (x0 x1):exec cl N c38_2 (e169 x0 x1) K=(g38_2 (fun y0=>K .normal [(2,.v U2 y0)]) x0 x1):=by
 kernel_rfl
theorem kp38_0 (x0):keep [2] [(2,.v U2 x0)]=[(2,.v U2 x0)]:=by kernel_rfl
def g38_3 (k0:V21→Bool→Option R) (x0:V21) (x1:Bool):Option R:=
k0 x0 (decide ((x0.1.length:Int) > (0:Int)))
theorem t38_3 (x0 x1):exec cl N c38_3 (e169 x0 x1) K=(g38_3 (fun y0 y1=>K .normal (e170 y0 y1)) x0 x1):=by
 kernel_rfl
def g38_4 (k0:Int→Option R) (x0:V21) (x1:Bool):Option R:=
let v781:Int:=(IntKind.i64.wrap ((x0.1.length:Int) - (1:Int)))
if 0≤v781∧v781 < (x0.1.length:Int) then
k0 ((x0.1.getD v781.toNat ((0:Int),([],((0:Int),())))).2.2.1)
else none
theorem t38_4 (x0 x1):exec cl N c38_4 (e170 x0 x1) K=(g38_4 (fun y0=>K .normal [(2,.v U2 y0)]) x0 x1):=by
 kernel_rfl
theorem kp38_1 (x0 x1):keep [2] (e170 x0 x1)=[(2,.dead)]:=by kernel_rfl
theorem hb38_0 (x0 x1):boolOf? (ent (e170 x0 x1) (.t 25))=some x1:=by kernel_rfl
theorem kp38_2:keep [2] [(2,.dead)]=[(2,.dead)]:=by kernel_rfl
theorem hb38_1 (x0 x1):boolOf? (ent (e169 x0 x1) (.t 3))=some x1:=by kernel_rfl
def g38_8 (k0:Int→Option R):Option R:=
k0 (1:Int)
theorem t38_8:exec cl N c38_8 [(2,.dead)] K=(g38_8 (fun y0=>K .normal [(2,.v U2 y0)])):=by
 kernel_rfl
def g38_9 (k0:Int→Option R) (x0:V21):Option R:=
(g38_0 (g38_1 (fun y0 y1=>brB y1 (g38_2 k0 y0 y1) (g38_3 (fun y0 y1=>brB y1 (g38_4 k0 y0 y1) (g38_8 k0)) y0 y1))) x0)
theorem t38_9 (x0):exec cl N c38_9 [(0,.at U18 x0)] K=(g38_9 (fun y0=>K .ret [(2,.v U2 y0)]) x0):=by
 simp only [c38_9,exec_seq,seqK_normal,seqK_exit,seqK_ret,t38_0,c38_7,exec_out,exec_block,t38_1,c38_6,exec_cond',hb38_1,Option.bind_some,brB_true,brB_false,t38_2,exec_ret,t38_3,c38_5,hb38_0,t38_4,exec_skip,kp38_0,kp38_1,kp38_2,blockK_normal,blockK_ret,blockK_eq,t38_8]
 rfl
theorem rk38_0 (y0):retK d38 .ret [(2,.v U2 y0)]=some [.v U2 y0]:=by kernel_rfl
def g38 (x0:V21) (k:Int→Option R):Option R:=
(g38_9 k x0)
theorem gen38 (x0) (k:List E→Option R):exec cl N c38 [(0,.at U18 x0)] (fun e env=>(retK d38 e env).bind k)=g38 x0 (fun r0=>k [.v U2 r0]):=by
 simp only [c38,t38_9,rk38_0,Option.bind_some]
 rfl
def ctr38 (S:V21→Option (Int)):Ctr:={A:=V21×Unit,B:=Int,f:=38,enc:=fun a=> [.at U18 a.1],dec:=(decC (decA U18) dec0),S:=fun a=>S a.1,ent:=fun b=> [.v U2 b],ok:=(decA_cons (T:=U18) (fun es b h=>dec0_some h))}
def S38 (N:Nat) (x0:V21):Option (Int):=g38 x0 (fun (r0:Int)=>some (r0))
def g63_2 (S36:V21→Int→V1→Option V23) (k0:V21→V1→Option R) (x0:V21):Option R:=
(S36 x0 (3:Int) ([]:List UInt8)).bind fun r792=>
k0 r792.1 r792.2
theorem t63_2 (S36) (h36:(ctr36 S36).holds cl) (x0):exec cl N c63_2 [(0,.loc U18 .no x0)] K=(g63_2 S36 (fun y0 y1=>exec cl N .ret (e171 y0 y1) K) x0):=by
 rw [←put_eq h36]
 kernel_rfl
def g63_2b (S36:V21→Int→V1→Option V23) (k0:V21→V1→Option R) (x0:V21):Option R:=
(g63_2 S36 k0 x0)
theorem t63_2b (S36) (h36:(ctr36 S36).holds cl) (x0):exec cl N c63_2 [(0,.loc U18 .no x0)] K=(g63_2b S36 (fun y0 y1=>K .ret (e171 y0 y1)) x0):=by
 simp only [exec_seq,seqK_normal,seqK_exit,seqK_ret,t63_2 S36 h36,exec_ret]
 rfl
theorem rk63_0 (y0 y1):retK d63 .ret (e171 y0 y1)=some [.loc U18 .no y0,.v .str y1]:=by kernel_rfl
def g63 (S36:V21→Int→V1→Option V23) (x0:V21) (k:V21→V1→Option R):Option R:=
(g63_2b S36 k x0)
theorem gen63 (S36) (h36:(ctr36 S36).holds cl) (x0) (k:List E→Option R):exec cl N c63 [(0,.loc U18 .no x0)] (fun e env=>(retK d63 e env).bind k)=g63 S36 x0 (fun r0 r1=>k [.loc U18 .no r0,.v .str r1]):=by
 simp only [c63,t63_2b S36 h36,rk63_0,Option.bind_some]
 rfl
def ctr63 (S:V21→Option V23):Ctr:={A:=V21×Unit,B:=V21×V1,f:=63,enc:=fun a=> [.loc U18 .no a.1],dec:=(decC (decL .no U18) dec0),S:=fun a=>S a.1,ent:=fun b=> [.loc U18 .no b.1,.v .str b.2],ok:=(decL_cons (o:=.no) (T:=U18) (fun es b h=>dec0_some h))}
def S63 (N:Nat) (x0:V21):Option V23:=g63 (S36 N) x0 (fun (r0:V21) (r1:V1)=>some (r0,r1))
def g39_22 (S36:V21→Int→V1→Option V23) (S62:V1→Option V3) (k0:V21→V15→V15→V1→Option R) (x0:V21):Option R:=
(S36 x0 (1:Int) ([]:List UInt8)).bind fun r801=>
(S36 r801.1 (2:Int) ([]:List UInt8)).bind fun r802=>
(S62 r802.2).bind fun r803=>
k0 r802.1 ((0:Int),((0:Int),([],()))) ((0:Int),(r803.1,([],()))) r801.2
theorem t39_22 (S36) (S62) (h36:(ctr36 S36).holds cl) (h62:(ctr62 S62).holds cl) (x0):exec cl N c39_22 [(0,.loc U18 .no x0)] K=(g39_22 S36 S62 (fun y0 y1 y2 y3=>exec cl N (.seq c39_18 c39_21) (e172 y0 y1 y2 y3) K) x0):=by
 rw [←put_eq h36]
 rw [←put_eq h62]
 kernel_rfl
def g39_4 (S37:V21→Int→V1→Option (Bool)) (k0:V21→V15→V15→V1→Bool→Option R) (x0:V21) (x1 x2:V15) (x3:V1):Option R:=
(S37 x0 (1:Int) ([105,110]:List UInt8)).bind fun r804=>
brB r804 (k0 x0 x1 x2 x3 (!x0.2.2.1)) (k0 x0 x1 x2 x3 false)
theorem t39_4 (S37) (h37:(ctr37 S37).holds cl) (x0 x1 x2 x3):exec cl N c39_4 (e172 x0 x1 x2 x3) K=(g39_4 S37 (fun y0 y1 y2 y3 y4=>K .normal (e173 y0 y1 y2 y3 y4)) x0 x1 x2 x3):=by
 rw [←put_eq h37]
 kernel_rfl
def g39_16 (S63:V21→Option V23) (k0:V21→V15→V15→V1→Option R) (x0:V21) (x1 x2:V15) (x3:V1) (x4:Bool):Option R:=
(S63 (x0.1,((IntKind.i64.wrap (x0.2.1+(1:Int))),x0.2.2))).bind fun r807=>
if x2.2.2.1.length+[r807.2].length≤8796093022208 then
k0 r807.1 x1 (x2.1,(x2.2.1,((x2.2.2.1++[r807.2]),x2.2.2.2))) x3
else none
theorem t39_16 (S63) (h63:(ctr63 S63).holds cl) (x0 x1 x2 x3 x4):exec cl N c39_16 (e173 x0 x1 x2 x3 x4) K=(g39_16 S63 (fun y0 y1 y2 y3=>exec cl N c39_15 (e172 y0 y1 y2 y3) K) x0 x1 x2 x3 x4):=by
 rw [←put_eq h63]
 kernel_rfl
theorem kp39_0 (x0 x1 x2 x3):keep [0,2,4,5] (e172 x0 x1 x2 x3)=(e172 x0 x1 x2 x3):=by kernel_rfl
def g39_7 (S37:V21→Int→V1→Option (Bool)) (k0:V21→V15→V15→V1→Bool→Option R) (x0:V21) (x1 x2:V15) (x3:V1):Option R:=
(S37 x0 (4:Int) ([44]:List UInt8)).bind fun r808=>
brB r808 (k0 x0 x1 x2 x3 (!x0.2.2.1)) (k0 x0 x1 x2 x3 false)
theorem t39_7 (S37) (h37:(ctr37 S37).holds cl) (x0 x1 x2 x3):exec cl N c39_7 (e172 x0 x1 x2 x3) K=(g39_7 S37 (fun y0 y1 y2 y3 y4=>K .normal (e174 y0 y1 y2 y3 y4)) x0 x1 x2 x3):=by
 rw [←put_eq h37]
 kernel_rfl
theorem kp39_1 (x0 x1 x2 x3 x4):keep [0,2,4,5] (e174 x0 x1 x2 x3 x4)=(e172 x0 x1 x2 x3):=by kernel_rfl
theorem hb39_0 (x0 x1 x2 x3 x4):boolOf? (ent (e174 x0 x1 x2 x3 x4) (.t 46))=some x4:=by kernel_rfl
def g39_11 (S63:V21→Option V23) (k0:V21→V15→V15→V1→Option R) (x0:V21) (x1 x2:V15) (x3:V1):Option R:=
(S63 (x0.1,((IntKind.i64.wrap (x0.2.1+(1:Int))),x0.2.2))).bind fun r811=>
if x2.2.2.1.length+[r811.2].length≤8796093022208 then
k0 r811.1 x1 (x2.1,(x2.2.1,((x2.2.2.1++[r811.2]),x2.2.2.2))) x3
else none
theorem t39_11 (S63) (h63:(ctr63 S63).holds cl) (x0 x1 x2 x3):exec cl N c39_11 (e172 x0 x1 x2 x3) K=(g39_11 S63 (fun y0 y1 y2 y3=>K .normal (e172 y0 y1 y2 y3)) x0 x1 x2 x3):=by
 rw [←put_eq h63]
 kernel_rfl
def g39_13 (S37:V21→Int→V1→Option (Bool)) (S63:V21→Option V23) (k0:V21→V15→V15→V1→Option R) (k1:V21→V15→V15→V1→Option R) (x0:V21) (x1 x2:V15) (x3:V1):Option R:=
(g39_7 S37 (fun y0 y1 y2 y3 y4=>brB y4 ((g39_11 S63 k0) y0 y1 y2 y3) (k1 y0 y1 y2 y3)) x0 x1 x2 x3)
theorem t39_13 (S37) (S63) (h37:(ctr37 S37).holds cl) (h63:(ctr63 S63).holds cl) (x0 x1 x2 x3):exec cl N c39_13 (e172 x0 x1 x2 x3) K=(g39_13 S37 S63 (fun y0 y1 y2 y3=>K .normal (e172 y0 y1 y2 y3)) (fun y0 y1 y2 y3=>K (.exit 0) (e172 y0 y1 y2 y3)) x0 x1 x2 x3):=by
 simp only [c39_13,exec_seq,seqK_normal,seqK_exit,seqK_ret,t39_7 S37 h37,c39_8,exec_out,exec_cond',hb39_0,Option.bind_some,brB_true,brB_false,exec_skip,exec_exit,kp39_1,c39_12,exec_block,t39_11 S63 h63,blockK_normal,blockK_ret,blockK_eq,kp39_0]
 rfl
def l39_14 {R:Type} (S37:V21→Int→V1→Option (Bool)) (S63:V21→Option V23) (k0:V21→V15→V15→V1→Option R):Nat→V21→V15→V15→V1→Option R
 | 0,_,_,_,_=>none
 | m+1,x0,x1,x2,x3=>(g39_13 S37 S63 (l39_14 S37 S63 k0 m) k0 x0 x1 x2 x3)
theorem lt39_14 (S37) (S63) (h37:(ctr37 S37).holds cl) (h63:(ctr63 S63).holds cl):∀ (m) (x0 x1 x2 x3),iter [0,2,4,5] (fun env K=>exec cl N c39_13 env K) K m (e172 x0 x1 x2 x3)=l39_14 S37 S63 (fun y0 y1 y2 y3=>K (.exit 0) (e172 y0 y1 y2 y3)) m x0 x1 x2 x3:=by
 intro m
 induction m with
 | zero=>intros; rfl
 | succ m ih=>
   intro x0 x1 x2 x3
   simp only [iter_succ,t39_13 S37 S63 h37 h63,loopK_normal,loopK_exit,loopK_ret,kp39_0,ih]
   rfl
def g39_14 (N:Nat) (S37:V21→Int→V1→Option (Bool)) (S63:V21→Option V23) (k0:V21→V15→V15→V1→Option R) (x0:V21) (x1 x2:V15) (x3:V1):Option R:=
l39_14 S37 S63 k0 N x0 x1 x2 x3
theorem t39_14 (S37) (S63) (h37:(ctr37 S37).holds cl) (h63:(ctr63 S63).holds cl) (x0 x1 x2 x3):exec cl N c39_14 (e172 x0 x1 x2 x3) K=(g39_14 N S37 S63 (fun y0 y1 y2 y3=>K (.exit 0) (e172 y0 y1 y2 y3)) x0 x1 x2 x3):=by
 simp only [c39_14,exec_out,exec_loop,kp39_0,lt39_14 S37 S63 h37 h63,kp39_0]
 rfl
theorem kp39_2 (x0 x1 x2 x3 x4):keep [0,2,4,5] (e173 x0 x1 x2 x3 x4)=(e172 x0 x1 x2 x3):=by kernel_rfl
theorem hb39_1 (x0 x1 x2 x3 x4):boolOf? (ent (e173 x0 x1 x2 x3 x4) (.t 23))=some x4:=by kernel_rfl
def g39_18 (N:Nat) (S37:V21→Int→V1→Option (Bool)) (S63:V21→Option V23) (k0:V21→V15→V15→V1→Option R) (x0:V21) (x1 x2:V15) (x3:V1):Option R:=
(g39_4 S37 (fun y0 y1 y2 y3 y4=>brB y4 (g39_16 S63 (g39_14 N S37 S63 k0) y0 y1 y2 y3 y4) (k0 y0 y1 y2 y3)) x0 x1 x2 x3)
theorem t39_18 (S37) (S63) (h37:(ctr37 S37).holds cl) (h63:(ctr63 S63).holds cl) (x0 x1 x2 x3):exec cl N c39_18 (e172 x0 x1 x2 x3) K=(g39_18 N S37 S63 (fun y0 y1 y2 y3=>K .normal (e172 y0 y1 y2 y3)) x0 x1 x2 x3):=by
 simp only [c39_18,exec_seq,seqK_normal,seqK_exit,seqK_ret,t39_4 S37 h37,c39_17,exec_out,exec_cond',hb39_1,Option.bind_some,brB_true,brB_false,t39_16 S63 h63,c39_15,exec_block,t39_14 S37 S63 h37 h63,blockK_normal,blockK_ret,blockK_eq,kp39_0,exec_skip,kp39_2]
 rfl
def g39_21 (S36:V21→Int→V1→Option V23) (k0:V21→V15→V1→Option R) (x0:V21) (x1 x2:V15) (x3:V1):Option R:=
(S36 x0 (4:Int) ([59]:List UInt8)).bind fun r813=>
k0 r813.1 x2 x3
theorem t39_21 (S36) (h36:(ctr36 S36).holds cl) (x0 x1 x2 x3):exec cl N c39_21 (e172 x0 x1 x2 x3) K=(g39_21 S36 (fun y0 y1 y2=>exec cl N .ret (e175 y0 y1 y2) K) x0 x1 x2 x3):=by
 rw [←put_eq h36]
 kernel_rfl
def g39_22b (N:Nat) (S36:V21→Int→V1→Option V23) (S37:V21→Int→V1→Option (Bool)) (S62:V1→Option V3) (S63:V21→Option V23) (k0:V21→V15→V1→Option R) (x0:V21):Option R:=
(g39_22 S36 S62 (g39_18 N S37 S63 (g39_21 S36 k0)) x0)
theorem t39_22b (S36) (S37) (S62) (S63) (h36:(ctr36 S36).holds cl) (h37:(ctr37 S37).holds cl) (h62:(ctr62 S62).holds cl) (h63:(ctr63 S63).holds cl) (x0):exec cl N c39_22 [(0,.loc U18 .no x0)] K=(g39_22b N S36 S37 S62 S63 (fun y0 y1 y2=>K .ret (e175 y0 y1 y2)) x0):=by
 simp only [exec_seq,seqK_normal,seqK_exit,seqK_ret,t39_22 S36 S62 h36 h62,t39_18 S37 S63 h37 h63,t39_21 S36 h36,exec_ret]
 rfl
theorem rk39_0 (y0 y1 y2):retK d39 .ret (e175 y0 y1 y2)=some [.loc U18 .no y0,.v U13 y1,.v .str y2]:=by kernel_rfl
def g39 (N:Nat) (S36:V21→Int→V1→Option V23) (S37:V21→Int→V1→Option (Bool)) (S62:V1→Option V3) (S63:V21→Option V23) (x0:V21) (k:V21→V15→V1→Option R):Option R:=
(g39_22b N S36 S37 S62 S63 k x0)
theorem gen39 (S36) (S37) (S62) (S63) (h36:(ctr36 S36).holds cl) (h37:(ctr37 S37).holds cl) (h62:(ctr62 S62).holds cl) (h63:(ctr63 S63).holds cl) (x0) (k:List E→Option R):exec cl N c39 [(0,.loc U18 .no x0)] (fun e env=>(retK d39 e env).bind k)=g39 N S36 S37 S62 S63 x0 (fun r0 r1 r2=>k [.loc U18 .no r0,.v U13 r1,.v .str r2]):=by
 simp only [c39,t39_22b S36 S37 S62 S63 h36 h37 h62 h63,rk39_0,Option.bind_some]
 rfl
def ctr39 (S:V21→Option V25):Ctr:={A:=V21×Unit,B:=V21×V15×V1,f:=39,enc:=fun a=> [.loc U18 .no a.1],dec:=(decC (decL .no U18) dec0),S:=fun a=>S a.1,ent:=fun b=> [.loc U18 .no b.1,.v U13 b.2.1,.v .str b.2.2],ok:=(decL_cons (o:=.no) (T:=U18) (fun es b h=>dec0_some h))}
def S39 (N:Nat) (x0:V21):Option V25:=g39 N (S36 N) (S37 N) (S62 N) (S63 N) x0 (fun (r0:V21) (r1:V15) (r2:V1)=>some (r0,r1,r2))
def g82_2 (k0:V6→Option R):Option R:=
k0 [([]:List UInt8),([109,117,116,101]:List UInt8),([110,101,120,116]:List UInt8),([98,114,101,118,105,115]:List UInt8),([105,110,100,105,102,102,101,114,101,110,116]:List UInt8),([108,101,110,103,116,104,101,110]:List UInt8),([115,104,111,114,116,101,110]:List UInt8),([115,121,110,105,122,101,115,105,115]:List UInt8),([101,108,105,115,105,111,110]:List UInt8),([101,99,116,104,108,105,112,115,105,115]:List UInt8),([112,114,111,100,101,108,105,115,105,111,110]:List UInt8),([104,105,97,116,117,115]:List UInt8),([99,111,114,114,101,112,116,105,111,110]:List UInt8)]
theorem t82_2:exec cl N c82_2 [] K=(g82_2 (fun y0=>exec cl N .ret [(0,.own true 9 .str .no y0)] K)):=by
 kernel_rfl
def g82_2b (k0:V6→Option R):Option R:=
(g82_2 k0)
theorem t82_2b:exec cl N c82_2 [] K=(g82_2b (fun y0=>K .ret [(0,.own true 9 .str .no y0)])):=by
 simp only [exec_seq,seqK_normal,seqK_exit,seqK_ret,t82_2,exec_ret]
 rfl
theorem rk82_0 (y0):retK d82 .ret [(0,.own true 9 .str .no y0)]=some [.own true 9 .str .no y0]:=by kernel_rfl
def g82 (k:V6→Option R):Option R:=
(g82_2b k)
theorem gen82 (k:List E→Option R):exec cl N c82 [] (fun e env=>(retK d82 e env).bind k)=g82 (fun r0=>k [.own true 9 .str .no r0]):=by
 simp only [c82,t82_2b,rk82_0,Option.bind_some]
 rfl
def ctr82 (S:Option V8):Ctr:={A:=Unit,B:=V6,f:=82,enc:=fun a=> [],dec:=dec0,S:=fun a=>S,ent:=fun b=> [.own true 9 .str .no b],ok:=(fun es b h=>dec0_some h)}
def S82 (N:Nat):Option V8:=g82 (fun (r0:V6)=>some (r0))
def g81_0 (k0:V6→Int→Option R) (x0:V6) (x1:Int):Option R:=
k0 x0 x1
theorem t81_0 (x0 x1):exec cl N c81_0 (e0 x0 x1) K=(g81_0 (fun y0 y1=>K .normal (e0 y0 y1)) x0 x1):=by
 kernel_rfl
def g81_1 (k0:V6→Int→Bool→Option R) (x0:V6) (x1:Int):Option R:=
brB (decide (x1 < (0:Int))) (k0 x0 x1 true) (k0 x0 x1 (decide (x1≥(x0.length:Int))))
theorem t81_1 (x0 x1):exec cl N c81_1 (e0 x0 x1) K=(g81_1 (fun y0 y1 y2=>K .normal (e176 y0 y1 y2)) x0 x1):=by
 kernel_rfl
def g81_2 (k0:V1→Option R) (x0:V6) (x1:Int) (x2:Bool):Option R:=
k0 ([]:List UInt8)
theorem t81_2 (x0 x1 x2):exec cl N c81_2 (e176 x0 x1 x2) K=(g81_2 (fun y0=>K .normal [(4,.v .str y0)]) x0 x1 x2):=by
 kernel_rfl
theorem kp81_0 (x0):keep [0,1,4] [(4,.v .str x0)]=(e177 x0):=by kernel_rfl
theorem kp81_1 (x0 x1 x2):keep [0,1,4] (e176 x0 x1 x2)=[(0,.v U0 x0),(1,.v U2 x1),(4,.dead)]:=by kernel_rfl
theorem hb81_0 (x0 x1 x2):boolOf? (ent (e176 x0 x1 x2) (.t 12))=some x2:=by kernel_rfl
def g81_4 (k0:V1→Option R) (x0:V6) (x1:Int):Option R:=
if 0≤x1∧x1 < (x0.length:Int) then
k0 (x0.getD x1.toNat [])
else none
theorem t81_4 (x0 x1):exec cl N c81_4 [(0,.v U0 x0),(1,.v U2 x1),(4,.dead)] K=(g81_4 (fun y0=>K .normal [(4,.v .str y0)]) x0 x1):=by
 kernel_rfl
def g81_5 (k0:V1→Option R) (k1:V1→Option R) (x0:V6) (x1:Int):Option R:=
(g81_0 (g81_1 (fun y0 y1 y2=>brB y2 (g81_2 k0 y0 y1 y2) ((g81_4 k1) y0 y1))) x0 x1)
theorem t81_5 (x0 x1):exec cl N c81_5 (e0 x0 x1) K=(g81_5 (fun y0=>K .ret (e177 y0)) (fun y0=>K .ret [(4,.v .str y0)]) x0 x1):=by
 simp only [c81_5,exec_seq,seqK_normal,seqK_exit,seqK_ret,t81_0,t81_1,c81_3,exec_out,exec_cond',hb81_0,Option.bind_some,brB_true,brB_false,t81_2,exec_ret,exec_skip,kp81_0,kp81_1,t81_4]
 rfl
theorem rk81_0 (y0):retK d81 .ret (e177 y0)=some [.v .str y0]:=by kernel_rfl
theorem rk81_1 (y0):retK d81 .ret [(4,.v .str y0)]=some [.v .str y0]:=by kernel_rfl
def g81 (x0:V6) (x1:Int) (k:V1→Option R):Option R:=
(g81_5 k k x0 x1)
theorem gen81 (x0 x1) (k:List E→Option R):exec cl N c81 (e0 x0 x1) (fun e env=>(retK d81 e env).bind k)=g81 x0 x1 (fun r0=>k [.v .str r0]):=by
 simp only [c81,t81_5,rk81_0,rk81_1,Option.bind_some]
 rfl
def ctr81 (S:V6→Int→Option V5):Ctr:=cv2 81 U0 U2 S fun b=> [.v .str b]
def S81 (N:Nat) (x0:V6) (x1:Int):Option V5:=g81 x0 x1 (fun (r0:V1)=>some (r0))
def g64_2 (S81:V6→Int→Option V5) (S82:Option V8) (k0:V1→Option R) (x0:Int):Option R:=
(S82).bind fun r830=>
(S81 r830 x0).bind fun r831=>
k0 r831
theorem t64_2 (S81) (S82) (h81:(ctr81 S81).holds cl) (h82:(ctr82 S82).holds cl) (x0):exec cl N c64_2 [(0,.v U2 x0)] K=(g64_2 S81 S82 (fun y0=>exec cl N .ret [(2,.v .str y0)] K) x0):=by
 rw [←put_eq h81]
 rw [←put_eq h82]
 kernel_rfl
def g64_2b (S81:V6→Int→Option V5) (S82:Option V8) (k0:V1→Option R) (x0:Int):Option R:=
(g64_2 S81 S82 k0 x0)
theorem t64_2b (S81) (S82) (h81:(ctr81 S81).holds cl) (h82:(ctr82 S82).holds cl) (x0):exec cl N c64_2 [(0,.v U2 x0)] K=(g64_2b S81 S82 (fun y0=>K .ret [(2,.v .str y0)]) x0):=by
 simp only [exec_seq,seqK_normal,seqK_exit,seqK_ret,t64_2 S81 S82 h81 h82,exec_ret]
 rfl
theorem rk64_0 (y0):retK d64 .ret [(2,.v .str y0)]=some [.v .str y0]:=by kernel_rfl
def g64 (S81:V6→Int→Option V5) (S82:Option V8) (x0:Int) (k:V1→Option R):Option R:=
(g64_2b S81 S82 k x0)
theorem gen64 (S81) (S82) (h81:(ctr81 S81).holds cl) (h82:(ctr82 S82).holds cl) (x0) (k:List E→Option R):exec cl N c64 [(0,.v U2 x0)] (fun e env=>(retK d64 e env).bind k)=g64 S81 S82 x0 (fun r0=>k [.v .str r0]):=by
 simp only [c64,t64_2b S81 S82 h81 h82,rk64_0,Option.bind_some]
 rfl
def ctr64 (S:Int→Option V5):Ctr:=cv1 64 U2 S fun b=> [.v .str b]
def S64 (N:Nat) (x0:Int):Option V5:=g64 (S81 N) (S82 N) x0 (fun (r0:V1)=>some (r0))
def g40_0 (k0:V1→Option R) (x0:V1):Option R:=
k0 x0
theorem t40_0 (x0):exec cl N c40_0 [(0,.v .str x0)] K=(g40_0 (fun y0=>K .normal [(0,.v .str y0)]) x0):=by
 kernel_rfl
def g40_1 (k0:V1→Int→Option R) (x0:V1):Option R:=
k0 x0 (1:Int)
theorem t40_1 (x0):exec cl N c40_1 [(0,.v .str x0)] K=(g40_1 (fun y0 y1=>K .normal (e9 y0 y1)) x0):=by
 kernel_rfl
theorem kp40_0 (x0 x1):keep [0,3] (e9 x0 x1)=(e9 x0 x1):=by kernel_rfl
def g40_2 (k0:V1→Int→Bool→Option R) (x0:V1) (x1:Int):Option R:=
k0 x0 x1 (decide (x1≤(12:Int)))
theorem t40_2 (x0 x1):exec cl N c40_2 (e9 x0 x1) K=(g40_2 (fun y0 y1 y2=>K .normal (e178 y0 y1 y2)) x0 x1):=by
 kernel_rfl
theorem kp40_1 (x0 x1 x2):keep [0,3] (e178 x0 x1 x2)=(e9 x0 x1):=by kernel_rfl
theorem hb40_0 (x0 x1 x2):boolOf? (ent (e178 x0 x1 x2) (.t 5))=some x2:=by kernel_rfl
def g40_4 (S64:Int→Option V5) (k0:V1→Int→Bool→Option R) (x0:V1) (x1:Int):Option R:=
(S64 x1).bind fun r835=>
k0 x0 x1 (r835==x0)
theorem t40_4 (S64) (h64:(ctr64 S64).holds cl) (x0 x1):exec cl N c40_4 (e9 x0 x1) K=(g40_4 S64 (fun y0 y1 y2=>K .normal (e179 y0 y1 y2)) x0 x1):=by
 rw [←put_eq h64]
 kernel_rfl
def g40_5 (k0:Int→Option R) (x0:V1) (x1:Int) (x2:Bool):Option R:=
k0 x1
theorem t40_5 (x0 x1 x2):exec cl N c40_5 (e179 x0 x1 x2) K=(g40_5 (fun y0=>K .normal [(2,.v U2 y0)]) x0 x1 x2):=by
 kernel_rfl
theorem kp40_2 (x0):keep [0,2,3] [(2,.v U2 x0)]=(e26 x0):=by kernel_rfl
theorem kp40_3 (x0 x1 x2):keep [0,2,3] (e179 x0 x1 x2)=(e27 x0 x1):=by kernel_rfl
theorem hb40_1 (x0 x1 x2):boolOf? (ent (e179 x0 x1 x2) (.t 11))=some x2:=by kernel_rfl
theorem kp40_4 (x0):keep [0,2,3] (e26 x0)=(e26 x0):=by kernel_rfl
theorem kp40_5 (x0 x1):keep [0,2,3] (e27 x0 x1)=(e27 x0 x1):=by kernel_rfl
def g40_8 (k0:V1→Int→Option R) (x0:V1) (x1:Int):Option R:=
k0 x0 (IntKind.i64.wrap (x1+(1:Int)))
theorem t40_8 (x0 x1):exec cl N c40_8 (e27 x0 x1) K=(g40_8 (fun y0 y1=>K .normal (e9 y0 y1)) x0 x1):=by
 kernel_rfl
def g40_9 (S64:Int→Option V5) (k0:Int→Option R) (k1:V1→Int→Option R) (k2:V1→Int→Option R) (x0:V1) (x1:Int):Option R:=
(g40_2 (fun y0 y1 y2=>brB y2 ((g40_4 S64 (fun y0 y1 y2=>brB y2 (g40_5 k0 y0 y1 y2) (((g40_8 k1)) y0 y1))) y0 y1) (k2 y0 y1)) x0 x1)
theorem t40_9 (S64) (h64:(ctr64 S64).holds cl) (x0 x1):exec cl N c40_9 (e9 x0 x1) K=(g40_9 S64 (fun y0=>K .ret (e26 y0)) (fun y0 y1=>K .normal (e9 y0 y1)) (fun y0 y1=>K (.exit 0) (e9 y0 y1)) x0 x1):=by
 simp only [c40_9,exec_seq,seqK_normal,seqK_exit,seqK_ret,t40_2,c40_3,exec_out,exec_cond',hb40_0,Option.bind_some,brB_true,brB_false,exec_skip,exec_exit,kp40_1,c40_7,exec_block,t40_4 S64 h64,c40_6,hb40_1,t40_5,exec_ret,kp40_2,kp40_3,blockK_normal,blockK_ret,blockK_eq,kp40_4,kp40_5,t40_8]
 rfl
def l40_10 {R:Type} (S64:Int→Option V5) (k0:Int→Option R) (k1:V1→Int→Option R):Nat→V1→Int→Option R
 | 0,_,_=>none
 | m+1,x0,x1=>(g40_9 S64 k0 (l40_10 S64 k0 k1 m) k1 x0 x1)
theorem lt40_10 (S64) (h64:(ctr64 S64).holds cl):∀ (m) (x0 x1),iter [0,3] (fun env K=>exec cl N c40_9 env K) K m (e9 x0 x1)=l40_10 S64 (fun y0=>K .ret (e26 y0)) (fun y0 y1=>K (.exit 0) (e9 y0 y1)) m x0 x1:=by
 intro m
 induction m with
 | zero=>intros; rfl
 | succ m ih=>
   intro x0 x1
   simp only [iter_succ,t40_9 S64 h64,loopK_normal,loopK_exit,loopK_ret,kp40_0,ih]
   rfl
theorem kp40_6 (x0):keep [2] (e26 x0)=[(2,.v U2 x0)]:=by kernel_rfl
theorem kp40_7 (x0 x1):keep [2] (e9 x0 x1)=[(2,.dead)]:=by kernel_rfl
def g40_10 (N:Nat) (S64:Int→Option V5) (k0:Int→Option R) (k1:Option R) (x0:V1) (x1:Int):Option R:=
l40_10 S64 k0 (fun y0 y1=>k1) N x0 x1
theorem t40_10 (S64) (h64:(ctr64 S64).holds cl) (x0 x1):exec cl N c40_10 (e9 x0 x1) K=(g40_10 N S64 (fun y0=>K .ret [(2,.v U2 y0)]) (K (.exit 0) [(2,.dead)]) x0 x1):=by
 simp only [c40_10,exec_out,exec_loop,kp40_0,lt40_10 S64 h64,kp40_6,kp40_7]
 rfl
theorem kp40_8 (x0):keep [2] [(2,.v U2 x0)]=[(2,.v U2 x0)]:=by kernel_rfl
theorem kp40_9:keep [2] [(2,.dead)]=[(2,.dead)]:=by kernel_rfl
def g40_12 (k0:Int→Option R):Option R:=
k0 (0:Int)
theorem t40_12:exec cl N c40_12 [(2,.dead)] K=(g40_12 (fun y0=>K .normal [(2,.v U2 y0)])):=by
 kernel_rfl
def g40_13 (N:Nat) (S64:Int→Option V5) (k0:Int→Option R) (x0:V1):Option R:=
(g40_0 (g40_1 (g40_10 N S64 k0 (g40_12 k0))) x0)
theorem t40_13 (S64) (h64:(ctr64 S64).holds cl) (x0):exec cl N c40_13 [(0,.v .str x0)] K=(g40_13 N S64 (fun y0=>K .ret [(2,.v U2 y0)]) x0):=by
 simp only [c40_13,exec_seq,seqK_normal,seqK_exit,seqK_ret,t40_0,t40_1,c40_11,exec_out,exec_block,t40_10 S64 h64,blockK_normal,blockK_ret,blockK_eq,kp40_8,kp40_9,t40_12,exec_ret]
 rfl
theorem rk40_0 (y0):retK d40 .ret [(2,.v U2 y0)]=some [.v U2 y0]:=by kernel_rfl
def g40 (N:Nat) (S64:Int→Option V5) (x0:V1) (k:Int→Option R):Option R:=
(g40_13 N S64 k x0)
theorem gen40 (S64) (h64:(ctr64 S64).holds cl) (x0) (k:List E→Option R):exec cl N c40 [(0,.v .str x0)] (fun e env=>(retK d40 e env).bind k)=g40 N S64 x0 (fun r0=>k [.v U2 r0]):=by
 simp only [c40,t40_13 S64 h64,rk40_0,Option.bind_some]
 rfl
def ctr40 (S:V1→Option (Int)):Ctr:=cv1 40 .str S fun b=> [.v U2 b]
def S40 (N:Nat) (x0:V1):Option (Int):=g40 N (S64 N) x0 (fun (r0:Int)=>some (r0))
def g42_2 (S65:V1→Option (Int)) (k0:Bool→Option R) (x0:V1):Option R:=
brB (x0 != ([]:List UInt8)) (brB (decide ((x0.length:Int)≤(20:Int))) ((S65 x0).bind fun r850=>
k0 (r850==(x0.length:Int))) (k0 false)) (k0 false)
theorem t42_2 (S65) (h65:(ctr65 S65).holds cl) (x0):exec cl N c42_2 [(0,.v .str x0)] K=(g42_2 S65 (fun y0=>exec cl N .ret [(2,.v .bool y0)] K) x0):=by
 rw [←put_eq h65]
 kernel_rfl
def g42_2b (S65:V1→Option (Int)) (k0:Bool→Option R) (x0:V1):Option R:=
(g42_2 S65 k0 x0)
theorem t42_2b (S65) (h65:(ctr65 S65).holds cl) (x0):exec cl N c42_2 [(0,.v .str x0)] K=(g42_2b S65 (fun y0=>K .ret [(2,.v .bool y0)]) x0):=by
 simp only [exec_seq,seqK_normal,seqK_exit,seqK_ret,t42_2 S65 h65,exec_ret]
 rfl
theorem rk42_0 (y0):retK d42 .ret [(2,.v .bool y0)]=some [.v .bool y0]:=by kernel_rfl
def g42 (S65:V1→Option (Int)) (x0:V1) (k:Bool→Option R):Option R:=
(g42_2b S65 k x0)
theorem gen42 (S65) (h65:(ctr65 S65).holds cl) (x0) (k:List E→Option R):exec cl N c42 [(0,.v .str x0)] (fun e env=>(retK d42 e env).bind k)=g42 S65 x0 (fun r0=>k [.v .bool r0]):=by
 simp only [c42,t42_2b S65 h65,rk42_0,Option.bind_some]
 rfl
def ctr42 (S:V1→Option (Bool)):Ctr:=cv1 42 .str S fun b=> [.v .bool b]
def S42 (N:Nat) (x0:V1):Option (Bool):=g42 (S65 N) x0 (fun (r0:Bool)=>some (r0))
def g89_2 (S80:V1→Int→Option (Int)) (k0:Bool→Option R) (x0:Int):Option R:=
brB (decide (x0≥(32:Int))) (brB (decide (x0≤(126:Int))) ((S80 ([32,46,44,59,58,33,63,34,45,91,93,60,62,123,125]:List UInt8) x0).bind fun r870=>
k0 (decide (r870 < (0:Int)))) (k0 false)) (k0 false)
theorem t89_2 (S80) (h80:(ctr80 S80).holds cl) (x0):exec cl N c89_2 [(0,.v U1 x0)] K=(g89_2 S80 (fun y0=>exec cl N .ret [(2,.v .bool y0)] K) x0):=by
 rw [←put_eq h80]
 kernel_rfl
def g89_2b (S80:V1→Int→Option (Int)) (k0:Bool→Option R) (x0:Int):Option R:=
(g89_2 S80 k0 x0)
theorem t89_2b (S80) (h80:(ctr80 S80).holds cl) (x0):exec cl N c89_2 [(0,.v U1 x0)] K=(g89_2b S80 (fun y0=>K .ret [(2,.v .bool y0)]) x0):=by
 simp only [exec_seq,seqK_normal,seqK_exit,seqK_ret,t89_2 S80 h80,exec_ret]
 rfl
theorem rk89_0 (y0):retK d89 .ret [(2,.v .bool y0)]=some [.v .bool y0]:=by kernel_rfl
def g89 (S80:V1→Int→Option (Int)) (x0:Int) (k:Bool→Option R):Option R:=
(g89_2b S80 k x0)
theorem gen89 (S80) (h80:(ctr80 S80).holds cl) (x0) (k:List E→Option R):exec cl N c89 [(0,.v U1 x0)] (fun e env=>(retK d89 e env).bind k)=g89 S80 x0 (fun r0=>k [.v .bool r0]):=by
 simp only [c89,t89_2b S80 h80,rk89_0,Option.bind_some]
 rfl
def ctr89 (S:Int→Option (Bool)):Ctr:=cv1 89 U1 S fun b=> [.v .bool b]
def S89 (N:Nat) (x0:Int):Option (Bool):=g89 (S80 N) x0 (fun (r0:Bool)=>some (r0))
def g88_2 (S89:Int→Option (Bool)) (k0:Bool→Option R) (x0:Int):Option R:=
(S89 x0).bind fun r873=>
k0 (!r873)
theorem t88_2 (S89) (h89:(ctr89 S89).holds cl) (x0):exec cl N c88_2 [(0,.v U1 x0)] K=(g88_2 S89 (fun y0=>exec cl N .ret [(2,.v .bool y0)] K) x0):=by
 rw [←put_eq h89]
 kernel_rfl
def g88_2b (S89:Int→Option (Bool)) (k0:Bool→Option R) (x0:Int):Option R:=
(g88_2 S89 k0 x0)
theorem t88_2b (S89) (h89:(ctr89 S89).holds cl) (x0):exec cl N c88_2 [(0,.v U1 x0)] K=(g88_2b S89 (fun y0=>K .ret [(2,.v .bool y0)]) x0):=by
 simp only [exec_seq,seqK_normal,seqK_exit,seqK_ret,t88_2 S89 h89,exec_ret]
 rfl
theorem rk88_0 (y0):retK d88 .ret [(2,.v .bool y0)]=some [.v .bool y0]:=by kernel_rfl
def g88 (S89:Int→Option (Bool)) (x0:Int) (k:Bool→Option R):Option R:=
(g88_2b S89 k x0)
theorem gen88 (S89) (h89:(ctr89 S89).holds cl) (x0) (k:List E→Option R):exec cl N c88 [(0,.v U1 x0)] (fun e env=>(retK d88 e env).bind k)=g88 S89 x0 (fun r0=>k [.v .bool r0]):=by
 simp only [c88,t88_2b S89 h89,rk88_0,Option.bind_some]
 rfl
def ctr88 (S:Int→Option (Bool)):Ctr:=cv1 88 U1 S fun b=> [.v .bool b]
def S88 (N:Nat) (x0:Int):Option (Bool):=g88 (S89 N) x0 (fun (r0:Bool)=>some (r0))
def g92_0 (k0:V0→V11→Option R) (x0:V0) (x1:V11):Option R:=
k0 x0 x1
theorem t92_0 (x0 x1):exec cl N c92_0 (e180 x0 x1) K=(g92_0 (fun y0 y1=>K .normal (e180 y0 y1)) x0 x1):=by
 kernel_rfl
def g92_1 (k0:V0→V11→Int→Int→Option R) (x0:V0) (x1:V11):Option R:=
k0 x0 x1 (x0.length:Int) (0:Int)
theorem t92_1 (x0 x1):exec cl N c92_1 (e180 x0 x1) K=(g92_1 (fun y0 y1 y2 y3=>K .normal (e181 y0 y1 y2 y3)) x0 x1):=by
 kernel_rfl
theorem kp92_0 (x0 x1 x2 x3):keep [0,1,7,8] (e181 x0 x1 x2 x3)=(e181 x0 x1 x2 x3):=by kernel_rfl
def g92_2 (k0:V0→V11→Int→Int→Bool→Option R) (x0:V0) (x1:V11) (x2 x3:Int):Option R:=
k0 x0 x1 x2 x3 (decide (x3 < x2))
theorem t92_2 (x0 x1 x2 x3):exec cl N c92_2 (e181 x0 x1 x2 x3) K=(g92_2 (fun y0 y1 y2 y3 y4=>K .normal (e182 y0 y1 y2 y3 y4)) x0 x1 x2 x3):=by
 kernel_rfl
theorem kp92_1 (x0 x1 x2 x3 x4):keep [0,1,7,8] (e182 x0 x1 x2 x3 x4)=(e181 x0 x1 x2 x3):=by kernel_rfl
theorem hb92_0 (x0 x1 x2 x3 x4):boolOf? (ent (e182 x0 x1 x2 x3 x4) (.t 9))=some x4:=by kernel_rfl
def g92_8 (k0:V0→V11→Int→Int→Int→Bool→Option R) (x0:V0) (x1:V11) (x2 x3:Int):Option R:=
if 0≤x3∧x3 < (x0.length:Int) then
(x1 ((x0.getD x3.toNat (0:Int)),())).bind fun r880=>
k0 x0 x1 x3 x2 x3 r880
else none
theorem t92_8 (x0 x1 x2 x3):exec cl N c92_8 (e181 x0 x1 x2 x3) K=(g92_8 (fun y0 y1 y2 y3 y4 y5=>exec cl N c92_7 (e183 y0 y1 y2 y3 y4 y5) K) x0 x1 x2 x3):=by
 kernel_rfl
def g92_6 (k0:Int→Option R) (x0:V0) (x1:V11) (x2 x3 x4:Int) (x5:Bool):Option R:=
k0 x2
theorem t92_6 (x0 x1 x2 x3 x4 x5):exec cl N c92_6 (e183 x0 x1 x2 x3 x4 x5) K=(g92_6 (fun y0=>K .normal [(4,.v U2 y0)]) x0 x1 x2 x3 x4 x5):=by
 kernel_rfl
theorem kp92_2 (x0):keep [0,1,4,7,8] [(4,.v U2 x0)]=(e184 x0):=by kernel_rfl
theorem kp92_3 (x0 x1 x2 x3 x4 x5):keep [0,1,4,7,8] (e183 x0 x1 x2 x3 x4 x5)=(e185 x0 x1 x3 x4):=by kernel_rfl
theorem hb92_1 (x0 x1 x2 x3 x4 x5):boolOf? (ent (e183 x0 x1 x2 x3 x4 x5) (.t 16))=some x5:=by kernel_rfl
theorem kp92_4 (x0):keep [0,1,4,7,8] (e184 x0)=(e184 x0):=by kernel_rfl
theorem kp92_5 (x0 x1 x2 x3):keep [0,1,4,7,8] (e185 x0 x1 x2 x3)=(e185 x0 x1 x2 x3):=by kernel_rfl
def g92_10 (k0:V0→V11→Int→Int→Option R) (x0:V0) (x1:V11) (x2 x3:Int):Option R:=
k0 x0 x1 x2 (IntKind.i64.wrap (x3+(1:Int)))
theorem t92_10 (x0 x1 x2 x3):exec cl N c92_10 (e185 x0 x1 x2 x3) K=(g92_10 (fun y0 y1 y2 y3=>K .normal (e181 y0 y1 y2 y3)) x0 x1 x2 x3):=by
 kernel_rfl
def g92_11 (k0:Int→Option R) (k1:V0→V11→Int→Int→Option R) (k2:V0→V11→Int→Int→Option R) (x0:V0) (x1:V11) (x2 x3:Int):Option R:=
(g92_2 (fun y0 y1 y2 y3 y4=>brB y4 ((g92_8 (fun y0 y1 y2 y3 y4 y5=>brB y5 (g92_6 k0 y0 y1 y2 y3 y4 y5) (((g92_10 k1)) y0 y1 y3 y4))) y0 y1 y2 y3) (k2 y0 y1 y2 y3)) x0 x1 x2 x3)
theorem t92_11 (x0 x1 x2 x3):exec cl N c92_11 (e181 x0 x1 x2 x3) K=(g92_11 (fun y0=>K .ret (e184 y0)) (fun y0 y1 y2 y3=>K .normal (e181 y0 y1 y2 y3)) (fun y0 y1 y2 y3=>K (.exit 0) (e181 y0 y1 y2 y3)) x0 x1 x2 x3):=by
 simp only [c92_11,exec_seq,seqK_normal,seqK_exit,seqK_ret,t92_2,c92_3,exec_out,exec_cond',hb92_0,Option.bind_some,brB_true,brB_false,exec_skip,exec_exit,kp92_1,c92_9,exec_block,t92_8,c92_7,hb92_1,t92_6,exec_ret,kp92_2,kp92_3,blockK_normal,blockK_ret,blockK_eq,kp92_4,kp92_5,t92_10]
 rfl
def l92_12 {R:Type} (k0:Int→Option R) (k1:V0→V11→Int→Int→Option R):Nat→V0→V11→Int→Int→Option R
 | 0,_,_,_,_=>none
 | m+1,x0,x1,x2,x3=>(g92_11 k0 (l92_12 k0 k1 m) k1 x0 x1 x2 x3)
theorem lt92_12:∀ (m) (x0 x1 x2 x3),iter [0,1,7,8] (fun env K=>exec cl N c92_11 env K) K m (e181 x0 x1 x2 x3)=l92_12 (fun y0=>K .ret (e184 y0)) (fun y0 y1 y2 y3=>K (.exit 0) (e181 y0 y1 y2 y3)) m x0 x1 x2 x3:=by
 intro m
 induction m with
 | zero=>intros; rfl
 | succ m ih=>
   intro x0 x1 x2 x3
   simp only [iter_succ,t92_11,loopK_normal,loopK_exit,loopK_ret,kp92_0,ih]
   rfl
theorem kp92_6 (x0):keep [4] (e184 x0)=[(4,.v U2 x0)]:=by kernel_rfl
theorem kp92_7 (x0 x1 x2 x3):keep [4] (e181 x0 x1 x2 x3)=[(4,.dead)]:=by kernel_rfl
def g92_12 (N:Nat) (k0:Int→Option R) (k1:Option R) (x0:V0) (x1:V11) (x2 x3:Int):Option R:=
l92_12 k0 (fun y0 y1 y2 y3=>k1) N x0 x1 x2 x3
theorem t92_12 (x0 x1 x2 x3):exec cl N c92_12 (e181 x0 x1 x2 x3) K=(g92_12 N (fun y0=>K .ret [(4,.v U2 y0)]) (K (.exit 0) [(4,.dead)]) x0 x1 x2 x3):=by
 simp only [c92_12,exec_out,exec_loop,kp92_0,lt92_12,kp92_6,kp92_7]
 rfl
theorem kp92_8 (x0):keep [4] [(4,.v U2 x0)]=[(4,.v U2 x0)]:=by kernel_rfl
theorem kp92_9:keep [4] [(4,.dead)]=[(4,.dead)]:=by kernel_rfl
def g92_14 (k0:Int→Option R):Option R:=
k0 (-1:Int)
theorem t92_14:exec cl N c92_14 [(4,.dead)] K=(g92_14 (fun y0=>K .normal [(4,.v U2 y0)])):=by
 kernel_rfl
def g92_15 (N:Nat) (k0:Int→Option R) (x0:V0) (x1:V11):Option R:=
(g92_0 (g92_1 (g92_12 N k0 (g92_14 k0))) x0 x1)
theorem t92_15 (x0 x1):exec cl N c92_15 (e180 x0 x1) K=(g92_15 N (fun y0=>K .ret [(4,.v U2 y0)]) x0 x1):=by
 simp only [c92_15,exec_seq,seqK_normal,seqK_exit,seqK_ret,t92_0,t92_1,c92_13,exec_out,exec_block,t92_12,blockK_normal,blockK_ret,blockK_eq,kp92_8,kp92_9,t92_14,exec_ret]
 rfl
theorem rk92_0 (y0):retK d92 .ret [(4,.v U2 y0)]=some [.v U2 y0]:=by kernel_rfl
def g92 (N:Nat) (x0:V0) (x1:V11) (k:Int→Option R):Option R:=
(g92_15 N k x0 x1)
theorem gen92 (x0 x1) (k:List E→Option R):exec cl N c92 (e180 x0 x1) (fun e env=>(retK d92 e env).bind k)=g92 N x0 x1 (fun r0=>k [.v U2 r0]):=by
 simp only [c92,t92_15,rk92_0,Option.bind_some]
 rfl
def ctr92 (S:V0→V11→Option (Int)):Ctr:=cv2 92 U3 U8 S fun b=> [.v U2 b]
def S92 (N:Nat) (x0:V0) (x1:V11):Option (Int):=g92 N x0 x1 (fun (r0:Int)=>some (r0))
def g87_2 (S92:V0→V11→Option (Int)) (k0:Bool→Option R) (x0:V0) (x1:V11):Option R:=
(S92 x0 x1).bind fun r884=>
k0 (decide (r884≥(0:Int)))
theorem t87_2 (S92) (h92:(ctr92 S92).holds cl) (x0 x1):exec cl N c87_2 (e180 x0 x1) K=(g87_2 S92 (fun y0=>exec cl N .ret [(4,.v .bool y0)] K) x0 x1):=by
 rw [←put_eq h92]
 kernel_rfl
def g87_2b (S92:V0→V11→Option (Int)) (k0:Bool→Option R) (x0:V0) (x1:V11):Option R:=
(g87_2 S92 k0 x0 x1)
theorem t87_2b (S92) (h92:(ctr92 S92).holds cl) (x0 x1):exec cl N c87_2 (e180 x0 x1) K=(g87_2b S92 (fun y0=>K .ret [(4,.v .bool y0)]) x0 x1):=by
 simp only [exec_seq,seqK_normal,seqK_exit,seqK_ret,t87_2 S92 h92,exec_ret]
 rfl
theorem rk87_0 (y0):retK d87 .ret [(4,.v .bool y0)]=some [.v .bool y0]:=by kernel_rfl
def g87 (S92:V0→V11→Option (Int)) (x0:V0) (x1:V11) (k:Bool→Option R):Option R:=
(g87_2b S92 k x0 x1)
theorem gen87 (S92) (h92:(ctr92 S92).holds cl) (x0 x1) (k:List E→Option R):exec cl N c87 (e180 x0 x1) (fun e env=>(retK d87 e env).bind k)=g87 S92 x0 x1 (fun r0=>k [.v .bool r0]):=by
 simp only [c87,t87_2b S92 h92,rk87_0,Option.bind_some]
 rfl
def ctr87 (S:V0→V11→Option (Bool)):Ctr:=cv2 87 U3 U8 S fun b=> [.v .bool b]
def S87 (N:Nat) (x0:V0) (x1:V11):Option (Bool):=g87 (S92 N) x0 x1 (fun (r0:Bool)=>some (r0))
def g90_0 (k0:V6→V1→Option R) (x0:V6) (x1:V1):Option R:=
k0 x0 x1
theorem t90_0 (x0 x1):exec cl N c90_0 (e28 x0 x1) K=(g90_0 (fun y0 y1=>K .normal (e28 y0 y1)) x0 x1):=by
 kernel_rfl
def g90_1 (k0:V6→V1→Int→Option R) (x0:V6) (x1:V1):Option R:=
k0 x0 x1 (x0.length:Int)
theorem t90_1 (x0 x1):exec cl N c90_1 (e28 x0 x1) K=(g90_1 (fun y0 y1 y2=>K .normal [(0,.v U0 y0),(1,.v .str y1),(12,.v U2 y2)]) x0 x1):=by
 kernel_rfl
def g90_2 (k0:V6→V1→Int→Bool→Option R) (x0:V6) (x1:V1) (x2:Int):Option R:=
k0 x0 x1 x2 (x2==(0:Int))
theorem t90_2 (x0 x1 x2):exec cl N c90_2 [(0,.v U0 x0),(1,.v .str x1),(12,.v U2 x2)] K=(g90_2 (fun y0 y1 y2 y3=>K .normal (e186 y0 y1 y2 y3)) x0 x1 x2):=by
 kernel_rfl
def g90_3 (k0:V1→Option R) (x0:V6) (x1:V1) (x2:Int) (x3:Bool):Option R:=
k0 ([]:List UInt8)
theorem t90_3 (x0 x1 x2 x3):exec cl N c90_3 (e186 x0 x1 x2 x3) K=(g90_3 (fun y0=>K .normal [(4,.v .str y0)]) x0 x1 x2 x3):=by
 kernel_rfl
theorem kp90_0 (x0):keep [0,1,4] [(4,.v .str x0)]=(e177 x0):=by kernel_rfl
def g90_4 (k0:V6→V1→Bool→Option R) (x0:V6) (x1:V1) (x2:Int) (x3:Bool):Option R:=
k0 x0 x1 (x2==(1:Int))
theorem t90_4 (x0 x1 x2 x3):exec cl N c90_4 (e186 x0 x1 x2 x3) K=(g90_4 (fun y0 y1 y2=>K .normal (e187 y0 y1 y2)) x0 x1 x2 x3):=by
 kernel_rfl
def g90_5 (k0:V1→Option R) (x0:V6) (x1:V1) (x2:Bool):Option R:=
if 0≤(0:Int)∧(0:Int) < (x0.length:Int) then
k0 (x0.getD (0:Int).toNat [])
else none
theorem t90_5 (x0 x1 x2):exec cl N c90_5 (e187 x0 x1 x2) K=(g90_5 (fun y0=>K .normal [(4,.v .str y0)]) x0 x1 x2):=by
 kernel_rfl
theorem kp90_1 (x0 x1 x2):keep [0,1,4] (e187 x0 x1 x2)=(e188 x0 x1):=by kernel_rfl
theorem hb90_0 (x0 x1 x2):boolOf? (ent (e187 x0 x1 x2) (.t 15))=some x2:=by kernel_rfl
theorem kp90_2 (x0):keep [0,1,4] (e177 x0)=(e177 x0):=by kernel_rfl
theorem kp90_3 (x0 x1):keep [0,1,4] (e188 x0 x1)=(e188 x0 x1):=by kernel_rfl
theorem hb90_1 (x0 x1 x2 x3):boolOf? (ent (e186 x0 x1 x2 x3) (.t 13))=some x3:=by kernel_rfl
def g90_9 (k0:V6→V1→Int→Option R) (x0:V6) (x1:V1):Option R:=
k0 x0 x1 (0:Int)
theorem t90_9 (x0 x1):exec cl N c90_9 (e188 x0 x1) K=(g90_9 (fun y0 y1 y2=>K .normal (e29 y0 y1 y2)) x0 x1):=by
 kernel_rfl
def g90_10 (k0:V6→V1→Int→Bool→Option R) (x0:V6) (x1:V1) (x2:Int):Option R:=
k0 x0 x1 x2 (decide ((x1.length:Int) > (0:Int)))
theorem t90_10 (x0 x1 x2):exec cl N c90_10 (e29 x0 x1 x2) K=(g90_10 (fun y0 y1 y2 y3=>K .normal (e189 y0 y1 y2 y3)) x0 x1 x2):=by
 kernel_rfl
def g90_11 (k0:V6→V1→Int→Bool→Option R) (x0:V6) (x1:V1) (x2:Int) (x3:Bool):Option R:=
let v905:Int:=(IntKind.i64.wrap ((x0.length:Int) - (1:Int)))
if v905=0 then none else
k0 x0 x1 x2 (decide ((x1.length:Int)≥(IntKind.i64.wrap (Int.tdiv (9223372036854775807:Int) v905))))
theorem t90_11 (x0 x1 x2 x3):exec cl N c90_11 (e189 x0 x1 x2 x3) K=(g90_11 (fun y0 y1 y2 y3=>K .normal (e190 y0 y1 y2 y3)) x0 x1 x2 x3):=by
 kernel_rfl
def g90_12 (x0:V6) (x1:V1) (x2:Int) (x3:Bool):Option R:=
none /- operation makeInterface -/
theorem t90_12 (x0 x1 x2 x3):exec cl N c90_12 (e190 x0 x1 x2 x3) K=(g90_12 x0 x1 x2 x3):=by
 kernel_rfl
theorem kp90_4 (x0 x1 x2 x3):keep [0,1,5] (e190 x0 x1 x2 x3)=(e29 x0 x1 x2):=by kernel_rfl
theorem hb90_2 (x0 x1 x2 x3):boolOf? (ent (e190 x0 x1 x2 x3) (.t 29))=some x3:=by kernel_rfl
def g90_14 (k0:V6→V1→Int→Option R) (x0:V6) (x1:V1) (x2:Int):Option R:=
k0 x0 x1 (IntKind.i64.wrap (x2+(IntKind.i64.wrap ((x1.length:Int) * (IntKind.i64.wrap ((x0.length:Int) - (1:Int)))))))
theorem t90_14 (x0 x1 x2):exec cl N c90_14 (e29 x0 x1 x2) K=(g90_14 (fun y0 y1 y2=>K .normal (e29 y0 y1 y2)) x0 x1 x2):=by
 kernel_rfl
theorem kp90_5 (x0 x1 x2):keep [0,1,5] (e29 x0 x1 x2)=(e29 x0 x1 x2):=by kernel_rfl
theorem kp90_6 (x0 x1 x2 x3):keep [0,1,5] (e189 x0 x1 x2 x3)=(e29 x0 x1 x2):=by kernel_rfl
theorem hb90_3 (x0 x1 x2 x3):boolOf? (ent (e189 x0 x1 x2 x3) (.t 22))=some x3:=by kernel_rfl
def g90_16 (k0:V6→V1→Int→Option R) (x0:V6) (x1:V1) (x2:Int):Option R:=
(g90_10 (fun y0 y1 y2 y3=>brB y3 (g90_11 (fun y0 y1 y2 y3=>brB y3 (g90_12 y0 y1 y2 y3) ((g90_14 k0) y0 y1 y2)) y0 y1 y2 y3) (k0 y0 y1 y2)) x0 x1 x2)
theorem t90_16 (x0 x1 x2):exec cl N c90_16 (e29 x0 x1 x2) K=(g90_16 (fun y0 y1 y2=>K .normal (e29 y0 y1 y2)) x0 x1 x2):=by
 simp only [c90_16,exec_seq,seqK_normal,seqK_exit,seqK_ret,t90_10,c90_15,exec_out,exec_cond',hb90_3,Option.bind_some,brB_true,brB_false,t90_11,c90_13,hb90_2,t90_12,exec_skip,kp90_4,t90_14,kp90_5,kp90_6]
 rfl
def g90_17 (k0:V6→V1→Int→V6→Int→Int→Option R) (x0:V6) (x1:V1) (x2:Int):Option R:=
k0 x0 x1 x2 x0 (x0.length:Int) (0:Int)
theorem t90_17 (x0 x1 x2):exec cl N c90_17 (e29 x0 x1 x2) K=(g90_17 (fun y0 y1 y2 y3 y4 y5=>K .normal (e191 y0 y1 y2 y3 y4 y5)) x0 x1 x2):=by
 kernel_rfl
theorem kp90_7 (x0 x1 x2 x3 x4 x5):keep [0,1,5,39,40,41] (e191 x0 x1 x2 x3 x4 x5)=(e191 x0 x1 x2 x3 x4 x5):=by kernel_rfl
def g90_18 (k0:V6→V1→Int→V6→Int→Int→Bool→Option R) (x0:V6) (x1:V1) (x2:Int) (x3:V6) (x4 x5:Int):Option R:=
k0 x0 x1 x2 x3 x4 x5 (decide (x5 < x4))
theorem t90_18 (x0 x1 x2 x3 x4 x5):exec cl N c90_18 (e191 x0 x1 x2 x3 x4 x5) K=(g90_18 (fun y0 y1 y2 y3 y4 y5 y6=>K .normal (e192 y0 y1 y2 y3 y4 y5 y6)) x0 x1 x2 x3 x4 x5):=by
 kernel_rfl
theorem kp90_8 (x0 x1 x2 x3 x4 x5 x6):keep [0,1,5,39,40,41] (e192 x0 x1 x2 x3 x4 x5 x6)=(e191 x0 x1 x2 x3 x4 x5):=by kernel_rfl
theorem hb90_4 (x0 x1 x2 x3 x4 x5 x6):boolOf? (ent (e192 x0 x1 x2 x3 x4 x5 x6) (.t 42))=some x6:=by kernel_rfl
def g90_20 (k0:V6→V1→Int→V1→V6→Int→Int→Option R) (x0:V6) (x1:V1) (x2:Int) (x3:V6) (x4 x5:Int):Option R:=
if 0≤x5∧x5 < (x3.length:Int) then
k0 x0 x1 x2 (x3.getD x5.toNat []) x3 x4 x5
else none
theorem t90_20 (x0 x1 x2 x3 x4 x5):exec cl N c90_20 (e191 x0 x1 x2 x3 x4 x5) K=(g90_20 (fun y0 y1 y2 y3 y4 y5 y6=>K .normal (e193 y0 y1 y2 y3 y4 y5 y6)) x0 x1 x2 x3 x4 x5):=by
 kernel_rfl
def g90_21 (k0:V6→V1→Int→V1→V6→Int→Int→Bool→Option R) (x0:V6) (x1:V1) (x2:Int) (x3:V1) (x4:V6) (x5 x6:Int):Option R:=
k0 x0 x1 x2 x3 x4 x5 x6 (decide ((x3.length:Int) > (IntKind.i64.wrap ((9223372036854775807:Int) - x2))))
theorem t90_21 (x0 x1 x2 x3 x4 x5 x6):exec cl N c90_21 (e193 x0 x1 x2 x3 x4 x5 x6) K=(g90_21 (fun y0 y1 y2 y3 y4 y5 y6 y7=>K .normal (e194 y0 y1 y2 y3 y4 y5 y6 y7)) x0 x1 x2 x3 x4 x5 x6):=by
 kernel_rfl
def g90_22 (x0:V6) (x1:V1) (x2:Int) (x3:V1) (x4:V6) (x5 x6:Int) (x7:Bool):Option R:=
none /- operation makeInterface -/
theorem t90_22 (x0 x1 x2 x3 x4 x5 x6 x7):exec cl N c90_22 (e194 x0 x1 x2 x3 x4 x5 x6 x7) K=(g90_22 x0 x1 x2 x3 x4 x5 x6 x7):=by
 kernel_rfl
theorem kp90_9 (x0 x1 x2 x3 x4 x5 x6 x7):keep [0,1,5,7,39,40,41] (e194 x0 x1 x2 x3 x4 x5 x6 x7)=(e193 x0 x1 x2 x3 x4 x5 x6):=by kernel_rfl
theorem hb90_5 (x0 x1 x2 x3 x4 x5 x6 x7):boolOf? (ent (e194 x0 x1 x2 x3 x4 x5 x6 x7) (.t 49))=some x7:=by kernel_rfl
def g90_24 (k0:V6→V1→Int→V6→Int→Int→Option R) (x0:V6) (x1:V1) (x2:Int) (x3:V1) (x4:V6) (x5 x6:Int):Option R:=
k0 x0 x1 (IntKind.i64.wrap (x2+(x3.length:Int))) x4 x5 x6
theorem t90_24 (x0 x1 x2 x3 x4 x5 x6):exec cl N c90_24 (e193 x0 x1 x2 x3 x4 x5 x6) K=(g90_24 (fun y0 y1 y2 y3 y4 y5=>K .normal (e191 y0 y1 y2 y3 y4 y5)) x0 x1 x2 x3 x4 x5 x6):=by
 kernel_rfl
def g90_26 (k0:V6→V1→Int→V6→Int→Int→Option R) (x0:V6) (x1:V1) (x2:Int) (x3:V6) (x4 x5:Int):Option R:=
k0 x0 x1 x2 x3 x4 (IntKind.i64.wrap (x5+(1:Int)))
theorem t90_26 (x0 x1 x2 x3 x4 x5):exec cl N c90_26 (e191 x0 x1 x2 x3 x4 x5) K=(g90_26 (fun y0 y1 y2 y3 y4 y5=>K .normal (e191 y0 y1 y2 y3 y4 y5)) x0 x1 x2 x3 x4 x5):=by
 kernel_rfl
def g90_27 (k0:V6→V1→Int→V6→Int→Int→Option R) (k1:V6→V1→Int→V6→Int→Int→Option R) (x0:V6) (x1:V1) (x2:Int) (x3:V6) (x4 x5:Int):Option R:=
(g90_18 (fun y0 y1 y2 y3 y4 y5 y6=>brB y6 ((g90_20 (g90_21 (fun y0 y1 y2 y3 y4 y5 y6 y7=>brB y7 (g90_22 y0 y1 y2 y3 y4 y5 y6 y7) ((g90_24 ((g90_26 k0))) y0 y1 y2 y3 y4 y5 y6)))) y0 y1 y2 y3 y4 y5) (k1 y0 y1 y2 y3 y4 y5)) x0 x1 x2 x3 x4 x5)
theorem t90_27 (x0 x1 x2 x3 x4 x5):exec cl N c90_27 (e191 x0 x1 x2 x3 x4 x5) K=(g90_27 (fun y0 y1 y2 y3 y4 y5=>K .normal (e191 y0 y1 y2 y3 y4 y5)) (fun y0 y1 y2 y3 y4 y5=>K (.exit 1) (e191 y0 y1 y2 y3 y4 y5)) x0 x1 x2 x3 x4 x5):=by
 simp only [c90_27,exec_seq,seqK_normal,seqK_exit,seqK_ret,t90_18,c90_19,exec_out,exec_cond',hb90_4,Option.bind_some,brB_true,brB_false,exec_skip,exec_exit,kp90_8,c90_25,exec_block,t90_20,t90_21,c90_23,hb90_5,t90_22,kp90_9,t90_24,blockK_normal,blockK_ret,blockK_eq,kp90_7,t90_26]
 rfl
def l90_28 {R:Type} (k0:V6→V1→Int→V6→Int→Int→Option R):Nat→V6→V1→Int→V6→Int→Int→Option R
 | 0,_,_,_,_,_,_=>none
 | m+1,x0,x1,x2,x3,x4,x5=>(g90_27 (l90_28 k0 m) k0 x0 x1 x2 x3 x4 x5)
theorem lt90_28:∀ (m) (x0 x1 x2 x3 x4 x5),iter [0,1,5,39,40,41] (fun env K=>exec cl N c90_27 env K) K m (e191 x0 x1 x2 x3 x4 x5)=l90_28 (fun y0 y1 y2 y3 y4 y5=>K (.exit 1) (e191 y0 y1 y2 y3 y4 y5)) m x0 x1 x2 x3 x4 x5:=by
 intro m
 induction m with
 | zero=>intros; rfl
 | succ m ih=>
   intro x0 x1 x2 x3 x4 x5
   simp only [iter_succ,t90_27,loopK_normal,loopK_exit,loopK_ret,kp90_7,ih]
   rfl
theorem kp90_10 (x0 x1 x2 x3 x4 x5):keep [0,1,5] (e191 x0 x1 x2 x3 x4 x5)=(e29 x0 x1 x2):=by kernel_rfl
def g90_28 (N:Nat) (k0:V6→V1→Int→Option R) (x0:V6) (x1:V1) (x2:Int) (x3:V6) (x4 x5:Int):Option R:=
l90_28 (fun y0 y1 y2 y3 y4 y5=>k0 y0 y1 y2) N x0 x1 x2 x3 x4 x5
theorem t90_28 (x0 x1 x2 x3 x4 x5):exec cl N c90_28 (e191 x0 x1 x2 x3 x4 x5) K=(g90_28 N (fun y0 y1 y2=>K (.exit 1) (e29 y0 y1 y2)) x0 x1 x2 x3 x4 x5):=by
 simp only [c90_28,exec_out,exec_loop,kp90_7,lt90_28,kp90_10]
 rfl
def g90_46 (x0:V6) (x1:V1) (x2:Int):Option R:=
none /- type ptr -/
theorem t90_46 (x0 x1 x2):exec cl N c90_46 (e29 x0 x1 x2) K=(g90_46 x0 x1 x2):=by
 kernel_rfl
def g90_47 (N:Nat) (k0:V1→Option R) (x0:V6) (x1:V1):Option R:=
(g90_0 (g90_1 (g90_2 (fun y0 y1 y2 y3=>brB y3 (g90_3 k0 y0 y1 y2 y3) (g90_4 (fun y0 y1 y2=>brB y2 (g90_5 k0 y0 y1 y2) ((((g90_9 (g90_16 (g90_17 (g90_28 N g90_46)))))) y0 y1)) y0 y1 y2 y3)))) x0 x1)
theorem t90_47 (x0 x1):exec cl N c90_47 (e28 x0 x1) K=(g90_47 N (fun y0=>K .ret (e177 y0)) x0 x1):=by
 simp only [c90_47,exec_seq,seqK_normal,seqK_exit,seqK_ret,t90_0,t90_1,c90_8,exec_out,exec_block,t90_2,c90_7,exec_cond',hb90_1,Option.bind_some,brB_true,brB_false,t90_3,exec_ret,t90_4,c90_6,hb90_0,t90_5,exec_skip,kp90_0,kp90_1,kp90_2,kp90_3,blockK_normal,blockK_ret,blockK_eq,t90_9,t90_16,t90_17,c90_29,t90_28,kp90_5,t90_46]
 rfl
theorem rk90_0 (y0):retK d90 .ret (e177 y0)=some [.v .str y0]:=by kernel_rfl
def g90 (N:Nat) (x0:V6) (x1:V1) (k:V1→Option R):Option R:=
(g90_47 N k x0 x1)
theorem gen90 (x0 x1) (k:List E→Option R):exec cl N c90 (e28 x0 x1) (fun e env=>(retK d90 e env).bind k)=g90 N x0 x1 (fun r0=>k [.v .str r0]):=by
 simp only [c90,t90_47,rk90_0,Option.bind_some]
 rfl
def ctr90 (S:V6→V1→Option V5):Ctr:=cv2 90 U0 .str S fun b=> [.v .str b]
def S90 (N:Nat) (x0:V6) (x1:V1):Option V5:=g90 N x0 x1 (fun (r0:V1)=>some (r0))
def g83_0 (k0:V6→Option R) (x0:V6):Option R:=
k0 x0
theorem t83_0 (x0):exec cl N c83_0 [(0,.v U0 x0)] K=(g83_0 (fun y0=>K .normal [(0,.v U0 y0)]) x0):=by
 kernel_rfl
def g83_1 (k0:V6→V6→Int→Int→Option R) (x0:V6):Option R:=
k0 x0 x0 (x0.length:Int) (0:Int)
theorem t83_1 (x0):exec cl N c83_1 [(0,.v U0 x0)] K=(g83_1 (fun y0 y1 y2 y3=>K .normal (e195 y0 y1 y2 y3)) x0):=by
 kernel_rfl
theorem kp83_0 (x0 x1 x2 x3):keep [0,7,8,9] (e195 x0 x1 x2 x3)=(e195 x0 x1 x2 x3):=by kernel_rfl
def g83_2 (k0:V6→V6→Int→Int→Bool→Option R) (x0 x1:V6) (x2 x3:Int):Option R:=
k0 x0 x1 x2 x3 (decide (x3 < x2))
theorem t83_2 (x0 x1 x2 x3):exec cl N c83_2 (e195 x0 x1 x2 x3) K=(g83_2 (fun y0 y1 y2 y3 y4=>K .normal (e196 y0 y1 y2 y3 y4)) x0 x1 x2 x3):=by
 kernel_rfl
theorem kp83_1 (x0 x1 x2 x3 x4):keep [0,7,8,9] (e196 x0 x1 x2 x3 x4)=(e195 x0 x1 x2 x3):=by kernel_rfl
theorem hb83_0 (x0 x1 x2 x3 x4):boolOf? (ent (e196 x0 x1 x2 x3 x4) (.t 10))=some x4:=by kernel_rfl
def g83_4 (k0:V6→V1→V6→Int→Int→Option R) (x0 x1:V6) (x2 x3:Int):Option R:=
if 0≤x3∧x3 < (x1.length:Int) then
k0 x0 (x1.getD x3.toNat []) x1 x2 x3
else none
theorem t83_4 (x0 x1 x2 x3):exec cl N c83_4 (e195 x0 x1 x2 x3) K=(g83_4 (fun y0 y1 y2 y3 y4=>K .normal [(0,.v U0 y0),(5,.v .str y1),(7,.v U0 y2),(8,.v U2 y3),(9,.v U2 y4)]) x0 x1 x2 x3):=by
 kernel_rfl
def g83_5 (k0:V6→V1→V6→Int→Int→Bool→Option R) (x0:V6) (x1:V1) (x2:V6) (x3 x4:Int):Option R:=
k0 x0 x1 x2 x3 x4 (x1==([]:List UInt8))
theorem t83_5 (x0 x1 x2 x3 x4):exec cl N c83_5 [(0,.v U0 x0),(5,.v .str x1),(7,.v U0 x2),(8,.v U2 x3),(9,.v U2 x4)] K=(g83_5 (fun y0 y1 y2 y3 y4 y5=>K .normal (e197 y0 y1 y2 y3 y4 y5)) x0 x1 x2 x3 x4):=by
 kernel_rfl
def g83_6 (k0:V1→Int→Option R) (x0:V6) (x1:V1) (x2:V6) (x3 x4:Int) (x5:Bool):Option R:=
k0 ([]:List UInt8) (7:Int)
theorem t83_6 (x0 x1 x2 x3 x4 x5):exec cl N c83_6 (e197 x0 x1 x2 x3 x4 x5) K=(g83_6 (fun y0 y1=>K .normal (e55 y0 y1)) x0 x1 x2 x3 x4 x5):=by
 kernel_rfl
theorem kp83_2 (x0 x1):keep [0,2,3,5,7,8,9] (e55 x0 x1)=(e198 x0 x1):=by kernel_rfl
theorem kp83_3 (x0 x1 x2 x3 x4 x5):keep [0,2,3,5,7,8,9] (e197 x0 x1 x2 x3 x4 x5)=(e199 x0 x1 x2 x3 x4):=by kernel_rfl
theorem hb83_1 (x0 x1 x2 x3 x4 x5):boolOf? (ent (e197 x0 x1 x2 x3 x4 x5) (.t 14))=some x5:=by kernel_rfl
def g83_8 (S87:V0→V11→Option (Bool)) (S88:Int→Option (Bool)) (k0:V6→V6→Int→Int→Bool→Option R) (x0:V6) (x1:V1) (x2:V6) (x3 x4:Int):Option R:=
(S87 (x1.map fun b=>(b.toNat:Int)) (fun (x920:V2)=>((S88 x920.1).bind fun b921=>some [.v .bool b921]).bind (unE .bool))).bind fun r922=>
k0 x0 x2 x3 x4 r922
theorem t83_8 (S87) (S88) (h87:(ctr87 S87).holds cl) (h88:(ctr88 S88).holds cl) (x0 x1 x2 x3 x4):exec cl N c83_8 (e199 x0 x1 x2 x3 x4) K=(g83_8 S87 S88 (fun y0 y1 y2 y3 y4=>K .normal (e200 y0 y1 y2 y3 y4)) x0 x1 x2 x3 x4):=by
 rw [←put_eq h87]
 rw [←put_eq h88]
 kernel_rfl
def g83_9 (k0:V1→Int→Option R) (x0 x1:V6) (x2 x3:Int) (x4:Bool):Option R:=
k0 ([]:List UInt8) (2:Int)
theorem t83_9 (x0 x1 x2 x3 x4):exec cl N c83_9 (e200 x0 x1 x2 x3 x4) K=(g83_9 (fun y0 y1=>K .normal (e55 y0 y1)) x0 x1 x2 x3 x4):=by
 kernel_rfl
theorem kp83_4 (x0 x1):keep [0,2,3,7,8,9] (e55 x0 x1)=(e201 x0 x1):=by kernel_rfl
theorem kp83_5 (x0 x1 x2 x3 x4):keep [0,2,3,7,8,9] (e200 x0 x1 x2 x3 x4)=(e202 x0 x1 x2 x3):=by kernel_rfl
theorem hb83_2 (x0 x1 x2 x3 x4):boolOf? (ent (e200 x0 x1 x2 x3 x4) (.t 17))=some x4:=by kernel_rfl
theorem kp83_6 (x0 x1):keep [0,2,3,7,8,9] (e198 x0 x1)=(e201 x0 x1):=by kernel_rfl
theorem kp83_7 (x0 x1):keep [0,2,3,7,8,9] (e201 x0 x1)=(e201 x0 x1):=by kernel_rfl
theorem kp83_8 (x0 x1 x2 x3):keep [0,2,3,7,8,9] (e202 x0 x1 x2 x3)=(e202 x0 x1 x2 x3):=by kernel_rfl
def g83_12 (k0:V6→V6→Int→Int→Option R) (x0 x1:V6) (x2 x3:Int):Option R:=
k0 x0 x1 x2 (IntKind.i64.wrap (x3+(1:Int)))
theorem t83_12 (x0 x1 x2 x3):exec cl N c83_12 (e202 x0 x1 x2 x3) K=(g83_12 (fun y0 y1 y2 y3=>K .normal (e195 y0 y1 y2 y3)) x0 x1 x2 x3):=by
 kernel_rfl
def g83_13 (S87:V0→V11→Option (Bool)) (S88:Int→Option (Bool)) (k0:V1→Int→Option R) (k1:V6→V6→Int→Int→Option R) (k2:V6→V6→Int→Int→Option R) (x0 x1:V6) (x2 x3:Int):Option R:=
(g83_2 (fun y0 y1 y2 y3 y4=>brB y4 ((g83_4 (g83_5 (fun y0 y1 y2 y3 y4 y5=>brB y5 (g83_6 k0 y0 y1 y2 y3 y4 y5) ((g83_8 S87 S88 (fun y0 y1 y2 y3 y4=>brB y4 (g83_9 k0 y0 y1 y2 y3 y4) (((g83_12 k1)) y0 y1 y2 y3))) y0 y1 y2 y3 y4)))) y0 y1 y2 y3) (k2 y0 y1 y2 y3)) x0 x1 x2 x3)
theorem t83_13 (S87) (S88) (h87:(ctr87 S87).holds cl) (h88:(ctr88 S88).holds cl) (x0 x1 x2 x3):exec cl N c83_13 (e195 x0 x1 x2 x3) K=(g83_13 S87 S88 (fun y0 y1=>K .ret (e201 y0 y1)) (fun y0 y1 y2 y3=>K .normal (e195 y0 y1 y2 y3)) (fun y0 y1 y2 y3=>K (.exit 0) (e195 y0 y1 y2 y3)) x0 x1 x2 x3):=by
 simp only [c83_13,exec_seq,seqK_normal,seqK_exit,seqK_ret,t83_2,c83_3,exec_out,exec_cond',hb83_0,Option.bind_some,brB_true,brB_false,exec_skip,exec_exit,kp83_1,c83_11,exec_block,t83_4,t83_5,c83_7,hb83_1,t83_6,exec_ret,kp83_2,kp83_3,t83_8 S87 S88 h87 h88,c83_10,hb83_2,t83_9,kp83_4,kp83_5,blockK_normal,blockK_ret,blockK_eq,kp83_6,kp83_7,kp83_8,t83_12]
 rfl
def l83_14 {R:Type} (S87:V0→V11→Option (Bool)) (S88:Int→Option (Bool)) (k0:V1→Int→Option R) (k1:V6→V6→Int→Int→Option R):Nat→V6→V6→Int→Int→Option R
 | 0,_,_,_,_=>none
 | m+1,x0,x1,x2,x3=>(g83_13 S87 S88 k0 (l83_14 S87 S88 k0 k1 m) k1 x0 x1 x2 x3)
theorem lt83_14 (S87) (S88) (h87:(ctr87 S87).holds cl) (h88:(ctr88 S88).holds cl):∀ (m) (x0 x1 x2 x3),iter [0,7,8,9] (fun env K=>exec cl N c83_13 env K) K m (e195 x0 x1 x2 x3)=l83_14 S87 S88 (fun y0 y1=>K .ret (e201 y0 y1)) (fun y0 y1 y2 y3=>K (.exit 0) (e195 y0 y1 y2 y3)) m x0 x1 x2 x3:=by
 intro m
 induction m with
 | zero=>intros; rfl
 | succ m ih=>
   intro x0 x1 x2 x3
   simp only [iter_succ,t83_13 S87 S88 h87 h88,loopK_normal,loopK_exit,loopK_ret,kp83_0,ih]
   rfl
theorem kp83_9 (x0 x1):keep [0,2,3] (e201 x0 x1)=(e117 x0 x1):=by kernel_rfl
theorem kp83_10 (x0 x1 x2 x3):keep [0,2,3] (e195 x0 x1 x2 x3)=(e203 x0):=by kernel_rfl
def g83_14 (N:Nat) (S87:V0→V11→Option (Bool)) (S88:Int→Option (Bool)) (k0:V1→Int→Option R) (k1:V6→Option R) (x0 x1:V6) (x2 x3:Int):Option R:=
l83_14 S87 S88 k0 (fun y0 y1 y2 y3=>k1 y0) N x0 x1 x2 x3
theorem t83_14 (S87) (S88) (h87:(ctr87 S87).holds cl) (h88:(ctr88 S88).holds cl) (x0 x1 x2 x3):exec cl N c83_14 (e195 x0 x1 x2 x3) K=(g83_14 N S87 S88 (fun y0 y1=>K .ret (e117 y0 y1)) (fun y0=>K (.exit 0) (e203 y0)) x0 x1 x2 x3):=by
 simp only [c83_14,exec_out,exec_loop,kp83_0,lt83_14 S87 S88 h87 h88,kp83_10,kp83_9]
 rfl
theorem kp83_11 (x0 x1):keep [0,2,3] (e117 x0 x1)=(e117 x0 x1):=by kernel_rfl
theorem kp83_12 (x0):keep [0,2,3] (e203 x0)=(e203 x0):=by kernel_rfl
def g83_16 (S90:V6→V1→Option V5) (k0:V1→Option R) (x0:V6):Option R:=
(S90 x0 ([32]:List UInt8)).bind fun r924=>
k0 r924
theorem t83_16 (S90) (h90:(ctr90 S90).holds cl) (x0):exec cl N c83_16 (e203 x0) K=(g83_16 S90 (fun y0=>K .normal [(6,.v .str y0)]) x0):=by
 rw [←put_eq h90]
 kernel_rfl
def g83_17 (k0:V1→Bool→Option R) (x0:V1):Option R:=
k0 x0 (decide ((x0.length:Int) > (120:Int)))
theorem t83_17 (x0):exec cl N c83_17 [(6,.v .str x0)] K=(g83_17 (fun y0 y1=>K .normal (e204 y0 y1)) x0):=by
 kernel_rfl
def g83_18 (k0:V1→Int→Option R) (x0:V1) (x1:Bool):Option R:=
k0 ([]:List UInt8) (3:Int)
theorem t83_18 (x0 x1):exec cl N c83_18 (e204 x0 x1) K=(g83_18 (fun y0 y1=>K .normal (e55 y0 y1)) x0 x1):=by
 kernel_rfl
theorem kp83_13 (x0 x1):keep [2,3,6] (e55 x0 x1)=(e205 x0 x1):=by kernel_rfl
theorem kp83_14 (x0 x1):keep [2,3,6] (e204 x0 x1)=[(2,.dead),(3,.dead),(6,.v .str x0)]:=by kernel_rfl
theorem hb83_3 (x0 x1):boolOf? (ent (e204 x0 x1) (.t 23))=some x1:=by kernel_rfl
def g83_20 (k0:V1→Int→Option R) (x0:V1):Option R:=
k0 x0 (0:Int)
theorem t83_20 (x0):exec cl N c83_20 [(2,.dead),(3,.dead),(6,.v .str x0)] K=(g83_20 (fun y0 y1=>K .normal (e55 y0 y1)) x0):=by
 kernel_rfl
def g83_21 (N:Nat) (S87:V0→V11→Option (Bool)) (S88:Int→Option (Bool)) (S90:V6→V1→Option V5) (k0:V1→Int→Option R) (k1:V1→Int→Option R) (k2:V1→Int→Option R) (x0:V6):Option R:=
(g83_0 (g83_1 (g83_14 N S87 S88 k0 ((g83_16 S90 (g83_17 (fun y0 y1=>brB y1 (g83_18 k1 y0 y1) ((g83_20 k2) y0))))))) x0)
theorem t83_21 (S87) (S88) (S90) (h87:(ctr87 S87).holds cl) (h88:(ctr88 S88).holds cl) (h90:(ctr90 S90).holds cl) (x0):exec cl N c83_21 [(0,.v U0 x0)] K=(g83_21 N S87 S88 S90 (fun y0 y1=>K .ret (e117 y0 y1)) (fun y0 y1=>K .ret (e205 y0 y1)) (fun y0 y1=>K .ret (e55 y0 y1)) x0):=by
 simp only [c83_21,exec_seq,seqK_normal,seqK_exit,seqK_ret,t83_0,t83_1,c83_15,exec_out,exec_block,t83_14 S87 S88 h87 h88,blockK_normal,blockK_ret,blockK_eq,kp83_11,kp83_12,t83_16 S90 h90,t83_17,c83_19,exec_cond',hb83_3,Option.bind_some,brB_true,brB_false,t83_18,exec_ret,exec_skip,kp83_13,kp83_14,t83_20]
 rfl
theorem rk83_0 (y0 y1):retK d83 .ret (e117 y0 y1)=some [.v .str y0,.v U2 y1]:=by kernel_rfl
theorem rk83_1 (y0 y1):retK d83 .ret (e205 y0 y1)=some [.v .str y0,.v U2 y1]:=by kernel_rfl
theorem rk83_2 (y0 y1):retK d83 .ret (e55 y0 y1)=some [.v .str y0,.v U2 y1]:=by kernel_rfl
def g83 (N:Nat) (S87:V0→V11→Option (Bool)) (S88:Int→Option (Bool)) (S90:V6→V1→Option V5) (x0:V6) (k:V1→Int→Option R):Option R:=
(g83_21 N S87 S88 S90 k k k x0)
theorem gen83 (S87) (S88) (S90) (h87:(ctr87 S87).holds cl) (h88:(ctr88 S88).holds cl) (h90:(ctr90 S90).holds cl) (x0) (k:List E→Option R):exec cl N c83 [(0,.v U0 x0)] (fun e env=>(retK d83 e env).bind k)=g83 N S87 S88 S90 x0 (fun r0 r1=>k [.v .str r0,.v U2 r1]):=by
 simp only [c83,t83_21 S87 S88 S90 h87 h88 h90,rk83_0,rk83_1,rk83_2,Option.bind_some]
 rfl
def ctr83 (S:V6→Option V7):Ctr:=cv1 83 U0 S fun b=> [.v .str b.1,.v U2 b.2]
def S83 (N:Nat) (x0:V6):Option V7:=g83 N (S87 N) (S88 N) (S90 N) x0 (fun (r0:V1) (r1:Int)=>some (r0,r1))
def g44_16 (k0:V0→Option R) (x0:V1):Option R:=
k0 (x0.map fun b=>(b.toNat:Int))
theorem t44_16 (x0):exec cl N c44_16 [(0,.v .str x0)] K=(g44_16 (fun y0=>exec cl N (.seq (.seq c44_2 c44_14) (.seq c44_15 .ret)) (e206 y0) K) x0):=by
 kernel_rfl
def g44_2 (k0:V0→Int→Int→Option R) (x0:V0):Option R:=
k0 x0 (x0.length:Int) (0:Int)
theorem t44_2 (x0):exec cl N c44_2 (e206 x0) K=(g44_2 (fun y0 y1 y2=>K .normal (e207 y0 y1 y2)) x0):=by
 kernel_rfl
theorem kp44_0 (x0 x1 x2):keep [3,8,9,10] (e207 x0 x1 x2)=(e207 x0 x1 x2):=by kernel_rfl
def g44_3 (k0:V0→Int→Int→Bool→Option R) (x0:V0) (x1 x2:Int):Option R:=
k0 x0 x1 x2 (decide (x2 < x1))
theorem t44_3 (x0 x1 x2):exec cl N c44_3 (e207 x0 x1 x2) K=(g44_3 (fun y0 y1 y2 y3=>K .normal (e208 y0 y1 y2 y3)) x0 x1 x2):=by
 kernel_rfl
theorem kp44_1 (x0 x1 x2 x3):keep [3,8,9,10] (e208 x0 x1 x2 x3)=(e207 x0 x1 x2):=by kernel_rfl
theorem hb44_0 (x0 x1 x2 x3):boolOf? (ent (e208 x0 x1 x2 x3) (.t 11))=some x3:=by kernel_rfl
def g44_9 (k0:V0→Int→Int→Int→Int→Bool→Option R) (x0:V0) (x1 x2:Int):Option R:=
if 0≤x2∧x2 < (x0.length:Int) then
if x2.toNat < x0.length then
let v940:Int:=(x0.getD x2.toNat (0:Int))
brB (decide (v940≥(65:Int))) (k0 x0 x2 v940 x1 x2 (decide (v940≤(90:Int)))) (k0 x0 x2 v940 x1 x2 false)
else none
else none
theorem t44_9 (x0 x1 x2):exec cl N c44_9 (e207 x0 x1 x2) K=(g44_9 (fun y0 y1 y2 y3 y4 y5=>exec cl N c44_8 (e209 y0 y1 y2 y3 y4 y5) K) x0 x1 x2):=by
 kernel_rfl
def g44_7 (k0:V0→Int→Int→Option R) (x0:V0) (x1 x2 x3 x4:Int) (x5:Bool):Option R:=
if 0≤x1∧x1 < (x0.length:Int) then
if x1.toNat < x0.length then
k0 (x0.set x1.toNat (IntKind.u8.wrap ((IntKind.u8.wrap (x2 - (65:Int)))+(97:Int)))) x3 x4
else none
else none
theorem t44_7 (x0 x1 x2 x3 x4 x5):exec cl N c44_7 (e209 x0 x1 x2 x3 x4 x5) K=(g44_7 (fun y0 y1 y2=>K .normal (e207 y0 y1 y2)) x0 x1 x2 x3 x4 x5):=by
 kernel_rfl
theorem kp44_2 (x0 x1 x2 x3 x4 x5):keep [3,8,9,10] (e209 x0 x1 x2 x3 x4 x5)=(e207 x0 x3 x4):=by kernel_rfl
theorem hb44_1 (x0 x1 x2 x3 x4 x5):boolOf? (ent (e209 x0 x1 x2 x3 x4 x5) (.t 20))=some x5:=by kernel_rfl
def g44_10 (k0:V0→Int→Int→Option R) (x0:V0) (x1 x2:Int):Option R:=
(g44_9 (fun y0 y1 y2 y3 y4 y5=>brB y5 (g44_7 k0 y0 y1 y2 y3 y4 y5) (k0 y0 y3 y4)) x0 x1 x2)
theorem t44_10 (x0 x1 x2):exec cl N c44_10 (e207 x0 x1 x2) K=(g44_10 (fun y0 y1 y2=>K .normal (e207 y0 y1 y2)) x0 x1 x2):=by
 simp only [c44_10,exec_out,exec_block,exec_seq,seqK_normal,seqK_exit,seqK_ret,t44_9,c44_8,exec_cond',hb44_1,Option.bind_some,brB_true,brB_false,t44_7,exec_skip,kp44_0,kp44_2,blockK_normal,blockK_ret,blockK_eq]
 rfl
def g44_11 (k0:V0→Int→Int→Option R) (x0:V0) (x1 x2:Int):Option R:=
k0 x0 x1 (IntKind.i64.wrap (x2+(1:Int)))
theorem t44_11 (x0 x1 x2):exec cl N c44_11 (e207 x0 x1 x2) K=(g44_11 (fun y0 y1 y2=>K .normal (e207 y0 y1 y2)) x0 x1 x2):=by
 kernel_rfl
def g44_12 (k0:V0→Int→Int→Option R) (k1:V0→Int→Int→Option R) (x0:V0) (x1 x2:Int):Option R:=
(g44_3 (fun y0 y1 y2 y3=>brB y3 ((g44_10 (g44_11 k0)) y0 y1 y2) (k1 y0 y1 y2)) x0 x1 x2)
theorem t44_12 (x0 x1 x2):exec cl N c44_12 (e207 x0 x1 x2) K=(g44_12 (fun y0 y1 y2=>K .normal (e207 y0 y1 y2)) (fun y0 y1 y2=>K (.exit 0) (e207 y0 y1 y2)) x0 x1 x2):=by
 simp only [c44_12,exec_seq,seqK_normal,seqK_exit,seqK_ret,t44_3,c44_4,exec_out,exec_cond',hb44_0,Option.bind_some,brB_true,brB_false,exec_skip,exec_exit,kp44_1,t44_10,t44_11]
 rfl
def l44_13 {R:Type} (k0:V0→Int→Int→Option R):Nat→V0→Int→Int→Option R
 | 0,_,_,_=>none
 | m+1,x0,x1,x2=>(g44_12 (l44_13 k0 m) k0 x0 x1 x2)
theorem lt44_13:∀ (m) (x0 x1 x2),iter [3,8,9,10] (fun env K=>exec cl N c44_12 env K) K m (e207 x0 x1 x2)=l44_13 (fun y0 y1 y2=>K (.exit 0) (e207 y0 y1 y2)) m x0 x1 x2:=by
 intro m
 induction m with
 | zero=>intros; rfl
 | succ m ih=>
   intro x0 x1 x2
   simp only [iter_succ,t44_12,loopK_normal,loopK_exit,loopK_ret,kp44_0,ih]
   rfl
theorem kp44_3 (x0 x1 x2):keep [3] (e207 x0 x1 x2)=(e206 x0):=by kernel_rfl
def g44_13 (N:Nat) (k0:V0→Option R) (x0:V0) (x1 x2:Int):Option R:=
l44_13 (fun y0 y1 y2=>k0 y0) N x0 x1 x2
theorem t44_13 (x0 x1 x2):exec cl N c44_13 (e207 x0 x1 x2) K=(g44_13 N (fun y0=>K (.exit 0) (e206 y0)) x0 x1 x2):=by
 simp only [c44_13,exec_out,exec_loop,kp44_0,lt44_13,kp44_3]
 rfl
theorem kp44_4 (x0):keep [3] (e206 x0)=(e206 x0):=by kernel_rfl
def g44_15 (k0:V1→Option R) (x0:V0):Option R:=
k0 (x0.map fun n=>UInt8.ofNat n.toNat)
theorem t44_15 (x0):exec cl N c44_15 (e206 x0) K=(g44_15 (fun y0=>K .normal [(2,.v .str y0)]) x0):=by
 kernel_rfl
def g44_16b (N:Nat) (k0:V1→Option R) (x0:V1):Option R:=
(g44_16 (g44_2 (g44_13 N ((g44_15 k0)))) x0)
theorem t44_16b (x0):exec cl N c44_16 [(0,.v .str x0)] K=(g44_16b N (fun y0=>K .ret [(2,.v .str y0)]) x0):=by
 simp only [exec_seq,seqK_normal,seqK_exit,seqK_ret,t44_16,t44_2,c44_14,exec_out,exec_block,t44_13,blockK_normal,blockK_ret,blockK_eq,kp44_4,t44_15,exec_ret]
 rfl
theorem rk44_0 (y0):retK d44 .ret [(2,.v .str y0)]=some [.v .str y0]:=by kernel_rfl
def g44 (N:Nat) (x0:V1) (k:V1→Option R):Option R:=
(g44_16b N k x0)
theorem gen44 (x0) (k:List E→Option R):exec cl N c44 [(0,.v .str x0)] (fun e env=>(retK d44 e env).bind k)=g44 N x0 (fun r0=>k [.v .str r0]):=by
 simp only [c44,t44_16b,rk44_0,Option.bind_some]
 rfl
def ctr44 (S:V1→Option V5):Ctr:=cv1 44 .str S fun b=> [.v .str b]
def S44 (N:Nat) (x0:V1):Option V5:=g44 N x0 (fun (r0:V1)=>some (r0))
def g66_0 (k0:V1→Option R) (x0:V1):Option R:=
k0 x0
theorem t66_0 (x0):exec cl N c66_0 [(0,.v .str x0)] K=(g66_0 (fun y0=>K .normal [(0,.v .str y0)]) x0):=by
 kernel_rfl
def g66_1 (k0:V1→Bool→Option R) (x0:V1):Option R:=
k0 x0 (decide ((x0.length:Int) > (16:Int)))
theorem t66_1 (x0):exec cl N c66_1 [(0,.v .str x0)] K=(g66_1 (fun y0 y1=>K .normal (e116 y0 y1)) x0):=by
 kernel_rfl
def g66_2 (k0:Int→Option R) (x0:V1) (x1:Bool):Option R:=
k0 (3:Int)
theorem t66_2 (x0 x1):exec cl N c66_2 (e116 x0 x1) K=(g66_2 (fun y0=>K .normal [(2,.v U2 y0)]) x0 x1):=by
 kernel_rfl
theorem kp66_0 (x0):keep [0,2] [(2,.v U2 x0)]=(e7 x0):=by kernel_rfl
theorem kp66_1 (x0 x1):keep [0,2] (e116 x0 x1)=(e8 x0):=by kernel_rfl
theorem hb66_0 (x0 x1):boolOf? (ent (e116 x0 x1) (.t 7))=some x1:=by kernel_rfl
def g66_8 (S44:V1→Option V5) (S83:V6→Option V7) (k0:Bool→Option R) (x0:V1):Option R:=
(S83 [x0]).bind fun r950=>
brB (r950.2 != (0:Int)) (k0 true) ((S44 x0).bind fun r952=>
k0 (r952 != x0))
theorem t66_8 (S44) (S83) (h44:(ctr44 S44).holds cl) (h83:(ctr83 S83).holds cl) (x0):exec cl N c66_8 (e8 x0) K=(g66_8 S44 S83 (fun y0=>exec cl N c66_7 [(21,.v .bool y0)] K) x0):=by
 rw [←put_eq h44]
 rw [←put_eq h83]
 kernel_rfl
def g66_6 (k0:Int→Option R) (x0:Bool):Option R:=
k0 (2:Int)
theorem t66_6 (x0):exec cl N c66_6 [(21,.v .bool x0)] K=(g66_6 (fun y0=>K .normal [(2,.v U2 y0)]) x0):=by
 kernel_rfl
theorem kp66_2 (x0):keep [2] [(2,.v U2 x0)]=[(2,.v U2 x0)]:=by kernel_rfl
theorem kp66_3 (x0):keep [2] [(21,.v .bool x0)]=[(2,.dead)]:=by kernel_rfl
theorem hb66_1 (x0):boolOf? (ent [(21,.v .bool x0)] (.t 21))=some x0:=by kernel_rfl
def g66_9 (k0:Int→Option R):Option R:=
k0 (0:Int)
theorem t66_9:exec cl N c66_9 [(2,.dead)] K=(g66_9 (fun y0=>K .normal [(2,.v U2 y0)])):=by
 kernel_rfl
def g66_10 (S44:V1→Option V5) (S83:V6→Option V7) (k0:Int→Option R) (k1:Int→Option R) (x0:V1):Option R:=
(g66_0 (g66_1 (fun y0 y1=>brB y1 (g66_2 k0 y0 y1) ((g66_8 S44 S83 (fun y0=>brB y0 (g66_6 k1 y0) (g66_9 k1))) y0))) x0)
theorem t66_10 (S44) (S83) (h44:(ctr44 S44).holds cl) (h83:(ctr83 S83).holds cl) (x0):exec cl N c66_10 [(0,.v .str x0)] K=(g66_10 S44 S83 (fun y0=>K .ret (e7 y0)) (fun y0=>K .ret [(2,.v U2 y0)]) x0):=by
 simp only [c66_10,exec_seq,seqK_normal,seqK_exit,seqK_ret,t66_0,t66_1,c66_3,exec_out,exec_cond',hb66_0,Option.bind_some,brB_true,brB_false,t66_2,exec_ret,exec_skip,kp66_0,kp66_1,t66_8 S44 S83 h44 h83,c66_7,hb66_1,t66_6,kp66_2,kp66_3,t66_9]
 rfl
theorem rk66_0 (y0):retK d66 .ret (e7 y0)=some [.v U2 y0]:=by kernel_rfl
theorem rk66_1 (y0):retK d66 .ret [(2,.v U2 y0)]=some [.v U2 y0]:=by kernel_rfl
def g66 (S44:V1→Option V5) (S83:V6→Option V7) (x0:V1) (k:Int→Option R):Option R:=
(g66_10 S44 S83 k k x0)
theorem gen66 (S44) (S83) (h44:(ctr44 S44).holds cl) (h83:(ctr83 S83).holds cl) (x0) (k:List E→Option R):exec cl N c66 [(0,.v .str x0)] (fun e env=>(retK d66 e env).bind k)=g66 S44 S83 x0 (fun r0=>k [.v U2 r0]):=by
 simp only [c66,t66_10 S44 S83 h44 h83,rk66_0,rk66_1,Option.bind_some]
 rfl
def ctr66 (S:V1→Option (Int)):Ctr:=cv1 66 .str S fun b=> [.v U2 b]
def S66 (N:Nat) (x0:V1):Option (Int):=g66 (S44 N) (S83 N) x0 (fun (r0:Int)=>some (r0))
def g84_0 (k0:V6→V1→Option R) (x0:V6) (x1:V1):Option R:=
k0 x0 x1
theorem t84_0 (x0 x1):exec cl N c84_0 (e28 x0 x1) K=(g84_0 (fun y0 y1=>K .normal (e28 y0 y1)) x0 x1):=by
 kernel_rfl
def g84_1 (k0:V6→V1→Int→Int→Option R) (x0:V6) (x1:V1):Option R:=
k0 x0 x1 (x0.length:Int) (0:Int)
theorem t84_1 (x0 x1):exec cl N c84_1 (e28 x0 x1) K=(g84_1 (fun y0 y1 y2 y3=>K .normal (e210 y0 y1 y2 y3)) x0 x1):=by
 kernel_rfl
theorem kp84_0 (x0 x1 x2 x3):keep [0,1,7,8] (e210 x0 x1 x2 x3)=(e210 x0 x1 x2 x3):=by kernel_rfl
def g84_2 (k0:V6→V1→Int→Int→Bool→Option R) (x0:V6) (x1:V1) (x2 x3:Int):Option R:=
k0 x0 x1 x2 x3 (decide (x3 < x2))
theorem t84_2 (x0 x1 x2 x3):exec cl N c84_2 (e210 x0 x1 x2 x3) K=(g84_2 (fun y0 y1 y2 y3 y4=>K .normal (e211 y0 y1 y2 y3 y4)) x0 x1 x2 x3):=by
 kernel_rfl
theorem kp84_1 (x0 x1 x2 x3 x4):keep [0,1,7,8] (e211 x0 x1 x2 x3 x4)=(e210 x0 x1 x2 x3):=by kernel_rfl
theorem hb84_0 (x0 x1 x2 x3 x4):boolOf? (ent (e211 x0 x1 x2 x3 x4) (.t 9))=some x4:=by kernel_rfl
def g84_8 (k0:V6→V1→Int→Int→Int→Bool→Option R) (x0:V6) (x1:V1) (x2 x3:Int):Option R:=
if 0≤x3∧x3 < (x0.length:Int) then
k0 x0 x1 x3 x2 x3 (x1==(x0.getD x3.toNat []))
else none
theorem t84_8 (x0 x1 x2 x3):exec cl N c84_8 (e210 x0 x1 x2 x3) K=(g84_8 (fun y0 y1 y2 y3 y4 y5=>exec cl N c84_7 (e212 y0 y1 y2 y3 y4 y5) K) x0 x1 x2 x3):=by
 kernel_rfl
def g84_6 (k0:Int→Option R) (x0:V6) (x1:V1) (x2 x3 x4:Int) (x5:Bool):Option R:=
k0 x2
theorem t84_6 (x0 x1 x2 x3 x4 x5):exec cl N c84_6 (e212 x0 x1 x2 x3 x4 x5) K=(g84_6 (fun y0=>K .normal [(4,.v U2 y0)]) x0 x1 x2 x3 x4 x5):=by
 kernel_rfl
theorem kp84_2 (x0):keep [0,1,4,7,8] [(4,.v U2 x0)]=(e184 x0):=by kernel_rfl
theorem kp84_3 (x0 x1 x2 x3 x4 x5):keep [0,1,4,7,8] (e212 x0 x1 x2 x3 x4 x5)=(e213 x0 x1 x3 x4):=by kernel_rfl
theorem hb84_1 (x0 x1 x2 x3 x4 x5):boolOf? (ent (e212 x0 x1 x2 x3 x4 x5) (.t 16))=some x5:=by kernel_rfl
theorem kp84_4 (x0):keep [0,1,4,7,8] (e184 x0)=(e184 x0):=by kernel_rfl
theorem kp84_5 (x0 x1 x2 x3):keep [0,1,4,7,8] (e213 x0 x1 x2 x3)=(e213 x0 x1 x2 x3):=by kernel_rfl
def g84_10 (k0:V6→V1→Int→Int→Option R) (x0:V6) (x1:V1) (x2 x3:Int):Option R:=
k0 x0 x1 x2 (IntKind.i64.wrap (x3+(1:Int)))
theorem t84_10 (x0 x1 x2 x3):exec cl N c84_10 (e213 x0 x1 x2 x3) K=(g84_10 (fun y0 y1 y2 y3=>K .normal (e210 y0 y1 y2 y3)) x0 x1 x2 x3):=by
 kernel_rfl
def g84_11 (k0:Int→Option R) (k1:V6→V1→Int→Int→Option R) (k2:V6→V1→Int→Int→Option R) (x0:V6) (x1:V1) (x2 x3:Int):Option R:=
(g84_2 (fun y0 y1 y2 y3 y4=>brB y4 ((g84_8 (fun y0 y1 y2 y3 y4 y5=>brB y5 (g84_6 k0 y0 y1 y2 y3 y4 y5) (((g84_10 k1)) y0 y1 y3 y4))) y0 y1 y2 y3) (k2 y0 y1 y2 y3)) x0 x1 x2 x3)
theorem t84_11 (x0 x1 x2 x3):exec cl N c84_11 (e210 x0 x1 x2 x3) K=(g84_11 (fun y0=>K .ret (e184 y0)) (fun y0 y1 y2 y3=>K .normal (e210 y0 y1 y2 y3)) (fun y0 y1 y2 y3=>K (.exit 0) (e210 y0 y1 y2 y3)) x0 x1 x2 x3):=by
 simp only [c84_11,exec_seq,seqK_normal,seqK_exit,seqK_ret,t84_2,c84_3,exec_out,exec_cond',hb84_0,Option.bind_some,brB_true,brB_false,exec_skip,exec_exit,kp84_1,c84_9,exec_block,t84_8,c84_7,hb84_1,t84_6,exec_ret,kp84_2,kp84_3,blockK_normal,blockK_ret,blockK_eq,kp84_4,kp84_5,t84_10]
 rfl
def l84_12 {R:Type} (k0:Int→Option R) (k1:V6→V1→Int→Int→Option R):Nat→V6→V1→Int→Int→Option R
 | 0,_,_,_,_=>none
 | m+1,x0,x1,x2,x3=>(g84_11 k0 (l84_12 k0 k1 m) k1 x0 x1 x2 x3)
theorem lt84_12:∀ (m) (x0 x1 x2 x3),iter [0,1,7,8] (fun env K=>exec cl N c84_11 env K) K m (e210 x0 x1 x2 x3)=l84_12 (fun y0=>K .ret (e184 y0)) (fun y0 y1 y2 y3=>K (.exit 0) (e210 y0 y1 y2 y3)) m x0 x1 x2 x3:=by
 intro m
 induction m with
 | zero=>intros; rfl
 | succ m ih=>
   intro x0 x1 x2 x3
   simp only [iter_succ,t84_11,loopK_normal,loopK_exit,loopK_ret,kp84_0,ih]
   rfl
theorem kp84_6 (x0):keep [4] (e184 x0)=[(4,.v U2 x0)]:=by kernel_rfl
theorem kp84_7 (x0 x1 x2 x3):keep [4] (e210 x0 x1 x2 x3)=[(4,.dead)]:=by kernel_rfl
def g84_12 (N:Nat) (k0:Int→Option R) (k1:Option R) (x0:V6) (x1:V1) (x2 x3:Int):Option R:=
l84_12 k0 (fun y0 y1 y2 y3=>k1) N x0 x1 x2 x3
theorem t84_12 (x0 x1 x2 x3):exec cl N c84_12 (e210 x0 x1 x2 x3) K=(g84_12 N (fun y0=>K .ret [(4,.v U2 y0)]) (K (.exit 0) [(4,.dead)]) x0 x1 x2 x3):=by
 simp only [c84_12,exec_out,exec_loop,kp84_0,lt84_12,kp84_6,kp84_7]
 rfl
theorem kp84_8 (x0):keep [4] [(4,.v U2 x0)]=[(4,.v U2 x0)]:=by kernel_rfl
theorem kp84_9:keep [4] [(4,.dead)]=[(4,.dead)]:=by kernel_rfl
def g84_14 (k0:Int→Option R):Option R:=
k0 (-1:Int)
theorem t84_14:exec cl N c84_14 [(4,.dead)] K=(g84_14 (fun y0=>K .normal [(4,.v U2 y0)])):=by
 kernel_rfl
def g84_15 (N:Nat) (k0:Int→Option R) (x0:V6) (x1:V1):Option R:=
(g84_0 (g84_1 (g84_12 N k0 (g84_14 k0))) x0 x1)
theorem t84_15 (x0 x1):exec cl N c84_15 (e28 x0 x1) K=(g84_15 N (fun y0=>K .ret [(4,.v U2 y0)]) x0 x1):=by
 simp only [c84_15,exec_seq,seqK_normal,seqK_exit,seqK_ret,t84_0,t84_1,c84_13,exec_out,exec_block,t84_12,blockK_normal,blockK_ret,blockK_eq,kp84_8,kp84_9,t84_14,exec_ret]
 rfl
theorem rk84_0 (y0):retK d84 .ret [(4,.v U2 y0)]=some [.v U2 y0]:=by kernel_rfl
def g84 (N:Nat) (x0:V6) (x1:V1) (k:Int→Option R):Option R:=
(g84_15 N k x0 x1)
theorem gen84 (x0 x1) (k:List E→Option R):exec cl N c84 (e28 x0 x1) (fun e env=>(retK d84 e env).bind k)=g84 N x0 x1 (fun r0=>k [.v U2 r0]):=by
 simp only [c84,t84_15,rk84_0,Option.bind_some]
 rfl
def ctr84 (S:V6→V1→Option (Int)):Ctr:=cv2 84 U0 .str S fun b=> [.v U2 b]
def S84 (N:Nat) (x0:V6) (x1:V1):Option (Int):=g84 N x0 x1 (fun (r0:Int)=>some (r0))
def g67_2 (S84:V6→V1→Option (Int)) (k0:Bool→Option R) (x0:V6) (x1:V1):Option R:=
(S84 x0 x1).bind fun r965=>
k0 (decide (r965≥(0:Int)))
theorem t67_2 (S84) (h84:(ctr84 S84).holds cl) (x0 x1):exec cl N c67_2 (e28 x0 x1) K=(g67_2 S84 (fun y0=>exec cl N .ret [(4,.v .bool y0)] K) x0 x1):=by
 rw [←put_eq h84]
 kernel_rfl
def g67_2b (S84:V6→V1→Option (Int)) (k0:Bool→Option R) (x0:V6) (x1:V1):Option R:=
(g67_2 S84 k0 x0 x1)
theorem t67_2b (S84) (h84:(ctr84 S84).holds cl) (x0 x1):exec cl N c67_2 (e28 x0 x1) K=(g67_2b S84 (fun y0=>K .ret [(4,.v .bool y0)]) x0 x1):=by
 simp only [exec_seq,seqK_normal,seqK_exit,seqK_ret,t67_2 S84 h84,exec_ret]
 rfl
theorem rk67_0 (y0):retK d67 .ret [(4,.v .bool y0)]=some [.v .bool y0]:=by kernel_rfl
def g67 (S84:V6→V1→Option (Int)) (x0:V6) (x1:V1) (k:Bool→Option R):Option R:=
(g67_2b S84 k x0 x1)
theorem gen67 (S84) (h84:(ctr84 S84).holds cl) (x0 x1) (k:List E→Option R):exec cl N c67 (e28 x0 x1) (fun e env=>(retK d67 e env).bind k)=g67 S84 x0 x1 (fun r0=>k [.v .bool r0]):=by
 simp only [c67,t67_2b S84 h84,rk67_0,Option.bind_some]
 rfl
def ctr67 (S:V6→V1→Option (Bool)):Ctr:=cv2 67 U0 .str S fun b=> [.v .bool b]
def S67 (N:Nat) (x0:V6) (x1:V1):Option (Bool):=g67 (S84 N) x0 x1 (fun (r0:Bool)=>some (r0))
def g43_0 (k0:V15→Option R) (x0:V15):Option R:=
k0 x0
theorem t43_0 (x0):exec cl N c43_0 [(0,.v U13 x0)] K=(g43_0 (fun y0=>K .normal [(1,.loc U13 .no y0)]) x0):=by
 kernel_rfl
def g43_1 (k0:V15→Bool→Option R) (x0:V15):Option R:=
brB (decide (x0.1 < (1:Int))) (k0 x0 true) (brB (decide (x0.1 > (12:Int))) (k0 x0 true) (brB (decide (x0.2.1 < (0:Int))) (k0 x0 true) (k0 x0 (decide (x0.2.1 > (999:Int))))))
theorem t43_1 (x0):exec cl N c43_1 [(1,.loc U13 .no x0)] K=(g43_1 (fun y0 y1=>K .normal (e214 y0 y1)) x0):=by
 kernel_rfl
def g43_2 (k0:Int→Option R) (x0:V15) (x1:Bool):Option R:=
k0 (6:Int)
theorem t43_2 (x0 x1):exec cl N c43_2 (e214 x0 x1) K=(g43_2 (fun y0=>K .normal [(2,.v U2 y0)]) x0 x1):=by
 kernel_rfl
theorem kp43_0 (x0):keep [1,2] [(2,.v U2 x0)]=(e35 x0):=by kernel_rfl
def g43_3 (k0:V15→Bool→Option R) (x0:V15) (x1:Bool):Option R:=
k0 x0 (decide ((x0.2.2.1.length:Int) > (20:Int)))
theorem t43_3 (x0 x1):exec cl N c43_3 (e214 x0 x1) K=(g43_3 (fun y0 y1=>K .normal (e215 y0 y1)) x0 x1):=by
 kernel_rfl
def g43_4 (k0:Int→Option R) (x0:V15) (x1:Bool):Option R:=
k0 (3:Int)
theorem t43_4 (x0 x1):exec cl N c43_4 (e215 x0 x1) K=(g43_4 (fun y0=>K .normal [(2,.v U2 y0)]) x0 x1):=by
 kernel_rfl
theorem kp43_1 (x0 x1):keep [1,2] (e215 x0 x1)=(e36 x0):=by kernel_rfl
theorem hb43_0 (x0 x1):boolOf? (ent (e215 x0 x1) (.t 25))=some x1:=by kernel_rfl
theorem kp43_2 (x0):keep [1,2] (e35 x0)=(e35 x0):=by kernel_rfl
theorem kp43_3 (x0):keep [1,2] (e36 x0)=(e36 x0):=by kernel_rfl
theorem hb43_1 (x0 x1):boolOf? (ent (e214 x0 x1) (.t 6))=some x1:=by kernel_rfl
def g43_8 (k0:V15→V6→Int→Int→Option R) (x0:V15):Option R:=
k0 x0 x0.2.2.1 (x0.2.2.1.length:Int) (0:Int)
theorem t43_8 (x0):exec cl N c43_8 (e36 x0) K=(g43_8 (fun y0 y1 y2 y3=>K .normal (e216 y0 y1 y2 y3)) x0):=by
 kernel_rfl
theorem kp43_4 (x0 x1 x2 x3):keep [1,31,32,33] (e216 x0 x1 x2 x3)=(e216 x0 x1 x2 x3):=by kernel_rfl
def g43_9 (k0:V15→V6→Int→Int→Bool→Option R) (x0:V15) (x1:V6) (x2 x3:Int):Option R:=
k0 x0 x1 x2 x3 (decide (x3 < x2))
theorem t43_9 (x0 x1 x2 x3):exec cl N c43_9 (e216 x0 x1 x2 x3) K=(g43_9 (fun y0 y1 y2 y3 y4=>K .normal (e217 y0 y1 y2 y3 y4)) x0 x1 x2 x3):=by
 kernel_rfl
theorem kp43_5 (x0 x1 x2 x3 x4):keep [1,31,32,33] (e217 x0 x1 x2 x3 x4)=(e216 x0 x1 x2 x3):=by kernel_rfl
theorem hb43_2 (x0 x1 x2 x3 x4):boolOf? (ent (e217 x0 x1 x2 x3 x4) (.t 34))=some x4:=by kernel_rfl
def g43_11 (k0:V15→Int→V1→V6→Int→Int→Option R) (x0:V15) (x1:V6) (x2 x3:Int):Option R:=
if 0≤x3∧x3 < (x1.length:Int) then
k0 x0 x3 (x1.getD x3.toNat []) x1 x2 x3
else none
theorem t43_11 (x0 x1 x2 x3):exec cl N c43_11 (e216 x0 x1 x2 x3) K=(g43_11 (fun y0 y1 y2 y3 y4 y5=>K .normal (e218 y0 y1 y2 y3 y4 y5)) x0 x1 x2 x3):=by
 kernel_rfl
def g43_16 (S66:V1→Option (Int)) (k0:V15→Int→V1→Int→V6→Int→Int→Bool→Option R) (x0:V15) (x1:Int) (x2:V1) (x3:V6) (x4 x5:Int):Option R:=
(S66 x2).bind fun r976=>
k0 x0 x1 x2 r976 x3 x4 x5 (r976 != (0:Int))
theorem t43_16 (S66) (h66:(ctr66 S66).holds cl) (x0 x1 x2 x3 x4 x5):exec cl N c43_16 (e218 x0 x1 x2 x3 x4 x5) K=(g43_16 S66 (fun y0 y1 y2 y3 y4 y5 y6 y7=>exec cl N c43_15 (e219 y0 y1 y2 y3 y4 y5 y6 y7) K) x0 x1 x2 x3 x4 x5):=by
 rw [←put_eq h66]
 kernel_rfl
def g43_14 (k0:Int→Option R) (x0:V15) (x1:Int) (x2:V1) (x3:Int) (x4:V6) (x5 x6:Int) (x7:Bool):Option R:=
k0 x3
theorem t43_14 (x0 x1 x2 x3 x4 x5 x6 x7):exec cl N c43_14 (e219 x0 x1 x2 x3 x4 x5 x6 x7) K=(g43_14 (fun y0=>K .normal [(2,.v U2 y0)]) x0 x1 x2 x3 x4 x5 x6 x7):=by
 kernel_rfl
theorem kp43_6 (x0):keep [1,2,3,4,31,32,33] [(2,.v U2 x0)]=(e220 x0):=by kernel_rfl
theorem kp43_7 (x0 x1 x2 x3 x4 x5 x6 x7):keep [1,2,3,4,31,32,33] (e219 x0 x1 x2 x3 x4 x5 x6 x7)=(e221 x0 x1 x2 x4 x5 x6):=by kernel_rfl
theorem hb43_3 (x0 x1 x2 x3 x4 x5 x6 x7):boolOf? (ent (e219 x0 x1 x2 x3 x4 x5 x6 x7) (.t 41))=some x7:=by kernel_rfl
def g43_17 (S67:V6→V1→Option (Bool)) (k0:V15→V6→Int→Int→Bool→Option R) (x0:V15) (x1:Int) (x2:V1) (x3:V6) (x4 x5:Int):Option R:=
if 0≤(0:Int)∧(0:Int)≤x1∧x1≤(x0.2.2.1.length:Int)∧(x0.2.2.1.length:Int)≤(x0.2.2.1.length:Int) then
(S67 ((x0.2.2.1.drop (0:Int).toNat).take (x1.toNat - (0:Int).toNat)) x2).bind fun r979=>
k0 x0 x3 x4 x5 r979
else none
theorem t43_17 (S67) (h67:(ctr67 S67).holds cl) (x0 x1 x2 x3 x4 x5):exec cl N c43_17 (e221 x0 x1 x2 x3 x4 x5) K=(g43_17 S67 (fun y0 y1 y2 y3 y4=>K .normal (e222 y0 y1 y2 y3 y4)) x0 x1 x2 x3 x4 x5):=by
 rw [←put_eq h67]
 kernel_rfl
def g43_18 (k0:Int→Option R) (x0:V15) (x1:V6) (x2 x3:Int) (x4:Bool):Option R:=
k0 (5:Int)
theorem t43_18 (x0 x1 x2 x3 x4):exec cl N c43_18 (e222 x0 x1 x2 x3 x4) K=(g43_18 (fun y0=>K .normal [(2,.v U2 y0)]) x0 x1 x2 x3 x4):=by
 kernel_rfl
theorem kp43_8 (x0):keep [1,2,31,32,33] [(2,.v U2 x0)]=(e223 x0):=by kernel_rfl
theorem kp43_9 (x0 x1 x2 x3 x4):keep [1,2,31,32,33] (e222 x0 x1 x2 x3 x4)=(e224 x0 x1 x2 x3):=by kernel_rfl
theorem hb43_4 (x0 x1 x2 x3 x4):boolOf? (ent (e222 x0 x1 x2 x3 x4) (.t 48))=some x4:=by kernel_rfl
theorem kp43_10 (x0):keep [1,2,31,32,33] (e220 x0)=(e223 x0):=by kernel_rfl
theorem kp43_11 (x0):keep [1,2,31,32,33] (e223 x0)=(e223 x0):=by kernel_rfl
theorem kp43_12 (x0 x1 x2 x3):keep [1,2,31,32,33] (e224 x0 x1 x2 x3)=(e224 x0 x1 x2 x3):=by kernel_rfl
def g43_21 (k0:V15→V6→Int→Int→Option R) (x0:V15) (x1:V6) (x2 x3:Int):Option R:=
k0 x0 x1 x2 (IntKind.i64.wrap (x3+(1:Int)))
theorem t43_21 (x0 x1 x2 x3):exec cl N c43_21 (e224 x0 x1 x2 x3) K=(g43_21 (fun y0 y1 y2 y3=>K .normal (e216 y0 y1 y2 y3)) x0 x1 x2 x3):=by
 kernel_rfl
def g43_22 (S66:V1→Option (Int)) (S67:V6→V1→Option (Bool)) (k0:Int→Option R) (k1:V15→V6→Int→Int→Option R) (k2:V15→V6→Int→Int→Option R) (x0:V15) (x1:V6) (x2 x3:Int):Option R:=
(g43_9 (fun y0 y1 y2 y3 y4=>brB y4 ((g43_11 (g43_16 S66 (fun y0 y1 y2 y3 y4 y5 y6 y7=>brB y7 (g43_14 k0 y0 y1 y2 y3 y4 y5 y6 y7) ((g43_17 S67 (fun y0 y1 y2 y3 y4=>brB y4 (g43_18 k0 y0 y1 y2 y3 y4) (((g43_21 k1)) y0 y1 y2 y3))) y0 y1 y2 y4 y5 y6)))) y0 y1 y2 y3) (k2 y0 y1 y2 y3)) x0 x1 x2 x3)
theorem t43_22 (S66) (S67) (h66:(ctr66 S66).holds cl) (h67:(ctr67 S67).holds cl) (x0 x1 x2 x3):exec cl N c43_22 (e216 x0 x1 x2 x3) K=(g43_22 S66 S67 (fun y0=>K .ret (e223 y0)) (fun y0 y1 y2 y3=>K .normal (e216 y0 y1 y2 y3)) (fun y0 y1 y2 y3=>K (.exit 1) (e216 y0 y1 y2 y3)) x0 x1 x2 x3):=by
 simp only [c43_22,exec_seq,seqK_normal,seqK_exit,seqK_ret,t43_9,c43_10,exec_out,exec_cond',hb43_2,Option.bind_some,brB_true,brB_false,exec_skip,exec_exit,kp43_5,c43_20,exec_block,t43_11,t43_16 S66 h66,c43_15,hb43_3,t43_14,exec_ret,kp43_6,kp43_7,t43_17 S67 h67,c43_19,hb43_4,t43_18,kp43_8,kp43_9,blockK_normal,blockK_ret,blockK_eq,kp43_10,kp43_11,kp43_12,t43_21]
 rfl
def l43_23 {R:Type} (S66:V1→Option (Int)) (S67:V6→V1→Option (Bool)) (k0:Int→Option R) (k1:V15→V6→Int→Int→Option R):Nat→V15→V6→Int→Int→Option R
 | 0,_,_,_,_=>none
 | m+1,x0,x1,x2,x3=>(g43_22 S66 S67 k0 (l43_23 S66 S67 k0 k1 m) k1 x0 x1 x2 x3)
theorem lt43_23 (S66) (S67) (h66:(ctr66 S66).holds cl) (h67:(ctr67 S67).holds cl):∀ (m) (x0 x1 x2 x3),iter [1,31,32,33] (fun env K=>exec cl N c43_22 env K) K m (e216 x0 x1 x2 x3)=l43_23 S66 S67 (fun y0=>K .ret (e223 y0)) (fun y0 y1 y2 y3=>K (.exit 1) (e216 y0 y1 y2 y3)) m x0 x1 x2 x3:=by
 intro m
 induction m with
 | zero=>intros; rfl
 | succ m ih=>
   intro x0 x1 x2 x3
   simp only [iter_succ,t43_22 S66 S67 h66 h67,loopK_normal,loopK_exit,loopK_ret,kp43_4,ih]
   rfl
theorem kp43_13 (x0):keep [2] (e223 x0)=[(2,.v U2 x0)]:=by kernel_rfl
theorem kp43_14 (x0 x1 x2 x3):keep [2] (e216 x0 x1 x2 x3)=[(2,.dead)]:=by kernel_rfl
def g43_23 (N:Nat) (S66:V1→Option (Int)) (S67:V6→V1→Option (Bool)) (k0:Int→Option R) (k1:Option R) (x0:V15) (x1:V6) (x2 x3:Int):Option R:=
l43_23 S66 S67 k0 (fun y0 y1 y2 y3=>k1) N x0 x1 x2 x3
theorem t43_23 (S66) (S67) (h66:(ctr66 S66).holds cl) (h67:(ctr67 S67).holds cl) (x0 x1 x2 x3):exec cl N c43_23 (e216 x0 x1 x2 x3) K=(g43_23 N S66 S67 (fun y0=>K .ret [(2,.v U2 y0)]) (K (.exit 1) [(2,.dead)]) x0 x1 x2 x3):=by
 simp only [c43_23,exec_out,exec_loop,kp43_4,lt43_23 S66 S67 h66 h67,kp43_13,kp43_14]
 rfl
theorem kp43_15 (x0):keep [2] [(2,.v U2 x0)]=[(2,.v U2 x0)]:=by kernel_rfl
theorem kp43_16:keep [2] [(2,.dead)]=[(2,.dead)]:=by kernel_rfl
def g43_25 (k0:Int→Option R):Option R:=
k0 (0:Int)
theorem t43_25:exec cl N c43_25 [(2,.dead)] K=(g43_25 (fun y0=>K .normal [(2,.v U2 y0)])):=by
 kernel_rfl
def g43_26 (N:Nat) (S66:V1→Option (Int)) (S67:V6→V1→Option (Bool)) (k0:Int→Option R) (k1:Int→Option R) (x0:V15):Option R:=
(g43_0 (g43_1 (fun y0 y1=>brB y1 (g43_2 k0 y0 y1) (g43_3 (fun y0 y1=>brB y1 (g43_4 k0 y0 y1) ((((g43_8 (g43_23 N S66 S67 k1 (g43_25 k1))))) y0)) y0 y1))) x0)
theorem t43_26 (S66) (S67) (h66:(ctr66 S66).holds cl) (h67:(ctr67 S67).holds cl) (x0):exec cl N c43_26 [(0,.v U13 x0)] K=(g43_26 N S66 S67 (fun y0=>K .ret (e35 y0)) (fun y0=>K .ret [(2,.v U2 y0)]) x0):=by
 simp only [c43_26,exec_seq,seqK_normal,seqK_exit,seqK_ret,t43_0,c43_7,exec_out,exec_block,t43_1,c43_6,exec_cond',hb43_1,Option.bind_some,brB_true,brB_false,t43_2,exec_ret,t43_3,c43_5,hb43_0,t43_4,exec_skip,kp43_0,kp43_1,kp43_2,kp43_3,blockK_normal,blockK_ret,blockK_eq,t43_8,c43_24,t43_23 S66 S67 h66 h67,kp43_15,kp43_16,t43_25]
 rfl
theorem rk43_0 (y0):retK d43 .ret (e35 y0)=some [.v U2 y0]:=by kernel_rfl
theorem rk43_1 (y0):retK d43 .ret [(2,.v U2 y0)]=some [.v U2 y0]:=by kernel_rfl
def g43 (N:Nat) (S66:V1→Option (Int)) (S67:V6→V1→Option (Bool)) (x0:V15) (k:Int→Option R):Option R:=
(g43_26 N S66 S67 k k x0)
theorem gen43 (S66) (S67) (h66:(ctr66 S66).holds cl) (h67:(ctr67 S67).holds cl) (x0) (k:List E→Option R):exec cl N c43 [(0,.v U13 x0)] (fun e env=>(retK d43 e env).bind k)=g43 N S66 S67 x0 (fun r0=>k [.v U2 r0]):=by
 simp only [c43,t43_26 S66 S67 h66 h67,rk43_0,rk43_1,Option.bind_some]
 rfl
def ctr43 (S:V15→Option (Int)):Ctr:=cv1 43 U13 S fun b=> [.v U2 b]
def S43 (N:Nat) (x0:V15):Option (Int):=g43 N (S66 N) (S67 N) x0 (fun (r0:Int)=>some (r0))
def g16_0 (k0:V22→Option R) (x0:V22):Option R:=
k0 x0
theorem t16_0 (x0):exec cl N c16_0 [(0,.v U17 x0)] K=(g16_0 (fun y0=>K .normal [(1,.loc U17 .no y0)]) x0):=by
 kernel_rfl
def g16_1 (S42:V1→Option (Bool)) (k0:V22→Bool→Option R) (x0:V22):Option R:=
(S42 x0.1).bind fun r985=>
k0 x0 (!r985)
theorem t16_1 (S42) (h42:(ctr42 S42).holds cl) (x0):exec cl N c16_1 [(1,.loc U17 .no x0)] K=(g16_1 S42 (fun y0 y1=>K .normal (e225 y0 y1)) x0):=by
 rw [←put_eq h42]
 kernel_rfl
def g16_2 (k0:Int→Option R) (x0:V22) (x1:Bool):Option R:=
k0 (2:Int)
theorem t16_2 (x0 x1):exec cl N c16_2 (e225 x0 x1) K=(g16_2 (fun y0=>K .normal [(2,.v U2 y0)]) x0 x1):=by
 kernel_rfl
theorem kp16_0 (x0):keep [1,2] [(2,.v U2 x0)]=(e35 x0):=by kernel_rfl
def g16_3 (k0:V22→Bool→Option R) (x0:V22) (x1:Bool):Option R:=
k0 x0 (decide ((x0.2.1.length:Int) > (30:Int)))
theorem t16_3 (x0 x1):exec cl N c16_3 (e225 x0 x1) K=(g16_3 (fun y0 y1=>K .normal (e226 y0 y1)) x0 x1):=by
 kernel_rfl
def g16_4 (k0:Int→Option R) (x0:V22) (x1:Bool):Option R:=
k0 (3:Int)
theorem t16_4 (x0 x1):exec cl N c16_4 (e226 x0 x1) K=(g16_4 (fun y0=>K .normal [(2,.v U2 y0)]) x0 x1):=by
 kernel_rfl
theorem kp16_1 (x0 x1):keep [1,2] (e226 x0 x1)=(e45 x0):=by kernel_rfl
theorem hb16_0 (x0 x1):boolOf? (ent (e226 x0 x1) (.t 11))=some x1:=by kernel_rfl
theorem kp16_2 (x0):keep [1,2] (e35 x0)=(e35 x0):=by kernel_rfl
theorem kp16_3 (x0):keep [1,2] (e45 x0)=(e45 x0):=by kernel_rfl
theorem hb16_1 (x0 x1):boolOf? (ent (e225 x0 x1) (.t 6))=some x1:=by kernel_rfl
def g16_8 (k0:V17→Int→Int→Option R) (x0:V22):Option R:=
k0 x0.2.1 (x0.2.1.length:Int) (0:Int)
theorem t16_8 (x0):exec cl N c16_8 (e45 x0) K=(g16_8 (fun y0 y1 y2=>K .normal (e227 y0 y1 y2)) x0):=by
 kernel_rfl
theorem kp16_4 (x0 x1 x2):keep [17,18,19] (e227 x0 x1 x2)=(e227 x0 x1 x2):=by kernel_rfl
def g16_9 (k0:V17→Int→Int→Bool→Option R) (x0:V17) (x1 x2:Int):Option R:=
k0 x0 x1 x2 (decide (x2 < x1))
theorem t16_9 (x0 x1 x2):exec cl N c16_9 (e227 x0 x1 x2) K=(g16_9 (fun y0 y1 y2 y3=>K .normal (e228 y0 y1 y2 y3)) x0 x1 x2):=by
 kernel_rfl
theorem kp16_5 (x0 x1 x2 x3):keep [17,18,19] (e228 x0 x1 x2 x3)=(e227 x0 x1 x2):=by kernel_rfl
theorem hb16_2 (x0 x1 x2 x3):boolOf? (ent (e228 x0 x1 x2 x3) (.t 20))=some x3:=by kernel_rfl
def g16_16 (S43:V15→Option (Int)) (k0:Int→V17→Int→Int→Bool→Option R) (x0:V17) (x1 x2:Int):Option R:=
if 0≤x2∧x2 < (x0.length:Int) then
(S43 (x0.getD x2.toNat ((0:Int),((0:Int),([],()))))).bind fun r989=>
k0 r989 x0 x1 x2 (r989 != (0:Int))
else none
theorem t16_16 (S43) (h43:(ctr43 S43).holds cl) (x0 x1 x2):exec cl N c16_16 (e227 x0 x1 x2) K=(g16_16 S43 (fun y0 y1 y2 y3 y4=>exec cl N c16_15 (e229 y0 y1 y2 y3 y4) K) x0 x1 x2):=by
 rw [←put_eq h43]
 kernel_rfl
def g16_14 (k0:Int→Option R) (x0:Int) (x1:V17) (x2 x3:Int) (x4:Bool):Option R:=
k0 x0
theorem t16_14 (x0 x1 x2 x3 x4):exec cl N c16_14 (e229 x0 x1 x2 x3 x4) K=(g16_14 (fun y0=>K .normal [(2,.v U2 y0)]) x0 x1 x2 x3 x4):=by
 kernel_rfl
theorem kp16_6 (x0):keep [2,17,18,19] [(2,.v U2 x0)]=(e230 x0):=by kernel_rfl
theorem kp16_7 (x0 x1 x2 x3 x4):keep [2,17,18,19] (e229 x0 x1 x2 x3 x4)=(e231 x1 x2 x3):=by kernel_rfl
theorem hb16_3 (x0 x1 x2 x3 x4):boolOf? (ent (e229 x0 x1 x2 x3 x4) (.t 26))=some x4:=by kernel_rfl
theorem kp16_8 (x0):keep [2,17,18,19] (e230 x0)=(e230 x0):=by kernel_rfl
theorem kp16_9 (x0 x1 x2):keep [2,17,18,19] (e231 x0 x1 x2)=(e231 x0 x1 x2):=by kernel_rfl
def g16_18 (k0:V17→Int→Int→Option R) (x0:V17) (x1 x2:Int):Option R:=
k0 x0 x1 (IntKind.i64.wrap (x2+(1:Int)))
theorem t16_18 (x0 x1 x2):exec cl N c16_18 (e231 x0 x1 x2) K=(g16_18 (fun y0 y1 y2=>K .normal (e227 y0 y1 y2)) x0 x1 x2):=by
 kernel_rfl
def g16_19 (S43:V15→Option (Int)) (k0:Int→Option R) (k1:V17→Int→Int→Option R) (k2:V17→Int→Int→Option R) (x0:V17) (x1 x2:Int):Option R:=
(g16_9 (fun y0 y1 y2 y3=>brB y3 ((g16_16 S43 (fun y0 y1 y2 y3 y4=>brB y4 (g16_14 k0 y0 y1 y2 y3 y4) (((g16_18 k1)) y1 y2 y3))) y0 y1 y2) (k2 y0 y1 y2)) x0 x1 x2)
theorem t16_19 (S43) (h43:(ctr43 S43).holds cl) (x0 x1 x2):exec cl N c16_19 (e227 x0 x1 x2) K=(g16_19 S43 (fun y0=>K .ret (e230 y0)) (fun y0 y1 y2=>K .normal (e227 y0 y1 y2)) (fun y0 y1 y2=>K (.exit 1) (e227 y0 y1 y2)) x0 x1 x2):=by
 simp only [c16_19,exec_seq,seqK_normal,seqK_exit,seqK_ret,t16_9,c16_10,exec_out,exec_cond',hb16_2,Option.bind_some,brB_true,brB_false,exec_skip,exec_exit,kp16_5,c16_17,exec_block,t16_16 S43 h43,c16_15,hb16_3,t16_14,exec_ret,kp16_6,kp16_7,blockK_normal,blockK_ret,blockK_eq,kp16_8,kp16_9,t16_18]
 rfl
def l16_20 {R:Type} (S43:V15→Option (Int)) (k0:Int→Option R) (k1:V17→Int→Int→Option R):Nat→V17→Int→Int→Option R
 | 0,_,_,_=>none
 | m+1,x0,x1,x2=>(g16_19 S43 k0 (l16_20 S43 k0 k1 m) k1 x0 x1 x2)
theorem lt16_20 (S43) (h43:(ctr43 S43).holds cl):∀ (m) (x0 x1 x2),iter [17,18,19] (fun env K=>exec cl N c16_19 env K) K m (e227 x0 x1 x2)=l16_20 S43 (fun y0=>K .ret (e230 y0)) (fun y0 y1 y2=>K (.exit 1) (e227 y0 y1 y2)) m x0 x1 x2:=by
 intro m
 induction m with
 | zero=>intros; rfl
 | succ m ih=>
   intro x0 x1 x2
   simp only [iter_succ,t16_19 S43 h43,loopK_normal,loopK_exit,loopK_ret,kp16_4,ih]
   rfl
theorem kp16_10 (x0):keep [2] (e230 x0)=[(2,.v U2 x0)]:=by kernel_rfl
theorem kp16_11 (x0 x1 x2):keep [2] (e227 x0 x1 x2)=[(2,.dead)]:=by kernel_rfl
def g16_20 (N:Nat) (S43:V15→Option (Int)) (k0:Int→Option R) (k1:Option R) (x0:V17) (x1 x2:Int):Option R:=
l16_20 S43 k0 (fun y0 y1 y2=>k1) N x0 x1 x2
theorem t16_20 (S43) (h43:(ctr43 S43).holds cl) (x0 x1 x2):exec cl N c16_20 (e227 x0 x1 x2) K=(g16_20 N S43 (fun y0=>K .ret [(2,.v U2 y0)]) (K (.exit 1) [(2,.dead)]) x0 x1 x2):=by
 simp only [c16_20,exec_out,exec_loop,kp16_4,lt16_20 S43 h43,kp16_10,kp16_11]
 rfl
theorem kp16_12 (x0):keep [2] [(2,.v U2 x0)]=[(2,.v U2 x0)]:=by kernel_rfl
theorem kp16_13:keep [2] [(2,.dead)]=[(2,.dead)]:=by kernel_rfl
def g16_22 (k0:Int→Option R):Option R:=
k0 (0:Int)
theorem t16_22:exec cl N c16_22 [(2,.dead)] K=(g16_22 (fun y0=>K .normal [(2,.v U2 y0)])):=by
 kernel_rfl
def g16_23 (N:Nat) (S42:V1→Option (Bool)) (S43:V15→Option (Int)) (k0:Int→Option R) (k1:Int→Option R) (x0:V22):Option R:=
(g16_0 (g16_1 S42 (fun y0 y1=>brB y1 (g16_2 k0 y0 y1) (g16_3 (fun y0 y1=>brB y1 (g16_4 k0 y0 y1) ((((g16_8 (g16_20 N S43 k1 (g16_22 k1))))) y0)) y0 y1))) x0)
theorem t16_23 (S42) (S43) (h42:(ctr42 S42).holds cl) (h43:(ctr43 S43).holds cl) (x0):exec cl N c16_23 [(0,.v U17 x0)] K=(g16_23 N S42 S43 (fun y0=>K .ret (e35 y0)) (fun y0=>K .ret [(2,.v U2 y0)]) x0):=by
 simp only [c16_23,exec_seq,seqK_normal,seqK_exit,seqK_ret,t16_0,c16_7,exec_out,exec_block,t16_1 S42 h42,c16_6,exec_cond',hb16_1,Option.bind_some,brB_true,brB_false,t16_2,exec_ret,t16_3,c16_5,hb16_0,t16_4,exec_skip,kp16_0,kp16_1,kp16_2,kp16_3,blockK_normal,blockK_ret,blockK_eq,t16_8,c16_21,t16_20 S43 h43,kp16_12,kp16_13,t16_22]
 rfl
theorem rk16_0 (y0):retK d16 .ret (e35 y0)=some [.v U2 y0]:=by kernel_rfl
theorem rk16_1 (y0):retK d16 .ret [(2,.v U2 y0)]=some [.v U2 y0]:=by kernel_rfl
def g16 (N:Nat) (S42:V1→Option (Bool)) (S43:V15→Option (Int)) (x0:V22) (k:Int→Option R):Option R:=
(g16_23 N S42 S43 k k x0)
theorem gen16 (S42) (S43) (h42:(ctr42 S42).holds cl) (h43:(ctr43 S43).holds cl) (x0) (k:List E→Option R):exec cl N c16 [(0,.v U17 x0)] (fun e env=>(retK d16 e env).bind k)=g16 N S42 S43 x0 (fun r0=>k [.v U2 r0]):=by
 simp only [c16,t16_23 S42 S43 h42 h43,rk16_0,rk16_1,Option.bind_some]
 rfl
def ctr16 (S:V22→Option (Int)):Ctr:=cv1 16 U17 S fun b=> [.v U2 b]
def S16 (N:Nat) (x0:V22):Option (Int):=g16 N (S42 N) (S43 N) x0 (fun (r0:Int)=>some (r0))
end Go.Fw.L19
