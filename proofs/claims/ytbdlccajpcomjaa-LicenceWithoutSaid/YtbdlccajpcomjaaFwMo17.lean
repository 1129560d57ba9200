/- Own work. -/
import Derived.Test.YtbdlccajpcomjaaFwMo17a
import Derived.Test.YtbdlccajpcomjaaFwB4
set_option linter.unusedVariables false
set_option linter.unusedSimpArgs false
namespace Go.Fw.L19
open Go Go.Fw
set_option maxRecDepth 100000
variable {N:Nat} {cl:Cal} {R:Type} {K:KE R}
def g92_0 (k0:V0→V8→Option R) (x0:V0) (x1:V8):Option R:=
k0 x0 x1
theorem t92_0 (x0 x1):exec cl N c92_0 (e113 x0 x1) K=(g92_0 (fun y0 y1=>K .normal (e113 y0 y1)) x0 x1):=by
 kernel_rfl
def g92_1 (k0:V0→V8→Int→Int→Option R) (x0:V0) (x1:V8):Option R:=
k0 x0 x1 (x0.length:Int) (0:Int)
theorem t92_1 (x0 x1):exec cl N c92_1 (e113 x0 x1) K=(g92_1 (fun y0 y1 y2 y3=>K .normal (e114 y0 y1 y2 y3)) x0 x1):=by
 kernel_rfl
theorem kp92_0 (x0 x1 x2 x3):keep [0,1,7,8] (e114 x0 x1 x2 x3)=(e114 x0 x1 x2 x3):=by kernel_rfl
def g92_2 (k0:V0→V8→Int→Int→Bool→Option R) (x0:V0) (x1:V8) (x2 x3:Int):Option R:=
k0 x0 x1 x2 x3 (decide (x3 < x2))
theorem t92_2 (x0 x1 x2 x3):exec cl N c92_2 (e114 x0 x1 x2 x3) K=(g92_2 (fun y0 y1 y2 y3 y4=>K .normal (e115 y0 y1 y2 y3 y4)) x0 x1 x2 x3):=by
 kernel_rfl
theorem kp92_1 (x0 x1 x2 x3 x4):keep [0,1,7,8] (e115 x0 x1 x2 x3 x4)=(e114 x0 x1 x2 x3):=by kernel_rfl
theorem hb92_0 (x0 x1 x2 x3 x4):boolOf? (ent (e115 x0 x1 x2 x3 x4) (.t 9))=some x4:=by kernel_rfl
def g92_8 (k0:V0→V8→Int→Int→Int→Bool→Option R) (x0:V0) (x1:V8) (x2 x3:Int):Option R:=
if 0≤x3∧x3 < (x0.length:Int) then
(x1 ((x0.getD x3.toNat (0:Int)),())).bind fun r407=>
k0 x0 x1 x3 x2 x3 r407
else none
theorem t92_8 (x0 x1 x2 x3):exec cl N c92_8 (e114 x0 x1 x2 x3) K=(g92_8 (fun y0 y1 y2 y3 y4 y5=>exec cl N c92_7 (e116 y0 y1 y2 y3 y4 y5) K) x0 x1 x2 x3):=by
 kernel_rfl
def g92_6 (k0:Int→Option R) (x0:V0) (x1:V8) (x2 x3 x4:Int) (x5:Bool):Option R:=
k0 x2
theorem t92_6 (x0 x1 x2 x3 x4 x5):exec cl N c92_6 (e116 x0 x1 x2 x3 x4 x5) K=(g92_6 (fun y0=>K .normal [(4,.v U2 y0)]) x0 x1 x2 x3 x4 x5):=by
 kernel_rfl
theorem kp92_2 (x0):keep [0,1,4,7,8] [(4,.v U2 x0)]=(e41 x0):=by kernel_rfl
theorem kp92_3 (x0 x1 x2 x3 x4 x5):keep [0,1,4,7,8] (e116 x0 x1 x2 x3 x4 x5)=(e117 x0 x1 x3 x4):=by kernel_rfl
theorem hb92_1 (x0 x1 x2 x3 x4 x5):boolOf? (ent (e116 x0 x1 x2 x3 x4 x5) (.t 16))=some x5:=by kernel_rfl
theorem kp92_4 (x0):keep [0,1,4,7,8] (e41 x0)=(e41 x0):=by kernel_rfl
theorem kp92_5 (x0 x1 x2 x3):keep [0,1,4,7,8] (e117 x0 x1 x2 x3)=(e117 x0 x1 x2 x3):=by kernel_rfl
def g92_10 (k0:V0→V8→Int→Int→Option R) (x0:V0) (x1:V8) (x2 x3:Int):Option R:=
k0 x0 x1 x2 (IntKind.i64.wrap (x3+(1:Int)))
theorem t92_10 (x0 x1 x2 x3):exec cl N c92_10 (e117 x0 x1 x2 x3) K=(g92_10 (fun y0 y1 y2 y3=>K .normal (e114 y0 y1 y2 y3)) x0 x1 x2 x3):=by
 kernel_rfl
def g92_11 (k0:Int→Option R) (k1:V0→V8→Int→Int→Option R) (k2:V0→V8→Int→Int→Option R) (x0:V0) (x1:V8) (x2 x3:Int):Option R:=
(g92_2 (fun y0 y1 y2 y3 y4=>brB y4 ((g92_8 (fun y0 y1 y2 y3 y4 y5=>brB y5 (g92_6 k0 y0 y1 y2 y3 y4 y5) (((g92_10 k1)) y0 y1 y3 y4))) y0 y1 y2 y3) (k2 y0 y1 y2 y3)) x0 x1 x2 x3)
theorem t92_11 (x0 x1 x2 x3):exec cl N c92_11 (e114 x0 x1 x2 x3) K=(g92_11 (fun y0=>K .ret (e41 y0)) (fun y0 y1 y2 y3=>K .normal (e114 y0 y1 y2 y3)) (fun y0 y1 y2 y3=>K (.exit 0) (e114 y0 y1 y2 y3)) x0 x1 x2 x3):=by
 simp only [c92_11,exec_seq,seqK_normal,seqK_exit,seqK_ret,t92_2,c92_3,exec_out,exec_cond',hb92_0,Option.bind_some,brB_true,brB_false,exec_skip,exec_exit,kp92_1,c92_9,exec_block,t92_8,c92_7,hb92_1,t92_6,exec_ret,kp92_2,kp92_3,blockK_normal,blockK_ret,blockK_eq,kp92_4,kp92_5,t92_10]
 rfl
def l92_12 {R:Type} (k0:Int→Option R) (k1:V0→V8→Int→Int→Option R):Nat→V0→V8→Int→Int→Option R
 | 0,_,_,_,_=>none
 | m+1,x0,x1,x2,x3=>(g92_11 k0 (l92_12 k0 k1 m) k1 x0 x1 x2 x3)
theorem lt92_12:∀ (m) (x0 x1 x2 x3),iter [0,1,7,8] (fun env K=>exec cl N c92_11 env K) K m (e114 x0 x1 x2 x3)=l92_12 (fun y0=>K .ret (e41 y0)) (fun y0 y1 y2 y3=>K (.exit 0) (e114 y0 y1 y2 y3)) m x0 x1 x2 x3:=by
 intro m
 induction m with
 | zero=>intros; rfl
 | succ m ih=>
   intro x0 x1 x2 x3
   simp only [iter_succ,t92_11,loopK_normal,loopK_exit,loopK_ret,kp92_0,ih]
   rfl
theorem kp92_6 (x0):keep [4] (e41 x0)=[(4,.v U2 x0)]:=by kernel_rfl
theorem kp92_7 (x0 x1 x2 x3):keep [4] (e114 x0 x1 x2 x3)=[(4,.dead)]:=by kernel_rfl
def g92_12 (N:Nat) (k0:Int→Option R) (k1:Option R) (x0:V0) (x1:V8) (x2 x3:Int):Option R:=
l92_12 k0 (fun y0 y1 y2 y3=>k1) N x0 x1 x2 x3
theorem t92_12 (x0 x1 x2 x3):exec cl N c92_12 (e114 x0 x1 x2 x3) K=(g92_12 N (fun y0=>K .ret [(4,.v U2 y0)]) (K (.exit 0) [(4,.dead)]) x0 x1 x2 x3):=by
 simp only [c92_12,exec_out,exec_loop,kp92_0,lt92_12,kp92_6,kp92_7]
 rfl
theorem kp92_8 (x0):keep [4] [(4,.v U2 x0)]=[(4,.v U2 x0)]:=by kernel_rfl
theorem kp92_9:keep [4] [(4,.dead)]=[(4,.dead)]:=by kernel_rfl
def g92_14 (k0:Int→Option R):Option R:=
k0 (-1:Int)
theorem t92_14:exec cl N c92_14 [(4,.dead)] K=(g92_14 (fun y0=>K .normal [(4,.v U2 y0)])):=by
 kernel_rfl
def g92_15 (N:Nat) (k0:Int→Option R) (x0:V0) (x1:V8):Option R:=
(g92_0 (g92_1 (g92_12 N k0 (g92_14 k0))) x0 x1)
theorem t92_15 (x0 x1):exec cl N c92_15 (e113 x0 x1) K=(g92_15 N (fun y0=>K .ret [(4,.v U2 y0)]) x0 x1):=by
 simp only [c92_15,exec_seq,seqK_normal,seqK_exit,seqK_ret,t92_0,t92_1,c92_13,exec_out,exec_block,t92_12,blockK_normal,blockK_ret,blockK_eq,kp92_8,kp92_9,t92_14,exec_ret]
 rfl
theorem rk92_0 (y0):retK d92 .ret [(4,.v U2 y0)]=some [.v U2 y0]:=by kernel_rfl
def g92 (N:Nat) (x0:V0) (x1:V8) (k:Int→Option R):Option R:=
(g92_15 N k x0 x1)
theorem gen92 (x0 x1) (k:List E→Option R):exec cl N c92 (e113 x0 x1) (fun e env=>(retK d92 e env).bind k)=g92 N x0 x1 (fun r0=>k [.v U2 r0]):=by
 simp only [c92,t92_15,rk92_0,Option.bind_some]
 rfl
def ctr92 (S:V0→V8→Option (Int)):Ctr:=cv2 92 U3 U8 S fun b=> [.v U2 b]
def S92 (N:Nat) (x0:V0) (x1:V8):Option (Int):=g92 N x0 x1 (fun (r0:Int)=>some (r0))
def g87_2 (S92:V0→V8→Option (Int)) (k0:Bool→Option R) (x0:V0) (x1:V8):Option R:=
(S92 x0 x1).bind fun r411=>
k0 (decide (r411≥(0:Int)))
theorem t87_2 (S92) (h92:(ctr92 S92).holds cl) (x0 x1):exec cl N c87_2 (e113 x0 x1) K=(g87_2 S92 (fun y0=>exec cl N .ret [(4,.v .bool y0)] K) x0 x1):=by
 rw [←put_eq h92]
 kernel_rfl
def g87_2b (S92:V0→V8→Option (Int)) (k0:Bool→Option R) (x0:V0) (x1:V8):Option R:=
(g87_2 S92 k0 x0 x1)
theorem t87_2b (S92) (h92:(ctr92 S92).holds cl) (x0 x1):exec cl N c87_2 (e113 x0 x1) K=(g87_2b S92 (fun y0=>K .ret [(4,.v .bool y0)]) x0 x1):=by
 simp only [exec_seq,seqK_normal,seqK_exit,seqK_ret,t87_2 S92 h92,exec_ret]
 rfl
theorem rk87_0 (y0):retK d87 .ret [(4,.v .bool y0)]=some [.v .bool y0]:=by kernel_rfl
def g87 (S92:V0→V8→Option (Int)) (x0:V0) (x1:V8) (k:Bool→Option R):Option R:=
(g87_2b S92 k x0 x1)
theorem gen87 (S92) (h92:(ctr92 S92).holds cl) (x0 x1) (k:List E→Option R):exec cl N c87 (e113 x0 x1) (fun e env=>(retK d87 e env).bind k)=g87 S92 x0 x1 (fun r0=>k [.v .bool r0]):=by
 simp only [c87,t87_2b S92 h92,rk87_0,Option.bind_some]
 rfl
def ctr87 (S:V0→V8→Option (Bool)):Ctr:=cv2 87 U3 U8 S fun b=> [.v .bool b]
def S87 (N:Nat) (x0:V0) (x1:V8):Option (Bool):=g87 (S92 N) x0 x1 (fun (r0:Bool)=>some (r0))
def g90_0 (k0:V4→V1→Option R) (x0:V4) (x1:V1):Option R:=
k0 x0 x1
theorem t90_0 (x0 x1):exec cl N c90_0 (e37 x0 x1) K=(g90_0 (fun y0 y1=>K .normal (e37 y0 y1)) x0 x1):=by
 kernel_rfl
def g90_1 (k0:V4→V1→Int→Option R) (x0:V4) (x1:V1):Option R:=
k0 x0 x1 (x0.length:Int)
theorem t90_1 (x0 x1):exec cl N c90_1 (e37 x0 x1) K=(g90_1 (fun y0 y1 y2=>K .normal [(0,.v U0 y0),(1,.v .str y1),(12,.v U2 y2)]) x0 x1):=by
 kernel_rfl
def g90_2 (k0:V4→V1→Int→Bool→Option R) (x0:V4) (x1:V1) (x2:Int):Option R:=
k0 x0 x1 x2 (x2==(0:Int))
theorem t90_2 (x0 x1 x2):exec cl N c90_2 [(0,.v U0 x0),(1,.v .str x1),(12,.v U2 x2)] K=(g90_2 (fun y0 y1 y2 y3=>K .normal (e118 y0 y1 y2 y3)) x0 x1 x2):=by
 kernel_rfl
def g90_3 (k0:V1→Option R) (x0:V4) (x1:V1) (x2:Int) (x3:Bool):Option R:=
k0 ([]:List UInt8)
theorem t90_3 (x0 x1 x2 x3):exec cl N c90_3 (e118 x0 x1 x2 x3) K=(g90_3 (fun y0=>K .normal [(4,.v .str y0)]) x0 x1 x2 x3):=by
 kernel_rfl
theorem kp90_0 (x0):keep [0,1,4] [(4,.v .str x0)]=(e119 x0):=by kernel_rfl
def g90_4 (k0:V4→V1→Bool→Option R) (x0:V4) (x1:V1) (x2:Int) (x3:Bool):Option R:=
k0 x0 x1 (x2==(1:Int))
theorem t90_4 (x0 x1 x2 x3):exec cl N c90_4 (e118 x0 x1 x2 x3) K=(g90_4 (fun y0 y1 y2=>K .normal (e120 y0 y1 y2)) x0 x1 x2 x3):=by
 kernel_rfl
def g90_5 (k0:V1→Option R) (x0:V4) (x1:V1) (x2:Bool):Option R:=
if 0≤(0:Int)∧(0:Int) < (x0.length:Int) then
k0 (x0.getD (0:Int).toNat [])
else none
theorem t90_5 (x0 x1 x2):exec cl N c90_5 (e120 x0 x1 x2) K=(g90_5 (fun y0=>K .normal [(4,.v .str y0)]) x0 x1 x2):=by
 kernel_rfl
theorem kp90_1 (x0 x1 x2):keep [0,1,4] (e120 x0 x1 x2)=(e121 x0 x1):=by kernel_rfl
theorem hb90_0 (x0 x1 x2):boolOf? (ent (e120 x0 x1 x2) (.t 15))=some x2:=by kernel_rfl
theorem kp90_2 (x0):keep [0,1,4] (e119 x0)=(e119 x0):=by kernel_rfl
theorem kp90_3 (x0 x1):keep [0,1,4] (e121 x0 x1)=(e121 x0 x1):=by kernel_rfl
theorem hb90_1 (x0 x1 x2 x3):boolOf? (ent (e118 x0 x1 x2 x3) (.t 13))=some x3:=by kernel_rfl
def g90_9 (k0:V4→V1→Int→Option R) (x0:V4) (x1:V1):Option R:=
k0 x0 x1 (0:Int)
theorem t90_9 (x0 x1):exec cl N c90_9 (e121 x0 x1) K=(g90_9 (fun y0 y1 y2=>K .normal (e53 y0 y1 y2)) x0 x1):=by
 kernel_rfl
def g90_10 (k0:V4→V1→Int→Bool→Option R) (x0:V4) (x1:V1) (x2:Int):Option R:=
k0 x0 x1 x2 (decide ((x1.length:Int) > (0:Int)))
theorem t90_10 (x0 x1 x2):exec cl N c90_10 (e53 x0 x1 x2) K=(g90_10 (fun y0 y1 y2 y3=>K .normal (e122 y0 y1 y2 y3)) x0 x1 x2):=by
 kernel_rfl
def g90_11 (k0:V4→V1→Int→Bool→Option R) (x0:V4) (x1:V1) (x2:Int) (x3:Bool):Option R:=
let v432:Int:=(IntKind.i64.wrap ((x0.length:Int) - (1:Int)))
if v432=0 then none else
k0 x0 x1 x2 (decide ((x1.length:Int)≥(IntKind.i64.wrap (Int.tdiv (9223372036854775807:Int) v432))))
theorem t90_11 (x0 x1 x2 x3):exec cl N c90_11 (e122 x0 x1 x2 x3) K=(g90_11 (fun y0 y1 y2 y3=>K .normal (e123 y0 y1 y2 y3)) x0 x1 x2 x3):=by
 kernel_rfl
def g90_12 (x0:V4) (x1:V1) (x2:Int) (x3:Bool):Option R:=
none /- operation makeInterface -/
theorem t90_12 (x0 x1 x2 x3):exec cl N c90_12 (e123 x0 x1 x2 x3) K=(g90_12 x0 x1 x2 x3):=by
 kernel_rfl
theorem kp90_4 (x0 x1 x2 x3):keep [0,1,5] (e123 x0 x1 x2 x3)=(e53 x0 x1 x2):=by kernel_rfl
theorem hb90_2 (x0 x1 x2 x3):boolOf? (ent (e123 x0 x1 x2 x3) (.t 29))=some x3:=by kernel_rfl
def g90_14 (k0:V4→V1→Int→Option R) (x0:V4) (x1:V1) (x2:Int):Option R:=
k0 x0 x1 (IntKind.i64.wrap (x2+(IntKind.i64.wrap ((x1.length:Int) * (IntKind.i64.wrap ((x0.length:Int) - (1:Int)))))))
theorem t90_14 (x0 x1 x2):exec cl N c90_14 (e53 x0 x1 x2) K=(g90_14 (fun y0 y1 y2=>K .normal (e53 y0 y1 y2)) x0 x1 x2):=by
 kernel_rfl
theorem kp90_5 (x0 x1 x2):keep [0,1,5] (e53 x0 x1 x2)=(e53 x0 x1 x2):=by kernel_rfl
theorem kp90_6 (x0 x1 x2 x3):keep [0,1,5] (e122 x0 x1 x2 x3)=(e53 x0 x1 x2):=by kernel_rfl
theorem hb90_3 (x0 x1 x2 x3):boolOf? (ent (e122 x0 x1 x2 x3) (.t 22))=some x3:=by kernel_rfl
def g90_16 (k0:V4→V1→Int→Option R) (x0:V4) (x1:V1) (x2:Int):Option R:=
(g90_10 (fun y0 y1 y2 y3=>brB y3 (g90_11 (fun y0 y1 y2 y3=>brB y3 (g90_12 y0 y1 y2 y3) ((g90_14 k0) y0 y1 y2)) y0 y1 y2 y3) (k0 y0 y1 y2)) x0 x1 x2)
theorem t90_16 (x0 x1 x2):exec cl N c90_16 (e53 x0 x1 x2) K=(g90_16 (fun y0 y1 y2=>K .normal (e53 y0 y1 y2)) x0 x1 x2):=by
 simp only [c90_16,exec_seq,seqK_normal,seqK_exit,seqK_ret,t90_10,c90_15,exec_out,exec_cond',hb90_3,Option.bind_some,brB_true,brB_false,t90_11,c90_13,hb90_2,t90_12,exec_skip,kp90_4,t90_14,kp90_5,kp90_6]
 rfl
def g90_17 (k0:V4→V1→Int→V4→Int→Int→Option R) (x0:V4) (x1:V1) (x2:Int):Option R:=
k0 x0 x1 x2 x0 (x0.length:Int) (0:Int)
theorem t90_17 (x0 x1 x2):exec cl N c90_17 (e53 x0 x1 x2) K=(g90_17 (fun y0 y1 y2 y3 y4 y5=>K .normal (e124 y0 y1 y2 y3 y4 y5)) x0 x1 x2):=by
 kernel_rfl
theorem kp90_7 (x0 x1 x2 x3 x4 x5):keep [0,1,5,39,40,41] (e124 x0 x1 x2 x3 x4 x5)=(e124 x0 x1 x2 x3 x4 x5):=by kernel_rfl
def g90_18 (k0:V4→V1→Int→V4→Int→Int→Bool→Option R) (x0:V4) (x1:V1) (x2:Int) (x3:V4) (x4 x5:Int):Option R:=
k0 x0 x1 x2 x3 x4 x5 (decide (x5 < x4))
theorem t90_18 (x0 x1 x2 x3 x4 x5):exec cl N c90_18 (e124 x0 x1 x2 x3 x4 x5) K=(g90_18 (fun y0 y1 y2 y3 y4 y5 y6=>K .normal (e125 y0 y1 y2 y3 y4 y5 y6)) x0 x1 x2 x3 x4 x5):=by
 kernel_rfl
theorem kp90_8 (x0 x1 x2 x3 x4 x5 x6):keep [0,1,5,39,40,41] (e125 x0 x1 x2 x3 x4 x5 x6)=(e124 x0 x1 x2 x3 x4 x5):=by kernel_rfl
theorem hb90_4 (x0 x1 x2 x3 x4 x5 x6):boolOf? (ent (e125 x0 x1 x2 x3 x4 x5 x6) (.t 42))=some x6:=by kernel_rfl
def g90_20 (k0:V4→V1→Int→V1→V4→Int→Int→Option R) (x0:V4) (x1:V1) (x2:Int) (x3:V4) (x4 x5:Int):Option R:=
if 0≤x5∧x5 < (x3.length:Int) then
k0 x0 x1 x2 (x3.getD x5.toNat []) x3 x4 x5
else none
theorem t90_20 (x0 x1 x2 x3 x4 x5):exec cl N c90_20 (e124 x0 x1 x2 x3 x4 x5) K=(g90_20 (fun y0 y1 y2 y3 y4 y5 y6=>K .normal (e126 y0 y1 y2 y3 y4 y5 y6)) x0 x1 x2 x3 x4 x5):=by
 kernel_rfl
def g90_21 (k0:V4→V1→Int→V1→V4→Int→Int→Bool→Option R) (x0:V4) (x1:V1) (x2:Int) (x3:V1) (x4:V4) (x5 x6:Int):Option R:=
k0 x0 x1 x2 x3 x4 x5 x6 (decide ((x3.length:Int) > (IntKind.i64.wrap ((9223372036854775807:Int) - x2))))
theorem t90_21 (x0 x1 x2 x3 x4 x5 x6):exec cl N c90_21 (e126 x0 x1 x2 x3 x4 x5 x6) K=(g90_21 (fun y0 y1 y2 y3 y4 y5 y6 y7=>K .normal (e127 y0 y1 y2 y3 y4 y5 y6 y7)) x0 x1 x2 x3 x4 x5 x6):=by
 kernel_rfl
def g90_22 (x0:V4) (x1:V1) (x2:Int) (x3:V1) (x4:V4) (x5 x6:Int) (x7:Bool):Option R:=
none /- operation makeInterface -/
theorem t90_22 (x0 x1 x2 x3 x4 x5 x6 x7):exec cl N c90_22 (e127 x0 x1 x2 x3 x4 x5 x6 x7) K=(g90_22 x0 x1 x2 x3 x4 x5 x6 x7):=by
 kernel_rfl
theorem kp90_9 (x0 x1 x2 x3 x4 x5 x6 x7):keep [0,1,5,7,39,40,41] (e127 x0 x1 x2 x3 x4 x5 x6 x7)=(e126 x0 x1 x2 x3 x4 x5 x6):=by kernel_rfl
theorem hb90_5 (x0 x1 x2 x3 x4 x5 x6 x7):boolOf? (ent (e127 x0 x1 x2 x3 x4 x5 x6 x7) (.t 49))=some x7:=by kernel_rfl
def g90_24 (k0:V4→V1→Int→V4→Int→Int→Option R) (x0:V4) (x1:V1) (x2:Int) (x3:V1) (x4:V4) (x5 x6:Int):Option R:=
k0 x0 x1 (IntKind.i64.wrap (x2+(x3.length:Int))) x4 x5 x6
theorem t90_24 (x0 x1 x2 x3 x4 x5 x6):exec cl N c90_24 (e126 x0 x1 x2 x3 x4 x5 x6) K=(g90_24 (fun y0 y1 y2 y3 y4 y5=>K .normal (e124 y0 y1 y2 y3 y4 y5)) x0 x1 x2 x3 x4 x5 x6):=by
 kernel_rfl
def g90_26 (k0:V4→V1→Int→V4→Int→Int→Option R) (x0:V4) (x1:V1) (x2:Int) (x3:V4) (x4 x5:Int):Option R:=
k0 x0 x1 x2 x3 x4 (IntKind.i64.wrap (x5+(1:Int)))
theorem t90_26 (x0 x1 x2 x3 x4 x5):exec cl N c90_26 (e124 x0 x1 x2 x3 x4 x5) K=(g90_26 (fun y0 y1 y2 y3 y4 y5=>K .normal (e124 y0 y1 y2 y3 y4 y5)) x0 x1 x2 x3 x4 x5):=by
 kernel_rfl
def g90_27 (k0:V4→V1→Int→V4→Int→Int→Option R) (k1:V4→V1→Int→V4→Int→Int→Option R) (x0:V4) (x1:V1) (x2:Int) (x3:V4) (x4 x5:Int):Option R:=
(g90_18 (fun y0 y1 y2 y3 y4 y5 y6=>brB y6 ((g90_20 (g90_21 (fun y0 y1 y2 y3 y4 y5 y6 y7=>brB y7 (g90_22 y0 y1 y2 y3 y4 y5 y6 y7) ((g90_24 ((g90_26 k0))) y0 y1 y2 y3 y4 y5 y6)))) y0 y1 y2 y3 y4 y5) (k1 y0 y1 y2 y3 y4 y5)) x0 x1 x2 x3 x4 x5)
theorem t90_27 (x0 x1 x2 x3 x4 x5):exec cl N c90_27 (e124 x0 x1 x2 x3 x4 x5) K=(g90_27 (fun y0 y1 y2 y3 y4 y5=>K .normal (e124 y0 y1 y2 y3 y4 y5)) (fun y0 y1 y2 y3 y4 y5=>K (.exit 1) (e124 y0 y1 y2 y3 y4 y5)) x0 x1 x2 x3 x4 x5):=by
 simp only [c90_27,exec_seq,seqK_normal,seqK_exit,seqK_ret,t90_18,c90_19,exec_out,exec_cond',hb90_4,Option.bind_some,brB_true,brB_false,exec_skip,exec_exit,kp90_8,c90_25,exec_block,t90_20,t90_21,c90_23,hb90_5,t90_22,kp90_9,t90_24,blockK_normal,blockK_ret,blockK_eq,kp90_7,t90_26]
 rfl
def l90_28 {R:Type} (k0:V4→V1→Int→V4→Int→Int→Option R):Nat→V4→V1→Int→V4→Int→Int→Option R
 | 0,_,_,_,_,_,_=>none
 | m+1,x0,x1,x2,x3,x4,x5=>(g90_27 (l90_28 k0 m) k0 x0 x1 x2 x3 x4 x5)
theorem lt90_28:∀ (m) (x0 x1 x2 x3 x4 x5),iter [0,1,5,39,40,41] (fun env K=>exec cl N c90_27 env K) K m (e124 x0 x1 x2 x3 x4 x5)=l90_28 (fun y0 y1 y2 y3 y4 y5=>K (.exit 1) (e124 y0 y1 y2 y3 y4 y5)) m x0 x1 x2 x3 x4 x5:=by
 intro m
 induction m with
 | zero=>intros; rfl
 | succ m ih=>
   intro x0 x1 x2 x3 x4 x5
   simp only [iter_succ,t90_27,loopK_normal,loopK_exit,loopK_ret,kp90_7,ih]
   rfl
theorem kp90_10 (x0 x1 x2 x3 x4 x5):keep [0,1,5] (e124 x0 x1 x2 x3 x4 x5)=(e53 x0 x1 x2):=by kernel_rfl
def g90_28 (N:Nat) (k0:V4→V1→Int→Option R) (x0:V4) (x1:V1) (x2:Int) (x3:V4) (x4 x5:Int):Option R:=
l90_28 (fun y0 y1 y2 y3 y4 y5=>k0 y0 y1 y2) N x0 x1 x2 x3 x4 x5
theorem t90_28 (x0 x1 x2 x3 x4 x5):exec cl N c90_28 (e124 x0 x1 x2 x3 x4 x5) K=(g90_28 N (fun y0 y1 y2=>K (.exit 1) (e53 y0 y1 y2)) x0 x1 x2 x3 x4 x5):=by
 simp only [c90_28,exec_out,exec_loop,kp90_7,lt90_28,kp90_10]
 rfl
def g90_46 (x0:V4) (x1:V1) (x2:Int):Option R:=
none /- lent:sb -/
theorem t90_46 (x0 x1 x2):exec cl N c90_46 (e53 x0 x1 x2) K=(g90_46 x0 x1 x2):=by
 kernel_rfl
def g90_47 (N:Nat) (k0:V1→Option R) (x0:V4) (x1:V1):Option R:=
(g90_0 (g90_1 (g90_2 (fun y0 y1 y2 y3=>brB y3 (g90_3 k0 y0 y1 y2 y3) (g90_4 (fun y0 y1 y2=>brB y2 (g90_5 k0 y0 y1 y2) ((((g90_9 (g90_16 (g90_17 (g90_28 N g90_46)))))) y0 y1)) y0 y1 y2 y3)))) x0 x1)
theorem t90_47 (x0 x1):exec cl N c90_47 (e37 x0 x1) K=(g90_47 N (fun y0=>K .ret (e119 y0)) x0 x1):=by
 simp only [c90_47,exec_seq,seqK_normal,seqK_exit,seqK_ret,t90_0,t90_1,c90_8,exec_out,exec_block,t90_2,c90_7,exec_cond',hb90_1,Option.bind_some,brB_true,brB_false,t90_3,exec_ret,t90_4,c90_6,hb90_0,t90_5,exec_skip,kp90_0,kp90_1,kp90_2,kp90_3,blockK_normal,blockK_ret,blockK_eq,t90_9,t90_16,t90_17,c90_29,t90_28,kp90_5,t90_46]
 rfl
theorem rk90_0 (y0):retK d90 .ret (e119 y0)=some [.v .str y0]:=by kernel_rfl
def g90 (N:Nat) (x0:V4) (x1:V1) (k:V1→Option R):Option R:=
(g90_47 N k x0 x1)
theorem gen90 (x0 x1) (k:List E→Option R):exec cl N c90 (e37 x0 x1) (fun e env=>(retK d90 e env).bind k)=g90 N x0 x1 (fun r0=>k [.v .str r0]):=by
 simp only [c90,t90_47,rk90_0,Option.bind_some]
 rfl
def ctr90 (S:V4→V1→Option V3):Ctr:=cv2 90 U0 .str S fun b=> [.v .str b]
def S90 (N:Nat) (x0:V4) (x1:V1):Option V3:=g90 N x0 x1 (fun (r0:V1)=>some (r0))
def g83_0 (k0:V4→Option R) (x0:V4):Option R:=
k0 x0
theorem t83_0 (x0):exec cl N c83_0 [(0,.v U0 x0)] K=(g83_0 (fun y0=>K .normal [(0,.v U0 y0)]) x0):=by
 kernel_rfl
def g83_1 (k0:V4→V4→Int→Int→Option R) (x0:V4):Option R:=
k0 x0 x0 (x0.length:Int) (0:Int)
theorem t83_1 (x0):exec cl N c83_1 [(0,.v U0 x0)] K=(g83_1 (fun y0 y1 y2 y3=>K .normal (e128 y0 y1 y2 y3)) x0):=by
 kernel_rfl
theorem kp83_0 (x0 x1 x2 x3):keep [0,7,8,9] (e128 x0 x1 x2 x3)=(e128 x0 x1 x2 x3):=by kernel_rfl
def g83_2 (k0:V4→V4→Int→Int→Bool→Option R) (x0 x1:V4) (x2 x3:Int):Option R:=
k0 x0 x1 x2 x3 (decide (x3 < x2))
theorem t83_2 (x0 x1 x2 x3):exec cl N c83_2 (e128 x0 x1 x2 x3) K=(g83_2 (fun y0 y1 y2 y3 y4=>K .normal (e129 y0 y1 y2 y3 y4)) x0 x1 x2 x3):=by
 kernel_rfl
theorem kp83_1 (x0 x1 x2 x3 x4):keep [0,7,8,9] (e129 x0 x1 x2 x3 x4)=(e128 x0 x1 x2 x3):=by kernel_rfl
theorem hb83_0 (x0 x1 x2 x3 x4):boolOf? (ent (e129 x0 x1 x2 x3 x4) (.t 10))=some x4:=by kernel_rfl
def g83_4 (k0:V4→V1→V4→Int→Int→Option R) (x0 x1:V4) (x2 x3:Int):Option R:=
if 0≤x3∧x3 < (x1.length:Int) then
k0 x0 (x1.getD x3.toNat []) x1 x2 x3
else none
theorem t83_4 (x0 x1 x2 x3):exec cl N c83_4 (e128 x0 x1 x2 x3) K=(g83_4 (fun y0 y1 y2 y3 y4=>K .normal [(0,.v U0 y0),(5,.v .str y1),(7,.v U0 y2),(8,.v U2 y3),(9,.v U2 y4)]) x0 x1 x2 x3):=by
 kernel_rfl
def g83_5 (k0:V4→V1→V4→Int→Int→Bool→Option R) (x0:V4) (x1:V1) (x2:V4) (x3 x4:Int):Option R:=
k0 x0 x1 x2 x3 x4 (x1==([]:List UInt8))
theorem t83_5 (x0 x1 x2 x3 x4):exec cl N c83_5 [(0,.v U0 x0),(5,.v .str x1),(7,.v U0 x2),(8,.v U2 x3),(9,.v U2 x4)] K=(g83_5 (fun y0 y1 y2 y3 y4 y5=>K .normal (e130 y0 y1 y2 y3 y4 y5)) x0 x1 x2 x3 x4):=by
 kernel_rfl
def g83_6 (k0:V1→Int→Option R) (x0:V4) (x1:V1) (x2:V4) (x3 x4:Int) (x5:Bool):Option R:=
k0 ([]:List UInt8) (7:Int)
theorem t83_6 (x0 x1 x2 x3 x4 x5):exec cl N c83_6 (e130 x0 x1 x2 x3 x4 x5) K=(g83_6 (fun y0 y1=>K .normal (e131 y0 y1)) x0 x1 x2 x3 x4 x5):=by
 kernel_rfl
theorem kp83_2 (x0 x1):keep [0,2,3,5,7,8,9] (e131 x0 x1)=(e132 x0 x1):=by kernel_rfl
theorem kp83_3 (x0 x1 x2 x3 x4 x5):keep [0,2,3,5,7,8,9] (e130 x0 x1 x2 x3 x4 x5)=(e133 x0 x1 x2 x3 x4):=by kernel_rfl
theorem hb83_1 (x0 x1 x2 x3 x4 x5):boolOf? (ent (e130 x0 x1 x2 x3 x4 x5) (.t 14))=some x5:=by kernel_rfl
def g83_8 (S87:V0→V8→Option (Bool)) (S88:Int→Option (Bool)) (k0:V4→V4→Int→Int→Bool→Option R) (x0:V4) (x1:V1) (x2:V4) (x3 x4:Int):Option R:=
(S87 (x1.map fun b=>(b.toNat:Int)) (fun (x447:(Int×Unit))=>((S88 x447.1).bind fun b448=>some [.v .bool b448]).bind (unE .bool))).bind fun r449=>
k0 x0 x2 x3 x4 r449
theorem t83_8 (S87) (S88) (h87:(ctr87 S87).holds cl) (h88:(ctr88 S88).holds cl) (x0 x1 x2 x3 x4):exec cl N c83_8 (e133 x0 x1 x2 x3 x4) K=(g83_8 S87 S88 (fun y0 y1 y2 y3 y4=>K .normal (e134 y0 y1 y2 y3 y4)) x0 x1 x2 x3 x4):=by
 rw [←put_eq h87]
 rw [←put_eq h88]
 kernel_rfl
def g83_9 (k0:V1→Int→Option R) (x0 x1:V4) (x2 x3:Int) (x4:Bool):Option R:=
k0 ([]:List UInt8) (2:Int)
theorem t83_9 (x0 x1 x2 x3 x4):exec cl N c83_9 (e134 x0 x1 x2 x3 x4) K=(g83_9 (fun y0 y1=>K .normal (e131 y0 y1)) x0 x1 x2 x3 x4):=by
 kernel_rfl
theorem kp83_4 (x0 x1):keep [0,2,3,7,8,9] (e131 x0 x1)=(e135 x0 x1):=by kernel_rfl
theorem kp83_5 (x0 x1 x2 x3 x4):keep [0,2,3,7,8,9] (e134 x0 x1 x2 x3 x4)=(e136 x0 x1 x2 x3):=by kernel_rfl
theorem hb83_2 (x0 x1 x2 x3 x4):boolOf? (ent (e134 x0 x1 x2 x3 x4) (.t 17))=some x4:=by kernel_rfl
theorem kp83_6 (x0 x1):keep [0,2,3,7,8,9] (e132 x0 x1)=(e135 x0 x1):=by kernel_rfl
theorem kp83_7 (x0 x1):keep [0,2,3,7,8,9] (e135 x0 x1)=(e135 x0 x1):=by kernel_rfl
theorem kp83_8 (x0 x1 x2 x3):keep [0,2,3,7,8,9] (e136 x0 x1 x2 x3)=(e136 x0 x1 x2 x3):=by kernel_rfl
def g83_12 (k0:V4→V4→Int→Int→Option R) (x0 x1:V4) (x2 x3:Int):Option R:=
k0 x0 x1 x2 (IntKind.i64.wrap (x3+(1:Int)))
theorem t83_12 (x0 x1 x2 x3):exec cl N c83_12 (e136 x0 x1 x2 x3) K=(g83_12 (fun y0 y1 y2 y3=>K .normal (e128 y0 y1 y2 y3)) x0 x1 x2 x3):=by
 kernel_rfl
def g83_13 (S87:V0→V8→Option (Bool)) (S88:Int→Option (Bool)) (k0:V1→Int→Option R) (k1:V4→V4→Int→Int→Option R) (k2:V4→V4→Int→Int→Option R) (x0 x1:V4) (x2 x3:Int):Option R:=
(g83_2 (fun y0 y1 y2 y3 y4=>brB y4 ((g83_4 (g83_5 (fun y0 y1 y2 y3 y4 y5=>brB y5 (g83_6 k0 y0 y1 y2 y3 y4 y5) ((g83_8 S87 S88 (fun y0 y1 y2 y3 y4=>brB y4 (g83_9 k0 y0 y1 y2 y3 y4) (((g83_12 k1)) y0 y1 y2 y3))) y0 y1 y2 y3 y4)))) y0 y1 y2 y3) (k2 y0 y1 y2 y3)) x0 x1 x2 x3)
theorem t83_13 (S87) (S88) (h87:(ctr87 S87).holds cl) (h88:(ctr88 S88).holds cl) (x0 x1 x2 x3):exec cl N c83_13 (e128 x0 x1 x2 x3) K=(g83_13 S87 S88 (fun y0 y1=>K .ret (e135 y0 y1)) (fun y0 y1 y2 y3=>K .normal (e128 y0 y1 y2 y3)) (fun y0 y1 y2 y3=>K (.exit 0) (e128 y0 y1 y2 y3)) x0 x1 x2 x3):=by
 simp only [c83_13,exec_seq,seqK_normal,seqK_exit,seqK_ret,t83_2,c83_3,exec_out,exec_cond',hb83_0,Option.bind_some,brB_true,brB_false,exec_skip,exec_exit,kp83_1,c83_11,exec_block,t83_4,t83_5,c83_7,hb83_1,t83_6,exec_ret,kp83_2,kp83_3,t83_8 S87 S88 h87 h88,c83_10,hb83_2,t83_9,kp83_4,kp83_5,blockK_normal,blockK_ret,blockK_eq,kp83_6,kp83_7,kp83_8,t83_12]
 rfl
def l83_14 {R:Type} (S87:V0→V8→Option (Bool)) (S88:Int→Option (Bool)) (k0:V1→Int→Option R) (k1:V4→V4→Int→Int→Option R):Nat→V4→V4→Int→Int→Option R
 | 0,_,_,_,_=>none
 | m+1,x0,x1,x2,x3=>(g83_13 S87 S88 k0 (l83_14 S87 S88 k0 k1 m) k1 x0 x1 x2 x3)
theorem lt83_14 (S87) (S88) (h87:(ctr87 S87).holds cl) (h88:(ctr88 S88).holds cl):∀ (m) (x0 x1 x2 x3),iter [0,7,8,9] (fun env K=>exec cl N c83_13 env K) K m (e128 x0 x1 x2 x3)=l83_14 S87 S88 (fun y0 y1=>K .ret (e135 y0 y1)) (fun y0 y1 y2 y3=>K (.exit 0) (e128 y0 y1 y2 y3)) m x0 x1 x2 x3:=by
 intro m
 induction m with
 | zero=>intros; rfl
 | succ m ih=>
   intro x0 x1 x2 x3
   simp only [iter_succ,t83_13 S87 S88 h87 h88,loopK_normal,loopK_exit,loopK_ret,kp83_0,ih]
   rfl
theorem kp83_9 (x0 x1):keep [0,2,3] (e135 x0 x1)=(e137 x0 x1):=by kernel_rfl
theorem kp83_10 (x0 x1 x2 x3):keep [0,2,3] (e128 x0 x1 x2 x3)=(e138 x0):=by kernel_rfl
def g83_14 (N:Nat) (S87:V0→V8→Option (Bool)) (S88:Int→Option (Bool)) (k0:V1→Int→Option R) (k1:V4→Option R) (x0 x1:V4) (x2 x3:Int):Option R:=
l83_14 S87 S88 k0 (fun y0 y1 y2 y3=>k1 y0) N x0 x1 x2 x3
theorem t83_14 (S87) (S88) (h87:(ctr87 S87).holds cl) (h88:(ctr88 S88).holds cl) (x0 x1 x2 x3):exec cl N c83_14 (e128 x0 x1 x2 x3) K=(g83_14 N S87 S88 (fun y0 y1=>K .ret (e137 y0 y1)) (fun y0=>K (.exit 0) (e138 y0)) x0 x1 x2 x3):=by
 simp only [c83_14,exec_out,exec_loop,kp83_0,lt83_14 S87 S88 h87 h88,kp83_10,kp83_9]
 rfl
theorem kp83_11 (x0 x1):keep [0,2,3] (e137 x0 x1)=(e137 x0 x1):=by kernel_rfl
theorem kp83_12 (x0):keep [0,2,3] (e138 x0)=(e138 x0):=by kernel_rfl
def g83_16 (S90:V4→V1→Option V3) (k0:V1→Option R) (x0:V4):Option R:=
(S90 x0 ([32]:List UInt8)).bind fun r451=>
k0 r451
theorem t83_16 (S90) (h90:(ctr90 S90).holds cl) (x0):exec cl N c83_16 (e138 x0) K=(g83_16 S90 (fun y0=>K .normal [(6,.v .str y0)]) x0):=by
 rw [←put_eq h90]
 kernel_rfl
def g83_17 (k0:V1→Bool→Option R) (x0:V1):Option R:=
k0 x0 (decide ((x0.length:Int) > (120:Int)))
theorem t83_17 (x0):exec cl N c83_17 [(6,.v .str x0)] K=(g83_17 (fun y0 y1=>K .normal (e139 y0 y1)) x0):=by
 kernel_rfl
def g83_18 (k0:V1→Int→Option R) (x0:V1) (x1:Bool):Option R:=
k0 ([]:List UInt8) (3:Int)
theorem t83_18 (x0 x1):exec cl N c83_18 (e139 x0 x1) K=(g83_18 (fun y0 y1=>K .normal (e131 y0 y1)) x0 x1):=by
 kernel_rfl
theorem kp83_13 (x0 x1):keep [2,3,6] (e131 x0 x1)=(e140 x0 x1):=by kernel_rfl
theorem kp83_14 (x0 x1):keep [2,3,6] (e139 x0 x1)=[(2,.dead),(3,.dead),(6,.v .str x0)]:=by kernel_rfl
theorem hb83_3 (x0 x1):boolOf? (ent (e139 x0 x1) (.t 23))=some x1:=by kernel_rfl
def g83_20 (k0:V1→Int→Option R) (x0:V1):Option R:=
k0 x0 (0:Int)
theorem t83_20 (x0):exec cl N c83_20 [(2,.dead),(3,.dead),(6,.v .str x0)] K=(g83_20 (fun y0 y1=>K .normal (e131 y0 y1)) x0):=by
 kernel_rfl
def g83_21 (N:Nat) (S87:V0→V8→Option (Bool)) (S88:Int→Option (Bool)) (S90:V4→V1→Option V3) (k0:V1→Int→Option R) (k1:V1→Int→Option R) (k2:V1→Int→Option R) (x0:V4):Option R:=
(g83_0 (g83_1 (g83_14 N S87 S88 k0 ((g83_16 S90 (g83_17 (fun y0 y1=>brB y1 (g83_18 k1 y0 y1) ((g83_20 k2) y0))))))) x0)
theorem t83_21 (S87) (S88) (S90) (h87:(ctr87 S87).holds cl) (h88:(ctr88 S88).holds cl) (h90:(ctr90 S90).holds cl) (x0):exec cl N c83_21 [(0,.v U0 x0)] K=(g83_21 N S87 S88 S90 (fun y0 y1=>K .ret (e137 y0 y1)) (fun y0 y1=>K .ret (e140 y0 y1)) (fun y0 y1=>K .ret (e131 y0 y1)) x0):=by
 simp only [c83_21,exec_seq,seqK_normal,seqK_exit,seqK_ret,t83_0,t83_1,c83_15,exec_out,exec_block,t83_14 S87 S88 h87 h88,blockK_normal,blockK_ret,blockK_eq,kp83_11,kp83_12,t83_16 S90 h90,t83_17,c83_19,exec_cond',hb83_3,Option.bind_some,brB_true,brB_false,t83_18,exec_ret,exec_skip,kp83_13,kp83_14,t83_20]
 rfl
theorem rk83_0 (y0 y1):retK d83 .ret (e137 y0 y1)=some [.v .str y0,.v U2 y1]:=by kernel_rfl
theorem rk83_1 (y0 y1):retK d83 .ret (e140 y0 y1)=some [.v .str y0,.v U2 y1]:=by kernel_rfl
theorem rk83_2 (y0 y1):retK d83 .ret (e131 y0 y1)=some [.v .str y0,.v U2 y1]:=by kernel_rfl
def g83 (N:Nat) (S87:V0→V8→Option (Bool)) (S88:Int→Option (Bool)) (S90:V4→V1→Option V3) (x0:V4) (k:V1→Int→Option R):Option R:=
(g83_21 N S87 S88 S90 k k k x0)
theorem gen83 (S87) (S88) (S90) (h87:(ctr87 S87).holds cl) (h88:(ctr88 S88).holds cl) (h90:(ctr90 S90).holds cl) (x0) (k:List E→Option R):exec cl N c83 [(0,.v U0 x0)] (fun e env=>(retK d83 e env).bind k)=g83 N S87 S88 S90 x0 (fun r0 r1=>k [.v .str r0,.v U2 r1]):=by
 simp only [c83,t83_21 S87 S88 S90 h87 h88 h90,rk83_0,rk83_1,rk83_2,Option.bind_some]
 rfl
def ctr83 (S:V4→Option V5):Ctr:=cv1 83 U0 S fun b=> [.v .str b.1,.v U2 b.2]
def S83 (N:Nat) (x0:V4):Option V5:=g83 N (S87 N) (S88 N) (S90 N) x0 (fun (r0:V1) (r1:Int)=>some (r0,r1))
def g66_0 (k0:V1→Option R) (x0:V1):Option R:=
k0 x0
theorem t66_0 (x0):exec cl N c66_0 [(0,.v .str x0)] K=(g66_0 (fun y0=>K .normal [(0,.v .str y0)]) x0):=by
 kernel_rfl
def g66_1 (k0:V1→Bool→Option R) (x0:V1):Option R:=
k0 x0 (decide ((x0.length:Int) > (16:Int)))
theorem t66_1 (x0):exec cl N c66_1 [(0,.v .str x0)] K=(g66_1 (fun y0 y1=>K .normal (e141 y0 y1)) x0):=by
 kernel_rfl
def g66_2 (k0:Int→Option R) (x0:V1) (x1:Bool):Option R:=
k0 (3:Int)
theorem t66_2 (x0 x1):exec cl N c66_2 (e141 x0 x1) K=(g66_2 (fun y0=>K .normal [(2,.v U2 y0)]) x0 x1):=by
 kernel_rfl
theorem kp66_0 (x0):keep [0,2] [(2,.v U2 x0)]=(e74 x0):=by kernel_rfl
theorem kp66_1 (x0 x1):keep [0,2] (e141 x0 x1)=(e75 x0):=by kernel_rfl
theorem hb66_0 (x0 x1):boolOf? (ent (e141 x0 x1) (.t 7))=some x1:=by kernel_rfl
def g66_8 (S44:V1→Option V3) (S83:V4→Option V5) (k0:Bool→Option R) (x0:V1):Option R:=
(S83 [x0]).bind fun r459=>
brB (r459.2 != (0:Int)) (k0 true) ((S44 x0).bind fun r461=>
k0 (r461 != x0))
theorem t66_8 (S44) (S83) (h44:(ctr44 S44).holds cl) (h83:(ctr83 S83).holds cl) (x0):exec cl N c66_8 (e75 x0) K=(g66_8 S44 S83 (fun y0=>exec cl N c66_7 [(21,.v .bool y0)] K) x0):=by
 rw [←put_eq h44]
 rw [←put_eq h83]
 kernel_rfl
def g66_6 (k0:Int→Option R) (x0:Bool):Option R:=
k0 (2:Int)
theorem t66_6 (x0):exec cl N c66_6 [(21,.v .bool x0)] K=(g66_6 (fun y0=>K .normal [(2,.v U2 y0)]) x0):=by
 kernel_rfl
theorem kp66_2 (x0):keep [2] [(2,.v U2 x0)]=[(2,.v U2 x0)]:=by kernel_rfl
theorem kp66_3 (x0):keep [2] [(21,.v .bool x0)]=[(2,.dead)]:=by kernel_rfl
theorem hb66_1 (x0):boolOf? (ent [(21,.v .bool x0)] (.t 21))=some x0:=by kernel_rfl
def g66_9 (k0:Int→Option R):Option R:=
k0 (0:Int)
theorem t66_9:exec cl N c66_9 [(2,.dead)] K=(g66_9 (fun y0=>K .normal [(2,.v U2 y0)])):=by
 kernel_rfl
def g66_10 (S44:V1→Option V3) (S83:V4→Option V5) (k0:Int→Option R) (k1:Int→Option R) (x0:V1):Option R:=
(g66_0 (g66_1 (fun y0 y1=>brB y1 (g66_2 k0 y0 y1) ((g66_8 S44 S83 (fun y0=>brB y0 (g66_6 k1 y0) (g66_9 k1))) y0))) x0)
theorem t66_10 (S44) (S83) (h44:(ctr44 S44).holds cl) (h83:(ctr83 S83).holds cl) (x0):exec cl N c66_10 [(0,.v .str x0)] K=(g66_10 S44 S83 (fun y0=>K .ret (e74 y0)) (fun y0=>K .ret [(2,.v U2 y0)]) x0):=by
 simp only [c66_10,exec_seq,seqK_normal,seqK_exit,seqK_ret,t66_0,t66_1,c66_3,exec_out,exec_cond',hb66_0,Option.bind_some,brB_true,brB_false,t66_2,exec_ret,exec_skip,kp66_0,kp66_1,t66_8 S44 S83 h44 h83,c66_7,hb66_1,t66_6,kp66_2,kp66_3,t66_9]
 rfl
theorem rk66_0 (y0):retK d66 .ret (e74 y0)=some [.v U2 y0]:=by kernel_rfl
theorem rk66_1 (y0):retK d66 .ret [(2,.v U2 y0)]=some [.v U2 y0]:=by kernel_rfl
def g66 (S44:V1→Option V3) (S83:V4→Option V5) (x0:V1) (k:Int→Option R):Option R:=
(g66_10 S44 S83 k k x0)
theorem gen66 (S44) (S83) (h44:(ctr44 S44).holds cl) (h83:(ctr83 S83).holds cl) (x0) (k:List E→Option R):exec cl N c66 [(0,.v .str x0)] (fun e env=>(retK d66 e env).bind k)=g66 S44 S83 x0 (fun r0=>k [.v U2 r0]):=by
 simp only [c66,t66_10 S44 S83 h44 h83,rk66_0,rk66_1,Option.bind_some]
 rfl
def ctr66 (S:V1→Option (Int)):Ctr:=cv1 66 .str S fun b=> [.v U2 b]
def S66 (N:Nat) (x0:V1):Option (Int):=g66 (S44 N) (S83 N) x0 (fun (r0:Int)=>some (r0))
def g43_0 (k0:V10→Option R) (x0:V10):Option R:=
k0 x0
theorem t43_0 (x0):exec cl N c43_0 [(0,.v U13 x0)] K=(g43_0 (fun y0=>K .normal [(1,.loc U13 .no y0)]) x0):=by
 kernel_rfl
def g43_1 (k0:V10→Bool→Option R) (x0:V10):Option R:=
brB (decide (x0.1 < (1:Int))) (k0 x0 true) (brB (decide (x0.1 > (12:Int))) (k0 x0 true) (brB (decide (x0.2.1 < (0:Int))) (k0 x0 true) (k0 x0 (decide (x0.2.1 > (999:Int))))))
theorem t43_1 (x0):exec cl N c43_1 [(1,.loc U13 .no x0)] K=(g43_1 (fun y0 y1=>K .normal (e142 y0 y1)) x0):=by
 kernel_rfl
def g43_2 (k0:Int→Option R) (x0:V10) (x1:Bool):Option R:=
k0 (6:Int)
theorem t43_2 (x0 x1):exec cl N c43_2 (e142 x0 x1) K=(g43_2 (fun y0=>K .normal [(2,.v U2 y0)]) x0 x1):=by
 kernel_rfl
theorem kp43_0 (x0):keep [1,2] [(2,.v U2 x0)]=(e92 x0):=by kernel_rfl
def g43_3 (k0:V10→Bool→Option R) (x0:V10) (x1:Bool):Option R:=
k0 x0 (decide ((x0.2.2.1.length:Int) > (20:Int)))
theorem t43_3 (x0 x1):exec cl N c43_3 (e142 x0 x1) K=(g43_3 (fun y0 y1=>K .normal (e143 y0 y1)) x0 x1):=by
 kernel_rfl
def g43_4 (k0:Int→Option R) (x0:V10) (x1:Bool):Option R:=
k0 (3:Int)
theorem t43_4 (x0 x1):exec cl N c43_4 (e143 x0 x1) K=(g43_4 (fun y0=>K .normal [(2,.v U2 y0)]) x0 x1):=by
 kernel_rfl
theorem kp43_1 (x0 x1):keep [1,2] (e143 x0 x1)=(e93 x0):=by kernel_rfl
theorem hb43_0 (x0 x1):boolOf? (ent (e143 x0 x1) (.t 25))=some x1:=by kernel_rfl
theorem kp43_2 (x0):keep [1,2] (e92 x0)=(e92 x0):=by kernel_rfl
theorem kp43_3 (x0):keep [1,2] (e93 x0)=(e93 x0):=by kernel_rfl
theorem hb43_1 (x0 x1):boolOf? (ent (e142 x0 x1) (.t 6))=some x1:=by kernel_rfl
def g43_8 (k0:V10→V4→Int→Int→Option R) (x0:V10):Option R:=
k0 x0 x0.2.2.1 (x0.2.2.1.length:Int) (0:Int)
theorem t43_8 (x0):exec cl N c43_8 (e93 x0) K=(g43_8 (fun y0 y1 y2 y3=>K .normal (e144 y0 y1 y2 y3)) x0):=by
 kernel_rfl
theorem kp43_4 (x0 x1 x2 x3):keep [1,31,32,33] (e144 x0 x1 x2 x3)=(e144 x0 x1 x2 x3):=by kernel_rfl
def g43_9 (k0:V10→V4→Int→Int→Bool→Option R) (x0:V10) (x1:V4) (x2 x3:Int):Option R:=
k0 x0 x1 x2 x3 (decide (x3 < x2))
theorem t43_9 (x0 x1 x2 x3):exec cl N c43_9 (e144 x0 x1 x2 x3) K=(g43_9 (fun y0 y1 y2 y3 y4=>K .normal (e145 y0 y1 y2 y3 y4)) x0 x1 x2 x3):=by
 kernel_rfl
theorem kp43_5 (x0 x1 x2 x3 x4):keep [1,31,32,33] (e145 x0 x1 x2 x3 x4)=(e144 x0 x1 x2 x3):=by kernel_rfl
theorem hb43_2 (x0 x1 x2 x3 x4):boolOf? (ent (e145 x0 x1 x2 x3 x4) (.t 34))=some x4:=by kernel_rfl
def g43_11 (k0:V10→Int→V1→V4→Int→Int→Option R) (x0:V10) (x1:V4) (x2 x3:Int):Option R:=
if 0≤x3∧x3 < (x1.length:Int) then
k0 x0 x3 (x1.getD x3.toNat []) x1 x2 x3
else none
theorem t43_11 (x0 x1 x2 x3):exec cl N c43_11 (e144 x0 x1 x2 x3) K=(g43_11 (fun y0 y1 y2 y3 y4 y5=>K .normal (e146 y0 y1 y2 y3 y4 y5)) x0 x1 x2 x3):=by
 kernel_rfl
def g43_16 (S66:V1→Option (Int)) (k0:V10→Int→V1→Int→V4→Int→Int→Bool→Option R) (x0:V10) (x1:Int) (x2:V1) (x3:V4) (x4 x5:Int):Option R:=
(S66 x2).bind fun r475=>
k0 x0 x1 x2 r475 x3 x4 x5 (r475 != (0:Int))
theorem t43_16 (S66) (h66:(ctr66 S66).holds cl) (x0 x1 x2 x3 x4 x5):exec cl N c43_16 (e146 x0 x1 x2 x3 x4 x5) K=(g43_16 S66 (fun y0 y1 y2 y3 y4 y5 y6 y7=>exec cl N c43_15 (e147 y0 y1 y2 y3 y4 y5 y6 y7) K) x0 x1 x2 x3 x4 x5):=by
 rw [←put_eq h66]
 kernel_rfl
def g43_14 (k0:Int→Option R) (x0:V10) (x1:Int) (x2:V1) (x3:Int) (x4:V4) (x5 x6:Int) (x7:Bool):Option R:=
k0 x3
theorem t43_14 (x0 x1 x2 x3 x4 x5 x6 x7):exec cl N c43_14 (e147 x0 x1 x2 x3 x4 x5 x6 x7) K=(g43_14 (fun y0=>K .normal [(2,.v U2 y0)]) x0 x1 x2 x3 x4 x5 x6 x7):=by
 kernel_rfl
theorem kp43_6 (x0):keep [1,2,3,4,31,32,33] [(2,.v U2 x0)]=(e148 x0):=by kernel_rfl
theorem kp43_7 (x0 x1 x2 x3 x4 x5 x6 x7):keep [1,2,3,4,31,32,33] (e147 x0 x1 x2 x3 x4 x5 x6 x7)=(e149 x0 x1 x2 x4 x5 x6):=by kernel_rfl
theorem hb43_3 (x0 x1 x2 x3 x4 x5 x6 x7):boolOf? (ent (e147 x0 x1 x2 x3 x4 x5 x6 x7) (.t 41))=some x7:=by kernel_rfl
def g43_17 (S67:V4→V1→Option (Bool)) (k0:V10→V4→Int→Int→Bool→Option R) (x0:V10) (x1:Int) (x2:V1) (x3:V4) (x4 x5:Int):Option R:=
if 0≤(0:Int)∧(0:Int)≤x1∧x1≤(x0.2.2.1.length:Int)∧(x0.2.2.1.length:Int)≤(x0.2.2.1.length:Int) then
(S67 ((x0.2.2.1.drop (0:Int).toNat).take (x1.toNat - (0:Int).toNat)) x2).bind fun r478=>
k0 x0 x3 x4 x5 r478
else none
theorem t43_17 (S67) (h67:(ctr67 S67).holds cl) (x0 x1 x2 x3 x4 x5):exec cl N c43_17 (e149 x0 x1 x2 x3 x4 x5) K=(g43_17 S67 (fun y0 y1 y2 y3 y4=>K .normal (e150 y0 y1 y2 y3 y4)) x0 x1 x2 x3 x4 x5):=by
 rw [←put_eq h67]
 kernel_rfl
def g43_18 (k0:Int→Option R) (x0:V10) (x1:V4) (x2 x3:Int) (x4:Bool):Option R:=
k0 (5:Int)
theorem t43_18 (x0 x1 x2 x3 x4):exec cl N c43_18 (e150 x0 x1 x2 x3 x4) K=(g43_18 (fun y0=>K .normal [(2,.v U2 y0)]) x0 x1 x2 x3 x4):=by
 kernel_rfl
theorem kp43_8 (x0):keep [1,2,31,32,33] [(2,.v U2 x0)]=(e151 x0):=by kernel_rfl
theorem kp43_9 (x0 x1 x2 x3 x4):keep [1,2,31,32,33] (e150 x0 x1 x2 x3 x4)=(e152 x0 x1 x2 x3):=by kernel_rfl
theorem hb43_4 (x0 x1 x2 x3 x4):boolOf? (ent (e150 x0 x1 x2 x3 x4) (.t 48))=some x4:=by kernel_rfl
theorem kp43_10 (x0):keep [1,2,31,32,33] (e148 x0)=(e151 x0):=by kernel_rfl
theorem kp43_11 (x0):keep [1,2,31,32,33] (e151 x0)=(e151 x0):=by kernel_rfl
theorem kp43_12 (x0 x1 x2 x3):keep [1,2,31,32,33] (e152 x0 x1 x2 x3)=(e152 x0 x1 x2 x3):=by kernel_rfl
def g43_21 (k0:V10→V4→Int→Int→Option R) (x0:V10) (x1:V4) (x2 x3:Int):Option R:=
k0 x0 x1 x2 (IntKind.i64.wrap (x3+(1:Int)))
theorem t43_21 (x0 x1 x2 x3):exec cl N c43_21 (e152 x0 x1 x2 x3) K=(g43_21 (fun y0 y1 y2 y3=>K .normal (e144 y0 y1 y2 y3)) x0 x1 x2 x3):=by
 kernel_rfl
def g43_22 (S66:V1→Option (Int)) (S67:V4→V1→Option (Bool)) (k0:Int→Option R) (k1:V10→V4→Int→Int→Option R) (k2:V10→V4→Int→Int→Option R) (x0:V10) (x1:V4) (x2 x3:Int):Option R:=
(g43_9 (fun y0 y1 y2 y3 y4=>brB y4 ((g43_11 (g43_16 S66 (fun y0 y1 y2 y3 y4 y5 y6 y7=>brB y7 (g43_14 k0 y0 y1 y2 y3 y4 y5 y6 y7) ((g43_17 S67 (fun y0 y1 y2 y3 y4=>brB y4 (g43_18 k0 y0 y1 y2 y3 y4) (((g43_21 k1)) y0 y1 y2 y3))) y0 y1 y2 y4 y5 y6)))) y0 y1 y2 y3) (k2 y0 y1 y2 y3)) x0 x1 x2 x3)
theorem t43_22 (S66) (S67) (h66:(ctr66 S66).holds cl) (h67:(ctr67 S67).holds cl) (x0 x1 x2 x3):exec cl N c43_22 (e144 x0 x1 x2 x3) K=(g43_22 S66 S67 (fun y0=>K .ret (e151 y0)) (fun y0 y1 y2 y3=>K .normal (e144 y0 y1 y2 y3)) (fun y0 y1 y2 y3=>K (.exit 1) (e144 y0 y1 y2 y3)) x0 x1 x2 x3):=by
 simp only [c43_22,exec_seq,seqK_normal,seqK_exit,seqK_ret,t43_9,c43_10,exec_out,exec_cond',hb43_2,Option.bind_some,brB_true,brB_false,exec_skip,exec_exit,kp43_5,c43_20,exec_block,t43_11,t43_16 S66 h66,c43_15,hb43_3,t43_14,exec_ret,kp43_6,kp43_7,t43_17 S67 h67,c43_19,hb43_4,t43_18,kp43_8,kp43_9,blockK_normal,blockK_ret,blockK_eq,kp43_10,kp43_11,kp43_12,t43_21]
 rfl
def l43_23 {R:Type} (S66:V1→Option (Int)) (S67:V4→V1→Option (Bool)) (k0:Int→Option R) (k1:V10→V4→Int→Int→Option R):Nat→V10→V4→Int→Int→Option R
 | 0,_,_,_,_=>none
 | m+1,x0,x1,x2,x3=>(g43_22 S66 S67 k0 (l43_23 S66 S67 k0 k1 m) k1 x0 x1 x2 x3)
theorem lt43_23 (S66) (S67) (h66:(ctr66 S66).holds cl) (h67:(ctr67 S67).holds cl):∀ (m) (x0 x1 x2 x3),iter [1,31,32,33] (fun env K=>exec cl N c43_22 env K) K m (e144 x0 x1 x2 x3)=l43_23 S66 S67 (fun y0=>K .ret (e151 y0)) (fun y0 y1 y2 y3=>K (.exit 1) (e144 y0 y1 y2 y3)) m x0 x1 x2 x3:=by
 intro m
 induction m with
 | zero=>intros; rfl
 | succ m ih=>
   intro x0 x1 x2 x3
   simp only [iter_succ,t43_22 S66 S67 h66 h67,loopK_normal,loopK_exit,loopK_ret,kp43_4,ih]
   rfl
theorem kp43_13 (x0):keep [2] (e151 x0)=[(2,.v U2 x0)]:=by kernel_rfl
theorem kp43_14 (x0 x1 x2 x3):keep [2] (e144 x0 x1 x2 x3)=[(2,.dead)]:=by kernel_rfl
def g43_23 (N:Nat) (S66:V1→Option (Int)) (S67:V4→V1→Option (Bool)) (k0:Int→Option R) (k1:Option R) (x0:V10) (x1:V4) (x2 x3:Int):Option R:=
l43_23 S66 S67 k0 (fun y0 y1 y2 y3=>k1) N x0 x1 x2 x3
theorem t43_23 (S66) (S67) (h66:(ctr66 S66).holds cl) (h67:(ctr67 S67).holds cl) (x0 x1 x2 x3):exec cl N c43_23 (e144 x0 x1 x2 x3) K=(g43_23 N S66 S67 (fun y0=>K .ret [(2,.v U2 y0)]) (K (.exit 1) [(2,.dead)]) x0 x1 x2 x3):=by
 simp only [c43_23,exec_out,exec_loop,kp43_4,lt43_23 S66 S67 h66 h67,kp43_13,kp43_14]
 rfl
theorem kp43_15 (x0):keep [2] [(2,.v U2 x0)]=[(2,.v U2 x0)]:=by kernel_rfl
theorem kp43_16:keep [2] [(2,.dead)]=[(2,.dead)]:=by kernel_rfl
def g43_25 (k0:Int→Option R):Option R:=
k0 (0:Int)
theorem t43_25:exec cl N c43_25 [(2,.dead)] K=(g43_25 (fun y0=>K .normal [(2,.v U2 y0)])):=by
 kernel_rfl
def g43_26 (N:Nat) (S66:V1→Option (Int)) (S67:V4→V1→Option (Bool)) (k0:Int→Option R) (k1:Int→Option R) (x0:V10):Option R:=
(g43_0 (g43_1 (fun y0 y1=>brB y1 (g43_2 k0 y0 y1) (g43_3 (fun y0 y1=>brB y1 (g43_4 k0 y0 y1) ((((g43_8 (g43_23 N S66 S67 k1 (g43_25 k1))))) y0)) y0 y1))) x0)
theorem t43_26 (S66) (S67) (h66:(ctr66 S66).holds cl) (h67:(ctr67 S67).holds cl) (x0):exec cl N c43_26 [(0,.v U13 x0)] K=(g43_26 N S66 S67 (fun y0=>K .ret (e92 y0)) (fun y0=>K .ret [(2,.v U2 y0)]) x0):=by
 simp only [c43_26,exec_seq,seqK_normal,seqK_exit,seqK_ret,t43_0,c43_7,exec_out,exec_block,t43_1,c43_6,exec_cond',hb43_1,Option.bind_some,brB_true,brB_false,t43_2,exec_ret,t43_3,c43_5,hb43_0,t43_4,exec_skip,kp43_0,kp43_1,kp43_2,kp43_3,blockK_normal,blockK_ret,blockK_eq,t43_8,c43_24,t43_23 S66 S67 h66 h67,kp43_15,kp43_16,t43_25]
 rfl
theorem rk43_0 (y0):retK d43 .ret (e92 y0)=some [.v U2 y0]:=by kernel_rfl
theorem rk43_1 (y0):retK d43 .ret [(2,.v U2 y0)]=some [.v U2 y0]:=by kernel_rfl
def g43 (N:Nat) (S66:V1→Option (Int)) (S67:V4→V1→Option (Bool)) (x0:V10) (k:Int→Option R):Option R:=
(g43_26 N S66 S67 k k x0)
theorem gen43 (S66) (S67) (h66:(ctr66 S66).holds cl) (h67:(ctr67 S67).holds cl) (x0) (k:List E→Option R):exec cl N c43 [(0,.v U13 x0)] (fun e env=>(retK d43 e env).bind k)=g43 N S66 S67 x0 (fun r0=>k [.v U2 r0]):=by
 simp only [c43,t43_26 S66 S67 h66 h67,rk43_0,rk43_1,Option.bind_some]
 rfl
def ctr43 (S:V10→Option (Int)):Ctr:=cv1 43 U13 S fun b=> [.v U2 b]
def S43 (N:Nat) (x0:V10):Option (Int):=g43 N (S66 N) (S67 N) x0 (fun (r0:Int)=>some (r0))
def g16_0 (k0:V15→Option R) (x0:V15):Option R:=
k0 x0
theorem t16_0 (x0):exec cl N c16_0 [(0,.v U18 x0)] K=(g16_0 (fun y0=>K .normal [(1,.loc U18 .no y0)]) x0):=by
 kernel_rfl
def g16_1 (S42:V1→Option (Bool)) (k0:V15→Bool→Option R) (x0:V15):Option R:=
(S42 x0.1).bind fun r484=>
k0 x0 (!r484)
theorem t16_1 (S42) (h42:(ctr42 S42).holds cl) (x0):exec cl N c16_1 [(1,.loc U18 .no x0)] K=(g16_1 S42 (fun y0 y1=>K .normal (e153 y0 y1)) x0):=by
 rw [←put_eq h42]
 kernel_rfl
def g16_2 (k0:Int→Option R) (x0:V15) (x1:Bool):Option R:=
k0 (2:Int)
theorem t16_2 (x0 x1):exec cl N c16_2 (e153 x0 x1) K=(g16_2 (fun y0=>K .normal [(2,.v U2 y0)]) x0 x1):=by
 kernel_rfl
theorem kp16_0 (x0):keep [1,2] [(2,.v U2 x0)]=(e92 x0):=by kernel_rfl
def g16_3 (k0:V15→Bool→Option R) (x0:V15) (x1:Bool):Option R:=
k0 x0 (decide ((x0.2.1.length:Int) > (30:Int)))
theorem t16_3 (x0 x1):exec cl N c16_3 (e153 x0 x1) K=(g16_3 (fun y0 y1=>K .normal (e154 y0 y1)) x0 x1):=by
 kernel_rfl
def g16_4 (k0:Int→Option R) (x0:V15) (x1:Bool):Option R:=
k0 (3:Int)
theorem t16_4 (x0 x1):exec cl N c16_4 (e154 x0 x1) K=(g16_4 (fun y0=>K .normal [(2,.v U2 y0)]) x0 x1):=by
 kernel_rfl
theorem kp16_1 (x0 x1):keep [1,2] (e154 x0 x1)=(e102 x0):=by kernel_rfl
theorem hb16_0 (x0 x1):boolOf? (ent (e154 x0 x1) (.t 11))=some x1:=by kernel_rfl
theorem kp16_2 (x0):keep [1,2] (e92 x0)=(e92 x0):=by kernel_rfl
theorem kp16_3 (x0):keep [1,2] (e102 x0)=(e102 x0):=by kernel_rfl
theorem hb16_1 (x0 x1):boolOf? (ent (e153 x0 x1) (.t 6))=some x1:=by kernel_rfl
def g16_8 (k0:V11→Int→Int→Option R) (x0:V15):Option R:=
k0 x0.2.1 (x0.2.1.length:Int) (0:Int)
theorem t16_8 (x0):exec cl N c16_8 (e102 x0) K=(g16_8 (fun y0 y1 y2=>K .normal (e155 y0 y1 y2)) x0):=by
 kernel_rfl
theorem kp16_4 (x0 x1 x2):keep [17,18,19] (e155 x0 x1 x2)=(e155 x0 x1 x2):=by kernel_rfl
def g16_9 (k0:V11→Int→Int→Bool→Option R) (x0:V11) (x1 x2:Int):Option R:=
k0 x0 x1 x2 (decide (x2 < x1))
theorem t16_9 (x0 x1 x2):exec cl N c16_9 (e155 x0 x1 x2) K=(g16_9 (fun y0 y1 y2 y3=>K .normal (e156 y0 y1 y2 y3)) x0 x1 x2):=by
 kernel_rfl
theorem kp16_5 (x0 x1 x2 x3):keep [17,18,19] (e156 x0 x1 x2 x3)=(e155 x0 x1 x2):=by kernel_rfl
theorem hb16_2 (x0 x1 x2 x3):boolOf? (ent (e156 x0 x1 x2 x3) (.t 20))=some x3:=by kernel_rfl
def g16_16 (S43:V10→Option (Int)) (k0:Int→V11→Int→Int→Bool→Option R) (x0:V11) (x1 x2:Int):Option R:=
if 0≤x2∧x2 < (x0.length:Int) then
(S43 (x0.getD x2.toNat ((0:Int),((0:Int),([],()))))).bind fun r488=>
k0 r488 x0 x1 x2 (r488 != (0:Int))
else none
theorem t16_16 (S43) (h43:(ctr43 S43).holds cl) (x0 x1 x2):exec cl N c16_16 (e155 x0 x1 x2) K=(g16_16 S43 (fun y0 y1 y2 y3 y4=>exec cl N c16_15 (e157 y0 y1 y2 y3 y4) K) x0 x1 x2):=by
 rw [←put_eq h43]
 kernel_rfl
def g16_14 (k0:Int→Option R) (x0:Int) (x1:V11) (x2 x3:Int) (x4:Bool):Option R:=
k0 x0
theorem t16_14 (x0 x1 x2 x3 x4):exec cl N c16_14 (e157 x0 x1 x2 x3 x4) K=(g16_14 (fun y0=>K .normal [(2,.v U2 y0)]) x0 x1 x2 x3 x4):=by
 kernel_rfl
theorem kp16_6 (x0):keep [2,17,18,19] [(2,.v U2 x0)]=(e158 x0):=by kernel_rfl
theorem kp16_7 (x0 x1 x2 x3 x4):keep [2,17,18,19] (e157 x0 x1 x2 x3 x4)=(e159 x1 x2 x3):=by kernel_rfl
theorem hb16_3 (x0 x1 x2 x3 x4):boolOf? (ent (e157 x0 x1 x2 x3 x4) (.t 26))=some x4:=by kernel_rfl
theorem kp16_8 (x0):keep [2,17,18,19] (e158 x0)=(e158 x0):=by kernel_rfl
theorem kp16_9 (x0 x1 x2):keep [2,17,18,19] (e159 x0 x1 x2)=(e159 x0 x1 x2):=by kernel_rfl
def g16_18 (k0:V11→Int→Int→Option R) (x0:V11) (x1 x2:Int):Option R:=
k0 x0 x1 (IntKind.i64.wrap (x2+(1:Int)))
theorem t16_18 (x0 x1 x2):exec cl N c16_18 (e159 x0 x1 x2) K=(g16_18 (fun y0 y1 y2=>K .normal (e155 y0 y1 y2)) x0 x1 x2):=by
 kernel_rfl
def g16_19 (S43:V10→Option (Int)) (k0:Int→Option R) (k1:V11→Int→Int→Option R) (k2:V11→Int→Int→Option R) (x0:V11) (x1 x2:Int):Option R:=
(g16_9 (fun y0 y1 y2 y3=>brB y3 ((g16_16 S43 (fun y0 y1 y2 y3 y4=>brB y4 (g16_14 k0 y0 y1 y2 y3 y4) (((g16_18 k1)) y1 y2 y3))) y0 y1 y2) (k2 y0 y1 y2)) x0 x1 x2)
theorem t16_19 (S43) (h43:(ctr43 S43).holds cl) (x0 x1 x2):exec cl N c16_19 (e155 x0 x1 x2) K=(g16_19 S43 (fun y0=>K .ret (e158 y0)) (fun y0 y1 y2=>K .normal (e155 y0 y1 y2)) (fun y0 y1 y2=>K (.exit 1) (e155 y0 y1 y2)) x0 x1 x2):=by
 simp only [c16_19,exec_seq,seqK_normal,seqK_exit,seqK_ret,t16_9,c16_10,exec_out,exec_cond',hb16_2,Option.bind_some,brB_true,brB_false,exec_skip,exec_exit,kp16_5,c16_17,exec_block,t16_16 S43 h43,c16_15,hb16_3,t16_14,exec_ret,kp16_6,kp16_7,blockK_normal,blockK_ret,blockK_eq,kp16_8,kp16_9,t16_18]
 rfl
def l16_20 {R:Type} (S43:V10→Option (Int)) (k0:Int→Option R) (k1:V11→Int→Int→Option R):Nat→V11→Int→Int→Option R
 | 0,_,_,_=>none
 | m+1,x0,x1,x2=>(g16_19 S43 k0 (l16_20 S43 k0 k1 m) k1 x0 x1 x2)
theorem lt16_20 (S43) (h43:(ctr43 S43).holds cl):∀ (m) (x0 x1 x2),iter [17,18,19] (fun env K=>exec cl N c16_19 env K) K m (e155 x0 x1 x2)=l16_20 S43 (fun y0=>K .ret (e158 y0)) (fun y0 y1 y2=>K (.exit 1) (e155 y0 y1 y2)) m x0 x1 x2:=by
 intro m
 induction m with
 | zero=>intros; rfl
 | succ m ih=>
   intro x0 x1 x2
   simp only [iter_succ,t16_19 S43 h43,loopK_normal,loopK_exit,loopK_ret,kp16_4,ih]
   rfl
theorem kp16_10 (x0):keep [2] (e158 x0)=[(2,.v U2 x0)]:=by kernel_rfl
theorem kp16_11 (x0 x1 x2):keep [2] (e155 x0 x1 x2)=[(2,.dead)]:=by kernel_rfl
def g16_20 (N:Nat) (S43:V10→Option (Int)) (k0:Int→Option R) (k1:Option R) (x0:V11) (x1 x2:Int):Option R:=
l16_20 S43 k0 (fun y0 y1 y2=>k1) N x0 x1 x2
theorem t16_20 (S43) (h43:(ctr43 S43).holds cl) (x0 x1 x2):exec cl N c16_20 (e155 x0 x1 x2) K=(g16_20 N S43 (fun y0=>K .ret [(2,.v U2 y0)]) (K (.exit 1) [(2,.dead)]) x0 x1 x2):=by
 simp only [c16_20,exec_out,exec_loop,kp16_4,lt16_20 S43 h43,kp16_10,kp16_11]
 rfl
theorem kp16_12 (x0):keep [2] [(2,.v U2 x0)]=[(2,.v U2 x0)]:=by kernel_rfl
theorem kp16_13:keep [2] [(2,.dead)]=[(2,.dead)]:=by kernel_rfl
def g16_22 (k0:Int→Option R):Option R:=
k0 (0:Int)
theorem t16_22:exec cl N c16_22 [(2,.dead)] K=(g16_22 (fun y0=>K .normal [(2,.v U2 y0)])):=by
 kernel_rfl
def g16_23 (N:Nat) (S42:V1→Option (Bool)) (S43:V10→Option (Int)) (k0:Int→Option R) (k1:Int→Option R) (x0:V15):Option R:=
(g16_0 (g16_1 S42 (fun y0 y1=>brB y1 (g16_2 k0 y0 y1) (g16_3 (fun y0 y1=>brB y1 (g16_4 k0 y0 y1) ((((g16_8 (g16_20 N S43 k1 (g16_22 k1))))) y0)) y0 y1))) x0)
theorem t16_23 (S42) (S43) (h42:(ctr42 S42).holds cl) (h43:(ctr43 S43).holds cl) (x0):exec cl N c16_23 [(0,.v U18 x0)] K=(g16_23 N S42 S43 (fun y0=>K .ret (e92 y0)) (fun y0=>K .ret [(2,.v U2 y0)]) x0):=by
 simp only [c16_23,exec_seq,seqK_normal,seqK_exit,seqK_ret,t16_0,c16_7,exec_out,exec_block,t16_1 S42 h42,c16_6,exec_cond',hb16_1,Option.bind_some,brB_true,brB_false,t16_2,exec_ret,t16_3,c16_5,hb16_0,t16_4,exec_skip,kp16_0,kp16_1,kp16_2,kp16_3,blockK_normal,blockK_ret,blockK_eq,t16_8,c16_21,t16_20 S43 h43,kp16_12,kp16_13,t16_22]
 rfl
theorem rk16_0 (y0):retK d16 .ret (e92 y0)=some [.v U2 y0]:=by kernel_rfl
theorem rk16_1 (y0):retK d16 .ret [(2,.v U2 y0)]=some [.v U2 y0]:=by kernel_rfl
def g16 (N:Nat) (S42:V1→Option (Bool)) (S43:V10→Option (Int)) (x0:V15) (k:Int→Option R):Option R:=
(g16_23 N S42 S43 k k x0)
theorem gen16 (S42) (S43) (h42:(ctr42 S42).holds cl) (h43:(ctr43 S43).holds cl) (x0) (k:List E→Option R):exec cl N c16 [(0,.v U18 x0)] (fun e env=>(retK d16 e env).bind k)=g16 N S42 S43 x0 (fun r0=>k [.v U2 r0]):=by
 simp only [c16,t16_23 S42 S43 h42 h43,rk16_0,rk16_1,Option.bind_some]
 rfl
def ctr16 (S:V15→Option (Int)):Ctr:=cv1 16 U18 S fun b=> [.v U2 b]
def S16 (N:Nat) (x0:V15):Option (Int):=g16 N (S42 N) (S43 N) x0 (fun (r0:Int)=>some (r0))
end Go.Fw.L19
