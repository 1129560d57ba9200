/- Own work. -/
import Derived.Test.YtooiookccchmeaaGreatFwMm13a
import Derived.Test.YtooiookccchmeaaGreatFwB4
set_option linter.unusedVariables false
set_option linter.unusedSimpArgs false
open List renaming replicate → gG
open Option renaming bind_some → ar
namespace Go.Fw.L19
open Go Go.Fw
set_option maxRecDepth 100000
variable {N:Nat} {cl:ay} {R:Type} {K:KE R}
def HS (k0:V3→Option R) (k1:aD→V3→Int→Option R) (x0:aD) (x1:V3):Option R:=
ad ((x0.length:Int)==(0:Int)) (k0 ([]:List UInt8)) (ad ((x0.length:Int)==(1:Int)) (if 0≤(0:Int)∧(0:Int) < (x0.length:Int) then
k0 (x0.getD (0:Int).toNat [])
else none) (ad (decide ((x1.length:Int) > (0:Int))) (let v1113:Int:=(IntKind.i64.wrap ((x0.length:Int) - (1:Int)))
if v1113=0 then none else
ad (decide ((x1.length:Int)≥(IntKind.i64.wrap (Int.tdiv (9223372036854775807:Int) v1113)))) (none /- operation makeInterface -/) (k1 x0 x1 (IntKind.i64.wrap ((0:Int)+(IntKind.i64.wrap ((x1.length:Int) * (IntKind.i64.wrap ((x0.length:Int) - (1:Int))))))))) (k1 x0 x1 (0:Int))))
theorem amL (x0 x1):exec cl N zw [(0,.v U1 x0),(1,.v .str x1)] K=(HS (fun y0=>K .ret (GA y0)) (fun y0 y1 y2=>exec cl N zt (ox y0 y1 y2) K) x0 x1):=by
 delta zw
 generalize zt=q
 revert q
 refine id ?_
 intro q
 kernel_rfl
def HO (k0:aD→V3→Int→aD→Int→Int→Option R) (x0:aD) (x1:V3) (x2:Int):Option R:=
k0 x0 x1 x2 x0 (x0.length:Int) (0:Int)
theorem amH (x0 x1 x2):exec cl N NK (ox x0 x1 x2) K=(HO (fun y0 y1 y2 y3 y4 y5=>K .normal (lr y0 y1 y2 y3 y4 y5)) x0 x1 x2):=by
 kernel_rfl
theorem RD (x0 x1 x2 x3 x4 x5):ak [0,1,5,39,40,41] (lr x0 x1 x2 x3 x4 x5)=(lr x0 x1 x2 x3 x4 x5):=by kernel_rfl
def HP (k0:aD→V3→Int→aD→Int→Int→Option R) (k1:aD→V3→Int→aD→Int→Int→Option R) (x0:aD) (x1:V3) (x2:Int) (x3:aD) (x4 x5:Int):Option R:=
ad (decide (x5 < x4)) (if 0≤x5∧x5 < (x3.length:Int) then
ad (decide (((x3.getD x5.toNat []).length:Int) > (IntKind.i64.wrap ((9223372036854775807:Int) - x2)))) (none /- operation makeInterface -/) (k0 x0 x1 (IntKind.i64.wrap (x2+((x3.getD x5.toNat []).length:Int))) x3 x4 (IntKind.i64.wrap (x5+(1:Int))))
else none) (k1 x0 x1 x2 x3 x4 x5)
theorem amI (x0 x1 x2 x3 x4 x5):exec cl N Fa (lr x0 x1 x2 x3 x4 x5) K=(HP (fun y0 y1 y2 y3 y4 y5=>K .normal (lr y0 y1 y2 y3 y4 y5)) (fun y0 y1 y2 y3 y4 y5=>K (.exit 1) (lr y0 y1 y2 y3 y4 y5)) x0 x1 x2 x3 x4 x5):=by
 kernel_rfl
def Ix {R:Type} (k0:aD→V3→Int→aD→Int→Int→Option R):Nat→aD→V3→Int→aD→Int→Int→Option R
 | 0,_,_,_,_,_,_=>none
 | m+1,x0,x1,x2,x3,x4,x5=>(HP (Ix k0 m) k0 x0 x1 x2 x3 x4 x5)
theorem abG:∀ (m) (x0 x1 x2 x3 x4 x5),iter [0,1,5,39,40,41] (fun env K=>exec cl N Fa env K) K m (lr x0 x1 x2 x3 x4 x5)=Ix (fun y0 y1 y2 y3 y4 y5=>K (.exit 1) (lr y0 y1 y2 y3 y4 y5)) m x0 x1 x2 x3 x4 x5:=by
 intro m
 induction m with
 | zero=>intros; rfl
 | succ m ih=>
   intro x0 x1 x2 x3 x4 x5
   simp only [ck,amI,cq,cm,ct,RD,ih]
   rfl
theorem Z9 (x0 x1 x2 x3 x4 x5):ak [0,1,5] (lr x0 x1 x2 x3 x4 x5)=(ox x0 x1 x2):=by kernel_rfl
def HQ (N:Nat) (k0:aD→V3→Int→Option R) (x0:aD) (x1:V3) (x2:Int) (x3:aD) (x4 x5:Int):Option R:=
Ix (fun y0 y1 y2 y3 y4 y5=>k0 y0 y1 y2) N x0 x1 x2 x3 x4 x5
theorem amJ (x0 x1 x2 x3 x4 x5):exec cl N Fb (lr x0 x1 x2 x3 x4 x5) K=(HQ N (fun y0 y1 y2=>K (.exit 1) (ox y0 y1 y2)) x0 x1 x2 x3 x4 x5):=by
 simp only [Fb,aY,cj,RD,abG,Z9]
 rfl
theorem aaa (x0 x1 x2):ak [0,1,5] (ox x0 x1 x2)=(ox x0 x1 x2):=by kernel_rfl
def HR (x0:aD) (x1:V3) (x2:Int):Option R:=
none /- lent:sb -/
theorem amK (x0 x1 x2):exec cl N Fc (ox x0 x1 x2) K=(HR x0 x1 x2):=by
 delta Fc
 generalize NL=q
 revert q
 refine id ?_
 intro q
 kernel_rfl
def HT (N:Nat) (k0:V3→Option R) (x0:aD) (x1:V3):Option R:=
(HS k0 (HO (HQ N HR)) x0 x1)
theorem amM (x0 x1):exec cl N zw [(0,.v U1 x0),(1,.v .str x1)] K=(HT N (fun y0=>K .ret (GA y0)) x0 x1):=by
 simp only [b6,b9,b8,ca,amL,zt,NN,amH,NM,aY,cB,amJ,cz,cA,cy,aaa,amK]
 rfl
theorem afX (y0):ah d99 .ret (GA y0)=some [.v .str y0]:=by kernel_rfl
def AS (N:Nat) (x0:aD) (x1:V3) (k:V3→Option R):Option R:=
(HT N k x0 x1)
theorem Wa (x0 x1) (k:List E→Option R):exec cl N E9 [(0,.v U1 x0),(1,.v .str x1)] (fun e env=>(ah d99 e env).bind k)=AS N x0 x1 (fun r0=>k [.v .str r0]):=by
 simp only [E9,amM,afX,ar]
 rfl
def zT (S:aD→V3→Option V6):aO:=dZ 99 U1 .str S fun b=> [.v .str b]
def fk (N:Nat) (x0:aD) (x1:V3):Option V6:=AS N x0 x1 (fun (r0:V3)=>some (r0))
def vJ (k0:aD→Option R) (x0:aD):Option R:=
k0 x0
theorem alD (x0):exec cl N MV [(0,.v U1 x0)] K=(vJ (fun y0=>K .normal [(0,.v U1 y0)]) x0):=by
 kernel_rfl
def vK (k0:aD→aD→Int→Int→Option R) (x0:aD):Option R:=
k0 x0 x0 (x0.length:Int) (0:Int)
theorem alE (x0):exec cl N MW [(0,.v U1 x0)] K=(vK (fun y0 y1 y2 y3=>K .normal (lu y0 y1 y2 y3)) x0):=by
 kernel_rfl
theorem Ru (x0 x1 x2 x3):ak [0,7,8,9] (lu x0 x1 x2 x3)=(lu x0 x1 x2 x3):=by kernel_rfl
def vL (cY:V0→bR→Option (Bool)) (da:Int→Option (Bool)) (k0:V3→Int→Option R) (k1:aD→aD→Int→Int→Option R) (k2:aD→aD→Int→Int→Option R) (x0 x1:aD) (x2 x3:Int):Option R:=
ad (decide (x3 < x2)) (if 0≤x3∧x3 < (x1.length:Int) then
ad ((x1.getD x3.toNat [])==([]:List UInt8)) (k0 ([]:List UInt8) (7:Int)) ((cY ((x1.getD x3.toNat []).map fun b=>(b.toNat:Int)) (fun (x1128:V4)=>((da x1128.1).bind fun b1129=>some [.v .bool b1129]).bind (jA .bool))).bind fun r1130=>
ad r1130 (k0 ([]:List UInt8) (2:Int)) (k1 x0 x1 x2 (IntKind.i64.wrap (x3+(1:Int)))))
else none) (k2 x0 x1 x2 x3)
theorem alF (cY) (da) (h96:(qh cY).holds cl) (h97:(qi da).holds cl) (x0 x1 x2 x3):exec cl N Ey (lu x0 x1 x2 x3) K=(vL cY da (fun y0 y1=>K .ret (GB y0 y1)) (fun y0 y1 y2 y3=>K .normal (lu y0 y1 y2 y3)) (fun y0 y1 y2 y3=>K (.exit 0) (lu y0 y1 y2 y3)) x0 x1 x2 x3):=by
 rw [←aP h96]
 rw [←aP h97]
 kernel_rfl
def o9 {R:Type} (cY:V0→bR→Option (Bool)) (da:Int→Option (Bool)) (k0:V3→Int→Option R) (k1:aD→aD→Int→Int→Option R):Nat→aD→aD→Int→Int→Option R
 | 0,_,_,_,_=>none
 | m+1,x0,x1,x2,x3=>(vL cY da k0 (o9 cY da k0 k1 m) k1 x0 x1 x2 x3)
theorem abx (cY) (da) (h96:(qh cY).holds cl) (h97:(qi da).holds cl):∀ (m) (x0 x1 x2 x3),iter [0,7,8,9] (fun env K=>exec cl N Ey env K) K m (lu x0 x1 x2 x3)=o9 cY da (fun y0 y1=>K .ret (GB y0 y1)) (fun y0 y1 y2 y3=>K (.exit 0) (lu y0 y1 y2 y3)) m x0 x1 x2 x3:=by
 intro m
 induction m with
 | zero=>intros; rfl
 | succ m ih=>
   intro x0 x1 x2 x3
   simp only [ck,alF cY da h96 h97,cq,cm,ct,Ru,ih]
   rfl
theorem ZH (x0 x1):ak [0,2,3] (GB x0 x1)=(qu x0 x1):=by kernel_rfl
theorem ZI (x0 x1 x2 x3):ak [0,2,3] (lu x0 x1 x2 x3)=(tz x0):=by kernel_rfl
def vM (N:Nat) (cY:V0→bR→Option (Bool)) (da:Int→Option (Bool)) (k0:V3→Int→Option R) (k1:aD→Option R) (x0 x1:aD) (x2 x3:Int):Option R:=
o9 cY da k0 (fun y0 y1 y2 y3=>k1 y0) N x0 x1 x2 x3
theorem alG (cY) (da) (h96:(qh cY).holds cl) (h97:(qi da).holds cl) (x0 x1 x2 x3):exec cl N Ez (lu x0 x1 x2 x3) K=(vM N cY da (fun y0 y1=>K .ret (qu y0 y1)) (fun y0=>K (.exit 0) (tz y0)) x0 x1 x2 x3):=by
 simp only [Ez,aY,cj,Ru,abx cY da h96 h97,ZH,ZI]
 rfl
theorem ZJ (x0 x1):ak [0,2,3] (qu x0 x1)=(qu x0 x1):=by kernel_rfl
theorem ZK (x0):ak [0,2,3] (tz x0)=(tz x0):=by kernel_rfl
def vN (fk:aD→V3→Option V6) (k0:V3→Int→Option R) (k1:V3→Int→Option R) (x0:aD):Option R:=
(fk x0 ([32]:List UInt8)).bind fun r1132=>
ad (decide ((r1132.length:Int) > (120:Int))) (k0 ([]:List UInt8) (3:Int)) (k1 r1132 (0:Int))
theorem alH (fk) (h99:(zT fk).holds cl) (x0):exec cl N MZ (tz x0) K=(vN fk (fun y0 y1=>K .ret (FW y0 y1)) (fun y0 y1=>K .ret [(2,.v .str y0),(3,.v U2 y1)]) x0):=by
 rw [←aP h99]
 kernel_rfl
def vO (N:Nat) (cY:V0→bR→Option (Bool)) (da:Int→Option (Bool)) (fk:aD→V3→Option V6) (k0:V3→Int→Option R) (k1:V3→Int→Option R) (k2:V3→Int→Option R) (x0:aD):Option R:=
(vJ (vK (vM N cY da k0 ((vN fk k1 k2)))) x0)
theorem alI (cY) (da) (fk) (h96:(qh cY).holds cl) (h97:(qi da).holds cl) (h99:(zT fk).holds cl) (x0):exec cl N EA [(0,.v U1 x0)] K=(vO N cY da fk (fun y0 y1=>K .ret (qu y0 y1)) (fun y0 y1=>K .ret (FW y0 y1)) (fun y0 y1=>K .ret [(2,.v .str y0),(3,.v U2 y1)]) x0):=by
 simp only [EA,b6,b9,b8,ca,alD,M0,MY,alE,MX,aY,cB,alG cY da h96 h97,cz,cA,cy,ZJ,ZK,alH fk h99]
 rfl
theorem afw (y0 y1):ah d71 .ret (qu y0 y1)=some [.v .str y0,.v U2 y1]:=by kernel_rfl
theorem afx (y0 y1):ah d71 .ret (FW y0 y1)=some [.v .str y0,.v U2 y1]:=by kernel_rfl
theorem afy (y0 y1):ah d71 .ret [(2,.v .str y0),(3,.v U2 y1)]=some [.v .str y0,.v U2 y1]:=by kernel_rfl
def rp (N:Nat) (cY:V0→bR→Option (Bool)) (da:Int→Option (Bool)) (fk:aD→V3→Option V6) (x0:aD) (k:V3→Int→Option R):Option R:=
(vO N cY da fk k k k x0)
theorem VN (cY) (da) (fk) (h96:(qh cY).holds cl) (h97:(qi da).holds cl) (h99:(zT fk).holds cl) (x0) (k:List E→Option R):exec cl N Ew [(0,.v U1 x0)] (fun e env=>(ah d71 e env).bind k)=rp N cY da fk x0 (fun r0 r1=>k [.v .str r0,.v U2 r1]):=by
 simp only [Ew,alI cY da fk h96 h97 h99,afw,afx,afy,ar]
 rfl
def FM (S:aD→Option xw):aO:=cL 71 U1 S fun b=> [.v .str b.1,.v U2 b.2]
def gV (N:Nat) (x0:aD):Option xw:=rp N (cY N) (da N) (fk N) x0 (fun (r0:V3) (r1:Int)=>some (r0,r1))
def Hn (dW:ag→Option (Int)) (gV:aD→Option xw) (dX:V3→Option V6) (k0:Int→Option R) (k1:Int→Option R) (x0:ag) (x1:V3):Option R:=
(dW x0).bind fun r1137=>
ad (r1137 != (0:Int)) (k0 r1137) (ad (x1==([]:List UInt8)) (k0 (7:Int)) (ad (decide ((x1.length:Int) > (16:Int))) (k0 (3:Int)) ((gV [x1]).bind fun r1141=>
ad (r1141.2 != (0:Int)) (k1 (2:Int)) ((dX x1).bind fun r1143=>
ad (r1143 != x1) (k1 (2:Int)) (k1 (0:Int))))))
theorem akn (dW) (gV) (dX) (h70:(th dW).holds cl) (h71:(FM gV).holds cl) (h72:(ti dX).holds cl) (x0 x1):exec cl N LZ (j9 x0 x1) K=(Hn dW gV dX (fun y0=>K .ret [(1,.dead),(4,.v U2 y0)]) (fun y0=>K .ret [(4,.v U2 y0)]) x0 x1):=by
 rw [←aP h70]
 rw [←aP h71]
 rw [←aP h72]
 kernel_rfl
theorem aeX (y0):ah d40 .ret [(1,.dead),(4,.v U2 y0)]=some [.v U2 y0]:=by kernel_rfl
theorem aeY (y0):ah d40 .ret [(4,.v U2 y0)]=some [.v U2 y0]:=by kernel_rfl
def AG (dW:ag→Option (Int)) (gV:aD→Option xw) (dX:V3→Option V6) (x0:ag) (x1:V3) (k:Int→Option R):Option R:=
(Hn dW gV dX k k x0 x1)
theorem Vy (dW) (gV) (dX) (h70:(th dW).holds cl) (h71:(FM gV).holds cl) (h72:(ti dX).holds cl) (x0 x1) (k:List E→Option R):exec cl N DT (j9 x0 x1) (fun e env=>(ah d40 e env).bind k)=AG dW gV dX x0 x1 (fun r0=>k [.v U2 r0]):=by
 simp only [DT,akn dW gV dX h70 h71 h72,aeX,aeY,ar]
 rfl
def qe (S:ag→V3→Option (Int)):aO:=dZ 40 az .str S fun b=> [.v U2 b]
def dt (N:Nat) (x0:ag) (x1:V3):Option (Int):=AG (dW N) (gV N) (dX N) x0 x1 (fun (r0:Int)=>some (r0))
def HC (k0:aB→Option R) (k1:aB→Option R) (x0:aI) (x1:Int):Option R:=
ad (decide (x1 < (0:Int))) (k0 []) (if 0≤x1∧x1 < (x0.1.2.1.length:Int) then
k1 ((x0.1.2.1.getD x1.toNat ([],([],((0:Int),((0:Int),()))))).2.1)
else none)
theorem alP (x0 x1):exec cl N M6 [(0,.at bB x0),(1,.v U2 x1)] K=(HC (fun y0=>K .ret (N8 y0)) (fun y0=>K .ret [(4,.v bD y0)]) x0 x1):=by
 kernel_rfl
theorem afA (y0):ah d73 .ret (N8 y0)=some [.v bD y0]:=by kernel_rfl
theorem afB (y0):ah d73 .ret [(4,.v bD y0)]=some [.v bD y0]:=by kernel_rfl
def ru (x0:aI) (x1:Int) (k:aB→Option R):Option R:=
(HC k k x0 x1)
theorem HW (x0 x1) (k:List E→Option R):exec cl N EE [(0,.at bB x0),(1,.v U2 x1)] (fun e env=>(ah d73 e env).bind k)=ru x0 x1 (fun r0=>k [.v bD r0]):=by
 simp only [EE,alP,afA,afB,ar]
 rfl
def iU (S:aI→Int→Option kC):aO:={A:=aI×Int×Unit,B:=aB,f:=73,enc:=fun a=> [.at bB a.1,.v U2 a.2.1],dec:=(bc (n9 bB) (bc (bG U2) bY)),S:=fun a=>S a.1 a.2.1,au:=fun b=> [.v bD b],ok:=(zU (T:=bB) (fX (T:=U2) (fun es b h=>iW h)))}
def bx (N:Nat) (x0:aI) (x1:Int):Option kC:=ru x0 x1 (fun (r0:aB)=>some (r0))
def HG (k0:Bool→Option R) (x0:aN):Option R:=
ad (x0.1==(1:Int)) (k0 true) (k0 (x0.1==(2:Int)))
theorem alZ (x0):exec cl N Ng [(0,.v aA x0)] K=(HG (fun y0=>K .ret [(2,.v .bool y0)]) x0):=by
 kernel_rfl
theorem afH (y0):ah d87 .ret [(2,.v .bool y0)]=some [.v .bool y0]:=by kernel_rfl
def rz (x0:aN) (k:Bool→Option R):Option R:=
(HG k x0)
theorem HZ (x0) (k:List E→Option R):exec cl N EL [(0,.v aA x0)] (fun e env=>(ah d87 e env).bind k)=rz x0 (fun r0=>k [.v .bool r0]):=by
 simp only [EL,alZ,afH,ar]
 rfl
def mg (S:aN→Option (Bool)):aO:=cL 87 aA S fun b=> [.v .bool b]
def cQ (N:Nat) (x0:aN):Option (Bool):=rz x0 (fun (r0:Bool)=>some (r0))
def Hu (k0:Int→aB→aB→ag→Option R) (x0:ag) (x1:Int) (x2 x3:aB):Option R:=
k0 x1 x2 x3 x0
theorem ak9 (x0 x1 x2 x3):exec cl N Mw (FX x0 x1 x2 x3) K=(Hu (fun y0 y1 y2 y3=>K .normal [(1,.v U2 y0),(2,.v bD y1),(3,.v bD y2),(4,.loc az .no y3)]) x0 x1 x2 x3):=by
 kernel_rfl
def Hv (k0:Bool→Option R) (k1:Int→aB→aB→ag→Option R) (x0:Int) (x1 x2:aB) (x3:ag):Option R:=
ad (decide (x0 < (0:Int))) (k0 false) (ad (decide (x0≥(x3.2.1.length:Int))) (k0 false) (k1 x0 x1 x2 x3))
theorem ala (x0 x1 x2 x3):exec cl N Mx [(1,.v U2 x0),(2,.v bD x1),(3,.v bD x2),(4,.loc az .no x3)] K=(Hv (fun y0=>K .ret (FY y0)) (fun y0 y1 y2 y3=>K .normal (N9 y0 y1 y2 y3)) x0 x1 x2 x3):=by
 kernel_rfl
def Hw (cQ:aN→Option (Bool)) (k0:Int→aB→ag→Bool→Option R) (x0:Int) (x1 x2:aB) (x3:ag):Option R:=
ad (decide ((x2.length:Int) > (0:Int))) (if 0≤(0:Int)∧(0:Int) < (x2.length:Int) then
(cQ (x2.getD (0:Int).toNat ((0:Int),((0:Int),([],()))))).bind fun r1216=>
k0 x0 x1 x3 r1216
else none) (k0 x0 x1 x3 false)
theorem alb (cQ) (h87:(mg cQ).holds cl) (x0 x1 x2 x3):exec cl N My (N9 x0 x1 x2 x3) K=(Hw cQ (fun y0 y1 y2 y3=>K .normal [(1,.v U2 y0),(2,.v bD y1),(4,.loc az .no y2),(9,.v .bool y3)]) x0 x1 x2 x3):=by
 rw [←aP h87]
 kernel_rfl
def Hx (cQ:aN→Option (Bool)) (k0:Bool→Option R) (x0:Int) (x1:aB) (x2:ag) (x3:Bool):Option R:=
if 0≤x0∧x0 < (x2.2.1.length:Int) then
ad ((x2.2.1.getD x0.toNat ([],([],((0:Int),((0:Int),()))))).2.2.2.1==(0:Int)) (k0 true) (ad ((x2.2.1.getD x0.toNat ([],([],((0:Int),((0:Int),()))))).2.2.2.1==(1:Int)) (k0 x3) (ad ((x2.2.1.getD x0.toNat ([],([],((0:Int),((0:Int),()))))).2.2.2.1==(2:Int)) (ad x3 (k0 ((x1.length:Int)==(0:Int))) (k0 false)) (ad ((x2.2.1.getD x0.toNat ([],([],((0:Int),((0:Int),()))))).2.2.2.1==(3:Int)) (ad x3 (ad (decide ((x1.length:Int) > (0:Int))) (let v1223:Int:=(IntKind.i64.wrap ((x1.length:Int) - (1:Int)))
if 0≤v1223∧v1223 < (x1.length:Int) then
(cQ (x1.getD v1223.toNat ((0:Int),((0:Int),([],()))))).bind fun r1224=>
k0 r1224
else none) (k0 false)) (k0 false)) (ad ((x2.2.1.getD x0.toNat ([],([],((0:Int),((0:Int),()))))).2.2.2.1==(4:Int)) (k0 (!x3)) (k0 false)))))
else none
theorem alc (cQ) (h87:(mg cQ).holds cl) (x0 x1 x2 x3):exec cl N Mz [(1,.v U2 x0),(2,.v bD x1),(4,.loc az .no x2),(9,.v .bool x3)] K=(Hx cQ (fun y0=>K .ret [(8,.v .bool y0)]) x0 x1 x2 x3):=by
 rw [←aP h87]
 kernel_rfl
def Hy (cQ:aN→Option (Bool)) (k0:Bool→Option R) (k1:Bool→Option R) (x0:ag) (x1:Int) (x2 x3:aB):Option R:=
(Hu (Hv k0 (Hw cQ (Hx cQ k1))) x0 x1 x2 x3)
theorem ald (cQ) (h87:(mg cQ).holds cl) (x0 x1 x2 x3):exec cl N Em (FX x0 x1 x2 x3) K=(Hy cQ (fun y0=>K .ret (FY y0)) (fun y0=>K .ret [(8,.v .bool y0)]) x0 x1 x2 x3):=by
 simp only [Em,b6,b9,b8,ca,ak9,MB,ala,MA,alb cQ h87,alc cQ h87]
 rfl
theorem afk (y0):ah d60 .ret (FY y0)=some [.v .bool y0]:=by kernel_rfl
theorem afl (y0):ah d60 .ret [(8,.v .bool y0)]=some [.v .bool y0]:=by kernel_rfl
def qW (cQ:aN→Option (Bool)) (x0:ag) (x1:Int) (x2 x3:aB) (k:Bool→Option R):Option R:=
(Hy cQ k k x0 x1 x2 x3)
theorem HV (cQ) (h87:(mg cQ).holds cl) (x0 x1 x2 x3) (k:List E→Option R):exec cl N El (FX x0 x1 x2 x3) (fun e env=>(ah d60 e env).bind k)=qW cQ x0 x1 x2 x3 (fun r0=>k [.v .bool r0]):=by
 simp only [El,ald cQ h87,afk,afl,ar]
 rfl
def iT (S:ag→Int→aB→aB→Option (Bool)):aO:=Ud 60 az U2 bD bD S fun b=> [.v .bool b]
def bw (N:Nat) (x0:ag) (x1:Int) (x2:aB) (x3:aB):Option (Bool):=qW (cQ N) x0 x1 x2 x3 (fun (r0:Bool)=>some (r0))
def HE (k0:Bool→Option R) (x0 x1:V3):Option R:=
ad (decide ((x0.length:Int)≥(x1.length:Int))) (if 0≤(0:Int)∧(0:Int)≤(x1.length:Int)∧(x1.length:Int)≤(x0.length:Int) then
k0 (((x0.drop (0:Int).toNat).take ((x1.length:Int).toNat - (0:Int).toNat))==x1)
else none) (k0 false)
theorem alX (x0 x1):exec cl N Nc (zY x0 x1) K=(HE (fun y0=>K .ret [(4,.v .bool y0)]) x0 x1):=by
 kernel_rfl
theorem afE (y0):ah d83 .ret [(4,.v .bool y0)]=some [.v .bool y0]:=by kernel_rfl
def ry (x0 x1:V3) (k:Bool→Option R):Option R:=
(HE k x0 x1)
theorem HY (x0 x1) (k:List E→Option R):exec cl N EJ (zY x0 x1) (fun e env=>(ah d83 e env).bind k)=ry x0 x1 (fun r0=>k [.v .bool r0]):=by
 simp only [EJ,alX,afE,ar]
 rfl
def n0 (S:V3→V3→Option (Bool)):aO:=dZ 83 .str .str S fun b=> [.v .bool b]
def eM (N:Nat) (x0:V3) (x1:V3):Option (Bool):=ry x0 x1 (fun (r0:Bool)=>some (r0))
def Hr (eM:V3→V3→Option (Bool)) (k0:Bool→Option R) (x0 x1:V3):Option R:=
(eM x0 x1).bind fun r1235=>
k0 r1235
theorem ak0 (eM) (h83:(n0 eM).holds cl) (x0 x1):exec cl N Mp (zY x0 x1) K=(Hr eM (fun y0=>K .ret [(4,.v .bool y0)]) x0 x1):=by
 rw [←aP h83]
 kernel_rfl
theorem afd (y0):ah d54 .ret [(4,.v .bool y0)]=some [.v .bool y0]:=by kernel_rfl
def qU (eM:V3→V3→Option (Bool)) (x0 x1:V3) (k:Bool→Option R):Option R:=
(Hr eM k x0 x1)
theorem HU (eM) (h83:(n0 eM).holds cl) (x0 x1) (k:List E→Option R):exec cl N Ef (zY x0 x1) (fun e env=>(ah d54 e env).bind k)=qU eM x0 x1 (fun r0=>k [.v .bool r0]):=by
 simp only [Ef,ak0 eM h83,afd,ar]
 rfl
def fW (S:V3→V3→Option (Bool)):aO:=dZ 54 .str .str S fun b=> [.v .bool b]
def aQ (N:Nat) (x0:V3) (x1:V3):Option (Bool):=qU (eM N) x0 x1 (fun (r0:Bool)=>some (r0))
def vZ (k0:aI→a6→bS→Option R) (x0:aI) (x1:a6):Option R:=
k0 x0 x1 []
theorem alU (x0 x1):exec cl N zf [(0,.at bB x0),(1,.v aX x1)] K=(vZ (fun y0 y1 y2=>exec cl N ze [(0,.at bB y0),(3,.loc aX .no y1),(5,.own true 73 aX .no y2)] K) x0 x1):=by
 delta zf
 generalize ze=q
 revert q
 refine id ?_
 intro q
 kernel_rfl
def vV (k0:aI→a6→bS→cb→Int→Int→Option R) (x0:aI) (x1:a6) (x2:bS):Option R:=
k0 x0 x1 x2 x0.1.2.1 (x0.1.2.1.length:Int) (0:Int)
theorem alQ (x0 x1 x2):exec cl N M7 [(0,.at bB x0),(3,.loc aX .no x1),(5,.own true 73 aX .no x2)] K=(vV (fun y0 y1 y2 y3 y4 y5=>K .normal (kH y0 y1 y2 y3 y4 y5)) x0 x1 x2):=by
 kernel_rfl
theorem Rw (x0 x1 x2 x3 x4 x5):ak [0,3,5,12,13,14] (kH x0 x1 x2 x3 x4 x5)=(kH x0 x1 x2 x3 x4 x5):=by kernel_rfl
def vW (aQ:V3→V3→Option (Bool)) (bw:ag→Int→aB→aB→Option (Bool)) (bx:aI→Int→Option kC) (k0:aI→a6→bS→cb→Int→Int→Option R) (k1:aI→a6→bS→cb→Int→Int→Option R) (x0:aI) (x1:a6) (x2:bS) (x3:cb) (x4 x5:Int):Option R:=
ad (decide (x5 < x4)) (if 0≤x5∧x5 < (x3.length:Int) then
if 0≤x1.2.2.1∧x1.2.2.1≤(x0.2.1.length:Int)∧(x0.2.1.length:Int)≤(x0.2.1.length:Int) then
(aQ ((x0.2.1.drop x1.2.2.1.toNat).take ((x0.2.1.length:Int).toNat - x1.2.2.1.toNat)) ((x3.getD x5.toNat ([],([],((0:Int),((0:Int),()))))).1)).bind fun r1250=>
ad r1250 (ad (decide (x1.2.1 < (0:Int))) (let v1253:a6:=(x1.2.1,x5,(IntKind.i64.wrap (x1.2.2.1+(((x3.getD x5.toNat ([],([],((0:Int),((0:Int),()))))).1).length:Int))),())
if x2.length+[v1253].length≤5864062014805 then
k0 x0 x1 (x2++[v1253]) x3 x4 (IntKind.i64.wrap (x5+(1:Int)))
else none) ((bx x0 x1.1).bind fun r1255=>
(bw x0.1 x1.2.1 r1255 ((x3.getD x5.toNat ([],([],((0:Int),((0:Int),()))))).2.1)).bind fun r1256=>
ad r1256 (let v1258:a6:=(x1.2.1,x5,(IntKind.i64.wrap (x1.2.2.1+(((x3.getD x5.toNat ([],([],((0:Int),((0:Int),()))))).1).length:Int))),())
if x2.length+[v1258].length≤5864062014805 then
k0 x0 x1 (x2++[v1258]) x3 x4 (IntKind.i64.wrap (x5+(1:Int)))
else none) (k0 x0 x1 x2 x3 x4 (IntKind.i64.wrap (x5+(1:Int)))))) (k0 x0 x1 x2 x3 x4 (IntKind.i64.wrap (x5+(1:Int))))
else none
else none) (k1 x0 x1 x2 x3 x4 x5)
theorem alR (aQ) (bw) (bx) (h54:(fW aQ).holds cl) (h60:(iT bw).holds cl) (h73:(iU bx).holds cl) (x0 x1 x2 x3 x4 x5):exec cl N EG (kH x0 x1 x2 x3 x4 x5) K=(vW aQ bw bx (fun y0 y1 y2 y3 y4 y5=>K .normal (kH y0 y1 y2 y3 y4 y5)) (fun y0 y1 y2 y3 y4 y5=>K (.exit 0) (kH y0 y1 y2 y3 y4 y5)) x0 x1 x2 x3 x4 x5):=by
 rw [←aP h54]
 rw [←aP h60]
 rw [←aP h73]
 kernel_rfl
def pa {R:Type} (aQ:V3→V3→Option (Bool)) (bw:ag→Int→aB→aB→Option (Bool)) (bx:aI→Int→Option kC) (k0:aI→a6→bS→cb→Int→Int→Option R):Nat→aI→a6→bS→cb→Int→Int→Option R
 | 0,_,_,_,_,_,_=>none
 | m+1,x0,x1,x2,x3,x4,x5=>(vW aQ bw bx (pa aQ bw bx k0 m) k0 x0 x1 x2 x3 x4 x5)
theorem abz (aQ) (bw) (bx) (h54:(fW aQ).holds cl) (h60:(iT bw).holds cl) (h73:(iU bx).holds cl):∀ (m) (x0 x1 x2 x3 x4 x5),iter [0,3,5,12,13,14] (fun env K=>exec cl N EG env K) K m (kH x0 x1 x2 x3 x4 x5)=pa aQ bw bx (fun y0 y1 y2 y3 y4 y5=>K (.exit 0) (kH y0 y1 y2 y3 y4 y5)) m x0 x1 x2 x3 x4 x5:=by
 intro m
 induction m with
 | zero=>intros; rfl
 | succ m ih=>
   intro x0 x1 x2 x3 x4 x5
   simp only [ck,alR aQ bw bx h54 h60 h73,cq,cm,ct,Rw,ih]
   rfl
theorem ZN (x0 x1 x2 x3 x4 x5):ak [5] (kH x0 x1 x2 x3 x4 x5)=(tk x2):=by kernel_rfl
def vX (N:Nat) (aQ:V3→V3→Option (Bool)) (bw:ag→Int→aB→aB→Option (Bool)) (bx:aI→Int→Option kC) (k0:bS→Option R) (x0:aI) (x1:a6) (x2:bS) (x3:cb) (x4 x5:Int):Option R:=
pa aQ bw bx (fun y0 y1 y2 y3 y4 y5=>k0 y2) N x0 x1 x2 x3 x4 x5
theorem alS (aQ) (bw) (bx) (h54:(fW aQ).holds cl) (h60:(iT bw).holds cl) (h73:(iU bx).holds cl) (x0 x1 x2 x3 x4 x5):exec cl N EH (kH x0 x1 x2 x3 x4 x5) K=(vX N aQ bw bx (fun y0=>K (.exit 0) (tk y0)) x0 x1 x2 x3 x4 x5):=by
 simp only [EH,aY,cj,Rw,abz aQ bw bx h54 h60 h73,ZN]
 rfl
theorem ZO (x0):ak [5] (tk x0)=(tk x0):=by kernel_rfl
def vY (k0:bS→Option R) (x0:bS):Option R:=
k0 x0
theorem alT (x0):exec cl N Na (tk x0) K=(vY (fun y0=>K .ret (FZ y0)) x0):=by
 kernel_rfl
def v7 (N:Nat) (aQ:V3→V3→Option (Bool)) (bw:ag→Int→aB→aB→Option (Bool)) (bx:aI→Int→Option kC) (k0:bS→Option R) (x0:aI) (x1:a6):Option R:=
(vZ (vV (vX N aQ bw bx ((vY k0)))) x0 x1)
theorem alV (aQ) (bw) (bx) (h54:(fW aQ).holds cl) (h60:(iT bw).holds cl) (h73:(iU bx).holds cl) (x0 x1):exec cl N zf [(0,.at bB x0),(1,.v aX x1)] K=(v7 N aQ bw bx (fun y0=>K .ret (FZ y0)) x0 x1):=by
 simp only [b6,b9,b8,ca,alU,ze,M9,alQ,M8,aY,cB,alS aQ bw bx h54 h60 h73,cz,cA,cy,ZO,alT]
 rfl
theorem afC (y0):ah d74 .ret (FZ y0)=some [.own true 73 aX .no y0]:=by kernel_rfl
def nr (N:Nat) (aQ:V3→V3→Option (Bool)) (bw:ag→Int→aB→aB→Option (Bool)) (bx:aI→Int→Option kC) (x0:aI) (x1:a6) (k:bS→Option R):Option R:=
(v7 N aQ bw bx k x0 x1)
theorem HX (aQ) (bw) (bx) (h54:(fW aQ).holds cl) (h60:(iT bw).holds cl) (h73:(iU bx).holds cl) (x0 x1) (k:List E→Option R):exec cl N EF [(0,.at bB x0),(1,.v aX x1)] (fun e env=>(ah d74 e env).bind k)=nr N aQ bw bx x0 x1 (fun r0=>k [.own true 73 aX .no r0]):=by
 simp only [EF,alV aQ bw bx h54 h60 h73,afC,ar]
 rfl
def j7 (S:aI→a6→Option mM):aO:={A:=aI×a6×Unit,B:=bS,f:=74,enc:=fun a=> [.at bB a.1,.v aX a.2.1],dec:=(bc (n9 bB) (bc (bG aX) bY)),S:=fun a=>S a.1 a.2.1,au:=fun b=> [.own true 73 aX .no b],ok:=(zU (T:=bB) (fX (T:=aX) (fun es b h=>iW h)))}
def bX (N:Nat) (x0:aI) (x1:a6):Option mM:=nr N (aQ N) (bw N) (bx N) x0 x1 (fun (r0:bS)=>some (r0))
def vu (bw:ag→Int→aB→aB→Option (Bool)) (bx:aI→Int→Option kC) (k0:aI→Int→Option R) (k1:aI→a6→Int→Option R) (x0:aI) (x1:a6):Option R:=
ad (x1.2.2.1==(x0.2.1.length:Int)) (ad (decide (x1.2.1≥(0:Int))) ((bx x0 x1.1).bind fun r1271=>
(bw x0.1 x1.2.1 r1271 []).bind fun r1272=>
ad r1272 (k0 x0 (1:Int)) (k0 x0 (0:Int))) (k0 x0 (0:Int))) (let v1273:Int×Bool:=hX (fun a b:a6=>((a.1==b.1)&&((a.2.1==b.2.1)&&((a.2.2.1==b.2.2.1)&&true)))) (0:Int) x0.2.2.1 x1
ad v1273.2 (k0 x0 v1273.1) (k1 x0 x1 (0:Int)))
theorem aks (bw) (bx) (h60:(iT bw).holds cl) (h73:(iU bx).holds cl) (x0 x1):exec cl N yK (qk x0 x1) K=(vu bw bx (fun y0 y1=>K .ret (F1 y0 y1)) (fun y0 y1 y2=>exec cl N yJ (oc y0 y1 y2) K) x0 x1):=by
 rw [←aP h60]
 rw [←aP h73]
 delta yK
 generalize yJ=q
 revert q
 refine id ?_
 intro q
 kernel_rfl
def vp (bX:aI→a6→Option mM) (k0:aI→a6→Int→bS→Int→Int→Option R) (x0:aI) (x1:a6) (x2:Int):Option R:=
(bX x0 x1).bind fun r1274=>
k0 x0 x1 x2 r1274 (r1274.length:Int) (0:Int)
theorem ako (bX) (h74:(j7 bX).holds cl) (x0 x1 x2):exec cl N L0 (oc x0 x1 x2) K=(vp bX (fun y0 y1 y2 y3 y4 y5=>K .normal (kI y0 y1 y2 y3 y4 y5)) x0 x1 x2):=by
 rw [←aP h74]
 kernel_rfl
theorem Rk (x0 x1 x2 x3 x4 x5):ak [0,3,7,47,48,49] (kI x0 x1 x2 x3 x4 x5)=(kI x0 x1 x2 x3 x4 x5):=by kernel_rfl
def vq (aU:aI→a6→Option gz) (k0:aI→a6→Int→bS→Int→Int→Option R) (k1:aI→a6→Int→bS→Int→Int→Option R) (x0:aI) (x1:a6) (x2:Int) (x3:bS) (x4 x5:Int):Option R:=
ad (decide (x5 < x4)) (if 0≤x5∧x5 < (x3.length:Int) then
if x5.toNat < x3.length then
(aU x0 (x3.getD x5.toNat ((0:Int),((0:Int),((0:Int),()))))).bind fun r1277=>
let v1278:Int:=(IntKind.i64.wrap (x2+r1277.2))
k0 r1277.1 x1 (if (201:Int) < v1278 then (201:Int) else v1278) x3 x4 (IntKind.i64.wrap (x5+(1:Int)))
else none
else none) (k1 x0 x1 x2 x3 x4 x5)
theorem akp (aU) (h41:(gk aU).holds cl) (x0 x1 x2 x3 x4 x5):exec cl N DV (kI x0 x1 x2 x3 x4 x5) K=(vq aU (fun y0 y1 y2 y3 y4 y5=>K .normal (kI y0 y1 y2 y3 y4 y5)) (fun y0 y1 y2 y3 y4 y5=>K (.exit 0) (kI y0 y1 y2 y3 y4 y5)) x0 x1 x2 x3 x4 x5):=by
 rw [←aP h41]
 kernel_rfl
def rQ {R:Type} (aU:aI→a6→Option gz) (k0:aI→a6→Int→bS→Int→Int→Option R):Nat→aI→a6→Int→bS→Int→Int→Option R
 | 0,_,_,_,_,_,_=>none
 | m+1,x0,x1,x2,x3,x4,x5=>(vq aU (rQ aU k0 m) k0 x0 x1 x2 x3 x4 x5)
theorem abm (aU) (h41:(gk aU).holds cl):∀ (m) (x0 x1 x2 x3 x4 x5),iter [0,3,7,47,48,49] (fun env K=>exec cl N DV env K) K m (kI x0 x1 x2 x3 x4 x5)=rQ aU (fun y0 y1 y2 y3 y4 y5=>K (.exit 0) (kI y0 y1 y2 y3 y4 y5)) m x0 x1 x2 x3 x4 x5:=by
 intro m
 induction m with
 | zero=>intros; rfl
 | succ m ih=>
   intro x0 x1 x2 x3 x4 x5
   simp only [ck,akp aU h41,cq,cm,ct,Rk,ih]
   rfl
theorem Y7 (x0 x1 x2 x3 x4 x5):ak [0,3,7] (kI x0 x1 x2 x3 x4 x5)=(oc x0 x1 x2):=by kernel_rfl
def vr (N:Nat) (aU:aI→a6→Option gz) (k0:aI→a6→Int→Option R) (x0:aI) (x1:a6) (x2:Int) (x3:bS) (x4 x5:Int):Option R:=
rQ aU (fun y0 y1 y2 y3 y4 y5=>k0 y0 y1 y2) N x0 x1 x2 x3 x4 x5
theorem akq (aU) (h41:(gk aU).holds cl) (x0 x1 x2 x3 x4 x5):exec cl N DW (kI x0 x1 x2 x3 x4 x5) K=(vr N aU (fun y0 y1 y2=>K (.exit 0) (oc y0 y1 y2)) x0 x1 x2 x3 x4 x5):=by
 simp only [DW,aY,cj,Rk,abm aU h41,Y7]
 rfl
theorem Y8 (x0 x1 x2):ak [0,3,7] (oc x0 x1 x2)=(oc x0 x1 x2):=by kernel_rfl
def vt (k0:aI→Int→Option R) (x0:aI) (x1:a6) (x2:Int):Option R:=
k0 (x0.1,(x0.2.1,((iF (fun a b:a6=>((a.1==b.1)&&((a.2.1==b.2.1)&&((a.2.2.1==b.2.2.1)&&true)))) x0.2.2.1 x1 x2),x0.2.2.2))) x2
theorem akr (x0 x1 x2):exec cl N L3 (oc x0 x1 x2) K=(vt (fun y0 y1=>K .ret (F2 y0 y1)) x0 x1 x2):=by
 kernel_rfl
def vw (N:Nat) (aU:aI→a6→Option gz) (bw:ag→Int→aB→aB→Option (Bool)) (bx:aI→Int→Option kC) (bX:aI→a6→Option mM) (k0:aI→Int→Option R) (k1:aI→Int→Option R) (x0:aI) (x1:a6):Option R:=
(vu bw bx k0 (vp bX (vr N aU ((vt k1)))) x0 x1)
theorem akt (aU) (bw) (bx) (bX) (h41:(gk aU).holds cl) (h60:(iT bw).holds cl) (h73:(iU bx).holds cl) (h74:(j7 bX).holds cl) (x0 x1):exec cl N yK (qk x0 x1) K=(vw N aU bw bx bX (fun y0 y1=>K .ret (F1 y0 y1)) (fun y0 y1=>K .ret (F2 y0 y1)) x0 x1):=by
 simp only [b6,b9,b8,ca,aks bw bx h60 h73,yJ,L2,ako bX h74,L1,aY,cB,akq aU h41,cz,cA,cy,Y8,akr]
 rfl
theorem aeZ (y0 y1):ah d41 .ret (F1 y0 y1)=some [.loc bB (.pair .no (.pair .no (.pair .mp .no))) y0,.v U2 y1]:=by kernel_rfl
theorem ae0 (y0 y1):ah d41 .ret (F2 y0 y1)=some [.loc bB (.pair .no (.pair .no (.pair .mp .no))) y0,.v U2 y1]:=by kernel_rfl
def qM (N:Nat) (aU:aI→a6→Option gz) (bw:ag→Int→aB→aB→Option (Bool)) (bx:aI→Int→Option kC) (bX:aI→a6→Option mM) (x0:aI) (x1:a6) (k:aI→Int→Option R):Option R:=
(vw N aU bw bx bX k k x0 x1)
theorem Vz (aU) (bw) (bx) (bX) (h41:(gk aU).holds cl) (h60:(iT bw).holds cl) (h73:(iU bx).holds cl) (h74:(j7 bX).holds cl) (x0 x1) (k:List E→Option R):exec cl N DU (qk x0 x1) (fun e env=>(ah d41 e env).bind k)=qM N aU bw bx bX x0 x1 (fun r0 r1=>k [.loc bB (.pair .no (.pair .no (.pair .mp .no))) r0,.v U2 r1]):=by
 simp only [DU,akt aU bw bx bX h41 h60 h73 h74,aeZ,ae0,ar]
 rfl
def mJ (N:Nat):Nat→aI→a6→Option gz
 | 0,_,_=>none
 | m+1,x0,x1=>qM N (mJ N m) (bw N) (bx N) (bX N) x0 x1 (fun (r0:aI) (r1:Int)=>some (r0,r1))
def aU (N:Nat) (x0:aI) (x1:a6):Option gz:=mJ N 250 x0 x1
def nf (k0:aI→V7→Option R) (k1:aI→a6→V7→Option R) (x0:aI) (x1:a6):Option R:=
ad (x1.2.2.1==(x0.2.1.length:Int)) (k0 x0 [[]]) (k1 x0 x1 [])
theorem akx (x0 x1):exec cl N yM (qk x0 x1) K=(nf (fun y0 y1=>K .ret (F3 y0 y1)) (fun y0 y1 y2=>exec cl N yL (Oa y0 y1 y2) K) x0 x1):=by
 delta yM
 generalize yL=q
 revert q
 refine id ?_
 intro q
 kernel_rfl
def na (bX:aI→a6→Option mM) (k0:aI→V7→bS→Int→Int→Option R) (x0:aI) (x1:a6) (x2:V7):Option R:=
(bX x0 x1).bind fun r1296=>
k0 x0 x2 r1296 (r1296.length:Int) (0:Int)
theorem aku (bX) (h74:(j7 bX).holds cl) (x0 x1 x2):exec cl N L4 (Oa x0 x1 x2) K=(na bX (fun y0 y1 y2 y3 y4=>K .normal (fv y0 y1 y2 y3 y4)) x0 x1 x2):=by
 rw [←aP h74]
 kernel_rfl
theorem Ie (x0 x1 x2 x3 x4):ak [0,5,21,22,23] (fv x0 x1 x2 x3 x4)=(fv x0 x1 x2 x3 x4):=by kernel_rfl
def nn (k0:aI→V7→bS→Int→Int→Option R) (k1:aI→V7→bS→Int→Int→Option R) (x0:aI) (x1:V7) (x2:bS) (x3 x4:Int):Option R:=
ad (decide (x4 < x3)) (k0 x0 x1 x2 x3 x4) (k1 x0 x1 x2 x3 x4)
theorem akD (x0 x1 x2 x3 x4):exec cl N s5 (fv x0 x1 x2 x3 x4) K=(nn (fun y0 y1 y2 y3 y4=>exec cl N yO (fv y0 y1 y2 y3 y4) K) (fun y0 y1 y2 y3 y4=>K (.exit 0) (fv y0 y1 y2 y3 y4)) x0 x1 x2 x3 x4):=by
 delta s5
 generalize yO=q
 revert q
 refine id ?_
 intro q
 kernel_rfl
def ni (aU:aI→a6→Option gz) (bL:aI→a6→Option jG) (k0:aI→V7→a6→bS→Int→Int→Option R) (k1:aI→V7→a6→bS→Int→Int→V7→Int→Int→Option R) (x0:aI) (x1:V7) (x2:bS) (x3 x4:Int):Option R:=
if 0≤x4∧x4 < (x2.length:Int) then
if x4.toNat < x2.length then
let v1298:a6:=(x2.getD x4.toNat ((0:Int),((0:Int),((0:Int),()))))
(aU x0 v1298).bind fun r1299=>
ad (r1299.2==(0:Int)) (k0 r1299.1 x1 v1298 x2 x3 x4) ((bL r1299.1 v1298).bind fun r1301=>
k1 r1301.1 x1 v1298 x2 x3 x4 r1301.2 (r1301.2.length:Int) (0:Int))
else none
else none
theorem akA (aU) (bL) (h41:(gk aU).holds cl) (h42:(j6 bL).holds cl) (x0 x1 x2 x3 x4):exec cl N D0 (fv x0 x1 x2 x3 x4) K=(ni aU bL (fun y0 y1 y2 y3 y4 y5=>K (.exit 1) (Ob y0 y1 y2 y3 y4 y5)) (fun y0 y1 y2 y3 y4 y5 y6 y7 y8=>exec cl N yN (kJ y0 y1 y2 y3 y4 y5 y6 y7 y8) K) x0 x1 x2 x3 x4):=by
 rw [←aP h41]
 rw [←aP h42]
 delta D0
 generalize yN=q
 revert q
 refine id ?_
 intro q
 kernel_rfl
theorem Rl (x0 x1 x2 x3 x4 x5 x6 x7 x8):ak [0,5,7,21,22,23,33,34,35] (kJ x0 x1 x2 x3 x4 x5 x6 x7 x8)=(kJ x0 x1 x2 x3 x4 x5 x6 x7 x8):=by kernel_rfl
def nc (k0:aI→V7→a6→bS→Int→Int→V7→Int→Int→Option R) (k1:aI→V7→a6→bS→Int→Int→V7→Int→Int→Option R) (x0:aI) (x1:V7) (x2:a6) (x3:bS) (x4 x5:Int) (x6:V7) (x7 x8:Int):Option R:=
ad (decide (x8 < x7)) (if 0≤x8∧x8 < (x6.length:Int) then
if x8.toNat < x6.length then
if [x2.2.1].length+(x6.getD x8.toNat []).length≤17592186044416 then
if x1.length+[([x2.2.1]++(x6.getD x8.toNat []))].length≤5864062014805 then
k0 x0 (x1++[([x2.2.1]++(x6.getD x8.toNat []))]) x2 x3 x4 x5 x6 x7 (IntKind.i64.wrap (x8+(1:Int)))
else none
else none
else none
else none) (k1 x0 x1 x2 x3 x4 x5 x6 x7 x8)
theorem akv (x0 x1 x2 x3 x4 x5 x6 x7 x8):exec cl N DY (kJ x0 x1 x2 x3 x4 x5 x6 x7 x8) K=(nc (fun y0 y1 y2 y3 y4 y5 y6 y7 y8=>K .normal (kJ y0 y1 y2 y3 y4 y5 y6 y7 y8)) (fun y0 y1 y2 y3 y4 y5 y6 y7 y8=>K (.exit 2) (kJ y0 y1 y2 y3 y4 y5 y6 y7 y8)) x0 x1 x2 x3 x4 x5 x6 x7 x8):=by
 kernel_rfl
def rR {R:Type} (k0:aI→V7→a6→bS→Int→Int→V7→Int→Int→Option R):Nat→aI→V7→a6→bS→Int→Int→V7→Int→Int→Option R
 | 0,_,_,_,_,_,_,_,_,_=>none
 | m+1,x0,x1,x2,x3,x4,x5,x6,x7,x8=>(nc (rR k0 m) k0 x0 x1 x2 x3 x4 x5 x6 x7 x8)
theorem abn:∀ (m) (x0 x1 x2 x3 x4 x5 x6 x7 x8),iter [0,5,7,21,22,23,33,34,35] (fun env K=>exec cl N DY env K) K m (kJ x0 x1 x2 x3 x4 x5 x6 x7 x8)=rR (fun y0 y1 y2 y3 y4 y5 y6 y7 y8=>K (.exit 2) (kJ y0 y1 y2 y3 y4 y5 y6 y7 y8)) m x0 x1 x2 x3 x4 x5 x6 x7 x8:=by
 intro m
 induction m with
 | zero=>intros; rfl
 | succ m ih=>
   intro x0 x1 x2 x3 x4 x5 x6 x7 x8
   simp only [ck,akv,cq,cm,ct,Rl,ih]
   rfl
theorem Y9 (x0 x1 x2 x3 x4 x5 x6 x7 x8):ak [0,5,21,22,23] (kJ x0 x1 x2 x3 x4 x5 x6 x7 x8)=(fv x0 x1 x3 x4 x5):=by kernel_rfl
def nh (N:Nat) (k0:aI→V7→bS→Int→Int→Option R) (x0:aI) (x1:V7) (x2:a6) (x3:bS) (x4 x5:Int) (x6:V7) (x7 x8:Int):Option R:=
rR (fun y0 y1 y2 y3 y4 y5 y6 y7 y8=>k0 y0 y1 y3 y4 y5) N x0 x1 x2 x3 x4 x5 x6 x7 x8
theorem akz (x0 x1 x2 x3 x4 x5 x6 x7 x8):exec cl N DZ (kJ x0 x1 x2 x3 x4 x5 x6 x7 x8) K=(nh N (fun y0 y1 y2 y3 y4=>K (.exit 2) (fv y0 y1 y2 y3 y4)) x0 x1 x2 x3 x4 x5 x6 x7 x8):=by
 simp only [DZ,aY,cj,Rl,abn,Y9]
 rfl
theorem Za (x0 x1 x2 x3 x4 x5):ak [0,5,21,22,23] (Ob x0 x1 x2 x3 x4 x5)=(fv x0 x1 x3 x4 x5):=by kernel_rfl
def nj (N:Nat) (aU:aI→a6→Option gz) (bL:aI→a6→Option jG) (k0:aI→V7→bS→Int→Int→Option R) (x0:aI) (x1:V7) (x2:bS) (x3 x4:Int):Option R:=
(ni aU bL (fun y0 y1 y2 y3 y4 y5=>(k0 y0 y1 y3 y4 y5)) (nh N k0) x0 x1 x2 x3 x4)
theorem akB (aU) (bL) (h41:(gk aU).holds cl) (h42:(j6 bL).holds cl) (x0 x1 x2 x3 x4):exec cl N D1 (fv x0 x1 x2 x3 x4) K=(nj N aU bL (fun y0 y1 y2 y3 y4=>K .normal (fv y0 y1 y2 y3 y4)) x0 x1 x2 x3 x4):=by
 simp only [D1,aY,cB,b6,b9,b8,ca,akA aU bL h41 h42,yN,akz,cz,cA,cy,Ie,Za]
 rfl
def nk (k0:aI→V7→bS→Int→Int→Option R) (x0:aI) (x1:V7) (x2:bS) (x3 x4:Int):Option R:=
k0 x0 x1 x2 x3 (IntKind.i64.wrap (x4+(1:Int)))
theorem akC (x0 x1 x2 x3 x4):exec cl N L8 (fv x0 x1 x2 x3 x4) K=(nk (fun y0 y1 y2 y3 y4=>K .normal (fv y0 y1 y2 y3 y4)) x0 x1 x2 x3 x4):=by
 kernel_rfl
def np (N:Nat) (aU:aI→a6→Option gz) (bL:aI→a6→Option jG) (k0:aI→V7→bS→Int→Int→Option R) (k1:aI→V7→bS→Int→Int→Option R) (x0:aI) (x1:V7) (x2:bS) (x3 x4:Int):Option R:=
(nn (nj N aU bL (nk k0)) k1 x0 x1 x2 x3 x4)
theorem akE (aU) (bL) (h41:(gk aU).holds cl) (h42:(j6 bL).holds cl) (x0 x1 x2 x3 x4):exec cl N s5 (fv x0 x1 x2 x3 x4) K=(np N aU bL (fun y0 y1 y2 y3 y4=>K .normal (fv y0 y1 y2 y3 y4)) (fun y0 y1 y2 y3 y4=>K (.exit 0) (fv y0 y1 y2 y3 y4)) x0 x1 x2 x3 x4):=by
 simp only [b6,b9,b8,ca,akD,yO,akB aU bL h41 h42,akC]
 rfl
def ns {R:Type} (N:Nat) (aU:aI→a6→Option gz) (bL:aI→a6→Option jG) (k0:aI→V7→bS→Int→Int→Option R):Nat→aI→V7→bS→Int→Int→Option R
 | 0,_,_,_,_,_=>none
 | m+1,x0,x1,x2,x3,x4=>(np N aU bL (ns N aU bL k0 m) k0 x0 x1 x2 x3 x4)
theorem abo (aU) (bL) (h41:(gk aU).holds cl) (h42:(j6 bL).holds cl):∀ (m) (x0 x1 x2 x3 x4),iter [0,5,21,22,23] (fun env K=>exec cl N s5 env K) K m (fv x0 x1 x2 x3 x4)=ns N aU bL (fun y0 y1 y2 y3 y4=>K (.exit 0) (fv y0 y1 y2 y3 y4)) m x0 x1 x2 x3 x4:=by
 intro m
 induction m with
 | zero=>intros; rfl
 | succ m ih=>
   intro x0 x1 x2 x3 x4
   simp only [ck,akE aU bL h41 h42,cq,cm,ct,Ie,ih]
   rfl
theorem Zb (x0 x1 x2 x3 x4):ak [0,5] (fv x0 x1 x2 x3 x4)=(tl x0 x1):=by kernel_rfl
def nq (N:Nat) (aU:aI→a6→Option gz) (bL:aI→a6→Option jG) (k0:aI→V7→Option R) (x0:aI) (x1:V7) (x2:bS) (x3 x4:Int):Option R:=
ns N aU bL (fun y0 y1 y2 y3 y4=>k0 y0 y1) N x0 x1 x2 x3 x4
theorem akF (aU) (bL) (h41:(gk aU).holds cl) (h42:(j6 bL).holds cl) (x0 x1 x2 x3 x4):exec cl N D2 (fv x0 x1 x2 x3 x4) K=(nq N aU bL (fun y0 y1=>K (.exit 0) (tl y0 y1)) x0 x1 x2 x3 x4):=by
 simp only [D2,aY,cj,Ie,abo aU bL h41 h42,Zb]
 rfl
theorem Zc (x0 x1):ak [0,5] (tl x0 x1)=(tl x0 x1):=by kernel_rfl
def nd (k0:aI→V7→Option R) (x0:aI) (x1:V7):Option R:=
k0 x0 x1
theorem akw (x0 x1):exec cl N L7 (tl x0 x1) K=(nd (fun y0 y1=>K .ret (F4 y0 y1)) x0 x1):=by
 kernel_rfl
def ng (N:Nat) (aU:aI→a6→Option gz) (bL:aI→a6→Option jG) (bX:aI→a6→Option mM) (k0:aI→V7→Option R) (k1:aI→V7→Option R) (x0:aI) (x1:a6):Option R:=
(nf k0 (na bX (nq N aU bL ((nd k1)))) x0 x1)
theorem aky (aU) (bL) (bX) (h41:(gk aU).holds cl) (h42:(j6 bL).holds cl) (h74:(j7 bX).holds cl) (x0 x1):exec cl N yM (qk x0 x1) K=(ng N aU bL bX (fun y0 y1=>K .ret (F3 y0 y1)) (fun y0 y1=>K .ret (F4 y0 y1)) x0 x1):=by
 simp only [b6,b9,b8,ca,akx,yL,L6,aku bX h74,L5,aY,cB,akF aU bL h41 h42,cz,cA,cy,Zc,akw]
 rfl
theorem ae1 (y0 y1):ah d42 .ret (F3 y0 y1)=some [.loc bB (.pair .no (.pair .no (.pair .mp .no))) y0,.own true 27 U5 .no y1]:=by kernel_rfl
theorem ae2 (y0 y1):ah d42 .ret (F4 y0 y1)=some [.loc bB (.pair .no (.pair .no (.pair .mp .no))) y0,.own true 27 U5 .no y1]:=by kernel_rfl
def mo (N:Nat) (aU:aI→a6→Option gz) (bL:aI→a6→Option jG) (bX:aI→a6→Option mM) (x0:aI) (x1:a6) (k:aI→V7→Option R):Option R:=
(ng N aU bL bX k k x0 x1)
theorem VA (aU) (bL) (bX) (h41:(gk aU).holds cl) (h42:(j6 bL).holds cl) (h74:(j7 bX).holds cl) (x0 x1) (k:List E→Option R):exec cl N DX (qk x0 x1) (fun e env=>(ah d42 e env).bind k)=mo N aU bL bX x0 x1 (fun r0 r1=>k [.loc bB (.pair .no (.pair .no (.pair .mp .no))) r0,.own true 27 U5 .no r1]):=by
 simp only [DX,aky aU bL bX h41 h42 h74,ae1,ae2,ar]
 rfl
def mK (N:Nat):Nat→aI→a6→Option jG
 | 0,_,_=>none
 | m+1,x0,x1=>mo N (aU N) (mK N m) (bX N) x0 x1 (fun (r0:aI) (r1:V7)=>some (r0,r1))
def bL (N:Nat) (x0:aI) (x1:a6):Option jG:=mK N 250 x0 x1
def vn (k0:V0→ag→Int→Option R) (x0:ag) (x1:V0):Option R:=
k0 x1 x0 (0:Int)
theorem akl (x0 x1):exec cl N yI (ka x0 x1) K=(vn (fun y0 y1 y2=>exec cl N yH [(1,.v U5 y0),(2,.loc az .no y1),(5,.v U2 y2)] K) x0 x1):=by
 delta yI
 generalize yH=q
 revert q
 refine id ?_
 intro q
 kernel_rfl
def vj (k0:ag→Int→V0→Int→Int→Option R) (x0:V0) (x1:ag) (x2:Int):Option R:=
k0 x1 x2 x0 (x0.length:Int) (0:Int)
theorem akh (x0 x1 x2):exec cl N LV [(1,.v U5 x0),(2,.loc az .no x1),(5,.v U2 x2)] K=(vj (fun y0 y1 y2 y3 y4=>K .normal (kK y0 y1 y2 y3 y4)) x0 x1 x2):=by
 kernel_rfl
theorem Rj (x0 x1 x2 x3 x4):ak [2,5,8,9,10] (kK x0 x1 x2 x3 x4)=(kK x0 x1 x2 x3 x4):=by kernel_rfl
def vk (k0:ag→Int→V0→Int→Int→Option R) (k1:ag→Int→V0→Int→Int→Option R) (x0:ag) (x1:Int) (x2:V0) (x3 x4:Int):Option R:=
ad (decide (x4 < x3)) (if 0≤x4∧x4 < (x2.length:Int) then
if 0≤(x2.getD x4.toNat (0:Int))∧(x2.getD x4.toNat (0:Int)) < (x0.2.1.length:Int) then
k0 x0 (IntKind.i64.wrap (x1+(x0.2.1.getD (x2.getD x4.toNat (0:Int)).toNat ([],([],((0:Int),((0:Int),()))))).2.2.1)) x2 x3 (IntKind.i64.wrap (x4+(1:Int)))
else none
else none) (k1 x0 x1 x2 x3 x4)
theorem aki (x0 x1 x2 x3 x4):exec cl N DR (kK x0 x1 x2 x3 x4) K=(vk (fun y0 y1 y2 y3 y4=>K .normal (kK y0 y1 y2 y3 y4)) (fun y0 y1 y2 y3 y4=>K (.exit 0) (kK y0 y1 y2 y3 y4)) x0 x1 x2 x3 x4):=by
 kernel_rfl
def rP {R:Type} (k0:ag→Int→V0→Int→Int→Option R):Nat→ag→Int→V0→Int→Int→Option R
 | 0,_,_,_,_,_=>none
 | m+1,x0,x1,x2,x3,x4=>(vk (rP k0 m) k0 x0 x1 x2 x3 x4)
theorem abl:∀ (m) (x0 x1 x2 x3 x4),iter [2,5,8,9,10] (fun env K=>exec cl N DR env K) K m (kK x0 x1 x2 x3 x4)=rP (fun y0 y1 y2 y3 y4=>K (.exit 0) (kK y0 y1 y2 y3 y4)) m x0 x1 x2 x3 x4:=by
 intro m
 induction m with
 | zero=>intros; rfl
 | succ m ih=>
   intro x0 x1 x2 x3 x4
   simp only [ck,aki,cq,cm,ct,Rj,ih]
   rfl
theorem Y5 (x0 x1 x2 x3 x4):ak [5] (kK x0 x1 x2 x3 x4)=[(5,.v U2 x1)]:=by kernel_rfl
def vl (N:Nat) (k0:Int→Option R) (x0:ag) (x1:Int) (x2:V0) (x3 x4:Int):Option R:=
rP (fun y0 y1 y2 y3 y4=>k0 y1) N x0 x1 x2 x3 x4
theorem akj (x0 x1 x2 x3 x4):exec cl N DS (kK x0 x1 x2 x3 x4) K=(vl N (fun y0=>K (.exit 0) [(5,.v U2 y0)]) x0 x1 x2 x3 x4):=by
 simp only [DS,aY,cj,Rj,abl,Y5]
 rfl
theorem Y6 (x0):ak [5] [(5,.v U2 x0)]=[(5,.v U2 x0)]:=by kernel_rfl
def vm (k0:Int→Option R) (x0:Int):Option R:=
k0 x0
theorem akk (x0):exec cl N LY [(5,.v U2 x0)] K=(vm (fun y0=>K .ret [(4,.v U2 y0)]) x0):=by
 kernel_rfl
def vo (N:Nat) (k0:Int→Option R) (x0:ag) (x1:V0):Option R:=
(vn (vj (vl N ((vm k0)))) x0 x1)
theorem akm (x0 x1):exec cl N yI (ka x0 x1) K=(vo N (fun y0=>K .ret [(4,.v U2 y0)]) x0 x1):=by
 simp only [b6,b9,b8,ca,akl,yH,LX,akh,LW,aY,cB,akj,cz,cA,cy,Y6,akk]
 rfl
theorem aeW (y0):ah d38 .ret [(4,.v U2 y0)]=some [.v U2 y0]:=by kernel_rfl
def qL (N:Nat) (x0:ag) (x1:V0) (k:Int→Option R):Option R:=
(vo N k x0 x1)
theorem Vx (x0 x1) (k:List E→Option R):exec cl N DQ (ka x0 x1) (fun e env=>(ah d38 e env).bind k)=qL N x0 x1 (fun r0=>k [.v U2 r0]):=by
 simp only [DQ,akm,aeW,ar]
 rfl
def tg (S:ag→V0→Option (Int)):aO:=dZ 38 az U5 S fun b=> [.v U2 b]
def dR (N:Nat) (x0:ag) (x1:V0):Option (Int):=qL N x0 x1 (fun (r0:Int)=>some (r0))
def HD (k0:Bool→Option R) (x0:Int):Option R:=
k0 (x0 != x0)
theorem alW (x0):exec cl N Nb [(0,.v U2 x0)] K=(HD (fun y0=>K .ret [(2,.v .bool y0)]) x0):=by
 kernel_rfl
theorem afD (y0):ah d77 .ret [(2,.v .bool y0)]=some [.v .bool y0]:=by kernel_rfl
def AN (x0:Int) (k:Bool→Option R):Option R:=
(HD k x0)
theorem VP (x0) (k:List E→Option R):exec cl N EI [(0,.v U2 x0)] (fun e env=>(ah d77 e env).bind k)=AN x0 (fun r0=>k [.v .bool r0]):=by
 simp only [EI,alW,afD,ar]
 rfl
def FN (S:Int→Option (Bool)):aO:=cL 77 U2 S fun b=> [.v .bool b]
def gx (N:Nat) (x0:Int):Option (Bool):=AN x0 (fun (r0:Bool)=>some (r0))
def Hp (gx:Int→Option (Bool)) (k0:Int→Option R) (k1:Int→Option R) (k2:Int→Option R) (x0 x1:Int):Option R:=
(gx x0).bind fun r1319=>
(gx x1).bind fun r1320=>
ad r1319 (ad r1320 (k0 (0:Int)) (k0 (-1:Int))) (ad r1320 (k1 (1:Int)) (ad (decide (x0 < x1)) (k1 (-1:Int)) (ad (decide (x0 > x1)) (k2 (1:Int)) (k2 (0:Int)))))
theorem akN (gx) (h77:(FN gx).holds cl) (x0 x1):exec cl N Me (z6 x0 x1) K=(Hp gx (fun y0=>K .ret [(0,.dead),(1,.dead),(4,.v U2 y0),(6,.dead)]) (fun y0=>K .ret (k9 y0)) (fun y0=>K .ret [(4,.v U2 y0)]) x0 x1):=by
 rw [←aP h77]
 kernel_rfl
theorem ae6 (y0):ah d46 .ret [(0,.dead),(1,.dead),(4,.v U2 y0),(6,.dead)]=some [.v U2 y0]:=by kernel_rfl
theorem ae7 (y0):ah d46 .ret (k9 y0)=some [.v U2 y0]:=by kernel_rfl
theorem ae8 (y0):ah d46 .ret [(4,.v U2 y0)]=some [.v U2 y0]:=by kernel_rfl
def AJ (gx:Int→Option (Bool)) (x0 x1:Int) (k:Int→Option R):Option R:=
(Hp gx k k k x0 x1)
theorem VD (gx) (h77:(FN gx).holds cl) (x0 x1) (k:List E→Option R):exec cl N D7 (z6 x0 x1) (fun e env=>(ah d46 e env).bind k)=AJ gx x0 x1 (fun r0=>k [.v U2 r0]):=by
 simp only [D7,akN gx h77,ae6,ae7,ae8,ar]
 rfl
def mW (S:Int→Int→Option (Int)):aO:=dZ 46 U2 U2 S fun b=> [.v U2 b]
def bW (N:Nat) (x0:Int) (x1:Int):Option (Int):=AJ (gx N) x0 x1 (fun (r0:Int)=>some (r0))
def vx (k0:V0→V0→Option R) (x0 x1:V0):Option R:=
k0 x0 x1
theorem akO (x0 x1):exec cl N Mf (kc x0 x1) K=(vx (fun y0 y1=>K .normal (kc y0 y1)) x0 x1):=by
 kernel_rfl
def vy (k0:V0→V0→V0→Int→Int→Option R) (x0 x1:V0):Option R:=
k0 x0 x1 x0 (x0.length:Int) (0:Int)
theorem akP (x0 x1):exec cl N Mg (kc x0 x1) K=(vy (fun y0 y1 y2 y3 y4=>K .normal (kL y0 y1 y2 y3 y4)) x0 x1):=by
 kernel_rfl
theorem Rn (x0 x1 x2 x3 x4):ak [0,1,9,10,11] (kL x0 x1 x2 x3 x4)=(kL x0 x1 x2 x3 x4):=by kernel_rfl
def vz (bW:Int→Int→Option (Int)) (k0:Int→Option R) (k1:V0→V0→V0→Int→Int→Option R) (k2:V0→V0→V0→Int→Int→Option R) (x0 x1 x2:V0) (x3 x4:Int):Option R:=
ad (decide (x4 < x3)) (if 0≤x4∧x4 < (x2.length:Int) then
ad (decide (x4≥(x1.length:Int))) (k0 (1:Int)) (if 0≤x4∧x4 < (x1.length:Int) then
(bW (x2.getD x4.toNat (0:Int)) (x1.getD x4.toNat (0:Int))).bind fun r1332=>
ad (r1332 != (0:Int)) (k0 r1332) (k1 x0 x1 x2 x3 (IntKind.i64.wrap (x4+(1:Int))))
else none)
else none) (k2 x0 x1 x2 x3 x4)
theorem akQ (bW) (h46:(mW bW).holds cl) (x0 x1 x2 x3 x4):exec cl N D9 (kL x0 x1 x2 x3 x4) K=(vz bW (fun y0=>K .ret (F5 y0)) (fun y0 y1 y2 y3 y4=>K .normal (kL y0 y1 y2 y3 y4)) (fun y0 y1 y2 y3 y4=>K (.exit 0) (kL y0 y1 y2 y3 y4)) x0 x1 x2 x3 x4):=by
 rw [←aP h46]
 kernel_rfl
def rS {R:Type} (bW:Int→Int→Option (Int)) (k0:Int→Option R) (k1:V0→V0→V0→Int→Int→Option R):Nat→V0→V0→V0→Int→Int→Option R
 | 0,_,_,_,_,_=>none
 | m+1,x0,x1,x2,x3,x4=>(vz bW k0 (rS bW k0 k1 m) k1 x0 x1 x2 x3 x4)
theorem abq (bW) (h46:(mW bW).holds cl):∀ (m) (x0 x1 x2 x3 x4),iter [0,1,9,10,11] (fun env K=>exec cl N D9 env K) K m (kL x0 x1 x2 x3 x4)=rS bW (fun y0=>K .ret (F5 y0)) (fun y0 y1 y2 y3 y4=>K (.exit 0) (kL y0 y1 y2 y3 y4)) m x0 x1 x2 x3 x4:=by
 intro m
 induction m with
 | zero=>intros; rfl
 | succ m ih=>
   intro x0 x1 x2 x3 x4
   simp only [ck,akQ bW h46,cq,cm,ct,Rn,ih]
   rfl
theorem Zh (x0):ak [0,1,4] (F5 x0)=(k9 x0):=by kernel_rfl
theorem Zi (x0 x1 x2 x3 x4):ak [0,1,4] (kL x0 x1 x2 x3 x4)=(mi x0 x1):=by kernel_rfl
def vA (N:Nat) (bW:Int→Int→Option (Int)) (k0:Int→Option R) (k1:V0→V0→Option R) (x0 x1 x2:V0) (x3 x4:Int):Option R:=
rS bW k0 (fun y0 y1 y2 y3 y4=>k1 y0 y1) N x0 x1 x2 x3 x4
theorem akR (bW) (h46:(mW bW).holds cl) (x0 x1 x2 x3 x4):exec cl N Ea (kL x0 x1 x2 x3 x4) K=(vA N bW (fun y0=>K .ret (k9 y0)) (fun y0 y1=>K (.exit 0) (mi y0 y1)) x0 x1 x2 x3 x4):=by
 simp only [Ea,aY,cj,Rn,abq bW h46,Zh,Zi]
 rfl
theorem Zj (x0):ak [0,1,4] (k9 x0)=(k9 x0):=by kernel_rfl
theorem Zk (x0 x1):ak [0,1,4] (mi x0 x1)=(mi x0 x1):=by kernel_rfl
def vB (k0:Int→Option R) (x0 x1:V0):Option R:=
ad (decide ((x0.length:Int) < (x1.length:Int))) (k0 (-1:Int)) (k0 (0:Int))
theorem akS (x0 x1):exec cl N Mj (mi x0 x1) K=(vB (fun y0=>K .ret [(4,.v U2 y0)]) x0 x1):=by
 kernel_rfl
def vC (N:Nat) (bW:Int→Int→Option (Int)) (k0:Int→Option R) (k1:Int→Option R) (x0 x1:V0):Option R:=
(vx (vy (vA N bW k0 ((vB k1)))) x0 x1)
theorem akT (bW) (h46:(mW bW).holds cl) (x0 x1):exec cl N Eb (kc x0 x1) K=(vC N bW (fun y0=>K .ret (k9 y0)) (fun y0=>K .ret [(4,.v U2 y0)]) x0 x1):=by
 simp only [Eb,b6,b9,b8,ca,akO,Mk,Mi,akP,Mh,aY,cB,akR bW h46,cz,cA,cy,Zj,Zk,akS]
 rfl
theorem ae9 (y0):ah d47 .ret (k9 y0)=some [.v U2 y0]:=by kernel_rfl
theorem afa (y0):ah d47 .ret [(4,.v U2 y0)]=some [.v U2 y0]:=by kernel_rfl
def qT (N:Nat) (bW:Int→Int→Option (Int)) (x0 x1:V0) (k:Int→Option R):Option R:=
(vC N bW k k x0 x1)
theorem VE (bW) (h46:(mW bW).holds cl) (x0 x1) (k:List E→Option R):exec cl N D8 (kc x0 x1) (fun e env=>(ah d47 e env).bind k)=qT N bW x0 x1 (fun r0=>k [.v U2 r0]):=by
 simp only [D8,akT bW h46,ae9,afa,ar]
 rfl
def FJ (S:V0→V0→Option (Int)):aO:=dZ 47 U5 U5 S fun b=> [.v U2 b]
def gT (N:Nat) (x0:V0) (x1:V0):Option (Int):=qT N (bW N) x0 x1 (fun (r0:Int)=>some (r0))
def qR (k0:V0→Int→Option R) (x0:V0):Option R:=
k0 x0 (0:Int)
theorem akL (x0):exec cl N yQ [(0,.v U5 x0)] K=(qR (fun y0 y1=>exec cl N yP [(0,.v U5 y0),(3,.v U2 y1)] K) x0):=by
 delta yQ
 generalize yP=q
 revert q
 refine id ?_
 intro q
 kernel_rfl
def qN (k0:Int→V0→Int→Int→Option R) (x0:V0) (x1:Int):Option R:=
k0 x1 x0 (x0.length:Int) (0:Int)
theorem akH (x0 x1):exec cl N Ma [(0,.v U5 x0),(3,.v U2 x1)] K=(qN (fun y0 y1 y2 y3=>K .normal (kM y0 y1 y2 y3)) x0 x1):=by
 kernel_rfl
theorem Rm (x0 x1 x2 x3):ak [3,6,7,8] (kM x0 x1 x2 x3)=(kM x0 x1 x2 x3):=by kernel_rfl
def qO (k0:Int→Option R) (k1:Int→V0→Int→Int→Option R) (k2:Int→V0→Int→Int→Option R) (x0:Int) (x1:V0) (x2 x3:Int):Option R:=
ad (decide (x3 < x2)) (if 0≤x3∧x3 < (x1.length:Int) then
ad ((x1.getD x3.toNat (0:Int)) != x0) (k0 (x1.getD x3.toNat (0:Int))) (k1 x0 x1 x2 (IntKind.i64.wrap (x3+(1:Int))))
else none) (k2 x0 x1 x2 x3)
theorem akI (x0 x1 x2 x3):exec cl N D5 (kM x0 x1 x2 x3) K=(qO (fun y0=>K .ret (F6 y0)) (fun y0 y1 y2 y3=>K .normal (kM y0 y1 y2 y3)) (fun y0 y1 y2 y3=>K (.exit 0) (kM y0 y1 y2 y3)) x0 x1 x2 x3):=by
 kernel_rfl
def mu {R:Type} (k0:Int→Option R) (k1:Int→V0→Int→Int→Option R):Nat→Int→V0→Int→Int→Option R
 | 0,_,_,_,_=>none
 | m+1,x0,x1,x2,x3=>(qO k0 (mu k0 k1 m) k1 x0 x1 x2 x3)
theorem abp:∀ (m) (x0 x1 x2 x3),iter [3,6,7,8] (fun env K=>exec cl N D5 env K) K m (kM x0 x1 x2 x3)=mu (fun y0=>K .ret (F6 y0)) (fun y0 y1 y2 y3=>K (.exit 0) (kM y0 y1 y2 y3)) m x0 x1 x2 x3:=by
 intro m
 induction m with
 | zero=>intros; rfl
 | succ m ih=>
   intro x0 x1 x2 x3
   simp only [ck,akI,cq,cm,ct,Rm,ih]
   rfl
theorem Zd (x0):ak [2,3] (F6 x0)=(jM x0):=by kernel_rfl
theorem Ze (x0 x1 x2 x3):ak [2,3] (kM x0 x1 x2 x3)=(ld x0):=by kernel_rfl
def qP (N:Nat) (k0:Int→Option R) (k1:Int→Option R) (x0:Int) (x1:V0) (x2 x3:Int):Option R:=
mu k0 (fun y0 y1 y2 y3=>k1 y0) N x0 x1 x2 x3
theorem akJ (x0 x1 x2 x3):exec cl N D6 (kM x0 x1 x2 x3) K=(qP N (fun y0=>K .ret (jM y0)) (fun y0=>K (.exit 0) (ld y0)) x0 x1 x2 x3):=by
 simp only [D6,aY,cj,Rm,abp,Zd,Ze]
 rfl
theorem Zf (x0):ak [2,3] (jM x0)=(jM x0):=by kernel_rfl
theorem Zg (x0):ak [2,3] (ld x0)=(ld x0):=by kernel_rfl
def qQ (k0:Int→Option R) (x0:Int):Option R:=
k0 x0
theorem akK (x0):exec cl N Md (ld x0) K=(qQ (fun y0=>K .ret [(2,.v U2 y0)]) x0):=by
 kernel_rfl
def qS (N:Nat) (k0:Int→Option R) (k1:Int→Option R) (x0:V0):Option R:=
(qR (qN (qP N k0 ((qQ k1)))) x0)
theorem akM (x0):exec cl N yQ [(0,.v U5 x0)] K=(qS N (fun y0=>K .ret (jM y0)) (fun y0=>K .ret [(2,.v U2 y0)]) x0):=by
 simp only [b6,b9,b8,ca,akL,yP,Mc,akH,Mb,aY,cB,akJ,cz,cA,cy,Zf,Zg,akK]
 rfl
theorem ae4 (y0):ah d45 .ret (jM y0)=some [.v U2 y0]:=by kernel_rfl
theorem ae5 (y0):ah d45 .ret [(2,.v U2 y0)]=some [.v U2 y0]:=by kernel_rfl
def oT (N:Nat) (x0:V0) (k:Int→Option R):Option R:=
(qS N k k x0)
theorem VC (x0) (k:List E→Option R):exec cl N D4 [(0,.v U5 x0)] (fun e env=>(ah d45 e env).bind k)=oT N x0 (fun r0=>k [.v U2 r0]):=by
 simp only [D4,akM,ae4,ae5,ar]
 rfl
def FI (S:V0→Option (Int)):aO:=cL 45 U5 S fun b=> [.v U2 b]
def gS (N:Nat) (x0:V0):Option (Int):=oT N x0 (fun (r0:Int)=>some (r0))
def Ho (dR:ag→V0→Option (Int)) (gS:V0→Option (Int)) (bW:Int→Int→Option (Int)) (gT:V0→V0→Option (Int)) (k0:Int→Option R) (x0 x1:V0) (x2:ag):Option R:=
(dR x2 x0).bind fun r1344=>
(dR x2 x1).bind fun r1345=>
(bW r1344 r1345).bind fun r1346=>
(gT x0 x1).bind fun r1347=>
(gS [r1346,r1347]).bind fun r1348=>
k0 r1348
theorem akG (dR) (gS) (bW) (gT) (h38:(tg dR).holds cl) (h45:(FI gS).holds cl) (h46:(mW bW).holds cl) (h47:(FJ gT).holds cl) (x0 x1 x2):exec cl N L9 [(0,.v U5 x0),(1,.v U5 x1),(2,.at az x2)] K=(Ho dR gS bW gT (fun y0=>K .ret [(5,.v U2 y0)]) x0 x1 x2):=by
 rw [←aP h38]
 rw [←aP h45]
 rw [←aP h46]
 rw [←aP h47]
 kernel_rfl
theorem ae3 (y0):ah d44 .ret [(5,.v U2 y0)]=some [.v U2 y0]:=by kernel_rfl
def AH (dR:ag→V0→Option (Int)) (gS:V0→Option (Int)) (bW:Int→Int→Option (Int)) (gT:V0→V0→Option (Int)) (x0 x1:V0) (x2:ag) (k:Int→Option R):Option R:=
(Ho dR gS bW gT k x0 x1 x2)
theorem VB (dR) (gS) (bW) (gT) (h38:(tg dR).holds cl) (h45:(FI gS).holds cl) (h46:(mW bW).holds cl) (h47:(FJ gT).holds cl) (x0 x1 x2) (k:List E→Option R):exec cl N D3 [(0,.v U5 x0),(1,.v U5 x1),(2,.at az x2)] (fun e env=>(ah d44 e env).bind k)=AH dR gS bW gT x0 x1 x2 (fun r0=>k [.v U2 r0]):=by
 simp only [D3,akG dR gS bW gT h38 h45 h46 h47,ae3,ar]
 rfl
def FH (S:V0→V0→ag→Option (Int)):aO:={A:=V0×V0×ag×Unit,B:=Int,f:=44,enc:=fun a=> [.v U5 a.1,.v U5 a.2.1,.at az a.2.2.1],dec:=(bc (bG U5) (bc (bG U5) (bc (n9 az) bY))),S:=fun a=>S a.1 a.2.1 a.2.2.1,au:=fun b=> [.v U2 b],ok:=(fX (T:=U5) (fX (T:=U5) (zU (T:=az) (fun es b h=>iW h))))}
def gh (N:Nat) (x0:V0) (x1:V0) (x2:ag):Option (Int):=AH (dR N) (gS N) (bW N) (gT N) x0 x1 x2 (fun (r0:Int)=>some (r0))
def Hk (dt:ag→V3→Option (Int)) (aU:aI→a6→Option gz) (bL:aI→a6→Option jG) (eE:xz→V7→Option BT) (gh:V0→V0→ag→Option (Int)) (k0:V7→Int→Option R) (k1:V7→Int→Option R) (k2:Int→V7→Option R) (x0:ag) (x1:V3):Option R:=
(dt x0 x1).bind fun r1352=>
ad (r1352 != (0:Int)) (k0 [] r1352) (let v1354:a6:=((-1:Int),(-1:Int),(0:Int),())
(aU (x0,x1,[],()) v1354).bind fun r1355=>
ad (r1355.2==(0:Int)) (k1 [] (9:Int)) (ad (decide (r1355.2 > (200:Int))) (k1 [] (3:Int)) ((bL r1355.1 v1354).bind fun r1358=>
(eE (fun (x1359:(V0×V9))=>((gh x1359.1 x1359.2.1 x0).bind fun b1360=>some [.v U2 b1360]).bind (jA U2)) r1358.2).bind fun r1361=>
k2 (0:Int) r1361)))
theorem ajD (dt) (aU) (bL) (eE) (gh) (h40:(qe dt).holds cl) (h41:(gk aU).holds cl) (h42:(j6 bL).holds cl) (h43:(jv eE).holds cl) (h44:(FH gh).holds cl) (x0 x1):exec cl N Lq (j9 x0 x1) K=(Hk dt aU bL eE gh (fun y0 y1=>K .ret (Oc y0 y1)) (fun y0 y1=>K .ret (Oe y0 y1)) (fun y0 y1=>K .ret (Of y0 y1)) x0 x1):=by
 rw [←aP h40]
 rw [←aP h41]
 rw [←aP h42]
 rw [←aP h43]
 rw [←aP h44]
 kernel_rfl
theorem aeJ (y0 y1):ah d16 .ret (Oc y0 y1)=some [.own true 27 U5 .no y0,.v U2 y1]:=by kernel_rfl
theorem aeK (y0 y1):ah d16 .ret (Oe y0 y1)=some [.own true 27 U5 .no y0,.v U2 y1]:=by kernel_rfl
theorem aeL (y0 y1):ah d16 .ret (Of y0 y1)=some [.own true 27 U5 .no y1,.v U2 y0]:=by kernel_rfl
def g16 (dt:ag→V3→Option (Int)) (aU:aI→a6→Option gz) (bL:aI→a6→Option jG) (eE:xz→V7→Option BT) (gh:V0→V0→ag→Option (Int)) (x0:ag) (x1:V3) (k:V7→Int→Option R):Option R:=
(Hk dt aU bL eE gh k k (fun y0 y1=>k y1 y0) x0 x1)
theorem Vp (dt) (aU) (bL) (eE) (gh) (h40:(qe dt).holds cl) (h41:(gk aU).holds cl) (h42:(j6 bL).holds cl) (h43:(jv eE).holds cl) (h44:(FH gh).holds cl) (x0 x1) (k:List E→Option R):exec cl N Ds (j9 x0 x1) (fun e env=>(ah d16 e env).bind k)=g16 dt aU bL eE gh x0 x1 (fun r0 r1=>k [.own true 27 U5 .no r0,.v U2 r1]):=by
 simp only [Ds,ajD dt aU bL eE gh h40 h41 h42 h43 h44,aeJ,aeK,aeL,ar]
 rfl
def nZ (S:ag→V3→Option mL):aO:=dZ 16 az .str S fun b=> [.own true 27 U5 .no b.1,.v U2 b.2]
def cx (N:Nat) (x0:ag) (x1:V3):Option mL:=g16 (dt N) (aU N) (bL N) (eE N) (gh N) x0 x1 (fun (r0:V7) (r1:Int)=>some (r0,r1))
def G8 (cx:ag→V3→Option mL) (dR:ag→V0→Option (Int)) (k0:V0→Int→Int→Option R) (k1:V0→Int→Int→Option R) (x0:ag) (x1:V3):Option R:=
(cx x0 x1).bind fun r1369=>
ad (r1369.2 != (0:Int)) (k0 [] (0:Int) r1369.2) (if 0≤(0:Int)∧(0:Int) < (r1369.1.length:Int) then
if ((0:Int).toNat) < r1369.1.length then
if 0≤(0:Int)∧(0:Int) < (r1369.1.length:Int) then
if ((0:Int).toNat) < r1369.1.length then
(dR x0 (r1369.1.getD ((0:Int).toNat) [])).bind fun r1373=>
k1 (r1369.1.getD ((0:Int).toNat) []) r1373 (0:Int)
else none
else none
else none
else none)
theorem aiO (cx) (dR) (h16:(nZ cx).holds cl) (h38:(tg dR).holds cl) (x0 x1):exec cl N KM (j9 x0 x1) K=(G8 cx dR (fun y0 y1 y2=>K .ret (Og y0 y1 y2)) (fun y0 y1 y2=>K .ret [(4,.v U5 y0),(5,.v U2 y1),(6,.v U2 y2)]) x0 x1):=by
 rw [←aP h16]
 rw [←aP h38]
 kernel_rfl
theorem aej (y0 y1 y2):ah d13 .ret (Og y0 y1 y2)=some [.v U5 y0,.v U2 y1,.v U2 y2]:=by kernel_rfl
theorem aek (y0 y1 y2):ah d13 .ret [(4,.v U5 y0),(5,.v U2 y1),(6,.v U2 y2)]=some [.v U5 y0,.v U2 y1,.v U2 y2]:=by kernel_rfl
def g13 (cx:ag→V3→Option mL) (dR:ag→V0→Option (Int)) (x0:ag) (x1:V3) (k:V0→Int→Int→Option R):Option R:=
(G8 cx dR k k x0 x1)
theorem US (cx) (dR) (h16:(nZ cx).holds cl) (h38:(tg dR).holds cl) (x0 x1) (k:List E→Option R):exec cl N CL (j9 x0 x1) (fun e env=>(ah d13 e env).bind k)=g13 cx dR x0 x1 (fun r0 r1 r2=>k [.v U5 r0,.v U2 r1,.v U2 r2]):=by
 simp only [CL,aiO cx dR h16 h38,aej,aek,ar]
 rfl
def tf (S:ag→V3→Option pP):aO:=dZ 13 az .str S fun b=> [.v U5 b.1,.v U2 b.2.1,.v U2 b.2.2]
def dQ (N:Nat) (x0:ag) (x1:V3):Option pP:=g13 (cx N) (dR N) x0 x1 (fun (r0:V0) (r1:Int) (r2:Int)=>some (r0,r1,r2))
def vH (k0:V0→ag→V3→Option R) (x0:ag) (x1:V0):Option R:=
k0 x1 x0 ([]:List UInt8)
theorem ak6 (x0 x1):exec cl N yU (ka x0 x1) K=(vH (fun y0 y1 y2=>exec cl N yT [(1,.v U5 y0),(2,.loc az .no y1),(6,.sb 123 5 y2)] K) x0 x1):=by
 delta yU
 generalize yT=q
 revert q
 refine id ?_
 intro q
 kernel_rfl
def vD (k0:ag→V3→V0→Int→Int→Option R) (x0:V0) (x1:ag) (x2:V3):Option R:=
k0 x1 x2 x0 (x0.length:Int) (0:Int)
theorem ak2 (x0 x1 x2):exec cl N Mr [(1,.v U5 x0),(2,.loc az .no x1),(6,.sb 123 5 x2)] K=(vD (fun y0 y1 y2 y3 y4=>K .normal (kO y0 y1 y2 y3 y4)) x0 x1 x2):=by
 kernel_rfl
theorem Rp (x0 x1 x2 x3 x4):ak [2,6,9,10,11] (kO x0 x1 x2 x3 x4)=(kO x0 x1 x2 x3 x4):=by kernel_rfl
def vE (cg:V3→V3→Option V6) (k0:V3→Bool→Option R) (k1:ag→V3→V0→Int→Int→Option R) (k2:ag→V3→V0→Int→Int→Option R) (x0:ag) (x1:V3) (x2:V0) (x3 x4:Int):Option R:=
ad (decide (x4 < x3)) (if 0≤x4∧x4 < (x2.length:Int) then
ad (decide ((x2.getD x4.toNat (0:Int)) < (0:Int))) (k0 ([]:List UInt8) false) (ad (decide ((x2.getD x4.toNat (0:Int))≥(x0.2.1.length:Int))) (k0 ([]:List UInt8) false) (if 0≤(x2.getD x4.toNat (0:Int))∧(x2.getD x4.toNat (0:Int)) < (x0.2.1.length:Int) then
(cg x1 ((x0.2.1.getD (x2.getD x4.toNat (0:Int)).toNat ([],([],((0:Int),((0:Int),()))))).1)).bind fun r1387=>
k1 x0 r1387 x2 x3 (IntKind.i64.wrap (x4+(1:Int)))
else none))
else none) (k2 x0 x1 x2 x3 x4)
theorem ak3 (cg) (h84:(gZ cg).holds cl) (x0 x1 x2 x3 x4):exec cl N Ei (kO x0 x1 x2 x3 x4) K=(vE cg (fun y0 y1=>K .ret (F7 y0 y1)) (fun y0 y1 y2 y3 y4=>K .normal (kO y0 y1 y2 y3 y4)) (fun y0 y1 y2 y3 y4=>K (.exit 0) (kO y0 y1 y2 y3 y4)) x0 x1 x2 x3 x4):=by
 rw [←aP h84]
 kernel_rfl
def rT {R:Type} (cg:V3→V3→Option V6) (k0:V3→Bool→Option R) (k1:ag→V3→V0→Int→Int→Option R):Nat→ag→V3→V0→Int→Int→Option R
 | 0,_,_,_,_,_=>none
 | m+1,x0,x1,x2,x3,x4=>(vE cg k0 (rT cg k0 k1 m) k1 x0 x1 x2 x3 x4)
theorem abt (cg) (h84:(gZ cg).holds cl):∀ (m) (x0 x1 x2 x3 x4),iter [2,6,9,10,11] (fun env K=>exec cl N Ei env K) K m (kO x0 x1 x2 x3 x4)=rT cg (fun y0 y1=>K .ret (F7 y0 y1)) (fun y0 y1 y2 y3 y4=>K (.exit 0) (kO y0 y1 y2 y3 y4)) m x0 x1 x2 x3 x4:=by
 intro m
 induction m with
 | zero=>intros; rfl
 | succ m ih=>
   intro x0 x1 x2 x3 x4
   simp only [ck,ak3 cg h84,cq,cm,ct,Rp,ih]
   rfl
theorem Zp (x0 x1):ak [4,5,6] (F7 x0 x1)=(ql x0 x1):=by kernel_rfl
theorem Zq (x0 x1 x2 x3 x4):ak [4,5,6] (kO x0 x1 x2 x3 x4)=(tn x1):=by kernel_rfl
def vF (N:Nat) (cg:V3→V3→Option V6) (k0:V3→Bool→Option R) (k1:V3→Option R) (x0:ag) (x1:V3) (x2:V0) (x3 x4:Int):Option R:=
rT cg k0 (fun y0 y1 y2 y3 y4=>k1 y1) N x0 x1 x2 x3 x4
theorem ak4 (cg) (h84:(gZ cg).holds cl) (x0 x1 x2 x3 x4):exec cl N Ej (kO x0 x1 x2 x3 x4) K=(vF N cg (fun y0 y1=>K .ret (ql y0 y1)) (fun y0=>K (.exit 0) (tn y0)) x0 x1 x2 x3 x4):=by
 simp only [Ej,aY,cj,Rp,abt cg h84,Zp,Zq]
 rfl
theorem Zr (x0 x1):ak [4,5,6] (ql x0 x1)=(ql x0 x1):=by kernel_rfl
theorem Zs (x0):ak [4,5,6] (tn x0)=(tn x0):=by kernel_rfl
def vG (dJ:V3→Option V6) (k0:V3→Bool→Option R) (x0:V3):Option R:=
(dJ x0).bind fun r1389=>
k0 r1389 true
theorem ak5 (dJ) (h85:(iV dJ).holds cl) (x0):exec cl N Mu (tn x0) K=(vG dJ (fun y0 y1=>K .ret [(4,.v .str y0),(5,.v .bool y1)]) x0):=by
 rw [←aP h85]
 kernel_rfl
def vI (N:Nat) (cg:V3→V3→Option V6) (dJ:V3→Option V6) (k0:V3→Bool→Option R) (k1:V3→Bool→Option R) (x0:ag) (x1:V0):Option R:=
(vH (vD (vF N cg k0 ((vG dJ k1)))) x0 x1)
theorem ak7 (cg) (dJ) (h84:(gZ cg).holds cl) (h85:(iV dJ).holds cl) (x0 x1):exec cl N yU (ka x0 x1) K=(vI N cg dJ (fun y0 y1=>K .ret (ql y0 y1)) (fun y0 y1=>K .ret [(4,.v .str y0),(5,.v .bool y1)]) x0 x1):=by
 simp only [b6,b9,b8,ca,ak6,yT,Mt,ak2,Ms,aY,cB,ak4 cg h84,cz,cA,cy,Zr,Zs,ak5 dJ h85]
 rfl
theorem afg (y0 y1):ah d57 .ret (ql y0 y1)=some [.v .str y0,.v .bool y1]:=by kernel_rfl
theorem afh (y0 y1):ah d57 .ret [(4,.v .str y0),(5,.v .bool y1)]=some [.v .str y0,.v .bool y1]:=by kernel_rfl
def qV (N:Nat) (cg:V3→V3→Option V6) (dJ:V3→Option V6) (x0:ag) (x1:V0) (k:V3→Bool→Option R):Option R:=
(vI N cg dJ k k x0 x1)
theorem VH (cg) (dJ) (h84:(gZ cg).holds cl) (h85:(iV dJ).holds cl) (x0 x1) (k:List E→Option R):exec cl N Eh (ka x0 x1) (fun e env=>(ah d57 e env).bind k)=qV N cg dJ x0 x1 (fun r0 r1=>k [.v .str r0,.v .bool r1]):=by
 simp only [Eh,ak7 cg dJ h84 h85,afg,afh,ar]
 rfl
def FK (S:ag→V0→Option xx):aO:=dZ 57 az U5 S fun b=> [.v .str b.1,.v .bool b.2]
def gU (N:Nat) (x0:ag) (x1:V0):Option xx:=qV N (cg N) (dJ N) x0 x1 (fun (r0:V3) (r1:Bool)=>some (r0,r1))
def Hs (gU:ag→V0→Option xx) (dW:ag→Option (Int)) (k0:Int→Option R) (k1:Int→Option R) (x0:ag) (x1:V0):Option R:=
(dW x0).bind fun r1391=>
ad (r1391 != (0:Int)) (k0 r1391) (ad (decide ((x1.length:Int) > (16:Int))) (k0 (3:Int)) ((gU x0 x1).bind fun r1394=>
ad (!r1394.2) (k1 (6:Int)) (k1 (0:Int))))
theorem ak1 (gU) (dW) (h57:(FK gU).holds cl) (h70:(th dW).holds cl) (x0 x1):exec cl N Mq (ka x0 x1) K=(Hs gU dW (fun y0=>K .ret [(1,.dead),(2,.dead),(4,.v U2 y0)]) (fun y0=>K .ret [(4,.v U2 y0)]) x0 x1):=by
 rw [←aP h57]
 rw [←aP h70]
 kernel_rfl
theorem afe (y0):ah d55 .ret [(1,.dead),(2,.dead),(4,.v U2 y0)]=some [.v U2 y0]:=by kernel_rfl
theorem aff (y0):ah d55 .ret [(4,.v U2 y0)]=some [.v U2 y0]:=by kernel_rfl
def AK (gU:ag→V0→Option xx) (dW:ag→Option (Int)) (x0:ag) (x1:V0) (k:Int→Option R):Option R:=
(Hs gU dW k k x0 x1)
theorem VG (gU) (dW) (h57:(FK gU).holds cl) (h70:(th dW).holds cl) (x0 x1) (k:List E→Option R):exec cl N Eg (ka x0 x1) (fun e env=>(ah d55 e env).bind k)=AK gU dW x0 x1 (fun r0=>k [.v U2 r0]):=by
 simp only [Eg,ak1 gU dW h57 h70,afe,aff,ar]
 rfl
def zP (S:ag→V0→Option (Int)):aO:=dZ 55 az U5 S fun b=> [.v U2 b]
def fj (N:Nat) (x0:ag) (x1:V0):Option (Int):=AK (gU N) (dW N) x0 x1 (fun (r0:Int)=>some (r0))
def oN (fj:ag→V0→Option (Int)) (k0:V0→Int→Option R) (k1:V0→ag→V0→Int→Option R) (x0:ag) (x1:V0):Option R:=
(fj x0 x1).bind fun r1402=>
ad (r1402 != (0:Int)) (k0 [] r1402) (k1 x1 x0 [] (0:Int))
theorem aj4 (fj) (h55:(zP fj).holds cl) (x0 x1):exec cl N yE (ka x0 x1) K=(oN fj (fun y0 y1=>K .ret (F8 y0 y1)) (fun y0 y1 y2 y3=>exec cl N yD (Oh y0 y1 y2 y3) K) x0 x1):=by
 rw [←aP h55]
 delta yE
 generalize yD=q
 revert q
 refine id ?_
 intro q
 kernel_rfl
def oF (k0:ag→V0→Int→V0→Int→Int→Option R) (x0:V0) (x1:ag) (x2:V0) (x3:Int):Option R:=
k0 x1 x2 x3 x0 (x0.length:Int) (0:Int)
theorem ajX (x0 x1 x2 x3):exec cl N LB (Oh x0 x1 x2 x3) K=(oF (fun y0 y1 y2 y3 y4 y5=>K .normal (gA y0 y1 y2 y3 y4 y5)) x0 x1 x2 x3):=by
 kernel_rfl
theorem Ic (x0 x1 x2 x3 x4 x5):ak [2,7,8,17,18,19] (gA x0 x1 x2 x3 x4 x5)=(gA x0 x1 x2 x3 x4 x5):=by kernel_rfl
def oI (k0:ag→V0→Int→V0→Int→Int→Option R) (k1:ag→V0→Int→V0→Int→Int→Option R) (x0:ag) (x1:V0) (x2:Int) (x3:V0) (x4 x5:Int):Option R:=
ad (decide (x5 < x4)) (k0 x0 x1 x2 x3 x4 x5) (k1 x0 x1 x2 x3 x4 x5)
theorem aj0 (x0 x1 x2 x3 x4 x5):exec cl N s4 (gA x0 x1 x2 x3 x4 x5) K=(oI (fun y0 y1 y2 y3 y4 y5=>exec cl N yC (gA y0 y1 y2 y3 y4 y5) K) (fun y0 y1 y2 y3 y4 y5=>K (.exit 0) (gA y0 y1 y2 y3 y4 y5)) x0 x1 x2 x3 x4 x5):=by
 delta s4
 generalize yC=q
 revert q
 refine id ?_
 intro q
 kernel_rfl
def oG (k0:ag→V0→Int→Int→V0→Int→Int→Option R) (x0:ag) (x1:V0) (x2:Int) (x3:V0) (x4 x5:Int):Option R:=
if 0≤x5∧x5 < (x3.length:Int) then
k0 x0 x1 x2 (x3.getD x5.toNat (0:Int)) x3 x4 x5
else none
theorem ajY (x0 x1 x2 x3 x4 x5):exec cl N LC (gA x0 x1 x2 x3 x4 x5) K=(oG (fun y0 y1 y2 y3 y4 y5 y6=>K .normal (oe y0 y1 y2 y3 y4 y5 y6)) x0 x1 x2 x3 x4 x5):=by
 kernel_rfl
def oP (k0:ag→V0→Int→Int→V0→Int→Int→Int→Int→Option R) (x0:ag) (x1:V0) (x2 x3:Int) (x4:V0) (x5 x6:Int):Option R:=
if 0≤x3∧x3 < (x0.2.1.length:Int) then
k0 x0 x1 x2 x3 x4 x5 x6 (((x0.2.1.getD x3.toNat ([],([],((0:Int),((0:Int),()))))).2.1).length:Int) (0:Int)
else none
theorem aj6 (x0 x1 x2 x3 x4 x5 x6):exec cl N LJ (oe x0 x1 x2 x3 x4 x5 x6) K=(oP (fun y0 y1 y2 y3 y4 y5 y6 y7 y8=>K .normal (kP y0 y1 y2 y3 y4 y5 y6 y7 y8)) x0 x1 x2 x3 x4 x5 x6):=by
 kernel_rfl
theorem Rh (x0 x1 x2 x3 x4 x5 x6 x7 x8):ak [2,7,8,10,17,18,19,29,30] (kP x0 x1 x2 x3 x4 x5 x6 x7 x8)=(kP x0 x1 x2 x3 x4 x5 x6 x7 x8):=by kernel_rfl
def oQ (k0:ag→V0→Int→Int→V0→Int→Int→Int→Int→Option R) (k1:ag→V0→Int→Int→V0→Int→Int→Int→Int→Option R) (x0:ag) (x1:V0) (x2 x3:Int) (x4:V0) (x5 x6 x7 x8:Int):Option R:=
ad (decide (x8 < x7)) (if x1.length+[x2].length≤17592186044416 then
k0 x0 (x1++[x2]) x2 x3 x4 x5 x6 x7 (IntKind.i64.wrap (x8+(1:Int)))
else none) (k1 x0 x1 x2 x3 x4 x5 x6 x7 x8)
theorem aj7 (x0 x1 x2 x3 x4 x5 x6 x7 x8):exec cl N DK (kP x0 x1 x2 x3 x4 x5 x6 x7 x8) K=(oQ (fun y0 y1 y2 y3 y4 y5 y6 y7 y8=>K .normal (kP y0 y1 y2 y3 y4 y5 y6 y7 y8)) (fun y0 y1 y2 y3 y4 y5 y6 y7 y8=>K (.exit 2) (kP y0 y1 y2 y3 y4 y5 y6 y7 y8)) x0 x1 x2 x3 x4 x5 x6 x7 x8):=by
 kernel_rfl
def rN {R:Type} (k0:ag→V0→Int→Int→V0→Int→Int→Int→Int→Option R):Nat→ag→V0→Int→Int→V0→Int→Int→Int→Int→Option R
 | 0,_,_,_,_,_,_,_,_,_=>none
 | m+1,x0,x1,x2,x3,x4,x5,x6,x7,x8=>(oQ (rN k0 m) k0 x0 x1 x2 x3 x4 x5 x6 x7 x8)
theorem abi:∀ (m) (x0 x1 x2 x3 x4 x5 x6 x7 x8),iter [2,7,8,10,17,18,19,29,30] (fun env K=>exec cl N DK env K) K m (kP x0 x1 x2 x3 x4 x5 x6 x7 x8)=rN (fun y0 y1 y2 y3 y4 y5 y6 y7 y8=>K (.exit 2) (kP y0 y1 y2 y3 y4 y5 y6 y7 y8)) m x0 x1 x2 x3 x4 x5 x6 x7 x8:=by
 intro m
 induction m with
 | zero=>intros; rfl
 | succ m ih=>
   intro x0 x1 x2 x3 x4 x5 x6 x7 x8
   simp only [ck,aj7,cq,cm,ct,Rh,ih]
   rfl
theorem YX (x0 x1 x2 x3 x4 x5 x6 x7 x8):ak [2,7,8,10,17,18,19] (kP x0 x1 x2 x3 x4 x5 x6 x7 x8)=(oe x0 x1 x2 x3 x4 x5 x6):=by kernel_rfl
def oR (N:Nat) (k0:ag→V0→Int→Int→V0→Int→Int→Option R) (x0:ag) (x1:V0) (x2 x3:Int) (x4:V0) (x5 x6 x7 x8:Int):Option R:=
rN (fun y0 y1 y2 y3 y4 y5 y6 y7 y8=>k0 y0 y1 y2 y3 y4 y5 y6) N x0 x1 x2 x3 x4 x5 x6 x7 x8
theorem aj8 (x0 x1 x2 x3 x4 x5 x6 x7 x8):exec cl N DL (kP x0 x1 x2 x3 x4 x5 x6 x7 x8) K=(oR N (fun y0 y1 y2 y3 y4 y5 y6=>K (.exit 2) (oe y0 y1 y2 y3 y4 y5 y6)) x0 x1 x2 x3 x4 x5 x6 x7 x8):=by
 simp only [DL,aY,cj,Rh,abi,YX]
 rfl
theorem YY (x0 x1 x2 x3 x4 x5 x6):ak [2,7,8,10,17,18,19] (oe x0 x1 x2 x3 x4 x5 x6)=(oe x0 x1 x2 x3 x4 x5 x6):=by kernel_rfl
def oS (k0:ag→V0→Int→V0→Int→Int→Option R) (x0:ag) (x1:V0) (x2 x3:Int) (x4:V0) (x5 x6:Int):Option R:=
if 0≤x3∧x3 < (x0.2.1.length:Int) then
k0 x0 x1 (IntKind.i64.wrap (x2+(((x0.2.1.getD x3.toNat ([],([],((0:Int),((0:Int),()))))).1).length:Int))) x4 x5 x6
else none
theorem aj9 (x0 x1 x2 x3 x4 x5 x6):exec cl N LM (oe x0 x1 x2 x3 x4 x5 x6) K=(oS (fun y0 y1 y2 y3 y4 y5=>K .normal (gA y0 y1 y2 y3 y4 y5)) x0 x1 x2 x3 x4 x5 x6):=by
 kernel_rfl
def oH (k0:ag→V0→Int→V0→Int→Int→Option R) (x0:ag) (x1:V0) (x2:Int) (x3:V0) (x4 x5:Int):Option R:=
k0 x0 x1 x2 x3 x4 (IntKind.i64.wrap (x5+(1:Int)))
theorem ajZ (x0 x1 x2 x3 x4 x5):exec cl N LF (gA x0 x1 x2 x3 x4 x5) K=(oH (fun y0 y1 y2 y3 y4 y5=>K .normal (gA y0 y1 y2 y3 y4 y5)) x0 x1 x2 x3 x4 x5):=by
 kernel_rfl
def oJ (N:Nat) (k0:ag→V0→Int→V0→Int→Int→Option R) (k1:ag→V0→Int→V0→Int→Int→Option R) (x0:ag) (x1:V0) (x2:Int) (x3:V0) (x4 x5:Int):Option R:=
(oI (oG (oP (oR N ((oS ((oH k0))))))) k1 x0 x1 x2 x3 x4 x5)
theorem aj1 (x0 x1 x2 x3 x4 x5):exec cl N s4 (gA x0 x1 x2 x3 x4 x5) K=(oJ N (fun y0 y1 y2 y3 y4 y5=>K .normal (gA y0 y1 y2 y3 y4 y5)) (fun y0 y1 y2 y3 y4 y5=>K (.exit 0) (gA y0 y1 y2 y3 y4 y5)) x0 x1 x2 x3 x4 x5):=by
 simp only [b6,b9,b8,ca,aj0,yC,LD,aY,cB,LO,ajY,LN,LL,aj6,LK,aj8,cz,cA,cy,YY,aj9,Ic,ajZ]
 rfl
def o7 {R:Type} (N:Nat) (k0:ag→V0→Int→V0→Int→Int→Option R):Nat→ag→V0→Int→V0→Int→Int→Option R
 | 0,_,_,_,_,_,_=>none
 | m+1,x0,x1,x2,x3,x4,x5=>(oJ N (o7 N k0 m) k0 x0 x1 x2 x3 x4 x5)
theorem abh:∀ (m) (x0 x1 x2 x3 x4 x5),iter [2,7,8,17,18,19] (fun env K=>exec cl N s4 env K) K m (gA x0 x1 x2 x3 x4 x5)=o7 N (fun y0 y1 y2 y3 y4 y5=>K (.exit 0) (gA y0 y1 y2 y3 y4 y5)) m x0 x1 x2 x3 x4 x5:=by
 intro m
 induction m with
 | zero=>intros; rfl
 | succ m ih=>
   intro x0 x1 x2 x3 x4 x5
   simp only [ck,aj1,cq,cm,ct,Ic,ih]
   rfl
theorem YZ (x0 x1 x2 x3 x4 x5):ak [7] (gA x0 x1 x2 x3 x4 x5)=(tp x1):=by kernel_rfl
def oK (N:Nat) (k0:V0→Option R) (x0:ag) (x1:V0) (x2:Int) (x3:V0) (x4 x5:Int):Option R:=
o7 N (fun y0 y1 y2 y3 y4 y5=>k0 y1) N x0 x1 x2 x3 x4 x5
theorem aj2 (x0 x1 x2 x3 x4 x5):exec cl N DJ (gA x0 x1 x2 x3 x4 x5) K=(oK N (fun y0=>K (.exit 0) (tp y0)) x0 x1 x2 x3 x4 x5):=by
 simp only [DJ,aY,cj,Ic,abh,YZ]
 rfl
theorem Y0 (x0):ak [7] (tp x0)=(tp x0):=by kernel_rfl
def oL (k0:Int→V0→Option R) (x0:V0):Option R:=
k0 (0:Int) x0
theorem aj3 (x0):exec cl N LI (tp x0) K=(oL (fun y0 y1=>K .ret (Ga y0 y1)) x0):=by
 kernel_rfl
def oO (N:Nat) (fj:ag→V0→Option (Int)) (k0:V0→Int→Option R) (k1:Int→V0→Option R) (x0:ag) (x1:V0):Option R:=
(oN fj k0 (oF (oK N ((oL k1)))) x0 x1)
theorem aj5 (fj) (h55:(zP fj).holds cl) (x0 x1):exec cl N yE (ka x0 x1) K=(oO N fj (fun y0 y1=>K .ret (F8 y0 y1)) (fun y0 y1=>K .ret (Ga y0 y1)) x0 x1):=by
 simp only [b6,b9,b8,ca,aj4 fj h55,yD,LH,ajX,LG,aY,cB,aj2,cz,cA,cy,Y0,aj3]
 rfl
theorem aeR (y0 y1):ah d24 .ret (F8 y0 y1)=some [.own true 3 U2 .no y0,.v U2 y1]:=by kernel_rfl
theorem aeS (y0 y1):ah d24 .ret (Ga y0 y1)=some [.own true 3 U2 .no y1,.v U2 y0]:=by kernel_rfl
def g24 (N:Nat) (fj:ag→V0→Option (Int)) (x0:ag) (x1:V0) (k:V0→Int→Option R):Option R:=
(oO N fj k (fun y0 y1=>k y1 y0) x0 x1)
theorem Vu (fj) (h55:(zP fj).holds cl) (x0 x1) (k:List E→Option R):exec cl N DH (ka x0 x1) (fun e env=>(ah d24 e env).bind k)=g24 N fj x0 x1 (fun r0 r1=>k [.own true 3 U2 .no r0,.v U2 r1]):=by
 simp only [DH,aj5 fj h55,aeR,aeS,ar]
 rfl
def FG (S:ag→V0→Option V8):aO:=dZ 24 az U5 S fun b=> [.own true 3 U2 .no b.1,.v U2 b.2]
def gw (N:Nat) (x0:ag) (x1:V0):Option V8:=g24 N (fj N) x0 x1 (fun (r0:V0) (r1:Int)=>some (r0,r1))
def PE (dt:ag→V3→Option (Int)) (k0:Int→Int→Option R) (k1:V3→ag→V2→Int→Option R) (x0:ag) (x1:V3):Option R:=
(dt x0 x1).bind fun r1422=>
ad (r1422 != (0:Int)) (k0 (0:Int) r1422) (let v1424:Int:=(IntKind.i64.wrap ((x1.length:Int)+(1:Int)))
if 0≤v1424∧v1424≤v1424∧v1424≤((140737488355328:Nat):Int) then
if 0≤(0:Int)∧(0:Int) < ((gG v1424.toNat false).length:Int) then
if ((0:Int).toNat) < (gG v1424.toNat false).length then
k1 x1 x0 ((gG v1424.toNat false).set ((0:Int).toNat) true) (0:Int)
else none
else none
else none)
theorem ajO (dt) (h40:(qe dt).holds cl) (x0 x1):exec cl N yz (j9 x0 x1) K=(PE dt (fun y0 y1=>K .ret (Gb y0 y1)) (fun y0 y1 y2 y3=>exec cl N yy (Oi y0 y1 y2 y3) K) x0 x1):=by
 rw [←aP h40]
 delta yz
 generalize yy=q
 revert q
 refine id ?_
 intro q
 kernel_rfl
def PB (k0:V3→ag→V2→Int→Int→Int→Option R) (x0:V3) (x1:ag) (x2:V2) (x3:Int):Option R:=
k0 x0 x1 x2 x3 (x2.length:Int) (0:Int)
theorem ajL (x0 x1 x2 x3):exec cl N Lw (Oi x0 x1 x2 x3) K=(PB (fun y0 y1 y2 y3 y4 y5=>K .normal (fw y0 y1 y2 y3 y4 y5)) x0 x1 x2 x3):=by
 kernel_rfl
theorem Ib (x0 x1 x2 x3 x4 x5):ak [1,2,7,8,25,26,27] (fw x0 x1 x2 x3 x4 x5)=(fw x0 x1 x2 x3 x4 x5):=by kernel_rfl
def PK (k0:V3→ag→V2→Int→Int→Int→Option R) (k1:V3→ag→V2→Int→Int→Int→Option R) (x0:V3) (x1:ag) (x2:V2) (x3 x4 x5:Int):Option R:=
ad (decide (x5 < x4)) (k0 x0 x1 x2 x3 x4 x5) (k1 x0 x1 x2 x3 x4 x5)
theorem ajU (x0 x1 x2 x3 x4 x5):exec cl N s3 (fw x0 x1 x2 x3 x4 x5) K=(PK (fun y0 y1 y2 y3 y4 y5=>exec cl N yB (fw y0 y1 y2 y3 y4 y5) K) (fun y0 y1 y2 y3 y4 y5=>K (.exit 0) (fw y0 y1 y2 y3 y4 y5)) x0 x1 x2 x3 x4 x5):=by
 delta s3
 generalize yB=q
 revert q
 refine id ?_
 intro q
 kernel_rfl
def PH (k0:V3→ag→V2→Int→Int→Int→Int→Option R) (k1:V3→ag→V2→Int→Int→Int→Int→cb→Int→Int→Option R) (x0:V3) (x1:ag) (x2:V2) (x3 x4 x5:Int):Option R:=
if 0≤x5∧x5 < (x2.length:Int) then
if x5.toNat < x2.length then
ad (!(x2.getD x5.toNat false)) (k0 x0 x1 x2 x3 x5 x4 x5) (k1 x0 x1 x2 x5 x5 x4 x5 x1.2.1 (x1.2.1.length:Int) (0:Int))
else none
else none
theorem ajR (x0 x1 x2 x3 x4 x5):exec cl N DE (fw x0 x1 x2 x3 x4 x5) K=(PH (fun y0 y1 y2 y3 y4 y5 y6=>K (.exit 1) (Oj y0 y1 y2 y3 y4 y5 y6)) (fun y0 y1 y2 y3 y4 y5 y6 y7 y8 y9=>exec cl N yA (kQ y0 y1 y2 y3 y4 y5 y6 y7 y8 y9) K) x0 x1 x2 x3 x4 x5):=by
 delta DE
 generalize yA=q
 revert q
 refine id ?_
 intro q
 kernel_rfl
theorem Rg (x0 x1 x2 x3 x4 x5 x6 x7 x8 x9):ak [1,2,7,8,9,25,26,27,36,37,38] (kQ x0 x1 x2 x3 x4 x5 x6 x7 x8 x9)=(kQ x0 x1 x2 x3 x4 x5 x6 x7 x8 x9):=by kernel_rfl
def PC (aQ:V3→V3→Option (Bool)) (k0:V3→ag→V2→Int→Int→Int→Int→cb→Int→Int→Option R) (k1:V3→ag→V2→Int→Int→Int→Int→cb→Int→Int→Option R) (x0:V3) (x1:ag) (x2:V2) (x3 x4 x5 x6:Int) (x7:cb) (x8 x9:Int):Option R:=
ad (decide (x9 < x8)) (if 0≤x9∧x9 < (x7.length:Int) then
if 0≤x4∧x4≤(x0.length:Int)∧(x0.length:Int)≤(x0.length:Int) then
(aQ ((x0.drop x4.toNat).take ((x0.length:Int).toNat - x4.toNat)) ((x7.getD x9.toNat ([],([],((0:Int),((0:Int),()))))).1)).bind fun r1429=>
ad r1429 (let v1430:Int:=(IntKind.i64.wrap (x4+(((x7.getD x9.toNat ([],([],((0:Int),((0:Int),()))))).1).length:Int)))
if 0≤v1430∧v1430 < (x2.length:Int) then
if v1430.toNat < x2.length then
k0 x0 x1 (x2.set v1430.toNat true) x3 x4 x5 x6 x7 x8 (IntKind.i64.wrap (x9+(1:Int)))
else none
else none) (k0 x0 x1 x2 x3 x4 x5 x6 x7 x8 (IntKind.i64.wrap (x9+(1:Int))))
else none
else none) (k1 x0 x1 x2 x3 x4 x5 x6 x7 x8 x9)
theorem ajM (aQ) (h54:(fW aQ).holds cl) (x0 x1 x2 x3 x4 x5 x6 x7 x8 x9):exec cl N DC (kQ x0 x1 x2 x3 x4 x5 x6 x7 x8 x9) K=(PC aQ (fun y0 y1 y2 y3 y4 y5 y6 y7 y8 y9=>K .normal (kQ y0 y1 y2 y3 y4 y5 y6 y7 y8 y9)) (fun y0 y1 y2 y3 y4 y5 y6 y7 y8 y9=>K (.exit 2) (kQ y0 y1 y2 y3 y4 y5 y6 y7 y8 y9)) x0 x1 x2 x3 x4 x5 x6 x7 x8 x9):=by
 rw [←aP h54]
 kernel_rfl
def Ip {R:Type} (aQ:V3→V3→Option (Bool)) (k0:V3→ag→V2→Int→Int→Int→Int→cb→Int→Int→Option R):Nat→V3→ag→V2→Int→Int→Int→Int→cb→Int→Int→Option R
 | 0,_,_,_,_,_,_,_,_,_,_=>none
 | m+1,x0,x1,x2,x3,x4,x5,x6,x7,x8,x9=>(PC aQ (Ip aQ k0 m) k0 x0 x1 x2 x3 x4 x5 x6 x7 x8 x9)
theorem abf (aQ) (h54:(fW aQ).holds cl):∀ (m) (x0 x1 x2 x3 x4 x5 x6 x7 x8 x9),iter [1,2,7,8,9,25,26,27,36,37,38] (fun env K=>exec cl N DC env K) K m (kQ x0 x1 x2 x3 x4 x5 x6 x7 x8 x9)=Ip aQ (fun y0 y1 y2 y3 y4 y5 y6 y7 y8 y9=>K (.exit 2) (kQ y0 y1 y2 y3 y4 y5 y6 y7 y8 y9)) m x0 x1 x2 x3 x4 x5 x6 x7 x8 x9:=by
 intro m
 induction m with
 | zero=>intros; rfl
 | succ m ih=>
   intro x0 x1 x2 x3 x4 x5 x6 x7 x8 x9
   simp only [ck,ajM aQ h54,cq,cm,ct,Rg,ih]
   rfl
theorem YT (x0 x1 x2 x3 x4 x5 x6 x7 x8 x9):ak [1,2,7,8,25,26,27] (kQ x0 x1 x2 x3 x4 x5 x6 x7 x8 x9)=(fw x0 x1 x2 x3 x5 x6):=by kernel_rfl
def PG (N:Nat) (aQ:V3→V3→Option (Bool)) (k0:V3→ag→V2→Int→Int→Int→Option R) (x0:V3) (x1:ag) (x2:V2) (x3 x4 x5 x6:Int) (x7:cb) (x8 x9:Int):Option R:=
Ip aQ (fun y0 y1 y2 y3 y4 y5 y6 y7 y8 y9=>k0 y0 y1 y2 y3 y5 y6) N x0 x1 x2 x3 x4 x5 x6 x7 x8 x9
theorem ajQ (aQ) (h54:(fW aQ).holds cl) (x0 x1 x2 x3 x4 x5 x6 x7 x8 x9):exec cl N DD (kQ x0 x1 x2 x3 x4 x5 x6 x7 x8 x9) K=(PG N aQ (fun y0 y1 y2 y3 y4 y5=>K (.exit 2) (fw y0 y1 y2 y3 y4 y5)) x0 x1 x2 x3 x4 x5 x6 x7 x8 x9):=by
 simp only [DD,aY,cj,Rg,abf aQ h54,YT]
 rfl
theorem YU (x0 x1 x2 x3 x4 x5 x6):ak [1,2,7,8,25,26,27] (Oj x0 x1 x2 x3 x4 x5 x6)=(fw x0 x1 x2 x3 x5 x6):=by kernel_rfl
def PI (N:Nat) (aQ:V3→V3→Option (Bool)) (k0:V3→ag→V2→Int→Int→Int→Option R) (x0:V3) (x1:ag) (x2:V2) (x3 x4 x5:Int):Option R:=
(PH (fun y0 y1 y2 y3 y4 y5 y6=>(k0 y0 y1 y2 y3 y5 y6)) (PG N aQ k0) x0 x1 x2 x3 x4 x5)
theorem ajS (aQ) (h54:(fW aQ).holds cl) (x0 x1 x2 x3 x4 x5):exec cl N DF (fw x0 x1 x2 x3 x4 x5) K=(PI N aQ (fun y0 y1 y2 y3 y4 y5=>K .normal (fw y0 y1 y2 y3 y4 y5)) x0 x1 x2 x3 x4 x5):=by
 simp only [DF,aY,cB,b6,b9,b8,ca,ajR,yA,ajQ aQ h54,cz,cA,cy,Ib,YU]
 rfl
def PJ (k0:V3→ag→V2→Int→Int→Int→Option R) (x0:V3) (x1:ag) (x2:V2) (x3 x4 x5:Int):Option R:=
k0 x0 x1 x2 x3 x4 (IntKind.i64.wrap (x5+(1:Int)))
theorem ajT (x0 x1 x2 x3 x4 x5):exec cl N LA (fw x0 x1 x2 x3 x4 x5) K=(PJ (fun y0 y1 y2 y3 y4 y5=>K .normal (fw y0 y1 y2 y3 y4 y5)) x0 x1 x2 x3 x4 x5):=by
 kernel_rfl
def PL (N:Nat) (aQ:V3→V3→Option (Bool)) (k0:V3→ag→V2→Int→Int→Int→Option R) (k1:V3→ag→V2→Int→Int→Int→Option R) (x0:V3) (x1:ag) (x2:V2) (x3 x4 x5:Int):Option R:=
(PK (PI N aQ (PJ k0)) k1 x0 x1 x2 x3 x4 x5)
theorem ajV (aQ) (h54:(fW aQ).holds cl) (x0 x1 x2 x3 x4 x5):exec cl N s3 (fw x0 x1 x2 x3 x4 x5) K=(PL N aQ (fun y0 y1 y2 y3 y4 y5=>K .normal (fw y0 y1 y2 y3 y4 y5)) (fun y0 y1 y2 y3 y4 y5=>K (.exit 0) (fw y0 y1 y2 y3 y4 y5)) x0 x1 x2 x3 x4 x5):=by
 simp only [b6,b9,b8,ca,ajU,yB,ajS aQ h54,ajT]
 rfl
def Iq {R:Type} (N:Nat) (aQ:V3→V3→Option (Bool)) (k0:V3→ag→V2→Int→Int→Int→Option R):Nat→V3→ag→V2→Int→Int→Int→Option R
 | 0,_,_,_,_,_,_=>none
 | m+1,x0,x1,x2,x3,x4,x5=>(PL N aQ (Iq N aQ k0 m) k0 x0 x1 x2 x3 x4 x5)
theorem abg (aQ) (h54:(fW aQ).holds cl):∀ (m) (x0 x1 x2 x3 x4 x5),iter [1,2,7,8,25,26,27] (fun env K=>exec cl N s3 env K) K m (fw x0 x1 x2 x3 x4 x5)=Iq N aQ (fun y0 y1 y2 y3 y4 y5=>K (.exit 0) (fw y0 y1 y2 y3 y4 y5)) m x0 x1 x2 x3 x4 x5:=by
 intro m
 induction m with
 | zero=>intros; rfl
 | succ m ih=>
   intro x0 x1 x2 x3 x4 x5
   simp only [ck,ajV aQ h54,cq,cm,ct,Ib,ih]
   rfl
theorem YV (x0 x1 x2 x3 x4 x5):ak [8] (fw x0 x1 x2 x3 x4 x5)=[(8,.v U2 x3)]:=by kernel_rfl
def PM (N:Nat) (aQ:V3→V3→Option (Bool)) (k0:Int→Option R) (x0:V3) (x1:ag) (x2:V2) (x3 x4 x5:Int):Option R:=
Iq N aQ (fun y0 y1 y2 y3 y4 y5=>k0 y3) N x0 x1 x2 x3 x4 x5
theorem ajW (aQ) (h54:(fW aQ).holds cl) (x0 x1 x2 x3 x4 x5):exec cl N DG (fw x0 x1 x2 x3 x4 x5) K=(PM N aQ (fun y0=>K (.exit 0) [(8,.v U2 y0)]) x0 x1 x2 x3 x4 x5):=by
 simp only [DG,aY,cj,Ib,abg aQ h54,YV]
 rfl
theorem YW (x0):ak [8] [(8,.v U2 x0)]=[(8,.v U2 x0)]:=by kernel_rfl
def PD (k0:Int→Int→Option R) (x0:Int):Option R:=
k0 x0 (0:Int)
theorem ajN (x0):exec cl N Lz [(8,.v U2 x0)] K=(PD (fun y0 y1=>K .ret (tq y0 y1)) x0):=by
 kernel_rfl
def PF (N:Nat) (dt:ag→V3→Option (Int)) (aQ:V3→V3→Option (Bool)) (k0:Int→Int→Option R) (k1:Int→Int→Option R) (x0:ag) (x1:V3):Option R:=
(PE dt k0 (PB (PM N aQ ((PD k1)))) x0 x1)
theorem ajP (dt) (aQ) (h40:(qe dt).holds cl) (h54:(fW aQ).holds cl) (x0 x1):exec cl N yz (j9 x0 x1) K=(PF N dt aQ (fun y0 y1=>K .ret (Gb y0 y1)) (fun y0 y1=>K .ret (tq y0 y1)) x0 x1):=by
 simp only [b6,b9,b8,ca,ajO dt h40,yy,Ly,ajL,Lx,aY,cB,ajW aQ h54,cz,cA,cy,YW,ajN]
 rfl
theorem aeP (y0 y1):ah d20 .ret (Gb y0 y1)=some [.v U2 y0,.v U2 y1]:=by kernel_rfl
theorem aeQ (y0 y1):ah d20 .ret (tq y0 y1)=some [.v U2 y0,.v U2 y1]:=by kernel_rfl
def g20 (N:Nat) (dt:ag→V3→Option (Int)) (aQ:V3→V3→Option (Bool)) (x0:ag) (x1:V3) (k:Int→Int→Option R):Option R:=
(PF N dt aQ k k x0 x1)
theorem Vt (dt) (aQ) (h40:(qe dt).holds cl) (h54:(fW aQ).holds cl) (x0 x1) (k:List E→Option R):exec cl N DB (j9 x0 x1) (fun e env=>(ah d20 e env).bind k)=g20 N dt aQ x0 x1 (fun r0 r1=>k [.v U2 r0,.v U2 r1]):=by
 simp only [DB,ajP dt aQ h40 h54,aeP,aeQ,ar]
 rfl
def FF (S:ag→V3→Option V1):aO:=dZ 20 az .str S fun b=> [.v U2 b.1,.v U2 b.2]
def iu (N:Nat) (x0:ag) (x1:V3):Option V1:=g20 N (dt N) (aQ N) x0 x1 (fun (r0:Int) (r1:Int)=>some (r0,r1))
def PT (k0:Bool→Option R) (k1:V0→V0→Option R) (x0 x1:V0):Option R:=
ad ((x0.length:Int) != (x1.length:Int)) (k0 false) (k1 x0 x1)
theorem akY (x0 x1):exec cl N yS (kc x0 x1) K=(PT (fun y0=>K .ret (iA y0)) (fun y0 y1=>exec cl N yR (mi y0 y1) K) x0 x1):=by
 delta yS
 generalize yR=q
 revert q
 refine id ?_
 intro q
 kernel_rfl
def PO (k0:V0→V0→Int→Option R) (x0 x1:V0):Option R:=
k0 x0 x1 (0:Int)
theorem akU (x0 x1):exec cl N Ml (mi x0 x1) K=(PO (fun y0 y1 y2=>K .normal (kR y0 y1 y2)) x0 x1):=by
 kernel_rfl
theorem Ro (x0 x1 x2):ak [0,1,5] (kR x0 x1 x2)=(kR x0 x1 x2):=by kernel_rfl
def PQ (k0:Bool→Option R) (k1:V0→V0→Int→Option R) (k2:V0→V0→Int→Option R) (x0 x1:V0) (x2:Int):Option R:=
ad (decide (x2 < (x0.length:Int))) (if 0≤x2∧x2 < (x0.length:Int) then
if 0≤x2∧x2 < (x1.length:Int) then
ad ((x0.getD x2.toNat (0:Int)) != (x1.getD x2.toNat (0:Int))) (k0 false) (k1 x0 x1 (IntKind.i64.wrap (x2+(1:Int))))
else none
else none) (k2 x0 x1 x2)
theorem akV (x0 x1 x2):exec cl N Ed (kR x0 x1 x2) K=(PQ (fun y0=>K .ret (mj y0)) (fun y0 y1 y2=>K .normal (kR y0 y1 y2)) (fun y0 y1 y2=>K (.exit 0) (kR y0 y1 y2)) x0 x1 x2):=by
 kernel_rfl
def Ir {R:Type} (k0:Bool→Option R) (k1:V0→V0→Int→Option R):Nat→V0→V0→Int→Option R
 | 0,_,_,_=>none
 | m+1,x0,x1,x2=>(PQ k0 (Ir k0 k1 m) k1 x0 x1 x2)
theorem abr:∀ (m) (x0 x1 x2),iter [0,1,5] (fun env K=>exec cl N Ed env K) K m (kR x0 x1 x2)=Ir (fun y0=>K .ret (mj y0)) (fun y0 y1 y2=>K (.exit 0) (kR y0 y1 y2)) m x0 x1 x2:=by
 intro m
 induction m with
 | zero=>intros; rfl
 | succ m ih=>
   intro x0 x1 x2
   simp only [ck,akV,cq,cm,ct,Ro,ih]
   rfl
theorem Zl (x0):ak [4] (mj x0)=[(4,.v .bool x0)]:=by kernel_rfl
theorem Zm (x0 x1 x2):ak [4] (kR x0 x1 x2)=[(4,.dead)]:=by kernel_rfl
def PR (N:Nat) (k0:Bool→Option R) (k1:Option R) (x0 x1:V0) (x2:Int):Option R:=
Ir k0 (fun y0 y1 y2=>k1) N x0 x1 x2
theorem akW (x0 x1 x2):exec cl N Ee (kR x0 x1 x2) K=(PR N (fun y0=>K .ret [(4,.v .bool y0)]) (K (.exit 0) [(4,.dead)]) x0 x1 x2):=by
 simp only [Ee,aY,cj,Ro,abr,Zl,Zm]
 rfl
theorem Zn (x0):ak [4] [(4,.v .bool x0)]=[(4,.v .bool x0)]:=by kernel_rfl
theorem Zo:ak [4] [(4,.dead)]=[(4,.dead)]:=by kernel_rfl
def PS (k0:Bool→Option R):Option R:=
k0 true
theorem akX:exec cl N Mo [(4,.dead)] K=(PS (fun y0=>K .ret [(4,.v .bool y0)])):=by
 kernel_rfl
def PU (N:Nat) (k0:Bool→Option R) (k1:Bool→Option R) (x0 x1:V0):Option R:=
(PT k0 (PO (PR N k1 (PS k1))) x0 x1)
theorem akZ (x0 x1):exec cl N yS (kc x0 x1) K=(PU N (fun y0=>K .ret (iA y0)) (fun y0=>K .ret [(4,.v .bool y0)]) x0 x1):=by
 simp only [b6,b9,b8,ca,akY,yR,Mn,akU,Mm,aY,cB,akW,cz,cA,cy,Zn,Zo,akX]
 rfl
theorem afb (y0):ah d53 .ret (iA y0)=some [.v .bool y0]:=by kernel_rfl
theorem afc (y0):ah d53 .ret [(4,.v .bool y0)]=some [.v .bool y0]:=by kernel_rfl
def Hq (N:Nat) (x0 x1:V0) (k:Bool→Option R):Option R:=
(PU N k k x0 x1)
theorem VF (x0 x1) (k:List E→Option R):exec cl N Ec (kc x0 x1) (fun e env=>(ah d53 e env).bind k)=Hq N x0 x1 (fun r0=>k [.v .bool r0]):=by
 simp only [Ec,akZ,afb,afc,ar]
 rfl
def qf (S:V0→V0→Option (Bool)):aO:=dZ 53 U5 U5 S fun b=> [.v .bool b]
def dB (N:Nat) (x0:V0) (x1:V0):Option (Bool):=Hq N x0 x1 (fun (r0:Bool)=>some (r0))
def Pz (k0:Bool→Option R) (k1:V7→V7→Option R) (x0 x1:V7):Option R:=
ad ((x0.length:Int) != (x1.length:Int)) (k0 false) (k1 x0 x1)
theorem ajJ (x0 x1):exec cl N yx [(0,.v U7 x0),(1,.v U7 x1)] K=(Pz (fun y0=>K .ret (iA y0)) (fun y0 y1=>exec cl N yw [(0,.v U7 y0),(1,.v U7 y1),(4,.dead)] K) x0 x1):=by
 delta yx
 generalize yw=q
 revert q
 refine id ?_
 intro q
 kernel_rfl
def Pv (k0:V7→V7→Int→Option R) (x0 x1:V7):Option R:=
k0 x0 x1 (0:Int)
theorem ajF (x0 x1):exec cl N Ls [(0,.v U7 x0),(1,.v U7 x1),(4,.dead)] K=(Pv (fun y0 y1 y2=>K .normal (kS y0 y1 y2)) x0 x1):=by
 kernel_rfl
theorem Rf (x0 x1 x2):ak [0,1,5] (kS x0 x1 x2)=(kS x0 x1 x2):=by kernel_rfl
def Pw (dB:V0→V0→Option (Bool)) (k0:Bool→Option R) (k1:V7→V7→Int→Option R) (k2:V7→V7→Int→Option R) (x0 x1:V7) (x2:Int):Option R:=
ad (decide (x2 < (x0.length:Int))) (if 0≤x2∧x2 < (x0.length:Int) then
if 0≤x2∧x2 < (x1.length:Int) then
(dB (x0.getD x2.toNat []) (x1.getD x2.toNat [])).bind fun r1456=>
ad (!r1456) (k0 false) (k1 x0 x1 (IntKind.i64.wrap (x2+(1:Int))))
else none
else none) (k2 x0 x1 x2)
theorem ajG (dB) (h53:(qf dB).holds cl) (x0 x1 x2):exec cl N Dz (kS x0 x1 x2) K=(Pw dB (fun y0=>K .ret (mj y0)) (fun y0 y1 y2=>K .normal (kS y0 y1 y2)) (fun y0 y1 y2=>K (.exit 0) (kS y0 y1 y2)) x0 x1 x2):=by
 rw [←aP h53]
 kernel_rfl
def Io {R:Type} (dB:V0→V0→Option (Bool)) (k0:Bool→Option R) (k1:V7→V7→Int→Option R):Nat→V7→V7→Int→Option R
 | 0,_,_,_=>none
 | m+1,x0,x1,x2=>(Pw dB k0 (Io dB k0 k1 m) k1 x0 x1 x2)
theorem abe (dB) (h53:(qf dB).holds cl):∀ (m) (x0 x1 x2),iter [0,1,5] (fun env K=>exec cl N Dz env K) K m (kS x0 x1 x2)=Io dB (fun y0=>K .ret (mj y0)) (fun y0 y1 y2=>K (.exit 0) (kS y0 y1 y2)) m x0 x1 x2:=by
 intro m
 induction m with
 | zero=>intros; rfl
 | succ m ih=>
   intro x0 x1 x2
   simp only [ck,ajG dB h53,cq,cm,ct,Rf,ih]
   rfl
theorem YP (x0):ak [4] (mj x0)=[(4,.v .bool x0)]:=by kernel_rfl
theorem YQ (x0 x1 x2):ak [4] (kS x0 x1 x2)=[(4,.dead)]:=by kernel_rfl
def Px (N:Nat) (dB:V0→V0→Option (Bool)) (k0:Bool→Option R) (k1:Option R) (x0 x1:V7) (x2:Int):Option R:=
Io dB k0 (fun y0 y1 y2=>k1) N x0 x1 x2
theorem ajH (dB) (h53:(qf dB).holds cl) (x0 x1 x2):exec cl N DA (kS x0 x1 x2) K=(Px N dB (fun y0=>K .ret [(4,.v .bool y0)]) (K (.exit 0) [(4,.dead)]) x0 x1 x2):=by
 simp only [DA,aY,cj,Rf,abe dB h53,YP,YQ]
 rfl
theorem YR (x0):ak [4] [(4,.v .bool x0)]=[(4,.v .bool x0)]:=by kernel_rfl
theorem YS:ak [4] [(4,.dead)]=[(4,.dead)]:=by kernel_rfl
def Py (k0:Bool→Option R):Option R:=
k0 true
theorem ajI:exec cl N Lv [(4,.dead)] K=(Py (fun y0=>K .ret [(4,.v .bool y0)])):=by
 kernel_rfl
def PA (N:Nat) (dB:V0→V0→Option (Bool)) (k0:Bool→Option R) (k1:Bool→Option R) (x0 x1:V7):Option R:=
(Pz k0 (Pv (Px N dB k1 (Py k1))) x0 x1)
theorem ajK (dB) (h53:(qf dB).holds cl) (x0 x1):exec cl N yx [(0,.v U7 x0),(1,.v U7 x1)] K=(PA N dB (fun y0=>K .ret (iA y0)) (fun y0=>K .ret [(4,.v .bool y0)]) x0 x1):=by
 simp only [b6,b9,b8,ca,ajJ,yw,Lu,ajF,Lt,aY,cB,ajH dB h53,cz,cA,cy,YR,YS,ajI]
 rfl
theorem aeN (y0):ah d19 .ret (iA y0)=some [.v .bool y0]:=by kernel_rfl
theorem aeO (y0):ah d19 .ret [(4,.v .bool y0)]=some [.v .bool y0]:=by kernel_rfl
def g19 (N:Nat) (dB:V0→V0→Option (Bool)) (x0 x1:V7) (k:Bool→Option R):Option R:=
(PA N dB k k x0 x1)
theorem Vs (dB) (h53:(qf dB).holds cl) (x0 x1) (k:List E→Option R):exec cl N Dy [(0,.v U7 x0),(1,.v U7 x1)] (fun e env=>(ah d19 e env).bind k)=g19 N dB x0 x1 (fun r0=>k [.v .bool r0]):=by
 simp only [Dy,ajK dB h53,aeN,aeO,ar]
 rfl
def FE (S:V7→V7→Option (Bool)):aO:=dZ 19 U7 U7 S fun b=> [.v .bool b]
def ir (N:Nat) (x0:V7) (x1:V7):Option (Bool):=g19 N (dB N) x0 x1 (fun (r0:Bool)=>some (r0))
def uY (k0:Bool→Option R) (k1:V0→V0→Option R) (x0 x1:V0):Option R:=
ad ((x0.length:Int) != (x1.length:Int)) (k0 false) (k1 x0 x1)
theorem ajv (x0 x1):exec cl N yu (kc x0 x1) K=(uY (fun y0=>K .ret (iA y0)) (fun y0 y1=>exec cl N yr (mi y0 y1) K) x0 x1):=by
 delta yu
 generalize yr=q
 revert q
 refine id ?_
 intro q
 kernel_rfl
def uU (k0:V0→V0→Int→Int→Option R) (x0 x1:V0):Option R:=
k0 x0 x1 (x0.length:Int) (0:Int)
theorem ajr (x0 x1):exec cl N Lg (mi x0 x1) K=(uU (fun y0 y1 y2 y3=>K .normal (kT y0 y1 y2 y3)) x0 x1):=by
 kernel_rfl
theorem Re (x0 x1 x2 x3):ak [0,1,12,13] (kT x0 x1 x2 x3)=(kT x0 x1 x2 x3):=by kernel_rfl
def uV (k0:Bool→Option R) (k1:V0→V0→Int→Int→Option R) (k2:V0→V0→Int→Int→Option R) (x0 x1:V0) (x2 x3:Int):Option R:=
ad (decide (x3 < x2)) (if 0≤x3∧x3 < (x0.length:Int) then
if 0≤x3∧x3 < (x1.length:Int) then
ad ((x0.getD x3.toNat (0:Int)) != (x1.getD x3.toNat (0:Int))) (k0 false) (k1 x0 x1 x2 (IntKind.i64.wrap (x3+(1:Int))))
else none
else none) (k2 x0 x1 x2 x3)
theorem ajs (x0 x1 x2 x3):exec cl N Dq (kT x0 x1 x2 x3) K=(uV (fun y0=>K .ret (qq y0)) (fun y0 y1 y2 y3=>K .normal (kT y0 y1 y2 y3)) (fun y0 y1 y2 y3=>K (.exit 0) (kT y0 y1 y2 y3)) x0 x1 x2 x3):=by
 kernel_rfl
def rL {R:Type} (k0:Bool→Option R) (k1:V0→V0→Int→Int→Option R):Nat→V0→V0→Int→Int→Option R
 | 0,_,_,_,_=>none
 | m+1,x0,x1,x2,x3=>(uV k0 (rL k0 k1 m) k1 x0 x1 x2 x3)
theorem abc:∀ (m) (x0 x1 x2 x3),iter [0,1,12,13] (fun env K=>exec cl N Dq env K) K m (kT x0 x1 x2 x3)=rL (fun y0=>K .ret (qq y0)) (fun y0 y1 y2 y3=>K (.exit 0) (kT y0 y1 y2 y3)) m x0 x1 x2 x3:=by
 intro m
 induction m with
 | zero=>intros; rfl
 | succ m ih=>
   intro x0 x1 x2 x3
   simp only [ck,ajs,cq,cm,ct,Re,ih]
   rfl
theorem YF (x0):ak [4] (qq x0)=[(4,.v .bool x0)]:=by kernel_rfl
theorem YG (x0 x1 x2 x3):ak [4] (kT x0 x1 x2 x3)=[(4,.dead)]:=by kernel_rfl
def uW (N:Nat) (k0:Bool→Option R) (k1:Option R) (x0 x1:V0) (x2 x3:Int):Option R:=
rL k0 (fun y0 y1 y2 y3=>k1) N x0 x1 x2 x3
theorem ajt (x0 x1 x2 x3):exec cl N Dr (kT x0 x1 x2 x3) K=(uW N (fun y0=>K .ret [(4,.v .bool y0)]) (K (.exit 0) [(4,.dead)]) x0 x1 x2 x3):=by
 simp only [Dr,aY,cj,Re,abc,YF,YG]
 rfl
theorem YH (x0):ak [4] [(4,.v .bool x0)]=[(4,.v .bool x0)]:=by kernel_rfl
theorem YI:ak [4] [(4,.dead)]=[(4,.dead)]:=by kernel_rfl
def uX (k0:Bool→Option R):Option R:=
k0 true
theorem aju:exec cl N Lj [(4,.dead)] K=(uX (fun y0=>K .ret [(4,.v .bool y0)])):=by
 kernel_rfl
def uZ (N:Nat) (k0:Bool→Option R) (k1:Bool→Option R) (x0 x1:V0):Option R:=
(uY k0 (uU (uW N k1 (uX k1))) x0 x1)
theorem ajw (x0 x1):exec cl N yu (kc x0 x1) K=(uZ N (fun y0=>K .ret (iA y0)) (fun y0=>K .ret [(4,.v .bool y0)]) x0 x1):=by
 simp only [b6,b9,b8,ca,ajv,yr,Li,ajr,Lh,aY,cB,ajt,cz,cA,cy,YH,YI,aju]
 rfl
theorem aeG (y0):ah d15 .ret (iA y0)=some [.v .bool y0]:=by kernel_rfl
theorem aeH (y0):ah d15 .ret [(4,.v .bool y0)]=some [.v .bool y0]:=by kernel_rfl
def g15 (N:Nat) (x0 x1:V0) (k:Bool→Option R):Option R:=
(uZ N k k x0 x1)
theorem Vg (x0 x1) (k:List E→Option R):exec cl N Dc (kc x0 x1) (fun e env=>(ah d15 e env).bind k)=g15 N x0 x1 (fun r0=>k [.v .bool r0]):=by
 simp only [Dc,ajw,aeG,aeH,ar]
 rfl
def Fs (S:V0→V0→Option (Bool)):aO:=dZ 15 U5 U5 S fun b=> [.v .bool b]
def gu (N:Nat) (x0:V0) (x1:V0):Option (Bool):=g15 N x0 x1 (fun (r0:Bool)=>some (r0))
def GU (dQ:ag→V3→Option pP) (gu:V0→V0→Option (Bool)) (cx:ag→V3→Option mL) (ir:V7→V7→Option (Bool)) (iu:ag→V3→Option V1) (gw:ag→V0→Option V8) (gR:Option sN) (k0:Bool→Option R) (k1:Bool→Option R):Option R:=
(gR).bind fun r1470=>
(cx r1470 ([97,114,109,97]:List UInt8)).bind fun r1471=>
(cx r1470 ([116,114,111,105,97,101]:List UInt8)).bind fun r1472=>
(dQ r1470 ([105,97,109]:List UInt8)).bind fun r1473=>
(gw r1470 [(38:Int),(40:Int),(3:Int),(23:Int),(18:Int)]).bind fun r1474=>
(iu r1470 ([97,114,109,113]:List UInt8)).bind fun r1475=>
ad (r1471.2 != (0:Int)) (k0 false) (ad (r1472.2 != (0:Int)) (k0 false) (ad (r1473.2.2 != (0:Int)) (k0 false) (ad (r1474.2 != (0:Int)) (k0 false) (ad (r1475.2 != (0:Int)) (k0 false) (ad (r1475.1 != (3:Int)) (k0 false) (ad (r1473.2.1 != (1:Int)) (k0 false) ((ir r1471.1 [[(0:Int),(40:Int),(41:Int),(0:Int)]]).bind fun r1483=>
ad r1483 ((ir r1472.1 [[(38:Int),(40:Int),(3:Int),(23:Int),(18:Int)],[(38:Int),(40:Int),(3:Int),(2:Int),(18:Int)],[(38:Int),(40:Int),(3:Int),(23:Int),(0:Int),(1:Int)],[(38:Int),(40:Int),(3:Int),(2:Int),(0:Int),(1:Int)]]).bind fun r1484=>
ad r1484 ((gu r1473.1 [(22:Int),(0:Int),(41:Int)]).bind fun r1485=>
ad r1485 ((gu r1474.1 [(0:Int),(1:Int),(2:Int),(3:Int),(3:Int),(4:Int)]).bind fun r1486=>
k1 r1486) (k1 false)) (k1 false)) (k1 false))))))))
theorem ah7 (dQ) (gu) (cx) (ir) (iu) (gw) (gR) (h13:(tf dQ).holds cl) (h15:(Fs gu).holds cl) (h16:(nZ cx).holds cl) (h19:(FE ir).holds cl) (h20:(FF iu).holds cl) (h24:(FG gw).holds cl) (h37:(zO gR).holds cl):exec cl N Kf [] K=(GU dQ gu cx ir iu gw gR (fun y0=>K .ret (Ol y0)) (fun y0=>K .ret [(0,.v .bool y0)])):=by
 rw [←aP h13]
 rw [←aP h15]
 rw [←aP h16]
 rw [←aP h19]
 rw [←aP h20]
 rw [←aP h24]
 rw [←aP h37]
 kernel_rfl
theorem ad1 (y0):ah d11 .ret (Ol y0)=some [.v .bool y0]:=by kernel_rfl
theorem ad2 (y0):ah d11 .ret [(0,.v .bool y0)]=some [.v .bool y0]:=by kernel_rfl
def g11 (dQ:ag→V3→Option pP) (gu:V0→V0→Option (Bool)) (cx:ag→V3→Option mL) (ir:V7→V7→Option (Bool)) (iu:ag→V3→Option V1) (gw:ag→V0→Option V8) (gR:Option sN) (k:Bool→Option R):Option R:=
(GU dQ gu cx ir iu gw gR k k)
theorem UC (dQ) (gu) (cx) (ir) (iu) (gw) (gR) (h13:(tf dQ).holds cl) (h15:(Fs gu).holds cl) (h16:(nZ cx).holds cl) (h19:(FE ir).holds cl) (h20:(FF iu).holds cl) (h24:(FG gw).holds cl) (h37:(zO gR).holds cl) (k:List E→Option R):exec cl N Cb [] (fun e env=>(ah d11 e env).bind k)=g11 dQ gu cx ir iu gw gR (fun r0=>k [.v .bool r0]):=by
 simp only [Cb,ah7 dQ gu cx ir iu gw gR h13 h15 h16 h19 h20 h24 h37,ad1,ad2,ar]
 rfl
def zD (S:Option (Bool)):aO:={A:=Unit,B:=Bool,f:=11,enc:=fun a=> [],dec:=bY,S:=fun a=>S,au:=fun b=> [.v .bool b],ok:=(fun es b h=>iW h)}
def fT (N:Nat):Option (Bool):=g11 (dQ N) (gu N) (cx N) (ir N) (iu N) (gw N) (gR N) (fun (r0:Bool)=>some (r0))
def Hl (cx:ag→V3→Option mL) (k0:Int→Int→Option R) (x0:ag) (x1:V3):Option R:=
(cx x0 x1).bind fun r1499=>
k0 (r1499.1.length:Int) r1499.2
theorem ajE (cx) (h16:(nZ cx).holds cl) (x0 x1):exec cl N Lr (j9 x0 x1) K=(Hl cx (fun y0 y1=>K .ret (tq y0 y1)) x0 x1):=by
 rw [←aP h16]
 kernel_rfl
theorem aeM (y0 y1):ah d18 .ret (tq y0 y1)=some [.v U2 y0,.v U2 y1]:=by kernel_rfl
def g18 (cx:ag→V3→Option mL) (x0:ag) (x1:V3) (k:Int→Int→Option R):Option R:=
(Hl cx k x0 x1)
theorem Vr (cx) (h16:(nZ cx).holds cl) (x0 x1) (k:List E→Option R):exec cl N Dx (j9 x0 x1) (fun e env=>(ah d18 e env).bind k)=g18 cx x0 x1 (fun r0 r1=>k [.v U2 r0,.v U2 r1]):=by
 simp only [Dx,ajE cx h16,aeM,ar]
 rfl
def FC (S:ag→V3→Option V1):aO:=dZ 18 az .str S fun b=> [.v U2 b.1,.v U2 b.2]
def gQ (N:Nat) (x0:ag) (x1:V3):Option V1:=g18 (cx N) x0 x1 (fun (r0:Int) (r1:Int)=>some (r0,r1))
def HA (fT:Option (Bool)) (dQ:ag→V3→Option pP) (gQ:ag→V3→Option V1) (k0:Bool→Option R) (k1:Bool→Option R) (k2:Bool→Option R) (x0 x1:Int):Option R:=
let v1514:Int:=(IntKind.i64.wrap ((1:Int)+(Int.tmod (IntKind.i64.wrap x0) (16:Int))))
(fT).bind fun r1515=>
ad (!r1515) ((fT).bind fun r1516=>
k0 r1516) (ad (decide (x1 > (99:Int))) ((fT).bind fun r1518=>
k0 r1518) (let v1524:ag:=(([111]:List UInt8),[(([97]:List UInt8),[((1:Int),(3:Int),([97]:List UInt8),())],(0:Int),(0:Int),()),(([97]:List UInt8),[((3:Int),(0:Int),([97]:List UInt8),())],(IntKind.i64.wrap x1),(0:Int),())],())
if 0≤(0:Int)∧(0:Int)≤v1514∧v1514≤(([97,97,97,97,97,97,97,97,97,97,97,97,97,97,97,97]:List UInt8).length:Int) then
let v1525:V3:=((([97,97,97,97,97,97,97,97,97,97,97,97,97,97,97,97]:List UInt8).drop (0:Int).toNat).take (v1514.toNat - (0:Int).toNat))
(gQ v1524 v1525).bind fun r1526=>
ad (decide (v1514 > (7:Int))) (ad (r1526.2==(3:Int)) (k1 (r1526.1==(0:Int))) (k1 false)) ((dQ v1524 v1525).bind fun r1530=>
ad (r1526.2==(0:Int)) (if 0≤v1514 then
ad (r1526.1==(nE true IntKind.i64 (1:Int) v1514)) (ad (r1530.2.2==(0:Int)) (ad (r1530.2.1==(0:Int)) (ad ((r1530.1.length:Int)==v1514) (if 0≤(0:Int)∧(0:Int) < (r1530.1.length:Int) then
k2 ((r1530.1.getD (0:Int).toNat (0:Int))==(0:Int))
else none) (k2 false)) (k2 false)) (k2 false)) (k2 false)
else none) (k2 false))
else none))
theorem alB (fT) (dQ) (gQ) (h11:(zD fT).holds cl) (h13:(tf dQ).holds cl) (h18:(FC gQ).holds cl) (x0 x1):exec cl N MT [(0,.v U0 x0),(1,.v U0 x1)] K=(HA fT dQ gQ (fun y0=>K .ret [(1,.dead),(4,.v .bool y0),(5,.dead)]) (fun y0=>K .ret (Om y0)) (fun y0=>K .ret [(4,.v .bool y0)]) x0 x1):=by
 rw [←aP h11]
 rw [←aP h13]
 rw [←aP h18]
 kernel_rfl
theorem afs (y0):ah d6 .ret [(1,.dead),(4,.v .bool y0),(5,.dead)]=some [.v .bool y0]:=by kernel_rfl
theorem aft (y0):ah d6 .ret (Om y0)=some [.v .bool y0]:=by kernel_rfl
theorem afu (y0):ah d6 .ret [(4,.v .bool y0)]=some [.v .bool y0]:=by kernel_rfl
def g6 (fT:Option (Bool)) (dQ:ag→V3→Option pP) (gQ:ag→V3→Option V1) (x0 x1:Int) (k:Bool→Option R):Option R:=
(HA fT dQ gQ k k k x0 x1)
theorem VJ (fT) (dQ) (gQ) (h11:(zD fT).holds cl) (h13:(tf dQ).holds cl) (h18:(FC gQ).holds cl) (x0 x1) (k:List E→Option R):exec cl N c6 [(0,.v U0 x0),(1,.v U0 x1)] (fun e env=>(ah d6 e env).bind k)=g6 fT dQ gQ x0 x1 (fun r0=>k [.v .bool r0]):=by
 simp only [c6,alB fT dQ gQ h11 h13 h18,afs,aft,afu,ar]
 rfl
def anS (S:Int→Int→Option (Bool)):aO:=dZ 6 U0 U0 S fun b=> [.v .bool b]
def S6 (N:Nat) (x0:Int) (x1:Int):Option (Bool):=g6 (fT N) (dQ N) (gQ N) x0 x1 (fun (r0:Bool)=>some (r0))
end Go.Fw.L19
